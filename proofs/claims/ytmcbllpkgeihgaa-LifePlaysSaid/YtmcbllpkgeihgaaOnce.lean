-- sync.Once in one goroutine: Do calls its function the first time, and never again. Whatever the function does (its contract is handed in).
import Derived.Test.YtmcbllpkgeihgaaBase
import Derived.Test.YtmcbllpkgeihgaaProg
import Derived.Defers
import Derived.Laws.Pointers
import Derived.Laws.LoneSync
import Derived.RegionTactic
import Derived.RegionCalls
import Derived.ChangeAlike
import Derived.Outline
namespace Go.Proofs.Ytmcbllpkgeihgaa
open Go.RowKit Go.Lk
set_option linter.unusedVariables false
set_option linter.unusedSimpArgs false
theorem once_disable (w : World) : (callFunc 73 #[]).run Try.prog w = .ok (.value (.tuple #[])) w := run_call_mark0 Try.func73 (by kernel_rfl) (by kernel_rfl) (by kernel_rfl) .disable (by kernel_rfl) w
theorem once_enable (w : World) : (callFunc 75 #[]).run Try.prog w = .ok (.value (.tuple #[])) w := run_call_mark0 Try.func75 (by kernel_rfl) (by kernel_rfl) (by kernel_rfl) .enable (by kernel_rfl) w
theorem once_acquire (a : Addr) (w : World) : (callFunc 76 #[.pointer (some a)]).run Try.prog w = .ok (.value (.tuple #[])) w := run_call_marked Try.func76 (by kernel_rfl) (by kernel_rfl) (by kernel_rfl) .acquire (by kernel_rfl) a w
theorem once_releaseMerge (a : Addr) (w : World) : (callFunc 78 #[.pointer (some a)]).run Try.prog w = .ok (.value (.tuple #[])) w := run_call_marked Try.func78 (by kernel_rfl) (by kernel_rfl) (by kernel_rfl) .releaseMerge (by kernel_rfl) a w
theorem once_store_deferred (a : Addr) (x : Value) (u : FrameMode) (w : World) (hc : w.cell? a = some x) (hz : w.frozen? a = false) :
    CallsD Try.prog 68 #[.pointer (some a), .bool true] u w fun e u' w' => u' = u ∧ (e = .returned (.tuple #[]) ∧ w' = w.drew.setCell a (.int .u32 1)) := by
  have hc' : w.drew.cell? a = some x := by go_simp
  have hz' : w.drew.frozen? a = false := by go_simp
  have hst := run_call_store (P := Try.prog) Try.func71 (by kernel_rfl) (by kernel_rfl) (by kernel_rfl) (by kernel_rfl) (k := .u32) (y := 1) hc' hz'
  go_enter_d Try.func68, Try.ntmps68
  go_wp2
  go_region_calls
  all_goals (go_end0; exact ⟨rfl, rfl⟩)
set_option maxRecDepth 100000 in
theorem once_unlock_deferred (a : Addr) (u : FrameMode) (w : World) (hc : w.cell? a = some (.int .i32 1)) (hz : w.frozen? a = false) :
    CallsD Try.prog 67 #[.pointer (some a)] u w fun e u' w' => u' = u ∧ (e = .returned (.tuple #[]) ∧ w' = w.setCell a (.int .i32 0)) := by
  have hd := once_disable
  have he := once_enable
  have hr := once_releaseMerge
  have hadd := run_call_add (P := Try.prog) Try.func79 (by kernel_rfl) (by kernel_rfl) (by kernel_rfl) .i32 (by kernel_rfl) (y := -1) (s := 0) hc hz (by simp [go_sem]; rfl)
  have hcv := run_convert_to_unsafe (P := Try.prog) (src := 103) (dst := 107) Try.underlying103 Try.underlying107 (by kernel_rfl) hc
  go_enter_d Try.func67, Try.ntmps67
  go_wp2
  go_end0
  go_wp2
  go_end0
  exact ⟨rfl, rfl⟩
set_option maxRecDepth 100000 in
theorem once_lock (a : Addr) (w : World) (hc : w.cell? a = some (.int .i32 0)) (hz : w.frozen? a = false) :
    Calls Try.prog 66 #[.pointer (some a)] w fun e w' => e = .returned (.tuple #[]) ∧ w' = w.setCell a (.int .i32 1) := by
  have hd := once_disable
  have he := once_enable
  have ha := once_acquire
  have hcas := run_call_cas_hit (P := Try.prog) Try.func74 (by kernel_rfl) (by kernel_rfl) (by kernel_rfl) .i32 (by kernel_rfl) (y := 1) hc hz
  have hc' : (w.setCell a (.int .i32 1)).cell? a = some (.int .i32 1) := World.cell?_setCell_same w a _ hc
  have hcv := run_convert_to_unsafe (P := Try.prog) (src := 103) (dst := 107) Try.underlying103 Try.underlying107 (by kernel_rfl) hc'
  go_enter Try.func66, Try.ntmps66
  go_wp2
  first | go_end0 | (simp only [Exit.inBlock, Exit.then]; refine bodyPost_ret (results_none rfl _ _ _) rfl ?_) | refine bodyPost_ret (results_none rfl _ _ _) rfl ?_
  go_wp2
  go_end0
  exact ⟨rfl, rfl⟩
set_option maxRecDepth 100000 in
set_option maxHeartbeats 1600000 in
/-- The slow road, not yet done and the lock free: 'Post' is what the function leaves. -/
theorem once_slow (b off : Nat) (g : FuncId) (caps : Array Value) (w : World) (Post : World → Prop)
    (h0 : w.cell? ⟨b, off, none⟩ = some (.int .u32 0)) (h1 : w.cell? ⟨b, off + 1, none⟩ = some (.int .i32 0))
    (f0 : w.frozen? ⟨b, off, none⟩ = false) (f1 : w.frozen? ⟨b, off + 1, none⟩ = false)
    (hg : ∀ W, (callFunc g caps).run Try.prog W = .ok (.enter g caps) W)
    (hf : Calls Try.prog g caps (w.setCell ⟨b, off + 1, none⟩ (.int .i32 1)) fun e w' => e = .returned (.tuple #[]) ∧ Post w')
    (hp : ∀ w', Post w' → w'.cell? ⟨b, off, none⟩ = some (.int .u32 0) ∧ w'.cell? ⟨b, off + 1, none⟩ = some (.int .i32 1) ∧ w'.frozen? ⟨b, off, none⟩ = false ∧ w'.frozen? ⟨b, off + 1, none⟩ = false) :
    Calls Try.prog 63 #[.pointer (some ⟨b, off, none⟩), .func (.func g) #[] caps] w fun e w'' => e = .returned (.tuple #[]) ∧
      ∃ w', Post w' ∧ w'' = (w'.drew.setCell ⟨b, off, none⟩ (.int .u32 1)).setCell ⟨b, off + 1, none⟩ (.int .i32 0) := by
  have hl := run_call_load (P := Try.prog) Try.func65 (by kernel_rfl) (by kernel_rfl) (by kernel_rfl) .u32 (by kernel_rfl) (w := w.setCell ⟨b, off + 1, none⟩ (.int .i32 1)) (a := ⟨b, off, none⟩) (x := 0) ((World.cell?_setCell_other _ ⟨b, off + 1, none⟩ ⟨b, off, none⟩ _ (by simp)).trans h0)
  have hnot : ∀ (x : Bool) (w : World), (Op.unary .not (.bool x)).run Try.prog w = .ok (.bool (!x)) w := fun _ _ => rfl
  have HF := Lib.hid hf; have HP := Lib.hid hp; clear hf hp
  go_enter_defers Try.func63, Try.ntmps63
  go_wp2_with (go_at_call 66; refine (once_lock ⟨b, off + 1, none⟩ _ (by go_simp) (by go_simp)).mono ?_; rintro e w' ⟨rfl, rfl⟩)
  go_wp2_with (go_at_call 62; go_in)
  refine HF.out.mono ?_
  rintro e w2 ⟨rfl, hpost⟩
  obtain ⟨p0, p1, q0, q1⟩ := HP.out w2 hpost
  have HPO := Lib.hid hpost; clear hpost
  go_wp2
  refine leaves_cons (f := 68) (args := #[.pointer (some ⟨b, off, none⟩), .bool true]) (by simp) (by simp [go_sem]) ?_
  refine (once_store_deferred ⟨b, off, none⟩ (.int .u32 0) .returning _ p0 q0).mono ?_
  rintro e u' w'' ⟨rfl, rfl, rfl⟩
  refine leaves_cons (f := 67) (args := #[.pointer (some ⟨b, off + 1, none⟩)]) (by simp [settle]) (by simp [go_sem]) ?_
  refine (once_unlock_deferred ⟨b, off + 1, none⟩ _ _ ?_ (by simp [q1])).mono ?_
  · refine (World.cell?_setCell_other _ ⟨b, off, none⟩ ⟨b, off + 1, none⟩ _ (by simp)).trans ?_
    rw [World.cell?_drew]
    exact p1
  rintro e u' w'' ⟨rfl, rfl, rfl⟩
  simp [Leaves, settle, results, Try.results63]
  exact ⟨w2, HPO.out, rfl⟩
set_option maxRecDepth 100000 in
set_option maxHeartbeats 1600000 in
theorem once_do_first (b off : Nat) (g : FuncId) (caps : Array Value) (w : World) (Post : World → Prop)
    (h0 : w.cell? ⟨b, off, none⟩ = some (.int .u32 0)) (h1 : w.cell? ⟨b, off + 1, none⟩ = some (.int .i32 0))
    (f0 : w.frozen? ⟨b, off, none⟩ = false) (f1 : w.frozen? ⟨b, off + 1, none⟩ = false)
    (hg : ∀ W, (callFunc g caps).run Try.prog W = .ok (.enter g caps) W)
    (hf : Calls Try.prog g caps (w.setCell ⟨b, off + 1, none⟩ (.int .i32 1)) fun e w' => e = .returned (.tuple #[]) ∧ Post w')
    (hp : ∀ w', Post w' → w'.cell? ⟨b, off, none⟩ = some (.int .u32 0) ∧ w'.cell? ⟨b, off + 1, none⟩ = some (.int .i32 1) ∧ w'.frozen? ⟨b, off, none⟩ = false ∧ w'.frozen? ⟨b, off + 1, none⟩ = false) :
    Calls Try.prog 57 #[.pointer (some ⟨b, off, none⟩), .func (.func g) #[] caps] w fun e w'' => e = .returned (.tuple #[]) ∧
      ∃ w', Post w' ∧ w'' = (w'.drew.setCell ⟨b, off, none⟩ (.int .u32 1)).setCell ⟨b, off + 1, none⟩ (.int .i32 0) := by
  have hl := run_call_load (P := Try.prog) Try.func65 (by kernel_rfl) (by kernel_rfl) (by kernel_rfl) .u32 (by kernel_rfl) h0
  have hnot : ∀ (x : Bool) (w : World), (Op.unary .not (.bool x)).run Try.prog w = .ok (.bool (!x)) w := fun _ _ => rfl
  have HS := Lib.hid (once_slow b off g caps w Post h0 h1 f0 f1 hg hf hp); clear hf hp
  go_enter Try.func57, Try.ntmps57
  go_wp2_with (go_at_call 62; go_in)
  refine HS.out.mono ?_
  rintro e w2 ⟨rfl, hx⟩
  have HX := Lib.hid hx; clear hx
  go_wp2
  go_end0
  exact ⟨rfl, HX.out⟩
theorem once_do_done (a : Addr) (d : Int) (hd : d = 1) (fv : Value) (w : World) (h0 : w.cell? a = some (.int .u32 d)) :
    Calls Try.prog 57 #[.pointer (some a), fv] w fun e w' => e = .returned (.tuple #[]) ∧ w = w' := by
  subst hd
  have hl := run_call_load (P := Try.prog) Try.func65 (by kernel_rfl) (by kernel_rfl) (by kernel_rfl) .u32 (by kernel_rfl) h0
  have hnot : ∀ (x : Bool) (w : World), (Op.unary .not (.bool x)).run Try.prog w = .ok (.bool (!x)) w := fun _ _ => rfl
  go_enter Try.func57, Try.ntmps57
  go_wp2
  go_end0
  exact ⟨rfl, rfl⟩
end Go.Proofs.Ytmcbllpkgeihgaa
