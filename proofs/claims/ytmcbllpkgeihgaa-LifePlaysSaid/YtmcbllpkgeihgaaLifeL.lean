-- Package life: the life of a fetch.
import Derived.Test.YtmcbllpkgeihgaaLife
import Derived.Laws.LoneSync
namespace Go.Proofs.Ytmcbllpkgeihgaa
open Go.RowKit Go.Lk
set_option linter.unusedVariables false
set_option linter.unusedSimpArgs false
theorem int64_store (a : Addr) (x y : Int) (w : World) (hc : w.cell? a = some (.int .i64 x)) (hz : w.frozen? a = false) :
    Calls Try.prog 56 #[.pointer (some a), .int .i64 y] w fun e w' => e = .returned (.tuple #[]) ∧ ∃ n, w' = (w.drewN n).setCell a (.int .i64 y) := by
  have hst := fun (w : World) (h1 : w.cell? a = some (.int .i64 x)) (h2 : w.frozen? a = false) => run_call_store (P := Try.prog) Try.func61 (by kernel_rfl) (by kernel_rfl) (by kernel_rfl) (by kernel_rfl) (k := .i64) (y := y) h1 h2
  have hst0 := hst w hc hz
  have hst1 := hst w.drew (by go_simp) (by go_simp)
  clear hst
  go_enter Try.func56, Try.ntmps56
  go_wp2
  try go_region_calls
  all_goals (first | go_end0 | skip)
  all_goals first | exact ⟨rfl, 0, rfl⟩ | exact ⟨rfl, 1, rfl⟩
theorem int64_load (a : Addr) (x : Int) (w : World) (hc : w.cell? a = some (.int .i64 x)) :
    Calls Try.prog 59 #[.pointer (some a)] w fun e w' => e = .returned (.int .i64 x) ∧ w = w' := by
  have hl := run_call_load (P := Try.prog) Try.func64 (by kernel_rfl) (by kernel_rfl) (by kernel_rfl) .i64 (by kernel_rfl) hc
  go_enter Try.func59, Try.ntmps59
  go_wp2
  go_ret
  exact ⟨rfl, rfl⟩
/-- A life at block lb. -/
structure LifeAt (w : World) (lb : Nat) (st ends done : Int) : Prop where
  hb : w.heap[lb]? = some (.cells #[.int .i64 st, .int .i64 ends, .int .u32 done, .int .i32 0, .int .u32 0] 87 (0, 0))
theorem LifeAt.upd {w w' : World} {lb : Nat} {st ends done : Int} {F : List Nat} (h : LifeAt w lb st ends done) (hu : Upd F w w') (h1 : lb ∉ F) : LifeAt w' lb st ends done := ⟨(hu.block lb (lt_of_block h.hb) h1).trans h.hb⟩
theorem LifeAt.drewN {w : World} {lb : Nat} {st ends done : Int} (h : LifeAt w lb st ends done) (k : Nat) : LifeAt (w.drewN k) lb st ends done := ⟨h.hb⟩
theorem life_state {w : World} {lb : Nat} {st ends done : Int} (h : LifeAt w lb st ends done) :
    Calls Try.prog 45 #[.pointer (some ⟨lb, 0, none⟩)] w fun e w' => e = .returned (.int .i64 st) ∧ w = w' := by
  have c0 : w.cell? ⟨lb, 0, none⟩ = _ := cell_of (i := 0) h.hb rfl
  go_enter Try.func45, Try.ntmps45
  go_wp2_with (go_at_call 59; refine (int64_load _ st _ c0).mono ?_; rintro e w' ⟨rfl, rfl⟩)
  go_ret
  exact ⟨rfl, rfl⟩
theorem life_ends {w : World} {lb : Nat} {st ends done : Int} (h : LifeAt w lb st ends done) :
    Calls Try.prog 46 #[.pointer (some ⟨lb, 0, none⟩)] w fun e w' => e = .returned (.int .i64 ends) ∧ w = w' := by
  have c0 : w.cell? ⟨lb, 1, none⟩ = _ := cell_of (i := 1) h.hb rfl
  go_enter Try.func46, Try.ntmps46
  go_wp2
  go_ret
  exact ⟨rfl, rfl⟩
/-- The state that a life begins in. -/
def first (s : Int) : Int := if 1 ≤ s ∧ s ≤ 10 then s else 1
theorem nameOf_eq (s : Int) : (nameOf s).toList.isEmpty = !(decide (1 ≤ s ∧ s ≤ 10)) := by
  by_cases h : s < 1 ∨ 10 < s
  · rw [nameOf_out h]; have : ¬ (1 ≤ s ∧ s ≤ 10) := by omega
    rw [decide_eq_false this]
    have e : (⟨#[]⟩ : ByteArray).toList.isEmpty = true := by kernel_rfl
    rw [e]; rfl
  · rcases (show s = 1 ∨ s = 2 ∨ s = 3 ∨ s = 4 ∨ s = 5 ∨ s = 6 ∨ s = 7 ∨ s = 8 ∨ s = 9 ∨ s = 10 by omega) with rfl | rfl | rfl | rfl | rfl | rfl | rfl | rfl | rfl | rfl <;> kernel_rfl
theorem life_new (s : Int) (w : World) :
    Calls Try.prog 42 #[.int .i64 s] w fun e w' => ∃ lb, e = .returned (.pointer (some ⟨lb, 0, none⟩)) ∧ LifeAt w' lb (first s) 0 0 ∧ Upd [] w w' ∧ w.heap.size ≤ lb := by
  have hn := nameOf_eq s
  by_cases h : 1 ≤ s ∧ s ≤ 10
  case' pos => obtain ⟨t, ht⟩ : ∃ t, t = s := ⟨_, rfl⟩
  case' neg => obtain ⟨t, ht⟩ : ∃ t, t = (1 : Int) := ⟨_, rfl⟩
  all_goals (
    have hf : first s = t := by unfold first; simp [h, ht]
    rw [hf]
    have hn' := hn
    first | rw [decide_eq_true h] at hn' | rw [decide_eq_false h] at hn'
    simp only [Bool.not_true, Bool.not_false] at hn'
    have HT := Lib.hid ht; have HN := Lib.hid hn'
    clear hn hf ht hn'
    go_enter Try.func42, Try.ntmps42
    go_wp2_with fail
    refine (life_name s _).mono ?_
    rintro e w1 ⟨rfl, hu⟩
    have HU := Lib.hid hu; clear hu
    generalize nameOf s = nm at *
    have hn' := HN.out
    go_wp2_with fail
    refine (int64_store _ 0 _ _ (cell_of (i := 0) (heap_alloc_self _) rfl) (free_of (heap_alloc_self _))).mono ?_
    rintro e w2 ⟨rfl, nd, rfl⟩
    go_wp2_with fail
    go_ret
    refine ⟨_, rfl, ⟨?_⟩, ((HU.out.alloc _).drewN nd).setCell (.inl HU.out.size) _, HU.out.size⟩
    have ht := HT.out
    subst ht
    exact (heap_setCell_self (w := (w1.alloc _).drewN nd) (heap_alloc_self _) _).trans rfl)
/-- What Go's function does. -/
theorem life_go1 (w : World) (lb pl : Nat) (x0 e1 x2 x3 x4 : Value) (ends : Int) (he : e1 = .int .i64 ends) (hends : IntKind.i64.wrap (ends + 1) = ends + 1)
    (hs : w.heap[lb]? = some (.cells #[x0, .int .i64 ends, x2, x3, x4] 87 (0, 0))) (hp : w.heap[pl]? = some (.cells #[.pointer (some ⟨lb, 0, none⟩)] 52 (0, 0))) :
    Calls Try.prog 58 #[.pointer (some ⟨pl, 0, none⟩)] w fun e w' => e = .returned (.tuple #[]) ∧
      (w'.heap[lb]? = some (.cells #[x0, .int .i64 (ends + 1), x2, x3, x4] 87 (0, 0)) ∧ Upd [lb] w w') := by
  have c0 : w.cell? ⟨pl, 0, none⟩ = _ := cell_of (i := 0) hp rfl
  have c1 : w.cell? ⟨lb, 1, none⟩ = _ := cell_of (i := 1) hs rfl
  have f1 : w.frozen? ⟨lb, 1, none⟩ = false := free_of hs
  go_enter Try.func58, Try.ntmps58
  go_wp2
  go_end0
  refine ⟨rfl, ?_, (Upd.refl _ _).setCell (.inr (by simp)) _⟩
  rw [heap_setCell_self hs]; rfl
set_option maxRecDepth 100000 in
set_option maxHeartbeats 1600000 in
theorem life_go {w : World} {lb : Nat} {st ends done : Int} (h : LifeAt w lb st ends done) (hd : done = 0 ∨ done = 1) (hw : IntKind.i64.wrap (ends + 1) = ends + 1) (to : Int) :
    Calls Try.prog 44 #[.pointer (some ⟨lb, 0, none⟩), .int .i64 to] w fun e w' => e = .returned (.bool (may st to)) ∧
      LifeAt w' lb (if may st to then to else st) (if may st to && over to && decide (done = 0) then ends + 1 else ends) (if may st to && over to then 1 else done) ∧ Upd [lb] w w' := by
  have hmf : ∀ (fn : Fn) (first cap : Array Value) (w : World), (Instr.makeFunc fn first cap).run Try.prog w = .ok (.func fn first cap) w := fun _ _ _ _ => rfl
  have lts := lt_of_block h.hb
  obtain ⟨mm, hmm⟩ : ∃ mm, mm = may st to := ⟨_, rfl⟩
  obtain ⟨oo, hoo⟩ : ∃ oo, oo = over to := ⟨_, rfl⟩
  rw [← hmm, ← hoo]
  have HM := Lib.hid hmm; have HO := Lib.hid hoo; have HW := Lib.hid hw; clear hmm hoo hw
  go_enter Try.func44, Try.ntmps44
  go_wp2_with fail
  have u0 : Upd [] w (w.alloc (.cells #[.pointer (some ⟨lb, 0, none⟩)] 52)) := (Upd.refl _ _).alloc _
  have h0 := h.upd u0 (by simp)
  have hps : (w.alloc (.cells #[.pointer (some ⟨lb, 0, none⟩)] 52)).heap[w.heap.size]? = some (.cells #[.pointer (some ⟨lb, 0, none⟩)] 52 (0, 0)) := heap_alloc_self _
  generalize w.alloc (.cells #[.pointer (some ⟨lb, 0, none⟩)] 52) = W at *
  have H0 := Lib.hid h0; have U0 := Lib.hid u0; have HP := Lib.hid hps
  have dd : W.cell? ⟨w.heap.size, 0, none⟩ = _ := cell_of (i := 0) hps rfl
  clear h0 u0 hps h
  refine (life_state H0.out).mono ?_
  rintro e w1 ⟨rfl, rfl⟩
  go_wp2_with fail
  refine (life_may st to _).mono ?_
  rintro e w1 ⟨rfl, rfl⟩
  rw [← HM.out]
  cases mm
  case false =>
    go_wp2_with fail
    go_ret
    exact ⟨rfl, by simpa using H0.out, U0.out.weaken (by simp)⟩
  case true =>
    go_wp2_with fail
    refine (int64_store _ _ to _ (cell_of (i := 0) H0.out.hb rfl) (free_of H0.out.hb)).mono ?_
    rintro e w2 ⟨rfl, nd, rfl⟩
    have h2 : ((W.drewN nd).setCell ⟨lb, 0, none⟩ (.int .i64 to)).heap[lb]? = some (.cells #[.int .i64 to, .int .i64 ends, .int .u32 done, .int .i32 0, .int .u32 0] 87 (0, 0)) := (heap_setCell_self (w := W.drewN nd) H0.out.hb _).trans rfl
    have u2 : Upd [lb] w ((W.drewN nd).setCell ⟨lb, 0, none⟩ (.int .i64 to)) := ((U0.out.weaken (G := [lb]) (by simp)).drewN nd).setCell (.inr (by simp)) _
    have p2 : ((W.drewN nd).setCell ⟨lb, 0, none⟩ (.int .i64 to)).heap[w.heap.size]? = some (.cells #[.pointer (some ⟨lb, 0, none⟩)] 52 (0, 0)) := (heap_setCell_ne _ (by simp; omega)).trans HP.out
    have d0 : ((W.drewN nd).setCell ⟨lb, 0, none⟩ (.int .i64 to)).cell? ⟨w.heap.size, 0, none⟩ = _ := cell_of (i := 0) p2 rfl
    generalize (W.drewN nd).setCell ⟨lb, 0, none⟩ (.int .i64 to) = W2 at *
    have H2 := Lib.hid h2; have U2 := Lib.hid u2; have P2 := Lib.hid p2
    clear h2 u2 p2 H0 U0 HP dd
    go_wp2_with fail
    refine (life_over to _).mono ?_
    rintro e w1 ⟨rfl, rfl⟩
    rw [← HO.out]
    cases oo
    case false =>
      go_wp2_with fail
      go_ret
      exact ⟨rfl, ⟨by simpa using H2.out⟩, U2.out⟩
    case true =>
      go_wp2_with fail
      rcases hd with rfl | rfl
      · have hl := (heap_setCell_self (w := W2) H2.out (i := 3) (.int .i32 1)).trans rfl
        have key := life_go1 (W2.setCell ⟨lb, 3, none⟩ (.int .i32 1)) lb w.heap.size (.int .i64 to) _ (.int .u32 0) (.int .i32 1) (.int .u32 0) ends rfl HW.out ((heap_setCell_self (w := W2) H2.out (i := 3) (.int .i32 1)).trans rfl) ((heap_setCell_ne _ (by simp; omega)).trans P2.out)
        refine (once_do_first lb 2 58 #[.pointer (some ⟨w.heap.size, 0, none⟩)] W2 _ (cell_of (i := 2) H2.out rfl) (cell_of (i := 3) H2.out rfl) (free_of H2.out) (free_of H2.out)
          (fun W => Go.MuLone.run_callFunc_enter Try.func58 (by kernel_rfl) rfl _ _) key (fun w' hp => ⟨cell_of (i := 2) hp.1 rfl, cell_of (i := 3) hp.1 rfl, free_of hp.1, free_of hp.1⟩)).mono ?_
        rintro e w3 ⟨rfl, w2, ⟨p1, p2⟩, rfl⟩
        have P1 := Lib.hid p1; have PU := Lib.hid p2
        clear p1 p2 key
        go_wp2_with fail
        go_ret
        refine ⟨rfl, ⟨?_⟩, ?_⟩
        · exact (heap_setCell_self (heap_setCell_self (show w2.drew.heap[lb]? = _ from P1.out) _) _).trans rfl
        · exact ((((U2.out.setCell (.inr (by simp)) _).trans PU.out (by simp)).drew.setCell (.inr (by simp)) _).setCell (.inr (by simp)) _)
      · refine (once_do_done ⟨lb, 2, none⟩ 1 rfl _ _ (cell_of (i := 2) H2.out rfl)).mono ?_
        rintro e w3 ⟨rfl, rfl⟩
        go_wp2_with fail
        go_ret
        exact ⟨rfl, ⟨by simpa using H2.out⟩, U2.out⟩
end Go.Proofs.Ytmcbllpkgeihgaa
