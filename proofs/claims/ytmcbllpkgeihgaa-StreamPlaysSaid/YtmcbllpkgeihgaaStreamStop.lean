-- Stop of a stream.
import Derived.Test.YtmcbllpkgeihgaaStream
import Derived.Test.YtmcbllpkgeihgaaOnce
import Derived.Conc.MuLone
namespace Go.Proofs.Ytmcbllpkgeihgaa
open Go.RowKit Go.Lk
set_option linter.unusedSimpArgs false
set_option linter.unusedVariables false
set_option maxRecDepth 100000 in
theorem strm_stop1 (w : World) (sb b rb S ps pd : Nat) (high low state : Int) (paused : Bool) (x5 x6 x7 : Value) (q : List UInt8)
    (hs : w.heap[sb]? = some (.cells #[.pointer (some ⟨b, 0, none⟩), .int .i64 high, .int .i64 low, .int .i64 state, .bool paused, x5, x6, x7] 81 (0, 0)))
    (hr : Ring w b rb S q) (hps : w.heap[ps]? = some (.cells #[.pointer (some ⟨sb, 0, none⟩)] 43 (0, 0))) (hpd : w.heap[pd]? = some (.cells #[.bool false] 4 (0, 0)))
    (n1 : sb ≠ b) (n2 : sb ≠ rb) (n3 : ps ≠ b) (n4 : pd ≠ b) (n5 : pd ≠ sb) (n6 : pd ≠ ps) (n7 : ps ≠ sb) (n8 : ps ≠ rb) (n9 : pd ≠ rb) :
    Calls Try.prog 60 #[.pointer (some ⟨ps, 0, none⟩), .pointer (some ⟨pd, 0, none⟩)] w fun e w' => e = .returned (.tuple #[]) ∧
      (w'.heap[sb]? = some (.cells #[.pointer (some ⟨b, 0, none⟩), .int .i64 high, .int .i64 low, .int .i64 3, .bool false, x5, x6, x7] 81 (0, 0)) ∧
       Ring w' b rb S [] ∧ w'.heap[pd]? = some (.cells #[.bool true] 4 (0, 0)) ∧ Upd [sb, b, pd] w w') := by
  have c0 : w.cell? ⟨sb, 0, none⟩ = _ := cell_of (i := 0) hs rfl
  have cp : w.cell? ⟨ps, 0, none⟩ = _ := cell_of (i := 0) hps rfl
  go_enter Try.func60, Try.ntmps60
  go_wp2_with fail
  refine (Ring_clear hr).mono ?_
  rintro e w1 ⟨rfl, hr1, hu1⟩
  have hs1 : w1.heap[sb]? = _ := (hu1.block sb (lt_of_block hs) (by simpa using n1)).trans hs
  have hps1 : w1.heap[ps]? = _ := (hu1.block ps (lt_of_block hps) (by simpa using n3)).trans hps
  have hpd1 : w1.heap[pd]? = _ := (hu1.block pd (lt_of_block hpd) (by simpa using n4)).trans hpd
  have dp : w1.cell? ⟨ps, 0, none⟩ = _ := cell_of (i := 0) hps1 rfl
  have d3 : w1.cell? ⟨sb, 3, none⟩ = _ := cell_of (i := 3) hs1 rfl
  have d4 : w1.cell? ⟨sb, 4, none⟩ = _ := cell_of (i := 4) hs1 rfl
  have dd : w1.cell? ⟨pd, 0, none⟩ = _ := cell_of (i := 0) hpd1 rfl
  have f3 : w1.frozen? ⟨sb, 3, none⟩ = false := free_of hs1
  have f4 : w1.frozen? ⟨sb, 4, none⟩ = false := free_of hs1
  have fd : w1.frozen? ⟨pd, 0, none⟩ = false := free_of hpd1
  have HS := Lib.hid hs1; have HR := Lib.hid hr1; have HU := Lib.hid hu1; have HD := Lib.hid hpd1
  clear c0 cp hs1 hps1 hpd1 hr1 hu1
  go_wp2_with fail
  refine wp_region_proc [(0, 0), (1, 0), (2, 0), (3, 0), (4, 1), (5, 0), (6, 0), (7, 2), (8, 2)] (fun W => W.cell? ⟨ps, 0, none⟩ = some (.pointer (some ⟨sb, 0, none⟩))) (by kernel_rfl) (by kernel_rfl) (fun c a w t v h => by cases t <;> exact h) dp ?_
  repeat
    (first
      | (apply proc_held
         case ho => simp only [List.getElem?_toArray, List.getElem?_cons_succ, List.getElem?_cons_zero]; rfl
         case hg => rfl
         case hv => intro W hW; (try dsimp only at hW); go_simp; rfl
         case ha => go_simp; rfl)
      | (apply proc_held_on
         case ho => simp only [List.getElem?_toArray, List.getElem?_cons_succ, List.getElem?_cons_zero]; rfl
         case hg => rfl
         case hv => intro W hW; (try dsimp only at hW); go_simp; rfl
         case ha => go_simp; rfl)
      | (apply proc_off
         case ho => simp only [List.getElem?_toArray, List.getElem?_cons_succ, List.getElem?_cons_zero]; rfl
         case hg => rfl
         case ha => go_simp; rfl))
  apply proc_eff
  case ho => simp only [List.getElem?_toArray, List.getElem?_cons_succ, List.getElem?_cons_zero]; rfl
  simp only [World.drew_eq]
  go_wp2_with fail
  refine ⟨_, fun _ h => h, ?_, ?_⟩
  · have : (w1.setCell ⟨sb, 3, none⟩ (.int .i64 3)).cell? ⟨ps, 0, none⟩ = some (.pointer (some ⟨sb, 0, none⟩)) := by
      rw [World.cell?_setCell_other _ _ _ _ (by simp [Ne.symm n7])]; exact dp
    exact this
  repeat
    (first
      | (apply proc_held
         case ho => simp only [List.getElem?_toArray, List.getElem?_cons_succ, List.getElem?_cons_zero]; rfl
         case hg => rfl
         case hv => intro W hW; (try dsimp only at hW); go_simp; rfl
         case ha => go_simp; rfl)
      | (apply proc_held_on
         case ho => simp only [List.getElem?_toArray, List.getElem?_cons_succ, List.getElem?_cons_zero]; rfl
         case hg => rfl
         case hv => intro W hW; (try dsimp only at hW); go_simp; rfl
         case ha => go_simp; rfl)
      | (apply proc_off
         case ho => simp only [List.getElem?_toArray, List.getElem?_cons_succ, List.getElem?_cons_zero]; rfl
         case hg => rfl
         case ha => go_simp; rfl))
  apply proc_last
  case ho => simp only [List.getElem?_toArray, List.getElem?_cons_succ, List.getElem?_cons_zero]; rfl
  go_wp2_with fail
  refine ⟨fun _ => True, trivial, ?_⟩
  have n5' : sb ≠ pd := Ne.symm n5
  have e3 : ((w1.setCell ⟨sb, 3, none⟩ (.int .i64 3)).setCell ⟨sb, 4, none⟩ (.bool false)).cell? ⟨pd, 0, none⟩ = some (.bool false) := by
    rw [World.cell?_setCell_other _ _ _ _ (by simp [n5']), World.cell?_setCell_other _ _ _ _ (by simp [n5'])]; exact dd
  apply proc_last
  case ho => simp only [List.getElem?_toArray, List.getElem?_cons_succ, List.getElem?_cons_zero]; rfl
  go_wp2
  refine ⟨fun _ => True, trivial, proc_nil ?_⟩
  go_wp2
  go_end0
  have nn : ∀ x : Addr, True := fun _ => trivial
  refine ⟨rfl, ?_, ?_, ?_, ?_⟩
  · simp only [heap_drew]
    rw [heap_setCell_ne _ n5, heap_setCell_self (heap_setCell_self HS.out _)]; rfl
  · refine HR.out.upd (F := [sb, pd]) ((((Upd.refl _ _).setCell (.inr (by simp)) _).setCell (.inr (by simp)) _).setCell (.inr (by simp)) _).drew (by simp; omega) (by simp; omega)
  · simp only [heap_drew]
    rw [heap_setCell_self (show ((w1.setCell ⟨sb, 3, none⟩ (.int .i64 3)).setCell ⟨sb, 4, none⟩ (.bool false)).heap[pd]? = some (.cells #[.bool false] 4 (0, 0)) by rw [heap_setCell_ne _ n5', heap_setCell_ne _ n5']; exact HD.out)]; rfl
  · exact ((((HU.out.weaken (G := [sb, b, pd]) (by simp)).setCell (.inr (by simp)) _).setCell (.inr (by simp)) _).setCell (.inr (by simp)) _).drew
set_option maxRecDepth 100000 in
set_option maxHeartbeats 1600000 in
theorem strm_stop {w : World} {sb b rb high low : Nat} {state : Int} {paused : Bool} {q : List UInt8} (hs : Strm w sb b rb high low state paused 0 q) :
    Calls Try.prog 51 #[.pointer (some ⟨sb, 0, none⟩)] w fun e w' => e = .returned (.bool true) ∧ Strm w' sb b rb high low 3 false 1 [] ∧ Upd [sb, b] w w' := by
  have hmf : ∀ (fn : Fn) (first cap : Array Value) (w : World), (Instr.makeFunc fn first cap).run Try.prog w = .ok (.func fn first cap) w := fun _ _ _ _ => rfl
  have lts := lt_of_block hs.hb
  have ltr := hs.ring.lt
  go_enter Try.func51, Try.ntmps51
  go_wp2_with fail
  obtain ⟨W, hW⟩ : ∃ W, W = (w.alloc (.cells #[.pointer (some ⟨sb, 0, none⟩)] 43)).alloc (.cells #[.bool false] 4) := ⟨_, rfl⟩
  have uW : Upd [] w W := by rw [hW]; exact ((Upd.refl _ _).alloc _).alloc _
  have hps : W.heap[w.heap.size]? = some (.cells #[.pointer (some ⟨sb, 0, none⟩)] 43 (0, 0)) := by rw [hW, heap_alloc_lt _ (by simp), heap_alloc_self]
  have hpd : W.heap[w.heap.size + 1]? = some (.cells #[.bool false] 4 (0, 0)) := by
    have := heap_alloc_self (w := w.alloc (.cells #[.pointer (some ⟨sb, 0, none⟩)] 43)) (.cells #[.bool false] 4 (0, 0))
    rw [World.size_alloc] at this
    rw [hW]; exact this
  have hsz : W.heap.size = w.heap.size + 2 := by rw [hW]; simp
  rw [← hW]
  clear hW
  have hbW := (uW.block sb lts (by simp)).trans hs.hb
  have hbL : (W.setCell ⟨sb, 6, none⟩ (.int .i32 1)).heap[sb]? = some (.cells #[.pointer (some ⟨b, 0, none⟩), .int .i64 (high : Int), .int .i64 (low : Int), .int .i64 state, .bool paused, .int .u32 0, .int .i32 1, .int .u32 0] 81 (0, 0)) := by
    rw [heap_setCell_self hbW]; rfl
  have uL : Upd [sb] W (W.setCell ⟨sb, 6, none⟩ (.int .i32 1)) := (Upd.refl _ _).setCell (.inr (by simp)) _
  have rL : Ring (W.setCell ⟨sb, 6, none⟩ (.int .i32 1)) b rb (high + 63) q := (hs.ring.upd uW (by simp) (by simp)).upd uL (by simpa using Ne.symm hs.ne.1) (by simpa using Ne.symm hs.ne.2)
  have hn := hs.ne
  have key := strm_stop1 (W.setCell ⟨sb, 6, none⟩ (.int .i32 1)) sb b rb (high + 63) w.heap.size (w.heap.size + 1) high low state paused (.int .u32 0) (.int .i32 1) (.int .u32 0) q hbL rL
    ((uL.block _ (by omega) (by simp; omega)).trans hps) ((uL.block _ (by omega) (by simp; omega)).trans hpd) hn.1 hn.2 (by omega) (by omega) (by omega) (by omega) (by omega) (by omega) (by omega)
  refine (once_do_first sb 5 60 #[.pointer (some ⟨w.heap.size, 0, none⟩), .pointer (some ⟨w.heap.size + 1, 0, none⟩)] W _ (cell_of (i := 5) hbW rfl) (cell_of (i := 6) hbW rfl) (free_of hbW) (free_of hbW)
    (fun W => Go.MuLone.run_callFunc_enter Try.func60 (by kernel_rfl) rfl _ _) key (fun w' hp => ⟨cell_of (i := 5) hp.1 rfl, cell_of (i := 6) hp.1 rfl, free_of hp.1, free_of hp.1⟩)).mono ?_
  rintro e w3 ⟨rfl, w2, ⟨p1, p2, p3, p4⟩, rfl⟩
  have f1 : ((w2.drew.setCell ⟨sb, 5, none⟩ (.int .u32 1)).setCell ⟨sb, 6, none⟩ (.int .i32 0)).heap[sb]? = some (.cells #[.pointer (some ⟨b, 0, none⟩), .int .i64 (high : Int), .int .i64 (low : Int), .int .i64 3, .bool false, .int .u32 1, .int .i32 0, .int .u32 0] 81 (0, 0)) := by
    rw [heap_setCell_self (heap_setCell_self (show w2.drew.heap[sb]? = _ from p1) _)]; rfl
  have u3 : Upd [sb] w2 ((w2.drew.setCell ⟨sb, 5, none⟩ (.int .u32 1)).setCell ⟨sb, 6, none⟩ (.int .i32 0)) := (((Upd.refl [sb] w2).drew).setCell (.inr (by simp)) _).setCell (.inr (by simp)) _
  have f2 : ((w2.setCell ⟨sb, 5, none⟩ (.int .u32 1)).setCell ⟨sb, 6, none⟩ (.int .i32 0)).cell? ⟨w.heap.size + 1, 0, none⟩ = some (.bool true) := (cell_of (i := 0) ((u3.block (w.heap.size + 1) (lt_of_block p3) (by simp; omega)).trans p3) rfl)
  have F1 := Lib.hid f1; have U3 := Lib.hid u3; have P2 := Lib.hid p2; have P4 := Lib.hid p4; have UW := Lib.hid uW; have UL := Lib.hid uL
  clear f1 u3 p1 p2 p3 p4 key uW uL rL hbL hbW hps hpd
  go_wp2
  go_ret
  refine ⟨rfl, ⟨F1.out, P2.out.upd U3.out (by simpa using Ne.symm hn.1) (by simpa using Ne.symm hn.2), hn, hs.h1, hs.h2, hs.h3, by simp, by simp⟩, ?_⟩
  refine (((UW.out.weaken (G := [sb, b]) (by simp)).trans UL.out (by simp)).trans P4.out ?_).trans U3.out (by simp)
  simp
set_option maxRecDepth 100000 in
theorem strm_stop_again {w : World} {sb b rb high low : Nat} {state : Int} {paused : Bool} {q : List UInt8} (hs : Strm w sb b rb high low state paused 1 q) :
    Calls Try.prog 51 #[.pointer (some ⟨sb, 0, none⟩)] w fun e w' => e = .returned (.bool false) ∧ Strm w' sb b rb high low state paused 1 q ∧ Upd [] w w' := by
  have hmf : ∀ (fn : Fn) (first cap : Array Value) (w : World), (Instr.makeFunc fn first cap).run Try.prog w = .ok (.func fn first cap) w := fun _ _ _ _ => rfl
  have lts := lt_of_block hs.hb
  have ltr := hs.ring.lt
  have uW : Upd [] w ((w.alloc (.cells #[.pointer (some ⟨sb, 0, none⟩)] 43)).alloc (.cells #[.bool false] 4)) := ((Upd.refl _ _).alloc _).alloc _
  go_enter Try.func51, Try.ntmps51
  go_wp2_with fail
  refine (once_do_done ⟨sb, 5, none⟩ 1 rfl _ _ (cell_of (i := 5) ((uW.block sb lts (by simp)).trans hs.hb) rfl)).mono ?_
  rintro e w3 ⟨rfl, rfl⟩
  go_wp2
  go_ret
  exact ⟨rfl, hs.upd uW (by simp) (by simp) (by simp), uW⟩
end Go.Proofs.Ytmcbllpkgeihgaa
