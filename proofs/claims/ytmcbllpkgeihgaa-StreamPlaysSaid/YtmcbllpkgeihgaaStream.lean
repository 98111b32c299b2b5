-- Contracts of package stream (all but Stop).
import Derived.Test.YtmcbllpkgeihgaaRing
import Derived.Test.YtmcbllpkgeihgaaProc
namespace Go.Proofs.Ytmcbllpkgeihgaa
open Go.RowKit Go.Lk
set_option linter.unusedSimpArgs false
set_option linter.unusedVariables false
/-- The stream at block sb: its ring, marks, state, whether it is paused, whether it was stopped. -/
structure Strm (w : World) (sb b rb : Nat) (high low : Nat) (state : Int) (paused : Bool) (once : Int) (q : List UInt8) : Prop where
  hb : w.heap[sb]? = some (.cells #[.pointer (some ⟨b, 0, none⟩), .int .i64 (high : Int), .int .i64 (low : Int), .int .i64 state, .bool paused, .int .u32 once, .int .i32 0, .int .u32 0] 81 (0, 0))
  ring : Ring w b rb (high + 63) q
  ne : sb ≠ b ∧ sb ≠ rb
  h1 : 1 ≤ high
  h2 : high ≤ 1024
  h3 : low < high
  st : 1 ≤ state ∧ state ≤ 3
  room : state = 1 → paused = false → q.length < high
theorem Strm.upd {w w' : World} {sb b rb high low : Nat} {state : Int} {paused : Bool} {once : Int} {q : List UInt8} {F : List Nat} (h : Strm w sb b rb high low state paused once q) (hu : Upd F w w') (h1 : sb ∉ F) (h2 : b ∉ F) (h3 : rb ∉ F) :
    Strm w' sb b rb high low state paused once q :=
  ⟨(hu.block sb (lt_of_block h.hb) h1).trans h.hb, h.ring.upd hu h2 h3, h.ne, h.h1, h.h2, h.h3, h.st, h.room⟩
theorem Strm.drewN {w : World} {sb b rb high low : Nat} {state : Int} {paused : Bool} {once : Int} {q : List UInt8} (h : Strm w sb b rb high low state paused once q) (k : Nat) :
    Strm (w.drewN k) sb b rb high low state paused once q := ⟨h.hb, h.ring.drewN k, h.ne, h.h1, h.h2, h.h3, h.st, h.room⟩
theorem Strm.cells {w : World} {sb b rb high low : Nat} {state : Int} {paused : Bool} {once : Int} {q : List UInt8} (h : Strm w sb b rb high low state paused once q) :
    w.cell? ⟨sb, 0, none⟩ = some (.pointer (some ⟨b, 0, none⟩)) ∧ w.cell? ⟨sb, 1, none⟩ = some (.int .i64 (high : Int)) ∧ w.cell? ⟨sb, 2, none⟩ = some (.int .i64 (low : Int)) ∧
    w.cell? ⟨sb, 3, none⟩ = some (.int .i64 state) ∧ w.cell? ⟨sb, 4, none⟩ = some (.bool paused) ∧ w.frozen? ⟨sb, 3, none⟩ = false ∧ w.frozen? ⟨sb, 4, none⟩ = false :=
  ⟨cell_of (i := 0) h.hb rfl, cell_of (i := 1) h.hb rfl, cell_of (i := 2) h.hb rfl, cell_of (i := 3) h.hb rfl, cell_of (i := 4) h.hb rfl, free_of h.hb, free_of h.hb⟩
set_option maxRecDepth 100000 in
theorem strm_state {w : World} {sb b rb high low : Nat} {state : Int} {paused : Bool} {once : Int} {q : List UInt8} (h : Strm w sb b rb high low state paused once q) :
    Calls Try.prog 53 #[.pointer (some ⟨sb, 0, none⟩)] w fun e w' => e = .returned (.int .i64 state) ∧ w = w' := by
  obtain ⟨c0, c1, c2, c3, c4, f3, f4⟩ := h.cells
  clear h
  go_enter Try.func53, Try.ntmps53
  go_wp2
  go_ret
  exact ⟨rfl, rfl⟩
set_option maxRecDepth 100000 in
theorem strm_paused {w : World} {sb b rb high low : Nat} {state : Int} {paused : Bool} {once : Int} {q : List UInt8} (h : Strm w sb b rb high low state paused once q) :
    Calls Try.prog 28 #[.pointer (some ⟨sb, 0, none⟩)] w fun e w' => e = .returned (.bool paused) ∧ w = w' := by
  obtain ⟨c0, c1, c2, c3, c4, f3, f4⟩ := h.cells
  clear h
  go_enter Try.func28, Try.ntmps28
  go_wp2
  go_ret
  exact ⟨rfl, rfl⟩
set_option maxRecDepth 100000 in
theorem strm_len {w : World} {sb b rb high low : Nat} {state : Int} {paused : Bool} {once : Int} {q : List UInt8} (h : Strm w sb b rb high low state paused once q) :
    Calls Try.prog 30 #[.pointer (some ⟨sb, 0, none⟩)] w fun e w' => e = .returned (.int .i64 (q.length : Int)) ∧ w = w' := by
  obtain ⟨c0, c1, c2, c3, c4, f3, f4⟩ := h.cells
  go_enter Try.func30, Try.ntmps30
  go_wp2_with (go_at_call 20; refine (Ring_len h.ring).mono ?_; rintro e w' ⟨rfl, rfl⟩)
  go_ret
  exact ⟨rfl, rfl⟩
set_option maxRecDepth 100000 in
theorem strm_over {w : World} {sb b rb high low : Nat} {state : Int} {paused : Bool} {once : Int} {q : List UInt8} (h : Strm w sb b rb high low state paused once q) :
    Calls Try.prog 34 #[.pointer (some ⟨sb, 0, none⟩)] w fun e w' => e = .returned (.bool (decide (state = 3 ∨ state = 2 ∧ q = []))) ∧ w = w' := by
  obtain ⟨c0, c1, c2, c3, c4, f3, f4⟩ := h.cells
  have hst := h.st
  rcases (show state = 1 ∨ state = 2 ∨ state = 3 by omega) with rfl | rfl | rfl
  · go_enter Try.func34, Try.ntmps34
    go_wp2
    go_ret
    exact ⟨rfl, rfl⟩
  · by_cases hq : q = []
    · subst hq
      go_enter Try.func34, Try.ntmps34
      go_wp2_with (go_at_call 20; refine (Ring_len h.ring).mono ?_; rintro e w' ⟨rfl, rfl⟩; simp only [List.length_nil])
      go_ret
      exact ⟨rfl, rfl⟩
    · have hl : ((q.length : Int) == 0) = false := by simpa using hq
      go_enter Try.func34, Try.ntmps34
      go_wp2_with (go_at_call 20; refine (Ring_len h.ring).mono ?_; rintro e w' ⟨rfl, rfl⟩)
      go_ret
      refine ⟨?_, rfl⟩
      simp [hq]
  · go_enter Try.func34, Try.ntmps34
    go_wp2
    go_ret
    exact ⟨rfl, rfl⟩
set_option maxRecDepth 100000 in
theorem strm_end {w : World} {sb b rb high low : Nat} {state : Int} {paused : Bool} {once : Int} {q : List UInt8} (hs : Strm w sb b rb high low state paused once q) :
    Calls Try.prog 33 #[.pointer (some ⟨sb, 0, none⟩)] w fun e w' => e = .returned (.int .i64 (if state = 1 then 0 else 12)) ∧
      Strm w' sb b rb high low (if state = 1 then 2 else state) (if state = 1 then false else paused) once q ∧ Upd [sb] w w' := by
  obtain ⟨c0, c1, c2, c3, c4, f3, f4⟩ := hs.cells
  have hst := hs.st
  by_cases h1 : state = 1
  · subst h1
    go_enter Try.func33, Try.ntmps33
    go_wp2
    go_ret
    have hu : Upd [sb] w ((w.setCell ⟨sb, 3, none⟩ (.int .i64 2)).setCell ⟨sb, 4, none⟩ (.bool false)) := ((Upd.refl _ _).setCell (.inr (by simp)) _).setCell (.inr (by simp)) _
    refine ⟨rfl, ⟨?_, hs.ring.upd hu (by simpa using Ne.symm hs.ne.1) (by simpa using Ne.symm hs.ne.2), hs.ne, hs.h1, hs.h2, hs.h3, by simp, by simp⟩, hu⟩
    rw [heap_setCell_self (heap_setCell_self hs.hb _)]; rfl
  · have e1 : (state == 1) = false := by simpa using h1
    have e2 : (state != 1) = true := by simpa using h1
    go_enter Try.func33, Try.ntmps33
    go_wp2
    go_ret
    exact ⟨rfl, hs, Upd.refl _ _⟩
set_option maxRecDepth 100000 in
theorem strm_new (w : World) (high low : Int) (H L : Nat) (hH : H = (max 1 (min high 1024)).toNat) (hL : L = (max 0 (min low (H - 1))).toNat) :
    Calls Try.prog 27 #[.int .i64 high, .int .i64 low] w fun e w' => ∃ sb b rb, e = .returned (.pointer (some ⟨sb, 0, none⟩)) ∧ Strm w' sb b rb H L 1 false 0 [] ∧ Upd [] w w' ∧ w.heap.size ≤ sb ∧ w.heap.size ≤ b ∧ w.heap.size ≤ rb := by
  have hH1 : 1 ≤ H := by omega
  have hH2 : H ≤ 1024 := by omega
  have hL3 : L < H := by omega
  obtain ⟨x, hx⟩ : ∃ x, x = (if (1024 : Int) < high then 1024 else high) := ⟨_, rfl⟩
  have e2 : (if (1 : Int) < x then x else 1) = H := by rw [hx]; (repeat' split) <;> omega
  have e1 := hx.symm
  obtain ⟨y, hy⟩ : ∃ y, y = (if (H : Int) - 1 < low then (H : Int) - 1 else low) := ⟨_, rfl⟩
  have e4 : (if (0 : Int) < y then y else 0) = L := by rw [hy]; (repeat' split) <;> omega
  have e3 := hy.symm
  clear hx hy hH hL
  go_enter Try.func27, Try.ntmps27
  go_wp2_with fail
  rw [show (H : Int) - 1 + 64 = ((H + 63 : Nat) : Int) by omega]
  refine (Ring_new _ (H + 63) (by omega) (by omega)).mono ?_
  rintro e w1 ⟨b, rb, rfl, hr, hu, g1, g2⟩
  have lt1 := hr.lt
  have HR := Lib.hid hr; have HU := Lib.hid hu; clear hr hu
  go_wp2_with fail
  go_ret
  exact ⟨w1.heap.size, b, rb, rfl, ⟨heap_alloc_self _, HR.out.upd ((Upd.refl [] _).alloc _) (by simp) (by simp), by omega, hH1, hH2, hL3, by omega, fun _ _ => by simp; omega⟩, HU.out.alloc _, by have := HU.out.size; omega, g1, g2⟩
/-- A chunk that is not taken. -/
theorem strm_chunk_no {w : World} {sb b rb high low : Nat} {state : Int} {paused : Bool} {once : Int} {q : List UInt8} (hs : Strm w sb b rb high low state paused once q) (A : Option Addr) (n c : Nat) (hno : state ≠ 1 ∨ n = 0 ∨ 64 < n ∨ paused = true) (hn : n ≤ 100000) :
    Calls Try.prog 29 #[.pointer (some ⟨sb, 0, none⟩), .slice A n c] w fun e w' => e = .returned (.int .i64 (if state ≠ 1 then 12 else if n = 0 ∨ 64 < n then 4 else 10)) ∧ w = w' := by
  obtain ⟨c0, c1, c2, c3, c4, f3, f4⟩ := hs.cells
  clear hs
  by_cases h1 : state = 1
  · subst h1
    simp only [ne_eq, not_true_eq_false, false_or, if_false] at hno ⊢
    by_cases h2 : n = 0 ∨ 64 < n
    · simp only [if_pos h2]
      rcases h2 with rfl | h2
      · go_enter Try.func29, Try.ntmps29
        go_wp2
        go_ret
        exact ⟨rfl, rfl⟩
      · have z1 : ((n : Int) == 0) = false := by simp; omega
        clear hno
        go_enter Try.func29, Try.ntmps29
        go_wp2
        go_ret
        exact ⟨rfl, rfl⟩
    · simp only [if_neg h2]
      have hp : paused = true := by rcases hno with h | h | h <;> first | exact h | (exact absurd (by omega) h2)
      subst hp
      have z1 : ((n : Int) == 0) = false := by simp; omega
      have z2 : ¬ 64 < n := by omega
      clear hno h2
      go_enter Try.func29, Try.ntmps29
      go_wp2
      go_ret
      exact ⟨rfl, rfl⟩
  · have e2 : (state != 1) = true := by simpa using h1
    simp only [if_pos h1]
    clear hno
    go_enter Try.func29, Try.ntmps29
    go_wp2
    go_ret
    exact ⟨rfl, rfl⟩
/-- A chunk that is taken. -/
theorem strm_chunk {w : World} {sb b rb high low : Nat} {once : Int} {q : List UInt8} (hs : Strm w sb b rb high low 1 false once q) (A : Option Addr) (bs : List UInt8) (c : Nat) (hn : 1 ≤ bs.length) (hn2 : bs.length ≤ 64) (hbs : BytesAt w A bs) (hA : ∀ ab ao, bs ≠ [] → A = some ⟨ab, ao, none⟩ → ab ≠ rb) :
    Calls Try.prog 29 #[.pointer (some ⟨sb, 0, none⟩), .slice A bs.length c] w fun e w' => e = .returned (.int .i64 0) ∧ Strm w' sb b rb high low 1 (decide (high ≤ q.length + bs.length)) once (q ++ bs) ∧ Upd [sb, b, rb] w w' := by
  obtain ⟨c0, c1, c2, c3, c4, f3, f4⟩ := hs.cells
  have z1 : ((bs.length : Int) == 0) = false := by simp; rintro rfl; simp at hn
  have z2 : ¬ 64 < bs.length := by omega
  have hroom := hs.room rfl rfl
  have hq := hs.ring.le
  go_enter Try.func29, Try.ntmps29
  go_wp2_with fail
  refine (Ring_put hs.ring A bs c hbs hA (by omega)).mono ?_
  rintro e w1 ⟨rfl, hr1, hu1⟩
  rw [List.take_of_length_le (by omega)] at hr1
  have hsb : w1.heap[sb]? = _ := (hu1.block sb (lt_of_block hs.hb) (by have := hs.ne; simp; omega)).trans hs.hb
  have d0 : w1.cell? ⟨sb, 0, none⟩ = _ := cell_of (i := 0) hsb rfl
  have d1 : w1.cell? ⟨sb, 1, none⟩ = _ := cell_of (i := 1) hsb rfl
  have d4 : w1.cell? ⟨sb, 4, none⟩ = _ := cell_of (i := 4) hsb rfl
  have g4 : w1.frozen? ⟨sb, 4, none⟩ = false := free_of hsb
  have HS := Lib.hid hsb; have HR := Lib.hid hr1; have HU := Lib.hid hu1
  clear c0 c1 c2 c3 c4 f3 f4 hsb hr1 hu1
  go_wp2_with fail
  refine wp_region_proc [(0, 0), (1, 0), (2, 0), (3, 0), (4, 0), (6, 0), (7, 0), (8, 0), (9, 0), (5, 1), (10, 0), (11, 0), (12, 0), (13, 2)] (fun W => W.cell? ⟨sb, 0, none⟩ = some (.pointer (some ⟨b, 0, none⟩)) ∧ W.cell? ⟨sb, 1, none⟩ = some (.int .i64 (high : Int))) (by kernel_rfl) (by kernel_rfl) (fun c a w t v h => by cases t <;> exact h) ⟨d0, d1⟩ ?_
  repeat
    (first
      | (apply proc_held
         case ho => simp only [List.getElem?_toArray, List.getElem?_cons_succ, List.getElem?_cons_zero]; rfl
         case hg => rfl
         case hv => intro W hW; (try dsimp only at hW); go_simp; rfl
         case ha => go_simp; rfl)
      | (apply proc_held_on
         case ho => simp only [List.getElem?_toArray, List.getElem?_cons_succ, List.getElem?_cons_zero]; rfl
         case hg => rfl
         case hv => intro W hW; (try dsimp only at hW); go_simp; rfl
         case ha => go_simp; rfl)
      | (apply proc_off
         case ho => simp only [List.getElem?_toArray, List.getElem?_cons_succ, List.getElem?_cons_zero]; rfl
         case hg => rfl
         case ha => go_simp; rfl))
  apply proc_eff
  case ho => simp only [List.getElem?_toArray, List.getElem?_cons_succ, List.getElem?_cons_zero]; rfl
  simp only [World.drew_eq]
  go_wp2_with fail
  refine (Ring_len (HR.out.drewN 1)).mono ?_
  rintro e w2 ⟨rfl, rfl⟩
  go_wp2_with fail
  refine ⟨_, fun _ h => h, ⟨d0, d1⟩, ?_⟩
  repeat
    (first
      | (apply proc_held
         case ho => simp only [List.getElem?_toArray, List.getElem?_cons_succ, List.getElem?_cons_zero]; rfl
         case hg => rfl
         case hv => intro W hW; (try dsimp only at hW); go_simp; rfl
         case ha => go_simp; rfl)
      | (apply proc_held_on
         case ho => simp only [List.getElem?_toArray, List.getElem?_cons_succ, List.getElem?_cons_zero]; rfl
         case hg => rfl
         case hv => intro W hW; (try dsimp only at hW); go_simp; rfl
         case ha => go_simp; rfl)
      | (apply proc_off
         case ho => simp only [List.getElem?_toArray, List.getElem?_cons_succ, List.getElem?_cons_zero]; rfl
         case hg => rfl
         case ha => go_simp; rfl))
  apply proc_last
  case ho => simp only [List.getElem?_toArray, List.getElem?_cons_succ, List.getElem?_cons_zero]; rfl
  go_wp2_with fail
  refine ⟨fun _ => True, trivial, proc_nil ?_⟩
  go_wp2
  go_ret
  have hd : decide ((high : Int) ≤ (q.length : Int) + (bs.length : Int)) = decide (high ≤ q.length + bs.length) := by apply decide_eq_decide.2; omega
  rw [hd]
  have hu2 : Upd [sb, b, rb] w ((w1.drewN 1).setCell ⟨sb, 4, none⟩ (.bool (decide (high ≤ q.length + bs.length)))) := ((HU.out.weaken (G := [sb, b, rb]) (by simp)).drewN 1).setCell (.inr (by simp)) _
  refine ⟨rfl, ⟨?_, ?_, hs.ne, hs.h1, hs.h2, hs.h3, hs.st, fun _ hp => ?_⟩, hu2⟩
  · rw [heap_setCell_self (show (w1.drewN 1).heap[sb]? = _ from HS.out)]; rfl
  · refine (HR.out.drewN 1).upd (F := [sb]) ((Upd.refl _ _).setCell (.inr (by simp)) _) (by simpa using Ne.symm hs.ne.1) (by simpa using Ne.symm hs.ne.2)
  · have := of_decide_eq_false hp; simp; omega
set_option maxRecDepth 100000 in
theorem strm_read {w : World} {sb b rb high low : Nat} {state : Int} {paused : Bool} {once : Int} {q : List UInt8} (hs : Strm w sb b rb high low state paused once q) (t : Int) :
    Calls Try.prog 31 #[.pointer (some ⟨sb, 0, none⟩), .int .i64 t] w fun e w' => ∃ v, e = .returned v ∧ BytesV w' v (q.take t.toNat) ∧ (∀ k, v.ownBlock = some k → w.heap.size ≤ k) ∧
      Strm w' sb b rb high low state (paused && decide (low < (q.drop t.toNat).length)) once (q.drop t.toNat) ∧ Upd [sb, b] w w' := by
  obtain ⟨c0, c1, c2, c3, c4, f3, f4⟩ := hs.cells
  go_enter Try.func31, Try.ntmps31
  go_wp2_with fail
  refine (Ring_take hs.ring t).mono ?_
  rintro e w1 ⟨v, rfl, hv, hr1, hu1⟩
  have hsb : w1.heap[sb]? = _ := (hu1.block sb (lt_of_block hs.hb) (by have := hs.ne; simp; omega)).trans hs.hb
  have d0 : w1.cell? ⟨sb, 0, none⟩ = _ := cell_of (i := 0) hsb rfl
  have d2 : w1.cell? ⟨sb, 2, none⟩ = _ := cell_of (i := 2) hsb rfl
  have d4 : w1.cell? ⟨sb, 4, none⟩ = _ := cell_of (i := 4) hsb rfl
  have g4 : w1.frozen? ⟨sb, 4, none⟩ = false := free_of hsb
  have hge := own_ge hv
  have HS := Lib.hid hsb; have HR := Lib.hid hr1; have HU := Lib.hid hu1; have HV := Lib.hid (bytes_of_own hv); have HG := Lib.hid hge
  clear c0 c1 c2 c3 c4 f3 f4 hsb hr1 hu1 hv hge
  have fin : ∀ (W : World) (k : Nat) (p : Bool), W = w1.drewN k → p = (paused && decide (low < (q.drop t.toNat).length)) → BytesV (W.setCell ⟨sb, 4, none⟩ (.bool p)) v (q.take t.toNat) ∧ (∀ k, v.ownBlock = some k → w.heap.size ≤ k) ∧
      Strm (W.setCell ⟨sb, 4, none⟩ (.bool p)) sb b rb high low state (paused && decide (low < (q.drop t.toNat).length)) once (q.drop t.toNat) ∧ Upd [sb, b] w (W.setCell ⟨sb, 4, none⟩ (.bool p)) := by
    rintro W k p rfl rfl
    have hu3 : Upd [sb] w1 ((w1.drewN k).setCell ⟨sb, 4, none⟩ (.bool (paused && decide (low < (q.drop t.toNat).length)))) := ((Upd.refl _ _).drewN k).setCell (.inr (by simp)) _
    refine ⟨HV.out.upd hu3 (fun j hj => by have := HG.out j hj; have := lt_of_block hs.hb; simp; omega), HG.out, ⟨?_, HR.out.upd hu3 (by simpa using Ne.symm hs.ne.1) (by simpa using Ne.symm hs.ne.2), hs.ne, hs.h1, hs.h2, hs.h3, hs.st, fun h1 hp => ?_⟩, (HU.out.weaken (by simp)).trans hu3 (by simp)⟩
    · rw [heap_setCell_self (show (w1.drewN k).heap[sb]? = _ from HS.out)]; rfl
    · have := hs.room h1
      have := hs.h3
      simp only [List.length_drop, Bool.and_eq_false_iff, decide_eq_false_iff_not] at hp ⊢
      rcases hp with hp | hp
      · have := hs.room h1 hp; omega
      · omega
  have HF := Lib.hid fin; clear fin
  cases paused with
  | false =>
    go_wp2_with fail
    refine wp_region_proc [(0, 0), (1, 0), (2, 0), (3, 0), (4, 0), (5, 0), (6, 0), (7, 0), (8, 0), (9, 0), (11, 0), (12, 0), (13, 0), (14, 0), (10, 1), (15, 0), (16, 0), (17, 0), (18, 0), (19, 2)] (fun W => W.cell? ⟨sb, 4, none⟩ = some (.bool false)) (by kernel_rfl) (by kernel_rfl) (fun c a w t v h => by cases t <;> exact h) d4 ?_
    repeat
      (first
        | (apply proc_held
           case ho => simp only [List.getElem?_toArray, List.getElem?_cons_succ, List.getElem?_cons_zero]; rfl
           case hg => rfl
           case hv => intro W hW; (try dsimp only at hW); go_simp; rfl
           case ha => go_simp; rfl)
        | (apply proc_held_on
           case ho => simp only [List.getElem?_toArray, List.getElem?_cons_succ, List.getElem?_cons_zero]; rfl
           case hg => rfl
           case hv => intro W hW; (try dsimp only at hW); go_simp; rfl
           case ha => go_simp; rfl)
        | (apply proc_off
           case ho => simp only [List.getElem?_toArray, List.getElem?_cons_succ, List.getElem?_cons_zero]; rfl
           case hg => rfl
           case ha => go_simp; rfl))
    apply proc_eff
    case ho => simp only [List.getElem?_toArray, List.getElem?_cons_succ, List.getElem?_cons_zero]; rfl
    simp only [World.drew_eq]
    go_wp2_with fail
    refine ⟨_, fun _ h => h, d4, ?_⟩
    repeat
      (first
        | (apply proc_held
           case ho => simp only [List.getElem?_toArray, List.getElem?_cons_succ, List.getElem?_cons_zero]; rfl
           case hg => rfl
           case hv => intro W hW; (try dsimp only at hW); go_simp; rfl
           case ha => go_simp; rfl)
        | (apply proc_held_on
           case ho => simp only [List.getElem?_toArray, List.getElem?_cons_succ, List.getElem?_cons_zero]; rfl
           case hg => rfl
           case hv => intro W hW; (try dsimp only at hW); go_simp; rfl
           case ha => go_simp; rfl)
        | (apply proc_off
           case ho => simp only [List.getElem?_toArray, List.getElem?_cons_succ, List.getElem?_cons_zero]; rfl
           case hg => rfl
           case ha => go_simp; rfl))
    apply proc_last
    case ho => simp only [List.getElem?_toArray, List.getElem?_cons_succ, List.getElem?_cons_zero]; rfl
    go_wp2_with fail
    refine ⟨fun _ => True, trivial, proc_nil ?_⟩
    go_wp2
    go_ret
    exact ⟨v, rfl, HF.out w1.drew 1 _ rfl (by simp)⟩
  | true =>
    go_wp2_with fail
    refine wp_region_proc [(0, 0), (1, 0), (2, 0), (3, 0), (4, 0), (5, 0), (6, 0), (7, 0), (8, 0), (9, 0), (11, 0), (12, 0), (13, 0), (14, 0), (10, 1), (15, 0), (16, 0), (17, 0), (18, 0), (19, 2)] (fun W => W.cell? ⟨sb, 0, none⟩ = some (.pointer (some ⟨b, 0, none⟩)) ∧ W.cell? ⟨sb, 2, none⟩ = some (.int .i64 (low : Int)) ∧ W.cell? ⟨sb, 4, none⟩ = some (.bool true)) (by kernel_rfl) (by kernel_rfl) (fun c a w t v h => by cases t <;> exact h) ⟨d0, d2, d4⟩ ?_
    repeat
      (first
        | (apply proc_held
           case ho => simp only [List.getElem?_toArray, List.getElem?_cons_succ, List.getElem?_cons_zero]; rfl
           case hg => rfl
           case hv => intro W hW; (try dsimp only at hW); go_simp; rfl
           case ha => go_simp; rfl)
        | (apply proc_held_on
           case ho => simp only [List.getElem?_toArray, List.getElem?_cons_succ, List.getElem?_cons_zero]; rfl
           case hg => rfl
           case hv => intro W hW; (try dsimp only at hW); go_simp; rfl
           case ha => go_simp; rfl)
        | (apply proc_off
           case ho => simp only [List.getElem?_toArray, List.getElem?_cons_succ, List.getElem?_cons_zero]; rfl
           case hg => rfl
           case ha => go_simp; rfl))
    apply proc_eff
    case ho => simp only [List.getElem?_toArray, List.getElem?_cons_succ, List.getElem?_cons_zero]; rfl
    simp only [World.drew_eq]
    go_wp2_with fail
    refine (Ring_len (HR.out.drewN 1)).mono ?_
    rintro e w2 ⟨rfl, rfl⟩
    go_wp2_with fail
    refine ⟨_, fun _ h => h, ⟨d0, d2, d4⟩, ?_⟩
    repeat
      (first
        | (apply proc_held
           case ho => simp only [List.getElem?_toArray, List.getElem?_cons_succ, List.getElem?_cons_zero]; rfl
           case hg => rfl
           case hv => intro W hW; (try dsimp only at hW); go_simp; rfl
           case ha => go_simp; rfl)
        | (apply proc_held_on
           case ho => simp only [List.getElem?_toArray, List.getElem?_cons_succ, List.getElem?_cons_zero]; rfl
           case hg => rfl
           case hv => intro W hW; (try dsimp only at hW); go_simp; rfl
           case ha => go_simp; rfl)
        | (apply proc_off
           case ho => simp only [List.getElem?_toArray, List.getElem?_cons_succ, List.getElem?_cons_zero]; rfl
           case hg => rfl
           case ha => go_simp; rfl))
    apply proc_last
    case ho => simp only [List.getElem?_toArray, List.getElem?_cons_succ, List.getElem?_cons_zero]; rfl
    go_wp2_with fail
    refine ⟨fun _ => True, trivial, proc_nil ?_⟩
    go_wp2
    go_ret
    exact ⟨v, rfl, HF.out (w1.drewN 1) 1 _ rfl (by simp)⟩
end Go.Proofs.Ytmcbllpkgeihgaa
