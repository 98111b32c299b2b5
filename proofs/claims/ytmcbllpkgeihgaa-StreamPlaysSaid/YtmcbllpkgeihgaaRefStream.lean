-- Contracts of lockkeeperref11.
import Derived.Test.YtmcbllpkgeihgaaBase
import Derived.Test.YtmcbllpkgeihgaaProc
import Derived.Test.YtmcbllpkgeihgaaProg
import Derived.Test.YtmcbllpkgeihgaaInfo
import Derived.Test.YtmcbllpkgeihgaaApp
import Derived.Outline
namespace Go.Proofs.Ytmcbllpkgeihgaa
set_option linter.unusedSimpArgs false
set_option linter.unusedVariables false
open Go.RowKit Go.Lk
theorem heap_drewN {w : World} {n : Nat} : (w.drewN n).heap = w.heap := rfl
structure RStrm (w : World) (m H L : Nat) (st : Int) (p : Bool) (v : Value) (bs : List UInt8) : Prop where
  hb : w.heap[m]? = some (.cells #[.int .i64 (H : Int), .int .i64 (L : Int), .int .i64 st, v, .bool p] 62 (0, 0))
  by_ : BytesV w v bs
  ne : ∀ k, v.ownBlock = some k → k ≠ m
theorem RStrm.drewN {w : World} {m H L : Nat} {st : Int} {p : Bool} {v : Value} {bs : List UInt8} (h : RStrm w m H L st p v bs) (k : Nat) : RStrm (w.drewN k) m H L st p v bs := ⟨h.hb, h.by_, h.ne⟩
theorem RStrm.upd {w w' : World} {m H L : Nat} {st : Int} {p : Bool} {v : Value} {bs : List UInt8} {F : List Nat} (h : RStrm w m H L st p v bs) (hu : Upd F w w') (h1 : m ∉ F) (h2 : ∀ k, v.ownBlock = some k → k ∉ F) : RStrm w' m H L st p v bs :=
  ⟨(hu.block m (lt_of_block h.hb) h1).trans h.hb, h.by_.upd hu h2, h.ne⟩
theorem RStrm.cells {w : World} {m H L : Nat} {st : Int} {p : Bool} {v : Value} {bs : List UInt8} (h : RStrm w m H L st p v bs) :
    w.cell? ⟨m, 0, none⟩ = some (.int .i64 (H : Int)) ∧ w.cell? ⟨m, 1, none⟩ = some (.int .i64 (L : Int)) ∧ w.cell? ⟨m, 2, none⟩ = some (.int .i64 st) ∧ w.cell? ⟨m, 3, none⟩ = some v ∧ w.cell? ⟨m, 4, none⟩ = some (.bool p) ∧
    w.frozen? ⟨m, 2, none⟩ = false ∧ w.frozen? ⟨m, 3, none⟩ = false ∧ w.frozen? ⟨m, 4, none⟩ = false :=
  ⟨cell_of (i := 0) h.hb rfl, cell_of (i := 1) h.hb rfl, cell_of (i := 2) h.hb rfl, cell_of (i := 3) h.hb rfl, cell_of (i := 4) h.hb rfl, free_of h.hb, free_of h.hb, free_of h.hb⟩
/-- What its memory is in. -/
def rfoot (m : Nat) (v : Value) : List Nat := m :: v.ownBlock.toList
set_option maxRecDepth 100000 in
theorem rstrm_new (w : World) (high low : Int) (H L : Nat) (hH : H = (max 1 (min high 1024)).toNat) (hL : L = (max 0 (min low (H - 1))).toNat) (hh : (Lit.int .i64 high).wf = true) (hl : (Lit.int .i64 low).wf = true) :
    Calls Try.prog 47 #[.int .i64 high, .int .i64 low] w fun e w' => ∃ m, e = .returned (.pointer (some ⟨m, 0, none⟩)) ∧ RStrm w' m H L 1 false (.slice none 0 0) [] ∧ Upd [] w w' ∧ m = w.heap.size := by
  obtain ⟨x, hx⟩ : ∃ x, x = (if high < 1 then 1 else high) := ⟨_, rfl⟩
  have e2 : (if (1024 : Int) < x then 1024 else x) = H := by rw [hx]; (repeat' split) <;> omega
  have e1 := hx.symm
  obtain ⟨y, hy⟩ : ∃ y, y = (if low < 0 then 0 else low) := ⟨_, rfl⟩
  have hH1 : 1 ≤ H ∧ H ≤ 1024 := by omega
  have e4 : (if (H : Int) - 1 < y then (H : Int) - 1 else y) = L := by rw [hy]; (repeat' split) <;> omega
  have e3 := hy.symm
  clear hx hH hL hy
  go_enter Try.func47, Try.ntmps47
  go_wp2
  go_ret
  exact ⟨w.heap.size, rfl, ⟨heap_alloc_self _, ⟨none, 0, rfl, Nat.le_refl _, fun j x hj => by cases hj⟩, fun k hk => by simp [Value.ownBlock] at hk⟩, (Upd.refl _ _).alloc _, rfl⟩
set_option maxRecDepth 100000 in
theorem rstrm_chunk_no {w : World} {m H L : Nat} {st : Int} {p : Bool} {v : Value} {q : List UInt8} (hs : RStrm w m H L st p v q) (A : Option Addr) (n c : Nat) (hno : st ≠ 1 ∨ n = 0 ∨ 64 < n ∨ p = true) (hn : n ≤ 100000) :
    Calls Try.prog 48 #[.pointer (some ⟨m, 0, none⟩), .slice A n c] w fun e w' => e = .returned (.int .i64 (if st ≠ 1 then 12 else if n = 0 ∨ 64 < n then 4 else 10)) ∧ w = w' := by
  obtain ⟨c0, c1, c2, c3, c4, f2, f3, f4⟩ := hs.cells
  clear hs
  by_cases h1 : st = 1
  · subst h1
    simp only [ne_eq, not_true_eq_false, false_or, if_false] at hno ⊢
    by_cases h2 : n = 0 ∨ 64 < n
    · simp only [if_pos h2]
      rcases h2 with rfl | h2
      · go_enter Try.func48, Try.ntmps48
        go_wp2
        go_ret
        exact ⟨rfl, rfl⟩
      · go_enter Try.func48, Try.ntmps48
        go_wp2
        go_ret
        exact ⟨rfl, rfl⟩
    · simp only [if_neg h2]
      obtain rfl : p = true := by rcases hno with h | h | h <;> first | exact h | exact absurd (Or.inl h) h2 | exact absurd (Or.inr h) h2
      go_enter Try.func48, Try.ntmps48
      go_wp2
      go_ret
      exact ⟨rfl, rfl⟩
  · have h1' : (st == 1) = false := by simpa using h1
    simp only [ne_eq, h1, not_false_eq_true, if_true]
    go_enter Try.func48, Try.ntmps48
    go_wp2
    go_ret
    exact ⟨rfl, rfl⟩
set_option maxRecDepth 100000 in
theorem rstrm_end {w : World} {m H L : Nat} {st : Int} {p : Bool} {v : Value} {q : List UInt8} (hs : RStrm w m H L st p v q) :
    Calls Try.prog 50 #[.pointer (some ⟨m, 0, none⟩)] w fun e w' => e = .returned (.int .i64 (if st = 1 then 0 else 12)) ∧
      RStrm w' m H L (if st = 1 then 2 else st) (if st = 1 then false else p) v q ∧ Upd [m] w w' := by
  obtain ⟨c0, c1, c2, c3, c4, f2, f3, f4⟩ := hs.cells
  by_cases h1 : st = 1
  · subst h1
    simp only [if_true]
    have HS := Lib.hid hs; clear hs
    go_enter Try.func50, Try.ntmps50
    go_wp2
    go_ret
    refine ⟨rfl, ⟨?_, HS.out.by_.upd (F := [m]) (((Upd.refl _ _).setCell (.inr (by simp)) _).setCell (.inr (by simp)) _) (fun k hk => by have := HS.out.ne k hk; simpa using this), HS.out.ne⟩, ((Upd.refl _ _).setCell (.inr (by simp)) _).setCell (.inr (by simp)) _⟩
    rw [heap_setCell_self (heap_setCell_self HS.out.hb _)]; rfl
  · have h1' : (st == 1) = false := by simpa using h1
    simp only [if_neg h1]
    go_enter Try.func50, Try.ntmps50
    go_wp2
    go_ret
    exact ⟨rfl, hs, Upd.refl _ _⟩
set_option maxRecDepth 100000 in
theorem rstrm_stop {w : World} {m H L : Nat} {st : Int} {p : Bool} {v : Value} {q : List UInt8} (hs : RStrm w m H L st p v q) (h1 : st ≠ 3) :
    Calls Try.prog 52 #[.pointer (some ⟨m, 0, none⟩)] w fun e w' => e = .returned (.bool true) ∧
      RStrm w' m H L 3 false (.slice none 0 0) [] ∧ Upd [m] w w' := by
  obtain ⟨c0, c1, c2, c3, c4, f2, f3, f4⟩ := hs.cells
  have h1' : (st == 3) = false := by simpa using h1
  have HS := Lib.hid hs; clear hs
  obtain ⟨A, c, rfl, _⟩ := HS.out.by_
  go_enter Try.func52, Try.ntmps52
  go_wp2
  go_ret
  refine ⟨rfl, ⟨?_, ⟨none, 0, rfl, Nat.le_refl _, fun j x hj => by cases hj⟩, fun k hk => by simp [Value.ownBlock] at hk⟩, (((Upd.refl _ _).setCell (.inr (by simp)) _).setCell (.inr (by simp)) _).setCell (.inr (by simp)) _⟩
  rw [heap_setCell_self (heap_setCell_self (heap_setCell_self HS.out.hb _) _)]; rfl
set_option maxRecDepth 100000 in
theorem rstrm_stop_again {w : World} {m H L : Nat} {p : Bool} {v : Value} {q : List UInt8} (hs : RStrm w m H L 3 p v q) :
    Calls Try.prog 52 #[.pointer (some ⟨m, 0, none⟩)] w fun e w' => e = .returned (.bool false) ∧ w = w' := by
  obtain ⟨c0, c1, c2, c3, c4, f2, f3, f4⟩ := hs.cells
  go_enter Try.func52, Try.ntmps52
  go_wp2
  go_ret
  exact ⟨rfl, rfl⟩
set_option maxRecDepth 100000 in
theorem rstrm_over {w : World} {m H L : Nat} {st : Int} {p : Bool} {v : Value} {q : List UInt8} (hs : RStrm w m H L st p v q) (hst : 1 ≤ st ∧ st ≤ 3) (hq : q.length ≤ 5000) :
    Calls Try.prog 54 #[.pointer (some ⟨m, 0, none⟩)] w fun e w' => e = .returned (.bool (decide (st = 3 ∨ st = 2 ∧ q = []))) ∧ w = w' := by
  obtain ⟨c0, c1, c2, c3, c4, f2, f3, f4⟩ := hs.cells
  obtain ⟨A, c, rfl, _⟩ := hs.by_
  clear hs
  rcases (show st = 1 ∨ st = 2 ∨ st = 3 by omega) with rfl | rfl | rfl
  · go_enter Try.func54, Try.ntmps54
    go_wp2
    go_ret
    exact ⟨rfl, rfl⟩
  · cases q with
    | nil =>
      go_enter Try.func54, Try.ntmps54
      go_wp2
      go_ret
      exact ⟨rfl, rfl⟩
    | cons x q =>
      have hz : ((((x :: q).length : Nat) : Int) == 0) = false := by simp only [List.length_cons]; rw [beq_eq_false_iff_ne]; omega
      go_enter Try.func54, Try.ntmps54
      go_wp2
      go_ret
      exact ⟨by simp; omega, rfl⟩
  · go_enter Try.func54, Try.ntmps54
    go_wp2
    go_ret
    exact ⟨rfl, rfl⟩

set_option maxHeartbeats 800000 in
set_option maxRecDepth 100000 in
theorem rstrm_chunk {w : World} {m H L : Nat} {v : Value} {q : List UInt8} (h : RStrm w m H L 1 false v q) (hq : q.length ≤ 100000) (hH : H ≤ 1024) (A : Option Addr) (bs : List UInt8) (c : Nat) (h1 : 1 ≤ bs.length) (h64 : bs.length ≤ 64) (hc : bs.length ≤ c) (hbs : BytesAt w A bs) (p2 : Bool) (hp2 : p2 = decide (H ≤ q.length + bs.length)) :
    Calls Try.prog 48 #[.pointer (some ⟨m, 0, none⟩), .slice A bs.length c] w fun e w' => e = .returned (.int .i64 0) ∧
      (∃ v', RStrm w' m H L 1 p2 v' (q ++ bs) ∧ (∀ k, v'.ownBlock = some k → w.heap.size ≤ k)) ∧ Upd [m] w w' := by
  obtain ⟨Av, cv, rfl, hcv, hv⟩ := h.by_
  obtain ⟨c0, c1, c2, c3, c4, f2, f3, f4⟩ := h.cells
  have HC := Lib.hid h1; 
  obtain ⟨i0, hi, hz0, hz1, hz2⟩ := info_parts Try.info5
  have HV := Lib.hid hv; have HB := Lib.hid hbs; clear hv hbs c1
  have HP := Lib.hid hp2; clear hp2
  go_enter Try.func48, Try.ntmps48
  go_wp2_with (at_builtin; refine wpList_append_src _ rfl (.const (.slice none 0 0)) (.tmp 29) 28 rfl w.heap.size 5 i0 (.int .u8 0) 1 1 Try.underlying28 hi hz0 hz1 hz2 rfl (by decide) (.slice none 0 0) 0 [] rfl (World.ownsRow_nil _ _ _ _) Av q.length cv (q.map B) rfl ?k1a HV.out.cells (B_one _) ?k2a ?k3a ?k4a ?k5a)
  try (case k1a => simp)
  try (case k2a => unfold maxLen; omega)
  try (case k3a => omega)
  try (case k4a => exact Nat.le_refl _)
  intro v1 w1 hown1 hg1 hat1
  have U1 : Upd [] w w1 := ((Upd.refl [] w)).grown hg1 (by simp [Value.ownBlock])
  have F : ∀ i u, w.cell? ⟨m, i, none⟩ = some u → w1.cell? ⟨m, i, none⟩ = some u := fun i u hu => (World.cell?_of_block (U1.block m (World.block_lt_of_cell? _ _ hu) (by simp))).trans hu
  have G : ∀ i, w.frozen? ⟨m, i, none⟩ = false → w1.frozen? ⟨m, i, none⟩ = false := fun i hu => (World.frozen?_of_block (U1.block m (lt_of_block h.hb) (by simp))).trans hu
  have c0' := F _ _ c0; have c3' := F _ _ c3; have f3' := G _ f3; have f4' := G _ f4
  try simp only [Nat.zero_add, List.nil_append] at hown1
  have HO1 := Lib.hid hown1; have HU1 := Lib.hid U1
  clear hown1 hg1 hat1 U1 F G c0 c2 c3 c4 f2 f3 f4
  go_wp2_with (at_builtin; refine wpList_append_src _ rfl (.tmp 30) (.tmp 31) 28 rfl w.heap.size 5 i0 (.int .u8 0) 1 1 Try.underlying28 hi hz0 hz1 hz2 rfl (by decide) v1 q.length (q.map B) rfl HO1.out A bs.length c (bs.map B) rfl ?l1a (HB.out.upd0 HU1.out).cells (B_one _) ?l2a ?l3a ?l4a ?l5a)
  try (case l1a => simp)
  try (case l2a => unfold maxLen; omega)
  try (case l3a => omega)
  try (case l4a => exact HU1.out.size)
  intro v2 w2 hown2 hg2 hat2
  obtain ⟨A2, cap2, rfl⟩ := own_slice hown2
  have hge1 : ∀ k, v1.ownBlock = some k → w.heap.size ≤ k := own_ge HO1.out
  have U2 : Upd [] w w2 := HU1.out.grown hg2 (fun k hk => .inl (hge1 k hk))
  have hm1 : m < w1.heap.size := by have := HU1.out.size; have := lt_of_block h.hb; omega
  have hb2 : w2.heap[m]? = w1.heap[m]? := hg2.block m hm1 (fun e => by have := hge1 m e.symm; have := lt_of_block h.hb; omega)
  have c0'' : w2.cell? ⟨m, 0, none⟩ = _ := (World.cell?_of_block hb2).trans c0'
  have f3'' : w2.frozen? ⟨m, 3, none⟩ = _ := (World.frozen?_of_block hb2).trans f3'
  have f4'' : w2.frozen? ⟨m, 4, none⟩ = _ := (World.frozen?_of_block hb2).trans f4'
  have c3'' : w2.cell? ⟨m, 3, none⟩ = _ := (World.cell?_of_block hb2).trans c3'
  rw [← List.map_append] at hown2
  have HO2 := Lib.hid hown2; have HU2 := Lib.hid U2
  have HB2 := Lib.hid (((HU2.out.block m (lt_of_block h.hb) (by simp)).trans h.hb))
  clear hown2 hg2 hat2 U2 c3' f3' c0' f4' hb2
  go_wp2_with fail
  have e0 : (w2.setCell ⟨m, 3, none⟩ (.slice A2 (q.length + bs.length) cap2)).cell? ⟨m, 0, none⟩ = some (.int .i64 (H : Int)) := (World.cell?_setCell_other _ _ _ _ (by simp)).trans c0''
  have e3 : (w2.setCell ⟨m, 3, none⟩ (.slice A2 (q.length + bs.length) cap2)).cell? ⟨m, 3, none⟩ = some (.slice A2 (q.length + bs.length) cap2) := cell_of (i := 3) (heap_setCell_self HB2.out _) rfl
  have d4 : (w2.setCell ⟨m, 3, none⟩ (.slice A2 (q.length + bs.length) cap2)).cell? ⟨m, 4, none⟩ = some (.bool false) := cell_of (i := 4) (heap_setCell_self HB2.out _) rfl
  have e4 : (w2.setCell ⟨m, 3, none⟩ (.slice A2 (q.length + bs.length) cap2)).frozen? ⟨m, 4, none⟩ = false := free_of (heap_setCell_self HB2.out _)
  refine wp_region_proc [(0, 0), (1, 0), (2, 0), (3, 0), (4, 0), (5, 0), (6, 0), (7, 0), (8, 0), (9, 0), (10, 0), (11, 0), (12, 0), (13, 2)] (fun W => W.cell? ⟨m, 0, none⟩ = some (.int .i64 (H : Int)) ∧ W.cell? ⟨m, 3, none⟩ = some (.slice A2 (q.length + bs.length) cap2)) (by kernel_rfl) (by kernel_rfl) (fun c a w t v h => by cases t <;> exact h) ⟨e0, e3⟩ ?_
  repeat
    (first
      | (apply proc_held
         case ho => simp only [List.getElem?_toArray, List.getElem?_cons_succ, List.getElem?_cons_zero]; rfl
         case hg => rfl
         case hv => intro W hW; (try dsimp only at hW); go_simp; rfl
         case ha => go_simp; rfl)
      | (apply proc_held_on
         case ho => simp only [List.getElem?_toArray, List.getElem?_cons_succ, List.getElem?_cons_zero]; rfl
         case hg => rfl
         case hv => intro W hW; (try dsimp only at hW); go_simp; rfl
         case ha => go_simp; rfl)
      | (apply proc_off
         case ho => simp only [List.getElem?_toArray, List.getElem?_cons_succ, List.getElem?_cons_zero]; rfl
         case hg => rfl
         case ha => go_simp; rfl))
  apply proc_last
  case ho => simp only [List.getElem?_toArray, List.getElem?_cons_succ, List.getElem?_cons_zero]; rfl
  simp only [World.drew_eq]
  go_wp2_with fail
  refine ⟨fun _ => True, trivial, proc_nil ?_⟩
  go_wp2
  go_ret
  have hv2 := own_ge HO2.out
  have hms := lt_of_block h.hb
  refine ⟨rfl, ⟨.slice A2 (q.length + bs.length) cap2, ⟨?_, ?_, ?_⟩, hv2⟩, ?_⟩
  · have : decide ((H : Int) ≤ (q.length : Int) + bs.length) = p2 := by rw [HP.out]; apply decide_eq_decide.2; omega
    simp only [heap_drew]
    rw [heap_setCell_self (heap_setCell_self HB2.out _), this]; rfl
  · refine (bytes_of_own HO2.out).upd (F := [m]) ((((Upd.refl _ _).setCell (.inr (by simp)) _).drewN 1).setCell (.inr (by simp)) _) (fun k hk => ?_)
    have := hv2 k hk; simp; omega
  · intro k hk e; have := hv2 k hk; omega
  · exact (((HU2.out.weaken (by simp)).setCell (.inr (by simp)) _).drewN 1).setCell (.inr (by simp)) _
set_option maxHeartbeats 800000 in
set_option maxRecDepth 100000 in
theorem rstrm_read {w : World} {m H L : Nat} {st : Int} {p : Bool} {v : Value} {q : List UInt8} (h : RStrm w m H L st p v q) (hq : q.length ≤ 4096) (hLm : L ≤ 1024) (t : Int) (ht : (Lit.int .i64 t).wf = true) (n : Nat) (hn : n = min t.toNat q.length) (p2 : Bool) (hp2 : p2 = (p && decide (L < q.length - n))) :
    Calls Try.prog 49 #[.pointer (some ⟨m, 0, none⟩), .int .i64 t] w fun e w' => ∃ v', e = .returned v' ∧ BytesV w' v' (q.take n) ∧ (∀ k, v'.ownBlock = some k → w.heap.size ≤ k) ∧
      (∃ v', RStrm w' m H L st p2 v' (q.drop n) ∧ (∀ k, v'.ownBlock = some k → w.heap.size ≤ k)) ∧ Upd [m] w w' := by
  obtain ⟨Av, cv, rfl, hcv, hv⟩ := h.by_
  obtain ⟨c0, c1, c2, c3, c4, f2, f3, f4⟩ := h.cells
  obtain ⟨x, hx⟩ : ∃ x, x = (if t < 0 then 0 else t) := ⟨_, rfl⟩
  have e2 : (if (q.length : Int) < x then (q.length : Int) else x) = n := by rw [hx]; (repeat' split) <;> omega
  have e1 := hx.symm
  clear hx c0 c2 f2
  have Hn := Lib.hid hn; clear hn
  have HV := Lib.hid hv; clear hv
  have HP := Lib.hid hp2; clear hp2
  obtain ⟨i0, hi, hz0, hz1, hz2⟩ := info_parts Try.info5
  have hncv : n ≤ cv := by have := Hn.out; omega
  have hnq : n ≤ q.length := by have := Hn.out; omega
  have hle0 : q.length - n ≤ L ∨ (¬ q.length - n ≤ L ∧ cv ≠ n) := by omega
  by_cases hcn : cv = n
  · obtain rfl : n = cv := hcn.symm
    go_enter Try.func49, Try.ntmps49
    go_wp2_with (at_builtin; refine wpList_append_src _ rfl (.const (.slice none 0 0)) (.tmp 20) 28 rfl w.heap.size 5 i0 (.int .u8 0) 1 1 Try.underlying28 hi hz0 hz1 hz2 rfl (by decide) (.slice none 0 0) 0 [] rfl (World.ownsRow_nil _ _ _ _) Av n n ((q.take n).map B) rfl ?k1a (HV.out.take n).cells (B_one _) ?k2a ?k3a ?k4a ?k5a)
    try (case k1a => simp; try omega)
    try (case k2a => unfold maxLen; omega)
    try (case k3a => omega)
    try (case k4a => exact Nat.le_refl _)
    intro v1 w1 hown1 hg1 hat1
    try simp only [Nat.zero_add, List.nil_append] at hown1
    have U1 : Upd [] w w1 := ((Upd.refl [] w)).grown hg1 (by simp [Value.ownBlock])
    have F : ∀ i u, w.cell? ⟨m, i, none⟩ = some u → w1.cell? ⟨m, i, none⟩ = some u := fun i u hu => (World.cell?_of_block (U1.block m (World.block_lt_of_cell? _ _ hu) (by simp))).trans hu
    have G : ∀ i, w.frozen? ⟨m, i, none⟩ = false → w1.frozen? ⟨m, i, none⟩ = false := fun i hu => (World.frozen?_of_block (U1.block m (lt_of_block h.hb) (by simp))).trans hu
    have d1 := F _ _ c1; have d3 := F _ _ c3; have d4 := F _ _ c4; have g3 := G _ f3; have g4 := G _ f4
    have HO1 := Lib.hid hown1; have HU1 := Lib.hid U1
    clear hown1 hg1 hat1 U1 F G c1 c3 c4 f3 f4
    go_wp2_with (at_builtin; refine wpList_append_src _ rfl (.const (.slice none 0 0)) (.tmp 28) 28 rfl w1.heap.size 5 i0 (.int .u8 0) 1 1 Try.underlying28 hi hz0 hz1 hz2 rfl (by decide) (.slice none 0 0) 0 [] rfl (World.ownsRow_nil _ _ _ _) Av 0 0 ((q.drop n).map B) rfl ?l1a (by rw [List.drop_eq_nil_of_le (by omega)]; exact (BytesAt.nil _ _).cells) (B_one _) ?l2a ?l3a ?l4a ?l5a)
    try (case l1a => simp; try omega)
    try (case l2a => unfold maxLen; omega)
    try (case l3a => omega)
    try (case l4a => exact Nat.le_refl _)
    intro v2 w2 hown2 hg2 hat2
    try simp only [Nat.zero_add, List.nil_append] at hown2
    obtain ⟨A2, cap2, rfl⟩ := own_slice hown2
    have U2 : Upd [] w1 w2 := ((Upd.refl [] w1)).grown hg2 (by simp [Value.ownBlock])
    have F : ∀ i u, w1.cell? ⟨m, i, none⟩ = some u → w2.cell? ⟨m, i, none⟩ = some u := fun i u hu => (World.cell?_of_block (U2.block m (World.block_lt_of_cell? _ _ hu) (by simp))).trans hu
    have G : ∀ i, w1.frozen? ⟨m, i, none⟩ = false → w2.frozen? ⟨m, i, none⟩ = false := fun i hu => (World.frozen?_of_block (U2.block m (by have := HU1.out.size; have := lt_of_block h.hb; omega) (by simp))).trans hu
    have e1 := F _ _ d1; have e3 := F _ _ d3; have e4 := F _ _ d4; have g3' := G _ g3; have g4' := G _ g4
    have HO2 := Lib.hid hown2; have HU2 := Lib.hid U2
    have hml := lt_of_block h.hb
    have hm2 := ((HU2.out.block m (by have := HU1.out.size; omega) (by simp)).trans (HU1.out.block m hml (by simp))).trans h.hb
    clear hown2 hg2 hat2 U2 F G d1 d3 d4 g3 g4
    have HM := Lib.hid hm2
    clear hm2
    have hv1 := own_ge HO1.out
    have hv2 := own_ge HO2.out
    have hU := HU1.out.trans HU2.out (by simp)
    have HV1 := Lib.hid hv1; have HV2 := Lib.hid hv2; have HU := Lib.hid hU
    clear hv1 hv2 hU
    try rw [show q.length - n = 0 by omega] at hle0
    rcases hle0 with hle | ⟨hle, _⟩
    · have hi1 : ((q.length - n : Nat) : Int) ≤ L := by omega
      go_wp2_with fail
      have a1 : (w2.setCell ⟨m, 3, none⟩ (.slice A2 (0) cap2)).cell? ⟨m, 1, none⟩ = some (.int .i64 (L : Int)) := (World.cell?_setCell_other _ _ _ _ (by simp)).trans e1
      have a3 : (w2.setCell ⟨m, 3, none⟩ (.slice A2 (0) cap2)).cell? ⟨m, 3, none⟩ = some (.slice A2 (0) cap2) := cell_of (i := 3) (heap_setCell_self HM.out _) rfl
      have a4 : (w2.setCell ⟨m, 3, none⟩ (.slice A2 (0) cap2)).cell? ⟨m, 4, none⟩ = some (.bool p) := (World.cell?_setCell_other _ _ _ _ (by simp)).trans e4
      have b4 : (w2.setCell ⟨m, 3, none⟩ (.slice A2 (0) cap2)).frozen? ⟨m, 4, none⟩ = false := free_of (heap_setCell_self HM.out _)
      go_quiet (fail)
      go_wp2
      go_ret
      have hpp : p2 = false := by rw [HP.out]; simp; intro _; omega
      subst hpp
      refine ⟨v1, rfl, ?_, HV1.out, ⟨_, ⟨?_, ?_, ?_⟩, fun k hk => by have := HV2.out k hk; have := HU1.out.size; omega⟩, ?_⟩
      · refine ((bytes_of_own (bs := q.take n) (by rw [List.map_take]; exact HO1.out)).upd HU2.out (by simp)).upd (F := [m]) ((((Upd.refl _ _).setCell (.inr (by simp)) _).drewN _).setCell (.inr (by simp)) _) (fun k hk => ?_)
        have := HV1.out k hk; simp; omega
      · exact (heap_setCell_self (w := (w2.setCell ⟨m, 3, none⟩ _).drewN _) (heap_setCell_self HM.out _) _).trans rfl
      · refine (bytes_of_own (bs := q.drop n) (by rw [List.map_drop]; exact HO2.out)).upd (F := [m]) ((((Upd.refl _ _).setCell (.inr (by simp)) _).drewN _).setCell (.inr (by simp)) _) (fun k hk => ?_)
        have := HV2.out k hk; have := HU1.out.size; simp; omega
      · intro k hk e; have := HV2.out k hk; have := HU1.out.size; omega
      · exact (((HU.out.weaken (by simp)).setCell (.inr (by simp)) _).drewN _).setCell (.inr (by simp)) _
    · have hi1 : ¬ ((q.length - n : Nat) : Int) ≤ L := by omega
      omega
  · go_enter Try.func49, Try.ntmps49
    go_wp2_with (at_builtin; refine wpList_append_src _ rfl (.const (.slice none 0 0)) (.tmp 20) 28 rfl w.heap.size 5 i0 (.int .u8 0) 1 1 Try.underlying28 hi hz0 hz1 hz2 rfl (by decide) (.slice none 0 0) 0 [] rfl (World.ownsRow_nil _ _ _ _) Av n cv ((q.take n).map B) rfl ?k1b (HV.out.take n).cells (B_one _) ?k2b ?k3b ?k4b ?k5b)
    try (case k1b => simp; try omega)
    try (case k2b => unfold maxLen; omega)
    try (case k3b => omega)
    try (case k4b => exact Nat.le_refl _)
    intro v1 w1 hown1 hg1 hat1
    try simp only [Nat.zero_add, List.nil_append] at hown1
    have U1 : Upd [] w w1 := ((Upd.refl [] w)).grown hg1 (by simp [Value.ownBlock])
    have F : ∀ i u, w.cell? ⟨m, i, none⟩ = some u → w1.cell? ⟨m, i, none⟩ = some u := fun i u hu => (World.cell?_of_block (U1.block m (World.block_lt_of_cell? _ _ hu) (by simp))).trans hu
    have G : ∀ i, w.frozen? ⟨m, i, none⟩ = false → w1.frozen? ⟨m, i, none⟩ = false := fun i hu => (World.frozen?_of_block (U1.block m (lt_of_block h.hb) (by simp))).trans hu
    have d1 := F _ _ c1; have d3 := F _ _ c3; have d4 := F _ _ c4; have g3 := G _ f3; have g4 := G _ f4
    have HO1 := Lib.hid hown1; have HU1 := Lib.hid U1
    clear hown1 hg1 hat1 U1 F G c1 c3 c4 f3 f4
    go_wp2_with (at_builtin; refine wpList_append_src _ rfl (.const (.slice none 0 0)) (.tmp 28) 28 rfl w1.heap.size 5 i0 (.int .u8 0) 1 1 Try.underlying28 hi hz0 hz1 hz2 rfl (by decide) (.slice none 0 0) 0 [] rfl (World.ownsRow_nil _ _ _ _) (Av.map (fun x => x.add n)) (q.length - n) (cv - n) ((q.drop n).map B) rfl ?l1b ((HV.out.upd0 HU1.out).drop n).cells (B_one _) ?l2b ?l3b ?l4b ?l5b)
    try (case l1b => simp; try omega)
    try (case l2b => unfold maxLen; omega)
    try (case l3b => omega)
    try (case l4b => exact Nat.le_refl _)
    intro v2 w2 hown2 hg2 hat2
    try simp only [Nat.zero_add, List.nil_append] at hown2
    obtain ⟨A2, cap2, rfl⟩ := own_slice hown2
    have U2 : Upd [] w1 w2 := ((Upd.refl [] w1)).grown hg2 (by simp [Value.ownBlock])
    have F : ∀ i u, w1.cell? ⟨m, i, none⟩ = some u → w2.cell? ⟨m, i, none⟩ = some u := fun i u hu => (World.cell?_of_block (U2.block m (World.block_lt_of_cell? _ _ hu) (by simp))).trans hu
    have G : ∀ i, w1.frozen? ⟨m, i, none⟩ = false → w2.frozen? ⟨m, i, none⟩ = false := fun i hu => (World.frozen?_of_block (U2.block m (by have := HU1.out.size; have := lt_of_block h.hb; omega) (by simp))).trans hu
    have e1 := F _ _ d1; have e3 := F _ _ d3; have e4 := F _ _ d4; have g3' := G _ g3; have g4' := G _ g4
    have HO2 := Lib.hid hown2; have HU2 := Lib.hid U2
    have hml := lt_of_block h.hb
    have hm2 := ((HU2.out.block m (by have := HU1.out.size; omega) (by simp)).trans (HU1.out.block m hml (by simp))).trans h.hb
    clear hown2 hg2 hat2 U2 F G d1 d3 d4 g3 g4
    have HM := Lib.hid hm2
    clear hm2
    have hv1 := own_ge HO1.out
    have hv2 := own_ge HO2.out
    have hU := HU1.out.trans HU2.out (by simp)
    have HV1 := Lib.hid hv1; have HV2 := Lib.hid hv2; have HU := Lib.hid hU
    clear hv1 hv2 hU
    try rw [show q.length - n = 0 by omega] at hle0
    rcases hle0 with hle | ⟨hle, _⟩
    · have hi1 : ((q.length - n : Nat) : Int) ≤ L := by omega
      go_wp2_with fail
      have a1 : (w2.setCell ⟨m, 3, none⟩ (.slice A2 (q.length - n) cap2)).cell? ⟨m, 1, none⟩ = some (.int .i64 (L : Int)) := (World.cell?_setCell_other _ _ _ _ (by simp)).trans e1
      have a3 : (w2.setCell ⟨m, 3, none⟩ (.slice A2 (q.length - n) cap2)).cell? ⟨m, 3, none⟩ = some (.slice A2 (q.length - n) cap2) := cell_of (i := 3) (heap_setCell_self HM.out _) rfl
      have a4 : (w2.setCell ⟨m, 3, none⟩ (.slice A2 (q.length - n) cap2)).cell? ⟨m, 4, none⟩ = some (.bool p) := (World.cell?_setCell_other _ _ _ _ (by simp)).trans e4
      have b4 : (w2.setCell ⟨m, 3, none⟩ (.slice A2 (q.length - n) cap2)).frozen? ⟨m, 4, none⟩ = false := free_of (heap_setCell_self HM.out _)
      go_quiet (fail)
      go_wp2
      go_ret
      have hpp : p2 = false := by rw [HP.out]; simp; intro _; omega
      subst hpp
      refine ⟨v1, rfl, ?_, HV1.out, ⟨_, ⟨?_, ?_, ?_⟩, fun k hk => by have := HV2.out k hk; have := HU1.out.size; omega⟩, ?_⟩
      · refine ((bytes_of_own (bs := q.take n) (by rw [List.map_take]; exact HO1.out)).upd HU2.out (by simp)).upd (F := [m]) ((((Upd.refl _ _).setCell (.inr (by simp)) _).drewN _).setCell (.inr (by simp)) _) (fun k hk => ?_)
        have := HV1.out k hk; simp; omega
      · exact (heap_setCell_self (w := (w2.setCell ⟨m, 3, none⟩ _).drewN _) (heap_setCell_self HM.out _) _).trans rfl
      · refine (bytes_of_own (bs := q.drop n) (by rw [List.map_drop]; exact HO2.out)).upd (F := [m]) ((((Upd.refl _ _).setCell (.inr (by simp)) _).drewN _).setCell (.inr (by simp)) _) (fun k hk => ?_)
        have := HV2.out k hk; have := HU1.out.size; simp; omega
      · intro k hk e; have := HV2.out k hk; have := HU1.out.size; omega
      · exact (((HU.out.weaken (by simp)).setCell (.inr (by simp)) _).drewN _).setCell (.inr (by simp)) _
    · have hi1 : ¬ ((q.length - n : Nat) : Int) ≤ L := by omega
      go_wp2_with fail
      have a1 : (w2.setCell ⟨m, 3, none⟩ (.slice A2 (q.length - n) cap2)).cell? ⟨m, 1, none⟩ = some (.int .i64 (L : Int)) := (World.cell?_setCell_other _ _ _ _ (by simp)).trans e1
      have a3 : (w2.setCell ⟨m, 3, none⟩ (.slice A2 (q.length - n) cap2)).cell? ⟨m, 3, none⟩ = some (.slice A2 (q.length - n) cap2) := cell_of (i := 3) (heap_setCell_self HM.out _) rfl
      have a4 : (w2.setCell ⟨m, 3, none⟩ (.slice A2 (q.length - n) cap2)).cell? ⟨m, 4, none⟩ = some (.bool p) := (World.cell?_setCell_other _ _ _ _ (by simp)).trans e4
      have b4 : (w2.setCell ⟨m, 3, none⟩ (.slice A2 (q.length - n) cap2)).frozen? ⟨m, 4, none⟩ = false := free_of (heap_setCell_self HM.out _)
      go_quiet (fail)
      go_wp2
      go_ret
      have hpp : p2 = p := by rw [HP.out]; simp; intro _; omega
      subst hpp
      refine ⟨v1, rfl, ?_, HV1.out, ⟨_, ⟨?_, ?_, ?_⟩, fun k hk => by have := HV2.out k hk; have := HU1.out.size; omega⟩, ?_⟩
      · refine ((bytes_of_own (bs := q.take n) (by rw [List.map_take]; exact HO1.out)).upd HU2.out (by simp)).upd (F := [m]) ((((Upd.refl _ _).setCell (.inr (by simp)) _).drewN _)) (fun k hk => ?_)
        have := HV1.out k hk; simp; omega
      · try simp only [heap_drewN]
        rw [heap_setCell_self HM.out _]; rfl
      · refine (bytes_of_own (bs := q.drop n) (by rw [List.map_drop]; exact HO2.out)).upd (F := [m]) ((((Upd.refl _ _).setCell (.inr (by simp)) _).drewN _)) (fun k hk => ?_)
        have := HV2.out k hk; have := HU1.out.size; simp; omega
      · intro k hk e; have := HV2.out k hk; have := HU1.out.size; omega
      · exact (((HU.out.weaken (by simp)).setCell (.inr (by simp)) _).drewN _)
end Go.Proofs.Ytmcbllpkgeihgaa
