-- Contracts of lockkeeperref10.
import Derived.Test.YtmcbllpkgeihgaaBase
import Derived.Test.YtmcbllpkgeihgaaProc
import Derived.Test.YtmcbllpkgeihgaaProg
import Derived.Test.YtmcbllpkgeihgaaInfo
import Derived.Test.YtmcbllpkgeihgaaApp
import Derived.Outline
namespace Go.Proofs.Ytmcbllpkgeihgaa
set_option linter.unusedSimpArgs false
open Go.RowKit Go.Lk
structure RRing (w : World) (m S : Nat) (v : Value) (bs : List UInt8) : Prop where
  hb : w.heap[m]? = some (.cells #[.int .i64 (S : Int), v] 40 (0, 0))
  by_ : BytesV w v bs
  ne : ∀ k, v.ownBlock = some k → k ≠ m
theorem RRing.drewN {w : World} {m S : Nat} {v : Value} {bs : List UInt8} (h : RRing w m S v bs) (k : Nat) : RRing (w.drewN k) m S v bs := ⟨h.hb, h.by_, h.ne⟩
theorem RRing.upd {w w' : World} {m S : Nat} {v : Value} {bs : List UInt8} {F : List Nat} (h : RRing w m S v bs) (hu : Upd F w w') (h1 : m ∉ F) (h2 : ∀ k, v.ownBlock = some k → k ∉ F) : RRing w' m S v bs :=
  ⟨(hu.block m (lt_of_block h.hb) h1).trans h.hb, h.by_.upd hu h2, h.ne⟩
set_option maxHeartbeats 400000 in
set_option maxRecDepth 100000 in
theorem rring_put (w : World) (m S : Nat) (v : Value) (q : List UInt8) (h : RRing w m S v q) (hq : q.length ≤ S) (hS : S ≤ 4096) (A : Option Addr) (bs : List UInt8) (c : Nat) (hc : bs.length ≤ c) (hbs : BytesAt w A bs) (hlen : bs.length ≤ 100000) (n : Nat) (hn : n = min bs.length (S - q.length)) :
    Calls Try.prog 22 #[.pointer (some ⟨m, 0, none⟩), .slice A bs.length c] w fun e w' => e = .returned (.int .i64 (n : Int)) ∧
      (∃ v', RRing w' m S v' (q ++ bs.take n) ∧ (∀ k, v'.ownBlock = some k → w.heap.size ≤ k)) ∧ Upd [m] w w' := by
  obtain ⟨Av, cv, rfl, hcv, hv⟩ := h.by_
  have c0 : w.cell? ⟨m, 0, none⟩ = _ := cell_of (i := 0) h.hb rfl
  have c1 : w.cell? ⟨m, 1, none⟩ = _ := cell_of (i := 1) h.hb rfl
  have f1 : w.frozen? ⟨m, 1, none⟩ = false := free_of h.hb
  have e2 : (if (S : Int) - q.length < (bs.length : Int) then (S : Int) - q.length else (bs.length : Int)) = n := by split <;> omega
  have Hn := Lib.hid hn; clear hn
  go_enter Try.func22, Try.ntmps22
  go_wp2
  go_quiet (fail)
  go_wp2
  have hnc : n ≤ c := by have := Hn.out; omega
  obtain ⟨i0, hi, hz0, hz1, hz2⟩ := info_parts Try.info5
  have HV := Lib.hid hv; have HB := Lib.hid hbs; clear hv hbs c0
  refine wp_region_proc [(0, 0), (1, 0), (2, 0), (3, 0), (4, 0), (6, 0), (7, 0), (8, 0), (5, 1), (9, 1), (10, 0), (11, 0), (12, 2)] (fun W => W.cell? ⟨m, 1, none⟩ = some (.slice Av q.length cv)) (by kernel_rfl) (by kernel_rfl) (fun c a w t v h => by cases t <;> exact h) c1 ?_
  repeat
    (apply proc_held
     case ho => simp only [List.getElem?_toArray, List.getElem?_cons_succ, List.getElem?_cons_zero]; rfl
     case hg => rfl
     case hv => intro W hW; (try dsimp only at hW); go_simp; rfl
     case ha => go_simp; rfl)
  apply proc_eff
  case ho => simp only [List.getElem?_toArray, List.getElem?_cons_succ, List.getElem?_cons_zero]; rfl
  simp only [World.drew_eq]
  refine wpList_append_src _ rfl (.const (.slice none 0 0)) (.tmp 23) 28 rfl w.heap.size 5 i0 (.int .u8 0) 1 1 Try.underlying28 hi hz0 hz1 hz2 rfl (by decide) (.slice none 0 0) 0 [] rfl (World.ownsRow_nil _ _ _ _) Av q.length cv (q.map B) rfl (by simp) HV.out.cells (B_one q) (by unfold maxLen; omega) (by omega) (Nat.le_refl _) ?_
  intro v1 w1 hown1 hg1 hat1
  have U1 : Upd [] w w1 := (((Upd.refl [] w).drewN nq).drew).grown hg1 (by simp [Value.ownBlock])
  have c1' : w1.cell? ⟨m, 1, none⟩ = _ := (World.cell?_of_block (U1.block m (World.block_lt_of_cell? _ _ c1) (by simp))).trans c1
  have f1' : w1.frozen? ⟨m, 1, none⟩ = false := (World.frozen?_of_block (U1.block m (World.block_lt_of_cell? _ _ c1) (by simp))).trans f1
  try simp only [Nat.zero_add, List.nil_append] at hown1
  have HO1 := Lib.hid hown1; have HU1 := Lib.hid U1; have HA1 := Lib.hid hat1
  clear hown1 hg1 hat1 U1 c1 f1
  go_wp2_with fail
  refine ⟨_, fun _ h => h, c1', ?_⟩
  apply proc_eff
  case ho => simp only [List.getElem?_toArray, List.getElem?_cons_succ, List.getElem?_cons_zero]; rfl
  refine wpList_append_src _ rfl (.tmp 24) (.tmp 27) 28 rfl w.heap.size 5 i0 (.int .u8 0) 1 1 Try.underlying28 hi hz0 hz1 hz2 rfl (by decide) v1 q.length (q.map B) rfl HO1.out A n c ((bs.take n).map B) rfl (by have := Hn.out; simp; omega) ((HB.out.upd0 HU1.out).take n).cells (B_one _) (by have := Hn.out; unfold maxLen; omega) (by have := Hn.out; omega) HU1.out.size ?_
  intro v2 w2 hown2 hg2 hat2
  obtain ⟨A2, cap2, rfl⟩ := own_slice hown2
  have hge1 : ∀ k, v1.ownBlock = some k → w.heap.size ≤ k := own_ge HO1.out
  have U2 : Upd [] w w2 := HU1.out.grown hg2 (fun k hk => .inl (hge1 k hk))
  have c2' : w2.cell? ⟨m, 1, none⟩ = _ := (World.cell?_of_block (hg2.block m (World.block_lt_of_cell? _ _ c1') (fun e => by have := hge1 m e.symm; have := lt_of_block h.hb; omega))).trans c1'
  have f2' : w2.frozen? ⟨m, 1, none⟩ = false := (World.frozen?_of_block (hg2.block m (World.block_lt_of_cell? _ _ c1') (fun e => by have := hge1 m e.symm; have := lt_of_block h.hb; omega))).trans f1'
  rw [← List.map_append] at hown2
  have HO2 := Lib.hid hown2; have HU2 := Lib.hid U2
  clear hown2 hg2 hat2 U2 c1' f1'
  go_wp2_with fail
  refine ⟨_, fun _ h => h, c2', ?_⟩
  repeat
    (apply proc_held
     case ho => simp only [List.getElem?_toArray, List.getElem?_cons_succ, List.getElem?_cons_zero]; rfl
     case hg => rfl
     case hv => intro W hW; (try dsimp only at hW); go_simp; rfl
     case ha => go_simp; rfl)
  apply proc_last
  case ho => simp only [List.getElem?_toArray, List.getElem?_cons_succ, List.getElem?_cons_zero]; rfl
  go_wp2
  refine ⟨fun _ => True, trivial, proc_nil ?_⟩
  go_wp2
  go_ret
  have hm2 := HU2.out.block m (lt_of_block h.hb) (by simp)
  have hv2 := own_ge HO2.out
  refine ⟨rfl, ⟨_, ⟨?_, ?_, ?_⟩, hv2⟩, ?_⟩
  · rw [heap_setCell_self (hm2.trans h.hb)]; rfl
  · refine (bytes_of_own HO2.out).upd (F := [m]) ((Upd.refl _ _).setCell (.inr (by simp)) _) (fun k hk => ?_)
    have := hv2 k hk; have := lt_of_block h.hb; simp; omega
  · intro k hk e; have := hv2 k hk; have := lt_of_block h.hb; omega
  · exact (HU2.out.weaken (by simp)).setCell (.inr (by simp)) _
set_option maxRecDepth 100000 in
theorem rring_new (w : World) (size : Int) (S : Nat) (hS : S = (min (max size 1) 4096).toNat) :
    Calls Try.prog 21 #[.int .i64 size] w fun e w' => ∃ m, e = .returned (.pointer (some ⟨m, 0, none⟩)) ∧ RRing w' m S (.slice none 0 0) [] ∧ Upd [] w w' ∧ m = w.heap.size := by
  obtain ⟨x, hx⟩ : ∃ x, x = (if size < 1 then 1 else size) := ⟨_, rfl⟩
  have e2 : (if (4096 : Int) < x then 4096 else x) = S := by rw [hx]; (repeat' split) <;> omega
  have e1 := hx.symm
  clear hx hS
  go_enter Try.func21, Try.ntmps21
  go_wp2
  go_ret
  exact ⟨w.heap.size, rfl, ⟨heap_alloc_self _, ⟨none, 0, rfl, Nat.le_refl _, fun j x hj => by cases hj⟩, fun k hk => by simp [Value.ownBlock] at hk⟩, (Upd.refl _ _).alloc _, rfl⟩
set_option maxHeartbeats 400000 in
set_option maxRecDepth 100000 in
theorem rring_clear (w : World) (m S : Nat) (v : Value) (q : List UInt8) (h : RRing w m S v q) :
    Calls Try.prog 25 #[.pointer (some ⟨m, 0, none⟩)] w fun e w' => e = .returned (.int .i64 (q.length : Int)) ∧ RRing w' m S (.slice none 0 0) [] ∧ Upd [m] w w' := by
  obtain ⟨Av, cv, rfl, hcv, hv⟩ := h.by_
  have c1 : w.cell? ⟨m, 1, none⟩ = _ := cell_of (i := 1) h.hb rfl
  have f1 : w.frozen? ⟨m, 1, none⟩ = false := free_of h.hb
  clear hv
  go_enter Try.func25, Try.ntmps25
  go_wp2
  go_ret
  refine ⟨rfl, ⟨?_, ⟨none, 0, rfl, Nat.le_refl _, fun j x hj => by cases hj⟩, fun k hk => by simp [Value.ownBlock] at hk⟩, ?_⟩
  · rw [heap_setCell_self h.hb]; rfl
  · exact (Upd.refl _ _).setCell (.inr (by simp)) _
set_option maxHeartbeats 400000 in
set_option maxRecDepth 100000 in
theorem rring_take (w : World) (m S : Nat) (v : Value) (q : List UInt8) (h : RRing w m S v q) (hq : q.length ≤ 4096) (t : Int) (n : Nat) (hn : n = min t.toNat q.length) :
    Calls Try.prog 23 #[.pointer (some ⟨m, 0, none⟩), .int .i64 t] w fun e w' => ∃ v', e = .returned v' ∧ BytesV w' v' (q.take n) ∧ (∀ k, v'.ownBlock = some k → w.heap.size ≤ k) ∧
      (∃ v', RRing w' m S v' (q.drop n) ∧ (∀ k, v'.ownBlock = some k → w.heap.size ≤ k)) ∧ Upd [m] w w' := by
  obtain ⟨Av, cv, rfl, hcv, hv⟩ := h.by_
  have c1 : w.cell? ⟨m, 1, none⟩ = _ := cell_of (i := 1) h.hb rfl
  have f1 : w.frozen? ⟨m, 1, none⟩ = false := free_of h.hb
  obtain ⟨x, hx⟩ : ∃ x, x = (if t < 0 then 0 else t) := ⟨_, rfl⟩
  have e2 : (if (q.length : Int) < x then (q.length : Int) else x) = n := by rw [hx]; (repeat' split) <;> omega
  have e1 := hx.symm
  clear hx
  have Hn := Lib.hid hn; clear hn
  have HV := Lib.hid hv; clear hv
  obtain ⟨i0, hi, hz0, hz1, hz2⟩ := info_parts Try.info5
  have hncv : n ≤ cv := by have := Hn.out; omega
  have hnq : n ≤ q.length := by have := Hn.out; omega
  by_cases hcn : cv = n
  · have hql : q.length = n := by omega
    obtain rfl : n = cv := hcn.symm
    have Hq := Lib.hid hql; clear hql
    go_enter Try.func23, Try.ntmps23
    go_wp2_with (at_builtin; refine wpList_append_src _ rfl (.const (.slice none 0 0)) (.tmp 20) 28 rfl w.heap.size 5 i0 (.int .u8 0) 1 1 Try.underlying28 hi hz0 hz1 hz2 rfl (by decide) (.slice none 0 0) 0 [] rfl (World.ownsRow_nil _ _ _ _) Av n n ((q.take n).map B) rfl ?k1a (HV.out.take n).cells (B_one _) ?k2a ?k3a ?k4a ?k5a)
    try (case k1a => simp; try omega)
    try (case k2a => unfold maxLen; omega)
    try (case k3a => omega)
    try (case k4a => exact Nat.le_refl _)
    intro v1 w1 hown1 hg1 hat1
    try simp only [Nat.zero_add, List.nil_append] at hown1
    have U1 : Upd [] w w1 := ((Upd.refl [] w)).grown hg1 (by simp [Value.ownBlock])
    have c1' : w1.cell? ⟨m, 1, none⟩ = _ := (World.cell?_of_block (U1.block m (World.block_lt_of_cell? _ _ c1) (by simp))).trans c1
    have f1' : w1.frozen? ⟨m, 1, none⟩ = false := (World.frozen?_of_block (U1.block m (World.block_lt_of_cell? _ _ c1) (by simp))).trans f1
    have HO1 := Lib.hid hown1; have HU1 := Lib.hid U1
    clear hown1 hg1 hat1 U1 c1 f1
    go_wp2_with (at_builtin; refine wpList_append_src _ rfl (.const (.slice none 0 0)) (.tmp 28) 28 rfl w1.heap.size 5 i0 (.int .u8 0) 1 1 Try.underlying28 hi hz0 hz1 hz2 rfl (by decide) (.slice none 0 0) 0 [] rfl (World.ownsRow_nil _ _ _ _) Av 0 0 ((q.drop n).map B) rfl ?l1a (by rw [List.drop_eq_nil_of_le (by have := Hq.out; omega)]; exact (BytesAt.nil _ _).cells) (B_one _) ?l2a ?l3a ?l4a ?l5a)
    try (case l1a => simp; try omega)
    try (case l2a => unfold maxLen; omega)
    try (case l3a => omega)
    try (case l4a => exact Nat.le_refl _)
    intro v2 w2 hown2 hg2 hat2
    try simp only [Nat.zero_add, List.nil_append] at hown2
    obtain ⟨A2, cap2, rfl⟩ := own_slice hown2
    have U2 : Upd [] w1 w2 := ((Upd.refl [] w1)).grown hg2 (by simp [Value.ownBlock])
    have c2' : w2.cell? ⟨m, 1, none⟩ = _ := (World.cell?_of_block (U2.block m (World.block_lt_of_cell? _ _ c1') (by simp))).trans c1'
    have f2' : w2.frozen? ⟨m, 1, none⟩ = false := (World.frozen?_of_block (U2.block m (World.block_lt_of_cell? _ _ c1') (by simp))).trans f1'
    have HO2 := Lib.hid hown2; have HU2 := Lib.hid U2
    clear hown2 hg2 hat2 U2 c1' f1'
    go_wp2
    go_ret
    have hml := lt_of_block h.hb
    have hm2 := (HU2.out.block m (by have := HU1.out.size; omega) (by simp)).trans (HU1.out.block m hml (by simp))
    have hv1 := own_ge HO1.out
    have hv2 := own_ge HO2.out
    have hU := HU1.out.trans HU2.out (by simp)
    refine ⟨v1, rfl, ?_, hv1, ⟨_, ⟨?_, ?_, ?_⟩, fun k hk => by have := hv2 k hk; have := HU1.out.size; omega⟩, ?_⟩
    · refine ((bytes_of_own (bs := q.take n) (by rw [List.map_take]; exact HO1.out)).upd HU2.out (by simp)).upd (F := [m]) ((Upd.refl _ _).setCell (.inr (by simp)) _) (fun k hk => ?_)
      have := hv1 k hk; simp; omega
    · rw [heap_setCell_self (hm2.trans h.hb)]; rfl
    · refine (bytes_of_own (bs := q.drop n) (by rw [List.map_drop]; exact HO2.out)).upd (F := [m]) ((Upd.refl _ _).setCell (.inr (by simp)) _) (fun k hk => ?_)
      have := hv2 k hk; have := HU1.out.size; simp; omega
    · intro k hk e; have := hv2 k hk; have := HU1.out.size; omega
    · exact (hU.weaken (by simp)).setCell (.inr (by simp)) _
  · go_enter Try.func23, Try.ntmps23
    go_wp2_with (at_builtin; refine wpList_append_src _ rfl (.const (.slice none 0 0)) (.tmp 20) 28 rfl w.heap.size 5 i0 (.int .u8 0) 1 1 Try.underlying28 hi hz0 hz1 hz2 rfl (by decide) (.slice none 0 0) 0 [] rfl (World.ownsRow_nil _ _ _ _) Av n cv ((q.take n).map B) rfl ?k1b (HV.out.take n).cells (B_one _) ?k2b ?k3b ?k4b ?k5b)
    try (case k1b => simp; try omega)
    try (case k2b => unfold maxLen; omega)
    try (case k3b => omega)
    try (case k4b => exact Nat.le_refl _)
    intro v1 w1 hown1 hg1 hat1
    try simp only [Nat.zero_add, List.nil_append] at hown1
    have U1 : Upd [] w w1 := ((Upd.refl [] w)).grown hg1 (by simp [Value.ownBlock])
    have c1' : w1.cell? ⟨m, 1, none⟩ = _ := (World.cell?_of_block (U1.block m (World.block_lt_of_cell? _ _ c1) (by simp))).trans c1
    have f1' : w1.frozen? ⟨m, 1, none⟩ = false := (World.frozen?_of_block (U1.block m (World.block_lt_of_cell? _ _ c1) (by simp))).trans f1
    have HO1 := Lib.hid hown1; have HU1 := Lib.hid U1
    clear hown1 hg1 hat1 U1 c1 f1
    go_wp2_with (at_builtin; refine wpList_append_src _ rfl (.const (.slice none 0 0)) (.tmp 28) 28 rfl w1.heap.size 5 i0 (.int .u8 0) 1 1 Try.underlying28 hi hz0 hz1 hz2 rfl (by decide) (.slice none 0 0) 0 [] rfl (World.ownsRow_nil _ _ _ _) (Av.map (fun x => x.add n)) (q.length - n) (cv - n) ((q.drop n).map B) rfl ?l1b ((HV.out.upd0 HU1.out).drop n).cells (B_one _) ?l2b ?l3b ?l4b ?l5b)
    try (case l1b => simp; try omega)
    try (case l2b => unfold maxLen; omega)
    try (case l3b => omega)
    try (case l4b => exact Nat.le_refl _)
    intro v2 w2 hown2 hg2 hat2
    try simp only [Nat.zero_add, List.nil_append] at hown2
    obtain ⟨A2, cap2, rfl⟩ := own_slice hown2
    have U2 : Upd [] w1 w2 := ((Upd.refl [] w1)).grown hg2 (by simp [Value.ownBlock])
    have c2' : w2.cell? ⟨m, 1, none⟩ = _ := (World.cell?_of_block (U2.block m (World.block_lt_of_cell? _ _ c1') (by simp))).trans c1'
    have f2' : w2.frozen? ⟨m, 1, none⟩ = false := (World.frozen?_of_block (U2.block m (World.block_lt_of_cell? _ _ c1') (by simp))).trans f1'
    have HO2 := Lib.hid hown2; have HU2 := Lib.hid U2
    clear hown2 hg2 hat2 U2 c1' f1'
    go_wp2
    go_ret
    have hml := lt_of_block h.hb
    have hm2 := (HU2.out.block m (by have := HU1.out.size; omega) (by simp)).trans (HU1.out.block m hml (by simp))
    have hv1 := own_ge HO1.out
    have hv2 := own_ge HO2.out
    have hU := HU1.out.trans HU2.out (by simp)
    refine ⟨v1, rfl, ?_, hv1, ⟨_, ⟨?_, ?_, ?_⟩, fun k hk => by have := hv2 k hk; have := HU1.out.size; omega⟩, ?_⟩
    · refine ((bytes_of_own (bs := q.take n) (by rw [List.map_take]; exact HO1.out)).upd HU2.out (by simp)).upd (F := [m]) ((Upd.refl _ _).setCell (.inr (by simp)) _) (fun k hk => ?_)
      have := hv1 k hk; simp; omega
    · rw [heap_setCell_self (hm2.trans h.hb)]; rfl
    · refine (bytes_of_own (bs := q.drop n) (by rw [List.map_drop]; exact HO2.out)).upd (F := [m]) ((Upd.refl _ _).setCell (.inr (by simp)) _) (fun k hk => ?_)
      have := hv2 k hk; have := HU1.out.size; simp; omega
    · intro k hk e; have := hv2 k hk; have := HU1.out.size; omega
    · exact (hU.weaken (by simp)).setCell (.inr (by simp)) _
end Go.Proofs.Ytmcbllpkgeihgaa
