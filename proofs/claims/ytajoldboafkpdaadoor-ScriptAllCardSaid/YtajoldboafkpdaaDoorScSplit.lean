-- Closed facts on api.Act; a row of acts of the program's own.
-- script.Split: contract.
import Derived.Test.YtajoldboafkpdaaDoorSplits
namespace Go.Proofs.YtajoldboafkpdaaDoor
set_option linter.unusedVariables false
set_option linter.unusedSimpArgs false
open Go.RowKit Go.Lk
theorem Tryd.infoAct : (Tryd.prog.info? 29).map (fun i => (i.zero, i.size, i.bytes)) = some (some (.agg #[.int .i64 0, .int .i64 0, .int .i64 0, .slice none 0 0, .int .u64 0, .int .i64 0, .slice none 0 0, .slice none 0 0, .string ⟨#[]⟩, .string ⟨#[]⟩, .string ⟨#[]⟩, .int .i64 0, .bool false, .slice none 0 0, .int .i64 0, .int .u64 0, .int .i64 0, .int .i64 0]), 18, 232) := by kernel_rfl
/-- Acts as cells. -/
def actsC (al : List (ActL × ActP)) : List Value := al.flatMap fun x => actCells x.1 x.2
theorem actsC_snoc (al : List (ActL × ActP)) (x : ActL × ActP) : actsC (al ++ [x]) = actsC al ++ actCells x.1 x.2 := by simp [actsC]
theorem actsC_append (al bl : List (ActL × ActP)) : actsC (al ++ bl) = actsC al ++ actsC bl := by simp [actsC]
theorem actsC_len : ∀ (al : List (ActL × ActP)), (actsC al).length = al.length * 18
  | [] => rfl
  | x :: al => by
    have := actsC_len al
    simp only [actsC, List.flatMap_cons, List.length_append, List.length_cons] at this ⊢
    rw [this]
    show 18 + _ = _
    omega
theorem actsC_one (al : List (ActL × ActP)) : ∀ u ∈ actsC al, u.oneCell' = true := by
  intro u hu
  obtain ⟨x, _, hx⟩ := List.mem_flatMap.1 hu
  have := actCells_all x.1 x.2
  exact (Array.all_eq_true_iff_forall_mem.1 this) u (by simpa using hx)
theorem actsC_at : ∀ (al : List (ActL × ActP)) (j : Nat) (x : ActL × ActP), al[j]? = some x → ∀ (i : Nat) v, (actCells x.1 x.2)[i]? = some v → (actsC al)[j * 18 + i]? = some v
  | [], j, x, h, _, _, _ => by cases h
  | y :: al, 0, x, h, i, v, hi => by
    obtain rfl : y = x := by simpa using h
    have hl : i < 18 := (List.getElem?_eq_some_iff.1 hi).1
    show (actCells y.1 y.2 ++ actsC al)[0 * 18 + i]? = _
    rw [List.getElem?_append_left (by show _ < 18; omega)]
    simpa using hi
  | y :: al, j + 1, x, h, i, v, hi => by
    have ih := actsC_at al j x (by simpa using h) i v hi
    show (actCells y.1 y.2 ++ actsC al)[(j + 1) * 18 + i]? = _
    rw [List.getElem?_append_right (by show 18 ≤ _; omega)]
    rw [show (j + 1) * 18 + i - (actCells y.1 y.2).length = j * 18 + i by show _ - 18 = _; omega]
    exact ih
theorem own_cell {w : World} {base n : Nat} {e : TypeId} {size : Nat} {v : Value} {xs : List Value} (h : w.ownsRow base e size v n xs) (i : Nat) (u : Value) (hi : xs[i]? = some u) : ∃ g cap, v = .slice (some ⟨g, 0, none⟩) n cap ∧ base ≤ g ∧ w.cell? ⟨g, i, none⟩ = some u := by
  have hl := h.1
  have hil : i < xs.length := (List.getElem?_eq_some_iff.1 hi).1
  rcases h.2 with ⟨rfl, rfl⟩ | ⟨g, cap, cur, rfl, hb, hh, hn, _, hs, ht⟩
  · rw [hl] at hil; omega
  · refine ⟨g, cap, rfl, hb, cell_of hh ?_⟩
    rw [← ht, List.getElem?_take_of_lt (by omega)] at hi
    simpa using hi
theorem own_acts {w : World} {base n c : Nat} {A : Option Addr} {al : List (ActL × ActP)} (h : w.ownsRow base 29 18 (.slice A n c) n (actsC al)) (ha : ∀ x ∈ al, ActAt w x.1 x.2) : ActsAt w A al := by
  intro j x hj
  have hx := ha x (List.mem_of_getElem? hj)
  obtain ⟨g, cap, hv, _, _⟩ := own_cell h (j * 18 + 0) _ (actsC_at al j x hj 0 _ rfl)
  injection hv with hA _ _
  subst hA
  refine ⟨g, 0, rfl, fun i v hi => ?_, hx⟩
  obtain ⟨g', cap', hv', _, hc⟩ := own_cell h (j * 18 + i) _ (actsC_at al j x hj i v hi)
  injection hv' with hA' _ _
  injection hA' with hA'
  injection hA' with hA' _ _
  subst hA'
  rw [Nat.zero_add]; exact hc
/-- The blocks that an act's slices lie in, where they are not empty. -/
def usedB (a : ActL) (p : ActP) : List Nat := (if a.ids = [] then [] else (p.ai.map (·.block)).toList) ++ (if a.headers = [] then [] else (p.ah.map (·.block)).toList) ++ (if a.bytes = [] then [] else (p.ab.map (·.block)).toList) ++ (if a.req.headers = [] then [] else (p.ar.map (·.block)).toList)
theorem usedB_blocks {a : ActL} {p : ActP} {k : Nat} (h : k ∈ usedB a p) : k ∈ p.blocks := by
  unfold usedB at h; unfold ActP.blocks
  simp only [List.mem_append] at h ⊢
  rcases h with ((h | h) | h) | h
  · exact .inl (.inl (.inl (by split at h; cases h; exact h)))
  · exact .inl (.inl (.inr (by split at h; cases h; exact h)))
  · exact .inl (.inr (by split at h; cases h; exact h))
  · exact .inr (by split at h; cases h; exact h)
theorem ActAt.upd3 {w w1 : World} {a : ActL} {p : ActP} {F : List Nat} (h : ActAt w a p) (hu : Upd F w w1) (hF : ∀ k ∈ usedB a p, k ∉ F) : ActAt w1 a p := by
  refine ⟨?_, ?_, ?_, h.bcp, ?_⟩
  · by_cases he : a.ids = []
    · rw [he]; intro j x hj; cases hj
    · exact h.ids.upd hu (fun bb ao e => hF bb (by simp [usedB, e, he]))
  · by_cases he : a.headers = []
    · rw [he]; intro j x hj; cases hj
    · exact h.hds.upd hu (fun bb ao e => hF bb (by simp [usedB, e, he]))
  · by_cases he : a.bytes = []
    · rw [he]; intro j x hj; cases hj
    · exact h.bts.upd hu (fun bb ao e => hF bb (by simp [usedB, e, he]))
  · by_cases he : a.req.headers = []
    · rw [he]; intro j x hj; cases hj
    · exact h.rhd.upd hu (fun bb ao e => hF bb (by simp [usedB, e, he]))
theorem ActAt.lt {w : World} {a : ActL} {p : ActP} (h : ActAt w a p) : ∀ k ∈ usedB a p, k < w.heap.size := by
  intro k hk
  unfold usedB at hk
  simp only [List.mem_append] at hk
  have hd : ∀ {α} {l : List α}, l ≠ [] → ∃ x, l[0]? = some x := fun {α l} hl => by cases l with | nil => exact absurd rfl hl | cons x l => exact ⟨x, rfl⟩
  rcases hk with ((hk | hk) | hk) | hk
  · split at hk
    · cases hk
    · rename_i he
      obtain ⟨x, hx⟩ := hd he
      obtain ⟨ab, ao, e, hc⟩ := h.ids 0 x hx
      rw [e] at hk; obtain rfl : k = ab := by simpa using hk
      exact World.block_lt_of_cell? _ _ hc
  · split at hk
    · cases hk
    · rename_i he
      obtain ⟨x, hx⟩ := hd he
      obtain ⟨ab, ao, e, hc, _⟩ := h.hds 0 x hx
      rw [e] at hk; obtain rfl : k = ab := by simpa using hk
      exact World.block_lt_of_cell? _ _ hc
  · split at hk
    · cases hk
    · rename_i he
      obtain ⟨x, hx⟩ := hd he
      obtain ⟨ab, ao, e, hc⟩ := h.bts 0 x hx
      rw [e] at hk; obtain rfl : k = ab := by simpa using hk
      exact World.block_lt_of_cell? _ _ hc
  · split at hk
    · cases hk
    · rename_i he
      obtain ⟨x, hx⟩ := hd he
      obtain ⟨ab, ao, e, hc, _⟩ := h.rhd 0 x hx
      rw [e] at hk; obtain rfl : k = ab := by simpa using hk
      exact World.block_lt_of_cell? _ _ hc
theorem own_lt {w : World} {base n : Nat} {e : TypeId} {size : Nat} {v : Value} {xs : List Value} (h : w.ownsRow base e size v n xs) : ∀ k, v.ownBlock = some k → k < w.heap.size := by
  intro k hk
  rcases h.2 with ⟨rfl, rfl⟩ | ⟨g, cap, cur, rfl, _, hh, _⟩
  · cases hk
  · obtain rfl : g = k := by simpa [Value.ownBlock] using hk
    exact (Array.getElem?_eq_some_iff.1 hh).1
theorem own_ge {w : World} {base n : Nat} {e : TypeId} {size : Nat} {v : Value} {xs : List Value} (h : w.ownsRow base e size v n xs) : ∀ k, v.ownBlock = some k → base ≤ k := by
  intro k hk
  rcases h.2 with ⟨rfl, rfl⟩ | ⟨g, cap, cur, rfl, hb, hh, _⟩
  · cases hk
  · obtain rfl : g = k := by simpa [Value.ownBlock] using hk
    exact hb
theorem fold_act2 (a : ActL) (p : ActP) : List.foldl (fun (cs : Array Value) (x : Value × Nat) => cs.setIfInBounds x.snd x.fst) #[.int .i64 0, .int .i64 0, .int .i64 0, .slice none 0 0, .int .u64 0, .int .i64 0, .slice none 0 0, .slice none 0 0, .string ⟨#[]⟩, .string ⟨#[]⟩, .string ⟨#[]⟩, .int .i64 0, .bool false, .slice none 0 0, .int .i64 0, .int .u64 0, .int .i64 0, .int .i64 0] (actCells a p).zipIdx = (actCells a p).toArray := by
  unfold actCells
  simp [List.zipIdx]
def strN : Value → Nat
  | .string b => b.size
  | _ => 0
end Go.Proofs.YtajoldboafkpdaaDoor
namespace Go.Proofs.YtajoldboafkpdaaDoor
set_option linter.unusedSimpArgs false
set_option linter.unusedVariables false
open Go.RowKit Go.Lk
/-- A row of acts of the program's own, its acts elsewhere. -/
structure OwnActs (w : World) (base : Nat) (A : Option Addr) (c : Nat) (al : List (ActL × ActP)) : Prop where
  own : w.ownsRow base 29 18 (.slice A al.length c) al.length (actsC al)
  at_ : ∀ x ∈ al, ActAt w x.1 x.2
  off : ∀ x ∈ al, ∀ k ∈ usedB x.1 x.2, (Value.slice A al.length c).ownBlock ≠ some k
theorem OwnActs.upd {w w1 : World} {base : Nat} {A : Option Addr} {c : Nat} {al : List (ActL × ActP)} (h : OwnActs w base A c al) (hu : Upd [] w w1) : OwnActs w1 base A c al :=
  ⟨own_upd h.own hu (by simp), fun x hx => (h.at_ x hx).upd2 hu (by simp), h.off⟩
theorem OwnActs.push {w w' : World} {base : Nat} {A : Option Addr} {c : Nat} {al : List (ActL × ActP)} (h : OwnActs w base A c al) {a : ActL} {p : ActP} (ha : ActAt w a p) (hf : ∀ k ∈ usedB a p, (Value.slice A al.length c).ownBlock ≠ some k)
    {v : Value} (ho : w'.ownsRow base 29 18 v (al.length + 1) (actsC al ++ actCells a p)) (hg : w.grownBy w' (Value.slice A al.length c).ownBlock) (hat : v.ownBlock = (Value.slice A al.length c).ownBlock ∨ v.ownBlock = some w.heap.size) :
    ∃ A' c', v = .slice A' (al ++ [(a, p)]).length c' ∧ OwnActs w' base A' c' (al ++ [(a, p)]) := by
  have hu := Upd.ofGrown hg (Value.slice A al.length c).ownBlock.toList (fun k hk => by simp [hk])
  have hlen : (al ++ [(a, p)]).length = al.length + 1 := by simp
  obtain ⟨A', c', rfl⟩ := own_slice ho
  rw [hlen]
  have hall : ∀ x ∈ al ++ [(a, p)], ActAt w x.1 x.2 ∧ ∀ k ∈ usedB x.1 x.2, (Value.slice A al.length c).ownBlock ≠ some k := by
    intro x hx
    rcases List.mem_append.1 hx with hx | hx
    · exact ⟨h.at_ x hx, h.off x hx⟩
    · obtain rfl : x = (a, p) := by simpa using hx
      exact ⟨ha, hf⟩
  refine ⟨A', c', rfl, ?_, ?_, ?_⟩
  · rw [hlen, actsC_snoc]; exact ho
  · intro x hx
    exact (hall x hx).1.upd3 hu (fun k hk hm => (hall x hx).2 k hk (by simpa using hm))
  · intro x hx k hk
    rw [hlen]
    rcases hat with e | e
    · rw [e]; exact (hall x hx).2 k hk
    · rw [e]; intro he
      have := (hall x hx).1.lt k hk
      injection he with he; omega
set_option maxRecDepth 100000 in
set_option maxHeartbeats 3200000 in
theorem script_split {w : World} (s : Bs) (hs : s.length ≤ 900000) (hE : Env w) :
    Calls Tryd.prog 20 #[.string ⟨s.toArray⟩] w fun e w' => ∃ A c al, e = .returned (.tuple #[.slice A al.length c, .int .i64 (splitS s).2.1, .int .i64 (splitS s).2.2]) ∧ al.map (·.1) = (splitS s).1 ∧ OwnActs w' w.heap.size A c al ∧ Upd [] w w' := by
  have HE := Lib.hid hE; clear hE
  obtain ⟨sp, hsp⟩ : ∃ sp, sp = splitS s := ⟨_, rfl⟩
  have HSP := Lib.hid hsp
  rw [← hsp]
  clear hsp
  obtain ⟨i0, hi, hz0, hz1, hz2⟩ := info_parts Tryd.infoAct
  have HI := Lib.hid hi; have HZ0 := Lib.hid hz0; have HZ1 := Lib.hid hz1; have HZ2 := Lib.hid hz2
  clear hi hz0 hz1 hz2
  have n1 : ¬ ((s.length : Int) > 1048576) := by omega
  go_enter Tryd.func20, Tryd.ntmps20
  go_wp2_with fail
  go_loopw [0, 5, 6] (fun v0 v5 v6 wr => ∃ (s1 : Bs) (al : List (ActL × ActP)) (A : Option Addr) (c : Nat), v0 = .string ⟨s1.toArray⟩ ∧ v5 = .slice A al.length c ∧ v6 = .int .i64 (al.length + 1 : Nat) ∧ splitL s = (al.map (·.1) ++ (splitL s1).1, (splitL s1).2) ∧ s1.length ≤ s.length ∧ al.length ≤ s.length ∧ OwnActs wr w.heap.size A c al ∧ Upd [] w wr) (fun v0 _ _ _ => strN v0)
  case atStart => exact ⟨s, [], none, 0, rfl, rfl, rfl, rfl, by omega, by simp, ⟨World.ownsRow_nil _ _ _ _, by simp, by simp⟩, Upd.refl _ _⟩
  case round =>
    obtain ⟨s1, al, A, c, rfl, rfl, rfl, hsp, hs1, hal, hown, hu⟩ := hrel
    have HSL := Lib.hid hsp; have HO := Lib.hid hown; have HU := Lib.hid hu; clear hsp hown hu
    by_cases h0 : s1 = []
    · have hfin : splitL s = (al.map (·.1), false) := by rw [HSL.out, h0]; simp [splitL_nil]
      subst h0
      have hsp : sp = if 2000 < al.length then ([], 0, 4) else (al.map (·.1), 0, 0) := by
        rw [HSP.out]; unfold splitS; rw [hfin]; simp
      have HSP2 := Lib.hid hsp
      clear hfin hsp
      by_cases hm : 2000 < al.length
      · have hm' : (al.length : Int) > 2000 := by omega
        go_wp2_with fail
        go_ret3
        refine ⟨none, 0, [], ?_, ?_, ⟨World.ownsRow_nil _ _ _ _, by simp, by simp⟩, HU.out⟩
        · rw [HSP2.out, if_pos hm]; rfl
        · rw [HSP2.out, if_pos hm]; rfl
      · have hm' : ¬ ((al.length : Int) > 2000) := by omega
        go_wp2_with fail
        go_ret3
        refine ⟨A, c, al, ?_, ?_, HO.out, HU.out⟩
        · rw [HSP2.out, if_neg hm]; rfl
        · rw [HSP2.out, if_neg hm]
    · have hne : (s1 == []) = false := by rw [beq_eq_false_iff_ne]; exact h0
      have hst := splitL_step h0
      have hcl := cutN_le s1
      have HC := Lib.hid (⟨h0, hst⟩ : s1 ≠ [] ∧ splitL s1 = _)
      clear hst h0
      obtain ⟨m, hm⟩ := (HE.out.upd0 HU.out).m
      have HM := Lib.hid hm; clear hm
      go_wp2_with fail
      have q1 := Tryd.strings_Cut ⟨s1.toArray⟩ ⟨#[10]⟩ m wr (by simp [ByteArray.size]; omega) HM.out
      obtain ⟨cu, hcu⟩ : ∃ cu, cu = Lib.cut s1 [10] := ⟨_, rfl⟩
      have hcu' : Lib.cut (⟨s1.toArray⟩ : ByteArray).data.toList (⟨#[10]⟩ : ByteArray).data.toList = cu := hcu.symm
      rw [hcu'] at q1
      have HC2 : Hid (splitL s1 = match readS cu.1 with
        | some a => if cu.2.2 then (a :: (splitL cu.2.1).1, (splitL cu.2.1).2) else ([], true)
        | none => ([], true)) := Lib.hid (by rw [hcu]; exact HC.out.2)
      rw [← hcu] at hcl
      clear hcu' hcu HC HM
      obtain ⟨x, rest, ended⟩ := cu
      simp only at hcl
      refine q1.mono ?_
      clear q1
      rintro e w2 ⟨rfl, n2, rfl⟩
      have hu2 : Upd [] w (wr.drewN n2) := HU.out.drewN n2
      obtain ⟨w2, hw2⟩ : ∃ w2, w2 = wr.drewN n2 := ⟨_, rfl⟩
      have hO2 : OwnActs w2 w.heap.size A c al := by rw [hw2]; exact HO.out.upd ((Upd.refl [] wr).drewN n2)
      rw [← hw2] at hu2 ⊢
      have HU2 := Lib.hid hu2; have HO2 := Lib.hid hO2
      clear hu2 hO2 hw2 HU HO
      have q2 := script_read_new (w := w2) x (by omega) (HE.out.upd0 HU2.out)
      cases hrd : readS x with
      | none =>
        rw [hrd] at q2
        unfold actV at q2
        have Q2 := Lib.hid q2; clear q2
        have hsp : sp = ([], al.length + 1, 3) := by
          have h1 : splitL s1 = ([], true) := by rw [HC2.out]; simp only [hrd]
          have h2 : splitL s = (al.map (·.1), true) := by rw [HSL.out, h1]; simp
          rw [HSP.out]; unfold splitS; rw [h2]; simp
        have HSP2 := Lib.hid hsp
        clear hsp hrd
        go_wp2_with fail
        refine Q2.out.mono ?_
        rintro e w3 ⟨p, rfl, hat3, _, hu3⟩
        have HU3 := Lib.hid (HU2.out.trans hu3 (by simp))
        clear hat3 hu3 Q2
        simp only [Option.getD_none, Option.isSome_none, Bool.false_eq_true, if_false]
        have HZ3 := Lib.hid (zeroAct_heap w3); have HCA := Lib.hid (actCells_all ActL.zero p); have HG := Lib.hid (aggAct ActL.zero p)
        go_upto_region 9 with (refine wpList_store_agg _ rfl 29 (.tmp 10) (.tmp 28) rfl w3.heap.size (actCells ActL.zero p).toArray (actCells ActL.zero p0).toArray 29 rfl rfl HG.out HZ3.out rfl HCA.out ?_)
        obtain ⟨w4, hw4⟩ : ∃ w4, w4 = (w3.alloc (.cells #[.int .i64 0, .int .i64 0, .int .i64 0, .slice none 0 0, .int .u64 0, .int .i64 0, .slice none 0 0, .slice none 0 0, .string ⟨#[]⟩, .string ⟨#[]⟩, .string ⟨#[]⟩, .int .i64 0, .bool false, .slice none 0 0, .int .i64 0, .int .u64 0, .int .i64 0, .int .i64 0] 29)).setRow w3.heap.size (actCells ActL.zero p).toArray := ⟨_, rfl⟩
        rw [← hw4]
        have HU4 := Lib.hid (HU3.out.trans (actVar w3 _ _ hw4).2 (by simp))
        clear hw4
        cases ended with
        | false =>
          go_wp2_with fail
          go_ret3
          refine ⟨none, 0, [], ?_, ?_, ⟨World.ownsRow_nil _ _ _ _, by simp, by simp⟩, HU4.out⟩
          · rw [HSP2.out]; rfl
          · rw [HSP2.out]; rfl
        | true =>
          go_wp2_with fail
          go_ret3
          refine ⟨none, 0, [], ?_, ?_, ⟨World.ownsRow_nil _ _ _ _, by simp, by simp⟩, HU4.out⟩
          · rw [HSP2.out]; rfl
          · rw [HSP2.out]; rfl
      | some a =>
        rw [hrd] at q2
        unfold actV at q2
        have Q2 := Lib.hid q2; clear q2
        go_wp2_with fail
        refine Q2.out.mono ?_
        rintro e w3 ⟨p, rfl, hat3, hfr3, hu3⟩
        simp only [Option.getD_some, Option.isSome_some, if_true] at hat3 ⊢
        have HU3 := Lib.hid (HU2.out.trans hu3 (by simp)); have HO3 := Lib.hid (HO2.out.upd hu3)
        have HA3 := Lib.hid hat3
        have hs2 := hu3.size
        have HFR := Lib.hid hfr3; have HU23 := Lib.hid hu3
        clear hat3 hfr3 hu3 Q2
        have HZ3 := Lib.hid (zeroAct_heap w3); have HCA := Lib.hid (actCells_all a p); have HG := Lib.hid (aggAct a p)
        go_upto_region 9 with (refine wpList_store_agg _ rfl 29 (.tmp 10) (.tmp 28) rfl w3.heap.size (actCells a p).toArray (actCells ActL.zero p0).toArray 29 rfl rfl HG.out HZ3.out rfl HCA.out ?_)
        obtain ⟨w4, hw4⟩ : ∃ w4, w4 = (w3.alloc (.cells #[.int .i64 0, .int .i64 0, .int .i64 0, .slice none 0 0, .int .u64 0, .int .i64 0, .slice none 0 0, .slice none 0 0, .string ⟨#[]⟩, .string ⟨#[]⟩, .string ⟨#[]⟩, .int .i64 0, .bool false, .slice none 0 0, .int .i64 0, .int .u64 0, .int .i64 0, .int .i64 0] 29)).setRow w3.heap.size (actCells a p).toArray := ⟨_, rfl⟩
        rw [← hw4]
        have hv := actVar w3 _ _ hw4
        have HU4 := Lib.hid (HU3.out.trans hv.2 (by simp)); have HO4 := Lib.hid (HO3.out.upd hv.2); have HA4 := Lib.hid (HA3.out.upd2 hv.2 (by simp))
        have HL4 := Lib.hid (LiesAt.of_block hv.1); have HGL : Hid (aggOf Tryd.prog 29 (actCells a p).length = true) := Lib.hid (aggAct a p)
        have hs4 : w3.heap.size ≤ w4.heap.size := hv.2.size
        clear hw4 hv
        cases ended with
        | false =>
          have hsp : sp = ([], al.length + 1, 3) := by
            have h1 : splitL s1 = ([], true) := by rw [HC2.out]; simp [hrd]
            have h2 : splitL s = (al.map (·.1), true) := by rw [HSL.out, h1]; simp
            rw [HSP.out]; unfold splitS; rw [h2]; simp
          have HSP2 := Lib.hid hsp
          clear hsp hrd
          go_wp2_with fail
          go_ret3
          refine ⟨none, 0, [], ?_, ?_, ⟨World.ownsRow_nil _ _ _ _, by simp, by simp⟩, HU4.out⟩
          · rw [HSP2.out]; rfl
          · rw [HSP2.out]; rfl
        | true =>
          have hsl : splitL s = ((al ++ [(a, p)]).map (·.1) ++ (splitL rest).1, (splitL rest).2) := by
            have h1 : splitL s1 = (a :: (splitL rest).1, (splitL rest).2) := by rw [HC2.out]; simp [hrd]
            rw [HSL.out, h1]; simp
          have hln : (al ++ [(a, p)]).length ≤ s.length := by
            have := splitL_len s.length s (Nat.le_refl _)
            rw [hsl] at this
            simp at this ⊢; omega
          have HSL2 := Lib.hid hsl; have HLN := Lib.hid hln
          have hrl : rest.length < s1.length := by have := hcl.2 rfl; omega
          clear hsl hln hrd hcl
          go_upto_region 6 with (first
            | (at_builtin; refine wpList_append_src _ rfl (.tmp 37) (.tmp 39) 31 rfl w.heap.size 29 i0 (.agg #[.int .i64 0, .int .i64 0, .int .i64 0, .slice none 0 0, .int .u64 0, .int .i64 0, .slice none 0 0, .slice none 0 0, .string ⟨#[]⟩, .string ⟨#[]⟩, .string ⟨#[]⟩, .int .i64 0, .bool false, .slice none 0 0, .int .i64 0, .int .u64 0, .int .i64 0, .int .i64 0]) 18 232 Tryd.underlying31 HI.out HZ0.out HZ1.out HZ2.out rfl (by decide) (.slice A al.length c) al.length (actsC al) rfl ?q1 (some ⟨w4.heap.size, 0, none⟩) 1 1 (actCells a p) rfl ?q2 ?q3 ?q4 ?q5 ?q6 ?q7 ?_)
            | refine wpList_load_lies _ rfl 29 (.tmp 10) rfl w3.heap.size 0 (actCells a p) rfl HGL.out HL4.out ?_)
          case inl h => exact (h.elim (fun h => h rfl) (fun h => absurd (show 18 < 18 from h) (by omega))).elim
          case q1 => rw [fold_act2]; exact own_upd HO4.out.own ((Upd.refl [] w4).alloc _) (by simp)
          case q2 => rfl
          case q3 => rw [fold_act2]; exact cellsAt_new _ _ _
          case q4 => exact fun u hu => (Array.all_eq_true_iff_forall_mem.1 (actCells_all a p)) u (by simpa using hu)
          case q5 => have := HLN.out; unfold maxLen; simp at this; omega
          case q6 => have := HLN.out; simp at this; omega
          case q7 => have := HU4.out.size; rw [fold_act2]; exact Nat.le_trans this ((Upd.refl [] w4).alloc _).size
          intro v6 w6 hown6 hg6 hat6
          rw [fold_act2] at hg6
          have hz5 : (w4.alloc (.cells (actCells a p).toArray 29)).heap.size = w4.heap.size + 1 := by simp
          rw [← hz5] at hat6
          have hu5 : Upd [] w4 (w4.alloc (.cells (actCells a p).toArray 29)) := (Upd.refl [] w4).alloc _
          have hpush := (HO4.out.upd hu5).push (HA4.out.upd2 hu5 (by simp)) (fun k hk e => by
            have h1 := HFR.out k (usedB_blocks hk)
            have h2 := own_lt HO2.out.own k e
            omega) hown6 hg6 hat6
          have hu6 : Upd [] w w6 := (HU4.out.trans hu5 (by simp)).grown hg6 (fun k hk => .inl (own_ge HO2.out.own k hk))
          obtain ⟨A6, c6, rfl, hown⟩ := hpush
          have HO6 := Lib.hid hown; have HU6 := Lib.hid hu6
          clear hown hu6 hown6 hg6 hat6 hu5
          go_wp2_with fail
          refine ⟨⟨rest, al ++ [(a, p)], A6, c6, rfl, rfl, by simp, HSL2.out, by omega, by have := HLN.out; omega, HO6.out, HU6.out⟩, ?_⟩
          simp only [strN, ByteArray.size, List.size_toArray]
          omega
theorem splitL_lims : ∀ (n : Nat) (s : Bs), s.length ≤ n → s.length ≤ 900000 → ∀ b ∈ (splitL s).1, ActLim b
  | 0, s, h, _ => by
    obtain rfl : s = [] := List.eq_nil_of_length_eq_zero (by omega)
    simp [splitL_nil]
  | n + 1, s, h, h9 => by
    by_cases hs : s = []
    · subst hs; simp [splitL_nil]
    · rw [splitL_step hs]
      have hcl := cutN_le s
      cases hr : readS (Lib.cut s [10]).1 with
      | none => simp
      | some a =>
        simp only
        split
        · rename_i hc
          have h1 := hcl.2 hc
          have h2 := splitL_lims n (Lib.cut s [10]).2.1 (by omega) (by omega)
          intro b hb
          rcases List.mem_cons.1 hb with rfl | hb
          · exact readS_lim (by omega) hr
          · exact h2 b hb
        · simp
end Go.Proofs.YtajoldboafkpdaaDoor
