-- ScriptJoins: the walk.
import Derived.Test.YtajoldboafkpdaaDoorTight
import Derived.Test.YtajoldboafkpdaaDoorLong
import Derived.Test.YtajoldboafkpdaaDoorActsIn
import Derived.Test.YtajoldboafkpdaaDoorAwake27
import Derived.Test.YtajoldboafkpdaaDoorSameAct
namespace Go.Proofs.YtajoldboafkpdaaDoor
set_option linter.unusedSimpArgs false
set_option linter.unusedVariables false
open Go.RowKit Go.Lk Go.Lib
theorem splitL_lims : ∀ (n : Nat) (s : Bs), s.length ≤ n → s.length ≤ 900000 → ∀ b ∈ (splitL s).1, ActLim b
  | 0, s, h, _ => by
    obtain rfl : s = [] := List.eq_nil_of_length_eq_zero (by omega)
    simp [splitL_nil]
  | n + 1, s, h, h9 => by
    by_cases hs : s = []
    · subst hs; simp [splitL_nil]
    · rw [splitL_step hs]
      have hcl := cutN_le s
      cases hr : readS (cut s [10]).1 with
      | none => simp
      | some a =>
        simp only
        split
        · rename_i hc
          have h1 := hcl.2 hc
          have h2 := splitL_lims n (cut s [10]).2.1 (by omega) (by omega)
          intro b hb
          rcases List.mem_cons.1 hb with rfl | hb
          · exact readS_lim (by omega) hr
          · exact h2 b hb
        · simp
theorem splitS_joins {l : List ActL} {s t : Bs} (h : linesS l = some s) (hb : ∀ a ∈ l, ActB a) (hn : l.length ≤ 20) (ht : t.length ≤ 3000) : ∃ m, splitS s = (m, 0, 0) ∧ m.length = l.length ∧
    ((∃ n, splitS t = ([], n + 1, 3) ∧ n ≤ 1500 ∧ splitS (s ++ t) = ([], l.length + (n + 1), 3)) ∨ (∃ x, splitS t = (x, 0, 0) ∧ x.length ≤ 1500 ∧ splitS (s ++ t) = (m ++ x, 0, 0))) := by
  obtain ⟨m, hm, g2, _, _⟩ := splitL_lines l s h hb
  have h1 := hm t
  have g1 := hm []
  rw [List.append_nil, splitL_nil, List.append_nil] at g1
  refine ⟨m, ?_, g2, ?_⟩
  · unfold splitS
    rw [g1]
    simp only [Bool.false_eq_true, if_false]
    rw [if_neg (by omega)]
  have hlen := splitL_len t.length t (Nat.le_refl _)
  obtain ⟨x, bad, hx⟩ : ∃ x bad, splitL t = (x, bad) := ⟨_, _, rfl⟩
  rw [hx] at h1 hlen
  simp only at h1 hlen
  cases bad with
  | true =>
    refine .inl ⟨x.length, ?_, by omega, ?_⟩
    · unfold splitS; rw [hx]; simp
    · unfold splitS; rw [h1]; simp [g2, Nat.add_assoc]
  | false =>
    refine .inr ⟨x, ?_, by omega, ?_⟩
    · unfold splitS; rw [hx]; simp only [Bool.false_eq_true, if_false]; rw [if_neg (by omega)]
    · unfold splitS; rw [h1]; simp only [Bool.false_eq_true, if_false]; rw [if_neg (by rw [List.length_append]; omega)]
theorem OwnActs.cells {w : World} {base : Nat} {A : Option Addr} {c : Nat} {al : List (ActL × ActP)} (h : OwnActs w base A c al) : CellsAt w A (actsC al) := fun j u hj => by
  obtain ⟨g, cap, hv, _, hc⟩ := own_cell h.own j u hj
  injection hv with hA _ _
  subst hA
  exact ⟨_, rfl, by rw [Go.Lk.add_plain, Nat.zero_add]; exact hc⟩
theorem wpList_append_on {P : Program} {w : World} {ops : Array Oper} {rest : List Oper} {o : Oper} {a : Act} {Q : Exit → Act → World → Prop} (hgd : Region.wanted o (yielded ops a.tmps) = true) (s x : Operand) (t : TypeId)
    (ho : o.op = .call { callee := .builtin .append, args := #[s, x], argTypes := #[t, t] })
    (base : Nat) (e : TypeId) (i : TypeInfo) (z : Value) (size bytes : Nat) (ht : P.underlying t = some (.slice e)) (hi : P.info? e = some i) (hz : i.zero = some z)
    (hsize : i.size = size) (hby : i.bytes = bytes) (hzs : z.cells.size = size) (hsz : 0 < size)
    (v : Value) (n : Nat) (xs : List Value) (hs : a.eval s = v) (hown : w.ownsRow base e size v n xs)
    (A : Option Addr) (m c : Nat) (news : List Value) (hx : a.eval x = .slice A m c) (hl : news.length = m * size) (hr : CellsAt w A news) (h1 : ∀ u ∈ news, u.oneCell' = true)
    (h63 : n + m ≤ maxLen) (hbytes : (n + m) * bytes ≤ 140737488355328) (hbase : base ≤ w.heap.size)
    (h : ∀ v' w', w'.ownsRow base e size v' (n + m) (xs ++ news) → w.grownBy w' v.ownBlock → (v'.ownBlock = v.ownBlock ∨ v'.ownBlock = some w.heap.size) → wpList P ops Q rest (a.put o.dst v') w') : wpList P ops Q (o :: rest) a w :=
  wpList_step fun K hK => by
    rw [if_pos hgd]
    exact wp_append_src w s x t ho base e i z size bytes ht hi hz hsize hby hzs hsz v n xs hs hown A m c news hx hl hr h1 h63 hbytes hbase fun v' w' h2 h3 h4 => hK _ _ (h v' w' h2 h3 h4)
set_option maxRecDepth 100000 in
set_option maxHeartbeats 3200000 in
theorem walk_ScriptJoins {w : World} {A : Option Addr} {c : Nat} {al : List (ActL × ActP)} {bad : Bs} (hA : ActsAt w A al) (hwf : ∀ x ∈ al, ActWf x.1) (hE : Env w) :
    Calls Tryd.prog 8 #[.slice A al.length c, .string ⟨bad.toArray⟩] w fun e w' => e = .returned (.bool true) ∧ Upd [] w w' := by
  obtain ⟨i0, hi, hz0, hz1, hz2⟩ := info_parts Tryd.infoAct
  have HI := Lib.hid hi; have HZ0 := Lib.hid hz0; have HZ1 := Lib.hid hz1; have HZ2 := Lib.hid hz2
  clear hi hz0 hz1 hz2
  have HA := Lib.hid hA; have HWF := Lib.hid hwf; have HE := Lib.hid hE; clear hA hwf hE
  by_cases hbig : (al.length : Int) > 20
  · go_enter Tryd.func8, Tryd.ntmps8
    go_wp2_with fail
    refine (great_acts_long 20 hbig).mono ?_
    rintro e w1 ⟨rfl, hu1⟩
    have HU1 := Lib.hid hu1; clear hu1
    go_wp2_with fail
    refine (awake27 (HE.out.upd0 HU1.out)).mono ?_
    rintro e w2 ⟨rfl, hu2⟩
    go_wp2_with fail
    go_ret
    exact ⟨rfl, HU1.out.trans hu2 (by simp)⟩
  have hn30 : al.length ≤ 20 := by omega
  have q1 := great_acts (c := c) HA.out 20 (by omega)
  obtain ⟨g, hg⟩ : ∃ g, g = greatA (al.map (·.1)) 20 := ⟨_, rfl⟩
  have HG := Lib.hid hg
  rw [← hg] at q1
  clear hg
  have Q1 := Lib.hid q1
  clear q1 hbig
  go_enter Tryd.func8, Tryd.ntmps8
  go_wp2_with fail
  refine Q1.out.mono ?_
  rintro e w1 ⟨rfl, hu1⟩
  have HU1 := Lib.hid hu1; clear hu1 Q1
  cases g with
  | true =>
    go_wp2_with fail
    refine (awake27 (HE.out.upd0 HU1.out)).mono ?_
    rintro e w2 ⟨rfl, hu2⟩
    go_wp2_with fail
    go_ret
    exact ⟨rfl, HU1.out.trans hu2 (by simp)⟩
  | false =>
  have heach := (greatA_each HG.out.symm).2
  have hok : ∀ x ∈ al, ActOk x.1 := fun x hx => ⟨(greatA_few HG.out.symm).2 _ (List.mem_map.2 ⟨x, hx, rfl⟩), HWF.out x hx⟩
  have hgw : ∀ a ∈ al.map (·.1), greatAct a = false ∧ ActWf a := fun a ha => ⟨heach a ha, by obtain ⟨x, hx, rfl⟩ := List.mem_map.1 ha; exact HWF.out x hx⟩
  have HOK := Lib.hid hok; have HGW := Lib.hid hgw
  clear hok hgw heach HG
  obtain ⟨w2, hw2⟩ : ∃ w2, w2 = w1.alloc (.cells #[.string ⟨bad.toArray⟩] 9) := ⟨_, rfl⟩
  have hu2 : Upd [] w1 w2 := by rw [hw2]; exact (Upd.refl [] w1).alloc _
  have hc2 : w2.cell? ⟨w1.heap.size, 0, none⟩ = some (.string ⟨bad.toArray⟩) := by rw [hw2]; exact cell_of (i := 0) (heap_alloc_self _) rfl
  have HW2 := Lib.hid hw2; have HU2 := Lib.hid (HU1.out.trans hu2 (by simp))
  have q := long_one 3000 bad w1.heap.size 1 _ (by omega) hc2
  by_cases hs : 3000 ≤ bad.length
  · rw [decide_eq_true (by omega)] at q
    have Q := Lib.hid q; clear q hc2 hw2 hu2
    go_wp2_with fail
    rw [← HW2.out]
    refine Q.out.mono ?_
    rintro e w4' ⟨rfl, rfl⟩
    go_wp2_with fail
    refine (awake27 (HE.out.upd0 HU2.out)).mono ?_
    rintro e w5 ⟨rfl, hu5⟩
    go_wp2_with fail
    go_ret
    exact ⟨rfl, HU2.out.trans hu5 (by simp)⟩
  rw [decide_eq_false (by omega)] at q
  have Q := Lib.hid q; clear q hc2 hw2 hu2
  go_wp2_with fail
  rw [← HW2.out]
  refine Q.out.mono ?_
  rintro e w4' ⟨rfl, rfl⟩
  clear Q
  have q3 := script_lines (c := c) (HA.out.upd0 HU2.out) HOK.out (by omega) (HE.out.upd0 HU2.out)
  cases hls : linesS (al.map (·.1)) with
  | none =>
    rw [hls] at q3
    have Q3 := Lib.hid q3
    clear q3 hls
    go_wp2_with fail
    refine Q3.out.mono ?_
    rintro e w3 ⟨rfl, hu3⟩
    have HU3 := Lib.hid (HU2.out.trans hu3 (by simp)); clear hu3 Q3
    simp only [Option.getD_none, Option.isSome_none, Bool.false_eq_true, if_false]
    go_wp2_with fail
    refine (awake27 (HE.out.upd0 HU3.out)).mono ?_
    rintro e w4 ⟨rfl, hu4⟩
    go_wp2_with fail
    go_ret
    exact ⟨rfl, HU3.out.trans hu4 (by simp)⟩
  | some s =>
  rw [hls] at q3
  have Q3 := Lib.hid q3
  have hB : ∀ a ∈ al.map (·.1), ActB a := fun a ha => actB_of (HGW.out a ha).2
  have hsl : s.length ≤ 598020 := by
    have := linesS_tight HGW.out hls
    rw [List.length_map] at this; omega
  obtain ⟨m, hm1, hm2, hm3⟩ := splitS_joins (t := bad) hls hB (by rw [List.length_map]; omega) (by omega)
  rw [List.length_map] at hm2 hm3
  have HM1 := Lib.hid hm1; have HM2 := Lib.hid hm2; have HM3 := Lib.hid hm3
  clear q3 hls hB hm1 hm2 hm3
  go_wp2_with fail
  refine Q3.out.mono ?_
  rintro e w3 ⟨rfl, hu3⟩
  have HU3 := Lib.hid (HU2.out.trans hu3 (by simp)); clear hu3 Q3
  simp only [Option.getD_some, Option.isSome_some, if_true]
  have hlim : ∀ b ∈ (splitS (s ++ bad)).1, ActLim b := by
    intro b hb
    have := splitL_lims (s ++ bad).length (s ++ bad) (Nat.le_refl _) (by rw [List.length_append]; omega) b
    unfold splitS at hb
    split at hb
    · cases hb
    · split at hb
      · cases hb
      · exact this hb
  have HLIM := Lib.hid hlim
  have hcat : (⟨s.toArray⟩ : ByteArray) ++ ⟨bad.toArray⟩ = ⟨(s ++ bad).toArray⟩ := str_append _ _
  have HCAT := Lib.hid hcat
  clear hlim hcat
  rcases HM3.out with ⟨n, ht, hn15, hst⟩ | ⟨x, ht, hx15, hst⟩
  · have HT := Lib.hid ht; have HST := Lib.hid hst
    clear ht hst HM3
    go_wp2_with fail
    have q4 := script_split (w := w3) bad (by omega) (HE.out.upd0 HU3.out)
    rw [HT.out] at q4
    refine q4.mono ?_
    clear q4
    rintro e w4 ⟨A4, c4, al4, rfl, hal4, hown4, hu4⟩
    have HU4 := Lib.hid (HU3.out.trans hu4 (by simp))
    simp only at hal4
    obtain rfl : al4 = [] := by simpa using hal4
    clear hal4 hown4 hu4
    go_wp2_with fail
    have q5 := script_split (w := w4) s (by omega) (HE.out.upd0 HU4.out)
    rw [HM1.out] at q5
    refine q5.mono ?_
    clear q5
    rintro e w5 ⟨A5, c5, al5, rfl, hal5, hown5, hu5⟩
    have HU5 := Lib.hid (HU4.out.trans hu5 (by simp))
    clear hal5 hown5 hu5
    go_wp2_with fail
    rw [HCAT.out]
    have q6 := script_split (w := w5) (s ++ bad) (by rw [List.length_append]; omega) (HE.out.upd0 HU5.out)
    rw [HST.out] at q6
    refine q6.mono ?_
    clear q6
    rintro e w6 ⟨A6, c6, al6, rfl, hal6, hown6, hu6⟩
    have HU6 := Lib.hid (HU5.out.trans hu6 (by simp))
    simp only at hal6
    obtain rfl : al6 = [] := by simpa using hal6
    clear hal6 hown6 hu6
    go_wp2_with fail
    refine (awake27 (HE.out.upd0 HU6.out)).mono ?_
    rintro e w7 ⟨rfl, hu7⟩
    go_wp2_with fail
    go_ret
    exact ⟨rfl, HU6.out.trans hu7 (by simp)⟩
  · have HT := Lib.hid ht; have HST := Lib.hid hst
    clear ht hst HM3
    go_wp2_with fail
    have q4 := script_split (w := w3) bad (by omega) (HE.out.upd0 HU3.out)
    rw [HT.out] at q4
    refine q4.mono ?_
    clear q4
    rintro e w4 ⟨A4, c4, al4, rfl, hal4, hown4, hu4⟩
    have HU4 := Lib.hid (HU3.out.trans hu4 (by simp)); have HAL4 := Lib.hid hal4; have HO4 := Lib.hid hown4
    clear hal4 hown4 hu4
    go_wp2_with fail
    have q5 := script_split (w := w4) s (by omega) (HE.out.upd0 HU4.out)
    rw [HM1.out] at q5
    refine q5.mono ?_
    clear q5
    rintro e w5 ⟨A5, c5, al5, rfl, hal5, hown5, hu5⟩
    have HU5 := Lib.hid (HU4.out.trans hu5 (by simp)); have HO45 := Lib.hid (HO4.out.upd hu5); have HAL5 := Lib.hid hal5; have HO5 := Lib.hid hown5
    clear hal5 hown5 hu5
    go_wp2_with fail
    rw [HCAT.out]
    have q6 := script_split (w := w5) (s ++ bad) (by rw [List.length_append]; omega) (HE.out.upd0 HU5.out)
    rw [HST.out] at q6
    refine q6.mono ?_
    clear q6
    rintro e w6 ⟨A6, c6, al6, rfl, hal6, hown6, hu6⟩
    have HU6 := Lib.hid (HU5.out.trans hu6 (by simp)); have HO46 := Lib.hid (HO45.out.upd hu6); have HO56 := Lib.hid (HO5.out.upd hu6); have HAL6 := Lib.hid hal6; have HO6 := Lib.hid hown6
    have hl4 : al4.length ≤ 1500 := by have := congrArg List.length HAL4.out; rw [List.length_map] at this; omega
    have hl5 : al5.length ≤ 20 := by have := congrArg List.length HAL5.out; rw [List.length_map] at this; have := HM2.out; omega
    have hl6 : al6.length ≤ 1520 := by have := congrArg List.length hal6; rw [List.length_map] at this; simp only [List.length_append] at this; have := HM2.out; omega
    have hlims : ∀ y ∈ al6, y.1.ids.length ≤ 1000000 ∧ y.1.headers.length ≤ 1000000 ∧ y.1.req.headers.length ≤ 1000000 := fun y hy => by
      have := HLIM.out y.1 (by rw [HST.out, ← hal6]; exact List.mem_map.2 ⟨y, hy, rfl⟩)
      exact ⟨this.ids.1, this.hd.1, this.rq.hd.1⟩
    have HLM := Lib.hid hlims
    clear hal6 hown6 hu6 hlims HO4 HO5 HO45
    go_wp2_with (first
      | (at_builtin; refine wpList_append_on rfl (.const (.slice none 0 0)) (.tmp 89) 31 rfl w6.heap.size 29 i0 (.agg #[.int .i64 0, .int .i64 0, .int .i64 0, .slice none 0 0, .int .u64 0, .int .i64 0, .slice none 0 0, .slice none 0 0, .string ⟨#[]⟩, .string ⟨#[]⟩, .string ⟨#[]⟩, .int .i64 0, .bool false, .slice none 0 0, .int .i64 0, .int .u64 0, .int .i64 0, .int .i64 0]) 18 232 Tryd.underlying31 HI.out HZ0.out HZ1.out HZ2.out rfl (by decide) (.slice none 0 0) 0 [] rfl (World.ownsRow_nil _ _ _ _) A5 al5.length c5 (actsC al5) rfl (actsC_len _) HO56.out.cells (actsC_one _) (by unfold maxLen; omega) (by omega) (Nat.le_refl _) ?_))
    intro v1 w7 hown7 hg7 hat7
    have hu7 : Upd [] w6 w7 := (Upd.refl [] w6).grown hg7 (fun k hk => by cases hk)
    obtain ⟨A7, c7, rfl⟩ := own_slice hown7
    have HO7 := Lib.hid hown7; have HO47 := Lib.hid (HO46.out.upd hu7); have HU67 := Lib.hid hu7
    clear hown7 hg7 hat7 hu7
    go_wp2_with (first
      | (at_builtin; refine wpList_append_on rfl (.tmp 90) (.tmp 91) 31 rfl w6.heap.size 29 i0 (.agg #[.int .i64 0, .int .i64 0, .int .i64 0, .slice none 0 0, .int .u64 0, .int .i64 0, .slice none 0 0, .slice none 0 0, .string ⟨#[]⟩, .string ⟨#[]⟩, .string ⟨#[]⟩, .int .i64 0, .bool false, .slice none 0 0, .int .i64 0, .int .u64 0, .int .i64 0, .int .i64 0]) 18 232 Tryd.underlying31 HI.out HZ0.out HZ1.out HZ2.out rfl (by decide) (.slice A7 al5.length c7) al5.length (actsC al5) rfl HO7.out A4 al4.length c4 (actsC al4) rfl (actsC_len _) HO47.out.cells (actsC_one _) (by unfold maxLen; omega) (by omega) HU67.out.size ?_))
    intro v2 w8 hown8 hg8 hat8
    have hu8 : Upd [] w6 w8 := HU67.out.grown hg8 (fun k hk => .inl (own_ge HO7.out k hk))
    obtain ⟨A8, c8, rfl⟩ := own_slice hown8
    have hown8' : w8.ownsRow w6.heap.size 29 18 (.slice A8 (al5.length + al4.length) c8) (al5.length + al4.length) (actsC (al5 ++ al4)) := by rw [actsC_append]; simpa using hown8
    have hacts8 : ActsAt w8 A8 (al5 ++ al4) := own_acts hown8' (fun x hx => by
      rcases List.mem_append.1 hx with h | h
      · exact (HO56.out.upd hu8).at_ x h
      · exact (HO46.out.upd hu8).at_ x h)
    have hacts6 : ActsAt w8 A6 al6 := own_acts (HO6.out.upd hu8).own (HO6.out.upd hu8).at_
    have q9 := l0_acts (ca := c6) (cb := c8) hacts6 hacts8 (by rw [HAL6.out, List.map_append, HAL5.out, HAL4.out]) (by omega) HLM.out
    rw [show (al5 ++ al4).length = al5.length + al4.length by simp] at q9
    have Q9 := Lib.hid q9; have HU8 := Lib.hid (HU6.out.trans hu8 (by simp))
    clear q9 hacts6 hacts8 hown8' hown8 hg8 hat8 hu8
    go_wp2_with fail
    refine Q9.out.mono ?_
    rintro e w9 ⟨rfl, hu9⟩
    have HU9 := Lib.hid (HU8.out.trans hu9 (by simp)); clear hu9 Q9
    go_wp2_with fail
    refine (awake27 (HE.out.upd0 HU9.out)).mono ?_
    rintro e w10 ⟨rfl, hu10⟩
    go_wp2_with fail
    go_ret
    exact ⟨rfl, HU9.out.trans hu10 (by simp)⟩
theorem walkA_ScriptJoins (W : World) (v : Value) (al : List (ActL × ActP)) (h : ActsR W v al) (bad : ByteArray) (hb : bad.size ≤ maxLen) (hE : Env W) :
    Calls Tryd.prog 8 #[v, .string bad] W fun e W' => e = .returned (.bool true) ∧ Below W.heap.size W W' := by
  obtain ⟨A, c, rfl, hc, ha, hw⟩ := h.acts
  exact (walk_ScriptJoins (bad := bad.data.toList) ha hw hE).mono fun e W' ⟨he, hu⟩ => ⟨he, hu.below (by simp)⟩
end Go.Proofs.YtajoldboafkpdaaDoor
