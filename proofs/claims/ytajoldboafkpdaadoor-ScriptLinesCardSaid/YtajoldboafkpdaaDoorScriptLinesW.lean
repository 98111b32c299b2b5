-- ScriptLines: the walk.
import Derived.Test.YtajoldboafkpdaaDoorTight
import Derived.Test.YtajoldboafkpdaaDoorLow
import Derived.Test.YtajoldboafkpdaaDoorLong
import Derived.Test.YtajoldboafkpdaaDoorActsIn
import Derived.Test.YtajoldboafkpdaaDoorRefTok
import Derived.Test.YtajoldboafkpdaaDoorAwake27
namespace Go.Proofs.YtajoldboafkpdaaDoor
set_option linter.unusedSimpArgs false
set_option linter.unusedVariables false
open Go.RowKit Go.Lk
theorem splitS_lines {l : List ActL} {s : Bs} (h : linesS l = some s) (hb : ∀ a ∈ l, ActB a) (hn : l.length ≤ 1000) : ∃ m, splitS s = (m, 0, 0) ∧ splitL s = (m, false) ∧ m.length = l.length ∧ linesS m = some s ∧ (∀ b ∈ m, ∃ u, readS u = some b ∧ ∃ a ∈ l, showS a = some u) := by
  obtain ⟨m, h1, h2, h3, h4⟩ := splitL_lines l s [] h hb
  rw [List.append_nil, splitL_nil, List.append_nil] at h1
  refine ⟨m, ?_, h1, h2, h3, h4⟩
  unfold splitS
  rw [h1]
  simp only [Bool.false_eq_true, if_false]
  rw [if_neg (by omega)]
theorem splitS_wrong {l : List ActL} {x y bad : Bs} (h : linesS l = some x) (hb : ∀ a ∈ l, ActB a) (hn : (10 : UInt8) ∉ bad) (hr : readS bad = none) : splitS (x ++ bad ++ [10] ++ y) = ([], l.length + 1, 3) := by
  obtain ⟨m, h1, h2, _, _⟩ := splitL_lines l x (bad ++ 10 :: y) h hb
  rw [splitL_line bad y hn, hr] at h1
  have e : x ++ bad ++ [10] ++ y = x ++ (bad ++ 10 :: y) := by simp
  rw [e]
  unfold splitS
  rw [h1]
  simp [h2]
theorem ActsAt.take {w : World} {A : Option Addr} {al : List (ActL × ActP)} (h : ActsAt w A al) (n : Nat) : ActsAt w A (al.take n) := fun j x hj => by
  refine h j x ?_
  rw [List.getElem?_take] at hj
  split at hj
  · exact hj
  · cases hj
theorem ActsAt.drop {w : World} {A : Option Addr} {al : List (ActL × ActP)} (h : ActsAt w A al) (n : Nat) : ActsAt w (A.map (fun a => a.add (n * 18))) (al.drop n) := fun j x hj => by
  rw [List.getElem?_drop] at hj
  obtain ⟨ab, ao, rfl, hl, ha⟩ := h (n + j) x hj
  refine ⟨ab, ao + n * 18, by simp [Go.Lk.add_plain], ?_, ha⟩
  have e : ao + n * 18 + j * 18 = ao + (n + j) * 18 := by omega
  rw [e]; exact hl
theorem ActsAt.upd0 {w w1 : World} {A : Option Addr} {al : List (ActL × ActP)} (h : ActsAt w A al) (hu : Upd [] w w1) : ActsAt w1 A al := fun j x hj => by
  obtain ⟨ab, ao, e, hl, ha⟩ := h j x hj
  exact ⟨ab, ao, e, hl.upd hu (by simp), ha.upd hu (by simp)⟩
set_option maxRecDepth 100000 in
set_option maxHeartbeats 3200000 in
theorem walk_ScriptLines {w : World} {A : Option Addr} {c : Nat} {al : List (ActL × ActP)} {at_ : Int} {bad : Bs} (hA : ActsAt w A al) (hc : al.length ≤ c) (hwf : ∀ x ∈ al, ActWf x.1) (hat : (Lit.int .i64 at_).wf = true) (hE : Env w) :
    Calls Tryd.prog 7 #[.slice A al.length c, .int .i64 at_, .string ⟨bad.toArray⟩] w fun e w' => e = .returned (.bool true) ∧ Upd [] w w' := by
  have HA := Lib.hid hA; have HWF := Lib.hid hwf; have HE := Lib.hid hE; clear hA hwf hE
  by_cases hbig : (al.length : Int) > 30
  · go_enter Tryd.func7, Tryd.ntmps7
    go_wp2_with fail
    refine (great_acts_long 30 hbig).mono ?_
    rintro e w1 ⟨rfl, hu1⟩
    have HU1 := Lib.hid hu1; clear hu1
    go_wp2_with fail
    refine (awake27 (HE.out.upd0 HU1.out)).mono ?_
    rintro e w2 ⟨rfl, hu2⟩
    go_wp2_with fail
    go_ret
    exact ⟨rfl, HU1.out.trans hu2 (by simp)⟩
  have hn30 : al.length ≤ 30 := by omega
  have q1 := great_acts (c := c) HA.out 30 (by omega)
  obtain ⟨g, hg⟩ : ∃ g, g = greatA (al.map (·.1)) 30 := ⟨_, rfl⟩
  have HG := Lib.hid hg
  rw [← hg] at q1
  clear hg
  have Q1 := Lib.hid q1
  clear q1 hbig
  go_enter Tryd.func7, Tryd.ntmps7
  go_wp2_with fail
  refine Q1.out.mono ?_
  rintro e w1 ⟨rfl, hu1⟩
  have HU1 := Lib.hid hu1; clear hu1 Q1
  cases g with
  | true =>
    go_wp2_with fail
    refine (awake27 (HE.out.upd0 HU1.out)).mono ?_
    rintro e w2 ⟨rfl, hu2⟩
    go_wp2_with fail
    go_ret
    exact ⟨rfl, HU1.out.trans hu2 (by simp)⟩
  | false =>
  have heach := (greatA_each HG.out.symm).2
  have hok : ∀ x ∈ al, ActOk x.1 := fun x hx => ⟨(greatA_few HG.out.symm).2 _ (List.mem_map.2 ⟨x, hx, rfl⟩), HWF.out x hx⟩
  have hgw : ∀ a ∈ al.map (·.1), greatAct a = false ∧ ActWf a := fun a ha => ⟨heach a ha, by obtain ⟨x, hx, rfl⟩ := List.mem_map.1 ha; exact HWF.out x hx⟩
  have HOK := Lib.hid hok; have HGW := Lib.hid hgw
  clear hok hgw heach HG
  obtain ⟨w2, hw2⟩ : ∃ w2, w2 = w1.alloc (.cells #[.string ⟨bad.toArray⟩] 9) := ⟨_, rfl⟩
  have hu2 : Upd [] w1 w2 := by rw [hw2]; exact (Upd.refl [] w1).alloc _
  have hc2 : w2.cell? ⟨w1.heap.size, 0, none⟩ = some (.string ⟨bad.toArray⟩) := by rw [hw2]; exact cell_of (i := 0) (heap_alloc_self _) rfl
  have HW2 := Lib.hid hw2; have HU2 := Lib.hid (HU1.out.trans hu2 (by simp))
  have q := long_one 60 bad w1.heap.size 1 _ (by omega) hc2
  by_cases hs : 60 ≤ bad.length
  · rw [decide_eq_true (by omega)] at q
    have Q := Lib.hid q; clear q hc2 hw2 hu2
    go_wp2_with fail
    rw [← HW2.out]
    refine Q.out.mono ?_
    rintro e w4' ⟨rfl, rfl⟩
    go_wp2_with fail
    refine (awake27 (HE.out.upd0 HU2.out)).mono ?_
    rintro e w5 ⟨rfl, hu5⟩
    go_wp2_with fail
    go_ret
    exact ⟨rfl, HU2.out.trans hu5 (by simp)⟩
  rw [decide_eq_false (by omega)] at q
  have Q := Lib.hid q; clear q hc2 hw2 hu2
  go_wp2_with fail
  rw [← HW2.out]
  refine Q.out.mono ?_
  rintro e w4' ⟨rfl, rfl⟩
  clear Q
  have q3 := script_lines (c := c) (HA.out.upd0 HU2.out) HOK.out (by omega) (HE.out.upd0 HU2.out)
  cases hls : linesS (al.map (·.1)) with
  | none =>
    rw [hls] at q3
    have Q3 := Lib.hid q3
    clear q3 hls
    go_wp2_with fail
    refine Q3.out.mono ?_
    rintro e w3 ⟨rfl, hu3⟩
    have HU3 := Lib.hid (HU2.out.trans hu3 (by simp)); clear hu3 Q3
    simp only [Option.getD_none, Option.isSome_none, Bool.false_eq_true, if_false]
    go_wp2_with fail
    refine (awake27 (HE.out.upd0 HU3.out)).mono ?_
    rintro e w4 ⟨rfl, hu4⟩
    go_wp2_with fail
    go_ret
    exact ⟨rfl, HU3.out.trans hu4 (by simp)⟩
  | some s =>
  rw [hls] at q3
  have Q3 := Lib.hid q3
  have hB : ∀ a ∈ al.map (·.1), ActB a := fun a ha => actB_of (HGW.out a ha).2
  have hsl : s.length ≤ 897030 := by
    have := linesS_tight HGW.out hls
    rw [List.length_map] at this; omega
  obtain ⟨m, hm1, _, hm2, hm3, hm4⟩ := splitS_lines hls hB (by rw [List.length_map]; omega)
  rw [List.length_map] at hm2
  have HLS := Lib.hid hls; have HB := Lib.hid hB; have HM1 := Lib.hid hm1; have HM2 := Lib.hid hm2; have HM3 := Lib.hid hm3; have HM4 := Lib.hid hm4
  clear q3 hls hB hm1 hm2 hm3 hm4
  go_wp2_with fail
  refine Q3.out.mono ?_
  rintro e w3 ⟨rfl, hu3⟩
  have HU3 := Lib.hid (HU2.out.trans hu3 (by simp)); clear hu3 Q3
  simp only [Option.getD_some, Option.isSome_some, if_true]
  go_wp2_with fail
  have q4 := script_split (w := w3) s (by omega) (HE.out.upd0 HU3.out)
  rw [HM1.out] at q4
  refine q4.mono ?_
  clear q4
  rintro e w4 ⟨A4, c4, al4, rfl, hal4, hown4, hu4⟩
  simp only at hal4
  have hlen : al4.length = al.length := by rw [← HM2.out, ← hal4, List.length_map]
  have HO4 := Lib.hid hown4; have HU4 := Lib.hid (HU3.out.trans hu4 (by simp)); have HAL4 := Lib.hid hal4
  have hact4 : ActsAt w4 A4 al4 := own_acts hown4.own hown4.at_
  have hok4 : ∀ x ∈ al4, ActLim x.1 ∧ ∀ t, showS x.1 = some t → t.length ≤ 900000 := fun x hx => by
    obtain ⟨u, h1, a, ha, h2⟩ := HM4.out x.1 (by rw [← hal4]; exact List.mem_map.2 ⟨x, hx, rfl⟩)
    obtain ⟨y, hy, rfl⟩ := List.mem_map.1 ha
    have hul := showS_few (HOK.out y hy).1 (HOK.out y hy).2 h2
    refine ⟨readS_lim hul h1, fun t ht => ?_⟩
    have := readS_shows h1
    rw [this] at ht
    injection ht with ht
    rw [← ht]; exact hul
  have q5 := script_lines_lim (c := c4) hact4 hok4 (by omega) (HE.out.upd0 HU4.out)
  rw [hal4, HM3.out] at q5
  rw [hlen] at q5 ⊢
  have Q5 := Lib.hid q5
  clear q5 hok4 hact4 hlen hal4 hown4 hu4
  go_wp2_with fail
  refine Q5.out.mono ?_
  rintro e w5 ⟨rfl, hu5⟩
  have HU5 := Lib.hid (HU4.out.trans hu5 (by simp)); clear hu5 Q5
  simp only [Option.getD_some, Option.isSome_some, if_true]
  have q6 := ref_in 10 bad w5 (by omega)
  have hcn : ∃ r, r = bad.contains 10 := ⟨_, rfl⟩
  obtain ⟨r, hr⟩ := hcn
  rw [← hr] at q6
  have HR := Lib.hid hr; have Q6 := Lib.hid q6
  clear hr q6
  go_wp2_with fail
  refine Q6.out.mono ?_
  rintro e wt ⟨rfl, hwt⟩
  rw [hwt]; clear hwt wt Q6
  cases r with
  | true =>
    go_wp2_with fail
    refine (awake27 (HE.out.upd0 HU5.out)).mono ?_
    rintro e w7 ⟨rfl, hu7⟩
    go_wp2_with fail
    go_ret
    exact ⟨rfl, HU5.out.trans hu7 (by simp)⟩
  | false =>
  have HNB : Hid ((10 : UInt8) ∉ bad) := Lib.hid (fun h => by have := HR.out; rw [List.contains_iff_mem.2 h] at this; cases this)
  clear HR
  have q7 := script_read_new (w := w5) bad (by omega) (HE.out.upd0 HU5.out)
  obtain ⟨b, hb⟩ : ∃ b, b = (readS bad).getD ActL.zero := ⟨_, rfl⟩
  obtain ⟨en, hen⟩ : ∃ en : Int, en = if (readS bad).isSome then 0 else 3 := ⟨_, rfl⟩
  rw [← hb, ← hen] at q7
  unfold actV at q7
  have Q7 := Lib.hid q7; have HEN := Lib.hid hen
  clear q7 hen hb
  go_wp2_with fail
  refine Q7.out.mono ?_
  rintro e w7 ⟨p, rfl, hat7, _, hu7⟩
  have HU7 := Lib.hid (HU5.out.trans hu7 (by simp)); clear hu7 Q7 hat7
  have HZ7 := Lib.hid (zeroAct_heap w7); have HCA := Lib.hid (actCells_all b p); have HGG := Lib.hid (aggAct b p)
  go_upto_region 13 with (refine wpList_store_agg _ rfl 29 (.tmp 14) (.tmp 92) rfl w7.heap.size (actCells b p).toArray (actCells ActL.zero p0).toArray 29 rfl rfl HGG.out HZ7.out rfl HCA.out ?_)
  obtain ⟨w8, hw8⟩ : ∃ w8, w8 = (w7.alloc (.cells #[.int .i64 0, .int .i64 0, .int .i64 0, .slice none 0 0, .int .u64 0, .int .i64 0, .slice none 0 0, .slice none 0 0, .string ⟨#[]⟩, .string ⟨#[]⟩, .string ⟨#[]⟩, .int .i64 0, .bool false, .slice none 0 0, .int .i64 0, .int .u64 0, .int .i64 0, .int .i64 0] 29)).setRow w7.heap.size (actCells b p).toArray := ⟨_, rfl⟩
  rw [← hw8]
  have HU8 := Lib.hid (HU7.out.trans (actVar w7 _ _ hw8).2 (by simp))
  clear hw8 HZ7 HCA HGG
  cases hrd : readS bad with
  | some b1 =>
    have he : en = 0 := by rw [HEN.out, hrd]; rfl
    subst he
    clear hrd
    go_wp2_with fail
    refine (awake27 (HE.out.upd0 HU8.out)).mono ?_
    rintro e w9 ⟨rfl, hu9⟩
    go_wp2_with fail
    go_ret
    exact ⟨rfl, HU8.out.trans hu9 (by simp)⟩
  | none =>
  have he : en = 3 := by rw [HEN.out, hrd]; rfl
  subst he
  have HRD := Lib.hid hrd
  clear hrd HEN
  have hlw := low_lt at_ (al.length + 1) (by omega)
  have q9 := Low_any at_ (al.length + 1) (by omega) (by omega) w8
  obtain ⟨n, hn⟩ : ∃ n, n = low at_ (al.length + 1) := ⟨_, rfl⟩
  rw [← hn] at hlw q9
  rw [show ((al.length + 1 : Nat) : Int) = (al.length : Int) + 1 by omega] at q9
  have Q9 := Lib.hid q9
  clear q9 hn
  go_wp2_with fail
  refine Q9.out.mono ?_
  rintro e wt ⟨rfl, hwt⟩
  rw [← hwt]; clear hwt wt Q9
  obtain ⟨x, y, hx, hy, hxy⟩ := linesS_append ((al.take n).map (·.1)) ((al.drop n).map (·.1)) s (by rw [← List.map_append, List.take_append_drop]; exact HLS.out)
  have hln : (al.take n).length = n := by rw [List.length_take]; omega
  have hld : (al.drop n).length = al.length - n := List.length_drop
  have hxl : x.length + y.length = s.length := by rw [hxy, List.length_append]
  have q10 := script_lines (c := c) ((HA.out.upd0 HU8.out).take n) (fun z hz => HOK.out z (List.mem_of_mem_take hz)) (by omega) (HE.out.upd0 HU8.out)
  rw [hx, hln] at q10
  have hsw := splitS_wrong (y := y) hx (fun a ha => HB.out a (by obtain ⟨z, hz, rfl⟩ := List.mem_map.1 ha; exact List.mem_map.2 ⟨z, List.mem_of_mem_take hz, rfl⟩)) HNB.out HRD.out
  rw [List.length_map, hln] at hsw
  have HSW := Lib.hid hsw; have HY := Lib.hid hy; have HLN := Lib.hid hln; have HLD := Lib.hid hld; have HXL := Lib.hid hxl; have Q10 := Lib.hid q10
  clear hx hy hxy hln hld hxl q10 hsw
  have hnc : n ≤ c := by omega
  go_wp2_with fail
  refine Q10.out.mono ?_
  rintro e w10 ⟨rfl, hu10⟩
  have HU10 := Lib.hid (HU8.out.trans hu10 (by simp)); clear hu10 Q10
  simp only [Option.getD_some, Option.isSome_some, if_true]
  have hQ11 : ∀ A' c', ActsAt w10 A' (al.drop n) → Calls Tryd.prog 17 #[.slice A' (al.length - n) c'] w10 fun e w' => e = .returned (.tuple #[.string ⟨y.toArray⟩, .int .i64 0]) ∧ Upd [] w10 w' := fun A' c' hA' => by
    have q := script_lines (c := c') hA' (fun z hz => HOK.out z (List.mem_of_mem_drop hz)) (by rw [HLD.out]; omega) (HE.out.upd0 HU10.out)
    rw [HY.out, HLD.out] at q
    exact q
  have HQ11 := Lib.hid hQ11
  have hcat : (⟨x.toArray⟩ : ByteArray) ++ ⟨bad.toArray⟩ ++ ⟨#[10]⟩ ++ ⟨y.toArray⟩ = ⟨(x ++ bad ++ [10] ++ y).toArray⟩ := by
    rw [str_append, show (⟨#[10]⟩ : ByteArray) = ⟨([10] : Bs).toArray⟩ from rfl, str_append, str_append]
  have HCAT := Lib.hid hcat
  have hlen : (x ++ bad ++ [10] ++ y).length ≤ 900000 := by
    have := HXL.out
    simp only [List.length_append, List.length_cons, List.length_nil]; omega
  have HLEN := Lib.hid hlen
  have hxb : x.length ≤ 900000 := by have := HXL.out; omega
  have hyb : y.length ≤ 900000 := by have := HXL.out; omega
  clear hQ11 hcat hlen
  go_wp2_with fail
  all_goals
    refine (HQ11.out _ _ (by first | exact (HA.out.upd0 HU10.out).drop n | (rw [List.drop_eq_nil_of_le (by omega)]; intro j z hj; cases hj))).mono ?_
    rintro e w11 ⟨rfl, hu11⟩
    have HU11 := Lib.hid (HU10.out.trans hu11 (by simp)); clear hu11
    go_wp2_with fail
    rw [HCAT.out]
    have q12 := script_split (w := w11) (x ++ bad ++ [10] ++ y) HLEN.out (HE.out.upd0 HU11.out)
    rw [HSW.out] at q12
    refine q12.mono ?_
    clear q12
    rintro e w12 ⟨A12, c12, al12, rfl, hal12, _, hu12⟩
    have HU12 := Lib.hid (HU11.out.trans hu12 (by simp)); clear hu12
    simp only at hal12
    obtain rfl : al12 = [] := by simpa using hal12
    clear hal12
    go_wp2_with fail
    refine (awake27 (HE.out.upd0 HU12.out)).mono ?_
    rintro e w13 ⟨rfl, hu13⟩
    go_wp2_with fail
    go_ret
    exact ⟨rfl, HU12.out.trans hu13 (by simp)⟩
theorem walkA_ScriptLines (W : World) (v : Value) (al : List (ActL × ActP)) (h : ActsR W v al) (at_ : Int) (hat : (Lit.int .i64 at_).wf = true) (bad : ByteArray) (hb : bad.size ≤ maxLen) (hE : Env W) :
    Calls Tryd.prog 7 #[v, .int .i64 at_, .string bad] W fun e W' => e = .returned (.bool true) ∧ Below W.heap.size W W' := by
  obtain ⟨A, c, rfl, hc, ha, hw⟩ := h.acts
  exact (walk_ScriptLines (bad := bad.data.toList) ha hc hw hat hE).mono fun e W' ⟨he, hu⟩ => ⟨he, hu.below (by simp)⟩
end Go.Proofs.YtajoldboafkpdaaDoor
