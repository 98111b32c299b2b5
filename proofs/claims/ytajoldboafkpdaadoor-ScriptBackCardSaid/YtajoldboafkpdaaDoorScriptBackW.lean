-- ScriptBack: the walk.
import Derived.Test.YtajoldboafkpdaaDoorBackL
import Derived.Test.YtajoldboafkpdaaDoorLong
namespace Go.Proofs.YtajoldboafkpdaaDoor
set_option linter.unusedSimpArgs false
set_option linter.unusedVariables false
open Go.RowKit Go.Lk
theorem actCells_len (a : ActL) (p : ActP) : (actCells a p).length = 18 := rfl
set_option maxRecDepth 100000 in
theorem fold_act (a : ActL) (p : ActP) : List.foldl (fun (cs : Array Value) (x : Value × Nat) => cs.setIfInBounds x.snd x.fst) #[.int .i64 0, .int .i64 0, .int .i64 0, .slice none 0 0, .int .u64 0, .int .i64 0, .slice none 0 0, .slice none 0 0, .string ⟨#[]⟩, .string ⟨#[]⟩, .string ⟨#[]⟩, .int .i64 0, .bool false, .slice none 0 0, .int .i64 0, .int .u64 0, .int .i64 0, .int .i64 0] (actCells a p).zipIdx = (actCells a p).toArray := by
  unfold actCells
  simp [List.zipIdx]
set_option maxRecDepth 100000 in
set_option maxHeartbeats 3000000 in
theorem walk_ScriptBack {w : World} {a : ActL} {p : ActP} {s : Bs} (hA : ActAt w a p) (hwf : ActWf a) (hE : Env w) :
    Calls Tryd.prog 3 #[actV a p, .string ⟨s.toArray⟩] w fun e w' => e = .returned (.bool true) ∧ Upd [] w w' := by
  have hlen := actCells_len a p
  obtain ⟨w1, hw1⟩ : ∃ w1, w1 = w.alloc (.cells (actCells a p).toArray 29) := ⟨_, rfl⟩
  have hbx : w1.heap[w.heap.size]? = some (.cells (actCells a p).toArray 29) := by rw [hw1]; exact heap_alloc_self _
  have hu : Upd [] w w1 := by rw [hw1]; exact (Upd.refl [] w).alloc _
  have HBX := Lib.hid hbx; have HW1 := Lib.hid hw1; have HU1 := Lib.hid hu; have HA := Lib.hid hA; have HE := Lib.hid hE; have HWF := Lib.hid hwf
  clear hbx hw1 hu hA hE hwf
  have hL1 : LiesAt w1 w.heap.size 0 (actCells a p) := LiesAt.of_block HBX.out
  have HL1 := Lib.hid hL1
  have hag : aggOf Tryd.prog 29 (actCells a p).length = true := aggAct a p
  have HAG := Lib.hid hag
  clear hL1 hag
  unfold actV
  go_enter Tryd.func3, Tryd.ntmps3
  go_upto_region 1 with fail
  rw [← HW1.out]
  go_wp2_with (refine wpList_load_lies _ rfl 29 (.tmp 2) rfl w.heap.size 0 (actCells a p) rfl HAG.out HL1.out ?_)
  rw [fold_act]
  obtain ⟨w2, hw2⟩ : ∃ w2, w2 = w1.alloc (.cells (actCells a p).toArray 29) := ⟨_, rfl⟩
  rw [← hw2]
  have hb2 : w2.heap[w1.heap.size]? = some (.cells (actCells a p).toArray 29) := by rw [hw2]; exact heap_alloc_self _
  have hu2 : Upd [] w1 w2 := by rw [hw2]; exact (Upd.refl [] w1).alloc _
  have hacts : ActsAt w2 (some ⟨w1.heap.size, 0, none⟩) [(a, p)] := by
    intro j x hj
    have hj0 : j = 0 := by
      have := (List.getElem?_eq_some_iff.1 hj).1
      simp at this; exact this
    subst hj0
    obtain rfl : (a, p) = x := by simpa using hj
    exact ⟨_, _, rfl, LiesAt.of_block hb2, (HA.out.upd HU1.out (by simp)).upd hu2 (by simp)⟩
  have HQ := Lib.hid (great_acts (c := 1) hacts 1 (by simp))
  have HU2 := Lib.hid (HU1.out.trans hu2 (by simp))
  have HBX2 := Lib.hid ((hu2.block w.heap.size (Array.getElem?_eq_some_iff.1 HBX.out).1 (by simp)).trans HBX.out)
  clear hw2 hb2 hu2 hacts
  refine HQ.out.mono ?_
  rintro e w3 ⟨rfl, hu3⟩
  have HU3 := Lib.hid (HU2.out.trans hu3 (by simp))
  have HBX3 := Lib.hid ((hu3.block w.heap.size (Array.getElem?_eq_some_iff.1 HBX2.out).1 (by simp)).trans HBX2.out)
  clear hu3 HQ
  obtain ⟨g, hg⟩ : ∃ g, g = greatA ([(a, p)].map (·.1)) 1 := ⟨_, rfl⟩
  have HG := Lib.hid hg
  rw [← hg]
  clear hg
  cases g with
  | true =>
    go_wp2_with fail
    refine (awake27 (HE.out.upd0 HU3.out)).mono ?_
    rintro e w4 ⟨rfl, hu4⟩
    go_wp2_with fail
    go_ret
    exact ⟨rfl, HU3.out.trans hu4 (by simp)⟩
  | false =>
  have hfew : ActFew a := (greatA_few HG.out.symm).2 a (by simp)
  have HFEW := Lib.hid hfew; have HLIM := Lib.hid (lim_of_few hfew HWF.out)
  clear hfew HG
  obtain ⟨w4, hw4⟩ : ∃ w4, w4 = w3.alloc (.cells #[.string ⟨s.toArray⟩] 9) := ⟨_, rfl⟩
  have hu4 : Upd [] w3 w4 := by rw [hw4]; exact (Upd.refl [] w3).alloc _
  have hc : w4.cell? ⟨w3.heap.size, 0, none⟩ = some (.string ⟨s.toArray⟩) := by rw [hw4]; exact cell_of (i := 0) (heap_alloc_self _) rfl
  have HW4 := Lib.hid hw4; have HU4 := Lib.hid (HU3.out.trans hu4 (by simp))
  have HBX4 := Lib.hid ((hu4.block w.heap.size (Array.getElem?_eq_some_iff.1 HBX3.out).1 (by simp)).trans HBX3.out)
  have q := long_one 3000 s w3.heap.size 1 _ (by omega) hc
  by_cases hs : 3000 ≤ s.length
  · rw [decide_eq_true (by omega)] at q
    have Q := Lib.hid q; clear q hc hw4 hu4
    go_wp2_with fail
    rw [← HW4.out]
    refine Q.out.mono ?_
    rintro e w4' ⟨rfl, rfl⟩
    go_wp2_with fail
    refine (awake27 (HE.out.upd0 HU4.out)).mono ?_
    rintro e w5 ⟨rfl, hu5⟩
    go_wp2_with fail
    go_ret
    exact ⟨rfl, HU4.out.trans hu5 (by simp)⟩
  rw [decide_eq_false (by omega)] at q
  have Q := Lib.hid q; clear q hc hw4 hu4
  go_wp2_with fail
  rw [← HW4.out]
  refine Q.out.mono ?_
  rintro e w4' ⟨rfl, rfl⟩
  clear Q
  go_wp2_with fail
  have HQ5 := Lib.hid (script_read (w := w4) s (by omega) (HE.out.upd0 HU4.out))
  obtain ⟨rr, hrr⟩ : ∃ rr, rr = readS s := ⟨_, rfl⟩
  have HRR := Lib.hid hrr
  have q5 := HQ5.out
  rw [← hrr] at q5
  unfold actV at q5
  clear hrr HQ5
  refine q5.mono ?_
  clear q5
  rintro e w5 ⟨p5, rfl, hat5, hu5⟩
  have HU5 := Lib.hid (HU4.out.trans hu5 (by simp)); have HA5 := Lib.hid hat5
  have HBX5 := Lib.hid ((hu5.block w.heap.size (Array.getElem?_eq_some_iff.1 HBX4.out).1 (by simp)).trans HBX4.out)
  clear hu5 hat5
  obtain ⟨b, hb⟩ : ∃ b, b = rr.getD ActL.zero := ⟨_, rfl⟩
  have HB := Lib.hid hb
  rw [← hb] at HA5 ⊢
  clear hb
  have HZ5 := Lib.hid (zeroAct_heap w5); have HC := Lib.hid actCells_all; have HG5 := Lib.hid aggAct
  go_upto_region 4 with (refine wpList_store_agg _ rfl 29 (.tmp 5) (.tmp 27) rfl w5.heap.size (actCells b p5).toArray (actCells ActL.zero p0).toArray 29 rfl rfl (HG5.out _ _) HZ5.out rfl (HC.out _ _) ?_)
  obtain ⟨w6, hw6⟩ : ∃ w6, w6 = (w5.alloc (.cells #[.int .i64 0, .int .i64 0, .int .i64 0, .slice none 0 0, .int .u64 0, .int .i64 0, .slice none 0 0, .slice none 0 0, .string ⟨#[]⟩, .string ⟨#[]⟩, .string ⟨#[]⟩, .int .i64 0, .bool false, .slice none 0 0, .int .i64 0, .int .u64 0, .int .i64 0, .int .i64 0] 29)).setRow w5.heap.size (actCells b p5).toArray := ⟨_, rfl⟩
  rw [← hw6]
  have hv := actVar w5 _ _ hw6
  have HU6 := Lib.hid (HU5.out.trans hv.2 (by simp))
  have HBX6 := Lib.hid ((hv.2.block w.heap.size (Array.getElem?_eq_some_iff.1 HBX5.out).1 (by simp)).trans HBX5.out)
  have HA6 := Lib.hid (HA5.out.upd2 hv.2 (by simp))
  have HB6 := Lib.hid hv.1
  clear hw6 hv
  have HL6 : Hid (LiesAt w6 w5.heap.size 0 (actCells b p5)) := Lib.hid (LiesAt.of_block HB6.out)
  have HAG6 : Hid (aggOf Tryd.prog 29 (actCells b p5).length = true) := Lib.hid (aggAct b p5)
  rcases rr with _ | b0
  · simp only [Option.isSome_none, Bool.false_eq_true, if_false]
    obtain ⟨wc, hwc⟩ : ∃ wc, wc = w6 := ⟨_, rfl⟩
    have HUC : Hid (Upd [] w6 wc) := Lib.hid (by rw [hwc]; exact Upd.refl _ _)
    rw [← hwc]
    clear hwc
    have HU8 := Lib.hid (HU6.out.trans HUC.out (by simp))
    have HBX8 := Lib.hid ((HUC.out.block w.heap.size (Array.getElem?_eq_some_iff.1 HBX6.out).1 (by simp)).trans HBX6.out)
    have HL8 : Hid (LiesAt wc w.heap.size 0 (actCells a p)) := Lib.hid (LiesAt.of_block HBX8.out)
    have q8 := script_show (HA.out.upd HU8.out (by simp)) HLIM.out (HE.out.upd0 HU8.out)
    cases hsa : showS a with
    | none =>
      rw [hsa] at q8
      unfold actV at q8
      have Q8 := Lib.hid q8
      clear q8 hsa
      go_wp2_with (refine wpList_load_lies _ rfl 29 (.tmp 2) rfl w.heap.size 0 (actCells a p) rfl HAG.out HL8.out ?_)
      refine Q8.out.mono ?_
      rintro e w9 ⟨rfl, hu9⟩
      have HU9 := Lib.hid (HU8.out.trans hu9 (by simp)); clear hu9 Q8
      simp only [Option.getD_none, Option.isSome_none, Bool.false_eq_true, if_false]
      go_wp2_with fail
      refine (awake27 (HE.out.upd0 HU9.out)).mono ?_
      rintro e w10 ⟨rfl, hu10⟩
      go_wp2_with fail
      go_ret
      exact ⟨rfl, HU9.out.trans hu10 (by simp)⟩
    | some t =>
      have htl := showS_few HFEW.out HWF.out hsa
      obtain ⟨c, hrc, hop, hsc⟩ := readS_showS hsa (actB_of HWF.out)
      have hcl := readS_lim htl hrc
      rw [hsa] at q8
      unfold actV at q8
      have Q8 := Lib.hid q8; have HRC := Lib.hid hrc; have HOP := Lib.hid hop; have HSC := Lib.hid hsc; have HCL := Lib.hid hcl
      clear q8 hsa hrc hop hsc hcl
      go_wp2_with (refine wpList_load_lies _ rfl 29 (.tmp 2) rfl w.heap.size 0 (actCells a p) rfl HAG.out HL8.out ?_)
      refine Q8.out.mono ?_
      rintro e w9 ⟨rfl, hu9⟩
      have HU9 := Lib.hid (HU8.out.trans hu9 (by simp))
      have HBX9 := Lib.hid ((hu9.block w.heap.size (Array.getElem?_eq_some_iff.1 HBX8.out).1 (by simp)).trans HBX8.out)
      clear hu9 Q8
      simp only [Option.getD_some, Option.isSome_some, if_true]
      go_wp2_with fail
      have q10 := script_read (w := w9) t htl (HE.out.upd0 HU9.out)
      rw [HRC.out] at q10
      unfold actV at q10
      refine q10.mono ?_
      clear q10
      simp only [Option.getD_some, Option.isSome_some, if_true]
      rintro e w10 ⟨pc, rfl, hac, hu10⟩
      have HU10 := Lib.hid (HU9.out.trans hu10 (by simp)); have HAC := Lib.hid hac
      have HBX10 := Lib.hid ((hu10.block w.heap.size (Array.getElem?_eq_some_iff.1 HBX9.out).1 (by simp)).trans HBX9.out)
      clear hu10 hac
      have HZ10 := Lib.hid (zeroAct_heap w10)
      go_upto_region 12 with (refine wpList_store_agg _ rfl 29 (.tmp 11) (.tmp 62) rfl w10.heap.size (actCells c pc).toArray (actCells ActL.zero p0).toArray 29 rfl rfl (HG5.out _ _) HZ10.out rfl (HC.out _ _) ?_)
      obtain ⟨w11, hw11⟩ : ∃ w11, w11 = (w10.alloc (.cells #[.int .i64 0, .int .i64 0, .int .i64 0, .slice none 0 0, .int .u64 0, .int .i64 0, .slice none 0 0, .slice none 0 0, .string ⟨#[]⟩, .string ⟨#[]⟩, .string ⟨#[]⟩, .int .i64 0, .bool false, .slice none 0 0, .int .i64 0, .int .u64 0, .int .i64 0, .int .i64 0] 29)).setRow w10.heap.size (actCells c pc).toArray := ⟨_, rfl⟩
      rw [← hw11]
      have hv := actVar w10 _ _ hw11
      have HU11 := Lib.hid (HU10.out.trans hv.2 (by simp))
      have HBX11 := Lib.hid ((hv.2.block w.heap.size (Array.getElem?_eq_some_iff.1 HBX10.out).1 (by simp)).trans HBX10.out)
      have HA11 := Lib.hid (HAC.out.upd2 hv.2 (by simp))
      have HB11 := Lib.hid hv.1
      clear hw11 hv
      have HL11 : Hid (LiesAt w11 w10.heap.size 0 (actCells c pc)) := Lib.hid (LiesAt.of_block HB11.out)
      have HAG11 : Hid (aggOf Tryd.prog 29 (actCells c pc).length = true) := Lib.hid (aggAct c pc)
      have q12 := script_show HA11.out HCL.out (HE.out.upd0 HU11.out)
      rw [HSC.out] at q12
      unfold actV at q12
      have Q12 := Lib.hid q12
      clear q12
      go_wp2_with (refine wpList_load_lies _ rfl 29 (.tmp 11) rfl w10.heap.size 0 (actCells c pc) rfl HAG11.out HL11.out ?_)
      refine Q12.out.mono ?_
      rintro e w12 ⟨rfl, hu12⟩
      have HU12 := Lib.hid (HU11.out.trans hu12 (by simp))
      have e0 : w12.cell? ⟨w.heap.size, 0, none⟩ = some (.int .i64 a.op) := cell_of (i := 0) ((hu12.block w.heap.size (Array.getElem?_eq_some_iff.1 HBX11.out).1 (by simp)).trans HBX11.out) rfl
      have e1 : w12.cell? ⟨w10.heap.size, 0, none⟩ = some (.int .i64 a.op) := by
        rw [← HOP.out]
        exact cell_of (i := 0) ((hu12.block w10.heap.size (Array.getElem?_eq_some_iff.1 HB11.out).1 (by simp)).trans HB11.out) rfl
      clear hu12 Q12
      simp only [Option.getD_some, Option.isSome_some, if_true]
      go_wp2_with fail
      refine (awake27 (HE.out.upd0 HU12.out)).mono ?_
      rintro e w13 ⟨rfl, hu13⟩
      go_wp2_with fail
      go_ret
      exact ⟨rfl, HU12.out.trans hu13 (by simp)⟩
  · have hbb : b = b0 := HB.out
    have hsb : showS b = some s := by rw [hbb]; exact readS_shows HRR.out.symm
    have hbl : ActLim b := by rw [hbb]; exact readS_lim (by omega) HRR.out.symm
    have q := script_show HA6.out hbl (HE.out.upd0 HU6.out)
    rw [hsb] at q
    unfold actV at q
    have Q := Lib.hid q
    clear q hbb hsb hbl
    simp only [Option.isSome_some, if_true]
    go_wp2_with (refine wpList_load_lies _ rfl 29 (.tmp 5) rfl w5.heap.size 0 (actCells b p5) rfl HAG6.out HL6.out ?_)
    refine Q.out.mono ?_
    rintro e wc ⟨rfl, hu7⟩
    have HUC := Lib.hid hu7; clear hu7 Q
    simp only [Option.getD_some, Option.isSome_some, if_true]
    have HU8 := Lib.hid (HU6.out.trans HUC.out (by simp))
    have HBX8 := Lib.hid ((HUC.out.block w.heap.size (Array.getElem?_eq_some_iff.1 HBX6.out).1 (by simp)).trans HBX6.out)
    have HL8 : Hid (LiesAt wc w.heap.size 0 (actCells a p)) := Lib.hid (LiesAt.of_block HBX8.out)
    have q8 := script_show (HA.out.upd HU8.out (by simp)) HLIM.out (HE.out.upd0 HU8.out)
    cases hsa : showS a with
    | none =>
      rw [hsa] at q8
      unfold actV at q8
      have Q8 := Lib.hid q8
      clear q8 hsa
      go_wp2_with (refine wpList_load_lies _ rfl 29 (.tmp 2) rfl w.heap.size 0 (actCells a p) rfl HAG.out HL8.out ?_)
      refine Q8.out.mono ?_
      rintro e w9 ⟨rfl, hu9⟩
      have HU9 := Lib.hid (HU8.out.trans hu9 (by simp)); clear hu9 Q8
      simp only [Option.getD_none, Option.isSome_none, Bool.false_eq_true, if_false]
      go_wp2_with fail
      refine (awake27 (HE.out.upd0 HU9.out)).mono ?_
      rintro e w10 ⟨rfl, hu10⟩
      go_wp2_with fail
      go_ret
      exact ⟨rfl, HU9.out.trans hu10 (by simp)⟩
    | some t =>
      have htl := showS_few HFEW.out HWF.out hsa
      obtain ⟨c, hrc, hop, hsc⟩ := readS_showS hsa (actB_of HWF.out)
      have hcl := readS_lim htl hrc
      rw [hsa] at q8
      unfold actV at q8
      have Q8 := Lib.hid q8; have HRC := Lib.hid hrc; have HOP := Lib.hid hop; have HSC := Lib.hid hsc; have HCL := Lib.hid hcl
      clear q8 hsa hrc hop hsc hcl
      go_wp2_with (refine wpList_load_lies _ rfl 29 (.tmp 2) rfl w.heap.size 0 (actCells a p) rfl HAG.out HL8.out ?_)
      refine Q8.out.mono ?_
      rintro e w9 ⟨rfl, hu9⟩
      have HU9 := Lib.hid (HU8.out.trans hu9 (by simp))
      have HBX9 := Lib.hid ((hu9.block w.heap.size (Array.getElem?_eq_some_iff.1 HBX8.out).1 (by simp)).trans HBX8.out)
      clear hu9 Q8
      simp only [Option.getD_some, Option.isSome_some, if_true]
      go_wp2_with fail
      have q10 := script_read (w := w9) t htl (HE.out.upd0 HU9.out)
      rw [HRC.out] at q10
      unfold actV at q10
      refine q10.mono ?_
      clear q10
      simp only [Option.getD_some, Option.isSome_some, if_true]
      rintro e w10 ⟨pc, rfl, hac, hu10⟩
      have HU10 := Lib.hid (HU9.out.trans hu10 (by simp)); have HAC := Lib.hid hac
      have HBX10 := Lib.hid ((hu10.block w.heap.size (Array.getElem?_eq_some_iff.1 HBX9.out).1 (by simp)).trans HBX9.out)
      clear hu10 hac
      have HZ10 := Lib.hid (zeroAct_heap w10)
      go_upto_region 12 with (refine wpList_store_agg _ rfl 29 (.tmp 11) (.tmp 62) rfl w10.heap.size (actCells c pc).toArray (actCells ActL.zero p0).toArray 29 rfl rfl (HG5.out _ _) HZ10.out rfl (HC.out _ _) ?_)
      obtain ⟨w11, hw11⟩ : ∃ w11, w11 = (w10.alloc (.cells #[.int .i64 0, .int .i64 0, .int .i64 0, .slice none 0 0, .int .u64 0, .int .i64 0, .slice none 0 0, .slice none 0 0, .string ⟨#[]⟩, .string ⟨#[]⟩, .string ⟨#[]⟩, .int .i64 0, .bool false, .slice none 0 0, .int .i64 0, .int .u64 0, .int .i64 0, .int .i64 0] 29)).setRow w10.heap.size (actCells c pc).toArray := ⟨_, rfl⟩
      rw [← hw11]
      have hv := actVar w10 _ _ hw11
      have HU11 := Lib.hid (HU10.out.trans hv.2 (by simp))
      have HBX11 := Lib.hid ((hv.2.block w.heap.size (Array.getElem?_eq_some_iff.1 HBX10.out).1 (by simp)).trans HBX10.out)
      have HA11 := Lib.hid (HAC.out.upd2 hv.2 (by simp))
      have HB11 := Lib.hid hv.1
      clear hw11 hv
      have HL11 : Hid (LiesAt w11 w10.heap.size 0 (actCells c pc)) := Lib.hid (LiesAt.of_block HB11.out)
      have HAG11 : Hid (aggOf Tryd.prog 29 (actCells c pc).length = true) := Lib.hid (aggAct c pc)
      have q12 := script_show HA11.out HCL.out (HE.out.upd0 HU11.out)
      rw [HSC.out] at q12
      unfold actV at q12
      have Q12 := Lib.hid q12
      clear q12
      go_wp2_with (refine wpList_load_lies _ rfl 29 (.tmp 11) rfl w10.heap.size 0 (actCells c pc) rfl HAG11.out HL11.out ?_)
      refine Q12.out.mono ?_
      rintro e w12 ⟨rfl, hu12⟩
      have HU12 := Lib.hid (HU11.out.trans hu12 (by simp))
      have e0 : w12.cell? ⟨w.heap.size, 0, none⟩ = some (.int .i64 a.op) := cell_of (i := 0) ((hu12.block w.heap.size (Array.getElem?_eq_some_iff.1 HBX11.out).1 (by simp)).trans HBX11.out) rfl
      have e1 : w12.cell? ⟨w10.heap.size, 0, none⟩ = some (.int .i64 a.op) := by
        rw [← HOP.out]
        exact cell_of (i := 0) ((hu12.block w10.heap.size (Array.getElem?_eq_some_iff.1 HB11.out).1 (by simp)).trans HB11.out) rfl
      clear hu12 Q12
      simp only [Option.getD_some, Option.isSome_some, if_true]
      go_wp2_with fail
      refine (awake27 (HE.out.upd0 HU12.out)).mono ?_
      rintro e w13 ⟨rfl, hu13⟩
      go_wp2_with fail
      go_ret
      exact ⟨rfl, HU12.out.trans hu13 (by simp)⟩
theorem walkA_ScriptBack (W : World) (a : ActL) (p : ActP) (hA : ActAt W a p) (hwf : ActWf a) (s : ByteArray) (hs : s.size ≤ maxLen) (hE : Env W) :
    Calls Tryd.prog 3 #[actV a p, .string s] W fun e W' => e = .returned (.bool true) ∧ Below W.heap.size W W' :=
  (walk_ScriptBack (s := s.data.toList) hA hwf hE).mono fun e W' ⟨he, hu⟩ => ⟨he, hu.below (by simp)⟩
end Go.Proofs.YtajoldboafkpdaaDoor
