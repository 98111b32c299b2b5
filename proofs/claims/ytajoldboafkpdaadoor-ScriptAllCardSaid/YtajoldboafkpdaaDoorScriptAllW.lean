-- ScriptAll: the walk.
import Derived.Test.YtajoldboafkpdaaDoorRefSplit
import Derived.Test.YtajoldboafkpdaaDoorSameAct
import Derived.Test.YtajoldboafkpdaaDoorLong
import Derived.Test.YtajoldboafkpdaaDoorUnhex
import Derived.Test.YtajoldboafkpdaaDoorRefCount
import Derived.Test.YtajoldboafkpdaaDoorRefNums
namespace Go.Proofs.YtajoldboafkpdaaDoor
set_option linter.unusedSimpArgs false
set_option linter.unusedVariables false
open Go.RowKit Go.Lk
theorem readS_few {s : Bs} (hs : s.length ≤ 900000) : ((readS s).getD ActL.zero).ids.length ≤ 1000000 ∧ ((readS s).getD ActL.zero).headers.length ≤ 1000000 ∧ ((readS s).getD ActL.zero).req.headers.length ≤ 1000000 := by
  cases h : readS s with
  | none => simp [ActL.zero, ReqL.zero]
  | some a =>
    have := readS_lim hs h
    exact ⟨this.ids.1, this.hd.1, this.rq.hd.1⟩
set_option maxRecDepth 100000 in
set_option maxHeartbeats 3200000 in
theorem walk_ScriptAll {w : World} {s : Bs} (hE : Env w) :
    Calls Tryd.prog 6 #[.string ⟨s.toArray⟩] w fun e w' => e = .returned (.bool true) ∧ Upd [] w w' := by
  have HE := Lib.hid hE; clear hE
  obtain ⟨w1, hw1⟩ : ∃ w1, w1 = w.alloc (.cells #[.string ⟨s.toArray⟩] 9) := ⟨_, rfl⟩
  have hu1 : Upd [] w w1 := by rw [hw1]; exact (Upd.refl [] w).alloc _
  have hc : w1.cell? ⟨w.heap.size, 0, none⟩ = some (.string ⟨s.toArray⟩) := by rw [hw1]; exact cell_of (i := 0) (heap_alloc_self _) rfl
  have q := long_one 3000 s w.heap.size 1 _ (by omega) hc
  have HU1 := Lib.hid hu1; have HW1 := Lib.hid hw1
  by_cases h2 : 3000 ≤ s.length
  · rw [decide_eq_true (by omega)] at q
    have Q := Lib.hid q; clear q hc hu1 hw1
    go_enter Tryd.func6, Tryd.ntmps6
    go_wp2_with fail
    rw [← HW1.out]
    refine Q.out.mono ?_
    rintro e w1' ⟨rfl, rfl⟩
    go_wp2_with fail
    refine (awake27 (HE.out.upd0 HU1.out)).mono ?_
    rintro e w2 ⟨rfl, hu⟩
    go_wp2_with fail
    go_ret
    exact ⟨rfl, HU1.out.trans hu (by simp)⟩
  rw [decide_eq_false (by omega)] at q
  have Q := Lib.hid q; clear q hc hu1 hw1
  go_enter Tryd.func6, Tryd.ntmps6
  go_wp2_with fail
  rw [← HW1.out]
  refine Q.out.mono ?_
  rintro e w1' ⟨rfl, rfl⟩
  clear Q
  obtain ⟨en, hen⟩ : ∃ en : Int, en = if (readS s).isSome then 0 else 3 := ⟨_, rfl⟩
  obtain ⟨a, ha⟩ : ∃ a, a = (readS s).getD ActL.zero := ⟨_, rfl⟩
  have hfew := readS_few (s := s) (by omega)
  have q1 := script_read (w := w1) s (by omega) (HE.out.upd0 HU1.out)
  rw [← ha] at hfew
  rw [← ha, ← hen] at q1
  unfold actV at q1
  have HEN := Lib.hid hen; have HAA := Lib.hid ha; have HFEW := Lib.hid hfew; have Q1 := Lib.hid q1
  clear hen ha hfew q1
  go_wp2_with fail
  refine Q1.out.mono ?_
  rintro e w2 ⟨p, rfl, hat2, hu2⟩
  have HU2 := Lib.hid (HU1.out.trans hu2 (by simp)); have HA2 := Lib.hid hat2
  clear hu2 hat2 Q1
  have HZ2 := Lib.hid (zeroAct_heap w2); have HCP := Lib.hid (actCells_all a p); have HGP := Lib.hid (aggAct a p); have HLP : Hid (aggOf Tryd.prog 29 (actCells a p).length = true) := Lib.hid (aggAct a p)
  go_upto_region 4 with (refine wpList_store_agg _ rfl 29 (.tmp 3) (.tmp 24) rfl w2.heap.size (actCells a p).toArray (actCells ActL.zero p0).toArray 29 rfl rfl HGP.out HZ2.out rfl HCP.out ?_)
  obtain ⟨w3, hw3⟩ : ∃ w3, w3 = (w2.alloc (.cells #[.int .i64 0, .int .i64 0, .int .i64 0, .slice none 0 0, .int .u64 0, .int .i64 0, .slice none 0 0, .slice none 0 0, .string ⟨#[]⟩, .string ⟨#[]⟩, .string ⟨#[]⟩, .int .i64 0, .bool false, .slice none 0 0, .int .i64 0, .int .u64 0, .int .i64 0, .int .i64 0] 29)).setRow w2.heap.size (actCells a p).toArray := ⟨_, rfl⟩
  rw [← hw3]
  have hv3 := actVar w2 _ _ hw3
  obtain ⟨b3, hb3⟩ : ∃ b, b = w2.heap.size := ⟨_, rfl⟩
  rw [← hb3] at hv3 ⊢
  have HB3 := Lib.hid hv3.1; have HU3 := Lib.hid (HU2.out.trans hv3.2 (by simp)); have HA3 := Lib.hid (HA2.out.upd hv3.2 (by simp))
  clear hw3 hv3 hb3
  have q4 := ref_read (w := w3) s (by omega)
  rw [← HAA.out, ← HEN.out] at q4
  unfold actV at q4
  have Q4 := Lib.hid q4; clear q4
  go_wp2_with fail
  refine Q4.out.mono ?_
  rintro e w4 ⟨p', rfl, hat4, _, hu4⟩
  have HU4 := Lib.hid (HU3.out.trans hu4 (by simp)); have HA4 := Lib.hid (HA3.out.upd hu4 (by simp)); have HC4 := Lib.hid hat4
  have HB4 := Lib.hid ((hu4.block b3 (Array.getElem?_eq_some_iff.1 HB3.out).1 (by simp)).trans HB3.out)
  clear hu4 hat4 Q4 HA3 HB3
  have HZ4 := Lib.hid (zeroAct_heap w4); have HCQ := Lib.hid (actCells_all a p'); have HGQ := Lib.hid (aggAct a p'); have HLQ : Hid (aggOf Tryd.prog 29 (actCells a p').length = true) := Lib.hid (aggAct a p')
  go_upto_region 5 with (refine wpList_store_agg _ rfl 29 (.tmp 5) (.tmp 29) rfl w4.heap.size (actCells a p').toArray (actCells ActL.zero p0).toArray 29 rfl rfl HGQ.out HZ4.out rfl HCQ.out ?_)
  obtain ⟨w5, hw5⟩ : ∃ w5, w5 = (w4.alloc (.cells #[.int .i64 0, .int .i64 0, .int .i64 0, .slice none 0 0, .int .u64 0, .int .i64 0, .slice none 0 0, .slice none 0 0, .string ⟨#[]⟩, .string ⟨#[]⟩, .string ⟨#[]⟩, .int .i64 0, .bool false, .slice none 0 0, .int .i64 0, .int .u64 0, .int .i64 0, .int .i64 0] 29)).setRow w4.heap.size (actCells a p').toArray := ⟨_, rfl⟩
  rw [← hw5]
  have hv5 := actVar w4 _ _ hw5
  obtain ⟨b5, hb5⟩ : ∃ b, b = w4.heap.size := ⟨_, rfl⟩
  rw [← hb5] at hv5 ⊢
  have HB5 := Lib.hid hv5.1; have HU5 := Lib.hid (HU4.out.trans hv5.2 (by simp)); have HA5 := Lib.hid (HA4.out.upd hv5.2 (by simp)); have HC5 := Lib.hid (HC4.out.upd hv5.2 (by simp))
  have HBB5 := Lib.hid ((hv5.2.block b3 (Array.getElem?_eq_some_iff.1 HB4.out).1 (by simp)).trans HB4.out)
  clear hw5 hv5 hb5 HA4 HB4 HC4
  obtain ⟨sp, hsp⟩ : ∃ sp, sp = splitS s := ⟨_, rfl⟩
  have q6 := script_split (w := w5) s (by omega) (HE.out.upd0 HU5.out)
  rw [← hsp] at q6
  have HSP := Lib.hid hsp; have Q6 := Lib.hid q6; clear q6 hsp
  obtain ⟨sl, sn, sc⟩ := sp
  simp only at Q6
  go_wp2_with fail
  refine Q6.out.mono ?_
  rintro e w6 ⟨A6, c6, al6, rfl, hal6, hown6, hu6⟩
  have HU6 := Lib.hid (HU5.out.trans hu6 (by simp)); have HU56 := Lib.hid hu6; have HO6 := Lib.hid hown6; have HAL6 := Lib.hid hal6
  clear hu6 hown6 hal6 Q6
  simp only
  have q7 := ref_split (w := w6) s (by omega)
  rw [← HSP.out] at q7
  have Q7 := Lib.hid q7; clear q7
  go_wp2_with fail
  refine Q7.out.mono ?_
  rintro e w7 ⟨A7, c7, al7, rfl, hal7, hown7, hu7⟩
  have HU7 := Lib.hid (HU6.out.trans hu7 (by simp)); have HU57 := Lib.hid (HU56.out.trans hu7 (by simp)); have HO67 := Lib.hid (HO6.out.upd hu7); have HO7 := Lib.hid hown7; have HAL7 := Lib.hid hal7
  clear hu7 hown7 hal7 Q7
  simp only
  obtain ⟨us, hus⟩ : ∃ us, us = (unhexS s).isSome := ⟨_, rfl⟩
  obtain ⟨ub, hub⟩ : ∃ ub, ub = (unhexS s).getD [] := ⟨_, rfl⟩
  have q8 := script_bytes w7 s (by omega)
  rw [← hus, ← hub] at q8
  have Q8 := Lib.hid q8; have HUS := Lib.hid hus; have HUB := Lib.hid hub; clear q8 hus hub
  go_wp2_with fail
  refine Q8.out.mono ?_
  rintro e w8 ⟨v8, rfl, hv8, _, hu8⟩
  have HU8 := Lib.hid (HU7.out.trans hu8 (by simp)); have HU58 := Lib.hid (HU57.out.trans hu8 (by simp)); have HO68 := Lib.hid (HO67.out.upd hu8); have HO78 := Lib.hid (HO7.out.upd hu8); have HV8 := Lib.hid hv8
  clear hu8 hv8 Q8
  have q9 := ref_bytes w8 s (by omega)
  rw [← HUS.out, ← HUB.out] at q9
  have Q9 := Lib.hid q9; clear q9
  go_wp2_with fail
  refine Q9.out.mono ?_
  rintro e w9 ⟨v9, rfl, hv9, _, hu9⟩
  have HU9 := Lib.hid (HU8.out.trans hu9 (by simp)); have HU59 := Lib.hid (HU58.out.trans hu9 (by simp)); have HO69 := Lib.hid (HO68.out.upd hu9); have HO79 := Lib.hid (HO78.out.upd hu9)
  obtain ⟨A8, c8, rfl, h8a, h8b⟩ := HV8.out
  have HV89 : Hid (BytesV w9 (.slice A8 ub.length c8) ub) := Lib.hid ⟨A8, c8, rfl, h8a, h8b.upd hu9 (by simp)⟩
  have HV9 := Lib.hid hv9
  have HL3 : Hid (LiesAt w9 b3 0 (actCells a p)) := Lib.hid (LiesAt.of_block ((HU59.out.block b3 (Array.getElem?_eq_some_iff.1 HBB5.out).1 (by simp)).trans HBB5.out))
  have HL5 : Hid (LiesAt w9 b5 0 (actCells a p')) := Lib.hid (LiesAt.of_block ((HU59.out.block b5 (Array.getElem?_eq_some_iff.1 HB5.out).1 (by simp)).trans HB5.out))
  have q10 := l0_act (HA5.out.upd HU59.out (by simp)) (HC5.out.upd HU59.out (by simp)) HFEW.out
  unfold actV at q10
  have Q10 := Lib.hid q10
  clear hu9 hv9 Q9 q10 h8a h8b
  go_wp2_with first
    | refine wpList_load_lies _ rfl 29 (.tmp 3) rfl b3 0 (actCells a p) rfl HLP.out HL3.out ?_
    | refine wpList_load_lies _ rfl 29 (.tmp 5) rfl b5 0 (actCells a p') rfl HLQ.out HL5.out ?_
  refine Q10.out.mono ?_
  rintro e w10 ⟨rfl, hu10⟩
  have HU10 := Lib.hid (HU9.out.trans hu10 (by simp)); have HU910 := Lib.hid hu10
  clear hu10 Q10
  have hlen6 : al6.length ≤ 1000000 := by
    have h1 := congrArg List.length HAL6.out
    have h2 := splitL_len s.length s (Nat.le_refl _)
    have h3 : sl.length ≤ (splitL s).1.length := by
      have := HSP.out
      unfold splitS at this
      split at this
      · injection this with this; rw [this]; simp
      · split at this
        · injection this with this; rw [this]; simp
        · injection this with this; rw [this]; exact Nat.le_refl _
    rw [List.length_map] at h1
    omega
  have hlim6 : ∀ y ∈ al6, y.1.ids.length ≤ 1000000 ∧ y.1.headers.length ≤ 1000000 ∧ y.1.req.headers.length ≤ 1000000 := fun y hy => by
    have hb : y.1 ∈ sl := by rw [← HAL6.out]; exact List.mem_map.2 ⟨y, hy, rfl⟩
    have h3 : y.1 ∈ (splitL s).1 := by
      have := HSP.out
      unfold splitS at this
      split at this
      · injection this with this; rw [this] at hb; cases hb
      · split at this
        · injection this with this; rw [this] at hb; cases hb
        · injection this with this; rw [this] at hb; exact hb
    have := splitL_lims s.length s (Nat.le_refl _) (by omega) y.1 h3
    exact ⟨this.ids.1, this.hd.1, this.rq.hd.1⟩
  have ho6 := HO69.out.upd HU910.out
  have ho7 := HO79.out.upd HU910.out
  have q11 := l0_acts (ca := c6) (cb := c7) (own_acts ho6.own ho6.at_) (own_acts ho7.own ho7.at_) (by rw [HAL6.out, HAL7.out]) hlen6 hlim6
  have Q11 := Lib.hid q11
  clear q11 ho6 ho7 hlim6 hlen6
  go_wp2_with fail
  refine Q11.out.mono ?_
  rintro e w11 ⟨rfl, hu11⟩
  have HU11 := Lib.hid (HU10.out.trans hu11 (by simp)); have HU911 := Lib.hid (HU910.out.trans hu11 (by simp))
  clear hu11 Q11
  obtain ⟨A9, c9, rfl, h9a, h9b⟩ := HV9.out
  obtain ⟨A8', c8', e8, h8a, h8b⟩ := HV89.out
  have hb1 : BytesV w11 (.slice A8 ub.length c8) ub := by rw [e8]; exact ⟨A8', c8', rfl, h8a, h8b.upd HU911.out (by simp)⟩
  have hb2 : BytesV w11 (.slice A9 ub.length c9) ub := ⟨A9, c9, rfl, h9a, h9b.upd HU911.out (by simp)⟩
  have hs1 := hb1.str (P := Tryd.prog) 25 9 5 Tryd.underlying25 Tryd.underlying5 Tryd.underlying9
  have hs2 := hb2.str (P := Tryd.prog) 25 9 5 Tryd.underlying25 Tryd.underlying5 Tryd.underlying9
  obtain ⟨oc, cc, hcv, hvv⟩ := run_conv_bytes (P := Tryd.prog) w11 9 25 5 s Tryd.underlying9 Tryd.underlying25 Tryd.underlying5
  have HVV := Lib.hid hvv
  clear hvv hb1 hb2 h9a h9b h8a h8b
  go_wp2_with fail
  obtain ⟨w12, hw12⟩ : ∃ w12, w12 = (w11.alloc oc).drew := ⟨_, rfl⟩
  have hu12 : Upd [] w11 w12 := by rw [hw12]; exact ((Upd.refl [] w11).alloc oc).drewN 1
  have HV12 : Hid (BytesV w12 (.slice (some ⟨w11.heap.size, 0, none⟩) s.length cc) s) := Lib.hid (by rw [hw12]; exact HVV.out)
  have HU12 := Lib.hid (HU11.out.trans hu12 (by simp))
  rw [← hw12]
  clear hw12 hu12 hcv hs1 hs2
  refine (script_hex HV12.out (by omega)).mono ?_
  rintro e w13 ⟨rfl, hu13⟩
  have HU13 := Lib.hid (HU12.out.trans hu13 (by simp))
  clear hu13
  obtain ⟨oc2, cc2, hcv, hvv⟩ := run_conv_bytes (P := Tryd.prog) w13 9 25 5 s Tryd.underlying9 Tryd.underlying25 Tryd.underlying5
  have HVV2 := Lib.hid hvv
  clear hvv
  go_wp2_with fail
  obtain ⟨w14, hw14⟩ : ∃ w14, w14 = (w13.alloc oc2).drew := ⟨_, rfl⟩
  have hu14 : Upd [] w13 w14 := by rw [hw14]; exact ((Upd.refl [] w13).alloc oc2).drewN 1
  have HV14 : Hid (BytesV w14 (.slice (some ⟨w13.heap.size, 0, none⟩) s.length cc2) s) := Lib.hid (by rw [hw14]; exact HVV2.out)
  have HU14 := Lib.hid (HU13.out.trans hu14 (by simp))
  rw [← hw14]
  clear hw14 hu14 hcv
  refine (ref_hex HV14.out (by omega)).mono ?_
  rintro e w15 ⟨rfl, hu15⟩
  have HU15 := Lib.hid (HU14.out.trans hu15 (by simp))
  clear hu15
  go_wp2_with fail
  refine (awake27 (HE.out.upd0 HU15.out)).mono ?_
  rintro e w16 ⟨rfl, hu16⟩
  go_wp2_with fail
  go_ret
  exact ⟨rfl, HU15.out.trans hu16 (by simp)⟩
theorem walkA_ScriptAll (W : World) (s : ByteArray) (hb : s.size ≤ maxLen) (hE : Env W) :
    Calls Tryd.prog 6 #[.string s] W fun e W' => e = .returned (.bool true) ∧ Below W.heap.size W W' :=
  (walk_ScriptAll (s := s.data.toList) hE).mono fun e W' ⟨he, hu⟩ => ⟨he, hu.below (by simp)⟩
end Go.Proofs.YtajoldboafkpdaaDoor
