-- lockkeeperref27.Read: contract.
-- lockkeeperref27.Split: contract.
import Derived.Test.YtajoldboafkpdaaDoorRefAct
import Derived.Test.YtajoldboafkpdaaDoorRefWords
import Derived.Test.YtajoldboafkpdaaDoorScSplit
namespace Go.Proofs.YtajoldboafkpdaaDoor
set_option linter.unusedSimpArgs false
set_option linter.unusedVariables false
open Go.RowKit Go.Lk
theorem own_strs {w : World} {base n c : Nat} {A : Option Addr} {l : List Bs} (h : w.ownsRow base 9 1 (.slice A n c) n (l.map strV)) : StrsAt w A l := fun j x hj => by
  obtain ⟨g, cap, hv, _, hc⟩ := own_cell h j (strV x) (by rw [List.getElem?_map, hj]; rfl)
  injection hv with hA _ _
  exact ⟨g, 0, hA, by rw [Nat.zero_add]; exact hc⟩
theorem own_capS {w : World} {base n c : Nat} {A : Option Addr} {T : TypeId} {l : List Value} (h : w.ownsRow base T 1 (.slice A n c) n l) : n ≤ c := by
  rcases h.2 with ⟨h0, _⟩ | ⟨g, cap, cur, hv, _, _, hn, _⟩
  · injection h0 with _ h1 h2; omega
  · injection hv with _ _ h2; omega
theorem readQ_eq {s : Bs} (hs : s.length ≤ 900000) {x : Bs} {r : List Bs} (hsp : Lib.split s [32] = x :: r) : readS s = if readQ (opOfS x) r then some (parseS (opOfS x) r) else none := by
  rw [← readR_eq hs]
  unfold readR
  rw [hsp]
  simp only [List.getD_cons_zero, List.drop_succ_cons, List.drop_zero]
  by_cases h : opOfS x = 0
  · rw [if_pos h, if_neg]
    unfold readQ; rw [h]; simp
  · rw [if_neg h, readQ_of _ h]
set_option maxRecDepth 100000 in
set_option maxHeartbeats 1600000 in
theorem ref_read {w : World} (s : Bs) (hs : s.length ≤ 900000) :
    Calls Tryd.prog 19 #[.string ⟨s.toArray⟩] w fun e w' => ∃ p, e = .returned (.tuple #[actV ((readS s).getD ActL.zero) p, .int .i64 (if (readS s).isSome then 0 else 3)]) ∧ ActAt w' ((readS s).getD ActL.zero) p ∧ (∀ k ∈ usedB ((readS s).getD ActL.zero) p, w.heap.size ≤ k) ∧ Upd [] w w' := by
  obtain ⟨x, tl, hsp, _, _⟩ := split_words s.length s (Nat.le_refl _)
  have hL := rdLim_split hs
  rw [hsp, List.drop_succ_cons, List.drop_zero] at hL
  have hrq := readQ_eq hs hsp
  obtain ⟨rr, hrr⟩ : ∃ rr, rr = readS s := ⟨_, rfl⟩
  rw [← hrr] at hrq ⊢
  obtain ⟨en, hen⟩ : ∃ en : Int, en = if rr.isSome then 0 else 3 := ⟨_, rfl⟩
  obtain ⟨az, haz⟩ : ∃ az, az = rr.getD ActL.zero := ⟨_, rfl⟩
  rw [← hen, ← haz]
  have HEN := Lib.hid hen; have HAZ := Lib.hid haz
  clear hen haz
  have HRQ := Lib.hid hrq; have HSP := Lib.hid hsp; have HL := Lib.hid hL
  clear hrr hrq hsp hL
  obtain ⟨w1, hw1⟩ : ∃ w1, w1 = w.alloc (.cells #[.int .i64 0, .int .i64 0, .int .i64 0, .slice none 0 0, .int .u64 0, .int .i64 0, .slice none 0 0, .slice none 0 0, .string ⟨#[]⟩, .string ⟨#[]⟩, .string ⟨#[]⟩, .int .i64 0, .bool false, .slice none 0 0, .int .i64 0, .int .u64 0, .int .i64 0, .int .i64 0] 29) := ⟨_, rfl⟩
  have HZ1 := Lib.hid (show w1.heap[w.heap.size]? = some (.cells (actCells ActL.zero p0).toArray 29 (0, 0)) by rw [hw1]; exact zeroAct_heap w)
  have HU1 := Lib.hid (show Upd [] w w1 by rw [hw1]; exact (Upd.refl [] w).alloc _)
  have hs1 : w1.heap.size = w.heap.size + 1 := by rw [hw1]; simp
  have HW1 := Lib.hid hw1
  clear hw1
  have HAG := Lib.hid (aggAct ActL.zero p0); have HCZ := Lib.hid (actCells_all ActL.zero p0)
  go_enter Tryd.func19, Tryd.ntmps19
  go_upto_region 1 with fail
  rw [← HW1.out]
  go_wp2_with fail
  refine (ref_words (w := w1) s hs).mono ?_
  rintro e w2 ⟨v, rfl, hown, hu2⟩
  rw [HSP.out] at hown
  obtain ⟨A2, c2, rfl⟩ := own_slice hown
  have hst := own_strs hown
  have hcap := own_capS hown
  have HU2 := Lib.hid (HU1.out.trans hu2 (by simp))
  have HZ2 := Lib.hid ((hu2.block w.heap.size (Array.getElem?_eq_some_iff.1 HZ1.out).1 (by simp)).trans HZ1.out)
  simp only [List.length_cons] at hcap
  have q := ref_act (c := c2) hst hcap HL.out
  obtain ⟨r, hr⟩ : ∃ r, r = readQ (opOfS x) tl := ⟨_, rfl⟩
  obtain ⟨op, hop⟩ : ∃ op, op = opOfS x := ⟨_, rfl⟩
  rw [← hr, ← hop] at q
  have HRQ2 := Lib.hid (show rr = if r then some (parseS op tl) else none by rw [HRQ.out, hr, hop])
  have Q := Lib.hid q
  have hs2 := hu2.size
  clear hown hst hu2 q hr hop
  rw [List.length_cons]
  go_wp2_with fail
  refine Q.out.mono ?_
  rintro e w3 ⟨a, p, rfl, hap, hu3⟩
  have HU3 := Lib.hid (HU2.out.trans hu3 (by simp)); have HAP := Lib.hid hap
  have HZ3 := Lib.hid ((hu3.block w.heap.size (Array.getElem?_eq_some_iff.1 HZ2.out).1 (by simp)).trans HZ2.out)
  have hs3 := hu3.size
  clear hap hu3 Q
  unfold actV
  have HZA := Lib.hid (zeroAct_heap w3); have HCA := Lib.hid (actCells_all a p); have HGA := Lib.hid (aggAct a p); have HGL : Hid (aggOf Tryd.prog 29 (actCells a p).length = true) := Lib.hid (aggAct a p)
  go_upto_region 2 with (refine wpList_store_agg _ rfl 29 (.tmp 4) (.tmp 10) rfl w3.heap.size (actCells a p).toArray (actCells ActL.zero p0).toArray 29 rfl rfl HGA.out HZA.out rfl HCA.out ?_)
  obtain ⟨w4, hw4⟩ : ∃ w4, w4 = (w3.alloc (.cells #[.int .i64 0, .int .i64 0, .int .i64 0, .slice none 0 0, .int .u64 0, .int .i64 0, .slice none 0 0, .slice none 0 0, .string ⟨#[]⟩, .string ⟨#[]⟩, .string ⟨#[]⟩, .int .i64 0, .bool false, .slice none 0 0, .int .i64 0, .int .u64 0, .int .i64 0, .int .i64 0] 29)).setRow w3.heap.size (actCells a p).toArray := ⟨_, rfl⟩
  rw [← hw4]
  have hv := actVar w3 _ _ hw4
  have HU4 := Lib.hid (HU3.out.trans hv.2 (by simp)); have HU34 := Lib.hid hv.2
  have HZ4 := Lib.hid ((hv.2.block w.heap.size (Array.getElem?_eq_some_iff.1 HZ3.out).1 (by simp)).trans HZ3.out)
  have HLD := Lib.hid (LiesAt.of_block hv.1)
  clear hw4 hv
  cases r with
  | false =>
    have hrn : rr = none := by rw [HRQ2.out]; rfl
    have HRN := Lib.hid hrn; clear hrn
    go_wp2_with (refine wpList_store_agg _ rfl 29 (.tmp 2) (.tmp 14) rfl w.heap.size (actCells ActL.zero p0).toArray (actCells ActL.zero p0).toArray 29 rfl rfl HAG.out HZ4.out rfl HCZ.out ?_)
    refine bodyPost_ret (v := .tuple #[.agg (actCells ActL.zero p0).toArray, .int .i64 3]) (run_results_cell_tmp _ Tryd.results19 (b := w.heap.size) (o := 0) rfl rfl HAG.out (LiesAt.of_block (setRow_heap _ _ _ _ _ _ HZ4.out))) rfl ?_
    refine ⟨p0, by rw [HAZ.out, HEN.out, HRN.out]; rfl, by rw [HAZ.out, HRN.out]; exact ActAt.zero _ _, by rw [HAZ.out, HRN.out]; simp [usedB, ActL.zero, ReqL.zero], HU4.out.setRow (.inl (Nat.le_refl _)) _⟩
  | true =>
    obtain ⟨h1, h2, h3⟩ := HAP.out rfl
    have hrn : rr = some a := by rw [HRQ2.out, h1]; rfl
    have HRN := Lib.hid hrn; have H2 := Lib.hid h2; have H3 := Lib.hid h3; clear hrn h1 h2 h3
    go_wp2_with first
      | refine wpList_load_lies _ rfl 29 (.tmp 4) rfl w3.heap.size 0 (actCells a p) rfl HGL.out HLD.out ?_
      | refine wpList_store_agg _ rfl 29 (.tmp 2) (.tmp 15) rfl w.heap.size (actCells a p).toArray (actCells ActL.zero p0).toArray 29 rfl rfl HGA.out HZ4.out rfl HCA.out ?_
    refine bodyPost_ret (v := .tuple #[.agg (actCells a p).toArray, .int .i64 0]) (run_results_cell_tmp _ Tryd.results19 (b := w.heap.size) (o := 0) rfl rfl HGA.out (LiesAt.of_block (setRow_heap _ _ _ _ _ _ HZ4.out))) rfl ?_
    refine ⟨p, by rw [HAZ.out, HEN.out, HRN.out]; rfl, ?_, by rw [HAZ.out, HRN.out]; intro k hk; have := H3.out k hk; omega, HU4.out.setRow (.inl (Nat.le_refl _)) _⟩
    rw [HAZ.out, HRN.out]
    exact H2.out.upd3 (F := [w.heap.size]) ((HU34.out.weaken (by simp)).setRow (.inr (by simp)) _) (fun k hk => by have := H3.out k hk; simp; omega)
end Go.Proofs.YtajoldboafkpdaaDoor
namespace Go.Proofs.YtajoldboafkpdaaDoor
set_option linter.unusedSimpArgs false
set_option linter.unusedVariables false
open Go.RowKit Go.Lk
theorem splitL_noline {r : Bs} (h : r ≠ []) (hn : (10 : UInt8) ∉ r) : splitL r = ([], true) := by
  rw [splitL_step h]
  have hc : Lib.cut r [10] = (r, [], false) := by unfold Lib.cut; rw [index_not 10 r hn]; rfl
  rw [hc]
  cases readS r <;> rfl
def lineF (o : Option ActL) (t : List ActL × Bool) : List ActL × Bool := match o with
  | some a => (a :: t.1, t.2)
  | none => ([], true)
theorem splitL_lineF (x r : Bs) (h : (10 : UInt8) ∉ x) : splitL (x ++ 10 :: r) = lineF (readS x) (splitL r) := by
  rw [splitL_line x r h]
  unfold lineF
  cases readS x <;> rfl
set_option maxRecDepth 100000 in
set_option maxHeartbeats 3200000 in
theorem ref_split {w : World} (s : Bs) (hs : s.length ≤ 900000) :
    Calls Tryd.prog 21 #[.string ⟨s.toArray⟩] w fun e w' => ∃ A c al, e = .returned (.tuple #[.slice A al.length c, .int .i64 (splitS s).2.1, .int .i64 (splitS s).2.2]) ∧ al.map (·.1) = (splitS s).1 ∧ OwnActs w' w.heap.size A c al ∧ Upd [] w w' := by
  obtain ⟨sp, hsp⟩ : ∃ sp, sp = splitS s := ⟨_, rfl⟩
  have HSP := Lib.hid hsp
  rw [← hsp]
  clear hsp
  obtain ⟨i0, hi, hz0, hz1, hz2⟩ := info_parts Tryd.infoAct
  have HI := Lib.hid hi; have HZ0 := Lib.hid hz0; have HZ1 := Lib.hid hz1; have HZ2 := Lib.hid hz2
  clear hi hz0 hz1 hz2
  have n1 : ¬ ((s.length : Int) > 1048576) := by omega
  go_enter Tryd.func21, Tryd.ntmps21
  go_wp2_with fail
  go_loopw [5, 6, 7] (fun v5 v6 v7 wr => ∃ (fr i : Nat) (al : List (ActL × ActP)) (A : Option Addr) (c : Nat), fr ≤ i ∧ i ≤ s.length ∧ v6 = .int .i64 fr ∧ v7 = .int .i64 i ∧ v5 = .slice A al.length c ∧ (10 : UInt8) ∉ (s.drop fr).take (i - fr) ∧ splitL s = (al.map (·.1) ++ (splitL (s.drop fr)).1, (splitL (s.drop fr)).2) ∧ al.length ≤ s.length ∧ OwnActs wr w.heap.size A c al ∧ Upd [] w wr) (fun _ _ v7 _ => s.length - (intOf v7).toNat)
  case atStart => exact ⟨0, 0, [], none, 0, by omega, by omega, rfl, rfl, rfl, by simp, by simp, by simp, ⟨World.ownsRow_nil _ _ _ _, by simp, by simp⟩, Upd.refl _ _⟩
  case round =>
    obtain ⟨fr, i, al, A, c, hfi, hil, rfl, rfl, rfl, hno, hspl, hal, hown, hu⟩ := hrel
    have HNO := Lib.hid hno; have HSL := Lib.hid hspl; have HO := Lib.hid hown; have HU := Lib.hid hu; clear hno hspl hown hu
    by_cases hlt : i < s.length
    · obtain ⟨y, hy⟩ : ∃ y, y = s[i] := ⟨_, rfl⟩
      have hg := get_list s i hlt
      rw [← hy] at hg
      have hdi : s.drop i = y :: s.drop (i + 1) := by rw [List.drop_eq_getElem_cons hlt, hy]
      by_cases h10 : y = 10
      case neg =>
        have hb : ((y.toNat : Int) != 10) = true := by
          rw [bne_iff_ne]
          intro h
          apply h10
          apply UInt8.toNat_inj.1
          show y.toNat = 10
          omega
        have hno2 : (10 : UInt8) ∉ (s.drop fr).take (i + 1 - fr) := by
          have h1 : i + 1 - fr = (i - fr) + 1 := by omega
          have h2 : i - fr < (s.drop fr).length := by rw [List.length_drop]; omega
          have e : (s.drop fr)[i - fr]'h2 = y := by
            rw [hy, List.getElem_drop]
            congr 1
            omega
          rw [h1, List.take_succ_eq_append_getElem h2, e, List.mem_append, List.mem_singleton]
          rintro (h | h)
          · exact HNO.out h
          · exact h10 h.symm
        have HNO2 := Lib.hid hno2
        clear hno2 hdi hy
        go_wp2_with fail
        exact ⟨⟨fr, i + 1, al, A, c, by omega, by omega, rfl, by go_num, rfl, HNO2.out, HSL.out, hal, HO.out, HU.out⟩, by simp [intOf]; omega⟩
      case pos =>
      have hb : ((y.toNat : Int) != 10) = false := by rw [h10]; rfl
      obtain ⟨x, hx⟩ : ∃ x, x = (s.drop fr).take (i - fr) := ⟨_, rfl⟩
      have hex : ByteArray.extract ⟨s.toArray⟩ fr i = ⟨x.toArray⟩ := by rw [Lib.extract_eq, hx]
      have hrest : s.drop fr = x ++ 10 :: s.drop (i + 1) := by
        rw [hx]
        have := (List.take_append_drop (i - fr) (s.drop fr)).symm
        rw [List.drop_drop, show fr + (i - fr) = i by omega, hdi, h10] at this
        exact this
      have hxl : x.length ≤ 900000 := by rw [hx, List.length_take, List.length_drop]; omega
      have hst := splitL_lineF x (s.drop (i + 1)) (by rw [hx]; exact HNO.out)
      have HC2 : Hid (splitL s = (al.map (·.1) ++ (lineF (readS x) (splitL (s.drop (i + 1)))).1, (lineF (readS x) (splitL (s.drop (i + 1)))).2)) := Lib.hid (by rw [HSL.out, hrest, hst])
      clear hst hrest hx hdi hy h10
      have q2 := ref_read (w := wr) x hxl
      cases hrd : readS x with
      | none =>
        rw [hrd] at q2
        unfold actV at q2
        have Q2 := Lib.hid q2; clear q2
        have hsp : sp = ([], al.length + 1, 3) := by
          have h2 : splitL s = (al.map (·.1), true) := by rw [HC2.out, hrd]; simp [lineF]
          rw [HSP.out]; unfold splitS; rw [h2]; simp
        have HSP2 := Lib.hid hsp
        clear hsp hrd
        go_wp2_with fail
        refine Q2.out.mono ?_
        rintro e w3 ⟨p, rfl, hat3, _, hu3⟩
        have HU3 := Lib.hid (HU.out.trans hu3 (by simp))
        clear hat3 hu3 Q2
        simp only [Option.getD_none, Option.isSome_none, Bool.false_eq_true, if_false]
        have HZ3 := Lib.hid (zeroAct_heap w3); have HCA := Lib.hid (actCells_all ActL.zero p); have HG := Lib.hid (aggAct ActL.zero p)
        go_upto_region 10 with (refine wpList_store_agg _ rfl 29 (.tmp 8) (.tmp 29) rfl w3.heap.size (actCells ActL.zero p).toArray (actCells ActL.zero p0).toArray 29 rfl rfl HG.out HZ3.out rfl HCA.out ?_)
        obtain ⟨w4, hw4⟩ : ∃ w4, w4 = (w3.alloc (.cells #[.int .i64 0, .int .i64 0, .int .i64 0, .slice none 0 0, .int .u64 0, .int .i64 0, .slice none 0 0, .slice none 0 0, .string ⟨#[]⟩, .string ⟨#[]⟩, .string ⟨#[]⟩, .int .i64 0, .bool false, .slice none 0 0, .int .i64 0, .int .u64 0, .int .i64 0, .int .i64 0] 29)).setRow w3.heap.size (actCells ActL.zero p).toArray := ⟨_, rfl⟩
        rw [← hw4]
        have HU4 := Lib.hid (HU3.out.trans (actVar w3 _ _ hw4).2 (by simp))
        clear hw4
        go_wp2_with fail
        go_ret3
        refine ⟨none, 0, [], ?_, ?_, ⟨World.ownsRow_nil _ _ _ _, by simp, by simp⟩, HU4.out⟩
        · rw [HSP2.out]; rfl
        · rw [HSP2.out]; rfl
      | some a =>
        rw [hrd] at q2
        unfold actV at q2
        have Q2 := Lib.hid q2; clear q2
        have hsl : ∀ p : ActP, splitL s = ((al ++ [(a, p)]).map (·.1) ++ (splitL (s.drop (i + 1))).1, (splitL (s.drop (i + 1))).2) := fun p => by rw [HC2.out, hrd]; simp [lineF]
        have hln : al.length + 1 ≤ s.length := by
          have := splitL_len s.length s (Nat.le_refl _)
          rw [hsl p0] at this
          simp at this; omega
        have HSL2 := Lib.hid hsl
        clear hsl hrd HC2
        go_wp2_with fail
        refine Q2.out.mono ?_
        rintro e w3 ⟨p, rfl, hat3, hfr3, hu3⟩
        simp only [Option.getD_some, Option.isSome_some, if_true] at hat3 hfr3 ⊢
        have HU3 := Lib.hid (HU.out.trans hu3 (by simp)); have HO3 := Lib.hid (HO.out.upd hu3)
        have HA3 := Lib.hid hat3; have HFR := Lib.hid hfr3
        clear hat3 hfr3 hu3 Q2
        have HZ3 := Lib.hid (zeroAct_heap w3); have HCA := Lib.hid (actCells_all a p); have HG := Lib.hid (aggAct a p)
        go_upto_region 10 with (refine wpList_store_agg _ rfl 29 (.tmp 8) (.tmp 29) rfl w3.heap.size (actCells a p).toArray (actCells ActL.zero p0).toArray 29 rfl rfl HG.out HZ3.out rfl HCA.out ?_)
        obtain ⟨w4, hw4⟩ : ∃ w4, w4 = (w3.alloc (.cells #[.int .i64 0, .int .i64 0, .int .i64 0, .slice none 0 0, .int .u64 0, .int .i64 0, .slice none 0 0, .slice none 0 0, .string ⟨#[]⟩, .string ⟨#[]⟩, .string ⟨#[]⟩, .int .i64 0, .bool false, .slice none 0 0, .int .i64 0, .int .u64 0, .int .i64 0, .int .i64 0] 29)).setRow w3.heap.size (actCells a p).toArray := ⟨_, rfl⟩
        rw [← hw4]
        have hv := actVar w3 _ _ hw4
        have HU4 := Lib.hid (HU3.out.trans hv.2 (by simp)); have HO4 := Lib.hid (HO3.out.upd hv.2); have HA4 := Lib.hid (HA3.out.upd2 hv.2 (by simp))
        have HL4 := Lib.hid (LiesAt.of_block hv.1); have HGL : Hid (aggOf Tryd.prog 29 (actCells a p).length = true) := Lib.hid (aggAct a p)
        clear hw4 hv
        go_upto_region 13 with (first
          | (at_builtin; refine wpList_append_src _ rfl (.tmp 36) (.tmp 38) 31 rfl w.heap.size 29 i0 (.agg #[.int .i64 0, .int .i64 0, .int .i64 0, .slice none 0 0, .int .u64 0, .int .i64 0, .slice none 0 0, .slice none 0 0, .string ⟨#[]⟩, .string ⟨#[]⟩, .string ⟨#[]⟩, .int .i64 0, .bool false, .slice none 0 0, .int .i64 0, .int .u64 0, .int .i64 0, .int .i64 0]) 18 232 Tryd.underlying31 HI.out HZ0.out HZ1.out HZ2.out rfl (by decide) (.slice A al.length c) al.length (actsC al) rfl ?q1 (some ⟨w4.heap.size, 0, none⟩) 1 1 (actCells a p) rfl ?q2 ?q3 ?q4 ?q5 ?q6 ?q7 ?_)
          | refine wpList_load_lies _ rfl 29 (.tmp 8) rfl w3.heap.size 0 (actCells a p) rfl HGL.out HL4.out ?_)
        case inl h => exact (h.elim (fun h => h rfl) (fun h => absurd (show 18 < 18 from h) (by omega))).elim
        case q1 => rw [fold_act2]; exact own_upd HO4.out.own ((Upd.refl [] w4).alloc _) (by simp)
        case q2 => rfl
        case q3 => rw [fold_act2]; exact cellsAt_new _ _ _
        case q4 => exact fun u hu => (Array.all_eq_true_iff_forall_mem.1 (actCells_all a p)) u (by simpa using hu)
        case q5 => unfold maxLen; omega
        case q6 => omega
        case q7 => have := HU4.out.size; rw [fold_act2]; exact Nat.le_trans this ((Upd.refl [] w4).alloc _).size
        intro v6 w6 hown6 hg6 hat6
        rw [fold_act2] at hg6
        have hz5 : (w4.alloc (.cells (actCells a p).toArray 29)).heap.size = w4.heap.size + 1 := by simp
        rw [← hz5] at hat6
        have hu5 : Upd [] w4 (w4.alloc (.cells (actCells a p).toArray 29)) := (Upd.refl [] w4).alloc _
        have hpush := (HO4.out.upd hu5).push (HA4.out.upd2 hu5 (by simp)) (fun k hk e => by
          have h1 := HFR.out k hk
          have h2 := own_lt HO.out.own k e
          omega) hown6 hg6 hat6
        have hu6 : Upd [] w w6 := (HU4.out.trans hu5 (by simp)).grown hg6 (fun k hk => .inl (own_ge HO.out.own k hk))
        obtain ⟨A6, c6, rfl, hown⟩ := hpush
        have HO6 := Lib.hid hown; have HU6 := Lib.hid hu6
        clear hown hu6 hown6 hg6 hat6 hu5
        go_wp2_with fail
        exact ⟨⟨i + 1, i + 1, al ++ [(a, p)], A6, c6, by omega, by omega, by go_num, by go_num, by simp, by simp, HSL2.out p, by simp; omega, HO6.out, HU6.out⟩, by simp [intOf]; omega⟩
    · have hiv : i = s.length := by omega
      have hnd : (10 : UInt8) ∉ s.drop fr := by
        have := HNO.out
        rw [List.take_of_length_le (by rw [List.length_drop]; omega)] at this
        exact this
      by_cases hfl : fr < s.length
      · have hsp : sp = ([], al.length + 1, 3) := by
          have h1 : splitL (s.drop fr) = ([], true) := splitL_noline (fun e => by have := congrArg List.length e; rw [List.length_drop] at this; simp at this; omega) hnd
          have h2 : splitL s = (al.map (·.1), true) := by rw [HSL.out, h1]; simp
          rw [HSP.out]; unfold splitS; rw [h2]; simp
        have HSP2 := Lib.hid hsp
        clear hsp hnd hiv
        go_wp2_with fail
        go_ret3
        refine ⟨none, 0, [], ?_, ?_, ⟨World.ownsRow_nil _ _ _ _, by simp, by simp⟩, HU.out⟩
        · rw [HSP2.out]; rfl
        · rw [HSP2.out]; rfl
      · have hsp : sp = if 2000 < al.length then ([], 0, 4) else (al.map (·.1), 0, 0) := by
          have h1 : s.drop fr = [] := List.drop_eq_nil_of_le (by omega)
          have h2 : splitL s = (al.map (·.1), false) := by rw [HSL.out, h1]; simp [splitL_nil]
          rw [HSP.out]; unfold splitS; rw [h2]; simp
        have HSP2 := Lib.hid hsp
        clear hsp hnd hiv
        by_cases hm : 2000 < al.length
        · have hm' : (al.length : Int) > 2000 := by omega
          go_wp2_with fail
          go_ret3
          refine ⟨none, 0, [], ?_, ?_, ⟨World.ownsRow_nil _ _ _ _, by simp, by simp⟩, HU.out⟩
          · rw [HSP2.out, if_pos hm]; rfl
          · rw [HSP2.out, if_pos hm]; rfl
        · have hm' : ¬ ((al.length : Int) > 2000) := by omega
          go_wp2_with fail
          go_ret3
          refine ⟨A, c, al, ?_, ?_, HO.out, HU.out⟩
          · rw [HSP2.out, if_neg hm]; rfl
          · rw [HSP2.out, if_neg hm]
end Go.Proofs.YtajoldboafkpdaaDoor
