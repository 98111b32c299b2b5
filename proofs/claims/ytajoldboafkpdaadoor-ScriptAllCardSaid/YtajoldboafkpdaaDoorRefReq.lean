-- lockkeeperref27.request: contract. Written by gen/refreq.py.
import Derived.Test.YtajoldboafkpdaaDoorRefGot
import Derived.Test.YtajoldboafkpdaaDoorAwake27
namespace Go.Proofs.YtajoldboafkpdaaDoor
set_option linter.unusedSimpArgs false
set_option linter.unusedVariables false
open Go.RowKit Go.Lk
def reqC (r : ReqL) (B : Option Addr) (d : Nat) : List Value := [.string ⟨r.method.toArray⟩, .string ⟨r.url.toArray⟩, .string ⟨r.origin.toArray⟩, .int .i64 r.mode, .bool r.creds, .slice B r.headers.length d, .int .i64 r.cls, .int .u64 r.timeout, .int .i64 r.group, .int .i64 r.signal]
theorem reqC_one (r : ReqL) (B : Option Addr) (d : Nat) : (reqC r B d).toArray.all (·.oneCell') = true := by simp [reqC, Value.oneCell']
theorem aggReq : aggOf Tryd.prog 27 10 = true := by kernel_rfl
def reqQ (ws : List Bs) : Bool := reqP ws && (([wd ws 3, wd ws 5, wd ws 7, wd ws 8]).all intP && (countS (wd ws 6) 18446744073709551615).2 && (ws.drop 9).all hdrP)
theorem StrsAt.drop {w : World} {A : Option Addr} {ws : List Bs} (h : StrsAt w A ws) (n : Nat) : StrsAt w (A.map (fun a => a.add n)) (ws.drop n) := fun j x hj => by
  rw [List.getElem?_drop] at hj
  obtain ⟨ab, ao, rfl, hc⟩ := h (n + j) x hj
  exact ⟨ab, ao + n, by simp [Go.Lk.add_plain], by rw [Nat.add_assoc]; exact hc⟩
theorem zeroReq_heap (w : World) : (w.alloc (.cells #[.string ⟨#[]⟩, .string ⟨#[]⟩, .string ⟨#[]⟩, .int .i64 0, .bool false, .slice none 0 0, .int .i64 0, .int .u64 0, .int .i64 0, .int .i64 0] 27)).heap[w.heap.size]? = some (.cells (reqC ReqL.zero none 0).toArray 27 (0, 0)) := heap_alloc_self _
theorem RdLim.drop' {ws : List Bs} (h : RdLim ws) (n : Nat) : RdLim (ws.drop n) := ⟨by rw [List.length_drop]; have := h.1; omega, fun x hx => h.2 x (List.mem_of_mem_drop hx)⟩
set_option maxRecDepth 100000 in
set_option maxHeartbeats 3200000 in
theorem ref_request {w : World} {A : Option Addr} {c : Nat} {ws : List Bs} (hA : StrsAt w A ws) (hc : ws.length ≤ c) (hl : RdLim ws) :
    Calls Tryd.prog 70 #[.slice A ws.length c] w fun e w' => ∃ r B d, e = .returned (.tuple #[.agg (reqC r B d).toArray, .bool (reqQ ws)]) ∧ (reqQ ws = true → r = reqS ws) ∧ HdrsAt w' B r.headers ∧ (∀ ab ao, B = some ⟨ab, ao, none⟩ → w.heap.size ≤ ab) ∧ Upd [] w w' := by
  have HA := Lib.hid hA; have HL := Lib.hid hl; clear hA
  obtain ⟨r, hr⟩ : ∃ r, r = reqQ ws := ⟨_, rfl⟩
  have HR := Lib.hid hr
  rw [← hr]
  clear hr
  obtain ⟨w1, hw1⟩ : ∃ w1, w1 = w.alloc (.cells #[.string ⟨#[]⟩, .string ⟨#[]⟩, .string ⟨#[]⟩, .int .i64 0, .bool false, .slice none 0 0, .int .i64 0, .int .u64 0, .int .i64 0, .int .i64 0] 27) := ⟨_, rfl⟩
  have hz1 : w1.heap[w.heap.size]? = some (.cells (reqC ReqL.zero none 0).toArray 27 (0, 0)) := by rw [hw1]; exact zeroReq_heap w
  have hu1 : Upd [] w w1 := by rw [hw1]; exact (Upd.refl [] w).alloc _
  have HZ1 := Lib.hid hz1; have HU1 := Lib.hid hu1; have HW1 := Lib.hid hw1
  clear hz1 hu1 hw1
  have HAG := Lib.hid aggReq
  have HCZ := Lib.hid (reqC_one ReqL.zero none 0)
  have hlim := hl.1
  by_cases h9 : ws.length < 9
  · have hrf : r = false := by rw [HR.out]; unfold reqQ reqP; rw [decide_eq_false (by omega)]; rfl
    have HRF := Lib.hid hrf; clear hrf
    have h9' : (ws.length : Int) < 9 := by omega
    go_enter Tryd.func70, Tryd.ntmps70
    go_upto_region 1 with fail
    rw [← HW1.out]
    go_wp2_with (refine wpList_store_agg _ rfl 27 (.tmp 2) (.tmp 46) rfl w.heap.size (reqC ReqL.zero none 0).toArray (reqC ReqL.zero none 0).toArray 27 rfl rfl HAG.out HZ1.out rfl HCZ.out ?_)
    refine bodyPost_ret (v := .tuple #[.agg (reqC ReqL.zero none 0).toArray, .bool false]) (run_results_cell_tmp _ Tryd.results70 (b := w.heap.size) (o := 0) rfl rfl HAG.out (LiesAt.of_block (setRow_heap _ _ _ _ _ _ HZ1.out))) rfl ?_
    exact ⟨ReqL.zero, none, 0, by rw [HRF.out], (fun h => by rw [HRF.out] at h; cases h), (fun j x hj => by cases hj), (fun ab ao e => by cases e), HU1.out.setRow (.inl (Nat.le_refl _)) _⟩
  have h9' : ¬ ((ws.length : Int) < 9) := by omega
  have hcell : ∀ k, k < 9 → ∃ ab ao, A = some ⟨ab, ao, none⟩ ∧ w.cell? ⟨ab, ao + k, none⟩ = some (.string ⟨(wd ws k).toArray⟩) := fun k hk => by
    have hk2 : k < ws.length := by omega
    exact HA.out k (wd ws k) (by unfold wd; rw [List.getD_eq_getElem?_getD, List.getElem?_eq_getElem hk2]; rfl)
  obtain ⟨ab, ao, hAe, hc0⟩ := hcell 0 (by omega)
  subst hAe
  have HA2 := Lib.hid (show ∀ k, k < 9 → w.cell? ⟨ab, ao + k, none⟩ = some (.string ⟨(wd ws k).toArray⟩) from fun k hk => by
    obtain ⟨ab', ao', e, h⟩ := hcell k hk
    injection e with e; injection e with e1 e2 _
    subst e1 e2; exact h)
  have hab : ab < w.heap.size := World.block_lt_of_cell? _ _ hc0
  clear hcell hc0
  have hmem : ∀ k, k < 9 → (wd ws k).length ≤ 1000000 := fun k hk => HL.out.2 _ (by
    have hk2 : k < ws.length := by omega
    unfold wd; rw [List.getD_eq_getElem?_getD, List.getElem?_eq_getElem hk2]; exact List.getElem_mem hk2)
  have HM := Lib.hid hmem
  have HC1 := Lib.hid (show ∀ k, k < 9 → w1.cell? ⟨ab, ao + k, none⟩ = some (.string ⟨(wd ws k).toArray⟩) from fun k hk => (World.cell?_of_block (HU1.out.block ab hab (by simp))).trans (HA2.out k hk))
  have h9n : 9 ≤ ws.length := by omega
  clear hmem h9
  obtain ⟨x0, hx0⟩ : ∃ x, x = wd ws 0 := ⟨_, rfl⟩
  obtain ⟨x1, hx1⟩ : ∃ x, x = wd ws 1 := ⟨_, rfl⟩
  obtain ⟨x2, hx2⟩ : ∃ x, x = wd ws 2 := ⟨_, rfl⟩
  obtain ⟨x3, hx3⟩ : ∃ x, x = wd ws 3 := ⟨_, rfl⟩
  obtain ⟨x4, hx4⟩ : ∃ x, x = wd ws 4 := ⟨_, rfl⟩
  obtain ⟨x5, hx5⟩ : ∃ x, x = wd ws 5 := ⟨_, rfl⟩
  obtain ⟨x6, hx6⟩ : ∃ x, x = wd ws 6 := ⟨_, rfl⟩
  obtain ⟨x7, hx7⟩ : ∃ x, x = wd ws 7 := ⟨_, rfl⟩
  obtain ⟨x8, hx8⟩ : ∃ x, x = wd ws 8 := ⟨_, rfl⟩
  have HX := Lib.hid (show x0 = wd ws 0 ∧ x1 = wd ws 1 ∧ x2 = wd ws 2 ∧ x3 = wd ws 3 ∧ x4 = wd ws 4 ∧ x5 = wd ws 5 ∧ x6 = wd ws 6 ∧ x7 = wd ws 7 ∧ x8 = wd ws 8 from ⟨hx0, hx1, hx2, hx3, hx4, hx5, hx6, hx7, hx8⟩)
  have c0 := HC1.out 0 (by omega)
  rw [← hx0] at c0
  have c1 := HC1.out 1 (by omega)
  rw [← hx1] at c1
  have c2 := HC1.out 2 (by omega)
  rw [← hx2] at c2
  have c4 := HC1.out 4 (by omega)
  rw [← hx4] at c4
  rw [Nat.add_zero] at c0
  have q0 := ref_text x0 w1 (by rw [hx0]; exact HM.out 0 (by omega))
  obtain ⟨t0, ht0⟩ : ∃ t, t = textS x0 := ⟨_, rfl⟩
  rw [← ht0] at q0
  have HQ0 := Lib.hid q0; have HT0 := Lib.hid ht0; clear q0 ht0
  have q1 := ref_text x1 w1 (by rw [hx1]; exact HM.out 1 (by omega))
  obtain ⟨t1, ht1⟩ : ∃ t, t = textS x1 := ⟨_, rfl⟩
  rw [← ht1] at q1
  have HQ1 := Lib.hid q1; have HT1 := Lib.hid ht1; clear q1 ht1
  have q2 := ref_text x2 w1 (by rw [hx2]; exact HM.out 2 (by omega))
  obtain ⟨t2, ht2⟩ : ∃ t, t = textS x2 := ⟨_, rfl⟩
  rw [← ht2] at q2
  have HQ2 := Lib.hid q2; have HT2 := Lib.hid ht2; clear q2 ht2
  clear hx0 hx1 hx2 hx3 hx4 hx5 hx6 hx7 hx8
  have hreq : r = (t0 && t1 && t2 && (decide (x4 = [48]) || decide (x4 = [49])) && (([x3, x5, x7, x8]).all intP && (countS x6 18446744073709551615).2 && (ws.drop 9).all hdrP)) := by
    obtain ⟨e0, e1, e2, e3, e4, e5, e6, e7, e8⟩ := HX.out
    rw [HR.out, HT0.out, HT1.out, HT2.out, e0, e1, e2, e3, e4, e5, e6, e7, e8]
    unfold reqQ reqP
    rw [decide_eq_true h9n]; rfl
  have HREQ := Lib.hid hreq; clear hreq
  go_enter Tryd.func70, Tryd.ntmps70
  go_upto_region 1 with fail
  rw [← HW1.out]
  go_wp2_with fail
  refine HQ0.out.mono ?_
  rintro e wt ⟨rfl, hwt⟩
  rw [hwt]; clear hwt wt
  cases t0 with
  | false =>
    have hrf : r = false := by rw [HREQ.out]; simp
    have HRF := Lib.hid hrf; clear hrf
    go_wp2_with (refine wpList_store_agg _ rfl 27 (.tmp 2) (.tmp 46) rfl w.heap.size (reqC ReqL.zero none 0).toArray (reqC ReqL.zero none 0).toArray 27 rfl rfl HAG.out HZ1.out rfl HCZ.out ?_)
    refine bodyPost_ret (v := .tuple #[.agg (reqC ReqL.zero none 0).toArray, .bool false]) (run_results_cell_tmp _ Tryd.results70 (b := w.heap.size) (o := 0) rfl rfl HAG.out (LiesAt.of_block (setRow_heap _ _ _ _ _ _ HZ1.out))) rfl ?_
    exact ⟨ReqL.zero, none, 0, by rw [HRF.out], (fun h => by rw [HRF.out] at h; cases h), (fun j x hj => by cases hj), (fun ab ao e => by cases e), HU1.out.setRow (.inl (Nat.le_refl _)) _⟩
  | true =>
  go_wp2_with fail
  refine HQ1.out.mono ?_
  rintro e wt ⟨rfl, hwt⟩
  rw [hwt]; clear hwt wt
  cases t1 with
  | false =>
    have hrf : r = false := by rw [HREQ.out]; simp
    have HRF := Lib.hid hrf; clear hrf
    go_wp2_with (refine wpList_store_agg _ rfl 27 (.tmp 2) (.tmp 46) rfl w.heap.size (reqC ReqL.zero none 0).toArray (reqC ReqL.zero none 0).toArray 27 rfl rfl HAG.out HZ1.out rfl HCZ.out ?_)
    refine bodyPost_ret (v := .tuple #[.agg (reqC ReqL.zero none 0).toArray, .bool false]) (run_results_cell_tmp _ Tryd.results70 (b := w.heap.size) (o := 0) rfl rfl HAG.out (LiesAt.of_block (setRow_heap _ _ _ _ _ _ HZ1.out))) rfl ?_
    exact ⟨ReqL.zero, none, 0, by rw [HRF.out], (fun h => by rw [HRF.out] at h; cases h), (fun j x hj => by cases hj), (fun ab ao e => by cases e), HU1.out.setRow (.inl (Nat.le_refl _)) _⟩
  | true =>
  go_wp2_with fail
  refine HQ2.out.mono ?_
  rintro e wt ⟨rfl, hwt⟩
  rw [hwt]; clear hwt wt
  cases t2 with
  | false =>
    have hrf : r = false := by rw [HREQ.out]; simp
    have HRF := Lib.hid hrf; clear hrf
    go_wp2_with (refine wpList_store_agg _ rfl 27 (.tmp 2) (.tmp 46) rfl w.heap.size (reqC ReqL.zero none 0).toArray (reqC ReqL.zero none 0).toArray 27 rfl rfl HAG.out HZ1.out rfl HCZ.out ?_)
    refine bodyPost_ret (v := .tuple #[.agg (reqC ReqL.zero none 0).toArray, .bool false]) (run_results_cell_tmp _ Tryd.results70 (b := w.heap.size) (o := 0) rfl rfl HAG.out (LiesAt.of_block (setRow_heap _ _ _ _ _ _ HZ1.out))) rfl ?_
    exact ⟨ReqL.zero, none, 0, by rw [HRF.out], (fun h => by rw [HRF.out] at h; cases h), (fun j x hj => by cases hj), (fun ab ao e => by cases e), HU1.out.setRow (.inl (Nat.le_refl _)) _⟩
  | true =>
  by_cases h4 : x4 = [48] ∨ x4 = [49]
  case neg =>
    have hrf : r = false := by
      rw [HREQ.out]
      rw [not_or] at h4
      rw [decide_eq_false h4.1, decide_eq_false h4.2]; simp
    have HRF := Lib.hid hrf; clear hrf
    rw [not_or] at h4
    have n48 : (x4 == [48]) = false := by rw [beq_eq_false_iff_ne]; exact h4.1
    have n49 : (x4 == [49]) = false := by rw [beq_eq_false_iff_ne]; exact h4.2
    clear h4
    go_wp2_with (refine wpList_store_agg _ rfl 27 (.tmp 2) (.tmp 46) rfl w.heap.size (reqC ReqL.zero none 0).toArray (reqC ReqL.zero none 0).toArray 27 rfl rfl HAG.out HZ1.out rfl HCZ.out ?_)
    refine bodyPost_ret (v := .tuple #[.agg (reqC ReqL.zero none 0).toArray, .bool false]) (run_results_cell_tmp _ Tryd.results70 (b := w.heap.size) (o := 0) rfl rfl HAG.out (LiesAt.of_block (setRow_heap _ _ _ _ _ _ HZ1.out))) rfl ?_
    exact ⟨ReqL.zero, none, 0, by rw [HRF.out], (fun h => by rw [HRF.out] at h; cases h), (fun j x hj => by cases hj), (fun ab ao e => by cases e), HU1.out.setRow (.inl (Nat.le_refl _)) _⟩
  case pos =>
  have h4e : (decide (x4 = [48]) || decide (x4 = [49])) = true := by simpa using h4
  have HREQ2 := Lib.hid (show r = (([x3, x5, x7, x8]).all intP && (countS x6 18446744073709551615).2 && (ws.drop 9).all hdrP) by rw [HREQ.out, h4e]; simp)
  clear h4e
  obtain ⟨b48, hb48⟩ : ∃ b, b = (x4 == [48]) := ⟨_, rfl⟩
  obtain ⟨b49, hb49⟩ : ∃ b, b = (x4 == [49]) := ⟨_, rfl⟩
  have hbb : b48 = true ∨ (b48 = false ∧ b49 = true) := by
    rcases h4 with rfl | rfl
    · left; rw [hb48]; rfl
    · right; rw [hb48, hb49]; exact ⟨rfl, rfl⟩
  have HB49 := Lib.hid hb49
  have n48 := hb48.symm; have n49 := hb49.symm
  clear h4 hb48 hb49 c0 c1 c2
  rcases hbb with rfl | ⟨rfl, rfl⟩
  all_goals
    clear HREQ HT0 HT1 HT2 HQ0 HQ1 HQ2
    go_upto_region 3 with fail
    clear n48 n49
    have c3 := HC1.out 3 (by omega)
    have c5 := HC1.out 5 (by omega)
    have c7 := HC1.out 7 (by omega)
    have c8 := HC1.out 8 (by omega)
    rw [← HX.out.2.2.2.1] at c3
    rw [← HX.out.2.2.2.2.2.1] at c5
    rw [← HX.out.2.2.2.2.2.2.2.1] at c7
    rw [← HX.out.2.2.2.2.2.2.2.2] at c8
    refine wp_region_proc [(0, 0), (1, 0), (2, 0), (3, 0), (4, 0), (5, 0), (6, 0), (7, 0), (8, 0), (9, 0), (10, 0), (11, 0), (12, 2), (13, 2), (14, 0), (15, 0), (16, 0), (17, 0), (18, 0)] (fun W => W.cell? ⟨ab, ao + 3, none⟩ = some (.string ⟨x3.toArray⟩) ∧ W.cell? ⟨ab, ao + 5, none⟩ = some (.string ⟨x5.toArray⟩) ∧ W.cell? ⟨ab, ao + 7, none⟩ = some (.string ⟨x7.toArray⟩) ∧ W.cell? ⟨ab, ao + 8, none⟩ = some (.string ⟨x8.toArray⟩)) (by kernel_rfl) (by kernel_rfl) (fun c a w t v h => by cases t <;> exact h) ⟨c3, c5, c7, c8⟩ ?_
    clear c3 c5 c7 c8
    have i3 : 3 < ws.length := by omega
    have i5 : 5 < ws.length := by omega
    have i7 : 7 < ws.length := by omega
    have i8 : 8 < ws.length := by omega
    repeat
      (first
        | (apply proc_held
           case ho => simp only [List.getElem?_toArray, List.getElem?_cons_succ, List.getElem?_cons_zero]; rfl
           case hg => rfl
           case hv => intro W hW; (try dsimp only at hW); go_simp; rfl
           case ha => go_simp; rfl)
        | (apply proc_held_on
           case ho => simp only [List.getElem?_toArray, List.getElem?_cons_succ, List.getElem?_cons_zero]; rfl
           case hg => rfl
           case hv => intro W hW; (try dsimp only at hW); go_simp; rfl
           case ha => go_simp; rfl)
        | (apply proc_off
           case ho => simp only [List.getElem?_toArray, List.getElem?_cons_succ, List.getElem?_cons_zero]; rfl
           case hg => rfl
           case ha => go_simp; rfl))
    apply proc_held (v := .pointer (some ⟨ab, ao + 3, none⟩))
    case ho => simp only [List.getElem?_toArray, List.getElem?_cons_succ, List.getElem?_cons_zero]; rfl
    case hg => rfl
    case hv => intro W hW; clear hW; go_simp; intro h; omega
    case ha => go_simp; rfl
    repeat
      (first
        | (apply proc_held
           case ho => simp only [List.getElem?_toArray, List.getElem?_cons_succ, List.getElem?_cons_zero]; rfl
           case hg => rfl
           case hv => intro W hW; (try dsimp only at hW); go_simp; rfl
           case ha => go_simp; rfl)
        | (apply proc_held_on
           case ho => simp only [List.getElem?_toArray, List.getElem?_cons_succ, List.getElem?_cons_zero]; rfl
           case hg => rfl
           case hv => intro W hW; (try dsimp only at hW); go_simp; rfl
           case ha => go_simp; rfl)
        | (apply proc_off
           case ho => simp only [List.getElem?_toArray, List.getElem?_cons_succ, List.getElem?_cons_zero]; rfl
           case hg => rfl
           case ha => go_simp; rfl))
    apply proc_held (v := .pointer (some ⟨ab, ao + 5, none⟩))
    case ho => simp only [List.getElem?_toArray, List.getElem?_cons_succ, List.getElem?_cons_zero]; rfl
    case hg => rfl
    case hv => intro W hW; clear hW; go_simp; intro h; omega
    case ha => go_simp; rfl
    repeat
      (first
        | (apply proc_held
           case ho => simp only [List.getElem?_toArray, List.getElem?_cons_succ, List.getElem?_cons_zero]; rfl
           case hg => rfl
           case hv => intro W hW; (try dsimp only at hW); go_simp; rfl
           case ha => go_simp; rfl)
        | (apply proc_held_on
           case ho => simp only [List.getElem?_toArray, List.getElem?_cons_succ, List.getElem?_cons_zero]; rfl
           case hg => rfl
           case hv => intro W hW; (try dsimp only at hW); go_simp; rfl
           case ha => go_simp; rfl)
        | (apply proc_off
           case ho => simp only [List.getElem?_toArray, List.getElem?_cons_succ, List.getElem?_cons_zero]; rfl
           case hg => rfl
           case ha => go_simp; rfl))
    apply proc_held (v := .pointer (some ⟨ab, ao + 7, none⟩))
    case ho => simp only [List.getElem?_toArray, List.getElem?_cons_succ, List.getElem?_cons_zero]; rfl
    case hg => rfl
    case hv => intro W hW; clear hW; go_simp; intro h; omega
    case ha => go_simp; rfl
    repeat
      (first
        | (apply proc_held
           case ho => simp only [List.getElem?_toArray, List.getElem?_cons_succ, List.getElem?_cons_zero]; rfl
           case hg => rfl
           case hv => intro W hW; (try dsimp only at hW); go_simp; rfl
           case ha => go_simp; rfl)
        | (apply proc_held_on
           case ho => simp only [List.getElem?_toArray, List.getElem?_cons_succ, List.getElem?_cons_zero]; rfl
           case hg => rfl
           case hv => intro W hW; (try dsimp only at hW); go_simp; rfl
           case ha => go_simp; rfl)
        | (apply proc_off
           case ho => simp only [List.getElem?_toArray, List.getElem?_cons_succ, List.getElem?_cons_zero]; rfl
           case hg => rfl
           case ha => go_simp; rfl))
    apply proc_held (v := .pointer (some ⟨ab, ao + 8, none⟩))
    case ho => simp only [List.getElem?_toArray, List.getElem?_cons_succ, List.getElem?_cons_zero]; rfl
    case hg => rfl
    case hv => intro W hW; clear hW; go_simp; intro h; omega
    case ha => go_simp; rfl
    repeat
      (first
        | (apply proc_held
           case ho => simp only [List.getElem?_toArray, List.getElem?_cons_succ, List.getElem?_cons_zero]; rfl
           case hg => rfl
           case hv => intro W hW; (try dsimp only at hW); go_simp; rfl
           case ha => go_simp; rfl)
        | (apply proc_held_on
           case ho => simp only [List.getElem?_toArray, List.getElem?_cons_succ, List.getElem?_cons_zero]; rfl
           case hg => rfl
           case hv => intro W hW; (try dsimp only at hW); go_simp; rfl
           case ha => go_simp; rfl)
        | (apply proc_off
           case ho => simp only [List.getElem?_toArray, List.getElem?_cons_succ, List.getElem?_cons_zero]; rfl
           case hg => rfl
           case ha => go_simp; rfl))
    apply proc_last
    case ho => simp only [List.getElem?_toArray, List.getElem?_cons_succ, List.getElem?_cons_zero]; rfl
    simp only [World.drew_eq]
    go_wp2_with fail
    obtain ⟨w2, hw2⟩ : ∃ w2, w2 = (w1.alloc (.cells #[.string ⟨x3.toArray⟩, .string ⟨x5.toArray⟩, .string ⟨x7.toArray⟩, .string ⟨x8.toArray⟩] 9)).drew := ⟨_, rfl⟩
    have hu2 : Upd [] w1 w2 := by rw [hw2]; exact ((Upd.refl [] w1).alloc _).drew
    have hb2 : w2.heap[w1.heap.size]? = some (.cells #[.string ⟨x3.toArray⟩, .string ⟨x5.toArray⟩, .string ⟨x7.toArray⟩, .string ⟨x8.toArray⟩] 9) := by rw [hw2]; exact heap_alloc_self _
    rw [← hw2]
    have HU2 := Lib.hid (HU1.out.trans hu2 (by simp)); have HU12 := Lib.hid hu2
    have hst : StrsAt w2 (some ⟨w1.heap.size, 0, none⟩) [x3, x5, x7, x8] := fun j x hj => by
      refine ⟨w1.heap.size, 0, rfl, ?_⟩
      rw [Nat.zero_add]
      match j, hj with
      | 0, hj => obtain rfl : x3 = x := by simpa using hj
                 exact cell_of (i := 0) hb2 rfl
      | 1, hj => obtain rfl : x5 = x := by simpa using hj
                 exact cell_of (i := 1) hb2 rfl
      | 2, hj => obtain rfl : x7 = x := by simpa using hj
                 exact cell_of (i := 2) hb2 rfl
      | 3, hj => obtain rfl : x8 = x := by simpa using hj
                 exact cell_of (i := 3) hb2 rfl
      | j + 4, hj => simp at hj
    have hrl : RdLim [x3, x5, x7, x8] := ⟨by simp, fun x hx => by
      obtain ⟨e0, e1, e2, e3, e4, e5, e6, e7, e8⟩ := HX.out
      simp only [List.mem_cons, List.mem_nil_iff, or_false] at hx
      rcases hx with rfl | rfl | rfl | rfl
      · rw [e3]; exact HM.out 3 (by omega)
      · rw [e5]; exact HM.out 5 (by omega)
      · rw [e7]; exact HM.out 7 (by omega)
      · rw [e8]; exact HM.out 8 (by omega)⟩
    have q2 := ref_ints (c := 4) hst hrl
    obtain ⟨p3, hp3⟩ : ∃ b, b = ([x3, x5, x7, x8]).all intP := ⟨_, rfl⟩
    rw [← hp3] at q2
    have HP3 := Lib.hid hp3
    have Q2 := Lib.hid q2
    clear hw2 hu2 hb2 hst hrl q2 hp3
    refine ⟨fun _ => True, trivial, ?_⟩
    apply proc_last
    case ho => simp only [List.getElem?_toArray, List.getElem?_cons_succ, List.getElem?_cons_zero]; rfl
    go_wp2_with fail
    refine Q2.out.mono ?_
    rintro e w3 ⟨B3, d3, l3, rfl, hl3, hi3, hf3, hu3⟩
    have HU3 := Lib.hid (HU2.out.trans hu3 (by simp)); have HL3 := Lib.hid hl3; have HI3 := Lib.hid hi3; have HF3 := Lib.hid hf3
    have HU13 := Lib.hid (HU12.out.trans hu3 (by simp))
    clear hl3 hi3 hf3 hu3 Q2
    go_wp2_with fail
    refine ⟨fun _ => True, trivial, ?_⟩
    repeat
      (first
        | (apply proc_held
           case ho => simp only [List.getElem?_toArray, List.getElem?_cons_succ, List.getElem?_cons_zero]; rfl
           case hg => rfl
           case hv => intro W hW; (try dsimp only at hW); go_simp; rfl
           case ha => go_simp; rfl)
        | (apply proc_held_on
           case ho => simp only [List.getElem?_toArray, List.getElem?_cons_succ, List.getElem?_cons_zero]; rfl
           case hg => rfl
           case hv => intro W hW; (try dsimp only at hW); go_simp; rfl
           case ha => go_simp; rfl)
        | (apply proc_off
           case ho => simp only [List.getElem?_toArray, List.getElem?_cons_succ, List.getElem?_cons_zero]; rfl
           case hg => rfl
           case ha => go_simp; rfl))
    refine proc_nil ?_
    have c6 := (World.cell?_of_block (HU13.out.block ab (World.block_lt_of_cell? _ _ (HC1.out 6 (by omega))) (by simp))).trans (HC1.out 6 (by omega))
    rw [← HX.out.2.2.2.2.2.2.1] at c6
    have q4 := ref_count x6 18446744073709551615 w3 (by rw [HX.out.2.2.2.2.2.2.1]; exact HM.out 6 (by omega)) (by omega)
    obtain ⟨n6, hn6⟩ : ∃ n, n = countS x6 18446744073709551615 := ⟨_, rfl⟩
    rw [← hn6] at q4
    have HN6 := Lib.hid hn6; have Q4 := Lib.hid q4
    clear hn6 q4
    obtain ⟨v6, p6⟩ := n6
    go_wp2_with fail
    refine Q4.out.mono ?_
    rintro e wt ⟨rfl, hwt⟩
    rw [hwt]; clear hwt wt Q4 c6
    obtain ⟨p9, hp9⟩ : ∃ b, b = (ws.drop 9).all hdrP := ⟨_, rfl⟩
    have hQ9 : ∀ A' c', StrsAt w3 A' (ws.drop 9) → Calls Tryd.prog 73 #[.slice A' (ws.length - 9) c'] w3 fun e w' => ∃ B d l, e = .returned (.tuple #[.slice B l.length d, .bool p9]) ∧ (p9 = true → l = (ws.drop 9).map hdrS) ∧ HdrsAt w' B l ∧ (∀ ab ao, B = some ⟨ab, ao, none⟩ → w3.heap.size ≤ ab) ∧ Upd [] w3 w' := fun A' c' hA' => by
      have q := ref_got (c := c') hA' (HL.out.drop 9)
      rw [List.length_drop, ← hp9] at q
      exact q
    have HQ9 := Lib.hid hQ9; have HP9 := Lib.hid hp9
    clear hQ9 hp9
    simp only
    go_wp2_with fail
    all_goals
      refine (HQ9.out _ _ (by first | exact (HA.out.upd HU3.out (by simp)).drop 9 | (rw [List.drop_eq_nil_of_le (by omega)]; intro j z hj; cases hj))).mono ?_
      rintro e w5 ⟨B5, d5, l5, rfl, hl5, hh5, hf5, hu5⟩
      have HU5 := Lib.hid (HU3.out.trans hu5 (by simp)); have HL5 := Lib.hid hl5; have HH5 := Lib.hid hh5; have HF5 := Lib.hid hf5
      have HU15 := Lib.hid (HU13.out.trans hu5 (by simp)); have HI5 := Lib.hid (HI3.out.upd hu5 (by simp))
      have HZ5 := Lib.hid ((HU15.out.block w.heap.size (Array.getElem?_eq_some_iff.1 HZ1.out).1 (by simp)).trans HZ1.out)
      clear hl5 hh5 hf5 hu5
      by_cases hall : p3 = true ∧ p6 = true ∧ p9 = true
      case neg =>
        have hrf : r = false := by
          rw [HREQ2.out, ← HP3.out, ← HP9.out, ← HN6.out]
          simp only
          revert hall
          cases p3 <;> cases p6 <;> cases p9 <;> simp
        have HRF := Lib.hid hrf; clear hrf
        cases p3 with
        | false =>
          go_wp2_with (refine wpList_store_agg _ rfl 27 (.tmp 2) (.tmp 87) rfl w.heap.size (reqC ReqL.zero none 0).toArray (reqC ReqL.zero none 0).toArray 27 rfl rfl HAG.out HZ5.out rfl HCZ.out ?_)
          refine bodyPost_ret (v := .tuple #[.agg (reqC ReqL.zero none 0).toArray, .bool false]) (run_results_cell_tmp _ Tryd.results70 (b := w.heap.size) (o := 0) rfl rfl HAG.out (LiesAt.of_block (setRow_heap _ _ _ _ _ _ HZ5.out))) rfl ?_
          exact ⟨ReqL.zero, none, 0, by rw [HRF.out], (fun h => by rw [HRF.out] at h; cases h), (fun j x hj => by cases hj), (fun ab ao e => by cases e), HU5.out.setRow (.inl (Nat.le_refl _)) _⟩
        | true =>
        cases p6 with
        | false =>
          go_wp2_with (refine wpList_store_agg _ rfl 27 (.tmp 2) (.tmp 87) rfl w.heap.size (reqC ReqL.zero none 0).toArray (reqC ReqL.zero none 0).toArray 27 rfl rfl HAG.out HZ5.out rfl HCZ.out ?_)
          refine bodyPost_ret (v := .tuple #[.agg (reqC ReqL.zero none 0).toArray, .bool false]) (run_results_cell_tmp _ Tryd.results70 (b := w.heap.size) (o := 0) rfl rfl HAG.out (LiesAt.of_block (setRow_heap _ _ _ _ _ _ HZ5.out))) rfl ?_
          exact ⟨ReqL.zero, none, 0, by rw [HRF.out], (fun h => by rw [HRF.out] at h; cases h), (fun j x hj => by cases hj), (fun ab ao e => by cases e), HU5.out.setRow (.inl (Nat.le_refl _)) _⟩
        | true =>
        cases p9 with
        | false =>
          go_wp2_with (refine wpList_store_agg _ rfl 27 (.tmp 2) (.tmp 87) rfl w.heap.size (reqC ReqL.zero none 0).toArray (reqC ReqL.zero none 0).toArray 27 rfl rfl HAG.out HZ5.out rfl HCZ.out ?_)
          refine bodyPost_ret (v := .tuple #[.agg (reqC ReqL.zero none 0).toArray, .bool false]) (run_results_cell_tmp _ Tryd.results70 (b := w.heap.size) (o := 0) rfl rfl HAG.out (LiesAt.of_block (setRow_heap _ _ _ _ _ _ HZ5.out))) rfl ?_
          exact ⟨ReqL.zero, none, 0, by rw [HRF.out], (fun h => by rw [HRF.out] at h; cases h), (fun j x hj => by cases hj), (fun ab ao e => by cases e), HU5.out.setRow (.inl (Nat.le_refl _)) _⟩
        | true => exact absurd ⟨rfl, rfl, rfl⟩ hall
      case pos =>
      obtain ⟨rfl, rfl, rfl⟩ := hall
      have hl3 := HL3.out rfl
      simp only [List.map_cons, List.map_nil] at hl3
      subst hl3
      have hint : ∃ bi bo, B3 = some ⟨bi, bo, none⟩ ∧ w5.cell? ⟨bi, bo, none⟩ = some (.int .i64 (intS x3)) ∧ w5.cell? ⟨bi, bo + 1, none⟩ = some (.int .i64 (intS x5)) ∧ w5.cell? ⟨bi, bo + 2, none⟩ = some (.int .i64 (intS x7)) ∧ w5.cell? ⟨bi, bo + 3, none⟩ = some (.int .i64 (intS x8)) := by
        obtain ⟨bi, bo, e0, h0⟩ := HI5.out 0 (intS x3) rfl
        obtain ⟨bi1, bo1, e1, h1⟩ := HI5.out 1 (intS x5) rfl
        obtain ⟨bi2, bo2, e2, h2⟩ := HI5.out 2 (intS x7) rfl
        obtain ⟨bi3, bo3, e3, h3⟩ := HI5.out 3 (intS x8) rfl
        subst e0
        injection e1 with e1; injection e1 with a1 b1 _; subst a1 b1
        injection e2 with e2; injection e2 with a2 b2 _; subst a2 b2
        injection e3 with e3; injection e3 with a3 b3 _; subst a3 b3
        exact ⟨bi, bo, rfl, h0, h1, h2, h3⟩
      obtain ⟨bi, bo, rfl, m0, m1, m2, m3⟩ := hint
      obtain ⟨y3, hy3⟩ : ∃ y, y = intS x3 := ⟨_, rfl⟩
      obtain ⟨y5, hy5⟩ : ∃ y, y = intS x5 := ⟨_, rfl⟩
      obtain ⟨y7, hy7⟩ : ∃ y, y = intS x7 := ⟨_, rfl⟩
      obtain ⟨y8, hy8⟩ : ∃ y, y = intS x8 := ⟨_, rfl⟩
      rw [← hy3] at m0 ⊢
      rw [← hy5] at m1 ⊢
      rw [← hy7] at m2 ⊢
      rw [← hy8] at m3 ⊢
      have HY := Lib.hid (show y3 = intS x3 ∧ y5 = intS x5 ∧ y7 = intS x7 ∧ y8 = intS x8 from ⟨hy3, hy5, hy7, hy8⟩)
      clear hy3 hy5 hy7 hy8
      have cc : ∀ k, k < 9 → w5.cell? ⟨ab, ao + k, none⟩ = some (.string ⟨(wd ws k).toArray⟩) := fun k hk => (World.cell?_of_block (HU15.out.block ab (World.block_lt_of_cell? _ _ (HC1.out k hk)) (by simp))).trans (HC1.out k hk)
      have c0 := cc 0 (by omega)
      have c1 := cc 1 (by omega)
      have c2 := cc 2 (by omega)
      have c4 := cc 4 (by omega)
      rw [← HX.out.1, Nat.add_zero] at c0
      rw [← HX.out.2.1] at c1
      rw [← HX.out.2.2.1] at c2
      rw [← HX.out.2.2.2.2.1] at c4
      clear cc
      go_upto_region 8 with fail
      refine wp_region_proc [(0, 0), (1, 0), (2, 0), (3, 0), (4, 0), (5, 0), (6, 0), (7, 0), (8, 0), (9, 0), (10, 0), (11, 0), (12, 0), (13, 0), (14, 0), (15, 0), (16, 0), (17, 0), (18, 0), (19, 0), (20, 0), (21, 0), (22, 0), (23, 0), (24, 0), (25, 0), (26, 0), (27, 0), (28, 2), (29, 0)] (fun W => W.cell? ⟨ab, ao, none⟩ = some (.string ⟨x0.toArray⟩) ∧ W.cell? ⟨ab, ao + 1, none⟩ = some (.string ⟨x1.toArray⟩) ∧ W.cell? ⟨ab, ao + 2, none⟩ = some (.string ⟨x2.toArray⟩) ∧ W.cell? ⟨ab, ao + 4, none⟩ = some (.string ⟨x4.toArray⟩) ∧ W.cell? ⟨bi, bo, none⟩ = some (.int .i64 y3) ∧ W.cell? ⟨bi, bo + 1, none⟩ = some (.int .i64 y5) ∧ W.cell? ⟨bi, bo + 2, none⟩ = some (.int .i64 y7) ∧ W.cell? ⟨bi, bo + 3, none⟩ = some (.int .i64 y8)) (by kernel_rfl) (by kernel_rfl) (fun c a w t v h => by cases t <;> exact h) ⟨c0, c1, c2, c4, m0, m1, m2, m3⟩ ?_
      clear c0 c1 c2 c4 m0 m1 m2 m3
      repeat
        (first
          | (apply proc_held
             case ho => simp only [List.getElem?_toArray, List.getElem?_cons_succ, List.getElem?_cons_zero]; rfl
             case hg => rfl
             case hv => intro W hW; (try dsimp only at hW); go_simp; rfl
             case ha => go_simp; rfl)
          | (apply proc_held_on
             case ho => simp only [List.getElem?_toArray, List.getElem?_cons_succ, List.getElem?_cons_zero]; rfl
             case hg => rfl
             case hv => intro W hW; (try dsimp only at hW); go_simp; rfl
             case ha => go_simp; rfl)
          | (apply proc_off
             case ho => simp only [List.getElem?_toArray, List.getElem?_cons_succ, List.getElem?_cons_zero]; rfl
             case hg => rfl
             case ha => go_simp; rfl))
      apply proc_held (v := .pointer (some ⟨ab, ao, none⟩))
      case ho => simp only [List.getElem?_toArray, List.getElem?_cons_succ, List.getElem?_cons_zero]; rfl
      case hg => rfl
      case hv => intro W hW; clear hW; go_simp; (try (intro h; first | omega | (exfalso; rw [h] at h9n; simp at h9n)))
      case ha => go_simp; rfl
      repeat
        (first
          | (apply proc_held
             case ho => simp only [List.getElem?_toArray, List.getElem?_cons_succ, List.getElem?_cons_zero]; rfl
             case hg => rfl
             case hv => intro W hW; (try dsimp only at hW); go_simp; rfl
             case ha => go_simp; rfl)
          | (apply proc_held_on
             case ho => simp only [List.getElem?_toArray, List.getElem?_cons_succ, List.getElem?_cons_zero]; rfl
             case hg => rfl
             case hv => intro W hW; (try dsimp only at hW); go_simp; rfl
             case ha => go_simp; rfl)
          | (apply proc_off
             case ho => simp only [List.getElem?_toArray, List.getElem?_cons_succ, List.getElem?_cons_zero]; rfl
             case hg => rfl
             case ha => go_simp; rfl))
      apply proc_held (v := .pointer (some ⟨ab, ao + 1, none⟩))
      case ho => simp only [List.getElem?_toArray, List.getElem?_cons_succ, List.getElem?_cons_zero]; rfl
      case hg => rfl
      case hv => intro W hW; clear hW; go_simp; (try (intro h; first | omega | (exfalso; rw [h] at h9n; simp at h9n)))
      case ha => go_simp; rfl
      repeat
        (first
          | (apply proc_held
             case ho => simp only [List.getElem?_toArray, List.getElem?_cons_succ, List.getElem?_cons_zero]; rfl
             case hg => rfl
             case hv => intro W hW; (try dsimp only at hW); go_simp; rfl
             case ha => go_simp; rfl)
          | (apply proc_held_on
             case ho => simp only [List.getElem?_toArray, List.getElem?_cons_succ, List.getElem?_cons_zero]; rfl
             case hg => rfl
             case hv => intro W hW; (try dsimp only at hW); go_simp; rfl
             case ha => go_simp; rfl)
          | (apply proc_off
             case ho => simp only [List.getElem?_toArray, List.getElem?_cons_succ, List.getElem?_cons_zero]; rfl
             case hg => rfl
             case ha => go_simp; rfl))
      apply proc_held (v := .pointer (some ⟨ab, ao + 2, none⟩))
      case ho => simp only [List.getElem?_toArray, List.getElem?_cons_succ, List.getElem?_cons_zero]; rfl
      case hg => rfl
      case hv => intro W hW; clear hW; go_simp; (try (intro h; first | omega | (exfalso; rw [h] at h9n; simp at h9n)))
      case ha => go_simp; rfl
      repeat
        (first
          | (apply proc_held
             case ho => simp only [List.getElem?_toArray, List.getElem?_cons_succ, List.getElem?_cons_zero]; rfl
             case hg => rfl
             case hv => intro W hW; (try dsimp only at hW); go_simp; rfl
             case ha => go_simp; rfl)
          | (apply proc_held_on
             case ho => simp only [List.getElem?_toArray, List.getElem?_cons_succ, List.getElem?_cons_zero]; rfl
             case hg => rfl
             case hv => intro W hW; (try dsimp only at hW); go_simp; rfl
             case ha => go_simp; rfl)
          | (apply proc_off
             case ho => simp only [List.getElem?_toArray, List.getElem?_cons_succ, List.getElem?_cons_zero]; rfl
             case hg => rfl
             case ha => go_simp; rfl))
      apply proc_held (v := .pointer (some ⟨ab, ao + 4, none⟩))
      case ho => simp only [List.getElem?_toArray, List.getElem?_cons_succ, List.getElem?_cons_zero]; rfl
      case hg => rfl
      case hv => intro W hW; clear hW; go_simp; (try (intro h; first | omega | (exfalso; rw [h] at h9n; simp at h9n)))
      case ha => go_simp; rfl
      repeat
        (first
          | (apply proc_held
             case ho => simp only [List.getElem?_toArray, List.getElem?_cons_succ, List.getElem?_cons_zero]; rfl
             case hg => rfl
             case hv => intro W hW; (try dsimp only at hW); go_simp; rfl
             case ha => go_simp; rfl)
          | (apply proc_held_on
             case ho => simp only [List.getElem?_toArray, List.getElem?_cons_succ, List.getElem?_cons_zero]; rfl
             case hg => rfl
             case hv => intro W hW; (try dsimp only at hW); go_simp; rfl
             case ha => go_simp; rfl)
          | (apply proc_off
             case ho => simp only [List.getElem?_toArray, List.getElem?_cons_succ, List.getElem?_cons_zero]; rfl
             case hg => rfl
             case ha => go_simp; rfl))
      apply proc_last
      case ho => simp only [List.getElem?_toArray, List.getElem?_cons_succ, List.getElem?_cons_zero]; rfl
      simp only [World.drew_eq]
      obtain ⟨rq, hrq⟩ : ∃ rq : ReqL, rq = { method := x0, url := x1, origin := x2, mode := y3, creds := (x4 == [49]), headers := l5, cls := y5, timeout := (v6 : Int), group := y7, signal := y8 } := ⟨_, rfl⟩
      have hrc : (.agg #[.string ⟨x0.toArray⟩, .string ⟨x1.toArray⟩, .string ⟨x2.toArray⟩, .int .i64 y3, .bool (x4 == [49]), .slice B5 l5.length d5, .int .i64 y5, .int .u64 (v6 : Int), .int .i64 y7, .int .i64 y8] : Value) = .agg (reqC rq B5 d5).toArray := by rw [hrq]; rfl
      have HRQ := Lib.hid hrq
      rw [hrc]
      clear hrc hrq
      have HCQ := Lib.hid (reqC_one rq B5 d5)
      have HZ6 : Hid (w5.drew.heap[w.heap.size]? = some (.cells (reqC ReqL.zero none 0).toArray 27 (0, 0))) := Lib.hid HZ5.out
      have hsz3 := HU3.out.size
      go_wp2_with (refine wpList_store_agg _ rfl 27 (.tmp 2) (.tmp 115) rfl w.heap.size (reqC rq B5 d5).toArray (reqC ReqL.zero none 0).toArray 27 rfl rfl HAG.out HZ6.out rfl HCQ.out ?_)
      refine ⟨fun _ => True, trivial, ?_⟩
      repeat
        (first
          | (apply proc_held
             case ho => simp only [List.getElem?_toArray, List.getElem?_cons_succ, List.getElem?_cons_zero]; rfl
             case hg => rfl
             case hv => intro W hW; (try dsimp only at hW); go_simp; rfl
             case ha => go_simp; rfl)
          | (apply proc_held_on
             case ho => simp only [List.getElem?_toArray, List.getElem?_cons_succ, List.getElem?_cons_zero]; rfl
             case hg => rfl
             case hv => intro W hW; (try dsimp only at hW); go_simp; rfl
             case ha => go_simp; rfl)
          | (apply proc_off
             case ho => simp only [List.getElem?_toArray, List.getElem?_cons_succ, List.getElem?_cons_zero]; rfl
             case hg => rfl
             case ha => go_simp; rfl))
      refine proc_nil ?_
      go_wp2_with fail
      refine bodyPost_ret (v := .tuple #[.agg (reqC rq B5 d5).toArray, .bool true]) (run_results_cell_tmp _ Tryd.results70 (b := w.heap.size) (o := 0) rfl rfl HAG.out (LiesAt.of_block (setRow_heap _ _ _ _ _ _ HZ6.out))) rfl ?_
      have hl5 : rq.headers = l5 := by rw [HRQ.out]
      refine ⟨rq, B5, d5, ?_, fun _ => ?_, ?_, fun ab ao e => ?_, ?_⟩
      · rw [HREQ2.out, ← HP3.out, ← HP9.out, ← HN6.out]; rfl
      · obtain ⟨e0, e1, e2, e3, e4, e5, e6, e7, e8⟩ := HX.out
        obtain ⟨f3, f5, f7, f8⟩ := HY.out
        have hv6 : v6 = (digitsS x6).1 := by
          have h1 := (numR_eq x6).2
          rw [← HN6.out] at h1
          exact h1 rfl
        have hb4 : (x4 == [49]) = decide (x4 = [49]) := by rw [Bool.eq_iff_iff]; simp
        rw [HRQ.out, HL5.out trivial, hv6, hb4, f3, f5, f7, f8, e0, e1, e2, e3, e4, e5, e6, e7, e8]
        rfl
      · rw [hl5]
        exact HH5.out.upd (F := [w.heap.size]) (((Upd.refl [w.heap.size] w5).drewN 1).setRow (.inr (by simp)) _) (fun bb bo e => by have := HF5.out bb bo e; have := HU12.out.size; have hh := (Array.getElem?_eq_some_iff.1 HZ1.out).1; have h13 := HU13.out.size; simp; omega)
      · have := HF5.out ab ao e; omega
      · exact (HU5.out.drewN 1).setRow (.inl (Nat.le_refl _)) _
end Go.Proofs.YtajoldboafkpdaaDoor
