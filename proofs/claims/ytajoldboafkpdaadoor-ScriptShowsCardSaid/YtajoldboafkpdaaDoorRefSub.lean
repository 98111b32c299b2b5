-- lockkeeperref27.submit: contract.
import Derived.Test.YtajoldboafkpdaaDoorRefHdrs
import Derived.Test.YtajoldboafkpdaaDoorShow
namespace Go.Proofs.YtajoldboafkpdaaDoor
set_option linter.unusedSimpArgs false
set_option linter.unusedVariables false
open Go.RowKit Go.Lk
def credW (b : Bool) : Bs := if b then [32, 49] else [32, 48]
def subX (r : ReqL) : Bs := [115, 117, 98, 109, 105, 116, 32] ++ r.method ++ [32] ++ r.url ++ [32] ++ r.origin ++ okS (intsW [r.mode]).2 (spW (intsW [r.mode]).1) ++ credW r.creds ++ okS (intsW [r.cls]).2 (spW (intsW [r.cls]).1) ++ [32] ++ Lib.itoa r.timeout ++ okS (intsW [r.group, r.signal]).2 (spW (intsW [r.group, r.signal]).1) ++ okS (hdrsW r.headers).2 (spW (hdrsW r.headers).1)
def subT (r : ReqL) : Bool := textS r.method && textS r.url && textS r.origin
def subB (r : ReqL) : Bool := (intsW [r.mode]).2 && (intsW [r.cls]).2 && (intsW [r.group, r.signal]).2 && (hdrsW r.headers).2
theorem sub_ok (r : ReqL) : (reqW r).2 = (subT r && subB r) := by
  unfold reqW subT subB
  simp only [intsW, List.all_cons, List.all_nil, Bool.and_true]
  have h0 : decide ((0 : Int) ≤ if r.creds then 1 else 0) = true := by split <;> rfl
  rw [h0]
  cases textS r.method <;> cases textS r.url <;> cases textS r.origin <;> cases decide (0 ≤ r.mode) <;> cases decide (0 ≤ r.cls) <;> cases decide (0 ≤ r.group) <;> cases decide (0 ≤ r.signal) <;> rfl
theorem sub_str (r : ReqL) (h : subB r = true) : subX r = opS 3 ++ spW (reqW r).1 := by
  unfold subB at h
  simp only [Bool.and_eq_true] at h
  unfold subX
  rw [h.1.1.1, h.1.1.2, h.1.2, h.2]
  have e : opS 3 = [115, 117, 98, 109, 105, 116] := by decide
  rw [e]
  simp only [okS, if_true, reqW, intsW, spW_append, List.map_cons, List.map_nil]
  have i0 : Lib.itoa 0 = [48] := by rw [show (0 : Int) = ((0 : Nat) : Int) from rfl, Lib.itoa_nonneg, Lib.decDigits_one (by omega)]; rfl
  have i1 : Lib.itoa 1 = [49] := by rw [show (1 : Int) = ((1 : Nat) : Int) from rfl, Lib.itoa_nonneg, Lib.decDigits_one (by omega)]; rfl
  cases r.creds
  · simp [spW, credW, i0]
  · simp [spW, credW, i1]
theorem okS_le {b : Bool} {s : Bs} {M : Nat} (h : s.length ≤ M) : (okS b s).length ≤ M := by
  cases b
  · simp [okS]
  · exact h
theorem spW_le_ints (l : List Int) (h : ∀ x ∈ l, i64R x) (hl : l.length ≤ 20) : (spW (intsW l).1).length ≤ 100000000 := by
  have h1 := spW_le (ws := (intsW l).1) (M := 4000000) (intsW_len h)
  have h2 : (intsW l).1.length ≤ 20 := by simpa [intsW] using hl
  have h3 := Nat.mul_le_mul_right (4000000 + 1) h2
  omega
theorem spW_le_hdrs {l : List (Bs × Bs)} (h : HdrLim l) : (spW (hdrsW l).1).length ≤ 5000000000000 := by
  have h1 := spW_le (ws := (hdrsW l).1) (M := 4000000) (hdrsW_len h)
  have h2 : (hdrsW l).1.length ≤ 1000000 := by
    have := h.1
    simpa [hdrsW] using this
  have h3 := Nat.mul_le_mul_right (4000000 + 1) h2
  omega
set_option maxRecDepth 100000 in
set_option maxHeartbeats 3200000 in
theorem ref_submit {w : World} {A : Option Addr} {c : Nat} (r : ReqL) (hL : ReqLim r) (hA : HdrsAt w A r.headers) :
    Calls Tryd.prog 47 #[reqV r (.slice A r.headers.length c)] w fun e w' => e = .returned (.tuple #[.string ⟨(okS (subT r) (subX r)).toArray⟩, .bool (subT r && subB r)]) ∧ Upd [] w w' := by
  obtain ⟨me, ur, og, mo, cr, hd, cl, ti, gr, si⟩ := r
  have HL := Lib.hid hL; have HA := Lib.hid hA; clear hL hA
  obtain ⟨tx, htx⟩ : ∃ tx, tx = okS (subT ⟨me, ur, og, mo, cr, hd, cl, ti, gr, si⟩) (subX ⟨me, ur, og, mo, cr, hd, cl, ti, gr, si⟩) := ⟨_, rfl⟩
  obtain ⟨bx, hbx⟩ : ∃ bx, bx = (subT ⟨me, ur, og, mo, cr, hd, cl, ti, gr, si⟩ && subB ⟨me, ur, og, mo, cr, hd, cl, ti, gr, si⟩) := ⟨_, rfl⟩
  have HTX := Lib.hid htx; have HBX := Lib.hid hbx
  rw [← htx, ← hbx]
  clear htx hbx
  unfold reqV
  dsimp only
  obtain ⟨w1, hw1⟩ : ∃ w1, w1 = w.alloc (.cells #[.string ⟨me.toArray⟩, .string ⟨ur.toArray⟩, .string ⟨og.toArray⟩, .int .i64 mo, .bool cr, .slice A hd.length c, .int .i64 cl, .int .u64 ti, .int .i64 gr, .int .i64 si] 27) := ⟨_, rfl⟩
  have hb1 : w1.heap[w.heap.size]? = some (.cells #[.string ⟨me.toArray⟩, .string ⟨ur.toArray⟩, .string ⟨og.toArray⟩, .int .i64 mo, .bool cr, .slice A hd.length c, .int .i64 cl, .int .u64 ti, .int .i64 gr, .int .i64 si] 27) := by rw [hw1]; exact heap_alloc_self _
  have hu1 : Upd [] w w1 := by rw [hw1]; exact (Upd.refl [] w).alloc _
  have HW1 := Lib.hid hw1; have HU1 := Lib.hid hu1
  have f0 : w1.cell? ⟨w.heap.size, 0, none⟩ = some (.string ⟨me.toArray⟩) := cell_of (i := 0) hb1 rfl
  have f1 : w1.cell? ⟨w.heap.size, 1, none⟩ = some (.string ⟨ur.toArray⟩) := cell_of (i := 1) hb1 rfl
  have f2 : w1.cell? ⟨w.heap.size, 2, none⟩ = some (.string ⟨og.toArray⟩) := cell_of (i := 2) hb1 rfl
  have HB1 := Lib.hid hb1
  clear hb1 hu1 hw1
  have f0' := f0
  rw [HW1.out] at f0'
  go_enter Tryd.func47, Tryd.ntmps47
  go_wp2_with fail
  rw [← HW1.out]
  clear f0'
  refine (ref_text me _ HL.out.me).mono ?_
  rintro e wt ⟨rfl, hwt⟩
  rw [hwt]
  clear hwt wt
  obtain ⟨bme, hbme⟩ : ∃ bme, bme = textS me := ⟨_, rfl⟩
  have HTme := Lib.hid hbme
  rw [← hbme]
  clear hbme
  cases bme with
  | false =>
    have ht : subT ⟨me, ur, og, mo, cr, hd, cl, ti, gr, si⟩ = false := by unfold subT; simp only; rw [← HTme.out]; simp
    have h1 : tx = [] := by rw [HTX.out, ht]; rfl
    have h2 : bx = false := by rw [HBX.out, ht]; rfl
    have H1 := Lib.hid h1; have H2 := Lib.hid h2
    clear h1 h2 ht
    go_wp2_with fail
    go_ret2
    exact ⟨by rw [H1.out, H2.out]; rfl, HU1.out⟩
  | true =>
  go_wp2_with fail
  refine (ref_text ur _ HL.out.ur).mono ?_
  rintro e wt ⟨rfl, hwt⟩
  rw [hwt]
  clear hwt wt
  obtain ⟨bur, hbur⟩ : ∃ bur, bur = textS ur := ⟨_, rfl⟩
  have HTur := Lib.hid hbur
  rw [← hbur]
  clear hbur
  cases bur with
  | false =>
    have ht : subT ⟨me, ur, og, mo, cr, hd, cl, ti, gr, si⟩ = false := by unfold subT; simp only; rw [← HTur.out]; simp
    have h1 : tx = [] := by rw [HTX.out, ht]; rfl
    have h2 : bx = false := by rw [HBX.out, ht]; rfl
    have H1 := Lib.hid h1; have H2 := Lib.hid h2
    clear h1 h2 ht
    go_wp2_with fail
    go_ret2
    exact ⟨by rw [H1.out, H2.out]; rfl, HU1.out⟩
  | true =>
  go_wp2_with fail
  have f3 : w1.cell? ⟨w.heap.size, 3, none⟩ = some (.int .i64 mo) := cell_of (i := 3) HB1.out rfl
  refine (ref_text og _ HL.out.og).mono ?_
  rintro e wt ⟨rfl, hwt⟩
  rw [hwt]
  clear hwt wt
  obtain ⟨bog, hbog⟩ : ∃ bog, bog = textS og := ⟨_, rfl⟩
  have HTog := Lib.hid hbog
  rw [← hbog]
  clear hbog
  cases bog with
  | false =>
    have ht : subT ⟨me, ur, og, mo, cr, hd, cl, ti, gr, si⟩ = false := by unfold subT; simp only; rw [← HTog.out]; simp
    have h1 : tx = [] := by rw [HTX.out, ht]; rfl
    have h2 : bx = false := by rw [HBX.out, ht]; rfl
    have H1 := Lib.hid h1; have H2 := Lib.hid h2
    clear h1 h2 ht
    go_wp2_with fail
    go_ret2
    exact ⟨by rw [H1.out, H2.out]; rfl, HU1.out⟩
  | true =>
  go_wp2_with fail
  obtain ⟨w2, hw2⟩ : ∃ w2, w2 = w1.alloc (.cells #[.int .i64 mo] 3) := ⟨_, rfl⟩
  have hi2 : IntsAt w2 (some ⟨w1.heap.size, 0, none⟩) [mo] := by rw [hw2]; exact intsAt_new w1 3 [mo]
  have hu2 : Upd [] w1 w2 := by rw [hw2]; exact (Upd.refl [] w1).alloc _
  rw [← hw2]
  have q2 := ref_nums (c := 1) hi2 (by simp) (by have := HL.out.mo; have := HL.out.cl; have := HL.out.gr; have := HL.out.si; unfold i64R at *; simp only at *; intro x hx; simp at hx; omega)
  have HB2 := Lib.hid ((hu2.block w.heap.size (Array.getElem?_eq_some_iff.1 HB1.out).1 (by simp)).trans HB1.out)
  have HU2 := Lib.hid (HU1.out.trans hu2 (by simp))
  clear hw2 hi2 hu2
  refine q2.mono ?_
  clear q2
  rintro e wt ⟨rfl, hwt⟩
  rw [hwt]
  clear hwt wt
  obtain ⟨ta, hta⟩ : ∃ ta, ta = okS (intsW [mo]).2 (spW (intsW [mo]).1) := ⟨_, rfl⟩
  obtain ⟨ba, hba⟩ : ∃ ba, ba = (intsW [mo]).2 := ⟨_, rfl⟩
  have hlta : ta.length ≤ 100000000 := by rw [hta]; exact okS_le (by have := HL.out.mo; have := HL.out.cl; have := HL.out.gr; have := HL.out.si; exact spW_le_ints _ (by intro x hx; simp at hx; subst hx; exact HL.out.mo) (by simp))
  rw [← hta, ← hba]
  have Hta := Lib.hid hta; have Hba := Lib.hid hba
  clear hta hba
  have f6 : w2.cell? ⟨w.heap.size, 6, none⟩ = some (.int .i64 cl) := cell_of (i := 6) HB2.out rfl
  go_wp2_with fail
  obtain ⟨w3, hw3⟩ : ∃ w3, w3 = w2.alloc (.cells #[.int .i64 cl] 3) := ⟨_, rfl⟩
  have hi3 : IntsAt w3 (some ⟨w2.heap.size, 0, none⟩) [cl] := by rw [hw3]; exact intsAt_new w2 3 [cl]
  have hu3 : Upd [] w2 w3 := by rw [hw3]; exact (Upd.refl [] w2).alloc _
  rw [← hw3]
  have q3 := ref_nums (c := 1) hi3 (by simp) (by have := HL.out.mo; have := HL.out.cl; have := HL.out.gr; have := HL.out.si; unfold i64R at *; simp only at *; intro x hx; simp at hx; omega)
  have HB3 := Lib.hid ((hu3.block w.heap.size (Array.getElem?_eq_some_iff.1 HB2.out).1 (by simp)).trans HB2.out)
  have HU3 := Lib.hid (HU2.out.trans hu3 (by simp))
  clear hw3 hi3 hu3
  refine q3.mono ?_
  clear q3
  rintro e wt ⟨rfl, hwt⟩
  rw [hwt]
  clear hwt wt
  obtain ⟨tb, htb⟩ : ∃ tb, tb = okS (intsW [cl]).2 (spW (intsW [cl]).1) := ⟨_, rfl⟩
  obtain ⟨bb, hbb⟩ : ∃ bb, bb = (intsW [cl]).2 := ⟨_, rfl⟩
  have hltb : tb.length ≤ 100000000 := by rw [htb]; exact okS_le (by have := HL.out.mo; have := HL.out.cl; have := HL.out.gr; have := HL.out.si; exact spW_le_ints _ (by intro x hx; simp at hx; subst hx; exact HL.out.cl) (by simp))
  rw [← htb, ← hbb]
  have Htb := Lib.hid htb; have Hbb := Lib.hid hbb
  clear htb hbb
  have f8 : w3.cell? ⟨w.heap.size, 8, none⟩ = some (.int .i64 gr) := cell_of (i := 8) HB3.out rfl
  have f9 : w3.cell? ⟨w.heap.size, 9, none⟩ = some (.int .i64 si) := cell_of (i := 9) HB3.out rfl
  clear f0 f1 f2 f3 f6
  go_wp2_with fail
  obtain ⟨w4, hw4⟩ : ∃ w4, w4 = w3.alloc (.cells #[.int .i64 gr, .int .i64 si] 3) := ⟨_, rfl⟩
  have hi4 : IntsAt w4 (some ⟨w3.heap.size, 0, none⟩) [gr, si] := by rw [hw4]; exact intsAt_new w3 3 [gr, si]
  have hu4 : Upd [] w3 w4 := by rw [hw4]; exact (Upd.refl [] w3).alloc _
  rw [← hw4]
  have q4 := ref_nums (c := 2) hi4 (by simp) (by have := HL.out.mo; have := HL.out.cl; have := HL.out.gr; have := HL.out.si; unfold i64R at *; simp only at *; intro x hx; simp at hx; omega)
  have HB4 := Lib.hid ((hu4.block w.heap.size (Array.getElem?_eq_some_iff.1 HB3.out).1 (by simp)).trans HB3.out)
  have HU4 := Lib.hid (HU3.out.trans hu4 (by simp))
  clear hw4 hi4 hu4
  refine q4.mono ?_
  clear q4
  rintro e wt ⟨rfl, hwt⟩
  rw [hwt]
  clear hwt wt
  obtain ⟨tc, htc⟩ : ∃ tc, tc = okS (intsW [gr, si]).2 (spW (intsW [gr, si]).1) := ⟨_, rfl⟩
  obtain ⟨bc, hbc⟩ : ∃ bc, bc = (intsW [gr, si]).2 := ⟨_, rfl⟩
  have hltc : tc.length ≤ 100000000 := by rw [htc]; exact okS_le (by have := HL.out.mo; have := HL.out.cl; have := HL.out.gr; have := HL.out.si; exact spW_le_ints _ (by intro x hx; simp at hx; rcases hx with rfl | rfl; exact HL.out.gr; exact HL.out.si) (by simp))
  rw [← htc, ← hbc]
  have Htc := Lib.hid htc; have Hbc := Lib.hid hbc
  clear htc hbc
  have f5 : w4.cell? ⟨w.heap.size, 5, none⟩ = some (.slice A hd.length c) := cell_of (i := 5) HB4.out rfl
  clear f8 f9
  go_wp2_with fail
  have q5 := ref_headers (c := c) (HA.out.upd HU4.out (by simp)) (by have := HL.out.hd.1; simp only at this; omega) HL.out.hd.2
  refine q5.mono ?_
  clear q5
  rintro e w5 ⟨rfl, hu5⟩
  have HB5 := Lib.hid ((hu5.block w.heap.size (Array.getElem?_eq_some_iff.1 HB4.out).1 (by simp)).trans HB4.out)
  have HU5 := Lib.hid (HU4.out.trans hu5 (by simp))
  clear hu5 f5
  obtain ⟨th, hth⟩ : ∃ th, th = okS (hdrsW hd).2 (spW (hdrsW hd).1) := ⟨_, rfl⟩
  obtain ⟨bd, hbd⟩ : ∃ bd, bd = (hdrsW hd).2 := ⟨_, rfl⟩
  have hlth : th.length ≤ 5000000000000 := by rw [hth]; exact okS_le (spW_le_hdrs HL.out.hd)
  rw [← hth, ← hbd]
  have Hth := Lib.hid hth; have Hbd := Lib.hid hbd
  clear hth hbd
  have g4 : w5.cell? ⟨w.heap.size, 4, none⟩ = some (.bool cr) := cell_of (i := 4) HB5.out rfl
  have g0 : w5.cell? ⟨w.heap.size, 0, none⟩ = some (.string ⟨me.toArray⟩) := cell_of (i := 0) HB5.out rfl
  have g1 : w5.cell? ⟨w.heap.size, 1, none⟩ = some (.string ⟨ur.toArray⟩) := cell_of (i := 1) HB5.out rfl
  have g2 : w5.cell? ⟨w.heap.size, 2, none⟩ = some (.string ⟨og.toArray⟩) := cell_of (i := 2) HB5.out rfl
  have g7 : w5.cell? ⟨w.heap.size, 7, none⟩ = some (.int .u64 ti) := cell_of (i := 7) HB5.out rfl
  obtain ⟨tn, htn0⟩ : ∃ tn : Nat, ti = tn := ⟨ti.toNat, by have := HL.out.ti; simp only at this; omega⟩
  have htn : tn < 18446744073709551616 := by have := HL.out.ti; simp only at this; omega
  rw [htn0] at g7
  have hdl : (Lib.decDigits tn).length ≤ 20 := by rw [Lib.decDigits_length]; exact Lib.nDigits_le20 tn htn
  obtain ⟨d, hd0⟩ : ∃ d, d = Lib.decDigits tn := ⟨_, rfl⟩
  rw [← hd0] at hdl
  have HD := Lib.hid hd0; have HTN := Lib.hid htn0
  clear hd0 htn0
  have hme := HL.out.me
  have hur := HL.out.ur
  have hog := HL.out.og
  simp only at hme hur hog
  have hT : subT ⟨me, ur, og, mo, cr, hd, cl, ti, gr, si⟩ = true := by unfold subT; simp only; rw [← HTme.out, ← HTur.out, ← HTog.out]; rfl
  have HT := Lib.hid hT; clear hT
  cases cr
  · cases ba with
    | false =>
      go_upto_region 10 with fail
      refine wp_region_proc [(0, 0), (1, 0), (2, 0), (3, 0), (4, 0), (5, 0), (6, 0), (7, 0), (8, 0), (9, 0), (10, 0), (11, 0), (12, 0), (13, 0), (14, 0), (15, 0), (16, 0), (17, 0), (18, 0), (19, 0), (22, 0), (24, 0), (26, 0), (20, 1), (21, 0), (23, 0), (25, 0), (27, 0), (28, 0), (29, 0), (30, 0), (31, 0), (32, 0), (33, 0), (34, 0), (35, 0), (36, 0), (37, 0)] (fun W => W.cell? ⟨w.heap.size, 0, none⟩ = some (.string ⟨me.toArray⟩) ∧ W.cell? ⟨w.heap.size, 1, none⟩ = some (.string ⟨ur.toArray⟩) ∧ W.cell? ⟨w.heap.size, 2, none⟩ = some (.string ⟨og.toArray⟩) ∧ W.cell? ⟨w.heap.size, 7, none⟩ = some (.int .u64 tn)) (by kernel_rfl) (by kernel_rfl) (fun c a w t v h => by cases t <;> exact h) ⟨g0, g1, g2, g7⟩ ?_
      repeat
        (first
          | (apply proc_held
             case ho => simp only [List.getElem?_toArray, List.getElem?_cons_succ, List.getElem?_cons_zero]; rfl
             case hg => rfl
             case hv => intro W hW; (try dsimp only at hW); go_simp; rfl
             case ha => go_simp; rfl)
          | (apply proc_held_on
             case ho => simp only [List.getElem?_toArray, List.getElem?_cons_succ, List.getElem?_cons_zero]; rfl
             case hg => rfl
             case hv => intro W hW; (try dsimp only at hW); go_simp; rfl
             case ha => go_simp; rfl)
          | (apply proc_off
             case ho => simp only [List.getElem?_toArray, List.getElem?_cons_succ, List.getElem?_cons_zero]; rfl
             case hg => rfl
             case ha => go_simp; rfl))
      apply proc_held (v := .string ⟨([115, 117, 98, 109, 105, 116, 32] ++ me).toArray⟩)
      case ho => simp only [List.getElem?_toArray, List.getElem?_cons_succ, List.getElem?_cons_zero]; rfl
      case hg => rfl
      case hv =>
        intro W hW
        go_simp
        rw [if_neg (by (try simp); omega), str_append]
        (try simp)
      case ha => go_simp; rfl
      repeat
        (first
          | (apply proc_held
             case ho => simp only [List.getElem?_toArray, List.getElem?_cons_succ, List.getElem?_cons_zero]; rfl
             case hg => rfl
             case hv => intro W hW; (try dsimp only at hW); go_simp; rfl
             case ha => go_simp; rfl)
          | (apply proc_held_on
             case ho => simp only [List.getElem?_toArray, List.getElem?_cons_succ, List.getElem?_cons_zero]; rfl
             case hg => rfl
             case hv => intro W hW; (try dsimp only at hW); go_simp; rfl
             case ha => go_simp; rfl)
          | (apply proc_off
             case ho => simp only [List.getElem?_toArray, List.getElem?_cons_succ, List.getElem?_cons_zero]; rfl
             case hg => rfl
             case ha => go_simp; rfl))
      apply proc_held (v := .string ⟨([115, 117, 98, 109, 105, 116, 32] ++ me ++ [32]).toArray⟩)
      case ho => simp only [List.getElem?_toArray, List.getElem?_cons_succ, List.getElem?_cons_zero]; rfl
      case hg => rfl
      case hv =>
        intro W hW
        go_simp
        rw [if_neg (by (try simp); omega), str_append]
        (try simp)
      case ha => go_simp; rfl
      repeat
        (first
          | (apply proc_held
             case ho => simp only [List.getElem?_toArray, List.getElem?_cons_succ, List.getElem?_cons_zero]; rfl
             case hg => rfl
             case hv => intro W hW; (try dsimp only at hW); go_simp; rfl
             case ha => go_simp; rfl)
          | (apply proc_held_on
             case ho => simp only [List.getElem?_toArray, List.getElem?_cons_succ, List.getElem?_cons_zero]; rfl
             case hg => rfl
             case hv => intro W hW; (try dsimp only at hW); go_simp; rfl
             case ha => go_simp; rfl)
          | (apply proc_off
             case ho => simp only [List.getElem?_toArray, List.getElem?_cons_succ, List.getElem?_cons_zero]; rfl
             case hg => rfl
             case ha => go_simp; rfl))
      apply proc_held (v := .string ⟨([115, 117, 98, 109, 105, 116, 32] ++ me ++ [32] ++ ur).toArray⟩)
      case ho => simp only [List.getElem?_toArray, List.getElem?_cons_succ, List.getElem?_cons_zero]; rfl
      case hg => rfl
      case hv =>
        intro W hW
        go_simp
        rw [if_neg (by (try simp); omega), str_append]
        (try simp)
      case ha => go_simp; rfl
      repeat
        (first
          | (apply proc_held
             case ho => simp only [List.getElem?_toArray, List.getElem?_cons_succ, List.getElem?_cons_zero]; rfl
             case hg => rfl
             case hv => intro W hW; (try dsimp only at hW); go_simp; rfl
             case ha => go_simp; rfl)
          | (apply proc_held_on
             case ho => simp only [List.getElem?_toArray, List.getElem?_cons_succ, List.getElem?_cons_zero]; rfl
             case hg => rfl
             case hv => intro W hW; (try dsimp only at hW); go_simp; rfl
             case ha => go_simp; rfl)
          | (apply proc_off
             case ho => simp only [List.getElem?_toArray, List.getElem?_cons_succ, List.getElem?_cons_zero]; rfl
             case hg => rfl
             case ha => go_simp; rfl))
      apply proc_held (v := .string ⟨([115, 117, 98, 109, 105, 116, 32] ++ me ++ [32] ++ ur ++ [32]).toArray⟩)
      case ho => simp only [List.getElem?_toArray, List.getElem?_cons_succ, List.getElem?_cons_zero]; rfl
      case hg => rfl
      case hv =>
        intro W hW
        go_simp
        rw [if_neg (by (try simp); omega), str_append]
        (try simp)
      case ha => go_simp; rfl
      repeat
        (first
          | (apply proc_held
             case ho => simp only [List.getElem?_toArray, List.getElem?_cons_succ, List.getElem?_cons_zero]; rfl
             case hg => rfl
             case hv => intro W hW; (try dsimp only at hW); go_simp; rfl
             case ha => go_simp; rfl)
          | (apply proc_held_on
             case ho => simp only [List.getElem?_toArray, List.getElem?_cons_succ, List.getElem?_cons_zero]; rfl
             case hg => rfl
             case hv => intro W hW; (try dsimp only at hW); go_simp; rfl
             case ha => go_simp; rfl)
          | (apply proc_off
             case ho => simp only [List.getElem?_toArray, List.getElem?_cons_succ, List.getElem?_cons_zero]; rfl
             case hg => rfl
             case ha => go_simp; rfl))
      apply proc_held (v := .string ⟨([115, 117, 98, 109, 105, 116, 32] ++ me ++ [32] ++ ur ++ [32] ++ og).toArray⟩)
      case ho => simp only [List.getElem?_toArray, List.getElem?_cons_succ, List.getElem?_cons_zero]; rfl
      case hg => rfl
      case hv =>
        intro W hW
        go_simp
        rw [if_neg (by (try simp); omega), str_append]
        (try simp)
      case ha => go_simp; rfl
      repeat
        (first
          | (apply proc_held
             case ho => simp only [List.getElem?_toArray, List.getElem?_cons_succ, List.getElem?_cons_zero]; rfl
             case hg => rfl
             case hv => intro W hW; (try dsimp only at hW); go_simp; rfl
             case ha => go_simp; rfl)
          | (apply proc_held_on
             case ho => simp only [List.getElem?_toArray, List.getElem?_cons_succ, List.getElem?_cons_zero]; rfl
             case hg => rfl
             case hv => intro W hW; (try dsimp only at hW); go_simp; rfl
             case ha => go_simp; rfl)
          | (apply proc_off
             case ho => simp only [List.getElem?_toArray, List.getElem?_cons_succ, List.getElem?_cons_zero]; rfl
             case hg => rfl
             case ha => go_simp; rfl))
      apply proc_held (v := .string ⟨([115, 117, 98, 109, 105, 116, 32] ++ me ++ [32] ++ ur ++ [32] ++ og ++ ta).toArray⟩)
      case ho => simp only [List.getElem?_toArray, List.getElem?_cons_succ, List.getElem?_cons_zero]; rfl
      case hg => rfl
      case hv =>
        intro W hW
        go_simp
        rw [if_neg (by (try simp); omega), str_append]
        (try simp)
      case ha => go_simp; rfl
      repeat
        (first
          | (apply proc_held
             case ho => simp only [List.getElem?_toArray, List.getElem?_cons_succ, List.getElem?_cons_zero]; rfl
             case hg => rfl
             case hv => intro W hW; (try dsimp only at hW); go_simp; rfl
             case ha => go_simp; rfl)
          | (apply proc_held_on
             case ho => simp only [List.getElem?_toArray, List.getElem?_cons_succ, List.getElem?_cons_zero]; rfl
             case hg => rfl
             case hv => intro W hW; (try dsimp only at hW); go_simp; rfl
             case ha => go_simp; rfl)
          | (apply proc_off
             case ho => simp only [List.getElem?_toArray, List.getElem?_cons_succ, List.getElem?_cons_zero]; rfl
             case hg => rfl
             case ha => go_simp; rfl))
      apply proc_held (v := .string ⟨([115, 117, 98, 109, 105, 116, 32] ++ me ++ [32] ++ ur ++ [32] ++ og ++ ta ++ [32, 48]).toArray⟩)
      case ho => simp only [List.getElem?_toArray, List.getElem?_cons_succ, List.getElem?_cons_zero]; rfl
      case hg => rfl
      case hv =>
        intro W hW
        go_simp
        rw [if_neg (by (try simp); omega), str_append]
        (try simp)
      case ha => go_simp; rfl
      repeat
        (first
          | (apply proc_held
             case ho => simp only [List.getElem?_toArray, List.getElem?_cons_succ, List.getElem?_cons_zero]; rfl
             case hg => rfl
             case hv => intro W hW; (try dsimp only at hW); go_simp; rfl
             case ha => go_simp; rfl)
          | (apply proc_held_on
             case ho => simp only [List.getElem?_toArray, List.getElem?_cons_succ, List.getElem?_cons_zero]; rfl
             case hg => rfl
             case hv => intro W hW; (try dsimp only at hW); go_simp; rfl
             case ha => go_simp; rfl)
          | (apply proc_off
             case ho => simp only [List.getElem?_toArray, List.getElem?_cons_succ, List.getElem?_cons_zero]; rfl
             case hg => rfl
             case ha => go_simp; rfl))
      apply proc_held (v := .string ⟨([115, 117, 98, 109, 105, 116, 32] ++ me ++ [32] ++ ur ++ [32] ++ og ++ ta ++ [32, 48] ++ tb).toArray⟩)
      case ho => simp only [List.getElem?_toArray, List.getElem?_cons_succ, List.getElem?_cons_zero]; rfl
      case hg => rfl
      case hv =>
        intro W hW
        go_simp
        rw [if_neg (by (try simp); omega), str_append]
        (try simp)
      case ha => go_simp; rfl
      repeat
        (first
          | (apply proc_held
             case ho => simp only [List.getElem?_toArray, List.getElem?_cons_succ, List.getElem?_cons_zero]; rfl
             case hg => rfl
             case hv => intro W hW; (try dsimp only at hW); go_simp; rfl
             case ha => go_simp; rfl)
          | (apply proc_held_on
             case ho => simp only [List.getElem?_toArray, List.getElem?_cons_succ, List.getElem?_cons_zero]; rfl
             case hg => rfl
             case hv => intro W hW; (try dsimp only at hW); go_simp; rfl
             case ha => go_simp; rfl)
          | (apply proc_off
             case ho => simp only [List.getElem?_toArray, List.getElem?_cons_succ, List.getElem?_cons_zero]; rfl
             case hg => rfl
             case ha => go_simp; rfl))
      apply proc_held (v := .string ⟨([115, 117, 98, 109, 105, 116, 32] ++ me ++ [32] ++ ur ++ [32] ++ og ++ ta ++ [32, 48] ++ tb ++ [32]).toArray⟩)
      case ho => simp only [List.getElem?_toArray, List.getElem?_cons_succ, List.getElem?_cons_zero]; rfl
      case hg => rfl
      case hv =>
        intro W hW
        go_simp
        rw [if_neg (by (try simp); omega), str_append]
        (try simp)
      case ha => go_simp; rfl
      repeat
        (first
          | (apply proc_held
             case ho => simp only [List.getElem?_toArray, List.getElem?_cons_succ, List.getElem?_cons_zero]; rfl
             case hg => rfl
             case hv => intro W hW; (try dsimp only at hW); go_simp; rfl
             case ha => go_simp; rfl)
          | (apply proc_held_on
             case ho => simp only [List.getElem?_toArray, List.getElem?_cons_succ, List.getElem?_cons_zero]; rfl
             case hg => rfl
             case hv => intro W hW; (try dsimp only at hW); go_simp; rfl
             case ha => go_simp; rfl)
          | (apply proc_off
             case ho => simp only [List.getElem?_toArray, List.getElem?_cons_succ, List.getElem?_cons_zero]; rfl
             case hg => rfl
             case ha => go_simp; rfl))
      apply proc_eff
      case ho => simp only [List.getElem?_toArray, List.getElem?_cons_succ, List.getElem?_cons_zero]; rfl
      simp only [World.drew_eq]
      go_wp2_with fail
      refine (ref_num tn htn _).mono ?_
      rintro e w8 ⟨rfl, hw8⟩
      rw [hw8, ← HD.out]
      clear hw8
      go_wp2_with fail
      refine ⟨_, fun _ h => h, ⟨g0, g1, g2, g7⟩, ?_⟩
      repeat
        (first
          | (apply proc_held
             case ho => simp only [List.getElem?_toArray, List.getElem?_cons_succ, List.getElem?_cons_zero]; rfl
             case hg => rfl
             case hv => intro W hW; (try dsimp only at hW); go_simp; rfl
             case ha => go_simp; rfl)
          | (apply proc_held_on
             case ho => simp only [List.getElem?_toArray, List.getElem?_cons_succ, List.getElem?_cons_zero]; rfl
             case hg => rfl
             case hv => intro W hW; (try dsimp only at hW); go_simp; rfl
             case ha => go_simp; rfl)
          | (apply proc_off
             case ho => simp only [List.getElem?_toArray, List.getElem?_cons_succ, List.getElem?_cons_zero]; rfl
             case hg => rfl
             case ha => go_simp; rfl))
      apply proc_held (v := .string ⟨([115, 117, 98, 109, 105, 116, 32] ++ me ++ [32] ++ ur ++ [32] ++ og ++ ta ++ [32, 48] ++ tb ++ [32] ++ d).toArray⟩)
      case ho => simp only [List.getElem?_toArray, List.getElem?_cons_succ, List.getElem?_cons_zero]; rfl
      case hg => rfl
      case hv =>
        intro W hW
        go_simp
        rw [if_neg (by (try simp); omega), str_append]
        (try simp)
      case ha => go_simp; rfl
      repeat
        (first
          | (apply proc_held
             case ho => simp only [List.getElem?_toArray, List.getElem?_cons_succ, List.getElem?_cons_zero]; rfl
             case hg => rfl
             case hv => intro W hW; (try dsimp only at hW); go_simp; rfl
             case ha => go_simp; rfl)
          | (apply proc_held_on
             case ho => simp only [List.getElem?_toArray, List.getElem?_cons_succ, List.getElem?_cons_zero]; rfl
             case hg => rfl
             case hv => intro W hW; (try dsimp only at hW); go_simp; rfl
             case ha => go_simp; rfl)
          | (apply proc_off
             case ho => simp only [List.getElem?_toArray, List.getElem?_cons_succ, List.getElem?_cons_zero]; rfl
             case hg => rfl
             case ha => go_simp; rfl))
      apply proc_held (v := .string ⟨([115, 117, 98, 109, 105, 116, 32] ++ me ++ [32] ++ ur ++ [32] ++ og ++ ta ++ [32, 48] ++ tb ++ [32] ++ d ++ tc).toArray⟩)
      case ho => simp only [List.getElem?_toArray, List.getElem?_cons_succ, List.getElem?_cons_zero]; rfl
      case hg => rfl
      case hv =>
        intro W hW
        go_simp
        rw [if_neg (by (try simp); omega), str_append]
        (try simp)
      case ha => go_simp; rfl
      repeat
        (first
          | (apply proc_held
             case ho => simp only [List.getElem?_toArray, List.getElem?_cons_succ, List.getElem?_cons_zero]; rfl
             case hg => rfl
             case hv => intro W hW; (try dsimp only at hW); go_simp; rfl
             case ha => go_simp; rfl)
          | (apply proc_held_on
             case ho => simp only [List.getElem?_toArray, List.getElem?_cons_succ, List.getElem?_cons_zero]; rfl
             case hg => rfl
             case hv => intro W hW; (try dsimp only at hW); go_simp; rfl
             case ha => go_simp; rfl)
          | (apply proc_off
             case ho => simp only [List.getElem?_toArray, List.getElem?_cons_succ, List.getElem?_cons_zero]; rfl
             case hg => rfl
             case ha => go_simp; rfl))
      apply proc_held (v := .string ⟨([115, 117, 98, 109, 105, 116, 32] ++ me ++ [32] ++ ur ++ [32] ++ og ++ ta ++ [32, 48] ++ tb ++ [32] ++ d ++ tc ++ th).toArray⟩)
      case ho => simp only [List.getElem?_toArray, List.getElem?_cons_succ, List.getElem?_cons_zero]; rfl
      case hg => rfl
      case hv =>
        intro W hW
        go_simp
        rw [if_neg (by (try simp); omega), str_append]
        (try simp)
      case ha => go_simp; rfl
      repeat
        (first
          | (apply proc_held
             case ho => simp only [List.getElem?_toArray, List.getElem?_cons_succ, List.getElem?_cons_zero]; rfl
             case hg => rfl
             case hv => intro W hW; (try dsimp only at hW); go_simp; rfl
             case ha => go_simp; rfl)
          | (apply proc_held_on
             case ho => simp only [List.getElem?_toArray, List.getElem?_cons_succ, List.getElem?_cons_zero]; rfl
             case hg => rfl
             case hv => intro W hW; (try dsimp only at hW); go_simp; rfl
             case ha => go_simp; rfl)
          | (apply proc_off
             case ho => simp only [List.getElem?_toArray, List.getElem?_cons_succ, List.getElem?_cons_zero]; rfl
             case hg => rfl
             case ha => go_simp; rfl))
      refine proc_nil ?_
      have h1 : tx = [115, 117, 98, 109, 105, 116, 32] ++ me ++ [32] ++ ur ++ [32] ++ og ++ ta ++ [32, 48] ++ tb ++ [32] ++ d ++ tc ++ th := by
        rw [HTX.out, HT.out]
        show subX _ = _
        unfold subX
        simp only
        rw [← Hta.out, ← Htb.out, ← Htc.out, ← Hth.out, HTN.out, Lib.itoa_nonneg, ← HD.out]
        rfl
      have h2 : bx = false := by
        rw [HBX.out, HT.out]
        show subB _ = _
        unfold subB
        simp only
        rw [← Hba.out, ← Hbb.out, ← Hbc.out, ← Hbd.out]
        (try rfl)
      have H1 := Lib.hid h1; have H2 := Lib.hid h2
      clear h1 h2
      go_wp2_with fail
      go_ret2
      refine ⟨?_, HU5.out.drewN 1⟩
      rw [H1.out, H2.out]
      (try simp)
      (try rfl)
    | true =>
    cases bb with
    | false =>
      go_upto_region 10 with fail
      refine wp_region_proc [(0, 0), (1, 0), (2, 0), (3, 0), (4, 0), (5, 0), (6, 0), (7, 0), (8, 0), (9, 0), (10, 0), (11, 0), (12, 0), (13, 0), (14, 0), (15, 0), (16, 0), (17, 0), (18, 0), (19, 0), (22, 0), (24, 0), (26, 0), (20, 1), (21, 0), (23, 0), (25, 0), (27, 0), (28, 0), (29, 0), (30, 0), (31, 0), (32, 0), (33, 0), (34, 0), (35, 0), (36, 0), (37, 0)] (fun W => W.cell? ⟨w.heap.size, 0, none⟩ = some (.string ⟨me.toArray⟩) ∧ W.cell? ⟨w.heap.size, 1, none⟩ = some (.string ⟨ur.toArray⟩) ∧ W.cell? ⟨w.heap.size, 2, none⟩ = some (.string ⟨og.toArray⟩) ∧ W.cell? ⟨w.heap.size, 7, none⟩ = some (.int .u64 tn)) (by kernel_rfl) (by kernel_rfl) (fun c a w t v h => by cases t <;> exact h) ⟨g0, g1, g2, g7⟩ ?_
      repeat
        (first
          | (apply proc_held
             case ho => simp only [List.getElem?_toArray, List.getElem?_cons_succ, List.getElem?_cons_zero]; rfl
             case hg => rfl
             case hv => intro W hW; (try dsimp only at hW); go_simp; rfl
             case ha => go_simp; rfl)
          | (apply proc_held_on
             case ho => simp only [List.getElem?_toArray, List.getElem?_cons_succ, List.getElem?_cons_zero]; rfl
             case hg => rfl
             case hv => intro W hW; (try dsimp only at hW); go_simp; rfl
             case ha => go_simp; rfl)
          | (apply proc_off
             case ho => simp only [List.getElem?_toArray, List.getElem?_cons_succ, List.getElem?_cons_zero]; rfl
             case hg => rfl
             case ha => go_simp; rfl))
      apply proc_held (v := .string ⟨([115, 117, 98, 109, 105, 116, 32] ++ me).toArray⟩)
      case ho => simp only [List.getElem?_toArray, List.getElem?_cons_succ, List.getElem?_cons_zero]; rfl
      case hg => rfl
      case hv =>
        intro W hW
        go_simp
        rw [if_neg (by (try simp); omega), str_append]
        (try simp)
      case ha => go_simp; rfl
      repeat
        (first
          | (apply proc_held
             case ho => simp only [List.getElem?_toArray, List.getElem?_cons_succ, List.getElem?_cons_zero]; rfl
             case hg => rfl
             case hv => intro W hW; (try dsimp only at hW); go_simp; rfl
             case ha => go_simp; rfl)
          | (apply proc_held_on
             case ho => simp only [List.getElem?_toArray, List.getElem?_cons_succ, List.getElem?_cons_zero]; rfl
             case hg => rfl
             case hv => intro W hW; (try dsimp only at hW); go_simp; rfl
             case ha => go_simp; rfl)
          | (apply proc_off
             case ho => simp only [List.getElem?_toArray, List.getElem?_cons_succ, List.getElem?_cons_zero]; rfl
             case hg => rfl
             case ha => go_simp; rfl))
      apply proc_held (v := .string ⟨([115, 117, 98, 109, 105, 116, 32] ++ me ++ [32]).toArray⟩)
      case ho => simp only [List.getElem?_toArray, List.getElem?_cons_succ, List.getElem?_cons_zero]; rfl
      case hg => rfl
      case hv =>
        intro W hW
        go_simp
        rw [if_neg (by (try simp); omega), str_append]
        (try simp)
      case ha => go_simp; rfl
      repeat
        (first
          | (apply proc_held
             case ho => simp only [List.getElem?_toArray, List.getElem?_cons_succ, List.getElem?_cons_zero]; rfl
             case hg => rfl
             case hv => intro W hW; (try dsimp only at hW); go_simp; rfl
             case ha => go_simp; rfl)
          | (apply proc_held_on
             case ho => simp only [List.getElem?_toArray, List.getElem?_cons_succ, List.getElem?_cons_zero]; rfl
             case hg => rfl
             case hv => intro W hW; (try dsimp only at hW); go_simp; rfl
             case ha => go_simp; rfl)
          | (apply proc_off
             case ho => simp only [List.getElem?_toArray, List.getElem?_cons_succ, List.getElem?_cons_zero]; rfl
             case hg => rfl
             case ha => go_simp; rfl))
      apply proc_held (v := .string ⟨([115, 117, 98, 109, 105, 116, 32] ++ me ++ [32] ++ ur).toArray⟩)
      case ho => simp only [List.getElem?_toArray, List.getElem?_cons_succ, List.getElem?_cons_zero]; rfl
      case hg => rfl
      case hv =>
        intro W hW
        go_simp
        rw [if_neg (by (try simp); omega), str_append]
        (try simp)
      case ha => go_simp; rfl
      repeat
        (first
          | (apply proc_held
             case ho => simp only [List.getElem?_toArray, List.getElem?_cons_succ, List.getElem?_cons_zero]; rfl
             case hg => rfl
             case hv => intro W hW; (try dsimp only at hW); go_simp; rfl
             case ha => go_simp; rfl)
          | (apply proc_held_on
             case ho => simp only [List.getElem?_toArray, List.getElem?_cons_succ, List.getElem?_cons_zero]; rfl
             case hg => rfl
             case hv => intro W hW; (try dsimp only at hW); go_simp; rfl
             case ha => go_simp; rfl)
          | (apply proc_off
             case ho => simp only [List.getElem?_toArray, List.getElem?_cons_succ, List.getElem?_cons_zero]; rfl
             case hg => rfl
             case ha => go_simp; rfl))
      apply proc_held (v := .string ⟨([115, 117, 98, 109, 105, 116, 32] ++ me ++ [32] ++ ur ++ [32]).toArray⟩)
      case ho => simp only [List.getElem?_toArray, List.getElem?_cons_succ, List.getElem?_cons_zero]; rfl
      case hg => rfl
      case hv =>
        intro W hW
        go_simp
        rw [if_neg (by (try simp); omega), str_append]
        (try simp)
      case ha => go_simp; rfl
      repeat
        (first
          | (apply proc_held
             case ho => simp only [List.getElem?_toArray, List.getElem?_cons_succ, List.getElem?_cons_zero]; rfl
             case hg => rfl
             case hv => intro W hW; (try dsimp only at hW); go_simp; rfl
             case ha => go_simp; rfl)
          | (apply proc_held_on
             case ho => simp only [List.getElem?_toArray, List.getElem?_cons_succ, List.getElem?_cons_zero]; rfl
             case hg => rfl
             case hv => intro W hW; (try dsimp only at hW); go_simp; rfl
             case ha => go_simp; rfl)
          | (apply proc_off
             case ho => simp only [List.getElem?_toArray, List.getElem?_cons_succ, List.getElem?_cons_zero]; rfl
             case hg => rfl
             case ha => go_simp; rfl))
      apply proc_held (v := .string ⟨([115, 117, 98, 109, 105, 116, 32] ++ me ++ [32] ++ ur ++ [32] ++ og).toArray⟩)
      case ho => simp only [List.getElem?_toArray, List.getElem?_cons_succ, List.getElem?_cons_zero]; rfl
      case hg => rfl
      case hv =>
        intro W hW
        go_simp
        rw [if_neg (by (try simp); omega), str_append]
        (try simp)
      case ha => go_simp; rfl
      repeat
        (first
          | (apply proc_held
             case ho => simp only [List.getElem?_toArray, List.getElem?_cons_succ, List.getElem?_cons_zero]; rfl
             case hg => rfl
             case hv => intro W hW; (try dsimp only at hW); go_simp; rfl
             case ha => go_simp; rfl)
          | (apply proc_held_on
             case ho => simp only [List.getElem?_toArray, List.getElem?_cons_succ, List.getElem?_cons_zero]; rfl
             case hg => rfl
             case hv => intro W hW; (try dsimp only at hW); go_simp; rfl
             case ha => go_simp; rfl)
          | (apply proc_off
             case ho => simp only [List.getElem?_toArray, List.getElem?_cons_succ, List.getElem?_cons_zero]; rfl
             case hg => rfl
             case ha => go_simp; rfl))
      apply proc_held (v := .string ⟨([115, 117, 98, 109, 105, 116, 32] ++ me ++ [32] ++ ur ++ [32] ++ og ++ ta).toArray⟩)
      case ho => simp only [List.getElem?_toArray, List.getElem?_cons_succ, List.getElem?_cons_zero]; rfl
      case hg => rfl
      case hv =>
        intro W hW
        go_simp
        rw [if_neg (by (try simp); omega), str_append]
        (try simp)
      case ha => go_simp; rfl
      repeat
        (first
          | (apply proc_held
             case ho => simp only [List.getElem?_toArray, List.getElem?_cons_succ, List.getElem?_cons_zero]; rfl
             case hg => rfl
             case hv => intro W hW; (try dsimp only at hW); go_simp; rfl
             case ha => go_simp; rfl)
          | (apply proc_held_on
             case ho => simp only [List.getElem?_toArray, List.getElem?_cons_succ, List.getElem?_cons_zero]; rfl
             case hg => rfl
             case hv => intro W hW; (try dsimp only at hW); go_simp; rfl
             case ha => go_simp; rfl)
          | (apply proc_off
             case ho => simp only [List.getElem?_toArray, List.getElem?_cons_succ, List.getElem?_cons_zero]; rfl
             case hg => rfl
             case ha => go_simp; rfl))
      apply proc_held (v := .string ⟨([115, 117, 98, 109, 105, 116, 32] ++ me ++ [32] ++ ur ++ [32] ++ og ++ ta ++ [32, 48]).toArray⟩)
      case ho => simp only [List.getElem?_toArray, List.getElem?_cons_succ, List.getElem?_cons_zero]; rfl
      case hg => rfl
      case hv =>
        intro W hW
        go_simp
        rw [if_neg (by (try simp); omega), str_append]
        (try simp)
      case ha => go_simp; rfl
      repeat
        (first
          | (apply proc_held
             case ho => simp only [List.getElem?_toArray, List.getElem?_cons_succ, List.getElem?_cons_zero]; rfl
             case hg => rfl
             case hv => intro W hW; (try dsimp only at hW); go_simp; rfl
             case ha => go_simp; rfl)
          | (apply proc_held_on
             case ho => simp only [List.getElem?_toArray, List.getElem?_cons_succ, List.getElem?_cons_zero]; rfl
             case hg => rfl
             case hv => intro W hW; (try dsimp only at hW); go_simp; rfl
             case ha => go_simp; rfl)
          | (apply proc_off
             case ho => simp only [List.getElem?_toArray, List.getElem?_cons_succ, List.getElem?_cons_zero]; rfl
             case hg => rfl
             case ha => go_simp; rfl))
      apply proc_held (v := .string ⟨([115, 117, 98, 109, 105, 116, 32] ++ me ++ [32] ++ ur ++ [32] ++ og ++ ta ++ [32, 48] ++ tb).toArray⟩)
      case ho => simp only [List.getElem?_toArray, List.getElem?_cons_succ, List.getElem?_cons_zero]; rfl
      case hg => rfl
      case hv =>
        intro W hW
        go_simp
        rw [if_neg (by (try simp); omega), str_append]
        (try simp)
      case ha => go_simp; rfl
      repeat
        (first
          | (apply proc_held
             case ho => simp only [List.getElem?_toArray, List.getElem?_cons_succ, List.getElem?_cons_zero]; rfl
             case hg => rfl
             case hv => intro W hW; (try dsimp only at hW); go_simp; rfl
             case ha => go_simp; rfl)
          | (apply proc_held_on
             case ho => simp only [List.getElem?_toArray, List.getElem?_cons_succ, List.getElem?_cons_zero]; rfl
             case hg => rfl
             case hv => intro W hW; (try dsimp only at hW); go_simp; rfl
             case ha => go_simp; rfl)
          | (apply proc_off
             case ho => simp only [List.getElem?_toArray, List.getElem?_cons_succ, List.getElem?_cons_zero]; rfl
             case hg => rfl
             case ha => go_simp; rfl))
      apply proc_held (v := .string ⟨([115, 117, 98, 109, 105, 116, 32] ++ me ++ [32] ++ ur ++ [32] ++ og ++ ta ++ [32, 48] ++ tb ++ [32]).toArray⟩)
      case ho => simp only [List.getElem?_toArray, List.getElem?_cons_succ, List.getElem?_cons_zero]; rfl
      case hg => rfl
      case hv =>
        intro W hW
        go_simp
        rw [if_neg (by (try simp); omega), str_append]
        (try simp)
      case ha => go_simp; rfl
      repeat
        (first
          | (apply proc_held
             case ho => simp only [List.getElem?_toArray, List.getElem?_cons_succ, List.getElem?_cons_zero]; rfl
             case hg => rfl
             case hv => intro W hW; (try dsimp only at hW); go_simp; rfl
             case ha => go_simp; rfl)
          | (apply proc_held_on
             case ho => simp only [List.getElem?_toArray, List.getElem?_cons_succ, List.getElem?_cons_zero]; rfl
             case hg => rfl
             case hv => intro W hW; (try dsimp only at hW); go_simp; rfl
             case ha => go_simp; rfl)
          | (apply proc_off
             case ho => simp only [List.getElem?_toArray, List.getElem?_cons_succ, List.getElem?_cons_zero]; rfl
             case hg => rfl
             case ha => go_simp; rfl))
      apply proc_eff
      case ho => simp only [List.getElem?_toArray, List.getElem?_cons_succ, List.getElem?_cons_zero]; rfl
      simp only [World.drew_eq]
      go_wp2_with fail
      refine (ref_num tn htn _).mono ?_
      rintro e w8 ⟨rfl, hw8⟩
      rw [hw8, ← HD.out]
      clear hw8
      go_wp2_with fail
      refine ⟨_, fun _ h => h, ⟨g0, g1, g2, g7⟩, ?_⟩
      repeat
        (first
          | (apply proc_held
             case ho => simp only [List.getElem?_toArray, List.getElem?_cons_succ, List.getElem?_cons_zero]; rfl
             case hg => rfl
             case hv => intro W hW; (try dsimp only at hW); go_simp; rfl
             case ha => go_simp; rfl)
          | (apply proc_held_on
             case ho => simp only [List.getElem?_toArray, List.getElem?_cons_succ, List.getElem?_cons_zero]; rfl
             case hg => rfl
             case hv => intro W hW; (try dsimp only at hW); go_simp; rfl
             case ha => go_simp; rfl)
          | (apply proc_off
             case ho => simp only [List.getElem?_toArray, List.getElem?_cons_succ, List.getElem?_cons_zero]; rfl
             case hg => rfl
             case ha => go_simp; rfl))
      apply proc_held (v := .string ⟨([115, 117, 98, 109, 105, 116, 32] ++ me ++ [32] ++ ur ++ [32] ++ og ++ ta ++ [32, 48] ++ tb ++ [32] ++ d).toArray⟩)
      case ho => simp only [List.getElem?_toArray, List.getElem?_cons_succ, List.getElem?_cons_zero]; rfl
      case hg => rfl
      case hv =>
        intro W hW
        go_simp
        rw [if_neg (by (try simp); omega), str_append]
        (try simp)
      case ha => go_simp; rfl
      repeat
        (first
          | (apply proc_held
             case ho => simp only [List.getElem?_toArray, List.getElem?_cons_succ, List.getElem?_cons_zero]; rfl
             case hg => rfl
             case hv => intro W hW; (try dsimp only at hW); go_simp; rfl
             case ha => go_simp; rfl)
          | (apply proc_held_on
             case ho => simp only [List.getElem?_toArray, List.getElem?_cons_succ, List.getElem?_cons_zero]; rfl
             case hg => rfl
             case hv => intro W hW; (try dsimp only at hW); go_simp; rfl
             case ha => go_simp; rfl)
          | (apply proc_off
             case ho => simp only [List.getElem?_toArray, List.getElem?_cons_succ, List.getElem?_cons_zero]; rfl
             case hg => rfl
             case ha => go_simp; rfl))
      apply proc_held (v := .string ⟨([115, 117, 98, 109, 105, 116, 32] ++ me ++ [32] ++ ur ++ [32] ++ og ++ ta ++ [32, 48] ++ tb ++ [32] ++ d ++ tc).toArray⟩)
      case ho => simp only [List.getElem?_toArray, List.getElem?_cons_succ, List.getElem?_cons_zero]; rfl
      case hg => rfl
      case hv =>
        intro W hW
        go_simp
        rw [if_neg (by (try simp); omega), str_append]
        (try simp)
      case ha => go_simp; rfl
      repeat
        (first
          | (apply proc_held
             case ho => simp only [List.getElem?_toArray, List.getElem?_cons_succ, List.getElem?_cons_zero]; rfl
             case hg => rfl
             case hv => intro W hW; (try dsimp only at hW); go_simp; rfl
             case ha => go_simp; rfl)
          | (apply proc_held_on
             case ho => simp only [List.getElem?_toArray, List.getElem?_cons_succ, List.getElem?_cons_zero]; rfl
             case hg => rfl
             case hv => intro W hW; (try dsimp only at hW); go_simp; rfl
             case ha => go_simp; rfl)
          | (apply proc_off
             case ho => simp only [List.getElem?_toArray, List.getElem?_cons_succ, List.getElem?_cons_zero]; rfl
             case hg => rfl
             case ha => go_simp; rfl))
      apply proc_held (v := .string ⟨([115, 117, 98, 109, 105, 116, 32] ++ me ++ [32] ++ ur ++ [32] ++ og ++ ta ++ [32, 48] ++ tb ++ [32] ++ d ++ tc ++ th).toArray⟩)
      case ho => simp only [List.getElem?_toArray, List.getElem?_cons_succ, List.getElem?_cons_zero]; rfl
      case hg => rfl
      case hv =>
        intro W hW
        go_simp
        rw [if_neg (by (try simp); omega), str_append]
        (try simp)
      case ha => go_simp; rfl
      repeat
        (first
          | (apply proc_held
             case ho => simp only [List.getElem?_toArray, List.getElem?_cons_succ, List.getElem?_cons_zero]; rfl
             case hg => rfl
             case hv => intro W hW; (try dsimp only at hW); go_simp; rfl
             case ha => go_simp; rfl)
          | (apply proc_held_on
             case ho => simp only [List.getElem?_toArray, List.getElem?_cons_succ, List.getElem?_cons_zero]; rfl
             case hg => rfl
             case hv => intro W hW; (try dsimp only at hW); go_simp; rfl
             case ha => go_simp; rfl)
          | (apply proc_off
             case ho => simp only [List.getElem?_toArray, List.getElem?_cons_succ, List.getElem?_cons_zero]; rfl
             case hg => rfl
             case ha => go_simp; rfl))
      refine proc_nil ?_
      have h1 : tx = [115, 117, 98, 109, 105, 116, 32] ++ me ++ [32] ++ ur ++ [32] ++ og ++ ta ++ [32, 48] ++ tb ++ [32] ++ d ++ tc ++ th := by
        rw [HTX.out, HT.out]
        show subX _ = _
        unfold subX
        simp only
        rw [← Hta.out, ← Htb.out, ← Htc.out, ← Hth.out, HTN.out, Lib.itoa_nonneg, ← HD.out]
        rfl
      have h2 : bx = false := by
        rw [HBX.out, HT.out]
        show subB _ = _
        unfold subB
        simp only
        rw [← Hba.out, ← Hbb.out, ← Hbc.out, ← Hbd.out]
        (try rfl)
      have H1 := Lib.hid h1; have H2 := Lib.hid h2
      clear h1 h2
      go_wp2_with fail
      go_ret2
      refine ⟨?_, HU5.out.drewN 1⟩
      rw [H1.out, H2.out]
      (try simp)
      (try rfl)
    | true =>
    cases bc with
    | false =>
      go_upto_region 10 with fail
      refine wp_region_proc [(0, 0), (1, 0), (2, 0), (3, 0), (4, 0), (5, 0), (6, 0), (7, 0), (8, 0), (9, 0), (10, 0), (11, 0), (12, 0), (13, 0), (14, 0), (15, 0), (16, 0), (17, 0), (18, 0), (19, 0), (22, 0), (24, 0), (26, 0), (20, 1), (21, 0), (23, 0), (25, 0), (27, 0), (28, 0), (29, 0), (30, 0), (31, 0), (32, 0), (33, 0), (34, 0), (35, 0), (36, 0), (37, 0)] (fun W => W.cell? ⟨w.heap.size, 0, none⟩ = some (.string ⟨me.toArray⟩) ∧ W.cell? ⟨w.heap.size, 1, none⟩ = some (.string ⟨ur.toArray⟩) ∧ W.cell? ⟨w.heap.size, 2, none⟩ = some (.string ⟨og.toArray⟩) ∧ W.cell? ⟨w.heap.size, 7, none⟩ = some (.int .u64 tn)) (by kernel_rfl) (by kernel_rfl) (fun c a w t v h => by cases t <;> exact h) ⟨g0, g1, g2, g7⟩ ?_
      repeat
        (first
          | (apply proc_held
             case ho => simp only [List.getElem?_toArray, List.getElem?_cons_succ, List.getElem?_cons_zero]; rfl
             case hg => rfl
             case hv => intro W hW; (try dsimp only at hW); go_simp; rfl
             case ha => go_simp; rfl)
          | (apply proc_held_on
             case ho => simp only [List.getElem?_toArray, List.getElem?_cons_succ, List.getElem?_cons_zero]; rfl
             case hg => rfl
             case hv => intro W hW; (try dsimp only at hW); go_simp; rfl
             case ha => go_simp; rfl)
          | (apply proc_off
             case ho => simp only [List.getElem?_toArray, List.getElem?_cons_succ, List.getElem?_cons_zero]; rfl
             case hg => rfl
             case ha => go_simp; rfl))
      apply proc_held (v := .string ⟨([115, 117, 98, 109, 105, 116, 32] ++ me).toArray⟩)
      case ho => simp only [List.getElem?_toArray, List.getElem?_cons_succ, List.getElem?_cons_zero]; rfl
      case hg => rfl
      case hv =>
        intro W hW
        go_simp
        rw [if_neg (by (try simp); omega), str_append]
        (try simp)
      case ha => go_simp; rfl
      repeat
        (first
          | (apply proc_held
             case ho => simp only [List.getElem?_toArray, List.getElem?_cons_succ, List.getElem?_cons_zero]; rfl
             case hg => rfl
             case hv => intro W hW; (try dsimp only at hW); go_simp; rfl
             case ha => go_simp; rfl)
          | (apply proc_held_on
             case ho => simp only [List.getElem?_toArray, List.getElem?_cons_succ, List.getElem?_cons_zero]; rfl
             case hg => rfl
             case hv => intro W hW; (try dsimp only at hW); go_simp; rfl
             case ha => go_simp; rfl)
          | (apply proc_off
             case ho => simp only [List.getElem?_toArray, List.getElem?_cons_succ, List.getElem?_cons_zero]; rfl
             case hg => rfl
             case ha => go_simp; rfl))
      apply proc_held (v := .string ⟨([115, 117, 98, 109, 105, 116, 32] ++ me ++ [32]).toArray⟩)
      case ho => simp only [List.getElem?_toArray, List.getElem?_cons_succ, List.getElem?_cons_zero]; rfl
      case hg => rfl
      case hv =>
        intro W hW
        go_simp
        rw [if_neg (by (try simp); omega), str_append]
        (try simp)
      case ha => go_simp; rfl
      repeat
        (first
          | (apply proc_held
             case ho => simp only [List.getElem?_toArray, List.getElem?_cons_succ, List.getElem?_cons_zero]; rfl
             case hg => rfl
             case hv => intro W hW; (try dsimp only at hW); go_simp; rfl
             case ha => go_simp; rfl)
          | (apply proc_held_on
             case ho => simp only [List.getElem?_toArray, List.getElem?_cons_succ, List.getElem?_cons_zero]; rfl
             case hg => rfl
             case hv => intro W hW; (try dsimp only at hW); go_simp; rfl
             case ha => go_simp; rfl)
          | (apply proc_off
             case ho => simp only [List.getElem?_toArray, List.getElem?_cons_succ, List.getElem?_cons_zero]; rfl
             case hg => rfl
             case ha => go_simp; rfl))
      apply proc_held (v := .string ⟨([115, 117, 98, 109, 105, 116, 32] ++ me ++ [32] ++ ur).toArray⟩)
      case ho => simp only [List.getElem?_toArray, List.getElem?_cons_succ, List.getElem?_cons_zero]; rfl
      case hg => rfl
      case hv =>
        intro W hW
        go_simp
        rw [if_neg (by (try simp); omega), str_append]
        (try simp)
      case ha => go_simp; rfl
      repeat
        (first
          | (apply proc_held
             case ho => simp only [List.getElem?_toArray, List.getElem?_cons_succ, List.getElem?_cons_zero]; rfl
             case hg => rfl
             case hv => intro W hW; (try dsimp only at hW); go_simp; rfl
             case ha => go_simp; rfl)
          | (apply proc_held_on
             case ho => simp only [List.getElem?_toArray, List.getElem?_cons_succ, List.getElem?_cons_zero]; rfl
             case hg => rfl
             case hv => intro W hW; (try dsimp only at hW); go_simp; rfl
             case ha => go_simp; rfl)
          | (apply proc_off
             case ho => simp only [List.getElem?_toArray, List.getElem?_cons_succ, List.getElem?_cons_zero]; rfl
             case hg => rfl
             case ha => go_simp; rfl))
      apply proc_held (v := .string ⟨([115, 117, 98, 109, 105, 116, 32] ++ me ++ [32] ++ ur ++ [32]).toArray⟩)
      case ho => simp only [List.getElem?_toArray, List.getElem?_cons_succ, List.getElem?_cons_zero]; rfl
      case hg => rfl
      case hv =>
        intro W hW
        go_simp
        rw [if_neg (by (try simp); omega), str_append]
        (try simp)
      case ha => go_simp; rfl
      repeat
        (first
          | (apply proc_held
             case ho => simp only [List.getElem?_toArray, List.getElem?_cons_succ, List.getElem?_cons_zero]; rfl
             case hg => rfl
             case hv => intro W hW; (try dsimp only at hW); go_simp; rfl
             case ha => go_simp; rfl)
          | (apply proc_held_on
             case ho => simp only [List.getElem?_toArray, List.getElem?_cons_succ, List.getElem?_cons_zero]; rfl
             case hg => rfl
             case hv => intro W hW; (try dsimp only at hW); go_simp; rfl
             case ha => go_simp; rfl)
          | (apply proc_off
             case ho => simp only [List.getElem?_toArray, List.getElem?_cons_succ, List.getElem?_cons_zero]; rfl
             case hg => rfl
             case ha => go_simp; rfl))
      apply proc_held (v := .string ⟨([115, 117, 98, 109, 105, 116, 32] ++ me ++ [32] ++ ur ++ [32] ++ og).toArray⟩)
      case ho => simp only [List.getElem?_toArray, List.getElem?_cons_succ, List.getElem?_cons_zero]; rfl
      case hg => rfl
      case hv =>
        intro W hW
        go_simp
        rw [if_neg (by (try simp); omega), str_append]
        (try simp)
      case ha => go_simp; rfl
      repeat
        (first
          | (apply proc_held
             case ho => simp only [List.getElem?_toArray, List.getElem?_cons_succ, List.getElem?_cons_zero]; rfl
             case hg => rfl
             case hv => intro W hW; (try dsimp only at hW); go_simp; rfl
             case ha => go_simp; rfl)
          | (apply proc_held_on
             case ho => simp only [List.getElem?_toArray, List.getElem?_cons_succ, List.getElem?_cons_zero]; rfl
             case hg => rfl
             case hv => intro W hW; (try dsimp only at hW); go_simp; rfl
             case ha => go_simp; rfl)
          | (apply proc_off
             case ho => simp only [List.getElem?_toArray, List.getElem?_cons_succ, List.getElem?_cons_zero]; rfl
             case hg => rfl
             case ha => go_simp; rfl))
      apply proc_held (v := .string ⟨([115, 117, 98, 109, 105, 116, 32] ++ me ++ [32] ++ ur ++ [32] ++ og ++ ta).toArray⟩)
      case ho => simp only [List.getElem?_toArray, List.getElem?_cons_succ, List.getElem?_cons_zero]; rfl
      case hg => rfl
      case hv =>
        intro W hW
        go_simp
        rw [if_neg (by (try simp); omega), str_append]
        (try simp)
      case ha => go_simp; rfl
      repeat
        (first
          | (apply proc_held
             case ho => simp only [List.getElem?_toArray, List.getElem?_cons_succ, List.getElem?_cons_zero]; rfl
             case hg => rfl
             case hv => intro W hW; (try dsimp only at hW); go_simp; rfl
             case ha => go_simp; rfl)
          | (apply proc_held_on
             case ho => simp only [List.getElem?_toArray, List.getElem?_cons_succ, List.getElem?_cons_zero]; rfl
             case hg => rfl
             case hv => intro W hW; (try dsimp only at hW); go_simp; rfl
             case ha => go_simp; rfl)
          | (apply proc_off
             case ho => simp only [List.getElem?_toArray, List.getElem?_cons_succ, List.getElem?_cons_zero]; rfl
             case hg => rfl
             case ha => go_simp; rfl))
      apply proc_held (v := .string ⟨([115, 117, 98, 109, 105, 116, 32] ++ me ++ [32] ++ ur ++ [32] ++ og ++ ta ++ [32, 48]).toArray⟩)
      case ho => simp only [List.getElem?_toArray, List.getElem?_cons_succ, List.getElem?_cons_zero]; rfl
      case hg => rfl
      case hv =>
        intro W hW
        go_simp
        rw [if_neg (by (try simp); omega), str_append]
        (try simp)
      case ha => go_simp; rfl
      repeat
        (first
          | (apply proc_held
             case ho => simp only [List.getElem?_toArray, List.getElem?_cons_succ, List.getElem?_cons_zero]; rfl
             case hg => rfl
             case hv => intro W hW; (try dsimp only at hW); go_simp; rfl
             case ha => go_simp; rfl)
          | (apply proc_held_on
             case ho => simp only [List.getElem?_toArray, List.getElem?_cons_succ, List.getElem?_cons_zero]; rfl
             case hg => rfl
             case hv => intro W hW; (try dsimp only at hW); go_simp; rfl
             case ha => go_simp; rfl)
          | (apply proc_off
             case ho => simp only [List.getElem?_toArray, List.getElem?_cons_succ, List.getElem?_cons_zero]; rfl
             case hg => rfl
             case ha => go_simp; rfl))
      apply proc_held (v := .string ⟨([115, 117, 98, 109, 105, 116, 32] ++ me ++ [32] ++ ur ++ [32] ++ og ++ ta ++ [32, 48] ++ tb).toArray⟩)
      case ho => simp only [List.getElem?_toArray, List.getElem?_cons_succ, List.getElem?_cons_zero]; rfl
      case hg => rfl
      case hv =>
        intro W hW
        go_simp
        rw [if_neg (by (try simp); omega), str_append]
        (try simp)
      case ha => go_simp; rfl
      repeat
        (first
          | (apply proc_held
             case ho => simp only [List.getElem?_toArray, List.getElem?_cons_succ, List.getElem?_cons_zero]; rfl
             case hg => rfl
             case hv => intro W hW; (try dsimp only at hW); go_simp; rfl
             case ha => go_simp; rfl)
          | (apply proc_held_on
             case ho => simp only [List.getElem?_toArray, List.getElem?_cons_succ, List.getElem?_cons_zero]; rfl
             case hg => rfl
             case hv => intro W hW; (try dsimp only at hW); go_simp; rfl
             case ha => go_simp; rfl)
          | (apply proc_off
             case ho => simp only [List.getElem?_toArray, List.getElem?_cons_succ, List.getElem?_cons_zero]; rfl
             case hg => rfl
             case ha => go_simp; rfl))
      apply proc_held (v := .string ⟨([115, 117, 98, 109, 105, 116, 32] ++ me ++ [32] ++ ur ++ [32] ++ og ++ ta ++ [32, 48] ++ tb ++ [32]).toArray⟩)
      case ho => simp only [List.getElem?_toArray, List.getElem?_cons_succ, List.getElem?_cons_zero]; rfl
      case hg => rfl
      case hv =>
        intro W hW
        go_simp
        rw [if_neg (by (try simp); omega), str_append]
        (try simp)
      case ha => go_simp; rfl
      repeat
        (first
          | (apply proc_held
             case ho => simp only [List.getElem?_toArray, List.getElem?_cons_succ, List.getElem?_cons_zero]; rfl
             case hg => rfl
             case hv => intro W hW; (try dsimp only at hW); go_simp; rfl
             case ha => go_simp; rfl)
          | (apply proc_held_on
             case ho => simp only [List.getElem?_toArray, List.getElem?_cons_succ, List.getElem?_cons_zero]; rfl
             case hg => rfl
             case hv => intro W hW; (try dsimp only at hW); go_simp; rfl
             case ha => go_simp; rfl)
          | (apply proc_off
             case ho => simp only [List.getElem?_toArray, List.getElem?_cons_succ, List.getElem?_cons_zero]; rfl
             case hg => rfl
             case ha => go_simp; rfl))
      apply proc_eff
      case ho => simp only [List.getElem?_toArray, List.getElem?_cons_succ, List.getElem?_cons_zero]; rfl
      simp only [World.drew_eq]
      go_wp2_with fail
      refine (ref_num tn htn _).mono ?_
      rintro e w8 ⟨rfl, hw8⟩
      rw [hw8, ← HD.out]
      clear hw8
      go_wp2_with fail
      refine ⟨_, fun _ h => h, ⟨g0, g1, g2, g7⟩, ?_⟩
      repeat
        (first
          | (apply proc_held
             case ho => simp only [List.getElem?_toArray, List.getElem?_cons_succ, List.getElem?_cons_zero]; rfl
             case hg => rfl
             case hv => intro W hW; (try dsimp only at hW); go_simp; rfl
             case ha => go_simp; rfl)
          | (apply proc_held_on
             case ho => simp only [List.getElem?_toArray, List.getElem?_cons_succ, List.getElem?_cons_zero]; rfl
             case hg => rfl
             case hv => intro W hW; (try dsimp only at hW); go_simp; rfl
             case ha => go_simp; rfl)
          | (apply proc_off
             case ho => simp only [List.getElem?_toArray, List.getElem?_cons_succ, List.getElem?_cons_zero]; rfl
             case hg => rfl
             case ha => go_simp; rfl))
      apply proc_held (v := .string ⟨([115, 117, 98, 109, 105, 116, 32] ++ me ++ [32] ++ ur ++ [32] ++ og ++ ta ++ [32, 48] ++ tb ++ [32] ++ d).toArray⟩)
      case ho => simp only [List.getElem?_toArray, List.getElem?_cons_succ, List.getElem?_cons_zero]; rfl
      case hg => rfl
      case hv =>
        intro W hW
        go_simp
        rw [if_neg (by (try simp); omega), str_append]
        (try simp)
      case ha => go_simp; rfl
      repeat
        (first
          | (apply proc_held
             case ho => simp only [List.getElem?_toArray, List.getElem?_cons_succ, List.getElem?_cons_zero]; rfl
             case hg => rfl
             case hv => intro W hW; (try dsimp only at hW); go_simp; rfl
             case ha => go_simp; rfl)
          | (apply proc_held_on
             case ho => simp only [List.getElem?_toArray, List.getElem?_cons_succ, List.getElem?_cons_zero]; rfl
             case hg => rfl
             case hv => intro W hW; (try dsimp only at hW); go_simp; rfl
             case ha => go_simp; rfl)
          | (apply proc_off
             case ho => simp only [List.getElem?_toArray, List.getElem?_cons_succ, List.getElem?_cons_zero]; rfl
             case hg => rfl
             case ha => go_simp; rfl))
      apply proc_held (v := .string ⟨([115, 117, 98, 109, 105, 116, 32] ++ me ++ [32] ++ ur ++ [32] ++ og ++ ta ++ [32, 48] ++ tb ++ [32] ++ d ++ tc).toArray⟩)
      case ho => simp only [List.getElem?_toArray, List.getElem?_cons_succ, List.getElem?_cons_zero]; rfl
      case hg => rfl
      case hv =>
        intro W hW
        go_simp
        rw [if_neg (by (try simp); omega), str_append]
        (try simp)
      case ha => go_simp; rfl
      repeat
        (first
          | (apply proc_held
             case ho => simp only [List.getElem?_toArray, List.getElem?_cons_succ, List.getElem?_cons_zero]; rfl
             case hg => rfl
             case hv => intro W hW; (try dsimp only at hW); go_simp; rfl
             case ha => go_simp; rfl)
          | (apply proc_held_on
             case ho => simp only [List.getElem?_toArray, List.getElem?_cons_succ, List.getElem?_cons_zero]; rfl
             case hg => rfl
             case hv => intro W hW; (try dsimp only at hW); go_simp; rfl
             case ha => go_simp; rfl)
          | (apply proc_off
             case ho => simp only [List.getElem?_toArray, List.getElem?_cons_succ, List.getElem?_cons_zero]; rfl
             case hg => rfl
             case ha => go_simp; rfl))
      apply proc_held (v := .string ⟨([115, 117, 98, 109, 105, 116, 32] ++ me ++ [32] ++ ur ++ [32] ++ og ++ ta ++ [32, 48] ++ tb ++ [32] ++ d ++ tc ++ th).toArray⟩)
      case ho => simp only [List.getElem?_toArray, List.getElem?_cons_succ, List.getElem?_cons_zero]; rfl
      case hg => rfl
      case hv =>
        intro W hW
        go_simp
        rw [if_neg (by (try simp); omega), str_append]
        (try simp)
      case ha => go_simp; rfl
      repeat
        (first
          | (apply proc_held
             case ho => simp only [List.getElem?_toArray, List.getElem?_cons_succ, List.getElem?_cons_zero]; rfl
             case hg => rfl
             case hv => intro W hW; (try dsimp only at hW); go_simp; rfl
             case ha => go_simp; rfl)
          | (apply proc_held_on
             case ho => simp only [List.getElem?_toArray, List.getElem?_cons_succ, List.getElem?_cons_zero]; rfl
             case hg => rfl
             case hv => intro W hW; (try dsimp only at hW); go_simp; rfl
             case ha => go_simp; rfl)
          | (apply proc_off
             case ho => simp only [List.getElem?_toArray, List.getElem?_cons_succ, List.getElem?_cons_zero]; rfl
             case hg => rfl
             case ha => go_simp; rfl))
      refine proc_nil ?_
      have h1 : tx = [115, 117, 98, 109, 105, 116, 32] ++ me ++ [32] ++ ur ++ [32] ++ og ++ ta ++ [32, 48] ++ tb ++ [32] ++ d ++ tc ++ th := by
        rw [HTX.out, HT.out]
        show subX _ = _
        unfold subX
        simp only
        rw [← Hta.out, ← Htb.out, ← Htc.out, ← Hth.out, HTN.out, Lib.itoa_nonneg, ← HD.out]
        rfl
      have h2 : bx = false := by
        rw [HBX.out, HT.out]
        show subB _ = _
        unfold subB
        simp only
        rw [← Hba.out, ← Hbb.out, ← Hbc.out, ← Hbd.out]
        (try rfl)
      have H1 := Lib.hid h1; have H2 := Lib.hid h2
      clear h1 h2
      go_wp2_with fail
      go_ret2
      refine ⟨?_, HU5.out.drewN 1⟩
      rw [H1.out, H2.out]
      (try simp)
      (try rfl)
    | true =>
      go_upto_region 10 with fail
      refine wp_region_proc [(0, 0), (1, 0), (2, 0), (3, 0), (4, 0), (5, 0), (6, 0), (7, 0), (8, 0), (9, 0), (10, 0), (11, 0), (12, 0), (13, 0), (14, 0), (15, 0), (16, 0), (17, 0), (18, 0), (19, 0), (22, 0), (24, 0), (26, 0), (20, 1), (21, 0), (23, 0), (25, 0), (27, 0), (28, 0), (29, 0), (30, 0), (31, 0), (32, 0), (33, 0), (34, 0), (35, 0), (36, 0), (37, 0)] (fun W => W.cell? ⟨w.heap.size, 0, none⟩ = some (.string ⟨me.toArray⟩) ∧ W.cell? ⟨w.heap.size, 1, none⟩ = some (.string ⟨ur.toArray⟩) ∧ W.cell? ⟨w.heap.size, 2, none⟩ = some (.string ⟨og.toArray⟩) ∧ W.cell? ⟨w.heap.size, 7, none⟩ = some (.int .u64 tn)) (by kernel_rfl) (by kernel_rfl) (fun c a w t v h => by cases t <;> exact h) ⟨g0, g1, g2, g7⟩ ?_
      repeat
        (first
          | (apply proc_held
             case ho => simp only [List.getElem?_toArray, List.getElem?_cons_succ, List.getElem?_cons_zero]; rfl
             case hg => rfl
             case hv => intro W hW; (try dsimp only at hW); go_simp; rfl
             case ha => go_simp; rfl)
          | (apply proc_held_on
             case ho => simp only [List.getElem?_toArray, List.getElem?_cons_succ, List.getElem?_cons_zero]; rfl
             case hg => rfl
             case hv => intro W hW; (try dsimp only at hW); go_simp; rfl
             case ha => go_simp; rfl)
          | (apply proc_off
             case ho => simp only [List.getElem?_toArray, List.getElem?_cons_succ, List.getElem?_cons_zero]; rfl
             case hg => rfl
             case ha => go_simp; rfl))
      apply proc_held (v := .string ⟨([115, 117, 98, 109, 105, 116, 32] ++ me).toArray⟩)
      case ho => simp only [List.getElem?_toArray, List.getElem?_cons_succ, List.getElem?_cons_zero]; rfl
      case hg => rfl
      case hv =>
        intro W hW
        go_simp
        rw [if_neg (by (try simp); omega), str_append]
        (try simp)
      case ha => go_simp; rfl
      repeat
        (first
          | (apply proc_held
             case ho => simp only [List.getElem?_toArray, List.getElem?_cons_succ, List.getElem?_cons_zero]; rfl
             case hg => rfl
             case hv => intro W hW; (try dsimp only at hW); go_simp; rfl
             case ha => go_simp; rfl)
          | (apply proc_held_on
             case ho => simp only [List.getElem?_toArray, List.getElem?_cons_succ, List.getElem?_cons_zero]; rfl
             case hg => rfl
             case hv => intro W hW; (try dsimp only at hW); go_simp; rfl
             case ha => go_simp; rfl)
          | (apply proc_off
             case ho => simp only [List.getElem?_toArray, List.getElem?_cons_succ, List.getElem?_cons_zero]; rfl
             case hg => rfl
             case ha => go_simp; rfl))
      apply proc_held (v := .string ⟨([115, 117, 98, 109, 105, 116, 32] ++ me ++ [32]).toArray⟩)
      case ho => simp only [List.getElem?_toArray, List.getElem?_cons_succ, List.getElem?_cons_zero]; rfl
      case hg => rfl
      case hv =>
        intro W hW
        go_simp
        rw [if_neg (by (try simp); omega), str_append]
        (try simp)
      case ha => go_simp; rfl
      repeat
        (first
          | (apply proc_held
             case ho => simp only [List.getElem?_toArray, List.getElem?_cons_succ, List.getElem?_cons_zero]; rfl
             case hg => rfl
             case hv => intro W hW; (try dsimp only at hW); go_simp; rfl
             case ha => go_simp; rfl)
          | (apply proc_held_on
             case ho => simp only [List.getElem?_toArray, List.getElem?_cons_succ, List.getElem?_cons_zero]; rfl
             case hg => rfl
             case hv => intro W hW; (try dsimp only at hW); go_simp; rfl
             case ha => go_simp; rfl)
          | (apply proc_off
             case ho => simp only [List.getElem?_toArray, List.getElem?_cons_succ, List.getElem?_cons_zero]; rfl
             case hg => rfl
             case ha => go_simp; rfl))
      apply proc_held (v := .string ⟨([115, 117, 98, 109, 105, 116, 32] ++ me ++ [32] ++ ur).toArray⟩)
      case ho => simp only [List.getElem?_toArray, List.getElem?_cons_succ, List.getElem?_cons_zero]; rfl
      case hg => rfl
      case hv =>
        intro W hW
        go_simp
        rw [if_neg (by (try simp); omega), str_append]
        (try simp)
      case ha => go_simp; rfl
      repeat
        (first
          | (apply proc_held
             case ho => simp only [List.getElem?_toArray, List.getElem?_cons_succ, List.getElem?_cons_zero]; rfl
             case hg => rfl
             case hv => intro W hW; (try dsimp only at hW); go_simp; rfl
             case ha => go_simp; rfl)
          | (apply proc_held_on
             case ho => simp only [List.getElem?_toArray, List.getElem?_cons_succ, List.getElem?_cons_zero]; rfl
             case hg => rfl
             case hv => intro W hW; (try dsimp only at hW); go_simp; rfl
             case ha => go_simp; rfl)
          | (apply proc_off
             case ho => simp only [List.getElem?_toArray, List.getElem?_cons_succ, List.getElem?_cons_zero]; rfl
             case hg => rfl
             case ha => go_simp; rfl))
      apply proc_held (v := .string ⟨([115, 117, 98, 109, 105, 116, 32] ++ me ++ [32] ++ ur ++ [32]).toArray⟩)
      case ho => simp only [List.getElem?_toArray, List.getElem?_cons_succ, List.getElem?_cons_zero]; rfl
      case hg => rfl
      case hv =>
        intro W hW
        go_simp
        rw [if_neg (by (try simp); omega), str_append]
        (try simp)
      case ha => go_simp; rfl
      repeat
        (first
          | (apply proc_held
             case ho => simp only [List.getElem?_toArray, List.getElem?_cons_succ, List.getElem?_cons_zero]; rfl
             case hg => rfl
             case hv => intro W hW; (try dsimp only at hW); go_simp; rfl
             case ha => go_simp; rfl)
          | (apply proc_held_on
             case ho => simp only [List.getElem?_toArray, List.getElem?_cons_succ, List.getElem?_cons_zero]; rfl
             case hg => rfl
             case hv => intro W hW; (try dsimp only at hW); go_simp; rfl
             case ha => go_simp; rfl)
          | (apply proc_off
             case ho => simp only [List.getElem?_toArray, List.getElem?_cons_succ, List.getElem?_cons_zero]; rfl
             case hg => rfl
             case ha => go_simp; rfl))
      apply proc_held (v := .string ⟨([115, 117, 98, 109, 105, 116, 32] ++ me ++ [32] ++ ur ++ [32] ++ og).toArray⟩)
      case ho => simp only [List.getElem?_toArray, List.getElem?_cons_succ, List.getElem?_cons_zero]; rfl
      case hg => rfl
      case hv =>
        intro W hW
        go_simp
        rw [if_neg (by (try simp); omega), str_append]
        (try simp)
      case ha => go_simp; rfl
      repeat
        (first
          | (apply proc_held
             case ho => simp only [List.getElem?_toArray, List.getElem?_cons_succ, List.getElem?_cons_zero]; rfl
             case hg => rfl
             case hv => intro W hW; (try dsimp only at hW); go_simp; rfl
             case ha => go_simp; rfl)
          | (apply proc_held_on
             case ho => simp only [List.getElem?_toArray, List.getElem?_cons_succ, List.getElem?_cons_zero]; rfl
             case hg => rfl
             case hv => intro W hW; (try dsimp only at hW); go_simp; rfl
             case ha => go_simp; rfl)
          | (apply proc_off
             case ho => simp only [List.getElem?_toArray, List.getElem?_cons_succ, List.getElem?_cons_zero]; rfl
             case hg => rfl
             case ha => go_simp; rfl))
      apply proc_held (v := .string ⟨([115, 117, 98, 109, 105, 116, 32] ++ me ++ [32] ++ ur ++ [32] ++ og ++ ta).toArray⟩)
      case ho => simp only [List.getElem?_toArray, List.getElem?_cons_succ, List.getElem?_cons_zero]; rfl
      case hg => rfl
      case hv =>
        intro W hW
        go_simp
        rw [if_neg (by (try simp); omega), str_append]
        (try simp)
      case ha => go_simp; rfl
      repeat
        (first
          | (apply proc_held
             case ho => simp only [List.getElem?_toArray, List.getElem?_cons_succ, List.getElem?_cons_zero]; rfl
             case hg => rfl
             case hv => intro W hW; (try dsimp only at hW); go_simp; rfl
             case ha => go_simp; rfl)
          | (apply proc_held_on
             case ho => simp only [List.getElem?_toArray, List.getElem?_cons_succ, List.getElem?_cons_zero]; rfl
             case hg => rfl
             case hv => intro W hW; (try dsimp only at hW); go_simp; rfl
             case ha => go_simp; rfl)
          | (apply proc_off
             case ho => simp only [List.getElem?_toArray, List.getElem?_cons_succ, List.getElem?_cons_zero]; rfl
             case hg => rfl
             case ha => go_simp; rfl))
      apply proc_held (v := .string ⟨([115, 117, 98, 109, 105, 116, 32] ++ me ++ [32] ++ ur ++ [32] ++ og ++ ta ++ [32, 48]).toArray⟩)
      case ho => simp only [List.getElem?_toArray, List.getElem?_cons_succ, List.getElem?_cons_zero]; rfl
      case hg => rfl
      case hv =>
        intro W hW
        go_simp
        rw [if_neg (by (try simp); omega), str_append]
        (try simp)
      case ha => go_simp; rfl
      repeat
        (first
          | (apply proc_held
             case ho => simp only [List.getElem?_toArray, List.getElem?_cons_succ, List.getElem?_cons_zero]; rfl
             case hg => rfl
             case hv => intro W hW; (try dsimp only at hW); go_simp; rfl
             case ha => go_simp; rfl)
          | (apply proc_held_on
             case ho => simp only [List.getElem?_toArray, List.getElem?_cons_succ, List.getElem?_cons_zero]; rfl
             case hg => rfl
             case hv => intro W hW; (try dsimp only at hW); go_simp; rfl
             case ha => go_simp; rfl)
          | (apply proc_off
             case ho => simp only [List.getElem?_toArray, List.getElem?_cons_succ, List.getElem?_cons_zero]; rfl
             case hg => rfl
             case ha => go_simp; rfl))
      apply proc_held (v := .string ⟨([115, 117, 98, 109, 105, 116, 32] ++ me ++ [32] ++ ur ++ [32] ++ og ++ ta ++ [32, 48] ++ tb).toArray⟩)
      case ho => simp only [List.getElem?_toArray, List.getElem?_cons_succ, List.getElem?_cons_zero]; rfl
      case hg => rfl
      case hv =>
        intro W hW
        go_simp
        rw [if_neg (by (try simp); omega), str_append]
        (try simp)
      case ha => go_simp; rfl
      repeat
        (first
          | (apply proc_held
             case ho => simp only [List.getElem?_toArray, List.getElem?_cons_succ, List.getElem?_cons_zero]; rfl
             case hg => rfl
             case hv => intro W hW; (try dsimp only at hW); go_simp; rfl
             case ha => go_simp; rfl)
          | (apply proc_held_on
             case ho => simp only [List.getElem?_toArray, List.getElem?_cons_succ, List.getElem?_cons_zero]; rfl
             case hg => rfl
             case hv => intro W hW; (try dsimp only at hW); go_simp; rfl
             case ha => go_simp; rfl)
          | (apply proc_off
             case ho => simp only [List.getElem?_toArray, List.getElem?_cons_succ, List.getElem?_cons_zero]; rfl
             case hg => rfl
             case ha => go_simp; rfl))
      apply proc_held (v := .string ⟨([115, 117, 98, 109, 105, 116, 32] ++ me ++ [32] ++ ur ++ [32] ++ og ++ ta ++ [32, 48] ++ tb ++ [32]).toArray⟩)
      case ho => simp only [List.getElem?_toArray, List.getElem?_cons_succ, List.getElem?_cons_zero]; rfl
      case hg => rfl
      case hv =>
        intro W hW
        go_simp
        rw [if_neg (by (try simp); omega), str_append]
        (try simp)
      case ha => go_simp; rfl
      repeat
        (first
          | (apply proc_held
             case ho => simp only [List.getElem?_toArray, List.getElem?_cons_succ, List.getElem?_cons_zero]; rfl
             case hg => rfl
             case hv => intro W hW; (try dsimp only at hW); go_simp; rfl
             case ha => go_simp; rfl)
          | (apply proc_held_on
             case ho => simp only [List.getElem?_toArray, List.getElem?_cons_succ, List.getElem?_cons_zero]; rfl
             case hg => rfl
             case hv => intro W hW; (try dsimp only at hW); go_simp; rfl
             case ha => go_simp; rfl)
          | (apply proc_off
             case ho => simp only [List.getElem?_toArray, List.getElem?_cons_succ, List.getElem?_cons_zero]; rfl
             case hg => rfl
             case ha => go_simp; rfl))
      apply proc_eff
      case ho => simp only [List.getElem?_toArray, List.getElem?_cons_succ, List.getElem?_cons_zero]; rfl
      simp only [World.drew_eq]
      go_wp2_with fail
      refine (ref_num tn htn _).mono ?_
      rintro e w8 ⟨rfl, hw8⟩
      rw [hw8, ← HD.out]
      clear hw8
      go_wp2_with fail
      refine ⟨_, fun _ h => h, ⟨g0, g1, g2, g7⟩, ?_⟩
      repeat
        (first
          | (apply proc_held
             case ho => simp only [List.getElem?_toArray, List.getElem?_cons_succ, List.getElem?_cons_zero]; rfl
             case hg => rfl
             case hv => intro W hW; (try dsimp only at hW); go_simp; rfl
             case ha => go_simp; rfl)
          | (apply proc_held_on
             case ho => simp only [List.getElem?_toArray, List.getElem?_cons_succ, List.getElem?_cons_zero]; rfl
             case hg => rfl
             case hv => intro W hW; (try dsimp only at hW); go_simp; rfl
             case ha => go_simp; rfl)
          | (apply proc_off
             case ho => simp only [List.getElem?_toArray, List.getElem?_cons_succ, List.getElem?_cons_zero]; rfl
             case hg => rfl
             case ha => go_simp; rfl))
      apply proc_held (v := .string ⟨([115, 117, 98, 109, 105, 116, 32] ++ me ++ [32] ++ ur ++ [32] ++ og ++ ta ++ [32, 48] ++ tb ++ [32] ++ d).toArray⟩)
      case ho => simp only [List.getElem?_toArray, List.getElem?_cons_succ, List.getElem?_cons_zero]; rfl
      case hg => rfl
      case hv =>
        intro W hW
        go_simp
        rw [if_neg (by (try simp); omega), str_append]
        (try simp)
      case ha => go_simp; rfl
      repeat
        (first
          | (apply proc_held
             case ho => simp only [List.getElem?_toArray, List.getElem?_cons_succ, List.getElem?_cons_zero]; rfl
             case hg => rfl
             case hv => intro W hW; (try dsimp only at hW); go_simp; rfl
             case ha => go_simp; rfl)
          | (apply proc_held_on
             case ho => simp only [List.getElem?_toArray, List.getElem?_cons_succ, List.getElem?_cons_zero]; rfl
             case hg => rfl
             case hv => intro W hW; (try dsimp only at hW); go_simp; rfl
             case ha => go_simp; rfl)
          | (apply proc_off
             case ho => simp only [List.getElem?_toArray, List.getElem?_cons_succ, List.getElem?_cons_zero]; rfl
             case hg => rfl
             case ha => go_simp; rfl))
      apply proc_held (v := .string ⟨([115, 117, 98, 109, 105, 116, 32] ++ me ++ [32] ++ ur ++ [32] ++ og ++ ta ++ [32, 48] ++ tb ++ [32] ++ d ++ tc).toArray⟩)
      case ho => simp only [List.getElem?_toArray, List.getElem?_cons_succ, List.getElem?_cons_zero]; rfl
      case hg => rfl
      case hv =>
        intro W hW
        go_simp
        rw [if_neg (by (try simp); omega), str_append]
        (try simp)
      case ha => go_simp; rfl
      repeat
        (first
          | (apply proc_held
             case ho => simp only [List.getElem?_toArray, List.getElem?_cons_succ, List.getElem?_cons_zero]; rfl
             case hg => rfl
             case hv => intro W hW; (try dsimp only at hW); go_simp; rfl
             case ha => go_simp; rfl)
          | (apply proc_held_on
             case ho => simp only [List.getElem?_toArray, List.getElem?_cons_succ, List.getElem?_cons_zero]; rfl
             case hg => rfl
             case hv => intro W hW; (try dsimp only at hW); go_simp; rfl
             case ha => go_simp; rfl)
          | (apply proc_off
             case ho => simp only [List.getElem?_toArray, List.getElem?_cons_succ, List.getElem?_cons_zero]; rfl
             case hg => rfl
             case ha => go_simp; rfl))
      apply proc_held (v := .string ⟨([115, 117, 98, 109, 105, 116, 32] ++ me ++ [32] ++ ur ++ [32] ++ og ++ ta ++ [32, 48] ++ tb ++ [32] ++ d ++ tc ++ th).toArray⟩)
      case ho => simp only [List.getElem?_toArray, List.getElem?_cons_succ, List.getElem?_cons_zero]; rfl
      case hg => rfl
      case hv =>
        intro W hW
        go_simp
        rw [if_neg (by (try simp); omega), str_append]
        (try simp)
      case ha => go_simp; rfl
      repeat
        (first
          | (apply proc_held
             case ho => simp only [List.getElem?_toArray, List.getElem?_cons_succ, List.getElem?_cons_zero]; rfl
             case hg => rfl
             case hv => intro W hW; (try dsimp only at hW); go_simp; rfl
             case ha => go_simp; rfl)
          | (apply proc_held_on
             case ho => simp only [List.getElem?_toArray, List.getElem?_cons_succ, List.getElem?_cons_zero]; rfl
             case hg => rfl
             case hv => intro W hW; (try dsimp only at hW); go_simp; rfl
             case ha => go_simp; rfl)
          | (apply proc_off
             case ho => simp only [List.getElem?_toArray, List.getElem?_cons_succ, List.getElem?_cons_zero]; rfl
             case hg => rfl
             case ha => go_simp; rfl))
      refine proc_nil ?_
      have h1 : tx = [115, 117, 98, 109, 105, 116, 32] ++ me ++ [32] ++ ur ++ [32] ++ og ++ ta ++ [32, 48] ++ tb ++ [32] ++ d ++ tc ++ th := by
        rw [HTX.out, HT.out]
        show subX _ = _
        unfold subX
        simp only
        rw [← Hta.out, ← Htb.out, ← Htc.out, ← Hth.out, HTN.out, Lib.itoa_nonneg, ← HD.out]
        rfl
      have h2 : bx = bd := by
        rw [HBX.out, HT.out]
        show subB _ = _
        unfold subB
        simp only
        rw [← Hba.out, ← Hbb.out, ← Hbc.out, ← Hbd.out]
        (try rfl)
      have H1 := Lib.hid h1; have H2 := Lib.hid h2
      clear h1 h2
      go_wp2_with fail
      go_ret2
      refine ⟨?_, HU5.out.drewN 1⟩
      rw [H1.out, H2.out]
      (try simp)
      (try rfl)
  · cases ba with
    | false =>
      go_upto_region 10 with fail
      refine wp_region_proc [(0, 0), (1, 0), (2, 0), (3, 0), (4, 0), (5, 0), (6, 0), (7, 0), (8, 0), (9, 0), (10, 0), (11, 0), (12, 0), (13, 0), (14, 0), (15, 0), (16, 0), (17, 0), (18, 0), (19, 0), (22, 0), (24, 0), (26, 0), (20, 1), (21, 0), (23, 0), (25, 0), (27, 0), (28, 0), (29, 0), (30, 0), (31, 0), (32, 0), (33, 0), (34, 0), (35, 0), (36, 0), (37, 0)] (fun W => W.cell? ⟨w.heap.size, 0, none⟩ = some (.string ⟨me.toArray⟩) ∧ W.cell? ⟨w.heap.size, 1, none⟩ = some (.string ⟨ur.toArray⟩) ∧ W.cell? ⟨w.heap.size, 2, none⟩ = some (.string ⟨og.toArray⟩) ∧ W.cell? ⟨w.heap.size, 7, none⟩ = some (.int .u64 tn)) (by kernel_rfl) (by kernel_rfl) (fun c a w t v h => by cases t <;> exact h) ⟨g0, g1, g2, g7⟩ ?_
      repeat
        (first
          | (apply proc_held
             case ho => simp only [List.getElem?_toArray, List.getElem?_cons_succ, List.getElem?_cons_zero]; rfl
             case hg => rfl
             case hv => intro W hW; (try dsimp only at hW); go_simp; rfl
             case ha => go_simp; rfl)
          | (apply proc_held_on
             case ho => simp only [List.getElem?_toArray, List.getElem?_cons_succ, List.getElem?_cons_zero]; rfl
             case hg => rfl
             case hv => intro W hW; (try dsimp only at hW); go_simp; rfl
             case ha => go_simp; rfl)
          | (apply proc_off
             case ho => simp only [List.getElem?_toArray, List.getElem?_cons_succ, List.getElem?_cons_zero]; rfl
             case hg => rfl
             case ha => go_simp; rfl))
      apply proc_held (v := .string ⟨([115, 117, 98, 109, 105, 116, 32] ++ me).toArray⟩)
      case ho => simp only [List.getElem?_toArray, List.getElem?_cons_succ, List.getElem?_cons_zero]; rfl
      case hg => rfl
      case hv =>
        intro W hW
        go_simp
        rw [if_neg (by (try simp); omega), str_append]
        (try simp)
      case ha => go_simp; rfl
      repeat
        (first
          | (apply proc_held
             case ho => simp only [List.getElem?_toArray, List.getElem?_cons_succ, List.getElem?_cons_zero]; rfl
             case hg => rfl
             case hv => intro W hW; (try dsimp only at hW); go_simp; rfl
             case ha => go_simp; rfl)
          | (apply proc_held_on
             case ho => simp only [List.getElem?_toArray, List.getElem?_cons_succ, List.getElem?_cons_zero]; rfl
             case hg => rfl
             case hv => intro W hW; (try dsimp only at hW); go_simp; rfl
             case ha => go_simp; rfl)
          | (apply proc_off
             case ho => simp only [List.getElem?_toArray, List.getElem?_cons_succ, List.getElem?_cons_zero]; rfl
             case hg => rfl
             case ha => go_simp; rfl))
      apply proc_held (v := .string ⟨([115, 117, 98, 109, 105, 116, 32] ++ me ++ [32]).toArray⟩)
      case ho => simp only [List.getElem?_toArray, List.getElem?_cons_succ, List.getElem?_cons_zero]; rfl
      case hg => rfl
      case hv =>
        intro W hW
        go_simp
        rw [if_neg (by (try simp); omega), str_append]
        (try simp)
      case ha => go_simp; rfl
      repeat
        (first
          | (apply proc_held
             case ho => simp only [List.getElem?_toArray, List.getElem?_cons_succ, List.getElem?_cons_zero]; rfl
             case hg => rfl
             case hv => intro W hW; (try dsimp only at hW); go_simp; rfl
             case ha => go_simp; rfl)
          | (apply proc_held_on
             case ho => simp only [List.getElem?_toArray, List.getElem?_cons_succ, List.getElem?_cons_zero]; rfl
             case hg => rfl
             case hv => intro W hW; (try dsimp only at hW); go_simp; rfl
             case ha => go_simp; rfl)
          | (apply proc_off
             case ho => simp only [List.getElem?_toArray, List.getElem?_cons_succ, List.getElem?_cons_zero]; rfl
             case hg => rfl
             case ha => go_simp; rfl))
      apply proc_held (v := .string ⟨([115, 117, 98, 109, 105, 116, 32] ++ me ++ [32] ++ ur).toArray⟩)
      case ho => simp only [List.getElem?_toArray, List.getElem?_cons_succ, List.getElem?_cons_zero]; rfl
      case hg => rfl
      case hv =>
        intro W hW
        go_simp
        rw [if_neg (by (try simp); omega), str_append]
        (try simp)
      case ha => go_simp; rfl
      repeat
        (first
          | (apply proc_held
             case ho => simp only [List.getElem?_toArray, List.getElem?_cons_succ, List.getElem?_cons_zero]; rfl
             case hg => rfl
             case hv => intro W hW; (try dsimp only at hW); go_simp; rfl
             case ha => go_simp; rfl)
          | (apply proc_held_on
             case ho => simp only [List.getElem?_toArray, List.getElem?_cons_succ, List.getElem?_cons_zero]; rfl
             case hg => rfl
             case hv => intro W hW; (try dsimp only at hW); go_simp; rfl
             case ha => go_simp; rfl)
          | (apply proc_off
             case ho => simp only [List.getElem?_toArray, List.getElem?_cons_succ, List.getElem?_cons_zero]; rfl
             case hg => rfl
             case ha => go_simp; rfl))
      apply proc_held (v := .string ⟨([115, 117, 98, 109, 105, 116, 32] ++ me ++ [32] ++ ur ++ [32]).toArray⟩)
      case ho => simp only [List.getElem?_toArray, List.getElem?_cons_succ, List.getElem?_cons_zero]; rfl
      case hg => rfl
      case hv =>
        intro W hW
        go_simp
        rw [if_neg (by (try simp); omega), str_append]
        (try simp)
      case ha => go_simp; rfl
      repeat
        (first
          | (apply proc_held
             case ho => simp only [List.getElem?_toArray, List.getElem?_cons_succ, List.getElem?_cons_zero]; rfl
             case hg => rfl
             case hv => intro W hW; (try dsimp only at hW); go_simp; rfl
             case ha => go_simp; rfl)
          | (apply proc_held_on
             case ho => simp only [List.getElem?_toArray, List.getElem?_cons_succ, List.getElem?_cons_zero]; rfl
             case hg => rfl
             case hv => intro W hW; (try dsimp only at hW); go_simp; rfl
             case ha => go_simp; rfl)
          | (apply proc_off
             case ho => simp only [List.getElem?_toArray, List.getElem?_cons_succ, List.getElem?_cons_zero]; rfl
             case hg => rfl
             case ha => go_simp; rfl))
      apply proc_held (v := .string ⟨([115, 117, 98, 109, 105, 116, 32] ++ me ++ [32] ++ ur ++ [32] ++ og).toArray⟩)
      case ho => simp only [List.getElem?_toArray, List.getElem?_cons_succ, List.getElem?_cons_zero]; rfl
      case hg => rfl
      case hv =>
        intro W hW
        go_simp
        rw [if_neg (by (try simp); omega), str_append]
        (try simp)
      case ha => go_simp; rfl
      repeat
        (first
          | (apply proc_held
             case ho => simp only [List.getElem?_toArray, List.getElem?_cons_succ, List.getElem?_cons_zero]; rfl
             case hg => rfl
             case hv => intro W hW; (try dsimp only at hW); go_simp; rfl
             case ha => go_simp; rfl)
          | (apply proc_held_on
             case ho => simp only [List.getElem?_toArray, List.getElem?_cons_succ, List.getElem?_cons_zero]; rfl
             case hg => rfl
             case hv => intro W hW; (try dsimp only at hW); go_simp; rfl
             case ha => go_simp; rfl)
          | (apply proc_off
             case ho => simp only [List.getElem?_toArray, List.getElem?_cons_succ, List.getElem?_cons_zero]; rfl
             case hg => rfl
             case ha => go_simp; rfl))
      apply proc_held (v := .string ⟨([115, 117, 98, 109, 105, 116, 32] ++ me ++ [32] ++ ur ++ [32] ++ og ++ ta).toArray⟩)
      case ho => simp only [List.getElem?_toArray, List.getElem?_cons_succ, List.getElem?_cons_zero]; rfl
      case hg => rfl
      case hv =>
        intro W hW
        go_simp
        rw [if_neg (by (try simp); omega), str_append]
        (try simp)
      case ha => go_simp; rfl
      repeat
        (first
          | (apply proc_held
             case ho => simp only [List.getElem?_toArray, List.getElem?_cons_succ, List.getElem?_cons_zero]; rfl
             case hg => rfl
             case hv => intro W hW; (try dsimp only at hW); go_simp; rfl
             case ha => go_simp; rfl)
          | (apply proc_held_on
             case ho => simp only [List.getElem?_toArray, List.getElem?_cons_succ, List.getElem?_cons_zero]; rfl
             case hg => rfl
             case hv => intro W hW; (try dsimp only at hW); go_simp; rfl
             case ha => go_simp; rfl)
          | (apply proc_off
             case ho => simp only [List.getElem?_toArray, List.getElem?_cons_succ, List.getElem?_cons_zero]; rfl
             case hg => rfl
             case ha => go_simp; rfl))
      apply proc_held (v := .string ⟨([115, 117, 98, 109, 105, 116, 32] ++ me ++ [32] ++ ur ++ [32] ++ og ++ ta ++ [32, 49]).toArray⟩)
      case ho => simp only [List.getElem?_toArray, List.getElem?_cons_succ, List.getElem?_cons_zero]; rfl
      case hg => rfl
      case hv =>
        intro W hW
        go_simp
        rw [if_neg (by (try simp); omega), str_append]
        (try simp)
      case ha => go_simp; rfl
      repeat
        (first
          | (apply proc_held
             case ho => simp only [List.getElem?_toArray, List.getElem?_cons_succ, List.getElem?_cons_zero]; rfl
             case hg => rfl
             case hv => intro W hW; (try dsimp only at hW); go_simp; rfl
             case ha => go_simp; rfl)
          | (apply proc_held_on
             case ho => simp only [List.getElem?_toArray, List.getElem?_cons_succ, List.getElem?_cons_zero]; rfl
             case hg => rfl
             case hv => intro W hW; (try dsimp only at hW); go_simp; rfl
             case ha => go_simp; rfl)
          | (apply proc_off
             case ho => simp only [List.getElem?_toArray, List.getElem?_cons_succ, List.getElem?_cons_zero]; rfl
             case hg => rfl
             case ha => go_simp; rfl))
      apply proc_held (v := .string ⟨([115, 117, 98, 109, 105, 116, 32] ++ me ++ [32] ++ ur ++ [32] ++ og ++ ta ++ [32, 49] ++ tb).toArray⟩)
      case ho => simp only [List.getElem?_toArray, List.getElem?_cons_succ, List.getElem?_cons_zero]; rfl
      case hg => rfl
      case hv =>
        intro W hW
        go_simp
        rw [if_neg (by (try simp); omega), str_append]
        (try simp)
      case ha => go_simp; rfl
      repeat
        (first
          | (apply proc_held
             case ho => simp only [List.getElem?_toArray, List.getElem?_cons_succ, List.getElem?_cons_zero]; rfl
             case hg => rfl
             case hv => intro W hW; (try dsimp only at hW); go_simp; rfl
             case ha => go_simp; rfl)
          | (apply proc_held_on
             case ho => simp only [List.getElem?_toArray, List.getElem?_cons_succ, List.getElem?_cons_zero]; rfl
             case hg => rfl
             case hv => intro W hW; (try dsimp only at hW); go_simp; rfl
             case ha => go_simp; rfl)
          | (apply proc_off
             case ho => simp only [List.getElem?_toArray, List.getElem?_cons_succ, List.getElem?_cons_zero]; rfl
             case hg => rfl
             case ha => go_simp; rfl))
      apply proc_held (v := .string ⟨([115, 117, 98, 109, 105, 116, 32] ++ me ++ [32] ++ ur ++ [32] ++ og ++ ta ++ [32, 49] ++ tb ++ [32]).toArray⟩)
      case ho => simp only [List.getElem?_toArray, List.getElem?_cons_succ, List.getElem?_cons_zero]; rfl
      case hg => rfl
      case hv =>
        intro W hW
        go_simp
        rw [if_neg (by (try simp); omega), str_append]
        (try simp)
      case ha => go_simp; rfl
      repeat
        (first
          | (apply proc_held
             case ho => simp only [List.getElem?_toArray, List.getElem?_cons_succ, List.getElem?_cons_zero]; rfl
             case hg => rfl
             case hv => intro W hW; (try dsimp only at hW); go_simp; rfl
             case ha => go_simp; rfl)
          | (apply proc_held_on
             case ho => simp only [List.getElem?_toArray, List.getElem?_cons_succ, List.getElem?_cons_zero]; rfl
             case hg => rfl
             case hv => intro W hW; (try dsimp only at hW); go_simp; rfl
             case ha => go_simp; rfl)
          | (apply proc_off
             case ho => simp only [List.getElem?_toArray, List.getElem?_cons_succ, List.getElem?_cons_zero]; rfl
             case hg => rfl
             case ha => go_simp; rfl))
      apply proc_eff
      case ho => simp only [List.getElem?_toArray, List.getElem?_cons_succ, List.getElem?_cons_zero]; rfl
      simp only [World.drew_eq]
      go_wp2_with fail
      refine (ref_num tn htn _).mono ?_
      rintro e w8 ⟨rfl, hw8⟩
      rw [hw8, ← HD.out]
      clear hw8
      go_wp2_with fail
      refine ⟨_, fun _ h => h, ⟨g0, g1, g2, g7⟩, ?_⟩
      repeat
        (first
          | (apply proc_held
             case ho => simp only [List.getElem?_toArray, List.getElem?_cons_succ, List.getElem?_cons_zero]; rfl
             case hg => rfl
             case hv => intro W hW; (try dsimp only at hW); go_simp; rfl
             case ha => go_simp; rfl)
          | (apply proc_held_on
             case ho => simp only [List.getElem?_toArray, List.getElem?_cons_succ, List.getElem?_cons_zero]; rfl
             case hg => rfl
             case hv => intro W hW; (try dsimp only at hW); go_simp; rfl
             case ha => go_simp; rfl)
          | (apply proc_off
             case ho => simp only [List.getElem?_toArray, List.getElem?_cons_succ, List.getElem?_cons_zero]; rfl
             case hg => rfl
             case ha => go_simp; rfl))
      apply proc_held (v := .string ⟨([115, 117, 98, 109, 105, 116, 32] ++ me ++ [32] ++ ur ++ [32] ++ og ++ ta ++ [32, 49] ++ tb ++ [32] ++ d).toArray⟩)
      case ho => simp only [List.getElem?_toArray, List.getElem?_cons_succ, List.getElem?_cons_zero]; rfl
      case hg => rfl
      case hv =>
        intro W hW
        go_simp
        rw [if_neg (by (try simp); omega), str_append]
        (try simp)
      case ha => go_simp; rfl
      repeat
        (first
          | (apply proc_held
             case ho => simp only [List.getElem?_toArray, List.getElem?_cons_succ, List.getElem?_cons_zero]; rfl
             case hg => rfl
             case hv => intro W hW; (try dsimp only at hW); go_simp; rfl
             case ha => go_simp; rfl)
          | (apply proc_held_on
             case ho => simp only [List.getElem?_toArray, List.getElem?_cons_succ, List.getElem?_cons_zero]; rfl
             case hg => rfl
             case hv => intro W hW; (try dsimp only at hW); go_simp; rfl
             case ha => go_simp; rfl)
          | (apply proc_off
             case ho => simp only [List.getElem?_toArray, List.getElem?_cons_succ, List.getElem?_cons_zero]; rfl
             case hg => rfl
             case ha => go_simp; rfl))
      apply proc_held (v := .string ⟨([115, 117, 98, 109, 105, 116, 32] ++ me ++ [32] ++ ur ++ [32] ++ og ++ ta ++ [32, 49] ++ tb ++ [32] ++ d ++ tc).toArray⟩)
      case ho => simp only [List.getElem?_toArray, List.getElem?_cons_succ, List.getElem?_cons_zero]; rfl
      case hg => rfl
      case hv =>
        intro W hW
        go_simp
        rw [if_neg (by (try simp); omega), str_append]
        (try simp)
      case ha => go_simp; rfl
      repeat
        (first
          | (apply proc_held
             case ho => simp only [List.getElem?_toArray, List.getElem?_cons_succ, List.getElem?_cons_zero]; rfl
             case hg => rfl
             case hv => intro W hW; (try dsimp only at hW); go_simp; rfl
             case ha => go_simp; rfl)
          | (apply proc_held_on
             case ho => simp only [List.getElem?_toArray, List.getElem?_cons_succ, List.getElem?_cons_zero]; rfl
             case hg => rfl
             case hv => intro W hW; (try dsimp only at hW); go_simp; rfl
             case ha => go_simp; rfl)
          | (apply proc_off
             case ho => simp only [List.getElem?_toArray, List.getElem?_cons_succ, List.getElem?_cons_zero]; rfl
             case hg => rfl
             case ha => go_simp; rfl))
      apply proc_held (v := .string ⟨([115, 117, 98, 109, 105, 116, 32] ++ me ++ [32] ++ ur ++ [32] ++ og ++ ta ++ [32, 49] ++ tb ++ [32] ++ d ++ tc ++ th).toArray⟩)
      case ho => simp only [List.getElem?_toArray, List.getElem?_cons_succ, List.getElem?_cons_zero]; rfl
      case hg => rfl
      case hv =>
        intro W hW
        go_simp
        rw [if_neg (by (try simp); omega), str_append]
        (try simp)
      case ha => go_simp; rfl
      repeat
        (first
          | (apply proc_held
             case ho => simp only [List.getElem?_toArray, List.getElem?_cons_succ, List.getElem?_cons_zero]; rfl
             case hg => rfl
             case hv => intro W hW; (try dsimp only at hW); go_simp; rfl
             case ha => go_simp; rfl)
          | (apply proc_held_on
             case ho => simp only [List.getElem?_toArray, List.getElem?_cons_succ, List.getElem?_cons_zero]; rfl
             case hg => rfl
             case hv => intro W hW; (try dsimp only at hW); go_simp; rfl
             case ha => go_simp; rfl)
          | (apply proc_off
             case ho => simp only [List.getElem?_toArray, List.getElem?_cons_succ, List.getElem?_cons_zero]; rfl
             case hg => rfl
             case ha => go_simp; rfl))
      refine proc_nil ?_
      have h1 : tx = [115, 117, 98, 109, 105, 116, 32] ++ me ++ [32] ++ ur ++ [32] ++ og ++ ta ++ [32, 49] ++ tb ++ [32] ++ d ++ tc ++ th := by
        rw [HTX.out, HT.out]
        show subX _ = _
        unfold subX
        simp only
        rw [← Hta.out, ← Htb.out, ← Htc.out, ← Hth.out, HTN.out, Lib.itoa_nonneg, ← HD.out]
        rfl
      have h2 : bx = false := by
        rw [HBX.out, HT.out]
        show subB _ = _
        unfold subB
        simp only
        rw [← Hba.out, ← Hbb.out, ← Hbc.out, ← Hbd.out]
        (try rfl)
      have H1 := Lib.hid h1; have H2 := Lib.hid h2
      clear h1 h2
      go_wp2_with fail
      go_ret2
      refine ⟨?_, HU5.out.drewN 1⟩
      rw [H1.out, H2.out]
      (try simp)
      (try rfl)
    | true =>
    cases bb with
    | false =>
      go_upto_region 10 with fail
      refine wp_region_proc [(0, 0), (1, 0), (2, 0), (3, 0), (4, 0), (5, 0), (6, 0), (7, 0), (8, 0), (9, 0), (10, 0), (11, 0), (12, 0), (13, 0), (14, 0), (15, 0), (16, 0), (17, 0), (18, 0), (19, 0), (22, 0), (24, 0), (26, 0), (20, 1), (21, 0), (23, 0), (25, 0), (27, 0), (28, 0), (29, 0), (30, 0), (31, 0), (32, 0), (33, 0), (34, 0), (35, 0), (36, 0), (37, 0)] (fun W => W.cell? ⟨w.heap.size, 0, none⟩ = some (.string ⟨me.toArray⟩) ∧ W.cell? ⟨w.heap.size, 1, none⟩ = some (.string ⟨ur.toArray⟩) ∧ W.cell? ⟨w.heap.size, 2, none⟩ = some (.string ⟨og.toArray⟩) ∧ W.cell? ⟨w.heap.size, 7, none⟩ = some (.int .u64 tn)) (by kernel_rfl) (by kernel_rfl) (fun c a w t v h => by cases t <;> exact h) ⟨g0, g1, g2, g7⟩ ?_
      repeat
        (first
          | (apply proc_held
             case ho => simp only [List.getElem?_toArray, List.getElem?_cons_succ, List.getElem?_cons_zero]; rfl
             case hg => rfl
             case hv => intro W hW; (try dsimp only at hW); go_simp; rfl
             case ha => go_simp; rfl)
          | (apply proc_held_on
             case ho => simp only [List.getElem?_toArray, List.getElem?_cons_succ, List.getElem?_cons_zero]; rfl
             case hg => rfl
             case hv => intro W hW; (try dsimp only at hW); go_simp; rfl
             case ha => go_simp; rfl)
          | (apply proc_off
             case ho => simp only [List.getElem?_toArray, List.getElem?_cons_succ, List.getElem?_cons_zero]; rfl
             case hg => rfl
             case ha => go_simp; rfl))
      apply proc_held (v := .string ⟨([115, 117, 98, 109, 105, 116, 32] ++ me).toArray⟩)
      case ho => simp only [List.getElem?_toArray, List.getElem?_cons_succ, List.getElem?_cons_zero]; rfl
      case hg => rfl
      case hv =>
        intro W hW
        go_simp
        rw [if_neg (by (try simp); omega), str_append]
        (try simp)
      case ha => go_simp; rfl
      repeat
        (first
          | (apply proc_held
             case ho => simp only [List.getElem?_toArray, List.getElem?_cons_succ, List.getElem?_cons_zero]; rfl
             case hg => rfl
             case hv => intro W hW; (try dsimp only at hW); go_simp; rfl
             case ha => go_simp; rfl)
          | (apply proc_held_on
             case ho => simp only [List.getElem?_toArray, List.getElem?_cons_succ, List.getElem?_cons_zero]; rfl
             case hg => rfl
             case hv => intro W hW; (try dsimp only at hW); go_simp; rfl
             case ha => go_simp; rfl)
          | (apply proc_off
             case ho => simp only [List.getElem?_toArray, List.getElem?_cons_succ, List.getElem?_cons_zero]; rfl
             case hg => rfl
             case ha => go_simp; rfl))
      apply proc_held (v := .string ⟨([115, 117, 98, 109, 105, 116, 32] ++ me ++ [32]).toArray⟩)
      case ho => simp only [List.getElem?_toArray, List.getElem?_cons_succ, List.getElem?_cons_zero]; rfl
      case hg => rfl
      case hv =>
        intro W hW
        go_simp
        rw [if_neg (by (try simp); omega), str_append]
        (try simp)
      case ha => go_simp; rfl
      repeat
        (first
          | (apply proc_held
             case ho => simp only [List.getElem?_toArray, List.getElem?_cons_succ, List.getElem?_cons_zero]; rfl
             case hg => rfl
             case hv => intro W hW; (try dsimp only at hW); go_simp; rfl
             case ha => go_simp; rfl)
          | (apply proc_held_on
             case ho => simp only [List.getElem?_toArray, List.getElem?_cons_succ, List.getElem?_cons_zero]; rfl
             case hg => rfl
             case hv => intro W hW; (try dsimp only at hW); go_simp; rfl
             case ha => go_simp; rfl)
          | (apply proc_off
             case ho => simp only [List.getElem?_toArray, List.getElem?_cons_succ, List.getElem?_cons_zero]; rfl
             case hg => rfl
             case ha => go_simp; rfl))
      apply proc_held (v := .string ⟨([115, 117, 98, 109, 105, 116, 32] ++ me ++ [32] ++ ur).toArray⟩)
      case ho => simp only [List.getElem?_toArray, List.getElem?_cons_succ, List.getElem?_cons_zero]; rfl
      case hg => rfl
      case hv =>
        intro W hW
        go_simp
        rw [if_neg (by (try simp); omega), str_append]
        (try simp)
      case ha => go_simp; rfl
      repeat
        (first
          | (apply proc_held
             case ho => simp only [List.getElem?_toArray, List.getElem?_cons_succ, List.getElem?_cons_zero]; rfl
             case hg => rfl
             case hv => intro W hW; (try dsimp only at hW); go_simp; rfl
             case ha => go_simp; rfl)
          | (apply proc_held_on
             case ho => simp only [List.getElem?_toArray, List.getElem?_cons_succ, List.getElem?_cons_zero]; rfl
             case hg => rfl
             case hv => intro W hW; (try dsimp only at hW); go_simp; rfl
             case ha => go_simp; rfl)
          | (apply proc_off
             case ho => simp only [List.getElem?_toArray, List.getElem?_cons_succ, List.getElem?_cons_zero]; rfl
             case hg => rfl
             case ha => go_simp; rfl))
      apply proc_held (v := .string ⟨([115, 117, 98, 109, 105, 116, 32] ++ me ++ [32] ++ ur ++ [32]).toArray⟩)
      case ho => simp only [List.getElem?_toArray, List.getElem?_cons_succ, List.getElem?_cons_zero]; rfl
      case hg => rfl
      case hv =>
        intro W hW
        go_simp
        rw [if_neg (by (try simp); omega), str_append]
        (try simp)
      case ha => go_simp; rfl
      repeat
        (first
          | (apply proc_held
             case ho => simp only [List.getElem?_toArray, List.getElem?_cons_succ, List.getElem?_cons_zero]; rfl
             case hg => rfl
             case hv => intro W hW; (try dsimp only at hW); go_simp; rfl
             case ha => go_simp; rfl)
          | (apply proc_held_on
             case ho => simp only [List.getElem?_toArray, List.getElem?_cons_succ, List.getElem?_cons_zero]; rfl
             case hg => rfl
             case hv => intro W hW; (try dsimp only at hW); go_simp; rfl
             case ha => go_simp; rfl)
          | (apply proc_off
             case ho => simp only [List.getElem?_toArray, List.getElem?_cons_succ, List.getElem?_cons_zero]; rfl
             case hg => rfl
             case ha => go_simp; rfl))
      apply proc_held (v := .string ⟨([115, 117, 98, 109, 105, 116, 32] ++ me ++ [32] ++ ur ++ [32] ++ og).toArray⟩)
      case ho => simp only [List.getElem?_toArray, List.getElem?_cons_succ, List.getElem?_cons_zero]; rfl
      case hg => rfl
      case hv =>
        intro W hW
        go_simp
        rw [if_neg (by (try simp); omega), str_append]
        (try simp)
      case ha => go_simp; rfl
      repeat
        (first
          | (apply proc_held
             case ho => simp only [List.getElem?_toArray, List.getElem?_cons_succ, List.getElem?_cons_zero]; rfl
             case hg => rfl
             case hv => intro W hW; (try dsimp only at hW); go_simp; rfl
             case ha => go_simp; rfl)
          | (apply proc_held_on
             case ho => simp only [List.getElem?_toArray, List.getElem?_cons_succ, List.getElem?_cons_zero]; rfl
             case hg => rfl
             case hv => intro W hW; (try dsimp only at hW); go_simp; rfl
             case ha => go_simp; rfl)
          | (apply proc_off
             case ho => simp only [List.getElem?_toArray, List.getElem?_cons_succ, List.getElem?_cons_zero]; rfl
             case hg => rfl
             case ha => go_simp; rfl))
      apply proc_held (v := .string ⟨([115, 117, 98, 109, 105, 116, 32] ++ me ++ [32] ++ ur ++ [32] ++ og ++ ta).toArray⟩)
      case ho => simp only [List.getElem?_toArray, List.getElem?_cons_succ, List.getElem?_cons_zero]; rfl
      case hg => rfl
      case hv =>
        intro W hW
        go_simp
        rw [if_neg (by (try simp); omega), str_append]
        (try simp)
      case ha => go_simp; rfl
      repeat
        (first
          | (apply proc_held
             case ho => simp only [List.getElem?_toArray, List.getElem?_cons_succ, List.getElem?_cons_zero]; rfl
             case hg => rfl
             case hv => intro W hW; (try dsimp only at hW); go_simp; rfl
             case ha => go_simp; rfl)
          | (apply proc_held_on
             case ho => simp only [List.getElem?_toArray, List.getElem?_cons_succ, List.getElem?_cons_zero]; rfl
             case hg => rfl
             case hv => intro W hW; (try dsimp only at hW); go_simp; rfl
             case ha => go_simp; rfl)
          | (apply proc_off
             case ho => simp only [List.getElem?_toArray, List.getElem?_cons_succ, List.getElem?_cons_zero]; rfl
             case hg => rfl
             case ha => go_simp; rfl))
      apply proc_held (v := .string ⟨([115, 117, 98, 109, 105, 116, 32] ++ me ++ [32] ++ ur ++ [32] ++ og ++ ta ++ [32, 49]).toArray⟩)
      case ho => simp only [List.getElem?_toArray, List.getElem?_cons_succ, List.getElem?_cons_zero]; rfl
      case hg => rfl
      case hv =>
        intro W hW
        go_simp
        rw [if_neg (by (try simp); omega), str_append]
        (try simp)
      case ha => go_simp; rfl
      repeat
        (first
          | (apply proc_held
             case ho => simp only [List.getElem?_toArray, List.getElem?_cons_succ, List.getElem?_cons_zero]; rfl
             case hg => rfl
             case hv => intro W hW; (try dsimp only at hW); go_simp; rfl
             case ha => go_simp; rfl)
          | (apply proc_held_on
             case ho => simp only [List.getElem?_toArray, List.getElem?_cons_succ, List.getElem?_cons_zero]; rfl
             case hg => rfl
             case hv => intro W hW; (try dsimp only at hW); go_simp; rfl
             case ha => go_simp; rfl)
          | (apply proc_off
             case ho => simp only [List.getElem?_toArray, List.getElem?_cons_succ, List.getElem?_cons_zero]; rfl
             case hg => rfl
             case ha => go_simp; rfl))
      apply proc_held (v := .string ⟨([115, 117, 98, 109, 105, 116, 32] ++ me ++ [32] ++ ur ++ [32] ++ og ++ ta ++ [32, 49] ++ tb).toArray⟩)
      case ho => simp only [List.getElem?_toArray, List.getElem?_cons_succ, List.getElem?_cons_zero]; rfl
      case hg => rfl
      case hv =>
        intro W hW
        go_simp
        rw [if_neg (by (try simp); omega), str_append]
        (try simp)
      case ha => go_simp; rfl
      repeat
        (first
          | (apply proc_held
             case ho => simp only [List.getElem?_toArray, List.getElem?_cons_succ, List.getElem?_cons_zero]; rfl
             case hg => rfl
             case hv => intro W hW; (try dsimp only at hW); go_simp; rfl
             case ha => go_simp; rfl)
          | (apply proc_held_on
             case ho => simp only [List.getElem?_toArray, List.getElem?_cons_succ, List.getElem?_cons_zero]; rfl
             case hg => rfl
             case hv => intro W hW; (try dsimp only at hW); go_simp; rfl
             case ha => go_simp; rfl)
          | (apply proc_off
             case ho => simp only [List.getElem?_toArray, List.getElem?_cons_succ, List.getElem?_cons_zero]; rfl
             case hg => rfl
             case ha => go_simp; rfl))
      apply proc_held (v := .string ⟨([115, 117, 98, 109, 105, 116, 32] ++ me ++ [32] ++ ur ++ [32] ++ og ++ ta ++ [32, 49] ++ tb ++ [32]).toArray⟩)
      case ho => simp only [List.getElem?_toArray, List.getElem?_cons_succ, List.getElem?_cons_zero]; rfl
      case hg => rfl
      case hv =>
        intro W hW
        go_simp
        rw [if_neg (by (try simp); omega), str_append]
        (try simp)
      case ha => go_simp; rfl
      repeat
        (first
          | (apply proc_held
             case ho => simp only [List.getElem?_toArray, List.getElem?_cons_succ, List.getElem?_cons_zero]; rfl
             case hg => rfl
             case hv => intro W hW; (try dsimp only at hW); go_simp; rfl
             case ha => go_simp; rfl)
          | (apply proc_held_on
             case ho => simp only [List.getElem?_toArray, List.getElem?_cons_succ, List.getElem?_cons_zero]; rfl
             case hg => rfl
             case hv => intro W hW; (try dsimp only at hW); go_simp; rfl
             case ha => go_simp; rfl)
          | (apply proc_off
             case ho => simp only [List.getElem?_toArray, List.getElem?_cons_succ, List.getElem?_cons_zero]; rfl
             case hg => rfl
             case ha => go_simp; rfl))
      apply proc_eff
      case ho => simp only [List.getElem?_toArray, List.getElem?_cons_succ, List.getElem?_cons_zero]; rfl
      simp only [World.drew_eq]
      go_wp2_with fail
      refine (ref_num tn htn _).mono ?_
      rintro e w8 ⟨rfl, hw8⟩
      rw [hw8, ← HD.out]
      clear hw8
      go_wp2_with fail
      refine ⟨_, fun _ h => h, ⟨g0, g1, g2, g7⟩, ?_⟩
      repeat
        (first
          | (apply proc_held
             case ho => simp only [List.getElem?_toArray, List.getElem?_cons_succ, List.getElem?_cons_zero]; rfl
             case hg => rfl
             case hv => intro W hW; (try dsimp only at hW); go_simp; rfl
             case ha => go_simp; rfl)
          | (apply proc_held_on
             case ho => simp only [List.getElem?_toArray, List.getElem?_cons_succ, List.getElem?_cons_zero]; rfl
             case hg => rfl
             case hv => intro W hW; (try dsimp only at hW); go_simp; rfl
             case ha => go_simp; rfl)
          | (apply proc_off
             case ho => simp only [List.getElem?_toArray, List.getElem?_cons_succ, List.getElem?_cons_zero]; rfl
             case hg => rfl
             case ha => go_simp; rfl))
      apply proc_held (v := .string ⟨([115, 117, 98, 109, 105, 116, 32] ++ me ++ [32] ++ ur ++ [32] ++ og ++ ta ++ [32, 49] ++ tb ++ [32] ++ d).toArray⟩)
      case ho => simp only [List.getElem?_toArray, List.getElem?_cons_succ, List.getElem?_cons_zero]; rfl
      case hg => rfl
      case hv =>
        intro W hW
        go_simp
        rw [if_neg (by (try simp); omega), str_append]
        (try simp)
      case ha => go_simp; rfl
      repeat
        (first
          | (apply proc_held
             case ho => simp only [List.getElem?_toArray, List.getElem?_cons_succ, List.getElem?_cons_zero]; rfl
             case hg => rfl
             case hv => intro W hW; (try dsimp only at hW); go_simp; rfl
             case ha => go_simp; rfl)
          | (apply proc_held_on
             case ho => simp only [List.getElem?_toArray, List.getElem?_cons_succ, List.getElem?_cons_zero]; rfl
             case hg => rfl
             case hv => intro W hW; (try dsimp only at hW); go_simp; rfl
             case ha => go_simp; rfl)
          | (apply proc_off
             case ho => simp only [List.getElem?_toArray, List.getElem?_cons_succ, List.getElem?_cons_zero]; rfl
             case hg => rfl
             case ha => go_simp; rfl))
      apply proc_held (v := .string ⟨([115, 117, 98, 109, 105, 116, 32] ++ me ++ [32] ++ ur ++ [32] ++ og ++ ta ++ [32, 49] ++ tb ++ [32] ++ d ++ tc).toArray⟩)
      case ho => simp only [List.getElem?_toArray, List.getElem?_cons_succ, List.getElem?_cons_zero]; rfl
      case hg => rfl
      case hv =>
        intro W hW
        go_simp
        rw [if_neg (by (try simp); omega), str_append]
        (try simp)
      case ha => go_simp; rfl
      repeat
        (first
          | (apply proc_held
             case ho => simp only [List.getElem?_toArray, List.getElem?_cons_succ, List.getElem?_cons_zero]; rfl
             case hg => rfl
             case hv => intro W hW; (try dsimp only at hW); go_simp; rfl
             case ha => go_simp; rfl)
          | (apply proc_held_on
             case ho => simp only [List.getElem?_toArray, List.getElem?_cons_succ, List.getElem?_cons_zero]; rfl
             case hg => rfl
             case hv => intro W hW; (try dsimp only at hW); go_simp; rfl
             case ha => go_simp; rfl)
          | (apply proc_off
             case ho => simp only [List.getElem?_toArray, List.getElem?_cons_succ, List.getElem?_cons_zero]; rfl
             case hg => rfl
             case ha => go_simp; rfl))
      apply proc_held (v := .string ⟨([115, 117, 98, 109, 105, 116, 32] ++ me ++ [32] ++ ur ++ [32] ++ og ++ ta ++ [32, 49] ++ tb ++ [32] ++ d ++ tc ++ th).toArray⟩)
      case ho => simp only [List.getElem?_toArray, List.getElem?_cons_succ, List.getElem?_cons_zero]; rfl
      case hg => rfl
      case hv =>
        intro W hW
        go_simp
        rw [if_neg (by (try simp); omega), str_append]
        (try simp)
      case ha => go_simp; rfl
      repeat
        (first
          | (apply proc_held
             case ho => simp only [List.getElem?_toArray, List.getElem?_cons_succ, List.getElem?_cons_zero]; rfl
             case hg => rfl
             case hv => intro W hW; (try dsimp only at hW); go_simp; rfl
             case ha => go_simp; rfl)
          | (apply proc_held_on
             case ho => simp only [List.getElem?_toArray, List.getElem?_cons_succ, List.getElem?_cons_zero]; rfl
             case hg => rfl
             case hv => intro W hW; (try dsimp only at hW); go_simp; rfl
             case ha => go_simp; rfl)
          | (apply proc_off
             case ho => simp only [List.getElem?_toArray, List.getElem?_cons_succ, List.getElem?_cons_zero]; rfl
             case hg => rfl
             case ha => go_simp; rfl))
      refine proc_nil ?_
      have h1 : tx = [115, 117, 98, 109, 105, 116, 32] ++ me ++ [32] ++ ur ++ [32] ++ og ++ ta ++ [32, 49] ++ tb ++ [32] ++ d ++ tc ++ th := by
        rw [HTX.out, HT.out]
        show subX _ = _
        unfold subX
        simp only
        rw [← Hta.out, ← Htb.out, ← Htc.out, ← Hth.out, HTN.out, Lib.itoa_nonneg, ← HD.out]
        rfl
      have h2 : bx = false := by
        rw [HBX.out, HT.out]
        show subB _ = _
        unfold subB
        simp only
        rw [← Hba.out, ← Hbb.out, ← Hbc.out, ← Hbd.out]
        (try rfl)
      have H1 := Lib.hid h1; have H2 := Lib.hid h2
      clear h1 h2
      go_wp2_with fail
      go_ret2
      refine ⟨?_, HU5.out.drewN 1⟩
      rw [H1.out, H2.out]
      (try simp)
      (try rfl)
    | true =>
    cases bc with
    | false =>
      go_upto_region 10 with fail
      refine wp_region_proc [(0, 0), (1, 0), (2, 0), (3, 0), (4, 0), (5, 0), (6, 0), (7, 0), (8, 0), (9, 0), (10, 0), (11, 0), (12, 0), (13, 0), (14, 0), (15, 0), (16, 0), (17, 0), (18, 0), (19, 0), (22, 0), (24, 0), (26, 0), (20, 1), (21, 0), (23, 0), (25, 0), (27, 0), (28, 0), (29, 0), (30, 0), (31, 0), (32, 0), (33, 0), (34, 0), (35, 0), (36, 0), (37, 0)] (fun W => W.cell? ⟨w.heap.size, 0, none⟩ = some (.string ⟨me.toArray⟩) ∧ W.cell? ⟨w.heap.size, 1, none⟩ = some (.string ⟨ur.toArray⟩) ∧ W.cell? ⟨w.heap.size, 2, none⟩ = some (.string ⟨og.toArray⟩) ∧ W.cell? ⟨w.heap.size, 7, none⟩ = some (.int .u64 tn)) (by kernel_rfl) (by kernel_rfl) (fun c a w t v h => by cases t <;> exact h) ⟨g0, g1, g2, g7⟩ ?_
      repeat
        (first
          | (apply proc_held
             case ho => simp only [List.getElem?_toArray, List.getElem?_cons_succ, List.getElem?_cons_zero]; rfl
             case hg => rfl
             case hv => intro W hW; (try dsimp only at hW); go_simp; rfl
             case ha => go_simp; rfl)
          | (apply proc_held_on
             case ho => simp only [List.getElem?_toArray, List.getElem?_cons_succ, List.getElem?_cons_zero]; rfl
             case hg => rfl
             case hv => intro W hW; (try dsimp only at hW); go_simp; rfl
             case ha => go_simp; rfl)
          | (apply proc_off
             case ho => simp only [List.getElem?_toArray, List.getElem?_cons_succ, List.getElem?_cons_zero]; rfl
             case hg => rfl
             case ha => go_simp; rfl))
      apply proc_held (v := .string ⟨([115, 117, 98, 109, 105, 116, 32] ++ me).toArray⟩)
      case ho => simp only [List.getElem?_toArray, List.getElem?_cons_succ, List.getElem?_cons_zero]; rfl
      case hg => rfl
      case hv =>
        intro W hW
        go_simp
        rw [if_neg (by (try simp); omega), str_append]
        (try simp)
      case ha => go_simp; rfl
      repeat
        (first
          | (apply proc_held
             case ho => simp only [List.getElem?_toArray, List.getElem?_cons_succ, List.getElem?_cons_zero]; rfl
             case hg => rfl
             case hv => intro W hW; (try dsimp only at hW); go_simp; rfl
             case ha => go_simp; rfl)
          | (apply proc_held_on
             case ho => simp only [List.getElem?_toArray, List.getElem?_cons_succ, List.getElem?_cons_zero]; rfl
             case hg => rfl
             case hv => intro W hW; (try dsimp only at hW); go_simp; rfl
             case ha => go_simp; rfl)
          | (apply proc_off
             case ho => simp only [List.getElem?_toArray, List.getElem?_cons_succ, List.getElem?_cons_zero]; rfl
             case hg => rfl
             case ha => go_simp; rfl))
      apply proc_held (v := .string ⟨([115, 117, 98, 109, 105, 116, 32] ++ me ++ [32]).toArray⟩)
      case ho => simp only [List.getElem?_toArray, List.getElem?_cons_succ, List.getElem?_cons_zero]; rfl
      case hg => rfl
      case hv =>
        intro W hW
        go_simp
        rw [if_neg (by (try simp); omega), str_append]
        (try simp)
      case ha => go_simp; rfl
      repeat
        (first
          | (apply proc_held
             case ho => simp only [List.getElem?_toArray, List.getElem?_cons_succ, List.getElem?_cons_zero]; rfl
             case hg => rfl
             case hv => intro W hW; (try dsimp only at hW); go_simp; rfl
             case ha => go_simp; rfl)
          | (apply proc_held_on
             case ho => simp only [List.getElem?_toArray, List.getElem?_cons_succ, List.getElem?_cons_zero]; rfl
             case hg => rfl
             case hv => intro W hW; (try dsimp only at hW); go_simp; rfl
             case ha => go_simp; rfl)
          | (apply proc_off
             case ho => simp only [List.getElem?_toArray, List.getElem?_cons_succ, List.getElem?_cons_zero]; rfl
             case hg => rfl
             case ha => go_simp; rfl))
      apply proc_held (v := .string ⟨([115, 117, 98, 109, 105, 116, 32] ++ me ++ [32] ++ ur).toArray⟩)
      case ho => simp only [List.getElem?_toArray, List.getElem?_cons_succ, List.getElem?_cons_zero]; rfl
      case hg => rfl
      case hv =>
        intro W hW
        go_simp
        rw [if_neg (by (try simp); omega), str_append]
        (try simp)
      case ha => go_simp; rfl
      repeat
        (first
          | (apply proc_held
             case ho => simp only [List.getElem?_toArray, List.getElem?_cons_succ, List.getElem?_cons_zero]; rfl
             case hg => rfl
             case hv => intro W hW; (try dsimp only at hW); go_simp; rfl
             case ha => go_simp; rfl)
          | (apply proc_held_on
             case ho => simp only [List.getElem?_toArray, List.getElem?_cons_succ, List.getElem?_cons_zero]; rfl
             case hg => rfl
             case hv => intro W hW; (try dsimp only at hW); go_simp; rfl
             case ha => go_simp; rfl)
          | (apply proc_off
             case ho => simp only [List.getElem?_toArray, List.getElem?_cons_succ, List.getElem?_cons_zero]; rfl
             case hg => rfl
             case ha => go_simp; rfl))
      apply proc_held (v := .string ⟨([115, 117, 98, 109, 105, 116, 32] ++ me ++ [32] ++ ur ++ [32]).toArray⟩)
      case ho => simp only [List.getElem?_toArray, List.getElem?_cons_succ, List.getElem?_cons_zero]; rfl
      case hg => rfl
      case hv =>
        intro W hW
        go_simp
        rw [if_neg (by (try simp); omega), str_append]
        (try simp)
      case ha => go_simp; rfl
      repeat
        (first
          | (apply proc_held
             case ho => simp only [List.getElem?_toArray, List.getElem?_cons_succ, List.getElem?_cons_zero]; rfl
             case hg => rfl
             case hv => intro W hW; (try dsimp only at hW); go_simp; rfl
             case ha => go_simp; rfl)
          | (apply proc_held_on
             case ho => simp only [List.getElem?_toArray, List.getElem?_cons_succ, List.getElem?_cons_zero]; rfl
             case hg => rfl
             case hv => intro W hW; (try dsimp only at hW); go_simp; rfl
             case ha => go_simp; rfl)
          | (apply proc_off
             case ho => simp only [List.getElem?_toArray, List.getElem?_cons_succ, List.getElem?_cons_zero]; rfl
             case hg => rfl
             case ha => go_simp; rfl))
      apply proc_held (v := .string ⟨([115, 117, 98, 109, 105, 116, 32] ++ me ++ [32] ++ ur ++ [32] ++ og).toArray⟩)
      case ho => simp only [List.getElem?_toArray, List.getElem?_cons_succ, List.getElem?_cons_zero]; rfl
      case hg => rfl
      case hv =>
        intro W hW
        go_simp
        rw [if_neg (by (try simp); omega), str_append]
        (try simp)
      case ha => go_simp; rfl
      repeat
        (first
          | (apply proc_held
             case ho => simp only [List.getElem?_toArray, List.getElem?_cons_succ, List.getElem?_cons_zero]; rfl
             case hg => rfl
             case hv => intro W hW; (try dsimp only at hW); go_simp; rfl
             case ha => go_simp; rfl)
          | (apply proc_held_on
             case ho => simp only [List.getElem?_toArray, List.getElem?_cons_succ, List.getElem?_cons_zero]; rfl
             case hg => rfl
             case hv => intro W hW; (try dsimp only at hW); go_simp; rfl
             case ha => go_simp; rfl)
          | (apply proc_off
             case ho => simp only [List.getElem?_toArray, List.getElem?_cons_succ, List.getElem?_cons_zero]; rfl
             case hg => rfl
             case ha => go_simp; rfl))
      apply proc_held (v := .string ⟨([115, 117, 98, 109, 105, 116, 32] ++ me ++ [32] ++ ur ++ [32] ++ og ++ ta).toArray⟩)
      case ho => simp only [List.getElem?_toArray, List.getElem?_cons_succ, List.getElem?_cons_zero]; rfl
      case hg => rfl
      case hv =>
        intro W hW
        go_simp
        rw [if_neg (by (try simp); omega), str_append]
        (try simp)
      case ha => go_simp; rfl
      repeat
        (first
          | (apply proc_held
             case ho => simp only [List.getElem?_toArray, List.getElem?_cons_succ, List.getElem?_cons_zero]; rfl
             case hg => rfl
             case hv => intro W hW; (try dsimp only at hW); go_simp; rfl
             case ha => go_simp; rfl)
          | (apply proc_held_on
             case ho => simp only [List.getElem?_toArray, List.getElem?_cons_succ, List.getElem?_cons_zero]; rfl
             case hg => rfl
             case hv => intro W hW; (try dsimp only at hW); go_simp; rfl
             case ha => go_simp; rfl)
          | (apply proc_off
             case ho => simp only [List.getElem?_toArray, List.getElem?_cons_succ, List.getElem?_cons_zero]; rfl
             case hg => rfl
             case ha => go_simp; rfl))
      apply proc_held (v := .string ⟨([115, 117, 98, 109, 105, 116, 32] ++ me ++ [32] ++ ur ++ [32] ++ og ++ ta ++ [32, 49]).toArray⟩)
      case ho => simp only [List.getElem?_toArray, List.getElem?_cons_succ, List.getElem?_cons_zero]; rfl
      case hg => rfl
      case hv =>
        intro W hW
        go_simp
        rw [if_neg (by (try simp); omega), str_append]
        (try simp)
      case ha => go_simp; rfl
      repeat
        (first
          | (apply proc_held
             case ho => simp only [List.getElem?_toArray, List.getElem?_cons_succ, List.getElem?_cons_zero]; rfl
             case hg => rfl
             case hv => intro W hW; (try dsimp only at hW); go_simp; rfl
             case ha => go_simp; rfl)
          | (apply proc_held_on
             case ho => simp only [List.getElem?_toArray, List.getElem?_cons_succ, List.getElem?_cons_zero]; rfl
             case hg => rfl
             case hv => intro W hW; (try dsimp only at hW); go_simp; rfl
             case ha => go_simp; rfl)
          | (apply proc_off
             case ho => simp only [List.getElem?_toArray, List.getElem?_cons_succ, List.getElem?_cons_zero]; rfl
             case hg => rfl
             case ha => go_simp; rfl))
      apply proc_held (v := .string ⟨([115, 117, 98, 109, 105, 116, 32] ++ me ++ [32] ++ ur ++ [32] ++ og ++ ta ++ [32, 49] ++ tb).toArray⟩)
      case ho => simp only [List.getElem?_toArray, List.getElem?_cons_succ, List.getElem?_cons_zero]; rfl
      case hg => rfl
      case hv =>
        intro W hW
        go_simp
        rw [if_neg (by (try simp); omega), str_append]
        (try simp)
      case ha => go_simp; rfl
      repeat
        (first
          | (apply proc_held
             case ho => simp only [List.getElem?_toArray, List.getElem?_cons_succ, List.getElem?_cons_zero]; rfl
             case hg => rfl
             case hv => intro W hW; (try dsimp only at hW); go_simp; rfl
             case ha => go_simp; rfl)
          | (apply proc_held_on
             case ho => simp only [List.getElem?_toArray, List.getElem?_cons_succ, List.getElem?_cons_zero]; rfl
             case hg => rfl
             case hv => intro W hW; (try dsimp only at hW); go_simp; rfl
             case ha => go_simp; rfl)
          | (apply proc_off
             case ho => simp only [List.getElem?_toArray, List.getElem?_cons_succ, List.getElem?_cons_zero]; rfl
             case hg => rfl
             case ha => go_simp; rfl))
      apply proc_held (v := .string ⟨([115, 117, 98, 109, 105, 116, 32] ++ me ++ [32] ++ ur ++ [32] ++ og ++ ta ++ [32, 49] ++ tb ++ [32]).toArray⟩)
      case ho => simp only [List.getElem?_toArray, List.getElem?_cons_succ, List.getElem?_cons_zero]; rfl
      case hg => rfl
      case hv =>
        intro W hW
        go_simp
        rw [if_neg (by (try simp); omega), str_append]
        (try simp)
      case ha => go_simp; rfl
      repeat
        (first
          | (apply proc_held
             case ho => simp only [List.getElem?_toArray, List.getElem?_cons_succ, List.getElem?_cons_zero]; rfl
             case hg => rfl
             case hv => intro W hW; (try dsimp only at hW); go_simp; rfl
             case ha => go_simp; rfl)
          | (apply proc_held_on
             case ho => simp only [List.getElem?_toArray, List.getElem?_cons_succ, List.getElem?_cons_zero]; rfl
             case hg => rfl
             case hv => intro W hW; (try dsimp only at hW); go_simp; rfl
             case ha => go_simp; rfl)
          | (apply proc_off
             case ho => simp only [List.getElem?_toArray, List.getElem?_cons_succ, List.getElem?_cons_zero]; rfl
             case hg => rfl
             case ha => go_simp; rfl))
      apply proc_eff
      case ho => simp only [List.getElem?_toArray, List.getElem?_cons_succ, List.getElem?_cons_zero]; rfl
      simp only [World.drew_eq]
      go_wp2_with fail
      refine (ref_num tn htn _).mono ?_
      rintro e w8 ⟨rfl, hw8⟩
      rw [hw8, ← HD.out]
      clear hw8
      go_wp2_with fail
      refine ⟨_, fun _ h => h, ⟨g0, g1, g2, g7⟩, ?_⟩
      repeat
        (first
          | (apply proc_held
             case ho => simp only [List.getElem?_toArray, List.getElem?_cons_succ, List.getElem?_cons_zero]; rfl
             case hg => rfl
             case hv => intro W hW; (try dsimp only at hW); go_simp; rfl
             case ha => go_simp; rfl)
          | (apply proc_held_on
             case ho => simp only [List.getElem?_toArray, List.getElem?_cons_succ, List.getElem?_cons_zero]; rfl
             case hg => rfl
             case hv => intro W hW; (try dsimp only at hW); go_simp; rfl
             case ha => go_simp; rfl)
          | (apply proc_off
             case ho => simp only [List.getElem?_toArray, List.getElem?_cons_succ, List.getElem?_cons_zero]; rfl
             case hg => rfl
             case ha => go_simp; rfl))
      apply proc_held (v := .string ⟨([115, 117, 98, 109, 105, 116, 32] ++ me ++ [32] ++ ur ++ [32] ++ og ++ ta ++ [32, 49] ++ tb ++ [32] ++ d).toArray⟩)
      case ho => simp only [List.getElem?_toArray, List.getElem?_cons_succ, List.getElem?_cons_zero]; rfl
      case hg => rfl
      case hv =>
        intro W hW
        go_simp
        rw [if_neg (by (try simp); omega), str_append]
        (try simp)
      case ha => go_simp; rfl
      repeat
        (first
          | (apply proc_held
             case ho => simp only [List.getElem?_toArray, List.getElem?_cons_succ, List.getElem?_cons_zero]; rfl
             case hg => rfl
             case hv => intro W hW; (try dsimp only at hW); go_simp; rfl
             case ha => go_simp; rfl)
          | (apply proc_held_on
             case ho => simp only [List.getElem?_toArray, List.getElem?_cons_succ, List.getElem?_cons_zero]; rfl
             case hg => rfl
             case hv => intro W hW; (try dsimp only at hW); go_simp; rfl
             case ha => go_simp; rfl)
          | (apply proc_off
             case ho => simp only [List.getElem?_toArray, List.getElem?_cons_succ, List.getElem?_cons_zero]; rfl
             case hg => rfl
             case ha => go_simp; rfl))
      apply proc_held (v := .string ⟨([115, 117, 98, 109, 105, 116, 32] ++ me ++ [32] ++ ur ++ [32] ++ og ++ ta ++ [32, 49] ++ tb ++ [32] ++ d ++ tc).toArray⟩)
      case ho => simp only [List.getElem?_toArray, List.getElem?_cons_succ, List.getElem?_cons_zero]; rfl
      case hg => rfl
      case hv =>
        intro W hW
        go_simp
        rw [if_neg (by (try simp); omega), str_append]
        (try simp)
      case ha => go_simp; rfl
      repeat
        (first
          | (apply proc_held
             case ho => simp only [List.getElem?_toArray, List.getElem?_cons_succ, List.getElem?_cons_zero]; rfl
             case hg => rfl
             case hv => intro W hW; (try dsimp only at hW); go_simp; rfl
             case ha => go_simp; rfl)
          | (apply proc_held_on
             case ho => simp only [List.getElem?_toArray, List.getElem?_cons_succ, List.getElem?_cons_zero]; rfl
             case hg => rfl
             case hv => intro W hW; (try dsimp only at hW); go_simp; rfl
             case ha => go_simp; rfl)
          | (apply proc_off
             case ho => simp only [List.getElem?_toArray, List.getElem?_cons_succ, List.getElem?_cons_zero]; rfl
             case hg => rfl
             case ha => go_simp; rfl))
      apply proc_held (v := .string ⟨([115, 117, 98, 109, 105, 116, 32] ++ me ++ [32] ++ ur ++ [32] ++ og ++ ta ++ [32, 49] ++ tb ++ [32] ++ d ++ tc ++ th).toArray⟩)
      case ho => simp only [List.getElem?_toArray, List.getElem?_cons_succ, List.getElem?_cons_zero]; rfl
      case hg => rfl
      case hv =>
        intro W hW
        go_simp
        rw [if_neg (by (try simp); omega), str_append]
        (try simp)
      case ha => go_simp; rfl
      repeat
        (first
          | (apply proc_held
             case ho => simp only [List.getElem?_toArray, List.getElem?_cons_succ, List.getElem?_cons_zero]; rfl
             case hg => rfl
             case hv => intro W hW; (try dsimp only at hW); go_simp; rfl
             case ha => go_simp; rfl)
          | (apply proc_held_on
             case ho => simp only [List.getElem?_toArray, List.getElem?_cons_succ, List.getElem?_cons_zero]; rfl
             case hg => rfl
             case hv => intro W hW; (try dsimp only at hW); go_simp; rfl
             case ha => go_simp; rfl)
          | (apply proc_off
             case ho => simp only [List.getElem?_toArray, List.getElem?_cons_succ, List.getElem?_cons_zero]; rfl
             case hg => rfl
             case ha => go_simp; rfl))
      refine proc_nil ?_
      have h1 : tx = [115, 117, 98, 109, 105, 116, 32] ++ me ++ [32] ++ ur ++ [32] ++ og ++ ta ++ [32, 49] ++ tb ++ [32] ++ d ++ tc ++ th := by
        rw [HTX.out, HT.out]
        show subX _ = _
        unfold subX
        simp only
        rw [← Hta.out, ← Htb.out, ← Htc.out, ← Hth.out, HTN.out, Lib.itoa_nonneg, ← HD.out]
        rfl
      have h2 : bx = false := by
        rw [HBX.out, HT.out]
        show subB _ = _
        unfold subB
        simp only
        rw [← Hba.out, ← Hbb.out, ← Hbc.out, ← Hbd.out]
        (try rfl)
      have H1 := Lib.hid h1; have H2 := Lib.hid h2
      clear h1 h2
      go_wp2_with fail
      go_ret2
      refine ⟨?_, HU5.out.drewN 1⟩
      rw [H1.out, H2.out]
      (try simp)
      (try rfl)
    | true =>
      go_upto_region 10 with fail
      refine wp_region_proc [(0, 0), (1, 0), (2, 0), (3, 0), (4, 0), (5, 0), (6, 0), (7, 0), (8, 0), (9, 0), (10, 0), (11, 0), (12, 0), (13, 0), (14, 0), (15, 0), (16, 0), (17, 0), (18, 0), (19, 0), (22, 0), (24, 0), (26, 0), (20, 1), (21, 0), (23, 0), (25, 0), (27, 0), (28, 0), (29, 0), (30, 0), (31, 0), (32, 0), (33, 0), (34, 0), (35, 0), (36, 0), (37, 0)] (fun W => W.cell? ⟨w.heap.size, 0, none⟩ = some (.string ⟨me.toArray⟩) ∧ W.cell? ⟨w.heap.size, 1, none⟩ = some (.string ⟨ur.toArray⟩) ∧ W.cell? ⟨w.heap.size, 2, none⟩ = some (.string ⟨og.toArray⟩) ∧ W.cell? ⟨w.heap.size, 7, none⟩ = some (.int .u64 tn)) (by kernel_rfl) (by kernel_rfl) (fun c a w t v h => by cases t <;> exact h) ⟨g0, g1, g2, g7⟩ ?_
      repeat
        (first
          | (apply proc_held
             case ho => simp only [List.getElem?_toArray, List.getElem?_cons_succ, List.getElem?_cons_zero]; rfl
             case hg => rfl
             case hv => intro W hW; (try dsimp only at hW); go_simp; rfl
             case ha => go_simp; rfl)
          | (apply proc_held_on
             case ho => simp only [List.getElem?_toArray, List.getElem?_cons_succ, List.getElem?_cons_zero]; rfl
             case hg => rfl
             case hv => intro W hW; (try dsimp only at hW); go_simp; rfl
             case ha => go_simp; rfl)
          | (apply proc_off
             case ho => simp only [List.getElem?_toArray, List.getElem?_cons_succ, List.getElem?_cons_zero]; rfl
             case hg => rfl
             case ha => go_simp; rfl))
      apply proc_held (v := .string ⟨([115, 117, 98, 109, 105, 116, 32] ++ me).toArray⟩)
      case ho => simp only [List.getElem?_toArray, List.getElem?_cons_succ, List.getElem?_cons_zero]; rfl
      case hg => rfl
      case hv =>
        intro W hW
        go_simp
        rw [if_neg (by (try simp); omega), str_append]
        (try simp)
      case ha => go_simp; rfl
      repeat
        (first
          | (apply proc_held
             case ho => simp only [List.getElem?_toArray, List.getElem?_cons_succ, List.getElem?_cons_zero]; rfl
             case hg => rfl
             case hv => intro W hW; (try dsimp only at hW); go_simp; rfl
             case ha => go_simp; rfl)
          | (apply proc_held_on
             case ho => simp only [List.getElem?_toArray, List.getElem?_cons_succ, List.getElem?_cons_zero]; rfl
             case hg => rfl
             case hv => intro W hW; (try dsimp only at hW); go_simp; rfl
             case ha => go_simp; rfl)
          | (apply proc_off
             case ho => simp only [List.getElem?_toArray, List.getElem?_cons_succ, List.getElem?_cons_zero]; rfl
             case hg => rfl
             case ha => go_simp; rfl))
      apply proc_held (v := .string ⟨([115, 117, 98, 109, 105, 116, 32] ++ me ++ [32]).toArray⟩)
      case ho => simp only [List.getElem?_toArray, List.getElem?_cons_succ, List.getElem?_cons_zero]; rfl
      case hg => rfl
      case hv =>
        intro W hW
        go_simp
        rw [if_neg (by (try simp); omega), str_append]
        (try simp)
      case ha => go_simp; rfl
      repeat
        (first
          | (apply proc_held
             case ho => simp only [List.getElem?_toArray, List.getElem?_cons_succ, List.getElem?_cons_zero]; rfl
             case hg => rfl
             case hv => intro W hW; (try dsimp only at hW); go_simp; rfl
             case ha => go_simp; rfl)
          | (apply proc_held_on
             case ho => simp only [List.getElem?_toArray, List.getElem?_cons_succ, List.getElem?_cons_zero]; rfl
             case hg => rfl
             case hv => intro W hW; (try dsimp only at hW); go_simp; rfl
             case ha => go_simp; rfl)
          | (apply proc_off
             case ho => simp only [List.getElem?_toArray, List.getElem?_cons_succ, List.getElem?_cons_zero]; rfl
             case hg => rfl
             case ha => go_simp; rfl))
      apply proc_held (v := .string ⟨([115, 117, 98, 109, 105, 116, 32] ++ me ++ [32] ++ ur).toArray⟩)
      case ho => simp only [List.getElem?_toArray, List.getElem?_cons_succ, List.getElem?_cons_zero]; rfl
      case hg => rfl
      case hv =>
        intro W hW
        go_simp
        rw [if_neg (by (try simp); omega), str_append]
        (try simp)
      case ha => go_simp; rfl
      repeat
        (first
          | (apply proc_held
             case ho => simp only [List.getElem?_toArray, List.getElem?_cons_succ, List.getElem?_cons_zero]; rfl
             case hg => rfl
             case hv => intro W hW; (try dsimp only at hW); go_simp; rfl
             case ha => go_simp; rfl)
          | (apply proc_held_on
             case ho => simp only [List.getElem?_toArray, List.getElem?_cons_succ, List.getElem?_cons_zero]; rfl
             case hg => rfl
             case hv => intro W hW; (try dsimp only at hW); go_simp; rfl
             case ha => go_simp; rfl)
          | (apply proc_off
             case ho => simp only [List.getElem?_toArray, List.getElem?_cons_succ, List.getElem?_cons_zero]; rfl
             case hg => rfl
             case ha => go_simp; rfl))
      apply proc_held (v := .string ⟨([115, 117, 98, 109, 105, 116, 32] ++ me ++ [32] ++ ur ++ [32]).toArray⟩)
      case ho => simp only [List.getElem?_toArray, List.getElem?_cons_succ, List.getElem?_cons_zero]; rfl
      case hg => rfl
      case hv =>
        intro W hW
        go_simp
        rw [if_neg (by (try simp); omega), str_append]
        (try simp)
      case ha => go_simp; rfl
      repeat
        (first
          | (apply proc_held
             case ho => simp only [List.getElem?_toArray, List.getElem?_cons_succ, List.getElem?_cons_zero]; rfl
             case hg => rfl
             case hv => intro W hW; (try dsimp only at hW); go_simp; rfl
             case ha => go_simp; rfl)
          | (apply proc_held_on
             case ho => simp only [List.getElem?_toArray, List.getElem?_cons_succ, List.getElem?_cons_zero]; rfl
             case hg => rfl
             case hv => intro W hW; (try dsimp only at hW); go_simp; rfl
             case ha => go_simp; rfl)
          | (apply proc_off
             case ho => simp only [List.getElem?_toArray, List.getElem?_cons_succ, List.getElem?_cons_zero]; rfl
             case hg => rfl
             case ha => go_simp; rfl))
      apply proc_held (v := .string ⟨([115, 117, 98, 109, 105, 116, 32] ++ me ++ [32] ++ ur ++ [32] ++ og).toArray⟩)
      case ho => simp only [List.getElem?_toArray, List.getElem?_cons_succ, List.getElem?_cons_zero]; rfl
      case hg => rfl
      case hv =>
        intro W hW
        go_simp
        rw [if_neg (by (try simp); omega), str_append]
        (try simp)
      case ha => go_simp; rfl
      repeat
        (first
          | (apply proc_held
             case ho => simp only [List.getElem?_toArray, List.getElem?_cons_succ, List.getElem?_cons_zero]; rfl
             case hg => rfl
             case hv => intro W hW; (try dsimp only at hW); go_simp; rfl
             case ha => go_simp; rfl)
          | (apply proc_held_on
             case ho => simp only [List.getElem?_toArray, List.getElem?_cons_succ, List.getElem?_cons_zero]; rfl
             case hg => rfl
             case hv => intro W hW; (try dsimp only at hW); go_simp; rfl
             case ha => go_simp; rfl)
          | (apply proc_off
             case ho => simp only [List.getElem?_toArray, List.getElem?_cons_succ, List.getElem?_cons_zero]; rfl
             case hg => rfl
             case ha => go_simp; rfl))
      apply proc_held (v := .string ⟨([115, 117, 98, 109, 105, 116, 32] ++ me ++ [32] ++ ur ++ [32] ++ og ++ ta).toArray⟩)
      case ho => simp only [List.getElem?_toArray, List.getElem?_cons_succ, List.getElem?_cons_zero]; rfl
      case hg => rfl
      case hv =>
        intro W hW
        go_simp
        rw [if_neg (by (try simp); omega), str_append]
        (try simp)
      case ha => go_simp; rfl
      repeat
        (first
          | (apply proc_held
             case ho => simp only [List.getElem?_toArray, List.getElem?_cons_succ, List.getElem?_cons_zero]; rfl
             case hg => rfl
             case hv => intro W hW; (try dsimp only at hW); go_simp; rfl
             case ha => go_simp; rfl)
          | (apply proc_held_on
             case ho => simp only [List.getElem?_toArray, List.getElem?_cons_succ, List.getElem?_cons_zero]; rfl
             case hg => rfl
             case hv => intro W hW; (try dsimp only at hW); go_simp; rfl
             case ha => go_simp; rfl)
          | (apply proc_off
             case ho => simp only [List.getElem?_toArray, List.getElem?_cons_succ, List.getElem?_cons_zero]; rfl
             case hg => rfl
             case ha => go_simp; rfl))
      apply proc_held (v := .string ⟨([115, 117, 98, 109, 105, 116, 32] ++ me ++ [32] ++ ur ++ [32] ++ og ++ ta ++ [32, 49]).toArray⟩)
      case ho => simp only [List.getElem?_toArray, List.getElem?_cons_succ, List.getElem?_cons_zero]; rfl
      case hg => rfl
      case hv =>
        intro W hW
        go_simp
        rw [if_neg (by (try simp); omega), str_append]
        (try simp)
      case ha => go_simp; rfl
      repeat
        (first
          | (apply proc_held
             case ho => simp only [List.getElem?_toArray, List.getElem?_cons_succ, List.getElem?_cons_zero]; rfl
             case hg => rfl
             case hv => intro W hW; (try dsimp only at hW); go_simp; rfl
             case ha => go_simp; rfl)
          | (apply proc_held_on
             case ho => simp only [List.getElem?_toArray, List.getElem?_cons_succ, List.getElem?_cons_zero]; rfl
             case hg => rfl
             case hv => intro W hW; (try dsimp only at hW); go_simp; rfl
             case ha => go_simp; rfl)
          | (apply proc_off
             case ho => simp only [List.getElem?_toArray, List.getElem?_cons_succ, List.getElem?_cons_zero]; rfl
             case hg => rfl
             case ha => go_simp; rfl))
      apply proc_held (v := .string ⟨([115, 117, 98, 109, 105, 116, 32] ++ me ++ [32] ++ ur ++ [32] ++ og ++ ta ++ [32, 49] ++ tb).toArray⟩)
      case ho => simp only [List.getElem?_toArray, List.getElem?_cons_succ, List.getElem?_cons_zero]; rfl
      case hg => rfl
      case hv =>
        intro W hW
        go_simp
        rw [if_neg (by (try simp); omega), str_append]
        (try simp)
      case ha => go_simp; rfl
      repeat
        (first
          | (apply proc_held
             case ho => simp only [List.getElem?_toArray, List.getElem?_cons_succ, List.getElem?_cons_zero]; rfl
             case hg => rfl
             case hv => intro W hW; (try dsimp only at hW); go_simp; rfl
             case ha => go_simp; rfl)
          | (apply proc_held_on
             case ho => simp only [List.getElem?_toArray, List.getElem?_cons_succ, List.getElem?_cons_zero]; rfl
             case hg => rfl
             case hv => intro W hW; (try dsimp only at hW); go_simp; rfl
             case ha => go_simp; rfl)
          | (apply proc_off
             case ho => simp only [List.getElem?_toArray, List.getElem?_cons_succ, List.getElem?_cons_zero]; rfl
             case hg => rfl
             case ha => go_simp; rfl))
      apply proc_held (v := .string ⟨([115, 117, 98, 109, 105, 116, 32] ++ me ++ [32] ++ ur ++ [32] ++ og ++ ta ++ [32, 49] ++ tb ++ [32]).toArray⟩)
      case ho => simp only [List.getElem?_toArray, List.getElem?_cons_succ, List.getElem?_cons_zero]; rfl
      case hg => rfl
      case hv =>
        intro W hW
        go_simp
        rw [if_neg (by (try simp); omega), str_append]
        (try simp)
      case ha => go_simp; rfl
      repeat
        (first
          | (apply proc_held
             case ho => simp only [List.getElem?_toArray, List.getElem?_cons_succ, List.getElem?_cons_zero]; rfl
             case hg => rfl
             case hv => intro W hW; (try dsimp only at hW); go_simp; rfl
             case ha => go_simp; rfl)
          | (apply proc_held_on
             case ho => simp only [List.getElem?_toArray, List.getElem?_cons_succ, List.getElem?_cons_zero]; rfl
             case hg => rfl
             case hv => intro W hW; (try dsimp only at hW); go_simp; rfl
             case ha => go_simp; rfl)
          | (apply proc_off
             case ho => simp only [List.getElem?_toArray, List.getElem?_cons_succ, List.getElem?_cons_zero]; rfl
             case hg => rfl
             case ha => go_simp; rfl))
      apply proc_eff
      case ho => simp only [List.getElem?_toArray, List.getElem?_cons_succ, List.getElem?_cons_zero]; rfl
      simp only [World.drew_eq]
      go_wp2_with fail
      refine (ref_num tn htn _).mono ?_
      rintro e w8 ⟨rfl, hw8⟩
      rw [hw8, ← HD.out]
      clear hw8
      go_wp2_with fail
      refine ⟨_, fun _ h => h, ⟨g0, g1, g2, g7⟩, ?_⟩
      repeat
        (first
          | (apply proc_held
             case ho => simp only [List.getElem?_toArray, List.getElem?_cons_succ, List.getElem?_cons_zero]; rfl
             case hg => rfl
             case hv => intro W hW; (try dsimp only at hW); go_simp; rfl
             case ha => go_simp; rfl)
          | (apply proc_held_on
             case ho => simp only [List.getElem?_toArray, List.getElem?_cons_succ, List.getElem?_cons_zero]; rfl
             case hg => rfl
             case hv => intro W hW; (try dsimp only at hW); go_simp; rfl
             case ha => go_simp; rfl)
          | (apply proc_off
             case ho => simp only [List.getElem?_toArray, List.getElem?_cons_succ, List.getElem?_cons_zero]; rfl
             case hg => rfl
             case ha => go_simp; rfl))
      apply proc_held (v := .string ⟨([115, 117, 98, 109, 105, 116, 32] ++ me ++ [32] ++ ur ++ [32] ++ og ++ ta ++ [32, 49] ++ tb ++ [32] ++ d).toArray⟩)
      case ho => simp only [List.getElem?_toArray, List.getElem?_cons_succ, List.getElem?_cons_zero]; rfl
      case hg => rfl
      case hv =>
        intro W hW
        go_simp
        rw [if_neg (by (try simp); omega), str_append]
        (try simp)
      case ha => go_simp; rfl
      repeat
        (first
          | (apply proc_held
             case ho => simp only [List.getElem?_toArray, List.getElem?_cons_succ, List.getElem?_cons_zero]; rfl
             case hg => rfl
             case hv => intro W hW; (try dsimp only at hW); go_simp; rfl
             case ha => go_simp; rfl)
          | (apply proc_held_on
             case ho => simp only [List.getElem?_toArray, List.getElem?_cons_succ, List.getElem?_cons_zero]; rfl
             case hg => rfl
             case hv => intro W hW; (try dsimp only at hW); go_simp; rfl
             case ha => go_simp; rfl)
          | (apply proc_off
             case ho => simp only [List.getElem?_toArray, List.getElem?_cons_succ, List.getElem?_cons_zero]; rfl
             case hg => rfl
             case ha => go_simp; rfl))
      apply proc_held (v := .string ⟨([115, 117, 98, 109, 105, 116, 32] ++ me ++ [32] ++ ur ++ [32] ++ og ++ ta ++ [32, 49] ++ tb ++ [32] ++ d ++ tc).toArray⟩)
      case ho => simp only [List.getElem?_toArray, List.getElem?_cons_succ, List.getElem?_cons_zero]; rfl
      case hg => rfl
      case hv =>
        intro W hW
        go_simp
        rw [if_neg (by (try simp); omega), str_append]
        (try simp)
      case ha => go_simp; rfl
      repeat
        (first
          | (apply proc_held
             case ho => simp only [List.getElem?_toArray, List.getElem?_cons_succ, List.getElem?_cons_zero]; rfl
             case hg => rfl
             case hv => intro W hW; (try dsimp only at hW); go_simp; rfl
             case ha => go_simp; rfl)
          | (apply proc_held_on
             case ho => simp only [List.getElem?_toArray, List.getElem?_cons_succ, List.getElem?_cons_zero]; rfl
             case hg => rfl
             case hv => intro W hW; (try dsimp only at hW); go_simp; rfl
             case ha => go_simp; rfl)
          | (apply proc_off
             case ho => simp only [List.getElem?_toArray, List.getElem?_cons_succ, List.getElem?_cons_zero]; rfl
             case hg => rfl
             case ha => go_simp; rfl))
      apply proc_held (v := .string ⟨([115, 117, 98, 109, 105, 116, 32] ++ me ++ [32] ++ ur ++ [32] ++ og ++ ta ++ [32, 49] ++ tb ++ [32] ++ d ++ tc ++ th).toArray⟩)
      case ho => simp only [List.getElem?_toArray, List.getElem?_cons_succ, List.getElem?_cons_zero]; rfl
      case hg => rfl
      case hv =>
        intro W hW
        go_simp
        rw [if_neg (by (try simp); omega), str_append]
        (try simp)
      case ha => go_simp; rfl
      repeat
        (first
          | (apply proc_held
             case ho => simp only [List.getElem?_toArray, List.getElem?_cons_succ, List.getElem?_cons_zero]; rfl
             case hg => rfl
             case hv => intro W hW; (try dsimp only at hW); go_simp; rfl
             case ha => go_simp; rfl)
          | (apply proc_held_on
             case ho => simp only [List.getElem?_toArray, List.getElem?_cons_succ, List.getElem?_cons_zero]; rfl
             case hg => rfl
             case hv => intro W hW; (try dsimp only at hW); go_simp; rfl
             case ha => go_simp; rfl)
          | (apply proc_off
             case ho => simp only [List.getElem?_toArray, List.getElem?_cons_succ, List.getElem?_cons_zero]; rfl
             case hg => rfl
             case ha => go_simp; rfl))
      refine proc_nil ?_
      have h1 : tx = [115, 117, 98, 109, 105, 116, 32] ++ me ++ [32] ++ ur ++ [32] ++ og ++ ta ++ [32, 49] ++ tb ++ [32] ++ d ++ tc ++ th := by
        rw [HTX.out, HT.out]
        show subX _ = _
        unfold subX
        simp only
        rw [← Hta.out, ← Htb.out, ← Htc.out, ← Hth.out, HTN.out, Lib.itoa_nonneg, ← HD.out]
        rfl
      have h2 : bx = bd := by
        rw [HBX.out, HT.out]
        show subB _ = _
        unfold subB
        simp only
        rw [← Hba.out, ← Hbb.out, ← Hbc.out, ← Hbd.out]
        (try rfl)
      have H1 := Lib.hid h1; have H2 := Lib.hid h2
      clear h1 h2
      go_wp2_with fail
      go_ret2
      refine ⟨?_, HU5.out.drewN 1⟩
      rw [H1.out, H2.out]
      (try simp)
      (try rfl)
end Go.Proofs.YtajoldboafkpdaaDoor
