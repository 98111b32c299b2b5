-- lockkeeperref27.Show: contract.
import Derived.Test.YtajoldboafkpdaaDoorRefSub
import Derived.Test.YtajoldboafkpdaaDoorRefWord
import Derived.Deep.CutBlock
namespace Go.Proofs.YtajoldboafkpdaaDoor
set_option linter.unusedSimpArgs false
set_option linter.unusedVariables false
open Go.RowKit Go.Lk
theorem spW_join (x : Bs) (ws : List Bs) : Lib.join (x :: ws) [32] = x ++ spW ws := by
  rw [Lib.join_cons]
  rfl
/-- The five variables of ref.Show behind its switch. -/
structure RefS (a : ActL) (s4 s6 s7 : Bs) (b5 b8 : Bool) : Prop where
  ok : (b5 && b8) = (actW a).2
  str : (actW a).2 = true → s4 ++ s6 ++ s7 = opS a.op ++ spW (actW a).1
  l4 : s4.length ≤ 100000000000000
  l6 : s6.length ≤ 100000000000000
  l7 : s7.length ≤ 100000000000000
theorem spW_le_any {l : List Int} (h : ∀ x ∈ l, i64R x) (hl : l.length ≤ 1000000) : (spW (intsW l).1).length ≤ 5000000000000 := by
  have h1 := spW_le (ws := (intsW l).1) (M := 4000000) (intsW_len h)
  have h2 : (intsW l).1.length ≤ 1000000 := by simpa [intsW] using hl
  have h3 := Nat.mul_le_mul_right (4000000 + 1) h2
  omega
theorem subX_le {r : ReqL} (h : ReqLim r) : (subX r).length ≤ 100000000000000 := by
  have h1 := okS_le (b := (intsW [r.mode]).2) (spW_le_any (l := [r.mode]) (by intro x hx; simp at hx; subst hx; exact h.mo) (by simp))
  have h2 := okS_le (b := (intsW [r.cls]).2) (spW_le_any (l := [r.cls]) (by intro x hx; simp at hx; subst hx; exact h.cl) (by simp))
  have h3 := okS_le (b := (intsW [r.group, r.signal]).2) (spW_le_any (l := [r.group, r.signal]) (by intro x hx; simp at hx; rcases hx with rfl | rfl; exact h.gr; exact h.si) (by simp))
  have h4 := okS_le (b := (hdrsW r.headers).2) (spW_le_hdrs h.hd)
  have h5 := itoa_u64_le h.ti
  have h6 : (credW r.creds).length ≤ 2 := by cases r.creds <;> simp [credW]
  have h7 := h.me; have h8 := h.ur; have h9 := h.og
  unfold subX
  simp only [List.length_append, List.length_cons, List.length_nil]
  omega
set_option maxRecDepth 100000 in
set_option maxHeartbeats 6400000 in
theorem ref_show {w : World} {a : ActL} {p : ActP} (hA : ActAt w a p) (hL : ActLim a) :
    Calls Tryd.prog 16 #[actV a p] w fun e w' => e = .returned (.tuple #[.string ⟨((showS a).getD []).toArray⟩, .int .i64 (if (showS a).isSome then 0 else 2)]) ∧ Upd [] w w' := by
  obtain ⟨sh, hsh⟩ : ∃ sh, sh = showS a := ⟨_, rfl⟩
  have HSH := Lib.hid hsh
  rw [← hsh]
  clear hsh
  obtain ⟨tx, htx⟩ : ∃ tx, tx = sh.getD [] := ⟨_, rfl⟩
  obtain ⟨en, hen⟩ : ∃ en : Int, en = if sh.isSome then 0 else 2 := ⟨_, rfl⟩
  have HTX := Lib.hid htx; have HEN := Lib.hid hen
  rw [← htx, ← hen]
  clear htx hen
  obtain ⟨w1, hw1⟩ : ∃ w1, w1 = w.alloc (.cells (actCells a p).toArray 29) := ⟨_, rfl⟩
  have hbx : w1.heap[w.heap.size]? = some (.cells (actCells a p).toArray 29) := by rw [hw1]; exact heap_alloc_self _
  have hu : Upd [] w w1 := by rw [hw1]; exact (Upd.refl [] w).alloc _
  have HB1 := Lib.hid hbx; have HW1 := Lib.hid hw1; have HU1 := Lib.hid hu; have HL := Lib.hid hL
  have HA1 := Lib.hid (hA.upd hu (by simp))
  clear hbx hw1 hu hA hL
  have f0 : w1.cell? ⟨w.heap.size, 0, none⟩ = some (.int .i64 a.op) := cell_of (i := 0) HB1.out rfl
  have f0' := f0
  rw [HW1.out] at f0'
  unfold actV
  go_enter Tryd.func16, Tryd.ntmps16
  go_wp2_with fail
  rw [← HW1.out]
  clear f0'
  refine (ref_word a.op _).mono ?_
  rintro e wt ⟨rfl, hwt⟩
  rw [hwt]
  clear hwt wt
  go_upto_block 0 with fail
  go_cut [4, 5, 6, 7, 8] from 14 to 93 (fun v4 v5 v6 v7 v8 wz => ∃ (s4 s6 s7 : Bs) (b5 b8 : Bool), v4 = .string ⟨s4.toArray⟩ ∧ v5 = .bool b5 ∧ v6 = .string ⟨s6.toArray⟩ ∧ v7 = .string ⟨s7.toArray⟩ ∧ v8 = .bool b8 ∧ RefS a s4 s6 s7 b5 b8 ∧ Upd [] w wz)
  case first =>
    by_cases h1 : a.op = 1
    · have HWA : Hid (actW a = ([], true)) := Lib.hid (by simp [actW, h1])
      have b1 : (a.op == 1) = true := by rw [h1]; rfl
      clear h1
      have hopl := opS_le a.op
      go_wp2_with fail
      go_meet
      case rel =>
        refine ⟨opS a.op, [], [], true, true, rfl, rfl, rfl, rfl, rfl, ⟨by rw [HWA.out]; (try simp), fun hh => ?_, by omega, by simp, by simp⟩, HU1.out⟩
        rw [HWA.out] at hh ⊢
        simp [spW]
    by_cases h9 : a.op = 9
    · have HWA : Hid (actW a = ([], true)) := Lib.hid (by simp [actW, h9])
      have b1 : (a.op == 1) = false := by rw [h9]; rfl
      have b9 : (a.op == 9) = true := by rw [h9]; rfl
      clear h9
      have hopl := opS_le a.op
      go_wp2_with fail
      go_meet
      case rel =>
        refine ⟨opS a.op, [], [], true, true, rfl, rfl, rfl, rfl, rfl, ⟨by rw [HWA.out]; (try simp), fun hh => ?_, by omega, by simp, by simp⟩, HU1.out⟩
        rw [HWA.out] at hh ⊢
        simp [spW]
    by_cases h2 : a.op = 2
    · have HWA : Hid (actW a = intsW a.ids) := Lib.hid (by simp [actW, h2])
      have b1 : (a.op == 1) = false := by rw [h2]; rfl
      have b9 : (a.op == 9) = false := by rw [h2]; rfl
      have b2 : (a.op == 2) = true := by rw [h2]; rfl
      clear h2
      have hopl := opS_le a.op
      have f3 : w1.cell? ⟨w.heap.size, 3, none⟩ = some (.slice p.ai a.ids.length p.ci) := cell_of (i := 3) HB1.out rfl
      go_wp2_with fail
      have q := ref_nums (c := p.ci) HA1.out.ids HL.out.ids.1 HL.out.ids.2
      refine q.mono ?_
      clear q
      rintro e wt ⟨rfl, hwt⟩
      rw [hwt]
      clear hwt wt
      obtain ⟨t6, ht6⟩ : ∃ t6, t6 = okS (intsW a.ids).2 (spW (intsW a.ids).1) := ⟨_, rfl⟩
      obtain ⟨b5, hb5⟩ : ∃ b5, b5 = (intsW a.ids).2 := ⟨_, rfl⟩
      have hlt6 : t6.length ≤ 5000000000000 := by rw [ht6]; exact okS_le (spW_le_any HL.out.ids.2 HL.out.ids.1)
      rw [← ht6, ← hb5]
      have Ht6 := Lib.hid ht6; have Hb5 := Lib.hid hb5
      clear ht6 hb5
      go_wp2_with fail
      go_meet
      case rel =>
        refine ⟨opS a.op, t6, [], b5, true, rfl, rfl, rfl, rfl, rfl, ⟨by rw [HWA.out, Hb5.out]; simp, fun hh => ?_, by omega, by omega, by simp⟩, HU1.out⟩
        rw [HWA.out] at hh ⊢
        rw [Ht6.out, hh]; simp [okS]
    by_cases h3 : a.op = 3
    · have HWA : Hid (actW a = reqW a.req) := Lib.hid (by simp [actW, h3])
      have b1 : (a.op == 1) = false := by rw [h3]; rfl
      have b9 : (a.op == 9) = false := by rw [h3]; rfl
      have b2 : (a.op == 2) = false := by rw [h3]; rfl
      have b3 : (a.op == 3) = true := by rw [h3]; rfl
      have HOP : Hid (opS a.op = opS 3) := Lib.hid (by rw [h3])
      clear h3
      have hLd : LiesAt w1 w.heap.size 8 [.string ⟨a.req.method.toArray⟩, .string ⟨a.req.url.toArray⟩, .string ⟨a.req.origin.toArray⟩, .int .i64 a.req.mode, .bool a.req.creds, .slice p.ar a.req.headers.length p.cr, .int .i64 a.req.cls, .int .u64 a.req.timeout, .int .i64 a.req.group, .int .i64 a.req.signal] := fun j v hj => cell_of (i := 8 + j) HB1.out (by
        rw [List.getElem?_toArray]
        have h8 : (List.drop 8 (actCells a p))[j]? = some v := hj
        rw [List.getElem?_drop] at h8
        exact h8)
      have hag : aggOf Tryd.prog 27 10 = true := by kernel_rfl
      go_upto_region 11 with fail
      go_wp2_with (refine wpList_load_lies _ rfl 27 (.tmp 28) rfl w.heap.size 8 [.string ⟨a.req.method.toArray⟩, .string ⟨a.req.url.toArray⟩, .string ⟨a.req.origin.toArray⟩, .int .i64 a.req.mode, .bool a.req.creds, .slice p.ar a.req.headers.length p.cr, .int .i64 a.req.cls, .int .u64 a.req.timeout, .int .i64 a.req.group, .int .i64 a.req.signal] rfl hag hLd ?_)
      have q := ref_submit (c := p.cr) a.req HL.out.rq HA1.out.rhd
      unfold reqV at q
      refine q.mono ?_
      clear q
      rintro e w3 ⟨rfl, hu3⟩
      have HU3 := Lib.hid (HU1.out.trans hu3 (by simp)); clear hu3
      have hxl := okS_le (b := subT a.req) (subX_le HL.out.rq)
      obtain ⟨X, hX⟩ : ∃ X, X = okS (subT a.req) (subX a.req) := ⟨_, rfl⟩
      obtain ⟨b5, hb5⟩ : ∃ b5, b5 = (subT a.req && subB a.req) := ⟨_, rfl⟩
      rw [← hX] at hxl
      rw [← hX, ← hb5]
      have HX := Lib.hid hX; have HB5 := Lib.hid hb5
      clear hX hb5
      go_wp2_with fail
      go_meet
      case rel =>
        refine ⟨X, [], [], b5, true, rfl, rfl, rfl, rfl, rfl, ⟨by rw [HWA.out, sub_ok, HB5.out]; simp, fun hh => ?_, hxl, by simp, by simp⟩, HU3.out⟩
        rw [HWA.out] at hh ⊢
        rw [sub_ok, Bool.and_eq_true] at hh
        rw [HX.out, HOP.out, hh.1, ← sub_str _ hh.2]
        simp [okS]
    by_cases h4 : a.op = 4
    · have HWA : Hid (actW a = intsW [a.id]) := Lib.hid (by simp [actW, h4])
      have b1 : (a.op == 1) = false := by rw [h4]; rfl
      have b9 : (a.op == 9) = false := by rw [h4]; rfl
      have b2 : (a.op == 2) = false := by rw [h4]; rfl
      have b3 : (a.op == 3) = false := by rw [h4]; rfl
      have b4 : (a.op == 4) = true := by rw [h4]; rfl
      clear h4
      have hopl := opS_le a.op
      have f1 : w1.cell? ⟨w.heap.size, 1, none⟩ = some (.int .i64 a.id) := cell_of (i := 1) HB1.out rfl
      go_wp2_with fail
      have u2 : Upd [] w1 (w1.alloc (.cells #[.int .i64 a.id] 3)) := (Upd.refl [] w1).alloc _
      have q := ref_nums (c := 1) (intsAt_new w1 3 [a.id]) (by simp) (by have := HL.out.id; have := HL.out.st; have := HL.out.n; unfold i64R at *; intro x hx; simp at hx; omega)
      obtain ⟨w2, hw2⟩ : ∃ w2, w2 = w1.alloc (.cells #[.int .i64 a.id] 3) := ⟨_, rfl⟩
      have q' : Calls Tryd.prog 46 #[.slice (some ⟨w1.heap.size, 0, none⟩) 1 1] w2 _ := hw2 ▸ q
      rw [← hw2] at u2 ⊢
      have HB2 := Lib.hid ((u2.block w.heap.size (Array.getElem?_eq_some_iff.1 HB1.out).1 (by simp)).trans HB1.out)
      have HU2 := Lib.hid (HU1.out.trans u2 (by simp))
      have HA2 := Lib.hid (HA1.out.upd u2 (by simp))
      clear q u2 hw2
      refine q'.mono ?_
      clear q'
      rintro e wt ⟨rfl, hwt⟩
      rw [hwt]
      clear hwt wt
      obtain ⟨t6, ht6⟩ : ∃ t6, t6 = okS (intsW [a.id]).2 (spW (intsW [a.id]).1) := ⟨_, rfl⟩
      obtain ⟨b5, hb5⟩ : ∃ b5, b5 = (intsW [a.id]).2 := ⟨_, rfl⟩
      have hlt6 : t6.length ≤ 5000000000000 := by rw [ht6]; exact okS_le (spW_le_any (by have := HL.out.id; have := HL.out.st; have := HL.out.n; unfold i64R at *; intro x hx; simp at hx; omega) (by simp))
      rw [← ht6, ← hb5]
      have Ht6 := Lib.hid ht6; have Hb5 := Lib.hid hb5
      clear ht6 hb5
      go_wp2_with fail
      go_meet
      case rel =>
        refine ⟨opS a.op, t6, [], b5, true, rfl, rfl, rfl, rfl, rfl, ⟨by rw [HWA.out, Hb5.out]; simp, fun hh => ?_, by omega, by omega, by simp⟩, HU2.out⟩
        rw [HWA.out] at hh ⊢
        rw [Ht6.out, hh]; simp [okS]
    by_cases h5 : a.op = 5
    · have HWA : Hid (actW a = intsW [a.id]) := Lib.hid (by simp [actW, h5])
      have b1 : (a.op == 1) = false := by rw [h5]; rfl
      have b9 : (a.op == 9) = false := by rw [h5]; rfl
      have b2 : (a.op == 2) = false := by rw [h5]; rfl
      have b3 : (a.op == 3) = false := by rw [h5]; rfl
      have b4 : (a.op == 4) = false := by rw [h5]; rfl
      have b5 : (a.op == 5) = true := by rw [h5]; rfl
      clear h5
      have hopl := opS_le a.op
      have f1 : w1.cell? ⟨w.heap.size, 1, none⟩ = some (.int .i64 a.id) := cell_of (i := 1) HB1.out rfl
      go_wp2_with fail
      have u2 : Upd [] w1 (w1.alloc (.cells #[.int .i64 a.id] 3)) := (Upd.refl [] w1).alloc _
      have q := ref_nums (c := 1) (intsAt_new w1 3 [a.id]) (by simp) (by have := HL.out.id; have := HL.out.st; have := HL.out.n; unfold i64R at *; intro x hx; simp at hx; omega)
      obtain ⟨w2, hw2⟩ : ∃ w2, w2 = w1.alloc (.cells #[.int .i64 a.id] 3) := ⟨_, rfl⟩
      have q' : Calls Tryd.prog 46 #[.slice (some ⟨w1.heap.size, 0, none⟩) 1 1] w2 _ := hw2 ▸ q
      rw [← hw2] at u2 ⊢
      have HB2 := Lib.hid ((u2.block w.heap.size (Array.getElem?_eq_some_iff.1 HB1.out).1 (by simp)).trans HB1.out)
      have HU2 := Lib.hid (HU1.out.trans u2 (by simp))
      have HA2 := Lib.hid (HA1.out.upd u2 (by simp))
      clear q u2 hw2
      refine q'.mono ?_
      clear q'
      rintro e wt ⟨rfl, hwt⟩
      rw [hwt]
      clear hwt wt
      obtain ⟨t6, ht6⟩ : ∃ t6, t6 = okS (intsW [a.id]).2 (spW (intsW [a.id]).1) := ⟨_, rfl⟩
      obtain ⟨b5, hb5⟩ : ∃ b5, b5 = (intsW [a.id]).2 := ⟨_, rfl⟩
      have hlt6 : t6.length ≤ 5000000000000 := by rw [ht6]; exact okS_le (spW_le_any (by have := HL.out.id; have := HL.out.st; have := HL.out.n; unfold i64R at *; intro x hx; simp at hx; omega) (by simp))
      rw [← ht6, ← hb5]
      have Ht6 := Lib.hid ht6; have Hb5 := Lib.hid hb5
      clear ht6 hb5
      go_wp2_with fail
      go_meet
      case rel =>
        refine ⟨opS a.op, t6, [], b5, true, rfl, rfl, rfl, rfl, rfl, ⟨by rw [HWA.out, Hb5.out]; simp, fun hh => ?_, by omega, by omega, by simp⟩, HU2.out⟩
        rw [HWA.out] at hh ⊢
        rw [Ht6.out, hh]; simp [okS]
    by_cases h6 : a.op = 6
    · have HWA : Hid (actW a = intsW [a.id]) := Lib.hid (by simp [actW, h6])
      have b1 : (a.op == 1) = false := by rw [h6]; rfl
      have b9 : (a.op == 9) = false := by rw [h6]; rfl
      have b2 : (a.op == 2) = false := by rw [h6]; rfl
      have b3 : (a.op == 3) = false := by rw [h6]; rfl
      have b4 : (a.op == 4) = false := by rw [h6]; rfl
      have b5 : (a.op == 5) = false := by rw [h6]; rfl
      have b6 : (a.op == 6) = true := by rw [h6]; rfl
      clear h6
      have hopl := opS_le a.op
      have f1 : w1.cell? ⟨w.heap.size, 1, none⟩ = some (.int .i64 a.id) := cell_of (i := 1) HB1.out rfl
      go_wp2_with fail
      have u2 : Upd [] w1 (w1.alloc (.cells #[.int .i64 a.id] 3)) := (Upd.refl [] w1).alloc _
      have q := ref_nums (c := 1) (intsAt_new w1 3 [a.id]) (by simp) (by have := HL.out.id; have := HL.out.st; have := HL.out.n; unfold i64R at *; intro x hx; simp at hx; omega)
      obtain ⟨w2, hw2⟩ : ∃ w2, w2 = w1.alloc (.cells #[.int .i64 a.id] 3) := ⟨_, rfl⟩
      have q' : Calls Tryd.prog 46 #[.slice (some ⟨w1.heap.size, 0, none⟩) 1 1] w2 _ := hw2 ▸ q
      rw [← hw2] at u2 ⊢
      have HB2 := Lib.hid ((u2.block w.heap.size (Array.getElem?_eq_some_iff.1 HB1.out).1 (by simp)).trans HB1.out)
      have HU2 := Lib.hid (HU1.out.trans u2 (by simp))
      have HA2 := Lib.hid (HA1.out.upd u2 (by simp))
      clear q u2 hw2
      refine q'.mono ?_
      clear q'
      rintro e wt ⟨rfl, hwt⟩
      rw [hwt]
      clear hwt wt
      obtain ⟨t6, ht6⟩ : ∃ t6, t6 = okS (intsW [a.id]).2 (spW (intsW [a.id]).1) := ⟨_, rfl⟩
      obtain ⟨b5, hb5⟩ : ∃ b5, b5 = (intsW [a.id]).2 := ⟨_, rfl⟩
      have hlt6 : t6.length ≤ 5000000000000 := by rw [ht6]; exact okS_le (spW_le_any (by have := HL.out.id; have := HL.out.st; have := HL.out.n; unfold i64R at *; intro x hx; simp at hx; omega) (by simp))
      rw [← ht6, ← hb5]
      have Ht6 := Lib.hid ht6; have Hb5 := Lib.hid hb5
      clear ht6 hb5
      go_wp2_with fail
      go_meet
      case rel =>
        refine ⟨opS a.op, t6, [], b5, true, rfl, rfl, rfl, rfl, rfl, ⟨by rw [HWA.out, Hb5.out]; simp, fun hh => ?_, by omega, by omega, by simp⟩, HU2.out⟩
        rw [HWA.out] at hh ⊢
        rw [Ht6.out, hh]; simp [okS]
    by_cases h7 : a.op = 7
    · have HWA : Hid (actW a = intsW [a.id]) := Lib.hid (by simp [actW, h7])
      have b1 : (a.op == 1) = false := by rw [h7]; rfl
      have b9 : (a.op == 9) = false := by rw [h7]; rfl
      have b2 : (a.op == 2) = false := by rw [h7]; rfl
      have b3 : (a.op == 3) = false := by rw [h7]; rfl
      have b4 : (a.op == 4) = false := by rw [h7]; rfl
      have b5 : (a.op == 5) = false := by rw [h7]; rfl
      have b6 : (a.op == 6) = false := by rw [h7]; rfl
      have b7 : (a.op == 7) = true := by rw [h7]; rfl
      clear h7
      have hopl := opS_le a.op
      have f1 : w1.cell? ⟨w.heap.size, 1, none⟩ = some (.int .i64 a.id) := cell_of (i := 1) HB1.out rfl
      go_wp2_with fail
      have u2 : Upd [] w1 (w1.alloc (.cells #[.int .i64 a.id] 3)) := (Upd.refl [] w1).alloc _
      have q := ref_nums (c := 1) (intsAt_new w1 3 [a.id]) (by simp) (by have := HL.out.id; have := HL.out.st; have := HL.out.n; unfold i64R at *; intro x hx; simp at hx; omega)
      obtain ⟨w2, hw2⟩ : ∃ w2, w2 = w1.alloc (.cells #[.int .i64 a.id] 3) := ⟨_, rfl⟩
      have q' : Calls Tryd.prog 46 #[.slice (some ⟨w1.heap.size, 0, none⟩) 1 1] w2 _ := hw2 ▸ q
      rw [← hw2] at u2 ⊢
      have HB2 := Lib.hid ((u2.block w.heap.size (Array.getElem?_eq_some_iff.1 HB1.out).1 (by simp)).trans HB1.out)
      have HU2 := Lib.hid (HU1.out.trans u2 (by simp))
      have HA2 := Lib.hid (HA1.out.upd u2 (by simp))
      clear q u2 hw2
      refine q'.mono ?_
      clear q'
      rintro e wt ⟨rfl, hwt⟩
      rw [hwt]
      clear hwt wt
      obtain ⟨t6, ht6⟩ : ∃ t6, t6 = okS (intsW [a.id]).2 (spW (intsW [a.id]).1) := ⟨_, rfl⟩
      obtain ⟨b5, hb5⟩ : ∃ b5, b5 = (intsW [a.id]).2 := ⟨_, rfl⟩
      have hlt6 : t6.length ≤ 5000000000000 := by rw [ht6]; exact okS_le (spW_le_any (by have := HL.out.id; have := HL.out.st; have := HL.out.n; unfold i64R at *; intro x hx; simp at hx; omega) (by simp))
      rw [← ht6, ← hb5]
      have Ht6 := Lib.hid ht6; have Hb5 := Lib.hid hb5
      clear ht6 hb5
      go_wp2_with fail
      go_meet
      case rel =>
        refine ⟨opS a.op, t6, [], b5, true, rfl, rfl, rfl, rfl, rfl, ⟨by rw [HWA.out, Hb5.out]; simp, fun hh => ?_, by omega, by omega, by simp⟩, HU2.out⟩
        rw [HWA.out] at hh ⊢
        rw [Ht6.out, hh]; simp [okS]
    by_cases h12 : a.op = 12
    · have HWA : Hid (actW a = intsW [a.id]) := Lib.hid (by simp [actW, h12])
      have b1 : (a.op == 1) = false := by rw [h12]; rfl
      have b9 : (a.op == 9) = false := by rw [h12]; rfl
      have b2 : (a.op == 2) = false := by rw [h12]; rfl
      have b3 : (a.op == 3) = false := by rw [h12]; rfl
      have b4 : (a.op == 4) = false := by rw [h12]; rfl
      have b5 : (a.op == 5) = false := by rw [h12]; rfl
      have b6 : (a.op == 6) = false := by rw [h12]; rfl
      have b7 : (a.op == 7) = false := by rw [h12]; rfl
      have b12 : (a.op == 12) = true := by rw [h12]; rfl
      clear h12
      have hopl := opS_le a.op
      have f1 : w1.cell? ⟨w.heap.size, 1, none⟩ = some (.int .i64 a.id) := cell_of (i := 1) HB1.out rfl
      go_wp2_with fail
      have u2 : Upd [] w1 (w1.alloc (.cells #[.int .i64 a.id] 3)) := (Upd.refl [] w1).alloc _
      have q := ref_nums (c := 1) (intsAt_new w1 3 [a.id]) (by simp) (by have := HL.out.id; have := HL.out.st; have := HL.out.n; unfold i64R at *; intro x hx; simp at hx; omega)
      obtain ⟨w2, hw2⟩ : ∃ w2, w2 = w1.alloc (.cells #[.int .i64 a.id] 3) := ⟨_, rfl⟩
      have q' : Calls Tryd.prog 46 #[.slice (some ⟨w1.heap.size, 0, none⟩) 1 1] w2 _ := hw2 ▸ q
      rw [← hw2] at u2 ⊢
      have HB2 := Lib.hid ((u2.block w.heap.size (Array.getElem?_eq_some_iff.1 HB1.out).1 (by simp)).trans HB1.out)
      have HU2 := Lib.hid (HU1.out.trans u2 (by simp))
      have HA2 := Lib.hid (HA1.out.upd u2 (by simp))
      clear q u2 hw2
      refine q'.mono ?_
      clear q'
      rintro e wt ⟨rfl, hwt⟩
      rw [hwt]
      clear hwt wt
      obtain ⟨t6, ht6⟩ : ∃ t6, t6 = okS (intsW [a.id]).2 (spW (intsW [a.id]).1) := ⟨_, rfl⟩
      obtain ⟨b5, hb5⟩ : ∃ b5, b5 = (intsW [a.id]).2 := ⟨_, rfl⟩
      have hlt6 : t6.length ≤ 5000000000000 := by rw [ht6]; exact okS_le (spW_le_any (by have := HL.out.id; have := HL.out.st; have := HL.out.n; unfold i64R at *; intro x hx; simp at hx; omega) (by simp))
      rw [← ht6, ← hb5]
      have Ht6 := Lib.hid ht6; have Hb5 := Lib.hid hb5
      clear ht6 hb5
      go_wp2_with fail
      go_meet
      case rel =>
        refine ⟨opS a.op, t6, [], b5, true, rfl, rfl, rfl, rfl, rfl, ⟨by rw [HWA.out, Hb5.out]; simp, fun hh => ?_, by omega, by omega, by simp⟩, HU2.out⟩
        rw [HWA.out] at hh ⊢
        rw [Ht6.out, hh]; simp [okS]
    by_cases h13 : a.op = 13
    · have HWA : Hid (actW a = intsW [a.id]) := Lib.hid (by simp [actW, h13])
      have b1 : (a.op == 1) = false := by rw [h13]; rfl
      have b9 : (a.op == 9) = false := by rw [h13]; rfl
      have b2 : (a.op == 2) = false := by rw [h13]; rfl
      have b3 : (a.op == 3) = false := by rw [h13]; rfl
      have b4 : (a.op == 4) = false := by rw [h13]; rfl
      have b5 : (a.op == 5) = false := by rw [h13]; rfl
      have b6 : (a.op == 6) = false := by rw [h13]; rfl
      have b7 : (a.op == 7) = false := by rw [h13]; rfl
      have b12 : (a.op == 12) = false := by rw [h13]; rfl
      have b13 : (a.op == 13) = true := by rw [h13]; rfl
      clear h13
      have hopl := opS_le a.op
      have f1 : w1.cell? ⟨w.heap.size, 1, none⟩ = some (.int .i64 a.id) := cell_of (i := 1) HB1.out rfl
      go_wp2_with fail
      have u2 : Upd [] w1 (w1.alloc (.cells #[.int .i64 a.id] 3)) := (Upd.refl [] w1).alloc _
      have q := ref_nums (c := 1) (intsAt_new w1 3 [a.id]) (by simp) (by have := HL.out.id; have := HL.out.st; have := HL.out.n; unfold i64R at *; intro x hx; simp at hx; omega)
      obtain ⟨w2, hw2⟩ : ∃ w2, w2 = w1.alloc (.cells #[.int .i64 a.id] 3) := ⟨_, rfl⟩
      have q' : Calls Tryd.prog 46 #[.slice (some ⟨w1.heap.size, 0, none⟩) 1 1] w2 _ := hw2 ▸ q
      rw [← hw2] at u2 ⊢
      have HB2 := Lib.hid ((u2.block w.heap.size (Array.getElem?_eq_some_iff.1 HB1.out).1 (by simp)).trans HB1.out)
      have HU2 := Lib.hid (HU1.out.trans u2 (by simp))
      have HA2 := Lib.hid (HA1.out.upd u2 (by simp))
      clear q u2 hw2
      refine q'.mono ?_
      clear q'
      rintro e wt ⟨rfl, hwt⟩
      rw [hwt]
      clear hwt wt
      obtain ⟨t6, ht6⟩ : ∃ t6, t6 = okS (intsW [a.id]).2 (spW (intsW [a.id]).1) := ⟨_, rfl⟩
      obtain ⟨b5, hb5⟩ : ∃ b5, b5 = (intsW [a.id]).2 := ⟨_, rfl⟩
      have hlt6 : t6.length ≤ 5000000000000 := by rw [ht6]; exact okS_le (spW_le_any (by have := HL.out.id; have := HL.out.st; have := HL.out.n; unfold i64R at *; intro x hx; simp at hx; omega) (by simp))
      rw [← ht6, ← hb5]
      have Ht6 := Lib.hid ht6; have Hb5 := Lib.hid hb5
      clear ht6 hb5
      go_wp2_with fail
      go_meet
      case rel =>
        refine ⟨opS a.op, t6, [], b5, true, rfl, rfl, rfl, rfl, rfl, ⟨by rw [HWA.out, Hb5.out]; simp, fun hh => ?_, by omega, by omega, by simp⟩, HU2.out⟩
        rw [HWA.out] at hh ⊢
        rw [Ht6.out, hh]; simp [okS]
    by_cases h8 : a.op = 8
    · have HWA : Hid (actW a = ([Lib.itoa a.time], true)) := Lib.hid (by simp [actW, h8])
      have b1 : (a.op == 1) = false := by rw [h8]; rfl
      have b9 : (a.op == 9) = false := by rw [h8]; rfl
      have b2 : (a.op == 2) = false := by rw [h8]; rfl
      have b3 : (a.op == 3) = false := by rw [h8]; rfl
      have b4 : (a.op == 4) = false := by rw [h8]; rfl
      have b5 : (a.op == 5) = false := by rw [h8]; rfl
      have b6 : (a.op == 6) = false := by rw [h8]; rfl
      have b7 : (a.op == 7) = false := by rw [h8]; rfl
      have b12 : (a.op == 12) = false := by rw [h8]; rfl
      have b13 : (a.op == 13) = false := by rw [h8]; rfl
      have b8 : (a.op == 8) = true := by rw [h8]; rfl
      clear h8
      have hopl := opS_le a.op
      obtain ⟨tn, htn0⟩ : ∃ tn : Nat, a.time = tn := ⟨a.time.toNat, by have := HL.out.ti; omega⟩
      have htn : tn < 18446744073709551616 := by have := HL.out.ti; omega
      have hdl : (Lib.decDigits tn).length ≤ 20 := by rw [Lib.decDigits_length]; exact Lib.nDigits_le20 tn htn
      obtain ⟨d, hd0⟩ : ∃ d, d = Lib.decDigits tn := ⟨_, rfl⟩
      rw [← hd0] at hdl
      have f4 : w1.cell? ⟨w.heap.size, 4, none⟩ = some (.int .u64 a.time) := cell_of (i := 4) HB1.out rfl
      rw [htn0] at f4
      have HD := Lib.hid hd0; have HTN := Lib.hid htn0
      clear hd0 htn0
      go_wp2_with fail
      refine (ref_num tn htn _).mono ?_
      rintro e wt ⟨rfl, hwt⟩
      rw [hwt, ← HD.out]
      clear hwt wt
      go_wp2_with fail
      go_meet
      case rel =>
        refine ⟨opS a.op, [32] ++ d, [], true, true, rfl, rfl, ?_, rfl, rfl, ⟨by rw [HWA.out]; rfl, fun hh => ?_, by omega, by simp; omega, by simp⟩, HU1.out⟩
        · rw [← str_append]
        · rw [HWA.out, HTN.out, Lib.itoa_nonneg, ← HD.out]; simp [spW]
    by_cases h10 : a.op = 10
    · have HWA : Hid (actW a = ((intsW [a.id, a.status]).1 ++ (hdrsW a.headers).1, (intsW [a.id, a.status]).2 && (hdrsW a.headers).2)) := Lib.hid (by simp [actW, h10])
      have b1 : (a.op == 1) = false := by rw [h10]; rfl
      have b9 : (a.op == 9) = false := by rw [h10]; rfl
      have b2 : (a.op == 2) = false := by rw [h10]; rfl
      have b3 : (a.op == 3) = false := by rw [h10]; rfl
      have b4 : (a.op == 4) = false := by rw [h10]; rfl
      have b5 : (a.op == 5) = false := by rw [h10]; rfl
      have b6 : (a.op == 6) = false := by rw [h10]; rfl
      have b7 : (a.op == 7) = false := by rw [h10]; rfl
      have b12 : (a.op == 12) = false := by rw [h10]; rfl
      have b13 : (a.op == 13) = false := by rw [h10]; rfl
      have b8 : (a.op == 8) = false := by rw [h10]; rfl
      have b10 : (a.op == 10) = true := by rw [h10]; rfl
      clear h10
      have hopl := opS_le a.op
      have f1 : w1.cell? ⟨w.heap.size, 1, none⟩ = some (.int .i64 a.id) := cell_of (i := 1) HB1.out rfl
      have f5 : w1.cell? ⟨w.heap.size, 5, none⟩ = some (.int .i64 a.status) := cell_of (i := 5) HB1.out rfl
      go_wp2_with fail
      have u2 : Upd [] w1 (w1.alloc (.cells #[.int .i64 a.id, .int .i64 a.status] 3)) := (Upd.refl [] w1).alloc _
      have q := ref_nums (c := 2) (intsAt_new w1 3 [a.id, a.status]) (by simp) (by have := HL.out.id; have := HL.out.st; have := HL.out.n; unfold i64R at *; intro x hx; simp at hx; omega)
      obtain ⟨w2, hw2⟩ : ∃ w2, w2 = w1.alloc (.cells #[.int .i64 a.id, .int .i64 a.status] 3) := ⟨_, rfl⟩
      have q' : Calls Tryd.prog 46 #[.slice (some ⟨w1.heap.size, 0, none⟩) 2 2] w2 _ := hw2 ▸ q
      rw [← hw2] at u2 ⊢
      have HB2 := Lib.hid ((u2.block w.heap.size (Array.getElem?_eq_some_iff.1 HB1.out).1 (by simp)).trans HB1.out)
      have HU2 := Lib.hid (HU1.out.trans u2 (by simp))
      have HA2 := Lib.hid (HA1.out.upd u2 (by simp))
      clear q u2 hw2
      refine q'.mono ?_
      clear q'
      rintro e wt ⟨rfl, hwt⟩
      rw [hwt]
      clear hwt wt
      obtain ⟨t6, ht6⟩ : ∃ t6, t6 = okS (intsW [a.id, a.status]).2 (spW (intsW [a.id, a.status]).1) := ⟨_, rfl⟩
      obtain ⟨b5, hb5⟩ : ∃ b5, b5 = (intsW [a.id, a.status]).2 := ⟨_, rfl⟩
      have hlt6 : t6.length ≤ 5000000000000 := by rw [ht6]; exact okS_le (spW_le_any (by have := HL.out.id; have := HL.out.st; have := HL.out.n; unfold i64R at *; intro x hx; simp at hx; omega) (by simp))
      rw [← ht6, ← hb5]
      have Ht6 := Lib.hid ht6; have Hb5 := Lib.hid hb5
      clear ht6 hb5
      have f6 : w2.cell? ⟨w.heap.size, 6, none⟩ = some (.slice p.ah a.headers.length p.ch) := cell_of (i := 6) HB2.out rfl
      go_wp2_with fail
      have q := ref_headers (c := p.ch) HA2.out.hds HL.out.hd.1 HL.out.hd.2
      refine q.mono ?_
      clear q
      rintro e w3 ⟨rfl, hu3⟩
      have HU3 := Lib.hid (HU2.out.trans hu3 (by simp)); clear hu3
      obtain ⟨t7, ht7⟩ : ∃ t7, t7 = okS (hdrsW a.headers).2 (spW (hdrsW a.headers).1) := ⟨_, rfl⟩
      obtain ⟨b8, hb8⟩ : ∃ b8, b8 = (hdrsW a.headers).2 := ⟨_, rfl⟩
      have hlt7 : t7.length ≤ 5000000000000 := by rw [ht7]; exact okS_le (spW_le_hdrs HL.out.hd)
      rw [← ht7, ← hb8]
      have Ht7 := Lib.hid ht7; have Hb8 := Lib.hid hb8
      clear ht7 hb8
      go_wp2_with fail
      go_meet
      case rel =>
        refine ⟨opS a.op, t6, t7, b5, b8, rfl, rfl, rfl, rfl, rfl, ⟨by rw [HWA.out, Hb5.out, Hb8.out], fun hh => ?_, by omega, by omega, by omega⟩, HU3.out⟩
        rw [HWA.out] at hh ⊢
        rw [Bool.and_eq_true] at hh; rw [Ht6.out, Ht7.out, hh.1, hh.2]; simp [okS, spW_append]
    by_cases h11 : a.op = 11
    · have HWA : Hid (actW a = ((intsW [a.id]).1 ++ [hexS a.bytes], (intsW [a.id]).2)) := Lib.hid (by simp [actW, h11])
      have b1 : (a.op == 1) = false := by rw [h11]; rfl
      have b9 : (a.op == 9) = false := by rw [h11]; rfl
      have b2 : (a.op == 2) = false := by rw [h11]; rfl
      have b3 : (a.op == 3) = false := by rw [h11]; rfl
      have b4 : (a.op == 4) = false := by rw [h11]; rfl
      have b5 : (a.op == 5) = false := by rw [h11]; rfl
      have b6 : (a.op == 6) = false := by rw [h11]; rfl
      have b7 : (a.op == 7) = false := by rw [h11]; rfl
      have b12 : (a.op == 12) = false := by rw [h11]; rfl
      have b13 : (a.op == 13) = false := by rw [h11]; rfl
      have b8 : (a.op == 8) = false := by rw [h11]; rfl
      have b10 : (a.op == 10) = false := by rw [h11]; rfl
      have b11 : (a.op == 11) = true := by rw [h11]; rfl
      clear h11
      have hopl := opS_le a.op
      have f1 : w1.cell? ⟨w.heap.size, 1, none⟩ = some (.int .i64 a.id) := cell_of (i := 1) HB1.out rfl
      go_wp2_with fail
      have u2 : Upd [] w1 (w1.alloc (.cells #[.int .i64 a.id] 3)) := (Upd.refl [] w1).alloc _
      have q := ref_nums (c := 1) (intsAt_new w1 3 [a.id]) (by simp) (by have := HL.out.id; have := HL.out.st; have := HL.out.n; unfold i64R at *; intro x hx; simp at hx; omega)
      obtain ⟨w2, hw2⟩ : ∃ w2, w2 = w1.alloc (.cells #[.int .i64 a.id] 3) := ⟨_, rfl⟩
      have q' : Calls Tryd.prog 46 #[.slice (some ⟨w1.heap.size, 0, none⟩) 1 1] w2 _ := hw2 ▸ q
      rw [← hw2] at u2 ⊢
      have HB2 := Lib.hid ((u2.block w.heap.size (Array.getElem?_eq_some_iff.1 HB1.out).1 (by simp)).trans HB1.out)
      have HU2 := Lib.hid (HU1.out.trans u2 (by simp))
      have HA2 := Lib.hid (HA1.out.upd u2 (by simp))
      clear q u2 hw2
      refine q'.mono ?_
      clear q'
      rintro e wt ⟨rfl, hwt⟩
      rw [hwt]
      clear hwt wt
      obtain ⟨t6, ht6⟩ : ∃ t6, t6 = okS (intsW [a.id]).2 (spW (intsW [a.id]).1) := ⟨_, rfl⟩
      obtain ⟨b5, hb5⟩ : ∃ b5, b5 = (intsW [a.id]).2 := ⟨_, rfl⟩
      have hlt6 : t6.length ≤ 5000000000000 := by rw [ht6]; exact okS_le (spW_le_any (by have := HL.out.id; have := HL.out.st; have := HL.out.n; unfold i64R at *; intro x hx; simp at hx; omega) (by simp))
      rw [← ht6, ← hb5]
      have Ht6 := Lib.hid ht6; have Hb5 := Lib.hid hb5
      clear ht6 hb5
      have f7 : w2.cell? ⟨w.heap.size, 7, none⟩ = some (.slice p.ab a.bytes.length p.cb) := cell_of (i := 7) HB2.out rfl
      have hbv : BytesV w2 (.slice p.ab a.bytes.length p.cb) a.bytes := ⟨_, _, rfl, HA2.out.bcp, HA2.out.bts⟩
      have HBV := Lib.hid hbv; clear hbv
      go_wp2_with fail
      refine (ref_hex HBV.out HL.out.bt).mono ?_
      rintro e w3 ⟨rfl, hu3⟩
      have HU3 := Lib.hid (HU2.out.trans hu3 (by simp)); clear hu3
      have hxl := hexS_le a.bytes
      have hbt := HL.out.bt
      obtain ⟨y, hy⟩ : ∃ y, y = hexS a.bytes := ⟨_, rfl⟩
      rw [← hy] at hxl ⊢
      have HY := Lib.hid hy; clear hy
      go_wp2_with fail
      go_meet
      case rel =>
        refine ⟨opS a.op, t6, [32] ++ y, b5, true, rfl, rfl, rfl, ?_, rfl, ⟨by rw [HWA.out, Hb5.out]; simp, fun hh => ?_, by omega, by omega, by simp; omega⟩, HU3.out⟩
        · rw [← str_append]
        · rw [HWA.out] at hh ⊢
          simp only at hh
          rw [Ht6.out, hh, HY.out, spW_append]; simp [okS, spW]
    by_cases h14 : a.op = 14
    · have HWA : Hid (actW a = intsW [a.id, a.n]) := Lib.hid (by simp [actW, h14])
      have b1 : (a.op == 1) = false := by rw [h14]; rfl
      have b9 : (a.op == 9) = false := by rw [h14]; rfl
      have b2 : (a.op == 2) = false := by rw [h14]; rfl
      have b3 : (a.op == 3) = false := by rw [h14]; rfl
      have b4 : (a.op == 4) = false := by rw [h14]; rfl
      have b5 : (a.op == 5) = false := by rw [h14]; rfl
      have b6 : (a.op == 6) = false := by rw [h14]; rfl
      have b7 : (a.op == 7) = false := by rw [h14]; rfl
      have b12 : (a.op == 12) = false := by rw [h14]; rfl
      have b13 : (a.op == 13) = false := by rw [h14]; rfl
      have b8 : (a.op == 8) = false := by rw [h14]; rfl
      have b10 : (a.op == 10) = false := by rw [h14]; rfl
      have b11 : (a.op == 11) = false := by rw [h14]; rfl
      have b14 : (a.op == 14) = true := by rw [h14]; rfl
      clear h14
      have hopl := opS_le a.op
      have f1 : w1.cell? ⟨w.heap.size, 1, none⟩ = some (.int .i64 a.id) := cell_of (i := 1) HB1.out rfl
      have f2 : w1.cell? ⟨w.heap.size, 2, none⟩ = some (.int .i64 a.n) := cell_of (i := 2) HB1.out rfl
      go_wp2_with fail
      have u2 : Upd [] w1 (w1.alloc (.cells #[.int .i64 a.id, .int .i64 a.n] 3)) := (Upd.refl [] w1).alloc _
      have q := ref_nums (c := 2) (intsAt_new w1 3 [a.id, a.n]) (by simp) (by have := HL.out.id; have := HL.out.st; have := HL.out.n; unfold i64R at *; intro x hx; simp at hx; omega)
      obtain ⟨w2, hw2⟩ : ∃ w2, w2 = w1.alloc (.cells #[.int .i64 a.id, .int .i64 a.n] 3) := ⟨_, rfl⟩
      have q' : Calls Tryd.prog 46 #[.slice (some ⟨w1.heap.size, 0, none⟩) 2 2] w2 _ := hw2 ▸ q
      rw [← hw2] at u2 ⊢
      have HB2 := Lib.hid ((u2.block w.heap.size (Array.getElem?_eq_some_iff.1 HB1.out).1 (by simp)).trans HB1.out)
      have HU2 := Lib.hid (HU1.out.trans u2 (by simp))
      have HA2 := Lib.hid (HA1.out.upd u2 (by simp))
      clear q u2 hw2
      refine q'.mono ?_
      clear q'
      rintro e wt ⟨rfl, hwt⟩
      rw [hwt]
      clear hwt wt
      obtain ⟨t6, ht6⟩ : ∃ t6, t6 = okS (intsW [a.id, a.n]).2 (spW (intsW [a.id, a.n]).1) := ⟨_, rfl⟩
      obtain ⟨b5, hb5⟩ : ∃ b5, b5 = (intsW [a.id, a.n]).2 := ⟨_, rfl⟩
      have hlt6 : t6.length ≤ 5000000000000 := by rw [ht6]; exact okS_le (spW_le_any (by have := HL.out.id; have := HL.out.st; have := HL.out.n; unfold i64R at *; intro x hx; simp at hx; omega) (by simp))
      rw [← ht6, ← hb5]
      have Ht6 := Lib.hid ht6; have Hb5 := Lib.hid hb5
      clear ht6 hb5
      go_wp2_with fail
      go_meet
      case rel =>
        refine ⟨opS a.op, t6, [], b5, true, rfl, rfl, rfl, rfl, rfl, ⟨by rw [HWA.out, Hb5.out]; simp, fun hh => ?_, by omega, by omega, by simp⟩, HU2.out⟩
        rw [HWA.out] at hh ⊢
        rw [Ht6.out, hh]; simp [okS]
    have HWA : Hid (actW a = ([], false)) := Lib.hid (by simp [actW, h1, h9, h2, h3, h4, h5, h6, h7, h12, h13, h8, h10, h11, h14])
    have b1 : (a.op == 1) = false := by rw [beq_eq_false_iff_ne]; exact h1
    have b9 : (a.op == 9) = false := by rw [beq_eq_false_iff_ne]; exact h9
    have b2 : (a.op == 2) = false := by rw [beq_eq_false_iff_ne]; exact h2
    have b3 : (a.op == 3) = false := by rw [beq_eq_false_iff_ne]; exact h3
    have b4 : (a.op == 4) = false := by rw [beq_eq_false_iff_ne]; exact h4
    have b5 : (a.op == 5) = false := by rw [beq_eq_false_iff_ne]; exact h5
    have b6 : (a.op == 6) = false := by rw [beq_eq_false_iff_ne]; exact h6
    have b7 : (a.op == 7) = false := by rw [beq_eq_false_iff_ne]; exact h7
    have b12 : (a.op == 12) = false := by rw [beq_eq_false_iff_ne]; exact h12
    have b13 : (a.op == 13) = false := by rw [beq_eq_false_iff_ne]; exact h13
    have b8 : (a.op == 8) = false := by rw [beq_eq_false_iff_ne]; exact h8
    have b10 : (a.op == 10) = false := by rw [beq_eq_false_iff_ne]; exact h10
    have b11 : (a.op == 11) = false := by rw [beq_eq_false_iff_ne]; exact h11
    have b14 : (a.op == 14) = false := by rw [beq_eq_false_iff_ne]; exact h14
    clear h1 h9 h2 h3 h4 h5 h6 h7 h12 h13 h8 h10 h11 h14
    have hopl := opS_le a.op
    go_wp2_with fail
    go_meet
    case rel =>
      exact ⟨opS a.op, [], [], false, true, rfl, rfl, rfl, rfl, rfl, ⟨by rw [HWA.out]; rfl, fun hh => (by rw [HWA.out] at hh; cases hh), by omega, by simp, by simp⟩, HU1.out⟩
  case rest =>
    obtain ⟨s4, s6, s7, b5, b8, rfl, rfl, rfl, rfl, rfl, hrs, hu⟩ := hcut
    have hl4 := hrs.l4
    have hl6 := hrs.l6
    have hl7 := hrs.l7
    have HRS := Lib.hid hrs; have HU := Lib.hid hu
    clear hrs hu
    have hs : sh = if (b5 && b8) then some (s4 ++ s6 ++ s7) else none := by
      rw [HSH.out]; unfold showS
      rw [HRS.out.ok]
      split
      · rename_i h; rw [HRS.out.str h, spW_join]
      · rfl
    have HSS := Lib.hid hs; clear hs
    cases b5
    · go_wp2_with fail
      go_ret2
      refine ⟨?_, HU.out⟩
      rw [HTX.out, HEN.out, HSS.out]; rfl
    · cases b8
      · go_wp2_with fail
        go_ret2
        refine ⟨?_, HU.out⟩
        rw [HTX.out, HEN.out, HSS.out]; rfl
      · go_wp2_with fail
        go_ret2
        refine ⟨?_, HU.out⟩
        rw [HTX.out, HEN.out, HSS.out, str_append, str_append]; rfl
end Go.Proofs.YtajoldboafkpdaaDoor
