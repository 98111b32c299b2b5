-- lockkeeperlaw27.awake: contract.
import Derived.Test.YtajoldboafkpdaaDoorLow27
namespace Go.Proofs.YtajoldboafkpdaaDoor
set_option linter.unusedSimpArgs false
set_option linter.unusedVariables false
open Go.RowKit Go.Lk
def awA : ActL := { ActL.zero with op := 11, id := 2, bytes := [1, 255] }
def awB : ActL := { ActL.zero with op := 2, ids := [1, 2] }
theorem aw_show : showS awA = some [99, 104, 117, 110, 107, 32, 50, 32, 48, 49, 102, 102] := by decide +kernel
theorem aw_tick : readS [116, 105, 99, 107, 32, 48, 53] = none := by
  have h : (readS [116, 105, 99, 107, 32, 48, 53]).isNone = true := by decide +kernel
  simpa using h
theorem aw_sig : (readS [115, 105, 103, 110, 97, 108, 32, 49, 32, 50]).map (fun a => (a.op, a.ids)) = some (2, [1, 2]) := by decide +kernel
theorem awA_lim : ActLim awA := by
  refine ⟨?_, ?_, ?_, ?_, ?_, ?_, ?_, ?_, ?_⟩ <;> first | (simp [awA, ActL.zero, i64R, HdrLim]; done) | (constructor <;> simp [awA, ActL.zero, ReqL.zero, i64R, HdrLim])
theorem zeroAct_heap (w : World) : (w.alloc (.cells #[.int .i64 0, .int .i64 0, .int .i64 0, .slice none 0 0, .int .u64 0, .int .i64 0, .slice none 0 0, .slice none 0 0, .string ⟨#[]⟩, .string ⟨#[]⟩, .string ⟨#[]⟩, .int .i64 0, .bool false, .slice none 0 0, .int .i64 0, .int .u64 0, .int .i64 0, .int .i64 0] 29)).heap[w.heap.size]? = some (.cells (actCells ActL.zero p0).toArray 29) := heap_alloc_self _
theorem actCells_all (a : ActL) (p : ActP) : (actCells a p).toArray.all (·.oneCell') = true := by simp [actCells, Value.oneCell']
theorem aggAct (a : ActL) (p : ActP) : aggOf Tryd.prog 29 (actCells a p).toArray.size = true := by
  have h : aggOf Tryd.prog 29 18 = true := by kernel_rfl
  exact h
/-- A struct laid into a variable that was made for it. -/
theorem actVar {w1 : World} (w : World) (a : ActL) (p : ActP) (hw : w1 = (w.alloc (.cells #[.int .i64 0, .int .i64 0, .int .i64 0, .slice none 0 0, .int .u64 0, .int .i64 0, .slice none 0 0, .slice none 0 0, .string ⟨#[]⟩, .string ⟨#[]⟩, .string ⟨#[]⟩, .int .i64 0, .bool false, .slice none 0 0, .int .i64 0, .int .u64 0, .int .i64 0, .int .i64 0] 29)).setRow w.heap.size (actCells a p).toArray) : w1.heap[w.heap.size]? = some (.cells (actCells a p).toArray 29) ∧ Upd [] w w1 := by
  subst hw
  exact ⟨setRow_heap _ _ _ _ _ _ (zeroAct_heap w), ((Upd.refl [] w).alloc _).setRow (.inl (Nat.le_refl _)) _⟩
set_option maxRecDepth 100000 in
set_option maxHeartbeats 6400000 in
theorem awake27 {w : World} (hE : Env w) : Calls Tryd.prog 11 #[] w fun e w' => e = .returned (.bool true) ∧ Upd [] w w' := by
  have HE := Lib.hid hE; clear hE
  obtain ⟨w1, hw1⟩ : ∃ w1, w1 = w.alloc (.cells #[.int .u8 1, .int .u8 255] 5) := ⟨_, rfl⟩
  have hu1 : Upd [] w w1 := by rw [hw1]; exact (Upd.refl [] w).alloc _
  have hbt : BytesAt w1 (some ⟨w.heap.size, 0, none⟩) [1, 255] := by rw [hw1]; exact bytesAt_new w 5 [1, 255] (0, 0)
  have HW1 := Lib.hid hw1; have HU1 := Lib.hid hu1; clear hw1 hu1
  have hat : ActAt w1 awA { p0 with ab := some ⟨w.heap.size, 0, none⟩, cb := 2 } := ⟨IntsAt.nil _ _, HdrsAt.nil _ _, hbt, Nat.le_refl _, HdrsAt.nil _ _⟩
  have q1 := script_show hat awA_lim (HE.out.upd0 HU1.out)
  rw [aw_show] at q1
  have Q1 := Lib.hid q1; clear q1 hat hbt
  go_enter Tryd.func11, Tryd.ntmps11
  go_wp2_with fail
  rw [← HW1.out]
  refine Q1.out.mono ?_
  rintro e w2 ⟨rfl, hu2⟩
  have HU2 := Lib.hid (HU1.out.trans hu2 (by simp)); clear hu2 Q1
  go_wp2_with fail
  have q2 : Calls Tryd.prog 12 #[.string ⟨#[116, 105, 99, 107, 32, 48, 53]⟩] w2 fun e w' => ∃ p, e = .returned (.tuple #[.agg (actCells ActL.zero p).toArray, .int .i64 3]) ∧ Upd [] w2 w' := by
    refine (script_read (w := w2) [116, 105, 99, 107, 32, 48, 53] (by decide) (HE.out.upd0 HU2.out)).mono ?_
    rintro e w3 ⟨p3, rfl, _, hu3⟩
    rw [aw_tick]
    exact ⟨p3, rfl, hu3⟩
  refine q2.mono ?_
  clear q2
  rintro e w3 ⟨p3, rfl, hu3⟩
  have HU3 := Lib.hid (HU2.out.trans hu3 (by simp)); clear hu3
  have HZ3 := Lib.hid (zeroAct_heap w3); have HC := Lib.hid actCells_all; have HG := Lib.hid aggAct
  go_wp2_with (refine wpList_store_agg _ rfl 29 (.tmp 3) (.tmp 15) rfl w3.heap.size (actCells ActL.zero p3).toArray (actCells ActL.zero p0).toArray 29 rfl rfl (HG.out _ _) HZ3.out rfl (HC.out _ _) ?_)
  obtain ⟨b, hb⟩ : ∃ b, readS [115, 105, 103, 110, 97, 108, 32, 49, 32, 50] = some b ∧ b.op = 2 ∧ b.ids = [1, 2] := by
    have h := aw_sig
    cases hr : readS [115, 105, 103, 110, 97, 108, 32, 49, 32, 50] with
    | none => rw [hr] at h; cases h
    | some b =>
      rw [hr] at h
      injection h with h
      injection h with h1 h2
      exact ⟨b, rfl, h1, h2⟩
  obtain ⟨w4, hw4⟩ : ∃ w4, w4 = (w3.alloc (.cells #[.int .i64 0, .int .i64 0, .int .i64 0, .slice none 0 0, .int .u64 0, .int .i64 0, .slice none 0 0, .slice none 0 0, .string ⟨#[]⟩, .string ⟨#[]⟩, .string ⟨#[]⟩, .int .i64 0, .bool false, .slice none 0 0, .int .i64 0, .int .u64 0, .int .i64 0, .int .i64 0] 29)).setRow w3.heap.size (actCells ActL.zero p3).toArray := ⟨_, rfl⟩
  rw [← hw4]
  have HU4 := Lib.hid (HU3.out.trans (actVar w3 _ _ hw4).2 (by simp))
  clear hw4
  have q3 : Calls Tryd.prog 12 #[.string ⟨#[115, 105, 103, 110, 97, 108, 32, 49, 32, 50]⟩] w4 fun e w' => ∃ p, e = .returned (.tuple #[.agg (actCells b p).toArray, .int .i64 0]) ∧ ActAt w' b p ∧ Upd [] w4 w' := by
    refine (script_read (w := w4) [115, 105, 103, 110, 97, 108, 32, 49, 32, 50] (by decide) (HE.out.upd0 HU4.out)).mono ?_
    rintro e w3 ⟨p3, rfl, ha, hu3⟩
    rw [hb.1] at ha ⊢
    exact ⟨p3, rfl, ha, hu3⟩
  refine q3.mono ?_
  clear q3
  rintro e w5 ⟨p5, rfl, hat5, hu5⟩
  have HU5 := Lib.hid (HU4.out.trans hu5 (by simp)); clear hu5
  have HA5 := Lib.hid hat5; have HBB := Lib.hid hb; clear hat5 hb
  have HZ5 := Lib.hid (zeroAct_heap w5)
  go_upto_region 4 with (refine wpList_store_agg _ rfl 29 (.tmp 5) (.tmp 19) rfl w5.heap.size (actCells b p5).toArray (actCells ActL.zero p0).toArray 29 rfl rfl (HG.out _ _) HZ5.out rfl (HC.out _ _) ?_)
  obtain ⟨w6, hw6⟩ : ∃ w6, w6 = (w5.alloc (.cells #[.int .i64 0, .int .i64 0, .int .i64 0, .slice none 0 0, .int .u64 0, .int .i64 0, .slice none 0 0, .slice none 0 0, .string ⟨#[]⟩, .string ⟨#[]⟩, .string ⟨#[]⟩, .int .i64 0, .bool false, .slice none 0 0, .int .i64 0, .int .u64 0, .int .i64 0, .int .i64 0] 29)).setRow w5.heap.size (actCells b p5).toArray := ⟨_, rfl⟩
  rw [← hw6]
  have hv := actVar w5 _ _ hw6
  have HU6 := Lib.hid (HU5.out.trans hv.2 (by simp))
  have HI := Lib.hid (HA5.out.upd2 hv.2 (by simp)).ids
  have f0 : w6.cell? ⟨w5.heap.size, 0, none⟩ = some (.int .i64 2) := by
    have := cell_of (i := 0) (v := .int .i64 b.op) hv.1 rfl
    rw [HBB.out.2.1] at this; exact this
  have f3 : w6.cell? ⟨w5.heap.size, 3, none⟩ = some (.slice p5.ai 2 p5.ci) := by
    have := cell_of (i := 3) (v := .slice p5.ai b.ids.length p5.ci) hv.1 rfl
    rw [HBB.out.2.2] at this; exact this
  have hl : IntsAt (w6.alloc (.cells #[.int .i64 1, .int .i64 2] 3)) p5.ai [1, 2] := by
    have h := HI.out
    rw [HBB.out.2.2] at h
    exact h.upd ((Upd.refl [] w6).alloc _) (by simp)
  have hr : IntsAt (w6.alloc (.cells #[.int .i64 1, .int .i64 2] 3)) (some ⟨w6.heap.size, 0, none⟩) [1, 2] := intsAt_new w6 3 [1, 2]
  have q4 := l0_ints (ca := p5.ci) (cb := 2) hl hr (by decide) (by decide)
  have Q4 := Lib.hid q4
  clear hw6 hv hl hr q4
  go_wp2_with fail
  refine Q4.out.mono ?_
  rintro e w7 ⟨rfl, hu7⟩
  have HU7 := Lib.hid ((HU6.out.alloc _).trans hu7 (by simp)); clear hu7 Q4
  go_wp2_with fail
  go_ret
  exact ⟨rfl, HU7.out⟩
end Go.Proofs.YtajoldboafkpdaaDoor
