-- ScriptHex: the walk.
import Derived.Test.YtajoldboafkpdaaDoorAwake27
import Derived.Test.YtajoldboafkpdaaDoorLong
namespace Go.Proofs.YtajoldboafkpdaaDoor
set_option linter.unusedSimpArgs false
set_option linter.unusedVariables false
open Go.RowKit Go.Lk
set_option maxRecDepth 100000 in
set_option maxHeartbeats 3200000 in
theorem walk_ScriptHex {w : World} {v : Value} {bs s : Bs} (hv : BytesV w v bs) (hE : Env w) :
    Calls Tryd.prog 4 #[v, .string ⟨s.toArray⟩] w fun e w' => e = .returned (.bool true) ∧ Upd [] w w' := by
  obtain ⟨A, c, rfl, hbc, hb⟩ := hv
  have HB : Hid (BytesV w (.slice A bs.length c) bs) := Lib.hid ⟨_, _, rfl, hbc, hb⟩
  have HE := Lib.hid hE; clear hE hb hbc
  by_cases h1 : 300 < bs.length
  · have h1' : (bs.length : Int) > 300 := by omega
    go_enter Tryd.func4, Tryd.ntmps4
    go_wp2_with fail
    refine (awake27 HE.out).mono ?_
    rintro e w1 ⟨rfl, hu⟩
    go_wp2_with fail
    go_ret
    exact ⟨rfl, hu⟩
  by_cases h2 : 300 ≤ s.length
  · have hu1 : Upd [] w (w.alloc (.cells #[.string ⟨s.toArray⟩] 9)) := (Upd.refl [] w).alloc _
    have hc : (w.alloc (.cells #[.string ⟨s.toArray⟩] 9)).cell? ⟨w.heap.size, 0, none⟩ = some (.string ⟨s.toArray⟩) := cell_of (i := 0) (heap_alloc_self _) rfl
    have q := long_one 300 s w.heap.size 1 _ (by omega) hc
    rw [decide_eq_true (by omega)] at q
    have Q := Lib.hid q; have HU1 := Lib.hid hu1; clear q hc hu1
    go_enter Tryd.func4, Tryd.ntmps4
    go_wp2_with fail
    refine Q.out.mono ?_
    rintro e w1 ⟨rfl, rfl⟩
    go_wp2_with fail
    refine (awake27 (HE.out.upd0 HU1.out)).mono ?_
    rintro e w1 ⟨rfl, hu⟩
    go_wp2_with fail
    go_ret
    exact ⟨rfl, HU1.out.trans hu (by simp)⟩
  obtain ⟨w1, hw1⟩ : ∃ w1, w1 = w.alloc (.cells #[.string ⟨s.toArray⟩] 9) := ⟨_, rfl⟩
  have hu1 : Upd [] w w1 := by rw [hw1]; exact (Upd.refl [] w).alloc _
  have hc : w1.cell? ⟨w.heap.size, 0, none⟩ = some (.string ⟨s.toArray⟩) := by rw [hw1]; exact cell_of (i := 0) (heap_alloc_self _) rfl
  have q := long_one 300 s w.heap.size 1 _ (by omega) hc
  rw [decide_eq_false (by omega)] at q
  have Q := Lib.hid q; have HU1 := Lib.hid hu1; have HW1 := Lib.hid hw1; clear q hc hu1 hw1
  go_enter Tryd.func4, Tryd.ntmps4
  go_wp2_with fail
  rw [← HW1.out]
  refine Q.out.mono ?_
  rintro e w1' ⟨rfl, rfl⟩
  clear Q
  go_wp2_with fail
  refine (script_hex (HB.out.upd HU1.out (by simp)) (by omega)).mono ?_
  rintro e w2 ⟨rfl, hu2⟩
  have HU2 := Lib.hid (HU1.out.trans hu2 (by simp)); clear hu2
  have hxl := hexS_le bs
  go_wp2_with fail
  have q2 := script_bytes w2 (hexS bs) (by omega)
  rw [unhexS_hexS] at q2
  refine q2.mono ?_
  clear q2
  rintro e w3 ⟨vx, rfl, hvx, _, hu3⟩
  have hvx' : BytesV w3 vx bs := hvx
  have HX := Lib.hid hvx'; have HU3 := Lib.hid (HU2.out.trans hu3 (by simp)); clear hu3 hvx hvx'
  go_wp2_with fail
  refine (script_bytes w3 s (by omega)).mono ?_
  rintro e w4 ⟨vy, rfl, hvy, _, hu4⟩
  have HX4 := Lib.hid (HX.out.upd hu4 (by simp)); have HU4 := Lib.hid (HU3.out.trans hu4 (by simp)); clear hu4
  have hs1 := HX4.out.str (P := Tryd.prog) 25 9 5 Tryd.underlying25 Tryd.underlying5 Tryd.underlying9
  have hs2 := (HB.out.upd HU4.out (by simp)).str (P := Tryd.prog) 25 9 5 Tryd.underlying25 Tryd.underlying5 Tryd.underlying9
  have HE4 := Lib.hid (HE.out.upd0 HU4.out)
  cases hun : unhexS s with
  | none =>
    rw [hun] at hvy
    obtain ⟨Ay, cy, rfl, _, _⟩ := hvy
    simp only [Option.isSome_none, Option.getD_none, List.length_nil]
    go_wp2_with fail
    refine (awake27 HE4.out).mono ?_
    rintro e w5 ⟨rfl, hu5⟩
    go_wp2_with fail
    go_ret
    exact ⟨rfl, HU4.out.trans hu5 (by simp)⟩
  | some y =>
    rw [hun] at hvy
    have hxy := hexS_unhexS hun
    have hyl : y.length ≤ s.length := by have := unhexS_lim s; rw [hun] at this; exact this
    have HVY : Hid (BytesV w4 vy y) := Lib.hid hvy
    have HXY := Lib.hid hxy
    clear hun hvy hxy
    simp only [Option.isSome_some]
    go_wp2_with fail
    refine (script_hex HVY.out (by omega)).mono ?_
    rintro e w5 ⟨rfl, hu5⟩
    rw [HXY.out]
    have HU5 := Lib.hid (HU4.out.trans hu5 (by simp)); have HE5 := Lib.hid (HE4.out.upd0 hu5); clear hu5
    go_wp2_with fail
    refine (awake27 HE5.out).mono ?_
    rintro e w6 ⟨rfl, hu6⟩
    go_wp2_with fail
    go_ret
    exact ⟨rfl, HU5.out.trans hu6 (by simp)⟩
theorem walkA_ScriptHex (W : World) (v : Value) (bs : Bs) (hv : BytesV W v bs) (s : ByteArray) (hs : s.size ≤ maxLen) (hE : Env W) :
    Calls Tryd.prog 4 #[v, .string s] W fun e W' => e = .returned (.bool true) ∧ Below W.heap.size W W' := by
  have h := walk_ScriptHex (s := s.data.toList) hv hE
  exact h.mono fun e W' ⟨he, hu⟩ => ⟨he, hu.below (by simp)⟩
end Go.Proofs.YtajoldboafkpdaaDoor
