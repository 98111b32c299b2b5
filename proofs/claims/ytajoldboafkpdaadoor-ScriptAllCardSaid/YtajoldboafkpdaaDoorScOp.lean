-- script.op, script.opOf: contracts.
import Derived.Test.YtajoldboafkpdaaDoorProg
import Derived.Test.YtajoldboafkpdaaDoorActs
import Derived.Outline
namespace Go.Proofs.YtajoldboafkpdaaDoor
set_option linter.unusedSimpArgs false
set_option linter.unusedVariables false
open Go.RowKit Go.Lk
theorem opS_out {n : Int} (h : n < 1 ∨ 14 < n) : opS n = [] := if_pos h
set_option maxRecDepth 100000 in
set_option maxHeartbeats 1600000 in
theorem script_op (s : Int) (w : World) :
    Calls Tryd.prog 38 #[.int .i64 s] w fun e w' => e = .returned (.string ⟨(opS s).toArray⟩) ∧ Upd [] w w' := by
  by_cases h : s < 1 ∨ 14 < s
  · rw [opS_out h]
    rcases h with h | h
    · go_enter Tryd.func38, Tryd.ntmps38
      go_wp2
      go_ret
      exact ⟨rfl, (Upd.refl _ _).alloc _⟩
    · have h' : ¬ s < 1 := by omega
      go_enter Tryd.func38, Tryd.ntmps38
      go_wp2
      go_ret
      exact ⟨rfl, (Upd.refl _ _).alloc _⟩
  · rcases (show s = 1 ∨ s = 2 ∨ s = 3 ∨ s = 4 ∨ s = 5 ∨ s = 6 ∨ s = 7 ∨ s = 8 ∨ s = 9 ∨ s = 10 ∨ s = 11 ∨ s = 12 ∨ s = 13 ∨ s = 14 by omega) with rfl | rfl | rfl | rfl | rfl | rfl | rfl | rfl | rfl | rfl | rfl | rfl | rfl | rfl
    all_goals (
      go_enter Tryd.func38, Tryd.ntmps38
      go_wp2
      go_ret
      exact ⟨rfl, (Upd.refl _ _).alloc _⟩)
theorem opOfS_first {w : Bs} {k : Nat} (hk : k < 14) (h : opS (k + 1) = w) (hb : ∀ j : Nat, j < k → opS ((j : Int) + 1) ≠ w) : opOfS w = k + 1 := by
  unfold opOfS
  have e : ∀ (j : Nat) (hj : j < 14), opS ((j : Int) + 1) = opW[j]'(by show j < 14; exact hj) := by
    intro j hj
    unfold opS
    rw [if_neg (by omega)]
    have : ((j : Int) + 1 - 1).toNat = j := by omega
    rw [this, List.getD_eq_getElem?_getD, List.getElem?_eq_getElem (by show j < 14; exact hj)]; rfl
  have hf : opW.findIdx? (· == w) = some k := by
    rw [List.findIdx?_eq_some_iff_getElem]
    refine ⟨by show k < 14; exact hk, ?_, ?_⟩
    · rw [← e k hk, h]; simp
    · intro j hj
      rw [← e j (by omega)]
      simpa using hb j hj
  rw [hf]
theorem opOfS_none {w : Bs} (hb : ∀ j : Nat, j < 14 → opS ((j : Int) + 1) ≠ w) : opOfS w = 0 := by
  unfold opOfS
  have hf : opW.findIdx? (· == w) = none := by
    rw [List.findIdx?_eq_none_iff]
    intro x hx
    obtain ⟨j, hj, rfl⟩ := List.getElem_of_mem hx
    have hj' : j < 14 := hj
    have := hb j hj'
    unfold opS at this
    rw [if_neg (by omega)] at this
    have e : ((j : Int) + 1 - 1).toNat = j := by omega
    rw [e, List.getD_eq_getElem?_getD, List.getElem?_eq_getElem hj] at this
    simpa using this
  rw [hf]
set_option maxRecDepth 100000 in
set_option maxHeartbeats 1600000 in
theorem script_opOf (x : Bs) (w : World) :
    Calls Tryd.prog 32 #[.string ⟨x.toArray⟩] w fun e w' => e = .returned (.int .i64 (opOfS x)) ∧ Upd [] w w' := by
  go_enter Tryd.func32, Tryd.ntmps32
  go_wp2_with fail
  go_loopw [3] (fun v3 wr => ∃ (k : Nat), k ≤ 14 ∧ v3 = .int .i64 ((k : Int) + 1) ∧ (∀ j : Nat, j < k → opS ((j : Int) + 1) ≠ x) ∧ Upd [] w wr) (fun v3 _ => 15 - (intOf v3).toNat)
  case atStart => exact ⟨0, by omega, rfl, fun j h => by omega, Upd.refl _ _⟩
  case round =>
    obtain ⟨k, hk, rfl, hb, hu⟩ := hrel
    have HB := Lib.hid hb; have HU := Lib.hid hu; clear hb hu
    by_cases hlt : k < 14
    · go_wp2_with fail
      refine (script_op _ _).mono ?_
      rintro e w2 ⟨rfl, hu2⟩
      have HU2 := Lib.hid (HU.out.trans hu2 (by simp)); clear hu2
      obtain ⟨o, ho⟩ : ∃ o, o = opS ((k : Int) + 1) := ⟨_, rfl⟩
      rw [← ho]
      have HO := Lib.hid ho; clear ho
      by_cases hx : o = x
      · subst hx
        have hr := opOfS_first hlt HO.out.symm HB.out
        have HR := Lib.hid hr; clear hr
        go_wp2
        go_ret
        rw [HR.out]
        exact ⟨rfl, HU2.out⟩
      · have hx1 : (o == x) = false := by simpa using hx
        go_wp2_with fail
        go_roundw
        case rel =>
          refine ⟨k + 1, by omega, by go_num, fun j hj => ?_, HU2.out⟩
          rcases Nat.lt_or_ge j k with h | h
          · exact HB.out j h
          · obtain rfl : j = k := by omega
            rw [← HO.out]; exact hx
        case measure => simp [intOf]; omega
    · obtain rfl : k = 14 := by omega
      have hr := opOfS_none HB.out
      have HR := Lib.hid hr; clear hr
      go_wp2
      go_ret
      rw [HR.out]
      exact ⟨rfl, HU.out⟩
end Go.Proofs.YtajoldboafkpdaaDoor
