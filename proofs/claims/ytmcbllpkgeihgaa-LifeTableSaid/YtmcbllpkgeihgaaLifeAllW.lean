-- The walks of LifeAll and LifeTable.
import Derived.Test.YtmcbllpkgeihgaaLifeAwake
namespace Go.Proofs.Ytmcbllpkgeihgaa
open Go.RowKit Go.Lk
set_option linter.unusedVariables false
set_option linter.unusedSimpArgs false
set_option maxRecDepth 100000 in
set_option maxHeartbeats 1600000 in
theorem walk_LifeAll (w : World) (a : Int) (_ : (Lit.int .i64 a).wf = true) (b : Int) (_ : (Lit.int .i64 b).wf = true) :
    Calls Try.prog 8 #[.int .i64 a, .int .i64 b] w fun e w' => e = .returned (.bool true) ∧ Below w.heap.size w w' := by
  go_enter Try.func8, Try.ntmps8
  go_wp2_with fail
  refine (life_name a _).mono ?_
  rintro e w1 ⟨rfl, u1⟩
  have U1 := Lib.hid u1; clear u1
  go_wp2_with fail
  refine (rlife_name a _).mono ?_
  rintro e w2 ⟨rfl, rfl⟩
  generalize nameOf a = nm at *
  go_wp2_with fail
  refine (life_over a _).mono ?_
  rintro e w2 ⟨rfl, rfl⟩
  go_wp2_with fail
  refine (rlife_over a _).mono ?_
  rintro e w2 ⟨rfl, rfl⟩
  generalize over a = oo at *
  go_wp2_with fail
  refine (life_may a b _).mono ?_
  rintro e w2 ⟨rfl, rfl⟩
  go_wp2_with fail
  refine (rlife_may a b _).mono ?_
  rintro e w2 ⟨rfl, rfl⟩
  generalize may a b = mm at *
  go_wp2_with fail
  refine (awake23 _).mono ?_
  rintro e w2 ⟨rfl, u2⟩
  have U2 := Lib.hid (U1.out.trans u2 (by simp)); clear u2
  go_wp2_with fail
  go_ret
  exact ⟨rfl, U2.out.below (by simp)⟩
set_option maxRecDepth 100000 in
set_option maxHeartbeats 3200000 in
theorem walk_LifeTable (w : World) :
    Calls Try.prog 9 #[] w fun e w' => e = .returned (.bool true) ∧ Below w.heap.size w w' := by
  go_enter Try.func9, Try.ntmps9
  go_wp2_with fail
  go_loopw [1] (fun v1 wr => ∃ (a : Int), -1 ≤ a ∧ a ≤ 13 ∧ v1 = .int .i64 a ∧ Upd [] w wr) (fun v1 _ => (13 - intOf v1).toNat)
  case atStart => exact ⟨-1, by omega, by omega, rfl, Upd.refl _ _⟩
  case round =>
    obtain ⟨a, ha1, ha2, rfl, hu⟩ := hrel
    have HU := Lib.hid hu; clear hu
    by_cases ha : a ≤ 12
    · go_wp2_with fail
      go_loopw [2] (fun v2 wi => ∃ (b : Int), -1 ≤ b ∧ b ≤ 13 ∧ v2 = .int .i64 b ∧ Upd [] w wi) (fun v2 _ => (13 - intOf v2).toNat)
      case atStart => exact ⟨-1, by omega, by omega, rfl, HU.out⟩
      case round =>
        obtain ⟨b, hb1, hb2, rfl, hu⟩ := hrel
        have HV := Lib.hid hu; clear hu
        by_cases hb : b ≤ 12
        · go_wp2_with fail
          refine (life_may a b _).mono ?_
          rintro e w2 ⟨rfl, rfl⟩
          go_wp2_with fail
          refine (rlife_may a b _).mono ?_
          rintro e w2 ⟨rfl, rfl⟩
          obtain ⟨mm, hmm⟩ : ∃ mm, mm = may a b := ⟨_, rfl⟩
          obtain ⟨oo, hoo⟩ : ∃ oo, oo = over a := ⟨_, rfl⟩
          have HM := Lib.hid hmm; have HO := Lib.hid hoo
          rw [← hmm]
          clear hmm hoo
          go_wp2_with fail
          refine (life_over a _).mono ?_
          rintro e w2 ⟨rfl, rfl⟩
          rw [← HO.out]
          cases oo
          case false =>
            cases mm
            case false =>
              go_wp2_with fail
              refine (life_may a b _).mono ?_
              rintro e w2 ⟨rfl, rfl⟩
              rw [← HM.out]
              go_wp2_with fail
              go_roundw
              case rel => exact ⟨b + 1, by omega, by omega, by go_num, HV.out⟩
              case measure => simp [intOf]; omega
            case true =>
              go_wp2_with fail
              refine (life_may a b _).mono ?_
              rintro e w2 ⟨rfl, rfl⟩
              rw [← HM.out]
              go_wp2_with fail
              refine (life_name b _).mono ?_
              rintro e w2 ⟨rfl, u2⟩
              have U2 := Lib.hid u2; clear u2
              have hne : (nameOf b).toList.isEmpty = false := by rw [nameOf_eq]; have := may_named HM.out.symm; simp [this]
              generalize nameOf b = nm at *
              go_wp2_with fail
              go_roundw
              case rel => exact ⟨b + 1, by omega, by omega, by go_num, HV.out.trans U2.out (by simp)⟩
              case measure => simp [intOf]; omega
          case true =>
            obtain rfl : mm = false := by rw [HM.out]; exact over_stays HO.out.symm b
            go_wp2_with fail
            refine (life_may a b _).mono ?_
            rintro e w2 ⟨rfl, rfl⟩
            rw [← HM.out]
            go_wp2_with fail
            refine (life_may a b _).mono ?_
            rintro e w2 ⟨rfl, rfl⟩
            rw [← HM.out]
            go_wp2_with fail
            go_roundw
            case rel => exact ⟨b + 1, by omega, by omega, by go_num, HV.out⟩
            case measure => simp [intOf]; omega
        · go_wp2_with fail
          go_roundw
          case rel => exact ⟨a + 1, by omega, by omega, by go_num, HV.out⟩
          case measure => simp [intOf]; omega
    · obtain rfl : a = 13 := by omega
      go_wp2_with fail
      refine (awake23 _).mono ?_
      rintro e w2 ⟨rfl, u2⟩
      have U2 := Lib.hid (HU.out.trans u2 (by simp)); clear u2
      go_wp2_with fail
      go_ret
      exact ⟨rfl, U2.out.below (by simp)⟩
end Go.Proofs.Ytmcbllpkgeihgaa
