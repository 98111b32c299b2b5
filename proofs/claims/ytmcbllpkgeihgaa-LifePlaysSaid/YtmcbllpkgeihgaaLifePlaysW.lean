-- The walks of LifePlays and LifeOnce.
import Derived.Test.YtmcbllpkgeihgaaLifeAwake
import Derived.Test.YtmcbllpkgeihgaaLow
import Derived.Test.YtmcbllpkgeihgaaOpen
namespace Go.Proofs.Ytmcbllpkgeihgaa
open Go.RowKit Go.Lk
set_option linter.unusedVariables false
set_option linter.unusedSimpArgs false
set_option maxRecDepth 100000 in
theorem rlife_new (s : Int) (w : World) :
    Calls Try.prog 43 #[.int .i64 s] w fun e w' => e = .returned (.int .i64 (first s)) ∧ w = w' := by
  have hn := nameOf_eq s
  by_cases h : 1 ≤ s ∧ s ≤ 10
  case' pos => obtain ⟨t, ht⟩ : ∃ t, t = s := ⟨_, rfl⟩
  case' neg => obtain ⟨t, ht⟩ : ∃ t, t = (1 : Int) := ⟨_, rfl⟩
  all_goals (
    have hf : first s = t := by unfold first; simp [h, ht]
    rw [hf]
    have hn' := hn
    first | rw [decide_eq_true h] at hn' | rw [decide_eq_false h] at hn'
    simp only [Bool.not_true, Bool.not_false] at hn'
    have HT := Lib.hid ht; have HN := Lib.hid hn'
    clear hn hf ht hn'
    go_enter Try.func43, Try.ntmps43
    go_wp2_with fail
    refine (rlife_name s _).mono ?_
    rintro e w1 ⟨rfl, rfl⟩
    generalize nameOf s = nm at *
    have hn' := HN.out
    go_wp2_with fail
    go_ret
    rw [HT.out]
    exact ⟨rfl, rfl⟩)
set_option maxRecDepth 100000 in
set_option maxHeartbeats 3200000 in
theorem walk_LifePlays (w : World) (s : Int) (_ : (Lit.int .i64 s).wf = true) (vl : Value) (ls : List Int) (hl : SliceR w 1 (fun cs (n : Int) => cs = [.int .i64 n] ∧ (Lit.int .i64 n).wf = true) vl ls) :
    Calls Try.prog 10 #[.int .i64 s, vl] w fun e w' => e = .returned (.bool true) ∧ Below w.heap.size w w' := by
  obtain ⟨Al, cl, rfl, _⟩ := hl.form
  by_cases hc : 100 < ls.length
  · go_enter Try.func10, Try.ntmps10
    go_wp2_with (go_at_call 41; refine (awake23 _).mono ?_; rintro e w' ⟨rfl, hu⟩)
    go_ret
    exact ⟨rfl, hu.below (by simp)⟩
  go_enter Try.func10, Try.ntmps10
  go_wp2_with fail
  refine (life_new s _).mono ?_
  rintro e w1 ⟨lb, rfl, h1, u1, g1⟩
  have H1 := Lib.hid h1; have U1 := Lib.hid u1; clear h1 u1
  go_wp2_with fail
  refine (rlife_new s _).mono ?_
  rintro e w2 ⟨rfl, rfl⟩
  generalize first s = s0 at *
  go_wp2_with fail
  go_loopw [6, 7, 8] (fun v6 v7 v8 wr => ∃ (k : Nat) (st ends done : Int), k ≤ ls.length ∧ v8 = .int .i64 k ∧ v6 = .int .i64 st ∧ v7 = .int .i64 ends ∧ LifeAt wr lb st ends done ∧ ((done = 0 ∧ ends = 0) ∨ (done = 1 ∧ ends = 1 ∧ over st = true)) ∧ Upd [] w wr) (fun _ _ v8 _ => ls.length - (intOf v8).toNat)
  case atStart => exact ⟨0, s0, 0, 0, by omega, rfl, rfl, rfl, H1.out, .inl ⟨rfl, rfl⟩, U1.out⟩
  case round =>
    obtain ⟨k, st, ends, done, hk, rfl, rfl, rfl, hs, hd, hu⟩ := hrel
    have HS := Lib.hid hs; have HD := Lib.hid hd; have HU := Lib.hid hu; clear hs hd hu H1 U1
    by_cases hlt : k < ls.length
    · obtain ⟨ab, ao, cx, u, hv, hcell, hue, _⟩ := hl.at1 k hlt
      generalize ls[k] = x at *
      obtain rfl : u = .int .i64 x := by simpa using hue
      injection hv with hv1 _ hv3
      subst hv1 hv3
      have g0 : wr.cell? ⟨ab, ao + k, none⟩ = _ := (World.cell?_of_block (HU.out.block ab (World.block_lt_of_cell? _ _ hcell) (by simp))).trans hcell
      clear hcell hue
      go_wp2_with fail
      refine (Low_any x 3 (by omega) (by omega) _).mono ?_
      rintro e w' ⟨rfl, rfl⟩
      have hd3 := low_lt x 3 (by omega)
      generalize low x 3 = d3 at *
      by_cases h3 : 0 < d3
      case' pos =>
        go_wp2_with fail
        refine (Low_any x 13 (by omega) (by omega) _).mono ?_
        rintro e w' ⟨rfl, rfl⟩
        have hd13 := low_lt x 13 (by omega)
        obtain ⟨to, hto⟩ : ∃ to : Int, to = (low x 13 : Int) - 1 := ⟨_, rfl⟩
        generalize low x 13 = d13 at *
        go_wp2_with fail
        rw [← hto]
        clear hto
      case' neg =>
        go_wp2_with fail
        obtain ⟨to, hto⟩ : ∃ to : Int, to = x := ⟨_, rfl⟩
        rw [← hto]
        clear hto
      all_goals (
        refine (rlife_may st to _).mono ?_
        rintro e w' ⟨rfl, rfl⟩
        obtain ⟨mm, hmm⟩ : ∃ mm, mm = may st to := ⟨_, rfl⟩
        have HM := Lib.hid hmm
        rw [← hmm]
        clear hmm
        go_wp2_with fail
        refine (life_go HS.out (by rcases HD.out with h | h <;> omega) (IntWalk.i64_in _ (by rcases HD.out with h | h <;> omega)) to).mono ?_
        rintro e w3 ⟨rfl, hs3, hu3⟩
        rw [← HM.out] at hs3 ⊢
        cases mm
        · simp only [Bool.false_and, Bool.false_eq_true, if_false] at hs3
          have HS3 := Lib.hid hs3; have HU3 := Lib.hid (HU.out.trans hu3 (by simp; omega)); clear hs3 hu3
          go_wp2_with fail
          refine (life_state HS3.out).mono ?_
          rintro e w' ⟨rfl, rfl⟩
          go_wp2_with fail
          refine (life_ends HS3.out).mono ?_
          rintro e w' ⟨rfl, rfl⟩
          go_wp2_with fail
          go_roundw
          case rel => exact ⟨k + 1, st, ends, done, by omega, by go_num, rfl, rfl, HS3.out, HD.out, HU3.out⟩
          case measure => simp [intOf]; omega
        · obtain ⟨rfl, rfl⟩ : done = 0 ∧ ends = 0 := by
            rcases HD.out with h | ⟨_, _, h⟩
            · exact h
            · have := over_stays h to; rw [← HM.out] at this; cases this
          obtain ⟨oo, hoo⟩ : ∃ oo, oo = over to := ⟨_, rfl⟩
          have HO := Lib.hid hoo
          rw [← hoo] at hs3
          clear hoo
          simp only [Bool.true_and, if_true, decide_true, Bool.and_true] at hs3
          have HS3 := Lib.hid hs3; have HU3 := Lib.hid (HU.out.trans hu3 (by simp; omega)); clear hs3 hu3
          go_wp2_with fail
          refine (rlife_over to _).mono ?_
          rintro e w' ⟨rfl, rfl⟩
          rw [← HO.out]
          cases oo
          · have HS4 : Hid (LifeAt w3 lb to 0 0) := Lib.hid (by simpa using HS3.out)
            go_wp2_with fail
            refine (life_state HS4.out).mono ?_
            rintro e w' ⟨rfl, rfl⟩
            go_wp2_with fail
            refine (life_ends HS4.out).mono ?_
            rintro e w' ⟨rfl, rfl⟩
            go_wp2_with fail
            go_roundw
            case rel => exact ⟨k + 1, to, 0, 0, by omega, by go_num, rfl, rfl, HS4.out, .inl ⟨rfl, rfl⟩, HU3.out⟩
            case measure => simp [intOf]; omega
          · have HS4 : Hid (LifeAt w3 lb to 1 1) := Lib.hid (by simpa using HS3.out)
            go_wp2_with fail
            refine (life_state HS4.out).mono ?_
            rintro e w' ⟨rfl, rfl⟩
            go_wp2_with fail
            refine (life_ends HS4.out).mono ?_
            rintro e w' ⟨rfl, rfl⟩
            go_wp2_with fail
            go_roundw
            case rel => exact ⟨k + 1, to, 1, 1, by omega, by go_num, rfl, rfl, HS4.out, .inr ⟨rfl, rfl, HO.out.symm⟩, HU3.out⟩
            case measure => simp [intOf]; omega)
    · obtain rfl : k = ls.length := by omega
      go_wp2_with (go_at_call 41; refine (awake23 _).mono ?_; rintro e w' ⟨rfl, hu⟩)
      go_ret
      exact ⟨rfl, (HU.out.trans hu (by simp)).below (by simp)⟩
end Go.Proofs.Ytmcbllpkgeihgaa
