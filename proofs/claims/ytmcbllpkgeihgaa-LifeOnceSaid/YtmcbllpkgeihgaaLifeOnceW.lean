-- The walk of LifeOnce.
import Derived.Test.YtmcbllpkgeihgaaLifeAwake
import Derived.Test.YtmcbllpkgeihgaaLow
import Derived.Test.YtmcbllpkgeihgaaOpen
namespace Go.Proofs.Ytmcbllpkgeihgaa
open Go.RowKit Go.Lk
set_option linter.unusedVariables false
set_option linter.unusedSimpArgs false
set_option maxRecDepth 100000 in
set_option maxHeartbeats 3200000 in
theorem walk_LifeOnce (w : World) (vl : Value) (ls : List Int) (hl : SliceR w 1 (fun cs (n : Int) => cs = [.int .i64 n] ∧ (Lit.int .i64 n).wf = true) vl ls) :
    Calls Try.prog 11 #[vl] w fun e w' => e = .returned (.bool true) ∧ Below w.heap.size w w' := by
  obtain ⟨Al, cl, rfl, _⟩ := hl.form
  by_cases hc : 100 < ls.length
  · go_enter Try.func11, Try.ntmps11
    go_wp2_with (go_at_call 41; refine (awake23 _).mono ?_; rintro e w' ⟨rfl, hu⟩)
    go_ret
    exact ⟨rfl, hu.below (by simp)⟩
  go_enter Try.func11, Try.ntmps11
  go_wp2_with fail
  refine (life_new 1 _).mono ?_
  rintro e w1 ⟨lb, rfl, h1, u1, g1⟩
  have H1 := Lib.hid (show LifeAt w1 lb 1 0 0 from h1); have U1 := Lib.hid u1; clear h1 u1
  go_wp2_with fail
  go_loopw [4] (fun v4 wr => ∃ (k : Nat) (st ends done : Int), k ≤ ls.length ∧ v4 = .int .i64 k ∧ LifeAt wr lb st ends done ∧ ((done = 0 ∧ ends = 0 ∧ over st = false) ∨ (done = 1 ∧ ends = 1 ∧ over st = true)) ∧ Upd [] w wr) (fun v4 _ => ls.length - (intOf v4).toNat)
  case atStart => exact ⟨0, 1, 0, 0, by omega, rfl, H1.out, .inl ⟨rfl, rfl, rfl⟩, U1.out⟩
  case round =>
    obtain ⟨k, st, ends, done, hk, rfl, hs, hd, hu⟩ := hrel
    have HS := Lib.hid hs; have HU := Lib.hid hu; clear hs hu H1 U1
    by_cases hlt : k < ls.length
    · obtain ⟨ab, ao, cx, u, hv, hcell, hue, _⟩ := hl.at1 k hlt
      generalize ls[k] = x at *
      obtain rfl : u = .int .i64 x := by simpa using hue
      injection hv with hv1 _ hv3
      subst hv1 hv3
      have g0 : wr.cell? ⟨ab, ao + k, none⟩ = _ := (World.cell?_of_block (HU.out.block ab (World.block_lt_of_cell? _ _ hcell) (by simp))).trans hcell
      clear hcell hue
      have HD := Lib.hid hd; clear hd
      go_wp2_with fail
      refine (life_state HS.out).mono ?_
      rintro e w' ⟨rfl, rfl⟩
      go_wp2_with fail
      refine (life_ends HS.out).mono ?_
      rintro e w' ⟨rfl, rfl⟩
      go_wp2_with fail
      refine (Low_any x 12 (by omega) (by omega) _).mono ?_
      rintro e w' ⟨rfl, rfl⟩
      obtain ⟨to, hto⟩ : ∃ to : Int, to = (low x 12 : Int) := ⟨_, rfl⟩
      have hd12 := low_lt x 12 (by omega)
      rw [← hto]
      clear hto hd12
      obtain ⟨mm, hmm⟩ : ∃ mm, mm = may st to := ⟨_, rfl⟩
      have HM := Lib.hid hmm
      go_wp2_with fail
      refine (life_go HS.out (by rcases HD.out with h | h <;> omega) (IntWalk.i64_in _ (by rcases HD.out with h | h <;> omega)) to).mono ?_
      rintro e w3 ⟨rfl, hs3, hu3⟩
      rw [← hmm] at hs3 ⊢
      clear hmm
      have hu3' := HU.out.trans hu3 (by simp; omega)
      have HU3 := Lib.hid hu3'; clear hu3 hu3'
      obtain ⟨oo, hoo⟩ : ∃ oo, oo = over to := ⟨_, rfl⟩
      obtain ⟨os, hos⟩ : ∃ os, os = over st := ⟨_, rfl⟩
      rw [← hoo] at hs3
      have HO := Lib.hid hoo; have HOS := Lib.hid hos
      clear hoo hos
      rcases HD.out with ⟨rfl, rfl, ho⟩ | ⟨rfl, rfl, ho⟩
      · cases mm
        · have HS3 : Hid (LifeAt w3 lb st 0 0) := Lib.hid (by simpa using hs3)
          clear hs3
          have HF : Hid (over st = false) := Lib.hid ho
          clear ho
          go_wp2_with (first | (go_at_call 45; refine (life_state HS3.out).mono ?_; rintro e w' ⟨rfl, rfl⟩) | (go_at_call 46; refine (life_ends HS3.out).mono ?_; rintro e w' ⟨rfl, rfl⟩) | (go_at_call 37; refine (life_over st _).mono ?_; rintro e w' ⟨rfl, rfl⟩; rw [HF.out]))
          go_roundw
          case rel => exact ⟨k + 1, st, 0, 0, by omega, by go_num, HS3.out, .inl ⟨rfl, rfl, HF.out⟩, HU3.out⟩
          case measure => simp [intOf]; omega
        · cases oo
          · have HS3 : Hid (LifeAt w3 lb to 0 0) := Lib.hid (by simpa using hs3)
            clear hs3 ho
            go_wp2_with (first | (go_at_call 45; refine (life_state HS3.out).mono ?_; rintro e w' ⟨rfl, rfl⟩) | (go_at_call 46; refine (life_ends HS3.out).mono ?_; rintro e w' ⟨rfl, rfl⟩) | (go_at_call 37; refine (life_over to _).mono ?_; rintro e w' ⟨rfl, rfl⟩; rw [← HO.out]))
            go_roundw
            case rel => exact ⟨k + 1, to, 0, 0, by omega, by go_num, HS3.out, .inl ⟨rfl, rfl, HO.out.symm⟩, HU3.out⟩
            case measure => simp [intOf]; omega
          · have HS3 : Hid (LifeAt w3 lb to 1 1) := Lib.hid (by simpa using hs3)
            clear hs3 ho
            go_wp2_with (first | (go_at_call 45; refine (life_state HS3.out).mono ?_; rintro e w' ⟨rfl, rfl⟩) | (go_at_call 46; refine (life_ends HS3.out).mono ?_; rintro e w' ⟨rfl, rfl⟩) | (go_at_call 37; refine (life_over to _).mono ?_; rintro e w' ⟨rfl, rfl⟩; rw [← HO.out]))
            go_roundw
            case rel => exact ⟨k + 1, to, 1, 1, by omega, by go_num, HS3.out, .inr ⟨rfl, rfl, HO.out.symm⟩, HU3.out⟩
            case measure => simp [intOf]; omega
      · obtain rfl : mm = false := by rw [HM.out]; exact over_stays ho to
        have HS3 : Hid (LifeAt w3 lb st 1 1) := Lib.hid (by simpa using hs3)
        clear hs3
        have HF : Hid (over st = true) := Lib.hid ho
        clear ho
        go_wp2_with (first | (go_at_call 45; refine (life_state HS3.out).mono ?_; rintro e w' ⟨rfl, rfl⟩) | (go_at_call 46; refine (life_ends HS3.out).mono ?_; rintro e w' ⟨rfl, rfl⟩) | (go_at_call 37; refine (life_over st _).mono ?_; rintro e w' ⟨rfl, rfl⟩; rw [HF.out]))
        go_roundw
        case rel => exact ⟨k + 1, st, 1, 1, by omega, by go_num, HS3.out, .inr ⟨rfl, rfl, HF.out⟩, HU3.out⟩
        case measure => simp [intOf]; omega
    · obtain rfl : k = ls.length := by omega
      go_wp2_with (go_at_call 41; refine (awake23 _).mono ?_; rintro e w' ⟨rfl, hu⟩)
      go_ret
      exact ⟨rfl, (HU.out.trans hu (by simp)).below (by simp)⟩
end Go.Proofs.Ytmcbllpkgeihgaa
