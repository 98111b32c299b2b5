-- lockkeeperlaw23.awake answers true; facts of the table of states.
import Derived.Test.YtmcbllpkgeihgaaLifeL
namespace Go.Proofs.Ytmcbllpkgeihgaa
open Go.RowKit Go.Lk
set_option linter.unusedVariables false
set_option linter.unusedSimpArgs false
theorem over_stays {a : Int} (h : over a = true) (b : Int) : may a b = false := by
  simp [over] at h
  unfold may
  simp only [show a ≠ 1 by omega, show a ≠ 2 by omega, show a ≠ 3 by omega, show a ≠ 4 by omega, show a ≠ 5 by omega, if_false]
theorem may_named {a b : Int} (h : may a b = true) : 1 ≤ b ∧ b ≤ 10 := by
  unfold may at h
  split at h
  · simp at h; omega
  split at h
  · simp at h; omega
  split at h
  · simp at h; omega
  split at h
  · simp at h; omega
  split at h
  · simp at h; omega
  · cases h
set_option maxRecDepth 100000 in
set_option maxHeartbeats 1600000 in
theorem awake23 (w : World) : Calls Try.prog 41 #[] w fun e w' => e = .returned (.bool true) ∧ Upd [] w w' := by
  go_enter Try.func41, Try.ntmps41
  go_wp2_with fail
  refine (life_new 2 _).mono ?_
  rintro e w1 ⟨lb, rfl, h1, u1, g1⟩
  have H1 := Lib.hid (show LifeAt w1 lb 2 0 0 from h1); have U1 := Lib.hid u1; clear h1 u1
  go_wp2_with fail
  refine (life_go H1.out (.inl rfl) rfl 4).mono ?_
  rintro e w2 ⟨rfl, h2, u2⟩
  rw [show may 2 4 = true from rfl]
  have H2 := Lib.hid (show LifeAt w2 lb 4 0 0 from h2); have U2 := Lib.hid (U1.out.trans u2 (by simp; omega)); clear h2 u2 H1 U1
  go_wp2_with fail
  refine (life_go H2.out (.inl rfl) rfl 6).mono ?_
  rintro e w3 ⟨rfl, h3, u3⟩
  rw [show may 4 6 = false from rfl]
  have H3 := Lib.hid (show LifeAt w3 lb 4 0 0 from h3); have U3 := Lib.hid (U2.out.trans u3 (by simp; omega)); clear h3 u3 H2 U2
  go_wp2_with fail
  refine (life_go H3.out (.inl rfl) rfl 9).mono ?_
  rintro e w4 ⟨rfl, h4, u4⟩
  rw [show may 4 9 = true from rfl]
  have H4 := Lib.hid (show LifeAt w4 lb 9 1 1 from h4); have U4 := Lib.hid (U3.out.trans u4 (by simp; omega)); clear h4 u4 H3 U3
  go_wp2_with fail
  refine (life_go H4.out (.inr rfl) rfl 10).mono ?_
  rintro e w5 ⟨rfl, h5, u5⟩
  rw [show may 9 10 = false from rfl]
  have H5 := Lib.hid (show LifeAt w5 lb 9 1 1 from h5); have U5 := Lib.hid (U4.out.trans u5 (by simp; omega)); clear h5 u5 H4 U4
  go_wp2_with fail
  refine (life_ends H5.out).mono ?_
  rintro e w6 ⟨rfl, rfl⟩
  go_wp2_with fail
  refine (life_state H5.out).mono ?_
  rintro e w6 ⟨rfl, rfl⟩
  go_wp2_with fail
  refine (life_name 3 _).mono ?_
  rintro e w6 ⟨rfl, u6⟩
  rw [show nameOf 3 = ⟨#[104, 101, 108, 100]⟩ from rfl]
  have U6 := Lib.hid (U5.out.trans u6 (by simp)); clear u6
  go_wp2_with fail
  go_ret
  exact ⟨rfl, U6.out⟩
end Go.Proofs.Ytmcbllpkgeihgaa
