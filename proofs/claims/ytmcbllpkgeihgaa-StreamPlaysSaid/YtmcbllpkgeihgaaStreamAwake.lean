-- lockkeeperlaw11.awake answers true.
import Derived.Test.YtmcbllpkgeihgaaStream
namespace Go.Proofs.Ytmcbllpkgeihgaa
open Go.RowKit Go.Lk
set_option linter.unusedVariables false
set_option linter.unusedSimpArgs false
set_option maxHeartbeats 800000 in
set_option maxRecDepth 100000 in
theorem awake11 (w : World) :
    Calls Try.prog 32 #[] w fun e w' => e = .returned (.bool true) ∧ Upd [] w w' := by
  go_enter Try.func32, Try.ntmps32
  go_wp2_with fail
  refine (strm_new w 2 0 2 0 (by omega) (by omega)).mono ?_
  rintro e w1 ⟨sb, b, rb, rfl, hs1, hu1, g1, g2, g3⟩
  have S1 := Lib.hid hs1; have U1 := Lib.hid hu1; clear hs1 hu1
  go_wp2_with fail
  have lt1 := lt_of_block S1.out.hb
  have lt2 := S1.out.ring.lt
  refine (strm_chunk (S1.out.upd ((Upd.refl [] _).alloc _) (by simp) (by simp) (by simp)) _ [1, 2] 2 (by simp) (by simp) (bytesAt_new _ _ [1, 2] _) (fun ab ao _ e => by injection e with e; injection e with e; omega)).mono ?_
  rintro e w2 ⟨rfl, hs2, hu2⟩
  simp at hs2
  have S2 := Lib.hid hs2; have U2 := Lib.hid ((U1.out.alloc _).trans hu2 (by simp; omega)); clear hs2 hu2
  go_wp2_with fail
  refine (strm_chunk_no (S2.out.upd ((Upd.refl [] _).alloc _) (by simp) (by simp) (by simp)) _ 1 1 (by simp) (by simp)).mono ?_
  rintro e w3 ⟨rfl, rfl⟩
  simp only [ne_eq, not_true_eq_false, if_false, Nat.one_ne_zero, false_or, show ¬ (64 < 1) by omega]
  have S3 := Lib.hid (S2.out.upd ((Upd.refl [] _).alloc (.cells #[.int .u8 3] 5)) (by simp) (by simp) (by simp))
  have U3 := Lib.hid (U2.out.alloc (.cells #[.int .u8 3] 5))
  go_wp2_with fail
  refine (strm_read S3.out 1).mono ?_
  rintro e w4 ⟨v4, rfl, _, _, hs4, hu4⟩
  simp at hs4
  have S4 := Lib.hid hs4; have U4 := Lib.hid (U3.out.trans hu4 (by simp; omega)); clear hs4 hu4
  go_wp2_with fail
  refine (strm_chunk_no (S4.out.upd ((Upd.refl [] _).alloc _) (by simp) (by simp) (by simp)) _ 1 1 (by simp) (by simp)).mono ?_
  rintro e w5 ⟨rfl, rfl⟩
  simp only [ne_eq, not_true_eq_false, if_false, Nat.one_ne_zero, false_or, show ¬ (64 < 1) by omega]
  have S5 := Lib.hid (S4.out.upd ((Upd.refl [] _).alloc (.cells #[.int .u8 3] 5)) (by simp) (by simp) (by simp))
  have U5 := Lib.hid (U4.out.alloc (.cells #[.int .u8 3] 5))
  go_wp2_with fail
  refine (strm_read S5.out 9).mono ?_
  rintro e w6 ⟨v6, rfl, _, _, hs6, hu6⟩
  simp at hs6
  have S6 := Lib.hid hs6; have U6 := Lib.hid (U5.out.trans hu6 (by simp; omega)); clear hs6 hu6
  go_wp2_with fail
  have lt6 := S6.out.ring.lt
  refine (strm_chunk (S6.out.upd ((Upd.refl [] _).alloc _) (by simp) (by simp) (by simp)) _ [3] 1 (by simp) (by simp) (bytesAt_new _ _ [3] _) (fun ab ao _ e => by injection e with e; injection e with e; omega)).mono ?_
  rintro e w7 ⟨rfl, hs7, hu7⟩
  have S7 := Lib.hid hs7; have U7 := Lib.hid ((U6.out.alloc _).trans hu7 (by simp; omega)); clear hs7 hu7
  go_wp2_with fail
  refine (strm_state S7.out).mono ?_
  rintro e w8 ⟨rfl, rfl⟩
  go_wp2_with fail
  go_ret
  exact ⟨rfl, U7.out⟩
end Go.Proofs.Ytmcbllpkgeihgaa
