-- The walk of the law StreamStopped.
import Derived.Test.YtmcbllpkgeihgaaStreamAwake
import Derived.Test.YtmcbllpkgeihgaaStreamStop
import Derived.Test.YtmcbllpkgeihgaaOpen
namespace Go.Proofs.Ytmcbllpkgeihgaa
open Go.RowKit Go.Lk
set_option linter.unusedVariables false
set_option linter.unusedSimpArgs false
set_option maxHeartbeats 3200000 in
set_option maxRecDepth 100000 in
theorem walk_StreamStopped (w : World) (v : Value) (bs : List UInt8) (hb : BytesV w v bs) (ended : Bool) :
    Calls Try.prog 13 #[v, .bool ended] w fun e w' => e = .returned (.bool true) ∧ Below w.heap.size w w' := by
  obtain ⟨A, c, rfl, _, hb⟩ := hb
  by_cases hc : 1 ≤ bs.length ∧ bs.length ≤ 64
  case neg =>
    go_enter Try.func13, Try.ntmps13
    go_wp2_with (go_at_call 32; refine (awake11 _).mono ?_; rintro e w' ⟨rfl, hu⟩)
    all_goals (go_ret; exact ⟨rfl, hu.below (by simp)⟩)
  obtain ⟨hc1, hc2⟩ := hc
  have HB := Lib.hid hb; clear hb
  go_enter Try.func13, Try.ntmps13
  go_wp2_with fail
  refine (strm_new w 1000 5 1000 5 (by omega) (by omega)).mono ?_
  rintro e w1 ⟨sb, b, rb, rfl, hs1, hu1, g1, g2, g3⟩
  have S1 := Lib.hid hs1; have U1 := Lib.hid hu1; clear hs1 hu1
  go_wp2_with fail
  refine (strm_chunk S1.out A bs c hc1 hc2 (HB.out.upd0 U1.out) (fun ab ao h0 e => by have := HB.out.lt h0 ab ao e; omega)).mono ?_
  rintro e w2 ⟨rfl, hs2, hu2⟩
  have S2 := Lib.hid hs2; have U2 := Lib.hid (U1.out.trans hu2 (by simp; omega)); clear hs2 hu2
  simp only [List.nil_append, List.length_nil, Nat.zero_add, show decide (1000 ≤ bs.length) = false by simp; omega] at S2
  cases ended
  case' true =>
    go_wp2_with fail
    refine (strm_end S2.out).mono ?_
    rintro e w3 ⟨rfl, hs3, hu3⟩
    simp only [if_pos rfl] at hs3
    have S3 := Lib.hid hs3; have U3 := Lib.hid (U2.out.trans hu3 (by simp; omega)); clear hs3 hu3 S2 U2
  case' false =>
    have S3 := S2
    have U3 := U2
    clear S2 U2
  all_goals (
    go_wp2_with fail
    refine (strm_stop S3.out).mono ?_
    rintro e w4 ⟨rfl, hs4, hu4⟩
    have S4 := Lib.hid hs4; have U4 := Lib.hid (U3.out.trans hu4 (by simp; omega)); clear hs4 hu4 S3 U3
    go_wp2_with fail
    refine (strm_stop_again S4.out).mono ?_
    rintro e w5 ⟨rfl, hs5, hu5⟩
    have S5 := Lib.hid hs5; have U5 := Lib.hid (U4.out.trans hu5 (by simp)); clear hs5 hu5 S4 U4
    go_wp2_with fail
    refine (strm_len S5.out).mono ?_
    rintro e w6 ⟨rfl, rfl⟩
    simp only [List.length_nil]
    go_wp2_with fail
    refine (strm_over S5.out).mono ?_
    rintro e w6 ⟨rfl, rfl⟩
    go_wp2_with fail
    refine (strm_paused S5.out).mono ?_
    rintro e w6 ⟨rfl, rfl⟩
    go_wp2_with fail
    refine (strm_chunk_no S5.out A bs.length c (by simp) (by omega)).mono ?_
    rintro e w6 ⟨rfl, rfl⟩
    simp only [ne_eq, show ¬ (3 : Int) = 1 by omega, not_false_eq_true, if_true]
    go_wp2_with fail
    refine (strm_end S5.out).mono ?_
    rintro e w6 ⟨rfl, hs6, hu6⟩
    simp only [show ¬ (3 : Int) = 1 by omega, if_false] at hs6 ⊢
    have S6 := Lib.hid hs6; have U6 := Lib.hid (U5.out.trans hu6 (by simp; omega)); clear hs6 hu6 S5 U5
    go_wp2_with fail
    refine (strm_read S6.out 9).mono ?_
    rintro e w7 ⟨v, rfl, hv, _, hs7, hu7⟩
    obtain ⟨A', c', rfl, _⟩ := hv
    simp only [List.take_nil, List.drop_nil, List.length_nil] at hs7 ⊢
    have S7 := Lib.hid hs7; have U7 := Lib.hid (U6.out.trans hu7 (by simp; omega)); clear hs7 hu7 S6 U6
    go_wp2_with fail
    refine (strm_state S7.out).mono ?_
    rintro e w8 ⟨rfl, rfl⟩
    go_wp2_with fail
    refine (awake11 _).mono ?_
    rintro e w9 ⟨rfl, hu9⟩
    go_wp2_with fail
    go_ret
    exact ⟨rfl, (U7.out.trans hu9 (by simp)).below (by simp)⟩)
end Go.Proofs.Ytmcbllpkgeihgaa
