-- The walk of the law RingRooms.
import Derived.Test.YtmcbllpkgeihgaaRingAwake
import Derived.Test.YtmcbllpkgeihgaaLow
namespace Go.Proofs.Ytmcbllpkgeihgaa
open Go.RowKit Go.Lk
set_option maxHeartbeats 800000 in
set_option maxRecDepth 100000 in
theorem walk_RingRooms (w : World) (size : Int) (_ : (Lit.int .i64 size).wf = true) (v : Value) (bs : List UInt8) (hb : BytesV w v bs) (n : Int) (_ : (Lit.int .i64 n).wf = true) :
    Calls Try.prog 5 #[.int .i64 size, v, .int .i64 n] w fun e w' => e = .returned (.bool true) ∧ Below w.heap.size w w' := by
  obtain ⟨A, c, rfl, _, hb⟩ := hb
  by_cases hlen : 300 < bs.length
  · go_enter Try.func5, Try.ntmps5
    go_wp2_with (go_at_call 14; refine (awake10 _).mono ?_; rintro e w' ⟨rfl, hu⟩)
    go_ret
    exact ⟨rfl, hu.below (by simp)⟩
  · have hk := low_lt size 400 (by omega)
    have hm := low_lt n 100 (by omega)
    go_enter Try.func5, Try.ntmps5
    go_wp2_with fail
    refine (Low_any size 400 (by omega) (by omega) _).mono ?_
    rintro e w' ⟨rfl, rfl⟩
    generalize low size 400 = k at *
    go_wp2_with fail
    obtain ⟨K, hK⟩ : ∃ K : Nat, K = 1 + k := ⟨_, rfl⟩
    rw [show (1 : Int) + (k : Int) = (K : Int) by omega]
    have hK1 : 1 ≤ K := by omega
    have hK2 : K ≤ 400 := by omega
    clear hK hk
    refine (Ring_new _ K (by omega) (by omega)).mono ?_
    rintro e w1 ⟨b, rb, rfl, hr1, hu1, g1, g2⟩
    go_wp2_with fail
    refine (Ring_put hr1 A bs c (hb.upd0 hu1) (fun ab ao h0 e => by have := hb.lt h0 ab ao e; omega) (by omega)).mono ?_
    rintro e w2 ⟨rfl, hr2, hu2⟩
    simp only [List.nil_append, List.length_nil, Nat.sub_zero] at hr2 ⊢
    have U2 : Upd [] w w2 := hu1.trans hu2 (by simp; omega)
    obtain ⟨q, hq⟩ : ∃ q, q = bs.take K := ⟨_, rfl⟩
    rw [← hq] at hr2
    obtain ⟨p, hp⟩ : ∃ p, p = min bs.length K := ⟨_, rfl⟩
    have hql : q.length = p := by rw [hq, hp]; simp [Nat.min_comm]
    rw [← hp]
    have Hp := Lib.hid hp; have Hql := Lib.hid hql
    clear hp hq hql hu2 hu1
    go_wp2_with fail
    refine (Low_any n 100 (by omega) (by omega) _).mono ?_
    rintro e w' ⟨rfl, rfl⟩
    generalize hm0 : low n 100 = m at *
    have Hm := Lib.hid hm0; clear hm0
    go_wp2_with fail
    refine (Ring_take hr2 m).mono ?_
    rintro e w3 ⟨vt, rfl, hvt, hr3, hu3⟩
    simp only [Int.toNat_natCast] at hvt hr3
    have U3 : Upd [] w w3 := U2.trans hu3 (by simp; omega)
    obtain ⟨t, ht⟩ : ∃ t, t = min m q.length := ⟨_, rfl⟩
    rw [← ht] at hvt
    go_wp2_with fail
    refine (Ring_peek hr3).mono ?_
    rintro e w4 ⟨va, rfl, hva, hu4⟩
    have hr4 := hr3.upd hu4 (by simp) (by simp)
    go_wp2_with fail
    refine (Ring_peek hr4).mono ?_
    rintro e w5 ⟨vc, rfl, hvc, hu5⟩
    have hr5 := hr4.upd hu5 (by simp) (by simp)
    have U5 : Upd [] w w5 := (U3.trans hu4 (by simp)).trans hu5 (by simp)
    have hsa := ((bytes_of_own hva).upd hu5 (by simp)).str 28 9 5 Try.underlying28 Try.underlying5 Try.underlying9
    have hsc := (bytes_of_own hvc).str 28 9 5 Try.underlying28 Try.underlying5 Try.underlying9
    obtain ⟨At, ct, rfl⟩ := own_slice hvt
    have h5 := Lib.hid hr5; have HU5 := Lib.hid U5; have Ht := Lib.hid ht
    have hrem : (q.drop m).length = p - t := by rw [List.length_drop, Hql.out, ht, Hql.out]; omega
    have Hrem := Lib.hid hrem
    have E1 : (if K < bs.length then (K : Int) else (bs.length : Int)) = p := by have := Hp.out; split <;> omega
    have E2 : (if m < p then (m : Int) else (p : Int)) = t := by have := Ht.out; have := Hql.out; split <;> omega
    clear hr1 hr2 hr3 hr4 hr5 hva hvc hvt hu3 hu4 hu5 U2 U3 U5 ht hrem
    go_wp2_with fail
    refine (Low_any n 100 (by omega) (by omega) _).mono ?_
    rintro e w' ⟨rfl, rfl⟩
    rw [Hm.out]
    obtain ⟨d, hd⟩ : ∃ d, d = (q.drop m).length := ⟨_, rfl⟩
    have hdt : (d : Int) = (p : Int) - t := by have := Hrem.out; have := Ht.out; have := Hql.out; omega
    have Hd := Lib.hid hd.symm; have Hdt := Lib.hid hdt; clear hd hdt
    go_wp2_with fail
    refine (Ring_len h5.out).mono ?_
    rintro e w6 ⟨rfl, rfl⟩
    rw [Hd.out]
    go_wp2_with fail
    refine (Ring_room h5.out).mono ?_
    rintro e w6 ⟨rfl, k6, rfl⟩
    rw [Hd.out]
    have E3 : (d : Int) + ((K : Int) - d) = K := by omega
    go_wp2_with fail
    have h6 := h5.out.drewN k6
    have U6 := HU5.out.drewN k6
    refine (Ring_len h6).mono ?_
    rintro e w6 ⟨rfl, rfl⟩
    rw [Hd.out]
    have H6 := Lib.hid h6; have HU6 := Lib.hid U6; clear h6 U6
    have E4 : ((d : Int) == (p : Int) - (t : Int)) = true := by rw [Hdt.out]; simp
    go_wp2_with fail
    refine (Ring_clear H6.out).mono ?_
    rintro e w7 ⟨rfl, hr7, hu7⟩
    rw [Hd.out]
    have HU7 := Lib.hid (HU6.out.trans hu7 (by simp; omega))
    have H7 := Lib.hid hr7; clear hr7 hu7
    go_wp2_with fail
    refine (Ring_room H7.out).mono ?_
    rintro e w8 ⟨rfl, k8, rfl⟩
    simp only [List.length_nil]
    go_wp2_with (go_at_call 14; refine (awake10 _).mono ?_; rintro e w' ⟨rfl, hu⟩)
    go_ret
    exact ⟨rfl, ((HU7.out.drewN _).trans hu (by simp)).below (by simp)⟩
end Go.Proofs.Ytmcbllpkgeihgaa
