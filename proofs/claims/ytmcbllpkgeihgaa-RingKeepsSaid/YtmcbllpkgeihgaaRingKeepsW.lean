-- The walk of the law RingKeeps.
import Derived.Test.YtmcbllpkgeihgaaRingAwake
import Derived.Test.YtmcbllpkgeihgaaLow
import Derived.Test.YtmcbllpkgeihgaaOpen
namespace Go.Proofs.Ytmcbllpkgeihgaa
open Go.RowKit Go.Lk
set_option linter.unusedVariables false
set_option maxHeartbeats 1600000 in
set_option maxRecDepth 100000 in
theorem walk_RingKeeps (w : World) (size : Int) (_ : (Lit.int .i64 size).wf = true) (vl : Value) (ls : List (List UInt8)) (hl : SliceR w 1 (fun cs (bs : List UInt8) => ∃ v, cs = [v] ∧ BytesV w v bs) vl ls)
    (vt : Value) (ts : List Int) (ht : SliceR w 1 (fun cs (n : Int) => cs = [.int .i64 n] ∧ (Lit.int .i64 n).wf = true) vt ts) :
    Calls Try.prog 3 #[.int .i64 size, vl, vt] w fun e w' => e = .returned (.bool true) ∧ Below w.heap.size w w' := by
  obtain ⟨Al, cl, rfl, _⟩ := hl.form
  obtain ⟨At, ct, rfl, _⟩ := ht.form
  by_cases hc : ls.length ≤ 60 ∧ ls.length ≤ ts.length ∧ ts.length ≤ 200
  case neg =>
    go_enter Try.func3, Try.ntmps3
    go_wp2_with (go_at_call 14; refine (awake10 _).mono ?_; rintro e w' ⟨rfl, hu⟩)
    all_goals (go_ret; exact ⟨rfl, hu.below (by simp)⟩)
  obtain ⟨hc1, hc2, hc3⟩ := hc
  have hk := low_lt size 200 (by omega)
  go_enter Try.func3, Try.ntmps3
  go_wp2_with fail
  refine (Low_any size 200 (by omega) (by omega) _).mono ?_
  rintro e w' ⟨rfl, rfl⟩
  generalize low size 200 = k at *
  go_wp2_with fail
  obtain ⟨K, hK⟩ : ∃ K : Nat, K = 1 + k := ⟨_, rfl⟩
  rw [show (1 : Int) + (k : Int) = (K : Int) by omega]
  have hK1 : 1 ≤ K := by omega
  have hK2 : K ≤ 200 := by omega
  clear hK hk
  refine (Ring_new _ K (by omega) (by omega)).mono ?_
  rintro e w1 ⟨b, rb, rfl, hr1, hu1, g1, g2⟩
  have H1 := Lib.hid hr1; have HU1 := Lib.hid hu1; clear hr1 hu1
  go_wp2_with fail
  go_loopw [8, 9, 10] (fun v8 v9 v10 wr => ∃ (k : Nat) (ib ob q : List UInt8), k ≤ ls.length ∧ v10 = .int .i64 k ∧ v8 = .string ⟨ib.toArray⟩ ∧ v9 = .string ⟨ob.toArray⟩ ∧ Ring wr b rb K q ∧ ib = ob ++ q ∧ ib.length ≤ 60 * k ∧ Upd [] w wr) (fun _ _ v10 _ => ls.length - (intOf v10).toNat)
  case atStart => exact ⟨0, [], [], [], by omega, rfl, rfl, rfl, H1.out, rfl, by simp, HU1.out⟩
  case round =>
    obtain ⟨k, ib, ob, q, hk, rfl, rfl, rfl, hr, hib, hil, hu⟩ := hrel
    by_cases hlt : k < ls.length
    · obtain ⟨ab, ao, cx, u, hv, hcell, v, hue, hby⟩ := hl.at1 k hlt
      obtain ⟨x, hx⟩ : ∃ x, x = ls[k] := ⟨_, rfl⟩
      rw [← hx] at hby
      obtain ⟨A, c, rfl, hxc, hby⟩ := hby
      obtain rfl : u = .slice A x.length c := by simpa using hue
      injection hv with hv1 _ hv3
      subst hv1 hv3
      obtain ⟨tb, to, tc, tu, tv, tcell, te, _⟩ := ht.at1 k (by omega)
      obtain ⟨tk, htk⟩ : ∃ tk, tk = ts[k]'(by omega) := ⟨_, rfl⟩
      rw [← htk] at te
      obtain rfl : tu = .int .i64 tk := by simpa using te
      injection tv with tv1 _ tv3
      subst tv1 tv3
      have g0 : wr.cell? ⟨ab, ao + k, none⟩ = _ := (World.cell?_of_block (hu.block ab (World.block_lt_of_cell? _ _ hcell) (by simp))).trans hcell
      have Hr := Lib.hid hr; have HU := Lib.hid hu; have Hib := Lib.hid hib; have Hx := Lib.hid hx; have Htk := Lib.hid htk
      have Hby := Lib.hid hby; have Htc := Lib.hid tcell; have Hc := Lib.hid hcell
      clear hr hu hib hx htk hby tcell hcell
      by_cases h60 : 60 < x.length
      · go_wp2_with (go_at_call 14; refine (awake10 _).mono ?_; rintro e w' ⟨rfl, hu⟩)
        go_ret
        exact ⟨rfl, (HU.out.trans hu (by simp)).below (by simp)⟩
      · go_wp2_with fail
        refine (Ring_put Hr.out A x c (Hby.out.upd0 HU.out) (fun ab ao h0 e => by have := Hby.out.lt h0 ab ao e; omega) (by omega)).mono ?_
        rintro e w2 ⟨rfl, hr2, hu2⟩
        have HU2 := Lib.hid (HU.out.trans hu2 (by simp; omega)); clear hu2
        obtain ⟨n, hn⟩ : ∃ n, n = min x.length (K - q.length) := ⟨_, rfl⟩
        rw [← hn]
        have hqK := Hr.out.le
        have hnx : n ≤ x.length := by omega
        have hx' : q ++ x.take (K - q.length) = q ++ x.take n := by rw [hn]; congr 1; rw [Nat.min_comm, ← List.take_eq_take_min]
        rw [hx'] at hr2
        have hlen2 : (q ++ x.take n).length = q.length + n := by simp; omega
        have hfull : n < x.length → q.length + n = K := by omega
        have g2 : w2.cell? ⟨ab, ao + k, none⟩ = _ := (World.cell?_of_block (HU2.out.block ab (World.block_lt_of_cell? _ _ Hc.out) (by simp))).trans Hc.out
        have gt2 : w2.cell? ⟨tb, to + k, none⟩ = _ := (World.cell?_of_block (HU2.out.block tb (World.block_lt_of_cell? _ _ Htc.out) (by simp))).trans Htc.out
        have Hr2 := Lib.hid hr2; have Hn := Lib.hid hn; clear hr2 hn hx'
        have hcap : n ≤ c := by omega
        have hstr := fun j => ((show BytesV w2 (.slice A n c) (x.take n) from ⟨A, c, by simp [Nat.min_eq_left hnx], by simp; omega, ((Hby.out.upd0 HU2.out).take n)⟩).drewN j).str 28 9 5 Try.underlying28 Try.underlying5 Try.underlying9
        have hstr0 := hstr 0
        rw [World.drewN_zero] at hstr0
        have hz : (x.take n).length = n := by simp; omega
        have hxz : x.take n = x.take n := rfl
        have e0 := str_append ib (x.take n)
        have hol : ob.length ≤ 60 * k := by have := Hib.out; rw [this] at hil; simp at hil; omega
        by_cases hnl : n < x.length
        · have hf := hfull hnl
          clear hfull
          have z0 : (q ++ x.take n).length = K := by omega
          go_wp2_with fail
          refine (Ring_room Hr2.out).mono ?_
          rintro e w3 ⟨rfl, k3, rfl⟩
          rw [z0]
          have z1 : (K : Int) - (K : Int) = 0 := by omega
          go_wp2_with fail
          refine (Low_any tk 70 (by omega) (by omega) _).mono ?_
          rintro e w' ⟨rfl, rfl⟩
          generalize low tk 70 = m at *
          go_wp2_with fail
          refine (Ring_take (Hr2.out.drewN k3) m).mono ?_
          rintro e w4 ⟨va, rfl, hva, hr4, hu4⟩
          simp only [Int.toNat_natCast] at hva hr4
          have HU4 := Lib.hid ((HU2.out.drewN k3).trans hu4 (by simp; omega))
          have hsa := (bytes_of_own hva).str 28 9 5 Try.underlying28 Try.underlying5 Try.underlying9
          have HR4 := Lib.hid hr4
          clear hva hr4 hu4 hstr hstr0 
          go_wp2_with fail
          refine ⟨⟨k + 1, ib ++ x.take n, ob ++ (q ++ x.take n).take m, (q ++ x.take n).drop m, by omega, by go_num, rfl, by rw [str_append], HR4.out, ?_, ?_, HU4.out⟩, by simp [intOf]; omega⟩
          · rw [Hib.out, List.append_assoc, List.append_assoc, List.take_append_drop]
          · rw [List.length_append, hz]; omega
        · clear hfull
          go_wp2_with fail
          refine (Low_any tk 70 (by omega) (by omega) _).mono ?_
          rintro e w' ⟨rfl, rfl⟩
          generalize low tk 70 = m at *
          go_wp2_with fail
          refine (Ring_take Hr2.out m).mono ?_
          rintro e w4 ⟨va, rfl, hva, hr4, hu4⟩
          simp only [Int.toNat_natCast] at hva hr4
          have HU4 := Lib.hid (HU2.out.trans hu4 (by simp; omega))
          have hsa := (bytes_of_own hva).str 28 9 5 Try.underlying28 Try.underlying5 Try.underlying9
          have HR4 := Lib.hid hr4
          clear hva hr4 hu4 hstr hstr0 
          go_wp2_with fail
          refine ⟨⟨k + 1, ib ++ x.take n, ob ++ (q ++ x.take n).take m, (q ++ x.take n).drop m, by omega, by go_num, rfl, by rw [str_append], HR4.out, ?_, ?_, HU4.out⟩, by simp [intOf]; omega⟩
          · rw [Hib.out, List.append_assoc, List.append_assoc, List.take_append_drop]
          · rw [List.length_append, hz]; omega
    · obtain rfl : k = ls.length := by omega
      have Hr := Lib.hid hr; have HU := Lib.hid hu; have Hib := Lib.hid hib
      have hol : ob.length ≤ 60 * ls.length := by have := Hib.out; rw [this] at hil; simp at hil; omega
      have hqK := Hr.out.le
      clear hr hu hib
      go_wp2_with fail
      refine (Ring_take Hr.out 1000).mono ?_
      rintro e w4 ⟨va, rfl, hva, hr4, hu4⟩
      rw [List.take_of_length_le (by simp; omega)] at hva
      rw [List.drop_eq_nil_of_le (by simp; omega)] at hr4
      have HU4 := Lib.hid (HU.out.trans hu4 (by simp; omega))
      have hsa := (bytes_of_own hva).str 28 9 5 Try.underlying28 Try.underlying5 Try.underlying9
      have HR4 := Lib.hid hr4
      clear hva hr4 hu4
      have e1 := str_append ob q
      rw [← Hib.out] at e1
      go_wp2_with fail
      refine (Ring_len HR4.out).mono ?_
      rintro e w6 ⟨rfl, rfl⟩
      simp only [List.length_nil]
      go_wp2_with (go_at_call 14; refine (awake10 _).mono ?_; rintro e w' ⟨rfl, hu⟩)
      go_ret
      exact ⟨rfl, (HU4.out.trans hu (by simp)).below (by simp)⟩
end Go.Proofs.Ytmcbllpkgeihgaa
