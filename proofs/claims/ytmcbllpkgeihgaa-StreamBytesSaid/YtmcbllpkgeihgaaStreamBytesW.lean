-- The walk of the law StreamBytes.
import Derived.Test.YtmcbllpkgeihgaaStreamAwake
import Derived.Test.YtmcbllpkgeihgaaLow
import Derived.Test.YtmcbllpkgeihgaaOpen
namespace Go.Proofs.Ytmcbllpkgeihgaa
open Go.RowKit Go.Lk
set_option linter.unusedVariables false
set_option linter.unusedSimpArgs false
set_option maxHeartbeats 3200000 in
set_option maxRecDepth 100000 in
theorem walk_StreamBytes (w : World) (high : Int) (_ : (Lit.int .i64 high).wf = true) (lowi : Int) (_ : (Lit.int .i64 lowi).wf = true) (vl : Value) (ls : List (List UInt8)) (hl : SliceR w 1 (fun cs (bs : List UInt8) => ∃ v, cs = [v] ∧ BytesV w v bs) vl ls)
    (vt : Value) (ts : List Int) (ht : SliceR w 1 (fun cs (n : Int) => cs = [.int .i64 n] ∧ (Lit.int .i64 n).wf = true) vt ts) :
    Calls Try.prog 7 #[.int .i64 high, .int .i64 lowi, vl, vt] w fun e w' => e = .returned (.bool true) ∧ Below w.heap.size w w' := by
  obtain ⟨Al, cl, rfl, _⟩ := hl.form
  obtain ⟨At, ct, rfl, _⟩ := ht.form
  by_cases hc : ls.length ≤ 60 ∧ ls.length ≤ ts.length ∧ ts.length ≤ 200
  case neg =>
    go_enter Try.func7, Try.ntmps7
    go_wp2_with (go_at_call 32; refine (awake11 _).mono ?_; rintro e w' ⟨rfl, hu⟩)
    all_goals (go_ret; exact ⟨rfl, hu.below (by simp)⟩)
  obtain ⟨hc1, hc2, hc3⟩ := hc
  have hk := low_lt high 200 (by omega)
  go_enter Try.func7, Try.ntmps7
  go_wp2_with fail
  refine (Low_any high 200 (by omega) (by omega) _).mono ?_
  rintro e w' ⟨rfl, rfl⟩
  generalize low high 200 = k0 at *
  go_wp2_with fail
  obtain ⟨h, hh⟩ : ∃ h : Nat, h = 1 + k0 := ⟨_, rfl⟩
  rw [show (1 : Int) + (k0 : Int) = (h : Int) by omega]
  have h1 : 1 ≤ h := by omega
  have h2 : h ≤ 200 := by omega
  clear hh hk
  have hlo := low_lt lowi h (by omega)
  refine (Low_any lowi h (by omega) (by omega) _).mono ?_
  rintro e w' ⟨rfl, rfl⟩
  generalize low lowi h = lo at *
  go_wp2_with fail
  refine (strm_new w h lo h lo (by omega) (by omega)).mono ?_
  rintro e w1 ⟨sb, b, rb, rfl, hs1, hu1, g1, g2, g3⟩
  have S1 := Lib.hid hs1; have U1 := Lib.hid hu1; clear hs1 hu1
  go_wp2_with fail
  go_loopw [11, 12, 13] (fun v11 v12 v13 wr => ∃ (k : Nat) (ib ob q : List UInt8) (p : Bool), k ≤ ls.length ∧ v13 = .int .i64 k ∧ v11 = .string ⟨ib.toArray⟩ ∧ v12 = .string ⟨ob.toArray⟩ ∧ Strm wr sb b rb h lo 1 p 0 q ∧ ib = ob ++ q ∧ ib.length ≤ 64 * k ∧ ob.length ≤ 200 * k ∧ Upd [] w wr) (fun _ _ v13 _ => ls.length - (intOf v13).toNat)
  case atStart => exact ⟨0, [], [], [], false, by omega, rfl, rfl, rfl, S1.out, rfl, by simp, by simp, U1.out⟩
  case round =>
    obtain ⟨k, ib, ob, q, p, hk, rfl, rfl, rfl, hs, hib, hil, hob, hu⟩ := hrel
    by_cases hlt : k < ls.length
    · obtain ⟨ab, ao, cx, u, hv, hcell, v, hue, hby⟩ := hl.at1 k hlt
      generalize ls[k] = x at *
      obtain ⟨A, c, rfl, hxc, hby⟩ := hby
      obtain rfl : u = .slice A x.length c := by simpa using hue
      injection hv with hv1 _ hv3
      subst hv1 hv3
      obtain ⟨tb, to, tc, tu, tv, tcell, te, _⟩ := ht.at1 k (by omega)
      generalize ts[k]'(by omega) = tk at *
      obtain rfl : tu = .int .i64 tk := by simpa using te
      injection tv with tv1 _ tv3
      subst tv1 tv3
      have g0 : wr.cell? ⟨ab, ao + k, none⟩ = _ := (World.cell?_of_block (hu.block ab (World.block_lt_of_cell? _ _ hcell) (by simp))).trans hcell
      have SS := Lib.hid hs; have UU := Lib.hid hu; have Hib := Lib.hid hib
      have Hby := Lib.hid hby; have Htc := Lib.hid tcell; have Hc := Lib.hid hcell
      clear hs hu hib hby tcell hcell
      by_cases h64 : 64 < x.length
      · go_wp2_with (go_at_call 32; refine (awake11 _).mono ?_; rintro e w' ⟨rfl, hu⟩)
        go_ret
        exact ⟨rfl, (UU.out.trans hu (by simp)).below (by simp)⟩
      · by_cases hy : 1 ≤ x.length ∧ p = false
        · obtain ⟨hy1, rfl⟩ := hy
          go_wp2_with fail
          refine (strm_chunk SS.out A x c hy1 (by omega) (Hby.out.upd0 UU.out) (fun ab ao h0 e => by have := Hby.out.lt h0 ab ao e; omega)).mono ?_
          rintro e w2 ⟨rfl, hs2, hu2⟩
          have S2 := Lib.hid hs2; have U2 := Lib.hid (UU.out.trans hu2 (by simp; omega)); clear hs2 hu2
          have g2 : w2.cell? ⟨ab, ao + k, none⟩ = _ := (World.cell?_of_block (U2.out.block ab (World.block_lt_of_cell? _ _ Hc.out) (by simp))).trans Hc.out
          have hstr := (show BytesV w2 (.slice A x.length c) x from ⟨A, c, rfl, hxc, Hby.out.upd0 U2.out⟩).str (P := Try.prog) 28 9 5 Try.underlying28 Try.underlying5 Try.underlying9
          have e0 := str_append ib x
          go_wp2_with fail
          refine (strm_len S2.out).mono ?_
          rintro e w3 ⟨rfl, rfl⟩
          have hqK := S2.out.ring.le
          obtain ⟨n2, hn2⟩ : ∃ n2, n2 = (q ++ x).length := ⟨_, rfl⟩
          rw [← hn2]
          have hn2K : n2 ≤ h + 63 := by rw [hn2]; exact hqK
          have HN2 := Lib.hid hn2; clear hn2 hqK
          have gt2 : w2.cell? ⟨tb, to + k, none⟩ = _ := (World.cell?_of_block (U2.out.block tb (World.block_lt_of_cell? _ _ Htc.out) (by simp))).trans Htc.out
          go_wp2_with fail
          refine (Low_any tk 90 (by omega) (by omega) _).mono ?_
          rintro e w' ⟨rfl, rfl⟩
          have hm90 := low_lt tk 90 (by omega)
          generalize low tk 90 = m at *
          go_wp2_with fail
          refine (strm_read S2.out m).mono ?_
          rintro e w4 ⟨va, rfl, hva, _, hs4, hu4⟩
          have hq2K := S2.out.ring.le
          have hol : ob.length ≤ 200 * k := hob
          have hsa := hva.str (P := Try.prog) 28 9 5 Try.underlying28 Try.underlying5 Try.underlying9
          have S4 := Lib.hid hs4; have U4 := Lib.hid (U2.out.trans hu4 (by simp; omega))
          clear hva hs4 hu4
          simp only [Int.toNat_natCast] at hsa S4
          have hlt2 : ((q ++ x).take m).length ≤ 163 := by simp; omega
          go_wp2_with fail
          refine ⟨⟨k + 1, ib ++ x, ob ++ (q ++ x).take m, (q ++ x).drop m, _, by omega, by go_num, rfl, by rw [str_append], S4.out, ?_, ?_, ?_, U4.out⟩, by simp [intOf]; omega⟩
          · rw [Hib.out, List.append_assoc, List.append_assoc, List.take_append_drop]
          · rw [List.length_append]; omega
          · rw [List.length_append]; omega
        · have hno : (1 : Int) ≠ 1 ∨ x.length = 0 ∨ 64 < x.length ∨ p = true := by
            by_cases hp : p = true
            · exact .inr (.inr (.inr hp))
            · have : p = false := by simpa using hp
              exact .inr (.inl (by have : ¬ 1 ≤ x.length := fun h' => hy ⟨h', this⟩
                                   omega))
          clear hy
          go_wp2_with fail
          refine (strm_chunk_no SS.out A x.length c hno (by omega)).mono ?_
          rintro e w2 ⟨rfl, rfl⟩
          obtain ⟨er, her⟩ : ∃ er : Int, er = (if (1 : Int) ≠ 1 then 12 else if x.length = 0 ∨ 64 < x.length then 4 else 10) := ⟨_, rfl⟩
          rw [← her]
          have he0 : (er == 0) = false := by rw [her]; simp; split <;> omega
          clear her hno
          have S2 : Hid (Strm wr sb b rb h lo 1 p 0 q) := SS
          have U2 : Hid (Upd [] w wr) := UU
          go_wp2_with fail
          refine (strm_len S2.out).mono ?_
          rintro e w3 ⟨rfl, rfl⟩
          have hqK := S2.out.ring.le
          obtain ⟨n2, hn2⟩ : ∃ n2, n2 = q.length := ⟨_, rfl⟩
          rw [← hn2]
          have hn2K : n2 ≤ h + 63 := by rw [hn2]; exact hqK
          have HN2 := Lib.hid hn2; clear hn2 hqK
          have gt2 : wr.cell? ⟨tb, to + k, none⟩ = _ := (World.cell?_of_block (U2.out.block tb (World.block_lt_of_cell? _ _ Htc.out) (by simp))).trans Htc.out
          go_wp2_with fail
          refine (Low_any tk 90 (by omega) (by omega) _).mono ?_
          rintro e w' ⟨rfl, rfl⟩
          have hm90 := low_lt tk 90 (by omega)
          generalize low tk 90 = m at *
          go_wp2_with fail
          refine (strm_read S2.out m).mono ?_
          rintro e w4 ⟨va, rfl, hva, _, hs4, hu4⟩
          have hq2K := S2.out.ring.le
          have hol : ob.length ≤ 200 * k := hob
          have hsa := hva.str (P := Try.prog) 28 9 5 Try.underlying28 Try.underlying5 Try.underlying9
          have S4 := Lib.hid hs4; have U4 := Lib.hid (U2.out.trans hu4 (by simp; omega))
          clear hva hs4 hu4
          simp only [Int.toNat_natCast] at hsa S4
          have hlt2 : (q.take m).length ≤ 163 := by simp; omega
          go_wp2_with fail
          refine ⟨⟨k + 1, ib, ob ++ q.take m, q.drop m, _, by omega, by go_num, rfl, by rw [str_append], S4.out, ?_, ?_, ?_, U4.out⟩, by simp [intOf]; omega⟩
          · rw [Hib.out, List.append_assoc, List.take_append_drop]
          · omega
          · rw [List.length_append]; omega
    · obtain rfl : k = ls.length := by omega
      have SS := Lib.hid hs; have UU := Lib.hid hu; have Hib := Lib.hid hib
      have hqK := hs.ring.le
      clear hs hu hib
      go_wp2_with fail
      refine (strm_end SS.out).mono ?_
      rintro e w2 ⟨rfl, hs2, hu2⟩
      simp only [if_true] at hs2 ⊢
      have S2 := Lib.hid hs2; have U2 := Lib.hid (UU.out.trans hu2 (by simp; omega)); clear hs2 hu2
      go_wp2_with fail
      have ed : (decide ((2 : Int) = 3 ∨ (2 : Int) = 2 ∧ q = [])) = ((q.length : Int) == 0) := by
        cases q <;> simp <;> omega
      refine (strm_over S2.out).mono ?_
      rintro e w3 ⟨rfl, rfl⟩
      rw [ed]
      obtain ⟨bz, hbz⟩ : ∃ bz, bz = ((q.length : Int) == 0) := ⟨_, rfl⟩
      rw [← hbz]
      have hbz' := hbz.symm
      clear hbz ed
      go_wp2_with fail
      refine (strm_len S2.out).mono ?_
      rintro e w3 ⟨rfl, rfl⟩
      have e8 : (bz != bz) = false := by simp
      go_wp2_with fail
      refine (strm_end S2.out).mono ?_
      rintro e w3 ⟨rfl, hs3, hu3⟩
      simp only [show ¬ ((2 : Int) = 1) by omega, if_false] at hs3 ⊢
      have S3 := Lib.hid hs3; have U3 := Lib.hid (U2.out.trans hu3 (by simp; omega)); clear hs3 hu3
      go_wp2_with fail
      refine (strm_read S3.out 5000).mono ?_
      rintro e w4 ⟨va, rfl, hva, _, hs4, hu4⟩
      rw [List.take_of_length_le (by simp; omega)] at hva
      rw [List.drop_eq_nil_of_le (by simp; omega)] at hs4
      have hsa := hva.str (P := Try.prog) 28 9 5 Try.underlying28 Try.underlying5 Try.underlying9
      have S4 := Lib.hid hs4; have U4 := Lib.hid (U3.out.trans hu4 (by simp; omega))
      clear hva hs4 hu4
      have e1 := str_append ob q
      rw [← Hib.out] at e1
      go_wp2_with fail
      refine (strm_over S4.out).mono ?_
      rintro e w5 ⟨rfl, rfl⟩
      go_wp2_with (go_at_call 32; refine (awake11 _).mono ?_; rintro e w' ⟨rfl, hu⟩)
      go_ret
      exact ⟨rfl, (U4.out.trans hu (by simp)).below (by simp)⟩
end Go.Proofs.Ytmcbllpkgeihgaa
