-- The walk of the law StreamMarks.
import Derived.Test.YtmcbllpkgeihgaaStreamAwake
import Derived.Test.YtmcbllpkgeihgaaLow
namespace Go.Proofs.Ytmcbllpkgeihgaa
open Go.RowKit Go.Lk
set_option linter.unusedVariables false
set_option linter.unusedSimpArgs false
/-- How many bytes the ring at block b has, off memory. -/
def ringN (w : World) (b : Nat) : Nat := match w.cell? ⟨b, 2, none⟩ with | some (.int _ n) => n.toNat | _ => 0
theorem ringN_eq {w : World} {b rb S : Nat} {q : List UInt8} (h : Ring w b rb S q) : ringN w b = q.length := by
  obtain ⟨⟨room, head, hr, x⟩, _⟩ := h
  unfold ringN
  rw [hr.cells.2.2.1]
  simp
set_option maxHeartbeats 1600000 in
set_option maxRecDepth 100000 in
theorem walk_StreamMarks (w : World) (high : Int) (_ : (Lit.int .i64 high).wf = true) (low : Int) (_ : (Lit.int .i64 low).wf = true) :
    Calls Try.prog 6 #[.int .i64 high, .int .i64 low] w fun e w' => e = .returned (.bool true) ∧ Below w.heap.size w w' := by
  have hk := Go.Proofs.Ytmcbllpkgeihgaa.low_lt high 100 (by omega)
  go_enter Try.func6, Try.ntmps6
  go_wp2_with fail
  refine (Low_any high 100 (by omega) (by omega) _).mono ?_
  rintro e w' ⟨rfl, rfl⟩
  generalize Go.Proofs.Ytmcbllpkgeihgaa.low high 100 = k at *
  go_wp2_with fail
  obtain ⟨h, hh⟩ : ∃ h : Nat, h = 1 + k := ⟨_, rfl⟩
  rw [show (1 : Int) + (k : Int) = (h : Int) by omega]
  have h1 : 1 ≤ h := by omega
  have h2 : h ≤ 100 := by omega
  clear hh hk
  have hl := Go.Proofs.Ytmcbllpkgeihgaa.low_lt low h (by omega)
  refine (Low_any low h (by omega) (by omega) _).mono ?_
  rintro e w' ⟨rfl, rfl⟩
  generalize Go.Proofs.Ytmcbllpkgeihgaa.low low h = lo at *
  go_wp2_with fail
  refine (strm_new w h lo h lo (by omega) (by omega)).mono ?_
  rintro e w1 ⟨sb, b, rb, rfl, hs1, hu1, g1, g2, g3⟩
  have S1 := Lib.hid hs1; have U1 := Lib.hid hu1; clear hs1 hu1
  go_wp2_with fail
  go_loopw [8] (fun v8 wr => ∃ (i : Nat) (q : List UInt8) (p : Bool), 1 ≤ i ∧ i ≤ h + 1 ∧ v8 = .int .i64 i ∧ q.length = i - 1 ∧ p = decide (h + 1 ≤ i) ∧ Strm wr sb b rb h lo 1 p 0 q ∧ Upd [] w wr) (fun v8 _ => h + 1 - (intOf v8).toNat)
  case atStart => exact ⟨1, [], false, by omega, by omega, rfl, rfl, by simp; omega, S1.out, U1.out⟩
  case round =>
    obtain ⟨i, q, p, hi1, hi2, rfl, hq, hp, hs, hu⟩ := hrel
    have SS := Lib.hid hs; have UU := Lib.hid hu; have HQ := Lib.hid hq
    clear hs hu hq
    by_cases hlt : i ≤ h
    · obtain rfl : p = false := by rw [hp]; simp; omega
      clear hp
      go_wp2_with fail
      refine (strm_paused SS.out).mono ?_
      rintro e w2 ⟨rfl, rfl⟩
      go_wp2_with fail
      obtain ⟨x, hx⟩ : ∃ x : UInt8, B x = .int .u8 (i : Int) := ⟨UInt8.ofNat i, by unfold B; congr 1; simp [UInt8.toNat_ofNat']; omega⟩
      have hb : BytesAt (wr.alloc (.cells #[.int .u8 (i : Int)] 5)) (some ⟨wr.heap.size, 0, none⟩) [x] := by rw [← hx]; exact bytesAt_new wr 5 [x] (0, 0)
      have lt2 := SS.out.ring.lt
      refine (strm_chunk (SS.out.upd ((Upd.refl [] _).alloc _) (by simp) (by simp) (by simp)) _ [x] 1 (by simp) (by simp) hb (fun ab ao _ e => by injection e with e; injection e with e; omega)).mono ?_
      rintro e w2 ⟨rfl, hs2, hu2⟩
      have hq2 : (q ++ [x]).length = i := by have := HQ.out; simp; omega
      have S2 := Lib.hid hs2; have U2 := Lib.hid ((UU.out.alloc _).trans hu2 (by simp; omega)); have Q2 := Lib.hid hq2
      clear hs2 hu2 hq2 hb hx
      go_wp2_with fail
      refine (strm_len S2.out).mono ?_
      rintro e w3 ⟨rfl, rfl⟩
      rw [Q2.out]
      go_wp2_with fail
      go_roundw
      case rel =>
        refine ⟨i + 1, q ++ [x], _, by omega, by omega, by go_num, by rw [Q2.out]; omega, ?_, S2.out, U2.out⟩
        apply decide_eq_decide.2
        have := HQ.out
        simp only [List.length_cons, List.length_nil]
        omega
      case measure => simp [intOf]; omega
    · obtain rfl : i = h + 1 := by omega
      obtain rfl : p = true := by rw [hp]; simp
      clear hp hlt hi1 hi2
      go_wp2_with fail
      refine (strm_paused SS.out).mono ?_
      rintro e w2 ⟨rfl, rfl⟩
      go_wp2_with fail
      refine (strm_chunk_no (SS.out.upd ((Upd.refl [] _).alloc _) (by simp) (by simp) (by simp)) _ 1 1 (by simp) (by simp)).mono ?_
      rintro e w3 ⟨rfl, rfl⟩
      simp only [ne_eq, not_true_eq_false, if_false, Nat.one_ne_zero, false_or, show ¬ (64 < 1) by omega]
      have S3 := Lib.hid (SS.out.upd ((Upd.refl [] _).alloc (.cells #[.int .u8 1] 5)) (by simp) (by simp) (by simp))
      have U3 := Lib.hid (UU.out.alloc (.cells #[.int .u8 1] 5))
      go_wp2_with fail
      go_loopw [50] (fun _ w2 => ∃ (q : List UInt8) (p : Bool), q.length ≤ h ∧ p = decide (lo < q.length) ∧ Strm w2 sb b rb h lo 1 p 0 q ∧ Upd [] w w2) (fun _ w2 => ringN w2 b)
      case atStart => exact ⟨q, true, by have := HQ.out; omega, by have := HQ.out; simp; omega, S3.out, U3.out⟩
      case round =>
        obtain ⟨q, p, hq, hp, hs, hu⟩ := hrel
        have SS := Lib.hid hs; have UU := Lib.hid hu; have HQ := Lib.hid hq; have HP := Lib.hid hp
        clear hs hu hq hp
        obtain ⟨n, hn⟩ : ∃ n, n = q.length := ⟨_, rfl⟩
        have HN := Lib.hid hn; clear hn
        go_wp2_with fail
        refine (strm_len SS.out).mono ?_
        rintro e w3 ⟨rfl, rfl⟩
        rw [← HN.out]
        by_cases hlt : lo < n
        · obtain rfl : p = true := by have := HN.out; rw [HP.out]; simp; omega
          go_wp2_with fail
          refine (strm_paused SS.out).mono ?_
          rintro e w3 ⟨rfl, rfl⟩
          go_wp2_with fail
          refine (strm_read SS.out 1).mono ?_
          rintro e w3 ⟨v, rfl, hv, _, hs3, hu3⟩
          obtain ⟨A, c, rfl, _⟩ := hv
          have hl1 : (q.take (Int.toNat 1)).length = 1 := by have := HN.out; simp; omega
          rw [hl1]
          have hl2 : (q.drop (Int.toNat 1)).length + 1 = n := by have := HN.out; simp; omega
          have S4 := Lib.hid hs3; have U4 := Lib.hid (UU.out.trans hu3 (by simp; omega)); have L2 := Lib.hid hl2
          clear hs3 hu3 hl1 hl2
          go_wp2_with fail
          go_roundw
          case rel => exact ⟨_, _, by have := L2.out; have := HQ.out; have := HN.out; omega, by simp, S4.out, U4.out⟩
          case measure => rw [ringN_eq S4.out.ring, ringN_eq SS.out.ring]; have := L2.out; have := HN.out; omega
        · obtain rfl : p = false := by have := HN.out; rw [HP.out]; simp; omega
          go_wp2_with fail
          refine (strm_paused SS.out).mono ?_
          rintro e w3 ⟨rfl, rfl⟩
          go_wp2_with fail
          have lt2 := SS.out.ring.lt
          rename_i w2
          refine (strm_chunk (SS.out.upd ((Upd.refl [] _).alloc _) (by simp) (by simp) (by simp)) _ [1] 1 (by simp) (by simp) (bytesAt_new _ _ [1] _) (fun ab ao _ e => by injection e with e; injection e with e; omega)).mono ?_
          rintro e w3 ⟨rfl, hs3, hu3⟩
          have U4 := Lib.hid ((UU.out.alloc _).trans hu3 (by simp; omega))
          clear hs3 hu3
          go_wp2_with (go_at_call 32; refine (awake11 _).mono ?_; rintro e w' ⟨rfl, hu⟩)
          go_ret
          exact ⟨rfl, (U4.out.trans hu (by simp)).below (by simp)⟩
end Go.Proofs.Ytmcbllpkgeihgaa
