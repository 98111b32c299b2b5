-- lockkeeperref27.digit: contract.
-- lockkeeperref27.Bytes: contract.
-- lockkeeperref1.Digits: contract.
-- lockkeeperref1.Count, lockkeeperref24.Int: contracts.
import Derived.Test.YtajoldboafkpdaaDoorUnhex
import Derived.Outline
import Derived.Test.YtajoldboafkpdaaDoorDigits
import Derived.Test.YtajoldboafkpdaaDoorRefTok
namespace Go.Proofs.YtajoldboafkpdaaDoor
set_option linter.unusedSimpArgs false
set_option linter.unusedVariables false
open Go.RowKit Go.Lk
theorem ref_digit (c : UInt8) (w : World) :
    Calls Tryd.prog 55 #[.int .u8 c.toNat] w fun e w' => e = .returned (.int .i64 (hvI c)) ∧ w' = w := by
  obtain ⟨r, hr⟩ : ∃ r, r = hvI c := ⟨_, rfl⟩
  have hr2 : r = if 48 ≤ c.toNat ∧ c.toNat ≤ 57 then (c.toNat : Int) - 48 else if 97 ≤ c.toNat ∧ c.toNat ≤ 102 then (c.toNat : Int) - 87 else -1 := by
    rw [hr]; unfold hvI hv
    by_cases h1 : 48 ≤ c.toNat ∧ c.toNat ≤ 57
    · rw [if_pos h1, if_pos h1]; simp only; omega
    · rw [if_neg h1, if_neg h1]
      by_cases h2 : 97 ≤ c.toNat ∧ c.toNat ≤ 102
      · rw [if_pos h2, if_pos h2]; simp only; omega
      · rw [if_neg h2, if_neg h2]
  have hlt := c.toNat_lt
  rw [← hr]
  clear hr
  obtain ⟨n, hn⟩ : ∃ n, n = c.toNat := ⟨_, rfl⟩
  rw [← hn] at hr2 hlt ⊢
  clear hn
  by_cases h1 : 48 ≤ n ∧ n ≤ 57
  · rw [if_pos h1] at hr2
    have HR := Lib.hid hr2; clear hr2
    have a1 : (n : Int) ≥ 48 := by omega
    have a2 : (n : Int) ≤ 57 := by omega
    go_enter Tryd.func55, Tryd.ntmps55
    go_wp2
    go_ret
    exact ⟨by rw [HR.out]; first | rfl | go_num, rfl⟩
  · rw [if_neg h1] at hr2
    by_cases h2 : 97 ≤ n ∧ n ≤ 102
    · rw [if_pos h2] at hr2
      have HR := Lib.hid hr2; clear hr2
      have a0 : ¬ ((n : Int) ≤ 57) := by omega
      have a1 : (n : Int) ≥ 97 := by omega
      have a2 : (n : Int) ≤ 102 := by omega
      go_enter Tryd.func55, Tryd.ntmps55
      go_wp2
      go_ret
      refine ⟨?_, rfl⟩
      rw [HR.out]
      first | rfl | go_num | (congr 2; omega)
    · rw [if_neg h2] at hr2
      have HR := Lib.hid hr2; clear hr2
      rcases (show n < 48 ∨ (57 < n ∧ n < 97) ∨ 102 < n by omega) with h | h | h
      · have a0 : ¬ ((n : Int) ≥ 48) := by omega
        have a1 : ¬ ((n : Int) ≥ 97) := by omega
        go_enter Tryd.func55, Tryd.ntmps55
        go_wp2
        go_ret
        exact ⟨by rw [HR.out]; rfl, rfl⟩
      · have a0 : ¬ ((n : Int) ≤ 57) := by omega
        have a1 : ¬ ((n : Int) ≥ 97) := by omega
        go_enter Tryd.func55, Tryd.ntmps55
        go_wp2
        go_ret
        exact ⟨by rw [HR.out]; rfl, rfl⟩
      · have a0 : ¬ ((n : Int) ≤ 57) := by omega
        have a1 : ¬ ((n : Int) ≤ 102) := by omega
        go_enter Tryd.func55, Tryd.ntmps55
        go_wp2
        go_ret
        exact ⟨by rw [HR.out]; rfl, rfl⟩
end Go.Proofs.YtajoldboafkpdaaDoor
namespace Go.Proofs.YtajoldboafkpdaaDoor
set_option linter.unusedSimpArgs false
set_option linter.unusedVariables false
open Go.RowKit Go.Lk
theorem mul_hex {m n : Nat} (hm : m < 16) (hn : n < 16) : (16 * (m : Int) + (n : Int)) = (((UInt8.ofNat (16 * m + n)).toNat : Nat) : Int) := by
  rw [UInt8.toNat_ofNat', Nat.mod_eq_of_lt (by omega)]; omega
set_option maxHeartbeats 1600000 in
set_option maxRecDepth 100000 in
theorem ref_bytes (w : World) (s : List UInt8) (hlen : s.length ≤ 1000000) :
    Calls Tryd.prog 22 #[.string ⟨s.toArray⟩] w fun e w' => ∃ v, e = .returned (.tuple #[v, .bool (unhexS s).isSome]) ∧ BytesV w' v ((unhexS s).getD []) ∧ (∀ k, v.ownBlock = some k → w.heap.size ≤ k) ∧ Upd [] w w' := by
  have nilB : ∀ W : World, BytesV W (.slice none 0 0) [] := fun W => ⟨none, 0, rfl, Nat.le_refl _, fun j x h => by cases h⟩
  by_cases h1 : s = [45]
  · subst h1
    go_enter Tryd.func22, Tryd.ntmps22
    go_wp2
    go_ret2
    exact ⟨_, rfl, nilB _, by simp [Value.ownBlock], Upd.refl _ _⟩
  by_cases h2 : s = []
  · subst h2
    go_enter Tryd.func22, Tryd.ntmps22
    go_wp2
    go_ret2
    exact ⟨_, rfl, nilB _, by simp [Value.ownBlock], Upd.refl _ _⟩
  have hu : unhexS s = unhexL s := by unfold unhexS; rw [if_neg h1, if_neg h2]
  rw [hu]
  clear hu
  have ne1 : (s == [45]) = false := by rw [beq_eq_false_iff_ne]; exact h1
  have ne2 : ((s.length : Int) == 0) = false := by
    rw [beq_eq_false_iff_ne]
    have : s.length ≠ 0 := fun h => h2 (List.eq_nil_of_length_eq_zero h)
    omega
  by_cases hodd : s.length % 2 = 0
  case neg =>
    have hn : unhexL s = none := by
      cases h : unhexL s with
      | none => rfl
      | some b => have := unhexL_length h; omega
    rw [hn]
    have e1 : ((s.length : Int) % 2 != 0) = true := by rw [bne_iff_ne]; omega
    go_enter Tryd.func22, Tryd.ntmps22
    go_wp2
    go_ret2
    exact ⟨_, rfl, nilB _, by simp [Value.ownBlock], Upd.refl _ _⟩
  have e1 : ((s.length : Int) % 2 != 0) = false := by rw [bne_eq_false_iff_eq]; omega
  obtain ⟨i0, hi, hz0, hz1, hz2⟩ := info_parts Tryd.info5
  go_enter Tryd.func22, Tryd.ntmps22
  go_wp2_with fail
  clear ne1 ne2 e1
  go_loopw [4, 5] (fun v4 v5 wr => ∃ (k : Nat) (o : List UInt8), 2 * k ≤ s.length ∧ v5 = .int .i64 (2 * k : Nat) ∧ wr.ownsRow w.heap.size 5 1 v4 k (o.map B) ∧ unhexL s = (unhexL (s.drop (2 * k))).map (o ++ ·) ∧ Upd [] w wr) (fun _ v5 _ => s.length - (intOf v5).toNat)
  case atStart => exact ⟨0, [], by omega, rfl, World.ownsRow_nil _ _ _ _, by simp, Upd.refl _ _⟩
  case round =>
    obtain ⟨k, o, hk, rfl, hown, he, hu⟩ := hrel
    obtain ⟨A3, c3, rfl⟩ := own_slice hown
    have HO := Lib.hid hown; have HU := Lib.hid hu; have HE := Lib.hid he; clear hown hu he
    by_cases hlt : 2 * k < s.length
    · have hlt2 : 2 * k + 1 < s.length := by omega
      obtain ⟨x, hx⟩ : ∃ x, x = s[2 * k] := ⟨_, rfl⟩
      obtain ⟨y, hy⟩ : ∃ y, y = s[2 * k + 1] := ⟨_, rfl⟩
      have hdr : s.drop (2 * k) = x :: y :: s.drop (2 * (k + 1)) := by
        rw [List.drop_eq_getElem_cons hlt, List.drop_eq_getElem_cons hlt2, hx, hy]; rfl
      have HX := Lib.hid hx; have HY := Lib.hid hy; have HD := Lib.hid hdr
      clear hx hy hdr
      go_wp2_with fail
      refine wp_region_proc [(0, 0), (1, 0), (2, 0), (4, 0), (5, 0), (6, 0), (7, 0), (3, 1), (8, 2), (9, 0), (10, 0)] (fun W => True) (by kernel_rfl) (by kernel_rfl) (fun c a w t v h => by cases t <;> exact h) trivial ?_
      apply proc_held
      case ho => simp only [List.getElem?_toArray, List.getElem?_cons_succ, List.getElem?_cons_zero]; rfl
      case hg => rfl
      case hv => intro W hW; go_simp; rfl
      case ha => go_simp; rfl
      apply proc_held
      case ho => simp only [List.getElem?_toArray, List.getElem?_cons_succ, List.getElem?_cons_zero]; rfl
      case hg => rfl
      case hv => intro W hW; go_simp; rfl
      case ha => go_simp; rfl
      apply proc_held (v := .int .u8 (x.toNat : Int))
      case ho => simp only [List.getElem?_toArray, List.getElem?_cons_succ, List.getElem?_cons_zero]; rfl
      case hg => rfl
      case hv => intro W hW; rw [HX.out]; exact run_index_next Tryd.underlying9 rfl hlt W
      case ha => go_simp; rfl
      apply proc_held
      case ho => simp only [List.getElem?_toArray, List.getElem?_cons_succ, List.getElem?_cons_zero]; rfl
      case hg => rfl
      case hv => intro W hW; go_simp; rfl
      case ha => go_simp; rfl
      apply proc_held
      case ho => simp only [List.getElem?_toArray, List.getElem?_cons_succ, List.getElem?_cons_zero]; rfl
      case hg => rfl
      case hv => intro W hW; go_simp; rfl
      case ha => go_simp; rfl
      apply proc_held
      case ho => simp only [List.getElem?_toArray, List.getElem?_cons_succ, List.getElem?_cons_zero]; rfl
      case hg => rfl
      case hv => intro W hW; go_simp; rfl
      case ha => go_simp; rfl
      apply proc_held (v := .int .u8 (y.toNat : Int))
      case ho => simp only [List.getElem?_toArray, List.getElem?_cons_succ, List.getElem?_cons_zero]; rfl
      case hg => rfl
      case hv => intro W hW; rw [HY.out]; exact run_index_next Tryd.underlying9 (by rw [IntWalk.i64_in _ (by omega)]; omega) hlt2 W
      case ha => go_simp; rfl
      apply proc_eff
      case ho => simp only [List.getElem?_toArray, List.getElem?_cons_succ, List.getElem?_cons_zero]; rfl
      go_wp2_with fail
      refine (ref_digit x _).mono ?_
      rintro e w2 ⟨rfl, rfl⟩
      go_wp2_with fail
      refine ⟨_, fun _ h => h, trivial, ?_⟩
      apply proc_last
      case ho => simp only [List.getElem?_toArray, List.getElem?_cons_succ, List.getElem?_cons_zero]; rfl
      go_wp2_with fail
      refine (ref_digit y _).mono ?_
      rintro e w2 ⟨rfl, rfl⟩
      go_wp2_with fail
      refine ⟨fun _ => True, trivial, ?_⟩
      repeat
        (first
          | (apply proc_held
             case ho => simp only [List.getElem?_toArray, List.getElem?_cons_succ, List.getElem?_cons_zero]; rfl
             case hg => rfl
             case hv => intro W hW; (try dsimp only at hW); go_simp; rfl
             case ha => go_simp; rfl)
          | (apply proc_held_on
             case ho => simp only [List.getElem?_toArray, List.getElem?_cons_succ, List.getElem?_cons_zero]; rfl
             case hg => rfl
             case hv => intro W hW; (try dsimp only at hW); go_simp; rfl
             case ha => go_simp; rfl)
          | (apply proc_off
             case ho => simp only [List.getElem?_toArray, List.getElem?_cons_succ, List.getElem?_cons_zero]; rfl
             case hg => rfl
             case ha => go_simp; rfl))
      refine proc_nil ?_
      have hvx : hvI x = match hv x with | some n => (n : Int) | none => -1 := rfl
      have hvy : hvI y = match hv y with | some n => (n : Int) | none => -1 := rfl
      cases hx2 : hv x with
      | none =>
        rw [hx2] at hvx
        have hn : unhexL s = none := by rw [HE.out, HD.out, unhexL, hx2]; rfl
        rw [hvx]
        clear hvx hvy hx2
        have HN := Lib.hid hn; clear hn
        go_wp2
        go_ret2
        rw [HN.out]
        exact ⟨_, rfl, nilB _, by simp [Value.ownBlock], HU.out.drew⟩
      | some m =>
        rw [hx2] at hvx
        cases hy2 : hv y with
        | none =>
          rw [hy2] at hvy
          have hn : unhexL s = none := by rw [HE.out, HD.out, unhexL, hx2, hy2]; rfl
          rw [hvx, hvy]
          clear hvx hvy hx2 hy2
          have HN := Lib.hid hn; clear hn
          go_wp2
          go_ret2
          rw [HN.out]
          exact ⟨_, rfl, nilB _, by simp [Value.ownBlock], HU.out.drew⟩
        | some n =>
          rw [hy2] at hvy
          rw [hvx, hvy]
          have hm := hv_lt hx2
          have hn := hv_lt hy2
          have HV := Lib.hid hx2; have HW := Lib.hid hy2
          clear hvx hvy hx2 hy2
          have hob := Lib.hid (mul_hex hm hn)
          have ho1 : o.length = k := by have := HO.out.1; simpa using this
          have hnew : CellsAt ((wr.drewN 1).alloc (.cells #[.int .u8 ((UInt8.ofNat (16 * m + n)).toNat : Int)] 5)) (some ⟨wr.heap.size, 0, none⟩) ([UInt8.ofNat (16 * m + n)].map B) := (bytesAt_new (wr.drewN 1) 5 [UInt8.ofNat (16 * m + n)] (0, 0)).cells
          have hstep : unhexL s = (unhexL (s.drop (2 * (k + 1)))).map ((o ++ [UInt8.ofNat (16 * m + n)]) ++ ·) := by
            rw [HE.out, HD.out, unhexL, HV.out, HW.out]
            simp only
            rw [Option.map_map]; congr 1; funext r; simp
          have HNEW := Lib.hid hnew; have HOL := Lib.hid ho1; have HST := Lib.hid hstep; clear hnew ho1 hstep
          generalize UInt8.ofNat (16 * m + n) = cb at *
          go_wp2_with (at_builtin; refine wpList_append_src _ rfl (.tmp 40) (.tmp 46) 25 rfl w.heap.size 5 i0 (.int .u8 0) 1 1 Tryd.underlying25 hi hz0 hz1 hz2 rfl (by decide) (.slice A3 k c3) k (o.map B) rfl ?q1 (some ⟨wr.heap.size, 0, none⟩) 1 1 ([cb].map B) rfl (by simp) ?q2 (B_one _) ?q3 ?q4 ?q5 ?q6)
          case q1 => exact own_upd HO.out (((Upd.refl [] wr).alloc _).drew) (by simp)
          case q2 => rw [hob.out]; exact HNEW.out
          case q3 => unfold maxLen; omega
          case q4 => omega
          case q5 => have := HU.out.size; simp; omega
          intro v2 w2 hown2 hg2 hat2
          have hge1 := own_ge HO.out
          have U2 : Upd [] w w2 := ((HU.out.alloc _).drew).grown hg2 (fun j hj => .inl (hge1 j hj))
          have HO2 := Lib.hid hown2; have HU2 := Lib.hid U2
          clear hown2 hg2 hat2 U2
          go_wp2_with fail
          refine ⟨⟨k + 1, o ++ [cb], by omega, by go_num, by rw [List.map_append]; exact HO2.out, HST.out, HU2.out⟩, by simp [intOf]; omega⟩
    · have hk2 : 2 * k = s.length := by omega
      have hend : unhexL s = some o := by rw [HE.out, hk2, List.drop_length]; simp [unhexL]
      have HN := Lib.hid hend; clear hend hk2
      have ho1 : o.length = k := by have := HO.out.1; simpa using this
      go_wp2
      go_ret2
      rw [HN.out]
      exact ⟨_, rfl, bytes_of_own HO.out, own_ge HO.out, HU.out⟩
end Go.Proofs.YtajoldboafkpdaaDoor
namespace Go.Proofs.YtajoldboafkpdaaDoor
set_option linter.unusedSimpArgs false
set_option linter.unusedVariables false
open Go.RowKit Go.Lk
set_option maxRecDepth 100000 in
set_option maxHeartbeats 1600000 in
theorem ref_digits (s : Bs) (w : World) (hlen : s.length ≤ 1000000) :
    Calls Tryd.prog 86 #[.string ⟨s.toArray⟩] w fun e w' => e = .returned (.tuple #[.int .u64 ((digitsS s).1 : Int), .bool (digitsS s).2]) ∧ w' = w := by
  obtain ⟨r, hr⟩ : ∃ r, r = digitsS s := ⟨_, rfl⟩
  have HRR := Lib.hid hr
  rw [← hr]
  clear hr
  go_enter Tryd.func86, Tryd.ntmps86
  go_wp2_with fail
  go_loopw [4, 5] (fun v4 v5 wr => ∃ (k : Nat) (n : Nat), k ≤ s.length ∧ v5 = .int .i64 k ∧ v4 = .int .u64 n ∧ n = min (decV (s.take k)) 18446744073709551615 ∧ (s.take k).all isDig = true ∧ wr = w) (fun _ v5 _ => s.length - (intOf v5).toNat)
  case atStart => exact ⟨0, 0, by omega, rfl, rfl, by simp [decV], by simp, rfl⟩
  case round =>
    obtain ⟨k, n, hk, rfl, rfl, hn, ha, rfl⟩ := hrel
    have HN := Lib.hid hn; have HA := Lib.hid ha; clear hn ha
    by_cases hlt : k < s.length
    · have hg := get_list s k hlt
      obtain ⟨c, hc⟩ : ∃ c, c = s[k] := ⟨_, rfl⟩
      rw [← hc] at hg
      have HC := Lib.hid hc; clear hc
      have htk : s.take (k + 1) = s.take k ++ [c] := by rw [List.take_succ_eq_append_getElem hlt, HC.out]
      have HT := Lib.hid htk; clear htk
      by_cases hd : 48 ≤ c.toNat ∧ c.toNat ≤ 57
      case neg =>
        have hno : r = (0, false) := by
          rw [HRR.out]
          unfold digitsS
          rw [if_neg]
          intro h
          rw [List.all_eq_true] at h
          have := h c (by rw [HC.out]; exact List.getElem_mem hlt)
          simp [isDig] at this; omega
        have HNO := Lib.hid hno; clear hno
        rcases (show c.toNat < 48 ∨ 57 < c.toNat by omega) with h | h
        · have a1 : (c.toNat : Int) < 48 := by omega
          go_wp2_with fail
          go_ret2
          exact ⟨by rw [HNO.out]; rfl, rfl⟩
        · have a1 : ¬ ((c.toNat : Int) < 48) := by omega
          have a2 : (c.toNat : Int) > 57 := by omega
          go_wp2_with fail
          go_ret2
          exact ⟨by rw [HNO.out]; rfl, rfl⟩
      · have a1 : ¬ ((c.toNat : Int) < 48) := by omega
        have a2 : ¬ (57 < (c.toNat : Int)) := by omega
        have hdig : isDig c = true := by simp [isDig]; omega
        have hn64 : n ≤ 18446744073709551615 := by have := HN.out; omega
        have hall : (s.take (k + 1)).all isDig = true := by rw [HT.out, List.all_append, HA.out]; simp [hdig]
        have hdec : decV (s.take (k + 1)) = 10 * decV (s.take k) + (c.toNat - 48) := by rw [HT.out]; simp [decV, List.foldl_append]
        have HALL := Lib.hid hall; have HDEC := Lib.hid hdec
        clear hall hdec hdig
        by_cases hov : (18446744073709551615 - (c.toNat - 48)) / 10 < n
        · go_wp2_with fail
          refine ⟨⟨k + 1, 18446744073709551615, by omega, by go_num, rfl, ?_, HALL.out, trivial⟩, by simp [intOf]; omega⟩
          rw [HDEC.out]; have := HN.out; omega
        · go_wp2_with fail
          refine ⟨⟨k + 1, 10 * n + (c.toNat - 48), by omega, by go_num, ?_, ?_, HALL.out, trivial⟩, by simp [intOf]; omega⟩
          · congr 1; omega
          · rw [HDEC.out]; have := HN.out; omega
    · have hkl : k = s.length := by omega
      have hrr : r = (n, decide (0 < s.length)) := by
        rw [HRR.out]
        have hall := HA.out
        have hn := HN.out
        rw [hkl, List.take_length] at hall hn
        unfold digitsS; rw [if_pos hall, hn]
        cases s <;> simp
      have HR := Lib.hid hrr; clear hrr hkl
      go_wp2_with fail
      go_ret2
      exact ⟨by rw [HR.out]; rfl, rfl⟩
end Go.Proofs.YtajoldboafkpdaaDoor
namespace Go.Proofs.YtajoldboafkpdaaDoor
set_option linter.unusedSimpArgs false
set_option linter.unusedVariables false
open Go.RowKit Go.Lk
/-- The number whose numeral a text is, if it is not above 'most'. -/
def countS (s : Bs) (most : Nat) : Nat × Bool := if (digitsS s).2 = true ∧ s.length ≤ 20 ∧ Lib.decDigits (digitsS s).1 = s ∧ (digitsS s).1 ≤ most then ((digitsS s).1, true) else (0, false)
set_option maxRecDepth 100000 in
set_option maxHeartbeats 1600000 in
theorem ref_count (s : Bs) (most : Nat) (w : World) (hlen : s.length ≤ 1000000) (hm : most < 18446744073709551616) :
    Calls Tryd.prog 72 #[.string ⟨s.toArray⟩, .int .u64 most] w fun e w' => e = .returned (.tuple #[.int .u64 ((countS s most).1 : Int), .bool (countS s most).2]) ∧ w' = w := by
  obtain ⟨r, hr⟩ : ∃ r, r = countS s most := ⟨_, rfl⟩
  have HR := Lib.hid hr
  rw [← hr]
  clear hr
  obtain ⟨d, hd⟩ : ∃ d, d = digitsS s := ⟨_, rfl⟩
  have hd64 : d.1 < 18446744073709551616 := by
    rw [hd]; unfold digitsS; split
    · simp only; omega
    · simp
  have q := ref_digits s w hlen
  rw [← hd] at q
  have HD := Lib.hid hd; have Q := Lib.hid q
  clear hd q
  obtain ⟨n, ok⟩ := d
  simp only at hd64
  have hcr : r = if ok = true ∧ s.length ≤ 20 ∧ Lib.decDigits n = s ∧ n ≤ most then (n, true) else (0, false) := by rw [HR.out]; unfold countS; rw [← HD.out]
  have HCR := Lib.hid hcr; clear hcr
  go_enter Tryd.func72, Tryd.ntmps72
  go_wp2_with fail
  refine Q.out.mono ?_
  rintro e w1 ⟨rfl, hw1⟩
  rw [hw1]
  clear hw1 w1 Q
  cases ok
  · have hno : r = (0, false) := by rw [HCR.out]; simp
    have HNO := Lib.hid hno; clear hno
    go_wp2_with fail
    go_ret2
    exact ⟨by rw [HNO.out]; rfl, rfl⟩
  · by_cases h20 : 20 < s.length
    · have hno : r = (0, false) := by rw [HCR.out, if_neg]; rintro ⟨_, h, _⟩; omega
      have HNO := Lib.hid hno; clear hno
      have a1 : (s.length : Int) > 20 := by omega
      go_wp2_with fail
      go_ret2
      exact ⟨by rw [HNO.out]; rfl, rfl⟩
    · have a1 : ¬ (20 < (s.length : Int)) := by omega
      go_wp2_with fail
      refine (ref_num n hd64 _).mono ?_
      rintro e w2 ⟨rfl, hw2⟩
      rw [hw2]
      clear hw2 w2
      obtain ⟨t, ht⟩ : ∃ t, t = Lib.decDigits n := ⟨_, rfl⟩
      have HT := Lib.hid ht
      rw [← ht]
      clear ht
      by_cases hts : t = s
      · by_cases hnm : most < n
        · have hno : r = (0, false) := by rw [HCR.out, if_neg]; rintro ⟨_, _, _, h⟩; omega
          have HNO := Lib.hid hno; clear hno
          have a2 : (n : Int) > most := by omega
          have hb : (t != s) = false := by rw [bne_eq_false_iff_eq]; exact hts
          have HTS := Lib.hid hts; clear hts
          go_wp2_with fail
          go_ret2
          exact ⟨by rw [HNO.out]; rfl, rfl⟩
        · have hyes : r = (n, true) := by rw [HCR.out, if_pos]; exact ⟨by trivial, by omega, by rw [← HT.out]; exact hts, by omega⟩
          have HY := Lib.hid hyes; clear hyes
          have a2 : ¬ ((most : Int) < n) := by omega
          have hb : (t != s) = false := by rw [bne_eq_false_iff_eq]; exact hts
          have HTS := Lib.hid hts; clear hts
          go_wp2_with fail
          go_ret2
          exact ⟨by rw [HY.out]; rfl, rfl⟩
      · have hno : r = (0, false) := by rw [HCR.out, if_neg]; rintro ⟨_, _, h, _⟩; exact hts (by rw [HT.out]; exact h)
        have HNO := Lib.hid hno; clear hno
        have hb : (t != s) = true := by rw [bne_iff_ne]; exact hts
        go_wp2_with fail
        go_ret2
        exact ⟨by rw [HNO.out]; rfl, rfl⟩
theorem countS_le (s : Bs) (most : Nat) : (countS s most).1 ≤ most := by
  unfold countS
  split
  · rename_i h; exact h.2.2.2
  · simp
theorem ref_int (s : Bs) (w : World) (hlen : s.length ≤ 1000000) :
    Calls Tryd.prog 71 #[.string ⟨s.toArray⟩] w fun e w' => e = .returned (.tuple #[.int .i64 ((countS s 9223372036854775807).1 : Int), .bool (countS s 9223372036854775807).2]) ∧ w' = w := by
  have q := ref_count s 9223372036854775807 w hlen (by decide)
  have hle := countS_le s 9223372036854775807
  obtain ⟨d, hd⟩ : ∃ d, d = countS s 9223372036854775807 := ⟨_, rfl⟩
  rw [← hd] at q hle ⊢
  have Q := Lib.hid q
  clear hd q
  obtain ⟨n, ok⟩ := d
  simp only at hle
  go_enter Tryd.func71, Tryd.ntmps71
  go_wp2_with fail
  refine Q.out.mono ?_
  rintro e w1 ⟨rfl, hw1⟩
  rw [hw1]
  clear hw1 w1 Q
  go_wp2_with fail
  go_ret2
  exact ⟨by first | rfl | go_num, rfl⟩
end Go.Proofs.YtajoldboafkpdaaDoor
