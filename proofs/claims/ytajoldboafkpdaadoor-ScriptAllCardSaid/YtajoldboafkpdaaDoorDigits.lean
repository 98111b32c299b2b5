-- octet.Digits: contract.
import Derived.Test.YtajoldboafkpdaaDoorIdx
import Derived.Test.YtajoldboafkpdaaDoorTxt
import Derived.Test.YtajoldboafkpdaaDoorProg
import Derived.Outline
namespace Go.Proofs.YtajoldboafkpdaaDoor
set_option linter.unusedSimpArgs false
set_option linter.unusedVariables false
open Go.RowKit Go.Lk
theorem octet_digit (c : UInt8) (w : World) :
    Calls Tryd.prog 78 #[.int .u8 (c.toNat : Int)] w fun e w' => e = .returned (.bool (isDig c)) ∧ w = w' := by
  by_cases h : 48 ≤ c.toNat
  · have e : isDig c = decide ((c.toNat : Int) ≤ 57) := by simp [isDig, h]; omega
    rw [e]
    go_enter Tryd.func78, Tryd.ntmps78
    go_wp2
    go_ret
    exact ⟨rfl, rfl⟩
  · have e : isDig c = false := by simp [isDig, h]
    rw [e]
    go_enter Tryd.func78, Tryd.ntmps78
    go_wp2
    go_ret
    exact ⟨rfl, rfl⟩
set_option maxRecDepth 100000 in
set_option maxHeartbeats 1600000 in
theorem octet_digits (s : List UInt8) (w : World) (hlen : s.length ≤ 1000000) :
    Calls Tryd.prog 59 #[.string ⟨s.toArray⟩] w fun e w' => e = .returned (.tuple #[.int .u64 ((digitsS s).1 : Int), .bool (digitsS s).2]) ∧ w = w' := by
  go_enter Tryd.func59, Tryd.ntmps59
  go_wp2_with fail
  go_loopw [4, 9] (fun v4 v9 wr => ∃ (k : Nat) (n : Nat), k ≤ s.length ∧ v9 = .int .i64 k ∧ v4 = .int .u64 n ∧ n = min (decV (s.take k)) 18446744073709551615 ∧ (s.take k).all isDig = true ∧ wr = w) (fun _ v9 _ => s.length - (intOf v9).toNat)
  case atStart => exact ⟨0, 0, by omega, rfl, rfl, by simp [decV], by simp, rfl⟩
  case round =>
    obtain ⟨k, n, hk, rfl, rfl, hn, ha, rfl⟩ := hrel
    have HN := Lib.hid hn; have HA := Lib.hid ha; clear hn ha
    by_cases hlt : k < s.length
    · have hg := get_list s k hlt
      go_wp2_with fail
      refine (octet_digit _ _).mono ?_
      rintro e w2 ⟨rfl, rfl⟩
      obtain ⟨c, hc⟩ : ∃ c, c = s[k] := ⟨_, rfl⟩
      rw [← hc] at hg ⊢
      have HC := Lib.hid hc; clear hc
      obtain ⟨dg, hdg⟩ : ∃ dg, dg = isDig c := ⟨_, rfl⟩
      rw [← hdg]
      have HD := Lib.hid hdg; clear hdg
      have htk : s.take (k + 1) = s.take k ++ [c] := by rw [List.take_succ_eq_append_getElem hlt, HC.out]
      have HT := Lib.hid htk; clear htk
      cases dg
      · have hno : digitsS s = (0, false) := by
          unfold digitsS
          rw [if_neg]
          intro h
          rw [List.all_eq_true] at h
          have := h c (by rw [HC.out]; exact List.getElem_mem hlt)
          rw [← HD.out] at this; cases this
        have HNO := Lib.hid hno; clear hno
        go_wp2
        go_ret2
        rw [HNO.out]
        exact ⟨rfl, rfl⟩
      · have hd : 48 ≤ c.toNat ∧ c.toNat ≤ 57 := by have := HD.out; simp [isDig] at this; omega
        have hsub : ((c.toNat : Int) - 48) = ((c.toNat - 48 : Nat) : Int) := by omega
        have hn64 : n ≤ 18446744073709551615 := by have := HN.out; omega
        have hall : (s.take (k + 1)).all isDig = true := by rw [HT.out, List.all_append, HA.out]; simp [← HD.out]
        have hdec : decV (s.take (k + 1)) = 10 * decV (s.take k) + (c.toNat - 48) := by rw [HT.out]; simp [decV, List.foldl_append]
        have HALL := Lib.hid hall; have HDEC := Lib.hid hdec; have HS := Lib.hid hsub
        clear hall hdec hsub
        by_cases hov : (18446744073709551615 - (c.toNat - 48)) / 10 < n
        · go_wp2_with fail
          refine ⟨⟨k + 1, 18446744073709551615, by omega, by go_num, rfl, ?_, HALL.out, trivial⟩, by simp [intOf]; omega⟩
          rw [HDEC.out]; have := HN.out; omega
        · go_wp2_with fail
          refine ⟨⟨k + 1, 10 * n + (c.toNat - 48), by omega, by go_num, ?_, ?_, HALL.out, trivial⟩, by simp [intOf]; omega⟩
          · congr 1; omega
          · rw [HDEC.out]; have := HN.out; omega
    · obtain rfl : k = s.length := by omega
      have hall : s.all isDig = true := by have := HA.out; rwa [List.take_length] at this
      have hr : digitsS s = (n, decide (s ≠ [])) := by
        unfold digitsS; rw [if_pos hall]; have := HN.out; rw [List.take_length] at this; rw [this]
      have HR := Lib.hid hr; clear hr hall
      go_wp2
      go_ret2
      rw [HR.out]
      refine ⟨?_, rfl⟩
      cases s <;> rfl
end Go.Proofs.YtajoldboafkpdaaDoor
