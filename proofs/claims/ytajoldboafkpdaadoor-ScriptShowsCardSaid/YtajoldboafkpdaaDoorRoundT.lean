-- What is told of an act is read back. Of no program.
import Derived.Test.YtajoldboafkpdaaDoorActs
import Derived.Test.YtajoldboafkpdaaDoorSplitJ
import Derived.Lib.ItoaLen
namespace Go.Lk
open Go.Lib
theorem decV_append (a : List UInt8) (c : UInt8) : decV (a ++ [c]) = 10 * decV a + (c.toNat - 48) := by simp [decV, List.foldl_append]
theorem dig_toNat {k : Nat} (h : k < 10) : (UInt8.ofNat (48 + k)).toNat = 48 + k := by rw [UInt8.toNat_ofNat', Nat.mod_eq_of_lt (by omega)]
theorem decV_decDigits : ∀ (f n : Nat), n < f → decV (decDigits n) = n
  | 0, n, h => by omega
  | f + 1, n, h => by
    rw [decDigits]
    split
    · rename_i h10; simp [decV]; omega
    · rw [decV_append, decV_decDigits f (n / 10) (by omega), dig_toNat (by omega)]; omega
theorem decDigits_all : ∀ (f n : Nat), n < f → ∀ c ∈ decDigits n, isDig c = true
  | 0, n, h => by omega
  | f + 1, n, h => by
    intro c hc
    rw [decDigits] at hc
    split at hc
    · rename_i h10
      simp only [List.mem_singleton] at hc; subst hc
      simp [isDig]; omega
    · rw [List.mem_append] at hc
      rcases hc with hc | hc
      · exact decDigits_all f (n / 10) (by omega) c hc
      · simp only [List.mem_singleton] at hc; subst hc
        simp [isDig]; omega
theorem decDigits_ne (n : Nat) : decDigits n ≠ [] := by
  rw [decDigits]; split <;> simp
theorem digitsS_decDigits (n : Nat) (h : n ≤ 18446744073709551615) : digitsS (decDigits n) = (n, true) := by
  unfold digitsS
  rw [if_pos (List.all_eq_true.2 (decDigits_all (n + 1) n (by omega))), decV_decDigits (n + 1) n (by omega), Nat.min_eq_left h]
  simp [decDigits_ne]
theorem itoa_nat (n : Int) (h : 0 ≤ n) : itoa n = decDigits n.toNat := by unfold itoa; rw [if_neg (by omega)]
theorem intS_itoa (n : Int) (h0 : 0 ≤ n) (h1 : n ≤ 9223372036854775807) : intS (itoa n) = n := by
  rw [itoa_nat n h0]; unfold intS
  rw [digitsS_decDigits _ (by omega)]
  simp only [Bool.not_true, Bool.false_eq_true, false_or]
  rw [if_neg (by omega)]; omega
theorem numS_itoa (n : Int) (h0 : 0 ≤ n) (h1 : n ≤ 18446744073709551615) : ((digitsS (itoa n)).1 : Int) = n := by
  rw [itoa_nat n h0, digitsS_decDigits _ (by omega)]; simp; omega
theorem isDig_blank {c : UInt8} (h : isDig c = true) : c ≠ 32 := by
  rintro rfl; revert h; decide
theorem itoa_clean (n : Int) (h : 0 ≤ n) : (32 : UInt8) ∉ itoa n := by
  rw [itoa_nat n h]
  exact fun hm => isDig_blank (decDigits_all (n.toNat + 1) n.toNat (by omega) 32 hm) rfl
theorem hd_clean (n : Nat) (h : n < 16) : hd n ≠ 32 := by
  rcases (show n = 0 ∨ n = 1 ∨ n = 2 ∨ n = 3 ∨ n = 4 ∨ n = 5 ∨ n = 6 ∨ n = 7 ∨ n = 8 ∨ n = 9 ∨ n = 10 ∨ n = 11 ∨ n = 12 ∨ n = 13 ∨ n = 14 ∨ n = 15 by omega) with rfl | rfl | rfl | rfl | rfl | rfl | rfl | rfl | rfl | rfl | rfl | rfl | rfl | rfl | rfl | rfl <;> decide
theorem hexS_clean (b : List UInt8) : (32 : UInt8) ∉ hexS b := by
  unfold hexS
  split
  · decide
  · intro hm
    simp only [hexL, List.mem_flatMap, List.mem_cons, List.not_mem_nil, or_false] at hm
    obtain ⟨c, _, h | h⟩ := hm
    · exact hd_clean _ (by have := c.toNat_lt; omega) h.symm
    · exact hd_clean _ (by omega) h.symm
theorem textS_clean {s : List UInt8} (h : textS s = true) : (32 : UInt8) ∉ s := by
  intro hm
  simp only [textS, Bool.and_eq_true, List.all_eq_true] at h
  have := h.2 32 hm
  revert this; decide
theorem tokenS_clean {s : List UInt8} (h : tokenS s = true) : (32 : UInt8) ∉ s ∧ (61 : UInt8) ∉ s := by
  simp only [tokenS, Bool.and_eq_true, List.all_eq_true] at h
  constructor
  · intro hm; have := h.2 32 hm; revert this; decide
  · intro hm; have := h.2 61 hm; revert this; decide
theorem hdrS_hdrW {x : Bs × Bs} (h : tokenS x.1 = true) : hdrS (hdrW x) = x := by
  unfold hdrS hdrW
  rw [cut_mid 61 x.1 _ (tokenS_clean h).2]
  simp only [unhexS_hexS, Option.getD_some]
theorem hdrW_clean {x : Bs × Bs} (h : tokenS x.1 = true) : (32 : UInt8) ∉ hdrW x := by
  unfold hdrW
  intro hm
  rw [List.mem_append, List.mem_cons] at hm
  rcases hm with hm | hm | hm
  · exact (tokenS_clean h).1 hm
  · revert hm; decide
  · exact hexS_clean _ hm
/-- The bounds of what the fields' types hold. -/
structure ActB (a : ActL) : Prop where
  id : a.id ≤ 9223372036854775807
  n : a.n ≤ 9223372036854775807
  ids : ∀ x ∈ a.ids, x ≤ 9223372036854775807
  time : 0 ≤ a.time ∧ a.time ≤ 18446744073709551615
  status : a.status ≤ 9223372036854775807
  mode : a.req.mode ≤ 9223372036854775807
  cls : a.req.cls ≤ 9223372036854775807
  timeout : 0 ≤ a.req.timeout ∧ a.req.timeout ≤ 18446744073709551615
  group : a.req.group ≤ 9223372036854775807
  signal : a.req.signal ≤ 9223372036854775807
theorem opOfS_opS {n : Int} (h : 1 ≤ n ∧ n ≤ 14) : opOfS (opS n) = n := by
  rcases (show n = 1 ∨ n = 2 ∨ n = 3 ∨ n = 4 ∨ n = 5 ∨ n = 6 ∨ n = 7 ∨ n = 8 ∨ n = 9 ∨ n = 10 ∨ n = 11 ∨ n = 12 ∨ n = 13 ∨ n = 14 by omega) with rfl | rfl | rfl | rfl | rfl | rfl | rfl | rfl | rfl | rfl | rfl | rfl | rfl | rfl <;> decide
theorem opS_clean {n : Int} (h : 1 ≤ n ∧ n ≤ 14) : (32 : UInt8) ∉ opS n := by
  rcases (show n = 1 ∨ n = 2 ∨ n = 3 ∨ n = 4 ∨ n = 5 ∨ n = 6 ∨ n = 7 ∨ n = 8 ∨ n = 9 ∨ n = 10 ∨ n = 11 ∨ n = 12 ∨ n = 13 ∨ n = 14 by omega) with rfl | rfl | rfl | rfl | rfl | rfl | rfl | rfl | rfl | rfl | rfl | rfl | rfl | rfl <;> decide
theorem actW_op {a : ActL} (h : (actW a).2 = true) : 1 ≤ a.op ∧ a.op ≤ 14 := by
  unfold actW at h
  (repeat' split at h) <;> first | omega | (simp at h)
end Go.Lk
