-- Texts of a script as plain functions over bytes: hex, decimal numerals. Of no program.
import Derived.Lib.ItoaNum
set_option linter.unusedVariables false
set_option linter.unusedSimpArgs false
namespace Go.Lk
/-- A hex digit. -/
def hd (n : Nat) : UInt8 := if n < 10 then UInt8.ofNat (48 + n) else UInt8.ofNat (87 + n)
/-- Its worth. -/
def hv (c : UInt8) : Option Nat := if 48 ≤ c.toNat ∧ c.toNat ≤ 57 then some (c.toNat - 48) else if 97 ≤ c.toNat ∧ c.toNat ≤ 102 then some (c.toNat - 87) else none
def hexL (b : List UInt8) : List UInt8 := b.flatMap fun c => [hd (c.toNat / 16), hd (c.toNat % 16)]
def hexS (b : List UInt8) : List UInt8 := if b = [] then [45] else hexL b
def unhexL : List UInt8 → Option (List UInt8)
  | [] => some []
  | [_] => none
  | a :: b :: l => match hv a, hv b with
    | some x, some y => (unhexL l).map fun r => UInt8.ofNat (16 * x + y) :: r
    | _, _ => none
def unhexS (s : List UInt8) : Option (List UInt8) := if s = [45] then some [] else if s = [] then none else unhexL s
theorem hv_hd (n : Nat) (h : n < 16) : hv (hd n) = some n := by
  rcases (show n = 0 ∨ n = 1 ∨ n = 2 ∨ n = 3 ∨ n = 4 ∨ n = 5 ∨ n = 6 ∨ n = 7 ∨ n = 8 ∨ n = 9 ∨ n = 10 ∨ n = 11 ∨ n = 12 ∨ n = 13 ∨ n = 14 ∨ n = 15 by omega) with rfl | rfl | rfl | rfl | rfl | rfl | rfl | rfl | rfl | rfl | rfl | rfl | rfl | rfl | rfl | rfl <;> decide
theorem hv_lt {c : UInt8} {n : Nat} (h : hv c = some n) : n < 16 := by
  unfold hv at h
  split at h
  · injection h; omega
  · split at h
    · injection h; omega
    · cases h
theorem hd_hv {c : UInt8} {n : Nat} (h : hv c = some n) : hd n = c := by
  unfold hv at h
  apply UInt8.toNat_inj.1
  split at h
  · injection h with h; subst h
    unfold hd; rw [if_pos (by omega)]; simp [UInt8.toNat_ofNat']; omega
  · split at h
    · injection h with h; subst h
      unfold hd; rw [if_neg (by omega)]; simp [UInt8.toNat_ofNat']; omega
    · cases h
theorem hexL_length (b : List UInt8) : (hexL b).length = 2 * b.length := by
  induction b with
  | nil => rfl
  | cons c b ih => simp only [hexL, List.flatMap_cons, List.length_append, List.length_cons, List.length_nil] at ih ⊢; omega
theorem unhexL_hexL (b : List UInt8) : unhexL (hexL b) = some b := by
  induction b with
  | nil => rfl
  | cons c b ih =>
    have hc := c.toNat_lt
    show unhexL (hd (c.toNat / 16) :: hd (c.toNat % 16) :: hexL b) = _
    rw [unhexL, hv_hd _ (by omega), hv_hd _ (by omega)]
    simp only [ih, Option.map_some, Option.some.injEq, List.cons.injEq, and_true]
    apply UInt8.toNat_inj.1
    simp [UInt8.toNat_ofNat']; omega
theorem hexL_unhexL : ∀ (s b : List UInt8), unhexL s = some b → hexL b = s
  | [], b, h => by injection h with h; subst h; rfl
  | [_], b, h => by cases h
  | x :: y :: l, b, h => by
    rw [unhexL] at h
    split at h
    · rename_i m n hm hn
      cases hl : unhexL l with
      | none => rw [hl] at h; cases h
      | some r =>
        rw [hl] at h
        injection h with h
        subst h
        have hm' := hv_lt hm
        have hn' := hv_lt hn
        have ih := hexL_unhexL l r hl
        show hd ((UInt8.ofNat (16 * m + n)).toNat / 16) :: hd ((UInt8.ofNat (16 * m + n)).toNat % 16) :: hexL r = _
        rw [ih, UInt8.toNat_ofNat', Nat.mod_eq_of_lt (by omega), show (16 * m + n) / 16 = m by omega, show (16 * m + n) % 16 = n by omega, hd_hv hm, hd_hv hn]
    · cases h
theorem unhexL_length {s b : List UInt8} (h : unhexL s = some b) : s.length = 2 * b.length := by rw [← hexL_unhexL s b h, hexL_length]
theorem unhexS_hexS (b : List UInt8) : unhexS (hexS b) = some b := by
  unfold hexS
  split
  · rename_i h; subst h; rfl
  · rename_i h
    have hl := hexL_length b
    have hb : 1 ≤ b.length := by cases b <;> simp_all
    unfold unhexS
    rw [if_neg (fun e => by rw [e] at hl; simp at hl; omega), if_neg (fun e => by rw [e] at hl; simp at hl; omega)]
    exact unhexL_hexL b
theorem hexS_unhexS {s b : List UInt8} (h : unhexS s = some b) : hexS b = s := by
  unfold unhexS at h
  split at h
  · rename_i e; injection h with h; subst h; rw [e]; rfl
  · split at h
    · cases h
    · rename_i h1 h2
      have hl := unhexL_length h
      unfold hexS
      rw [if_neg (fun e => by subst e; exact h2 (List.eq_nil_of_length_eq_zero (by simpa using hl)))]
      exact hexL_unhexL s b h
/-- The worth of decimal digits. -/
def decV (s : List UInt8) : Nat := s.foldl (fun n c => 10 * n + (c.toNat - 48)) 0
def isDig (c : UInt8) : Bool := decide (48 ≤ c.toNat) && decide (c.toNat ≤ 57)
/-- octet.Digits, lockkeeperref1.Digits. -/
def digitsS (s : List UInt8) : Nat × Bool := if s.all isDig then (min (decV s) 18446744073709551615, decide (s ≠ [])) else (0, false)
end Go.Lk
