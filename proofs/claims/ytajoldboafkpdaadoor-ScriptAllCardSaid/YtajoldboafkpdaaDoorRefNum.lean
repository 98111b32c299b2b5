-- lockkeeperref1.Num, Plain, In, Token; lockkeeperref27.text: contracts.
import Derived.Test.YtajoldboafkpdaaDoorIdx
import Derived.Test.YtajoldboafkpdaaDoorActs
import Derived.Test.YtajoldboafkpdaaDoorProc
import Derived.Test.YtajoldboafkpdaaDoorProg
import Derived.Lib.ItoaLen
import Derived.Outline
namespace Go.Proofs.YtajoldboafkpdaaDoor
set_option linter.unusedSimpArgs false
set_option linter.unusedVariables false
open Go.RowKit Go.Lk
def dgt (d : Nat) : UInt8 := UInt8.ofNat (48 + d)
theorem dec_step {m : Nat} (h : 9 < m) : Lib.decDigits m = Lib.decDigits (m / 10) ++ [dgt (m % 10)] := by
  unfold dgt
  rw [Lib.decDigits, dif_neg (by omega)]
theorem slice_dec (d : Nat) (hd : d < 10) (W : World) : (Instr.sliceAt 9 (.string ⟨#[48, 49, 50, 51, 52, 53, 54, 55, 56, 57]⟩) (some (.int .u64 (d : Int))) (some (.int .u64 ((d : Int) + 1))) none).run Tryd.prog W = .ok (.string ⟨#[dgt d]⟩) W := by
  rcases (show d = 0 ∨ d = 1 ∨ d = 2 ∨ d = 3 ∨ d = 4 ∨ d = 5 ∨ d = 6 ∨ d = 7 ∨ d = 8 ∨ d = 9 by omega) with rfl | rfl | rfl | rfl | rfl | rfl | rfl | rfl | rfl | rfl <;> kernel_rfl
theorem ref_num (n : Nat) (hn : n < 18446744073709551616) (w : World) :
    Calls Tryd.prog 48 #[.int .u64 n] w fun e w' => e = .returned (.string ⟨(Lib.decDigits n).toArray⟩) ∧ w' = w := by
  obtain ⟨r, hr⟩ : ∃ r, r = Lib.decDigits n := ⟨_, rfl⟩
  have hrl : r.length ≤ 20 := by rw [hr, Lib.decDigits_length]; exact Lib.nDigits_le20 n hn
  have HR := Lib.hid hr
  rw [← hr]
  clear hr
  go_enter Tryd.func48, Tryd.ntmps48
  go_wp2_with fail
  go_loopw [0, 3] (fun v0 v3 wr => ∃ (m : Nat) (s : Bs), m ≤ n ∧ v0 = .int .u64 m ∧ v3 = .string ⟨s.toArray⟩ ∧ r = Lib.decDigits m ++ s ∧ wr = w) (fun v0 _ _ => (intOf v0).toNat)
  case atStart => exact ⟨n, [], Nat.le_refl _, rfl, rfl, by rw [HR.out]; simp, rfl⟩
  case round =>
    obtain ⟨m, s, hm, rfl, rfl, hd, rfl⟩ := hrel
    have hsl : s.length ≤ 20 := by rw [hd, List.length_append] at hrl; omega
    have HD := Lib.hid hd; clear hd
    have hsd := slice_dec (m % 10) (by omega)
    rw [show (((m % 10 : Nat)) : Int) = (m : Int) % 10 by omega] at hsd
    by_cases h9 : 9 < m
    · have h9' : (m : Int) > 9 := by omega
      go_wp2_with fail
      refine ⟨⟨m / 10, dgt (m % 10) :: s, by omega, by go_num, ?_, by rw [HD.out, dec_step h9]; simp, trivial⟩, by simp [intOf]; omega⟩
      rw [show (⟨#[dgt (m % 10)]⟩ : ByteArray) = ⟨[dgt (m % 10)].toArray⟩ from rfl, str_append]
      rfl
    · have hm9 : m % 10 = m := by omega
      have hmi : (m : Int) % 10 = m := by omega
      rw [hmi, hm9] at hsd
      have hone : Lib.decDigits m = [dgt m] := Lib.decDigits_one (by omega)
      have HO := Lib.hid hone
      clear hm9 hmi hone
      go_wp2_with fail
      go_ret
      refine ⟨?_, rfl⟩
      rw [HD.out, HO.out, ← str_append]
      rfl
def plainC (c : UInt8) : Bool := (decide (97 ≤ c.toNat) && decide (c.toNat ≤ 122)) || (decide (65 ≤ c.toNat) && decide (c.toNat ≤ 90)) || isDig c
theorem ref_plain (c : UInt8) (w : World) :
    Calls Tryd.prog 84 #[.int .u8 c.toNat] w fun e w' => e = .returned (.bool (plainC c)) ∧ w' = w := by
  obtain ⟨r, hr⟩ : ∃ r, r = plainC c := ⟨_, rfl⟩
  have HR := Lib.hid hr
  rw [← hr]
  clear hr
  obtain ⟨n, hn⟩ : ∃ n, n = c.toNat := ⟨_, rfl⟩
  have hr2 : r = ((decide (97 ≤ n) && decide (n ≤ 122)) || (decide (65 ≤ n) && decide (n ≤ 90)) || (decide (48 ≤ n) && decide (n ≤ 57))) := by rw [HR.out, hn]; rfl
  rw [← hn]
  clear hn HR
  have HR2 := Lib.hid hr2; clear hr2
  go_enter Tryd.func84, Tryd.ntmps84
  by_cases a : 97 ≤ n <;> by_cases b : n ≤ 122 <;> by_cases c2 : 65 ≤ n <;> by_cases d : n ≤ 90 <;> by_cases e2 : 48 ≤ n <;> by_cases f : n ≤ 57 <;> first
    | omega
    | (have hx : r = _ := HR2.out
       simp only [a, b, c2, d, e2, f, decide_true, decide_false, Bool.and_true, Bool.and_false, Bool.true_and, Bool.false_and, Bool.or_true, Bool.or_false, Bool.true_or, Bool.false_or] at hx
       clear HR2
       subst hx
       go_wp2
       go_ret
       first | exact ⟨rfl, rfl⟩ | exact ⟨by simp; omega, rfl⟩)
end Go.Proofs.YtajoldboafkpdaaDoor
