-- A text is split word by word. Of no program.
import Derived.Test.YtajoldboafkpdaaDoorSplitJ
set_option linter.unusedVariables false
set_option linter.unusedSimpArgs false
namespace Go.Lk
open Go.Lib
theorem split_not (c : UInt8) (x : List UInt8) (h : c ∉ x) : split x [c] = [x] := by
  unfold split
  rw [count_one, List.count_eq_zero.2 h]; rfl
theorem split_mid (c : UInt8) (x r : List UInt8) (h : c ∉ x) : split (x ++ c :: r) [c] = x :: split r [c] := by
  unfold split
  have hc : count (x ++ c :: r) [c] = count r [c] + 1 := by
    rw [count_one, count_one, List.count_append, List.count_cons_self, List.count_eq_zero.2 h]; omega
  rw [hc, splitK, index_mid c x r h, if_neg (by simp)]
  simp only [Int.toNat_natCast, Nat.add_zero, List.length_cons, List.length_nil, List.take_left']
  rw [show (x ++ c :: r).drop (x.length + (0 + 1)) = r by rw [List.drop_append]; simp]
end Go.Lk
