-- Words joined by one byte are split into the same words. Of no program.
import Derived.Lib.SplitLaws
import Derived.Lib.Join
set_option linter.unusedVariables false
set_option linter.unusedSimpArgs false
namespace Go.Lk
open Go.Lib
theorem index_mid (c : UInt8) : ∀ (x r : List UInt8), c ∉ x → index (x ++ c :: r) [c] = x.length
  | [], r, _ => by simp [index]
  | b :: x, r, h => by
    have hb : c ≠ b := fun e => h (by simp [e])
    have ih := index_mid c x r (fun hm => h (by simp [hm]))
    show index (b :: (x ++ c :: r)) [c] = _
    rw [index]
    simp only [List.isPrefixOf, beq_iff_eq, Bool.and_true, hb, if_false, ih]
    rw [if_neg (by omega)]
    simp
theorem index_not (c : UInt8) : ∀ (x : List UInt8), c ∉ x → index x [c] = -1
  | [], _ => by simp [index]
  | b :: x, h => by
    have hb : c ≠ b := fun e => h (by simp [e])
    have ih := index_not c x (fun hm => h (by simp [hm]))
    rw [index]
    simp [List.isPrefixOf, hb, ih]
theorem join_cons2 (x y : List UInt8) (r : List (List UInt8)) (c : UInt8) : join (x :: y :: r) [c] = x ++ c :: join (y :: r) [c] := by
  rw [join_cons, join_cons]
  simp [joinTail]
theorem count_join (c : UInt8) : ∀ (x : List UInt8) (r : List (List UInt8)), (∀ w ∈ x :: r, c ∉ w) → count (join (x :: r) [c]) [c] = r.length
  | x, [], h => by rw [join_one, count_one]; exact List.count_eq_zero.2 (h x (by simp))
  | x, y :: r, h => by
    have ih := count_join c y r (fun w hw => h w (by simp [hw] at hw ⊢))
    rw [join_cons2, count_one, List.count_append, List.count_cons_self, List.count_eq_zero.2 (h x (by simp)), ← count_one, ih]
    simp
theorem splitK_join (c : UInt8) : ∀ (x : List UInt8) (r : List (List UInt8)), (∀ w ∈ x :: r, c ∉ w) → splitK [c] 0 r.length (join (x :: r) [c]) = x :: r
  | x, [], h => by rw [join_one]; rfl
  | x, y :: r, h => by
    have ih := splitK_join c y r (fun w hw => h w (by simp [hw] at hw ⊢))
    rw [join_cons2]
    show splitK [c] 0 (r.length + 1) _ = _
    rw [splitK, index_mid c x _ (h x (by simp))]
    rw [if_neg (by simp)]
    simp only [Int.toNat_natCast, Nat.add_zero, List.length_cons, List.length_nil, List.take_left']
    rw [show (x ++ c :: join (y :: r) [c]).drop (x.length + (0 + 1)) = join (y :: r) [c] by
      rw [List.drop_append]; simp, ih]
theorem split_join (c : UInt8) (ws : List (List UInt8)) (h0 : ws ≠ []) (h : ∀ w ∈ ws, c ∉ w) : split (join ws [c]) [c] = ws := by
  cases ws with
  | nil => exact absurd rfl h0
  | cons x r => unfold split; rw [count_join c x r h]; exact splitK_join c x r h
theorem cut_mid (c : UInt8) (x r : List UInt8) (h : c ∉ x) : cut (x ++ c :: r) [c] = (x, r, true) := by
  unfold cut
  rw [index_mid c x r h, if_pos (by omega)]
  simp only [Int.toNat_natCast, List.length_cons, List.length_nil, List.take_left']
  rw [show (x ++ c :: r).drop (x.length + (0 + 1)) = r by rw [List.drop_append]; simp]
end Go.Lk
