-- Acts of lines, as data: laws. Of no program.
import Derived.Test.YtajoldboafkpdaaDoorRoundU
import Derived.Test.YtajoldboafkpdaaDoorLines
import Derived.Lib.ItoaLen
set_option linter.unusedVariables false
set_option linter.unusedSimpArgs false
namespace Go.Proofs.YtajoldboafkpdaaDoor
open Go.RowKit Go.Lk Go.Lib
/-- The acts of the lines ahead of the first that is wrong, and whether there is one. -/
def splitF : Nat → Bs → List ActL × Bool
  | 0, _ => ([], false)
  | f + 1, s => if s = [] then ([], false) else
    match readS (cut s [10]).1 with
    | some a => if (cut s [10]).2.2 then (a :: (splitF f (cut s [10]).2.1).1, (splitF f (cut s [10]).2.1).2) else ([], true)
    | none => ([], true)
def splitL (s : Bs) : List ActL × Bool := splitF s.length s
/-- script.Split. -/
def splitS (s : Bs) : List ActL × Nat × Int := if (splitL s).2 then ([], (splitL s).1.length + 1, 3) else if 2000 < (splitL s).1.length then ([], 0, 4) else ((splitL s).1, 0, 0)
theorem cutN_le (s : Bs) : (cut s [10]).1.length ≤ s.length ∧ ((cut s [10]).2.2 = true → (cut s [10]).1.length + (cut s [10]).2.1.length + 1 = s.length) := by
  by_cases h : (10 : UInt8) ∈ s
  · obtain ⟨x, r, hx, hn⟩ := List.eq_append_cons_of_mem h
    rw [hx, cut_mid 10 x r hn]
    simp; omega
  · unfold cut
    rw [index_not 10 s h]
    simp
theorem splitF_fuel : ∀ (f g : Nat) (s : Bs), s.length ≤ f → s.length ≤ g → splitF f s = splitF g s
  | 0, 0, s, _, _ => rfl
  | 0, g + 1, s, h, _ => by
    obtain rfl : s = [] := List.eq_nil_of_length_eq_zero (by omega)
    simp [splitF]
  | f + 1, 0, s, _, h => by
    obtain rfl : s = [] := List.eq_nil_of_length_eq_zero (by omega)
    simp [splitF]
  | f + 1, g + 1, s, h1, h2 => by
    unfold splitF
    by_cases hs : s = []
    · rw [if_pos hs, if_pos hs]
    · rw [if_neg hs, if_neg hs]
      cases readS (cut s [10]).1 with
      | none => rfl
      | some a =>
        by_cases hc : (cut s [10]).2.2 = true
        · have := (cutN_le s).2 hc
          simp only [hc, if_true]
          rw [splitF_fuel f g (cut s [10]).2.1 (by omega) (by omega)]
        · simp [hc]
theorem splitL_step {s : Bs} (h : s ≠ []) : splitL s = match readS (cut s [10]).1 with
    | some a => if (cut s [10]).2.2 then (a :: (splitL (cut s [10]).2.1).1, (splitL (cut s [10]).2.1).2) else ([], true)
    | none => ([], true) := by
  unfold splitL
  obtain ⟨n, hn⟩ : ∃ n, s.length = n + 1 := ⟨s.length - 1, by have := List.length_pos_iff.2 h; omega⟩
  rw [hn]
  conv => lhs; unfold splitF
  rw [if_neg h]
  cases readS (cut s [10]).1 with
  | none => rfl
  | some a =>
    by_cases hc : (cut s [10]).2.2 = true
    · have := (cutN_le s).2 hc
      simp only [hc, if_true]
      rw [splitF_fuel n _ (cut s [10]).2.1 (by omega) (Nat.le_refl _)]
    · simp [hc]
theorem splitL_nil : splitL [] = ([], false) := rfl
theorem splitL_line (x r : Bs) (h : (10 : UInt8) ∉ x) : splitL (x ++ 10 :: r) = match readS x with
    | some a => (a :: (splitL r).1, (splitL r).2)
    | none => ([], true) := by
  rw [splitL_step (by simp), cut_mid 10 x r h]
  rfl
/-- Lines of acts, and what is behind them. -/
theorem splitL_lines : ∀ (l : List ActL) (s : Bs), linesS l = some s → (∀ a ∈ l, ActB a) → ∃ m, (∀ t, splitL (s ++ t) = (m ++ (splitL t).1, (splitL t).2)) ∧ m.length = l.length ∧ linesS m = some s ∧ (∀ b ∈ m, ∃ u, readS u = some b ∧ ∃ a ∈ l, showS a = some u)
  | [], s, h, _ => by
    injection h with h; subst h
    exact ⟨[], fun t => by simp, rfl, rfl, by simp⟩
  | a :: l, s, h, hb => by
    unfold linesS at h
    split at h
    · rename_i u r hu hr
      injection h with h
      obtain ⟨m, h1, h2, h3, h4⟩ := splitL_lines l r hr (fun x hx => hb x (by simp [hx]))
      obtain ⟨b, hb1, _, hb3⟩ := readS_showS hu (hb a (by simp))
      refine ⟨b :: m, fun t => ?_, by simp [h2], ?_, ?_⟩
      · rw [← h, List.append_assoc, List.cons_append, splitL_line u _ (showS_nl hu (hb a (by simp))), hb1]
        simp only [h1, List.cons_append]
      · unfold linesS
        rw [hb3, h3, ← h]
      · intro c hc
        rcases List.mem_cons.1 hc with rfl | hc
        · exact ⟨u, hb1, a, by simp, hu⟩
        · obtain ⟨u', hu', a', ha', hs'⟩ := h4 c hc
          exact ⟨u', hu', a', by simp [ha'], hs'⟩
    · cases h
theorem linesS_append : ∀ (l m : List ActL) (s : Bs), linesS (l ++ m) = some s → ∃ x y, linesS l = some x ∧ linesS m = some y ∧ s = x ++ y
  | [], m, s, h => ⟨[], s, rfl, h, rfl⟩
  | a :: l, m, s, h => by
    rw [List.cons_append] at h
    unfold linesS at h
    split at h
    · rename_i u r hu hr
      injection h with h
      obtain ⟨x, y, h1, h2, h3⟩ := linesS_append l m r hr
      refine ⟨u ++ 10 :: x, y, ?_, h2, ?_⟩
      · unfold linesS; rw [hu, h1]
      · rw [← h, h3]; simp
    · cases h
theorem readS_nil : readS [] = none := by
  have h : (readS []).isNone = true := by decide +kernel
  simpa using h
theorem splitL_len : ∀ (n : Nat) (s : Bs), s.length ≤ n → 2 * (splitL s).1.length ≤ s.length
  | 0, s, h => by
    obtain rfl : s = [] := List.eq_nil_of_length_eq_zero (by omega)
    simp [splitL_nil]
  | n + 1, s, h => by
    by_cases hs : s = []
    · subst hs; simp [splitL_nil]
    · rw [splitL_step hs]
      cases hr : readS (cut s [10]).1 with
      | none => simp
      | some a =>
        simp only
        split
        · rename_i hc
          have h1 := (cutN_le s).2 hc
          have h2 := splitL_len n (cut s [10]).2.1 (by omega)
          have h3 : (cut s [10]).1 ≠ [] := fun e => by rw [e, readS_nil] at hr; cases hr
          have := List.length_pos_iff.2 h3
          simp only [List.length_cons]; omega
        · simp
end Go.Proofs.YtajoldboafkpdaaDoor
