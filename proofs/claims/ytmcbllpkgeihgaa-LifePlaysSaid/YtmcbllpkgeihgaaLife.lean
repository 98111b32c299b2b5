-- Package life and lockkeeperref23: contracts.
import Derived.Test.YtmcbllpkgeihgaaOnce
import Derived.Test.YtmcbllpkgeihgaaProc
import Derived.Conc.MuLone
namespace Go.Proofs.Ytmcbllpkgeihgaa
open Go.RowKit Go.Lk
set_option linter.unusedVariables false
set_option linter.unusedSimpArgs false
/-- A state's name. -/
def nameOf (s : Int) : ByteArray := if s = 1 then ⟨#[103, 97, 116, 101, 100]⟩ else if s = 2 then ⟨#[114, 101, 97, 100, 121]⟩ else if s = 3 then ⟨#[104, 101, 108, 100]⟩ else if s = 4 then ⟨#[102, 108, 121, 105, 110, 103]⟩ else if s = 5 then ⟨#[115, 116, 114, 101, 97, 109, 105, 110, 103]⟩ else if s = 6 then ⟨#[100, 111, 110, 101]⟩ else if s = 7 then ⟨#[102, 97, 105, 108, 101, 100]⟩ else if s = 8 then ⟨#[98, 97, 114, 114, 101, 100]⟩ else if s = 9 then ⟨#[97, 98, 111, 114, 116, 101, 100]⟩ else if s = 10 then ⟨#[108, 97, 116, 101]⟩ else ⟨#[]⟩
/-- It is an end. -/
def over (s : Int) : Bool := decide (6 ≤ s) && decide (s ≤ 10)
/-- It may go from a to b. -/
def may (a b : Int) : Bool :=
  if a = 1 then decide (b = 2) || decide (b = 9) else if a = 2 then decide (b = 3) || decide (b = 4) || decide (b = 9) || decide (b = 10) else
  if a = 3 then decide (b = 2) || (decide (7 ≤ b) && decide (b ≤ 10)) else if a = 4 then decide (b = 5) || (decide (7 ≤ b) && decide (b ≤ 10)) else
  if a = 5 then decide (b = 6) || decide (b = 7) || decide (b = 9) || decide (b = 10) else false
theorem idx_part (cs : Array Value) (k : Int) (i : Nat) (hk : k = i) (hi : i < 10) {s : ByteArray} (h : cs[i]? = some (.string s)) (w : World) :
   (Instr.index 82 (.agg cs) (.int .i64 k)).run Try.prog w = .ok (.string s) w := by
  subst hk
  have h1 : Try.prog.underlying 82 = some (.array 10 9) := by kernel_rfl
  simp [Instr.index, run_underlying h1, asIntOf, hi, go_sem, h]
theorem nameOf_out {s : Int} (h : s < 1 ∨ 10 < s) : nameOf s = ⟨#[]⟩ := by
  unfold nameOf
  simp only [show s ≠ 1 by omega, show s ≠ 2 by omega, show s ≠ 3 by omega, show s ≠ 4 by omega, show s ≠ 5 by omega, show s ≠ 6 by omega, show s ≠ 7 by omega, show s ≠ 8 by omega, show s ≠ 9 by omega, show s ≠ 10 by omega, if_false]
set_option maxRecDepth 100000 in
set_option maxHeartbeats 1600000 in
theorem life_name (s : Int) (w : World) :
    Calls Try.prog 35 #[.int .i64 s] w fun e w' => e = .returned (.string (nameOf s)) ∧ Upd [] w w' := by
  by_cases h : s < 1 ∨ 10 < s
  · rw [nameOf_out h]
    rcases h with h | h
    · go_enter Try.func35, Try.ntmps35
      go_wp2
      go_ret
      exact ⟨rfl, (Upd.refl _ _).alloc _⟩
    · have h' : ¬ s < 1 := by omega
      go_enter Try.func35, Try.ntmps35
      go_wp2
      go_ret
      exact ⟨rfl, (Upd.refl _ _).alloc _⟩
  · rcases (show s = 1 ∨ s = 2 ∨ s = 3 ∨ s = 4 ∨ s = 5 ∨ s = 6 ∨ s = 7 ∨ s = 8 ∨ s = 9 ∨ s = 10 by omega) with rfl | rfl | rfl | rfl | rfl | rfl | rfl | rfl | rfl | rfl
    all_goals (
      go_enter Try.func35, Try.ntmps35
      go_wp2
      go_ret
      exact ⟨rfl, (Upd.refl _ _).alloc _⟩)
set_option maxRecDepth 100000 in
set_option maxHeartbeats 1600000 in
theorem rlife_name (s : Int) (w : World) :
    Calls Try.prog 36 #[.int .i64 s] w fun e w' => e = .returned (.string (nameOf s)) ∧ w = w' := by
  by_cases h : s < 1 ∨ 10 < s
  · rw [nameOf_out h]
    rcases h with h | h
    · go_enter Try.func36, Try.ntmps36
      go_wp2
      go_ret
      exact ⟨rfl, rfl⟩
    · have h' : ¬ s < 1 := by omega
      go_enter Try.func36, Try.ntmps36
      go_wp2
      go_ret
      exact ⟨rfl, rfl⟩
  · rcases (show s = 1 ∨ s = 2 ∨ s = 3 ∨ s = 4 ∨ s = 5 ∨ s = 6 ∨ s = 7 ∨ s = 8 ∨ s = 9 ∨ s = 10 by omega) with rfl | rfl | rfl | rfl | rfl | rfl | rfl | rfl | rfl | rfl

    · have hidx := idx_part #[.string ⟨#[103, 97, 116, 101, 100]⟩, .string ⟨#[114, 101, 97, 100, 121]⟩, .string ⟨#[104, 101, 108, 100]⟩, .string ⟨#[102, 108, 121, 105, 110, 103]⟩, .string ⟨#[115, 116, 114, 101, 97, 109, 105, 110, 103]⟩, .string ⟨#[100, 111, 110, 101]⟩, .string ⟨#[102, 97, 105, 108, 101, 100]⟩, .string ⟨#[98, 97, 114, 114, 101, 100]⟩, .string ⟨#[97, 98, 111, 114, 116, 101, 100]⟩, .string ⟨#[108, 97, 116, 101]⟩] 0 0 rfl (by omega) rfl
      go_enter Try.func36, Try.ntmps36
      go_wp2
      go_ret
      exact ⟨rfl, rfl⟩
    · have hidx := idx_part #[.string ⟨#[103, 97, 116, 101, 100]⟩, .string ⟨#[114, 101, 97, 100, 121]⟩, .string ⟨#[104, 101, 108, 100]⟩, .string ⟨#[102, 108, 121, 105, 110, 103]⟩, .string ⟨#[115, 116, 114, 101, 97, 109, 105, 110, 103]⟩, .string ⟨#[100, 111, 110, 101]⟩, .string ⟨#[102, 97, 105, 108, 101, 100]⟩, .string ⟨#[98, 97, 114, 114, 101, 100]⟩, .string ⟨#[97, 98, 111, 114, 116, 101, 100]⟩, .string ⟨#[108, 97, 116, 101]⟩] 1 1 rfl (by omega) rfl
      go_enter Try.func36, Try.ntmps36
      go_wp2
      go_ret
      exact ⟨rfl, rfl⟩
    · have hidx := idx_part #[.string ⟨#[103, 97, 116, 101, 100]⟩, .string ⟨#[114, 101, 97, 100, 121]⟩, .string ⟨#[104, 101, 108, 100]⟩, .string ⟨#[102, 108, 121, 105, 110, 103]⟩, .string ⟨#[115, 116, 114, 101, 97, 109, 105, 110, 103]⟩, .string ⟨#[100, 111, 110, 101]⟩, .string ⟨#[102, 97, 105, 108, 101, 100]⟩, .string ⟨#[98, 97, 114, 114, 101, 100]⟩, .string ⟨#[97, 98, 111, 114, 116, 101, 100]⟩, .string ⟨#[108, 97, 116, 101]⟩] 2 2 rfl (by omega) rfl
      go_enter Try.func36, Try.ntmps36
      go_wp2
      go_ret
      exact ⟨rfl, rfl⟩
    · have hidx := idx_part #[.string ⟨#[103, 97, 116, 101, 100]⟩, .string ⟨#[114, 101, 97, 100, 121]⟩, .string ⟨#[104, 101, 108, 100]⟩, .string ⟨#[102, 108, 121, 105, 110, 103]⟩, .string ⟨#[115, 116, 114, 101, 97, 109, 105, 110, 103]⟩, .string ⟨#[100, 111, 110, 101]⟩, .string ⟨#[102, 97, 105, 108, 101, 100]⟩, .string ⟨#[98, 97, 114, 114, 101, 100]⟩, .string ⟨#[97, 98, 111, 114, 116, 101, 100]⟩, .string ⟨#[108, 97, 116, 101]⟩] 3 3 rfl (by omega) rfl
      go_enter Try.func36, Try.ntmps36
      go_wp2
      go_ret
      exact ⟨rfl, rfl⟩
    · have hidx := idx_part #[.string ⟨#[103, 97, 116, 101, 100]⟩, .string ⟨#[114, 101, 97, 100, 121]⟩, .string ⟨#[104, 101, 108, 100]⟩, .string ⟨#[102, 108, 121, 105, 110, 103]⟩, .string ⟨#[115, 116, 114, 101, 97, 109, 105, 110, 103]⟩, .string ⟨#[100, 111, 110, 101]⟩, .string ⟨#[102, 97, 105, 108, 101, 100]⟩, .string ⟨#[98, 97, 114, 114, 101, 100]⟩, .string ⟨#[97, 98, 111, 114, 116, 101, 100]⟩, .string ⟨#[108, 97, 116, 101]⟩] 4 4 rfl (by omega) rfl
      go_enter Try.func36, Try.ntmps36
      go_wp2
      go_ret
      exact ⟨rfl, rfl⟩
    · have hidx := idx_part #[.string ⟨#[103, 97, 116, 101, 100]⟩, .string ⟨#[114, 101, 97, 100, 121]⟩, .string ⟨#[104, 101, 108, 100]⟩, .string ⟨#[102, 108, 121, 105, 110, 103]⟩, .string ⟨#[115, 116, 114, 101, 97, 109, 105, 110, 103]⟩, .string ⟨#[100, 111, 110, 101]⟩, .string ⟨#[102, 97, 105, 108, 101, 100]⟩, .string ⟨#[98, 97, 114, 114, 101, 100]⟩, .string ⟨#[97, 98, 111, 114, 116, 101, 100]⟩, .string ⟨#[108, 97, 116, 101]⟩] 5 5 rfl (by omega) rfl
      go_enter Try.func36, Try.ntmps36
      go_wp2
      go_ret
      exact ⟨rfl, rfl⟩
    · have hidx := idx_part #[.string ⟨#[103, 97, 116, 101, 100]⟩, .string ⟨#[114, 101, 97, 100, 121]⟩, .string ⟨#[104, 101, 108, 100]⟩, .string ⟨#[102, 108, 121, 105, 110, 103]⟩, .string ⟨#[115, 116, 114, 101, 97, 109, 105, 110, 103]⟩, .string ⟨#[100, 111, 110, 101]⟩, .string ⟨#[102, 97, 105, 108, 101, 100]⟩, .string ⟨#[98, 97, 114, 114, 101, 100]⟩, .string ⟨#[97, 98, 111, 114, 116, 101, 100]⟩, .string ⟨#[108, 97, 116, 101]⟩] 6 6 rfl (by omega) rfl
      go_enter Try.func36, Try.ntmps36
      go_wp2
      go_ret
      exact ⟨rfl, rfl⟩
    · have hidx := idx_part #[.string ⟨#[103, 97, 116, 101, 100]⟩, .string ⟨#[114, 101, 97, 100, 121]⟩, .string ⟨#[104, 101, 108, 100]⟩, .string ⟨#[102, 108, 121, 105, 110, 103]⟩, .string ⟨#[115, 116, 114, 101, 97, 109, 105, 110, 103]⟩, .string ⟨#[100, 111, 110, 101]⟩, .string ⟨#[102, 97, 105, 108, 101, 100]⟩, .string ⟨#[98, 97, 114, 114, 101, 100]⟩, .string ⟨#[97, 98, 111, 114, 116, 101, 100]⟩, .string ⟨#[108, 97, 116, 101]⟩] 7 7 rfl (by omega) rfl
      go_enter Try.func36, Try.ntmps36
      go_wp2
      go_ret
      exact ⟨rfl, rfl⟩
    · have hidx := idx_part #[.string ⟨#[103, 97, 116, 101, 100]⟩, .string ⟨#[114, 101, 97, 100, 121]⟩, .string ⟨#[104, 101, 108, 100]⟩, .string ⟨#[102, 108, 121, 105, 110, 103]⟩, .string ⟨#[115, 116, 114, 101, 97, 109, 105, 110, 103]⟩, .string ⟨#[100, 111, 110, 101]⟩, .string ⟨#[102, 97, 105, 108, 101, 100]⟩, .string ⟨#[98, 97, 114, 114, 101, 100]⟩, .string ⟨#[97, 98, 111, 114, 116, 101, 100]⟩, .string ⟨#[108, 97, 116, 101]⟩] 8 8 rfl (by omega) rfl
      go_enter Try.func36, Try.ntmps36
      go_wp2
      go_ret
      exact ⟨rfl, rfl⟩
    · have hidx := idx_part #[.string ⟨#[103, 97, 116, 101, 100]⟩, .string ⟨#[114, 101, 97, 100, 121]⟩, .string ⟨#[104, 101, 108, 100]⟩, .string ⟨#[102, 108, 121, 105, 110, 103]⟩, .string ⟨#[115, 116, 114, 101, 97, 109, 105, 110, 103]⟩, .string ⟨#[100, 111, 110, 101]⟩, .string ⟨#[102, 97, 105, 108, 101, 100]⟩, .string ⟨#[98, 97, 114, 114, 101, 100]⟩, .string ⟨#[97, 98, 111, 114, 116, 101, 100]⟩, .string ⟨#[108, 97, 116, 101]⟩] 9 9 rfl (by omega) rfl
      go_enter Try.func36, Try.ntmps36
      go_wp2
      go_ret
      exact ⟨rfl, rfl⟩
set_option maxRecDepth 100000 in
theorem life_over (s : Int) (w : World) :
    Calls Try.prog 37 #[.int .i64 s] w fun e w' => e = .returned (.bool (over s)) ∧ w = w' := by
  by_cases h : 6 ≤ s
  · have e : over s = decide (s ≤ 10) := by simp [over, h]
    rw [e]
    go_enter Try.func37, Try.ntmps37
    go_wp2
    go_ret
    exact ⟨rfl, rfl⟩
  · have e : over s = false := by simp [over, h]
    rw [e]
    go_enter Try.func37, Try.ntmps37
    go_wp2
    go_ret
    exact ⟨rfl, rfl⟩

set_option maxRecDepth 100000 in
theorem rlife_over (s : Int) (w : World) :
    Calls Try.prog 38 #[.int .i64 s] w fun e w' => e = .returned (.bool (over s)) ∧ w = w' := by
  by_cases h : 6 ≤ s
  · have e : over s = decide (s ≤ 10) := by simp [over, h]
    rw [e]
    go_enter Try.func38, Try.ntmps38
    go_wp2
    go_ret
    exact ⟨rfl, rfl⟩
  · have e : over s = false := by simp [over, h]
    rw [e]
    go_enter Try.func38, Try.ntmps38
    go_wp2
    go_ret
    exact ⟨rfl, rfl⟩

set_option maxRecDepth 100000 in
set_option maxHeartbeats 3200000 in
theorem life_may (a b : Int) (w : World) :
    Calls Try.prog 39 #[.int .i64 a, .int .i64 b] w fun e w' => e = .returned (.bool (may a b)) ∧ w = w' := by
  by_cases ha : a < 1 ∨ 5 < a
  · have n1 : (a == 1) = false := by rw [beq_eq_false_iff_ne]; omega
    have n2 : (a == 2) = false := by rw [beq_eq_false_iff_ne]; omega
    have n3 : (a == 3) = false := by rw [beq_eq_false_iff_ne]; omega
    have n4 : (a == 4) = false := by rw [beq_eq_false_iff_ne]; omega
    have n5 : (a == 5) = false := by rw [beq_eq_false_iff_ne]; omega
    have e : may a b = false := by
      unfold may
      simp only [show a ≠ 1 by omega, show a ≠ 2 by omega, show a ≠ 3 by omega, show a ≠ 4 by omega, show a ≠ 5 by omega, if_false]
    rw [e]
    clear ha e
    go_enter Try.func39, Try.ntmps39
    go_wp2
    go_ret
    exact ⟨rfl, rfl⟩
  · rcases (show a = 1 ∨ a = 2 ∨ a = 3 ∨ a = 4 ∨ a = 5 by omega) with rfl | rfl | rfl | rfl | rfl
    all_goals (
      rcases (show (b < 1 ∨ 10 < b) ∨ b = 1 ∨ b = 2 ∨ b = 3 ∨ b = 4 ∨ b = 5 ∨ b = 6 ∨ b = 7 ∨ b = 8 ∨ b = 9 ∨ b = 10 by omega) with h | rfl | rfl | rfl | rfl | rfl | rfl | rfl | rfl | rfl | rfl)
    all_goals (try (
      have m2 : (b == 2) = false := by rw [beq_eq_false_iff_ne]; omega
      have m3 : (b == 3) = false := by rw [beq_eq_false_iff_ne]; omega
      have m4 : (b == 4) = false := by rw [beq_eq_false_iff_ne]; omega
      have m5 : (b == 5) = false := by rw [beq_eq_false_iff_ne]; omega
      have m6 : (b == 6) = false := by rw [beq_eq_false_iff_ne]; omega
      have m7 : (b == 7) = false := by rw [beq_eq_false_iff_ne]; omega
      have m9 : (b == 9) = false := by rw [beq_eq_false_iff_ne]; omega
      have m10 : (b == 10) = false := by rw [beq_eq_false_iff_ne]; omega
      have ho : over b = false := by unfold over; rw [Bool.and_eq_false_iff, decide_eq_false_iff_not, decide_eq_false_iff_not]; omega
      have h7 : (decide (7 ≤ b) && decide (b ≤ 10)) = false := by rw [Bool.and_eq_false_iff, decide_eq_false_iff_not, decide_eq_false_iff_not]; omega
      have hm : ∀ a, a = 1 ∨ a = 2 ∨ a = 3 ∨ a = 4 ∨ a = 5 → may a b = false := by
        intro a hab
        rcases hab with rfl | rfl | rfl | rfl | rfl <;> simp [may] <;> omega
      rw [hm _ (by simp)]
      clear hm h7))
    all_goals (
      go_enter Try.func39, Try.ntmps39
      go_wp2_with (go_at_call 37; refine (life_over _ _).mono ?_; rintro e w' ⟨rfl, rfl⟩)
      all_goals (
        go_ret
        refine ⟨?_, rfl⟩
        first | rfl | (simp_all [may, over]; try omega)))

set_option maxRecDepth 100000 in
set_option maxHeartbeats 3200000 in
theorem rlife_may (a b : Int) (w : World) :
    Calls Try.prog 40 #[.int .i64 a, .int .i64 b] w fun e w' => e = .returned (.bool (may a b)) ∧ w = w' := by
  by_cases ha : a < 1 ∨ 5 < a
  · have n1 : (a == 1) = false := by rw [beq_eq_false_iff_ne]; omega
    have n2 : (a == 2) = false := by rw [beq_eq_false_iff_ne]; omega
    have n3 : (a == 3) = false := by rw [beq_eq_false_iff_ne]; omega
    have n4 : (a == 4) = false := by rw [beq_eq_false_iff_ne]; omega
    have n5 : (a == 5) = false := by rw [beq_eq_false_iff_ne]; omega
    have e : may a b = false := by
      unfold may
      simp only [show a ≠ 1 by omega, show a ≠ 2 by omega, show a ≠ 3 by omega, show a ≠ 4 by omega, show a ≠ 5 by omega, if_false]
    rw [e]
    clear ha e
    go_enter Try.func40, Try.ntmps40
    go_wp2
    go_ret
    exact ⟨rfl, rfl⟩
  · rcases (show a = 1 ∨ a = 2 ∨ a = 3 ∨ a = 4 ∨ a = 5 by omega) with rfl | rfl | rfl | rfl | rfl
    all_goals (
      rcases (show (b < 1 ∨ 10 < b) ∨ b = 1 ∨ b = 2 ∨ b = 3 ∨ b = 4 ∨ b = 5 ∨ b = 6 ∨ b = 7 ∨ b = 8 ∨ b = 9 ∨ b = 10 by omega) with h | rfl | rfl | rfl | rfl | rfl | rfl | rfl | rfl | rfl | rfl)
    all_goals (try (
      have m2 : (b == 2) = false := by rw [beq_eq_false_iff_ne]; omega
      have m3 : (b == 3) = false := by rw [beq_eq_false_iff_ne]; omega
      have m4 : (b == 4) = false := by rw [beq_eq_false_iff_ne]; omega
      have m5 : (b == 5) = false := by rw [beq_eq_false_iff_ne]; omega
      have m6 : (b == 6) = false := by rw [beq_eq_false_iff_ne]; omega
      have m7 : (b == 7) = false := by rw [beq_eq_false_iff_ne]; omega
      have m9 : (b == 9) = false := by rw [beq_eq_false_iff_ne]; omega
      have m10 : (b == 10) = false := by rw [beq_eq_false_iff_ne]; omega
      have ho : over b = false := by unfold over; rw [Bool.and_eq_false_iff, decide_eq_false_iff_not, decide_eq_false_iff_not]; omega
      have h7 : (decide (7 ≤ b) && decide (b ≤ 10)) = false := by rw [Bool.and_eq_false_iff, decide_eq_false_iff_not, decide_eq_false_iff_not]; omega
      have hm : ∀ a, a = 1 ∨ a = 2 ∨ a = 3 ∨ a = 4 ∨ a = 5 → may a b = false := by
        intro a hab
        rcases hab with rfl | rfl | rfl | rfl | rfl <;> simp [may] <;> omega
      rw [hm _ (by simp)]
      clear hm h7))
    all_goals (
      go_enter Try.func40, Try.ntmps40
      go_wp2_with fail
      all_goals (
        go_ret
        refine ⟨?_, rfl⟩
        first | rfl | (simp_all [may, over]; try omega)))

end Go.Proofs.Ytmcbllpkgeihgaa
