-- lockkeeperlaw0.Long at one text.
import Derived.Test.YtajoldboafkpdaaDoorBase
import Derived.Test.YtajoldboafkpdaaDoorProg
import Derived.Outline
namespace Go.Proofs.YtajoldboafkpdaaDoor
set_option linter.unusedSimpArgs false
set_option linter.unusedVariables false
open Go.RowKit Go.Lk
theorem long_one (n : Int) (s : List UInt8) (b c : Nat) (w : World) (hn : 0 ≤ n ∧ n ≤ 1000000) (hc : w.cell? ⟨b, 0, none⟩ = some (.string ⟨s.toArray⟩)) :
    Calls Tryd.prog 10 #[.int .i64 n, .slice (some ⟨b, 0, none⟩) 1 c] w fun e w' => e = .returned (.bool (decide (n ≤ s.length))) ∧ w = w' := by
  by_cases h : n ≤ (s.length : Int)
  · rw [decide_eq_true h]
    go_enter Tryd.func10, Tryd.ntmps10
    go_wp2_with fail
    go_loopw [0, 5] (fun v0 v5 wr => v0 = .int .i64 n ∧ v5 = .int .i64 0 ∧ wr = w) (fun _ v5 _ => 1)
    case atStart => exact ⟨rfl, rfl, rfl⟩
    case round =>
      obtain ⟨rfl, rfl, rfl⟩ := hrel
      go_wp2
      go_ret
      exact ⟨rfl, rfl⟩
  · rw [decide_eq_false h]
    go_enter Tryd.func10, Tryd.ntmps10
    go_wp2_with fail
    go_loopw [0, 5] (fun v0 v5 wr => ∃ k : Nat, k ≤ 1 ∧ v5 = .int .i64 k ∧ (k = 0 → v0 = .int .i64 n) ∧ wr = w) (fun _ v5 _ => 1 - (intOf v5).toNat)
    case atStart => exact ⟨0, by omega, rfl, fun _ => rfl, rfl⟩
    case round =>
      obtain ⟨k, hk, rfl, hv, rfl⟩ := hrel
      rcases (show k = 0 ∨ k = 1 by omega) with rfl | rfl
      · obtain rfl := hv rfl
        go_wp2_with fail
        refine ⟨⟨1, by omega, by go_num, by simp, trivial⟩, by simp [intOf]⟩
      · clear hv
        go_wp2
        go_ret
        exact ⟨rfl, rfl⟩
end Go.Proofs.YtajoldboafkpdaaDoor
