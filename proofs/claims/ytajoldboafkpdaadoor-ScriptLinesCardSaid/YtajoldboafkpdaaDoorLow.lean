-- lockkeeperlaw0.Low: a number from 0 to below n.
import Derived.Test.YtajoldboafkpdaaDoorBase
import Derived.Test.YtajoldboafkpdaaDoorProg
set_option linter.unusedVariables false
set_option linter.unusedSimpArgs false
namespace Go.Proofs.YtajoldboafkpdaaDoor
open Go.RowKit Go.Lk
def low (x : Int) (n : Nat) : Nat := (x % 18446744073709551616).toNat % n
theorem low_lt (x : Int) (n : Nat) (h : 0 < n) : low x n < n := Nat.mod_lt _ h
theorem low_eq (x : Int) (n : Nat) (h1 : 1 ≤ n) (h2 : n ≤ 1000000) : wrap64 ((IntKind.u64.wrap x).tmod n) = low x n := by
  have hu : IntKind.u64.wrap x = x % 18446744073709551616 := by simp [IntKind.wrap, IntKind.bits, IntKind.signed]
  obtain ⟨y, hy⟩ : ∃ y : Nat, x % 18446744073709551616 = y := ⟨(x % 18446744073709551616).toNat, by omega⟩
  unfold low
  rw [hu, hy, Int.tmod_eq_emod_of_nonneg (by omega), Int.toNat_natCast]
  have hlt : y % n < n := Nat.mod_lt _ (by omega)
  have hc : ((y % n : Nat) : Int) = (y : Int) % (n : Int) := by push_cast; rfl
  rw [← hc]
  unfold wrap64
  omega
set_option maxHeartbeats 400000 in
set_option maxRecDepth 100000 in
theorem Low_any (x : Int) (n : Nat) (h1 : 1 ≤ n) (h2 : n ≤ 1000000) (w : World) :
    Calls Tryd.prog 27 #[.int .i64 x, .int .i64 n] w fun e w' => e = .returned (.int .i64 (low x n)) ∧ w = w' := by
  go_enter Tryd.func27, Tryd.ntmps27
  go_wp2
  go_ret
  refine ⟨?_, rfl⟩
  show Ending.returned (.int .i64 _) = _
  rw [low_eq x n h1 h2]
end Go.Proofs.YtajoldboafkpdaaDoor
