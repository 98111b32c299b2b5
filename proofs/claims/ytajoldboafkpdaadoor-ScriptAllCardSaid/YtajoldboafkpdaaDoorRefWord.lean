-- lockkeeperref27.word: contract.
import Derived.Test.YtajoldboafkpdaaDoorProg
import Derived.Test.YtajoldboafkpdaaDoorActs
import Derived.Test.YtajoldboafkpdaaDoorScOp
import Derived.Outline
import Derived.KernelRfl
namespace Go.Proofs.YtajoldboafkpdaaDoor
set_option linter.unusedSimpArgs false
set_option linter.unusedVariables false
open Go.RowKit Go.Lk
theorem idx_word0 (W : World) : (Instr.index 105 (.agg #[.string ⟨#[103, 114, 111, 117, 112]⟩, .string ⟨#[115, 105, 103, 110, 97, 108]⟩, .string ⟨#[115, 117, 98, 109, 105, 116]⟩, .string ⟨#[97, 99, 116, 105, 118, 97, 116, 101]⟩, .string ⟨#[108, 111, 97, 100]⟩, .string ⟨#[97, 98, 111, 114, 116]⟩, .string ⟨#[116, 101, 97, 114]⟩, .string ⟨#[116, 105, 99, 107]⟩, .string ⟨#[115, 116, 101, 112]⟩, .string ⟨#[97, 110, 115, 119, 101, 114]⟩, .string ⟨#[99, 104, 117, 110, 107]⟩, .string ⟨#[101, 110, 100]⟩, .string ⟨#[102, 97, 105, 108]⟩, .string ⟨#[114, 101, 97, 100]⟩]) (.int .i64 0)).run Tryd.prog W = .ok (.string ⟨#[103, 114, 111, 117, 112]⟩) W := by kernel_rfl
theorem idx_word1 (W : World) : (Instr.index 105 (.agg #[.string ⟨#[103, 114, 111, 117, 112]⟩, .string ⟨#[115, 105, 103, 110, 97, 108]⟩, .string ⟨#[115, 117, 98, 109, 105, 116]⟩, .string ⟨#[97, 99, 116, 105, 118, 97, 116, 101]⟩, .string ⟨#[108, 111, 97, 100]⟩, .string ⟨#[97, 98, 111, 114, 116]⟩, .string ⟨#[116, 101, 97, 114]⟩, .string ⟨#[116, 105, 99, 107]⟩, .string ⟨#[115, 116, 101, 112]⟩, .string ⟨#[97, 110, 115, 119, 101, 114]⟩, .string ⟨#[99, 104, 117, 110, 107]⟩, .string ⟨#[101, 110, 100]⟩, .string ⟨#[102, 97, 105, 108]⟩, .string ⟨#[114, 101, 97, 100]⟩]) (.int .i64 1)).run Tryd.prog W = .ok (.string ⟨#[115, 105, 103, 110, 97, 108]⟩) W := by kernel_rfl
theorem idx_word2 (W : World) : (Instr.index 105 (.agg #[.string ⟨#[103, 114, 111, 117, 112]⟩, .string ⟨#[115, 105, 103, 110, 97, 108]⟩, .string ⟨#[115, 117, 98, 109, 105, 116]⟩, .string ⟨#[97, 99, 116, 105, 118, 97, 116, 101]⟩, .string ⟨#[108, 111, 97, 100]⟩, .string ⟨#[97, 98, 111, 114, 116]⟩, .string ⟨#[116, 101, 97, 114]⟩, .string ⟨#[116, 105, 99, 107]⟩, .string ⟨#[115, 116, 101, 112]⟩, .string ⟨#[97, 110, 115, 119, 101, 114]⟩, .string ⟨#[99, 104, 117, 110, 107]⟩, .string ⟨#[101, 110, 100]⟩, .string ⟨#[102, 97, 105, 108]⟩, .string ⟨#[114, 101, 97, 100]⟩]) (.int .i64 2)).run Tryd.prog W = .ok (.string ⟨#[115, 117, 98, 109, 105, 116]⟩) W := by kernel_rfl
theorem idx_word3 (W : World) : (Instr.index 105 (.agg #[.string ⟨#[103, 114, 111, 117, 112]⟩, .string ⟨#[115, 105, 103, 110, 97, 108]⟩, .string ⟨#[115, 117, 98, 109, 105, 116]⟩, .string ⟨#[97, 99, 116, 105, 118, 97, 116, 101]⟩, .string ⟨#[108, 111, 97, 100]⟩, .string ⟨#[97, 98, 111, 114, 116]⟩, .string ⟨#[116, 101, 97, 114]⟩, .string ⟨#[116, 105, 99, 107]⟩, .string ⟨#[115, 116, 101, 112]⟩, .string ⟨#[97, 110, 115, 119, 101, 114]⟩, .string ⟨#[99, 104, 117, 110, 107]⟩, .string ⟨#[101, 110, 100]⟩, .string ⟨#[102, 97, 105, 108]⟩, .string ⟨#[114, 101, 97, 100]⟩]) (.int .i64 3)).run Tryd.prog W = .ok (.string ⟨#[97, 99, 116, 105, 118, 97, 116, 101]⟩) W := by kernel_rfl
theorem idx_word4 (W : World) : (Instr.index 105 (.agg #[.string ⟨#[103, 114, 111, 117, 112]⟩, .string ⟨#[115, 105, 103, 110, 97, 108]⟩, .string ⟨#[115, 117, 98, 109, 105, 116]⟩, .string ⟨#[97, 99, 116, 105, 118, 97, 116, 101]⟩, .string ⟨#[108, 111, 97, 100]⟩, .string ⟨#[97, 98, 111, 114, 116]⟩, .string ⟨#[116, 101, 97, 114]⟩, .string ⟨#[116, 105, 99, 107]⟩, .string ⟨#[115, 116, 101, 112]⟩, .string ⟨#[97, 110, 115, 119, 101, 114]⟩, .string ⟨#[99, 104, 117, 110, 107]⟩, .string ⟨#[101, 110, 100]⟩, .string ⟨#[102, 97, 105, 108]⟩, .string ⟨#[114, 101, 97, 100]⟩]) (.int .i64 4)).run Tryd.prog W = .ok (.string ⟨#[108, 111, 97, 100]⟩) W := by kernel_rfl
theorem idx_word5 (W : World) : (Instr.index 105 (.agg #[.string ⟨#[103, 114, 111, 117, 112]⟩, .string ⟨#[115, 105, 103, 110, 97, 108]⟩, .string ⟨#[115, 117, 98, 109, 105, 116]⟩, .string ⟨#[97, 99, 116, 105, 118, 97, 116, 101]⟩, .string ⟨#[108, 111, 97, 100]⟩, .string ⟨#[97, 98, 111, 114, 116]⟩, .string ⟨#[116, 101, 97, 114]⟩, .string ⟨#[116, 105, 99, 107]⟩, .string ⟨#[115, 116, 101, 112]⟩, .string ⟨#[97, 110, 115, 119, 101, 114]⟩, .string ⟨#[99, 104, 117, 110, 107]⟩, .string ⟨#[101, 110, 100]⟩, .string ⟨#[102, 97, 105, 108]⟩, .string ⟨#[114, 101, 97, 100]⟩]) (.int .i64 5)).run Tryd.prog W = .ok (.string ⟨#[97, 98, 111, 114, 116]⟩) W := by kernel_rfl
theorem idx_word6 (W : World) : (Instr.index 105 (.agg #[.string ⟨#[103, 114, 111, 117, 112]⟩, .string ⟨#[115, 105, 103, 110, 97, 108]⟩, .string ⟨#[115, 117, 98, 109, 105, 116]⟩, .string ⟨#[97, 99, 116, 105, 118, 97, 116, 101]⟩, .string ⟨#[108, 111, 97, 100]⟩, .string ⟨#[97, 98, 111, 114, 116]⟩, .string ⟨#[116, 101, 97, 114]⟩, .string ⟨#[116, 105, 99, 107]⟩, .string ⟨#[115, 116, 101, 112]⟩, .string ⟨#[97, 110, 115, 119, 101, 114]⟩, .string ⟨#[99, 104, 117, 110, 107]⟩, .string ⟨#[101, 110, 100]⟩, .string ⟨#[102, 97, 105, 108]⟩, .string ⟨#[114, 101, 97, 100]⟩]) (.int .i64 6)).run Tryd.prog W = .ok (.string ⟨#[116, 101, 97, 114]⟩) W := by kernel_rfl
theorem idx_word7 (W : World) : (Instr.index 105 (.agg #[.string ⟨#[103, 114, 111, 117, 112]⟩, .string ⟨#[115, 105, 103, 110, 97, 108]⟩, .string ⟨#[115, 117, 98, 109, 105, 116]⟩, .string ⟨#[97, 99, 116, 105, 118, 97, 116, 101]⟩, .string ⟨#[108, 111, 97, 100]⟩, .string ⟨#[97, 98, 111, 114, 116]⟩, .string ⟨#[116, 101, 97, 114]⟩, .string ⟨#[116, 105, 99, 107]⟩, .string ⟨#[115, 116, 101, 112]⟩, .string ⟨#[97, 110, 115, 119, 101, 114]⟩, .string ⟨#[99, 104, 117, 110, 107]⟩, .string ⟨#[101, 110, 100]⟩, .string ⟨#[102, 97, 105, 108]⟩, .string ⟨#[114, 101, 97, 100]⟩]) (.int .i64 7)).run Tryd.prog W = .ok (.string ⟨#[116, 105, 99, 107]⟩) W := by kernel_rfl
theorem idx_word8 (W : World) : (Instr.index 105 (.agg #[.string ⟨#[103, 114, 111, 117, 112]⟩, .string ⟨#[115, 105, 103, 110, 97, 108]⟩, .string ⟨#[115, 117, 98, 109, 105, 116]⟩, .string ⟨#[97, 99, 116, 105, 118, 97, 116, 101]⟩, .string ⟨#[108, 111, 97, 100]⟩, .string ⟨#[97, 98, 111, 114, 116]⟩, .string ⟨#[116, 101, 97, 114]⟩, .string ⟨#[116, 105, 99, 107]⟩, .string ⟨#[115, 116, 101, 112]⟩, .string ⟨#[97, 110, 115, 119, 101, 114]⟩, .string ⟨#[99, 104, 117, 110, 107]⟩, .string ⟨#[101, 110, 100]⟩, .string ⟨#[102, 97, 105, 108]⟩, .string ⟨#[114, 101, 97, 100]⟩]) (.int .i64 8)).run Tryd.prog W = .ok (.string ⟨#[115, 116, 101, 112]⟩) W := by kernel_rfl
theorem idx_word9 (W : World) : (Instr.index 105 (.agg #[.string ⟨#[103, 114, 111, 117, 112]⟩, .string ⟨#[115, 105, 103, 110, 97, 108]⟩, .string ⟨#[115, 117, 98, 109, 105, 116]⟩, .string ⟨#[97, 99, 116, 105, 118, 97, 116, 101]⟩, .string ⟨#[108, 111, 97, 100]⟩, .string ⟨#[97, 98, 111, 114, 116]⟩, .string ⟨#[116, 101, 97, 114]⟩, .string ⟨#[116, 105, 99, 107]⟩, .string ⟨#[115, 116, 101, 112]⟩, .string ⟨#[97, 110, 115, 119, 101, 114]⟩, .string ⟨#[99, 104, 117, 110, 107]⟩, .string ⟨#[101, 110, 100]⟩, .string ⟨#[102, 97, 105, 108]⟩, .string ⟨#[114, 101, 97, 100]⟩]) (.int .i64 9)).run Tryd.prog W = .ok (.string ⟨#[97, 110, 115, 119, 101, 114]⟩) W := by kernel_rfl
theorem idx_word10 (W : World) : (Instr.index 105 (.agg #[.string ⟨#[103, 114, 111, 117, 112]⟩, .string ⟨#[115, 105, 103, 110, 97, 108]⟩, .string ⟨#[115, 117, 98, 109, 105, 116]⟩, .string ⟨#[97, 99, 116, 105, 118, 97, 116, 101]⟩, .string ⟨#[108, 111, 97, 100]⟩, .string ⟨#[97, 98, 111, 114, 116]⟩, .string ⟨#[116, 101, 97, 114]⟩, .string ⟨#[116, 105, 99, 107]⟩, .string ⟨#[115, 116, 101, 112]⟩, .string ⟨#[97, 110, 115, 119, 101, 114]⟩, .string ⟨#[99, 104, 117, 110, 107]⟩, .string ⟨#[101, 110, 100]⟩, .string ⟨#[102, 97, 105, 108]⟩, .string ⟨#[114, 101, 97, 100]⟩]) (.int .i64 10)).run Tryd.prog W = .ok (.string ⟨#[99, 104, 117, 110, 107]⟩) W := by kernel_rfl
theorem idx_word11 (W : World) : (Instr.index 105 (.agg #[.string ⟨#[103, 114, 111, 117, 112]⟩, .string ⟨#[115, 105, 103, 110, 97, 108]⟩, .string ⟨#[115, 117, 98, 109, 105, 116]⟩, .string ⟨#[97, 99, 116, 105, 118, 97, 116, 101]⟩, .string ⟨#[108, 111, 97, 100]⟩, .string ⟨#[97, 98, 111, 114, 116]⟩, .string ⟨#[116, 101, 97, 114]⟩, .string ⟨#[116, 105, 99, 107]⟩, .string ⟨#[115, 116, 101, 112]⟩, .string ⟨#[97, 110, 115, 119, 101, 114]⟩, .string ⟨#[99, 104, 117, 110, 107]⟩, .string ⟨#[101, 110, 100]⟩, .string ⟨#[102, 97, 105, 108]⟩, .string ⟨#[114, 101, 97, 100]⟩]) (.int .i64 11)).run Tryd.prog W = .ok (.string ⟨#[101, 110, 100]⟩) W := by kernel_rfl
theorem idx_word12 (W : World) : (Instr.index 105 (.agg #[.string ⟨#[103, 114, 111, 117, 112]⟩, .string ⟨#[115, 105, 103, 110, 97, 108]⟩, .string ⟨#[115, 117, 98, 109, 105, 116]⟩, .string ⟨#[97, 99, 116, 105, 118, 97, 116, 101]⟩, .string ⟨#[108, 111, 97, 100]⟩, .string ⟨#[97, 98, 111, 114, 116]⟩, .string ⟨#[116, 101, 97, 114]⟩, .string ⟨#[116, 105, 99, 107]⟩, .string ⟨#[115, 116, 101, 112]⟩, .string ⟨#[97, 110, 115, 119, 101, 114]⟩, .string ⟨#[99, 104, 117, 110, 107]⟩, .string ⟨#[101, 110, 100]⟩, .string ⟨#[102, 97, 105, 108]⟩, .string ⟨#[114, 101, 97, 100]⟩]) (.int .i64 12)).run Tryd.prog W = .ok (.string ⟨#[102, 97, 105, 108]⟩) W := by kernel_rfl
theorem idx_word13 (W : World) : (Instr.index 105 (.agg #[.string ⟨#[103, 114, 111, 117, 112]⟩, .string ⟨#[115, 105, 103, 110, 97, 108]⟩, .string ⟨#[115, 117, 98, 109, 105, 116]⟩, .string ⟨#[97, 99, 116, 105, 118, 97, 116, 101]⟩, .string ⟨#[108, 111, 97, 100]⟩, .string ⟨#[97, 98, 111, 114, 116]⟩, .string ⟨#[116, 101, 97, 114]⟩, .string ⟨#[116, 105, 99, 107]⟩, .string ⟨#[115, 116, 101, 112]⟩, .string ⟨#[97, 110, 115, 119, 101, 114]⟩, .string ⟨#[99, 104, 117, 110, 107]⟩, .string ⟨#[101, 110, 100]⟩, .string ⟨#[102, 97, 105, 108]⟩, .string ⟨#[114, 101, 97, 100]⟩]) (.int .i64 13)).run Tryd.prog W = .ok (.string ⟨#[114, 101, 97, 100]⟩) W := by kernel_rfl
set_option maxRecDepth 100000 in
set_option maxHeartbeats 1600000 in
theorem ref_word (s : Int) (w : World) :
    Calls Tryd.prog 45 #[.int .i64 s] w fun e w' => e = .returned (.string ⟨(opS s).toArray⟩) ∧ w' = w := by
  by_cases h : s < 1 ∨ 14 < s
  · rw [opS_out h]
    rcases h with h | h
    · go_enter Tryd.func45, Tryd.ntmps45
      go_wp2
      go_ret
      exact ⟨rfl, rfl⟩
    · have h' : ¬ s < 1 := by omega
      go_enter Tryd.func45, Tryd.ntmps45
      go_wp2
      go_ret
      exact ⟨rfl, rfl⟩
  · rcases (show s = 1 ∨ s = 2 ∨ s = 3 ∨ s = 4 ∨ s = 5 ∨ s = 6 ∨ s = 7 ∨ s = 8 ∨ s = 9 ∨ s = 10 ∨ s = 11 ∨ s = 12 ∨ s = 13 ∨ s = 14 by omega) with rfl | rfl | rfl | rfl | rfl | rfl | rfl | rfl | rfl | rfl | rfl | rfl | rfl | rfl
    · have hix := idx_word0
      go_enter Tryd.func45, Tryd.ntmps45
      go_wp2
      go_ret
      exact ⟨rfl, rfl⟩
    · have hix := idx_word1
      go_enter Tryd.func45, Tryd.ntmps45
      go_wp2
      go_ret
      exact ⟨rfl, rfl⟩
    · have hix := idx_word2
      go_enter Tryd.func45, Tryd.ntmps45
      go_wp2
      go_ret
      exact ⟨rfl, rfl⟩
    · have hix := idx_word3
      go_enter Tryd.func45, Tryd.ntmps45
      go_wp2
      go_ret
      exact ⟨rfl, rfl⟩
    · have hix := idx_word4
      go_enter Tryd.func45, Tryd.ntmps45
      go_wp2
      go_ret
      exact ⟨rfl, rfl⟩
    · have hix := idx_word5
      go_enter Tryd.func45, Tryd.ntmps45
      go_wp2
      go_ret
      exact ⟨rfl, rfl⟩
    · have hix := idx_word6
      go_enter Tryd.func45, Tryd.ntmps45
      go_wp2
      go_ret
      exact ⟨rfl, rfl⟩
    · have hix := idx_word7
      go_enter Tryd.func45, Tryd.ntmps45
      go_wp2
      go_ret
      exact ⟨rfl, rfl⟩
    · have hix := idx_word8
      go_enter Tryd.func45, Tryd.ntmps45
      go_wp2
      go_ret
      exact ⟨rfl, rfl⟩
    · have hix := idx_word9
      go_enter Tryd.func45, Tryd.ntmps45
      go_wp2
      go_ret
      exact ⟨rfl, rfl⟩
    · have hix := idx_word10
      go_enter Tryd.func45, Tryd.ntmps45
      go_wp2
      go_ret
      exact ⟨rfl, rfl⟩
    · have hix := idx_word11
      go_enter Tryd.func45, Tryd.ntmps45
      go_wp2
      go_ret
      exact ⟨rfl, rfl⟩
    · have hix := idx_word12
      go_enter Tryd.func45, Tryd.ntmps45
      go_wp2
      go_ret
      exact ⟨rfl, rfl⟩
    · have hix := idx_word13
      go_enter Tryd.func45, Tryd.ntmps45
      go_wp2
      go_ret
      exact ⟨rfl, rfl⟩
end Go.Proofs.YtajoldboafkpdaaDoor
