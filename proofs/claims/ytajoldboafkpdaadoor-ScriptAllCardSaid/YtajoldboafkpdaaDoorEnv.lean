-- What the library's functions ask of the world: two package variables as they were laid.
import Derived.Test.YtajoldboafkpdaaDoorBase
import Derived.Test.YtajoldboafkpdaaDoorProg
import Derived.Lib.LaidTab
import Derived.Lib.ItoaNum
import Derived.KernelRfl
set_option linter.unusedVariables false
set_option linter.unusedSimpArgs false
namespace Go.Proofs.YtajoldboafkpdaaDoor
open Go.RowKit Go.Lk
structure Env (w : World) : Prop where
  m : ∃ m, w.cell? ⟨0, 0, none⟩ = some (.int .i64 m)
  tab : Lib.TabIs Tryd.prog w "internal/strconv.uint64pow10" .u64 Lib.pow10Tab
theorem glob_pow : Tryd.prog.globalNamed "internal/strconv.uint64pow10" = some 1 := by kernel_rfl
theorem Env.pow_lt {w : World} (h : Env w) : ∃ cs t f, w.heap[1]? = some (.cells cs t f) := by
  have := h.tab
  unfold Lib.TabIs World.var? at this
  rw [glob_pow] at this
  simp only [Option.bind_some] at this
  split at this
  · exact ⟨_, _, _, by assumption⟩
  · cases this
/-- Blocks that are not these variables. -/
def gfree (x : Nat) : Prop := 2 ≤ x
theorem Env.upd {w w1 : World} {F : List Nat} (h : Env w) (hu : Upd F w w1) (hF : ∀ x ∈ F, gfree x) : Env w1 := by
  obtain ⟨m, hm⟩ := h.m
  refine ⟨⟨m, (World.cell?_of_block (hu.block 0 (World.block_lt_of_cell? _ _ hm) (fun hx => by have := hF _ hx; unfold gfree at this; omega))).trans hm⟩, ?_⟩
  obtain ⟨cs, t, f, hc⟩ := h.pow_lt
  have e : w1.heap[1]? = w.heap[1]? := by
    refine hu.block _ ?_ (fun hx => by have := hF _ hx; unfold gfree at this; omega)
    exact (Array.getElem?_eq_some_iff.1 hc).1
  have := h.tab
  unfold Lib.TabIs World.var? at this ⊢
  rw [glob_pow] at this ⊢
  simp only [Option.bind_some] at this ⊢
  rw [e]; exact this
theorem Env.upd0 {w w1 : World} (h : Env w) (hu : Upd [] w w1) : Env w1 := h.upd hu (by simp)
theorem Env.size {w : World} (h : Env w) : 2 ≤ w.heap.size := by
  obtain ⟨cs, t, f, hc⟩ := h.pow_lt
  exact (Array.getElem?_eq_some_iff.1 hc).1
end Go.Proofs.YtajoldboafkpdaaDoor
