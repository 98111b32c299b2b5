-- Reading the deeds that came in.
import Derived.Test.YtmcbllpkgeihgaaStreamPlaysW
import Derived.Deep.Strs
namespace Go.Proofs.Ytmcbllpkgeihgaa
open Go.RowKit Go.Lk Go.ChangeShapes Go.Deep

section
variable {H : Type} {enc : TypeId × Value → H} {w : World} {spare : Nat → Bool} {held : Bool}
theorem Try.cellsSDeed : Try.prog.cellsOf 60 = 3 := by kernel_rfl
theorem Try.cellsIntS : Try.prog.cellsOf 3 = 1 := by kernel_rfl
theorem Try.cellsByteS : Try.prog.cellsOf 5 = 1 := by kernel_rfl
theorem Try.cellsBytesS : Try.prog.cellsOf 28 = 1 := by kernel_rfl
set_option maxRecDepth 100000 in
theorem open_sdeeds {fuel : Nat} {cs : List Value} {x : DataW H × List MemPlace} (h : DataW.trod enc Try.prog w 0 spare held fuel 57 cs = some x) : ∃ v l, cs = [v] ∧ SliceR w 3 (SDeedR w) v l := by
  refine open_sliceR Try.underlying57 3 Try.cellsSDeed (by omega) (fun n cs' d hd => ?_) h
  obtain ⟨y0, y1, y2, k, _, hl, g0, g1, g2⟩ := trod_struct3 Try.underlying60 hd
  rw [Try.cellsSDeed] at hl
  match cs', hl with
  | [c0, c1, c2], _ =>
    dsimp only at g0 g1 g2
    rw [Try.cellsIntS] at g0 g1
    rw [Try.cellsBytesS] at g2
    obtain ⟨a, e0, _, _⟩ := DataW.trod_int Try.underlying3 g0
    obtain ⟨b, e1, _, wb⟩ := DataW.trod_int Try.underlying3 g1
    obtain ⟨v, bs, e2, hb⟩ := open_bytesR Try.underlying28 Try.underlying5 Try.cellsByteS g2
    simp at e0 e1 e2
    subst e0 e1 e2
    exact ⟨(a, b, bs), _, rfl, wb, hb⟩
end
end Go.Proofs.Ytmcbllpkgeihgaa
