-- s[i] of a string that is written as a list of bytes. Of no program.
import Derived.Test.YtajoldboafkpdaaDoorBase
import Derived.Test.YtajoldboafkpdaaDoorProc
set_option linter.unusedVariables false
set_option linter.unusedSimpArgs false
namespace Go.Lk
open Go.RowKit
variable {P : Program}
theorem get_list (l : List UInt8) (n : Nat) (h : n < l.length) : (⟨l.toArray⟩ : ByteArray)[n]'(by simpa [ByteArray.size] using h) = l[n] := by
  show (l.toArray)[n]'_ = _
  simp
theorem run_index_list {t : TypeId} {k : IntKind} {l : List UInt8} {z : Int} {n : Nat} (ht : P.underlying t = some .string) (hz : z = (n : Int)) (h : n < l.length) (W : World) :
    (Instr.index t (.string ⟨l.toArray⟩) (.int k z)).run P W = .ok (.int .u8 ((l[n]).toNat : Int)) W := by
  subst hz
  have hs : n < (⟨l.toArray⟩ : ByteArray).size := by simpa [ByteArray.size] using h
  have e : (⟨l.toArray⟩ : ByteArray)[n]? = some l[n] := by rw [getElem?_pos (⟨l.toArray⟩ : ByteArray) n hs, get_list l n h]
  simp [Instr.index, run_underlying ht, asIntOf, go_sem, e]
theorem run_index_next {t : TypeId} {k : IntKind} {l : List UInt8} {z : Int} {n : Nat} (ht : P.underlying t = some .string) (hz : z = (n : Int)) (h : n < l.length) (W : World) :
    (Instr.index t (.string ⟨l.toArray⟩) (.int k z) >>= fun v => pure (Next.value v)).run P W = .ok (.value (.int .u8 ((l[n]).toNat : Int))) W := by
  rw [Sem.run_bind, run_index_list ht hz h]; rfl
end Go.Lk
