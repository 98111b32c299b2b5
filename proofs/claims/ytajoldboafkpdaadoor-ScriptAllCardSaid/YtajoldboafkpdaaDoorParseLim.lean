-- How great what the reader makes of a text may be. Of no program but its limits' names.
import Derived.Test.YtajoldboafkpdaaDoorShow
import Derived.Test.YtajoldboafkpdaaDoorReader
import Derived.Lib.SplitLaws
namespace Go.Proofs.YtajoldboafkpdaaDoor
set_option linter.unusedSimpArgs false
set_option linter.unusedVariables false
open Go.RowKit Go.Lk
theorem splitK_lim (c : UInt8) : ∀ (k : Nat) (s : List UInt8), (Lib.splitK [c] 0 k s).length ≤ s.length + 1 ∧ ∀ x ∈ Lib.splitK [c] 0 k s, x.length ≤ s.length
  | 0, s => by simp [Lib.splitK]
  | k + 1, s => by
    unfold Lib.splitK
    split
    · simp
    · rename_i h
      have h0 : 0 ≤ Lib.index s [c] := by
        have := Lib.index_ge s [c]
        have h1 : Lib.index s [c] ≠ -1 := by simpa using h
        omega
      have h2 := Lib.index_room s [c] h0
      simp only [List.length_cons, List.length_nil] at h2
      have ih := splitK_lim c k (s.drop ((Lib.index s [c]).toNat + [c].length))
      have hd : (s.drop ((Lib.index s [c]).toNat + [c].length)).length + 1 ≤ s.length := by rw [List.length_drop]; simp; omega
      refine ⟨by rw [List.length_cons]; omega, fun x hx => ?_⟩
      rcases List.mem_cons.1 hx with rfl | hx
      · rw [List.length_take]; omega
      · have := ih.2 x hx; omega
theorem split_lim (s : Bs) : (Lib.split s [32]).length ≤ s.length + 1 ∧ ∀ x ∈ Lib.split s [32], x.length ≤ s.length := splitK_lim 32 _ s
theorem splitK_ne (c : UInt8) (k : Nat) (s : List UInt8) : Lib.splitK [c] 0 k s ≠ [] := by
  cases k with
  | zero => simp [Lib.splitK]
  | succ k => unfold Lib.splitK; split <;> simp
theorem rdLim_split {s : Bs} (h : s.length ≤ 900000) : RdLim ((Lib.split s [32]).drop 1) := by
  have h1 := split_lim s
  refine ⟨by rw [List.length_drop]; omega, fun x hx => ?_⟩
  have := h1.2 x (List.mem_of_mem_drop hx)
  omega
theorem intS_lim (x : Bs) : i64R (intS x) := by
  unfold intS i64R
  split
  · omega
  · rename_i h
    simp only [not_or, Nat.not_lt] at h
    omega
theorem digitsS_lim (x : Bs) : 0 ≤ (((digitsS x).1 : Nat) : Int) ∧ (((digitsS x).1 : Nat) : Int) < 18446744073709551616 := by
  refine ⟨by omega, ?_⟩
  unfold digitsS
  split
  · simp only; omega
  · simp
theorem unhexS_lim (x : Bs) : ((unhexS x).getD []).length ≤ x.length := by
  cases h : unhexS x with
  | none => simp
  | some b =>
    have h1 := hexS_unhexS h
    rw [← h1]
    simp only [Option.getD_some]
    unfold hexS
    split
    · rename_i h2; simp [h2]
    · rw [hexL_length]; omega
theorem hdrS_lim {ws : List Bs} (h : RdLim ws) (i : Nat) : HdrLim ((ws.drop i).map hdrS) := by
  refine ⟨by rw [List.length_map, List.length_drop]; have := h.1; omega, fun x hx => ?_⟩
  obtain ⟨y, hy, rfl⟩ := List.mem_map.1 hx
  have hl := h.2 y (List.mem_of_mem_drop hy)
  have hc := cut_le y [61]
  have hu := unhexS_lim (Lib.cut y [61]).2.1
  unfold hdrS
  simp only
  omega
theorem reqS_lim {ws : List Bs} (h : RdLim ws) : ReqLim (reqS ws) :=
  ⟨wd_len h 0, wd_len h 1, wd_len h 2, intS_lim _, intS_lim _, digitsS_lim _, intS_lim _, intS_lim _, hdrS_lim h 9⟩
theorem zeroLim {op : Int} (h : i64R op) : ActLim { ActL.zero with op := op } := by
  refine ⟨h, ?_, ?_, ?_, ?_, ?_, ?_, ?_, ?_⟩ <;> first | (simp [ActL.zero, i64R, HdrLim]; done) | (constructor <;> simp [ActL.zero, ReqL.zero, i64R, HdrLim])
theorem parseS_lim {op : Int} {ws : List Bs} (h : RdLim ws) (ho : i64R op) : ActLim (parseS op ws) := by
  have z := zeroLim ho
  unfold parseS
  split
  · exact { z with ids := ⟨by simp only [List.length_map]; exact h.1, fun x hx => by
      simp only at hx
      obtain ⟨y, _, rfl⟩ := List.mem_map.1 hx
      exact intS_lim y⟩ }
  split
  · exact { z with rq := reqS_lim h }
  split
  · exact { z with ti := digitsS_lim _ }
  split
  · exact { z with id := intS_lim _, st := intS_lim _, hd := hdrS_lim h 2 }
  split
  · exact { z with id := intS_lim _, bt := by have := unhexS_lim (wd ws 1); have := wd_len h 1; simp only; omega }
  split
  · exact { z with id := intS_lim _, n := intS_lim _ }
  split
  · exact { z with id := intS_lim _ }
  · exact z
end Go.Proofs.YtajoldboafkpdaaDoor
