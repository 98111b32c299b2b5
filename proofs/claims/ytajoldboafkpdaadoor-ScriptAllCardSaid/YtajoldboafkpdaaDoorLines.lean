-- Acts as lines. Laws.
import Derived.Test.YtajoldboafkpdaaDoorBld
import Derived.Test.YtajoldboafkpdaaDoorBackL
namespace Go.Proofs.YtajoldboafkpdaaDoor
set_option linter.unusedSimpArgs false
set_option linter.unusedVariables false
open Go.RowKit Go.Lk
/-- Acts as lines; none: one may not be told. -/
def linesS : List ActL → Option Bs
  | [] => some []
  | a :: l => match showS a, linesS l with
    | some t, some r => some (t ++ 10 :: r)
    | _, _ => none
theorem linesS_snoc (l : List ActL) (a : ActL) {s t : Bs} (h1 : linesS l = some s) (h2 : showS a = some t) : linesS (l ++ [a]) = some (s ++ t ++ [10]) := by
  induction l generalizing s with
  | nil => injection h1 with h1; subst h1; simp [linesS, h2]
  | cons x l ih =>
    unfold linesS at h1
    rw [List.cons_append]
    unfold linesS
    split at h1
    · rename_i u r hu hr
      injection h1 with h1
      rw [hu, ih hr]
      subst h1; simp
    · cases h1
theorem linesS_none {l : List ActL} {a : ActL} (h : a ∈ l) (h2 : showS a = none) : linesS l = none := by
  induction l with
  | nil => cases h
  | cons x l ih =>
    unfold linesS
    rcases List.mem_cons.1 h with rfl | h
    · rw [h2]
    · rw [ih h]
      split
      · rename_i hh; cases hh
      · rfl
theorem bld_upd {T e : TypeId} {B b : Nat} {bs : List Value} {w w1 : World} (h : Lib.IsBuilder T e B b bs w) (hu : Upd [] w w1) : Lib.IsBuilder T e B b bs w1 := by
  have one : ∀ p, Lib.BuilderAt T e B b p bs w → Lib.BuilderAt T e B b p bs w1 := fun p ⟨h1, v, h2, h3, h4⟩ =>
    ⟨h1, v, (hu.block b (Array.getElem?_eq_some_iff.1 h2).1 (by simp)).trans h2, own_upd h3 hu (by simp), h4⟩
  exact h.elim (fun x => .inl (one _ x)) (fun x => .inr (one _ x))
theorem Upd.ofBelow {B : Nat} {w w1 w2 : World} (h : Below B w w1) (hu : Upd [] w1 w2) (hB : B ≤ w1.heap.size) : Below B w w2 :=
  ⟨hu.os.trans h.os, hu.tape.trans h.tape, hu.output.trans h.output, Nat.le_trans h.size hu.size, fun k hk => (hu.block k (by omega) (by simp)).trans (h.block k hk)⟩
theorem ActAt.below {w w1 : World} {a : ActL} {p : ActP} (h : ActAt w a p) (hb : Below w.heap.size w w1) : ActAt w1 a p := by
  have hu : ∀ k, k < w.heap.size → w1.heap[k]? = w.heap[k]? := hb.block
  refine ⟨fun j x hj => ?_, fun j x hj => ?_, fun j x hj => ?_, h.bcp, fun j x hj => ?_⟩
  · obtain ⟨ab, ao, e, hc⟩ := h.ids j x hj
    exact ⟨ab, ao, e, (World.cell?_of_block (hu ab (World.block_lt_of_cell? _ _ hc))).trans hc⟩
  · obtain ⟨ab, ao, e, hc, hd⟩ := h.hds j x hj
    exact ⟨ab, ao, e, (World.cell?_of_block (hu ab (World.block_lt_of_cell? _ _ hc))).trans hc, (World.cell?_of_block (hu ab (World.block_lt_of_cell? _ _ hc))).trans hd⟩
  · obtain ⟨ab, ao, e, hc⟩ := h.bts j x hj
    exact ⟨ab, ao, e, (World.cell?_of_block (hu ab (World.block_lt_of_cell? _ _ hc))).trans hc⟩
  · obtain ⟨ab, ao, e, hc, hd⟩ := h.rhd j x hj
    exact ⟨ab, ao, e, (World.cell?_of_block (hu ab (World.block_lt_of_cell? _ _ hc))).trans hc, (World.cell?_of_block (hu ab (World.block_lt_of_cell? _ _ hc))).trans hd⟩
theorem ActsAt.below {w w1 : World} {A : Option Addr} {al : List (ActL × ActP)} (h : ActsAt w A al) (hb : Below w.heap.size w w1) : ActsAt w1 A al := fun j x hj => by
  obtain ⟨ab, ao, e, hl, ha⟩ := h j x hj
  exact ⟨ab, ao, e, fun i v hi => (World.cell?_of_block (hb.block ab (World.block_lt_of_cell? _ _ (hl i v hi)))).trans (hl i v hi), ha.below hb⟩
theorem Env.below {w w1 : World} (h : Env w) (hb : Below w.heap.size w w1) : Env w1 := by
  have hu : Upd [] w w1 := ⟨hb.os, hb.tape, hb.output, hb.size, fun k hk _ => hb.block k hk⟩
  exact h.upd0 hu
theorem Below.upd {w w1 : World} (hb : Below w.heap.size w w1) : Upd [] w w1 := ⟨hb.os, hb.tape, hb.output, hb.size, fun k hk _ => hb.block k hk⟩
/-- Acts of which a law speaks. -/
def ActOk (a : ActL) : Prop := ActFew a ∧ ActWf a
end Go.Proofs.YtajoldboafkpdaaDoor
