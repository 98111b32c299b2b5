-- Structs loaded and stored as a whole: steps of a walk. Of no program.
import Derived.Test.YtajoldboafkpdaaDoorApp
import Derived.Deep.WholeRow
import Derived.Laws.CopyRow
import Derived.Laws.IdiomStrings
set_option linter.unusedVariables false
set_option linter.unusedSimpArgs false
namespace Go.Lk
open Go.RowKit
/-- A value's cells, lying from an address on. -/
def LiesAt (w : World) (b o : Nat) (cs : List Value) : Prop := ∀ (j : Nat) v, cs[j]? = some v → w.cell? ⟨b, o + j, none⟩ = some v
theorem LiesAt.of_block {w : World} {b : Nat} {cs : List Value} {T : TypeId} {fr : Nat × Nat} (h : w.heap[b]? = some (.cells cs.toArray T fr)) : LiesAt w b 0 cs := fun j v hj =>
  cell_of h (by simpa using hj)
theorem LiesAt.upd {w w1 : World} {F : List Nat} {b o : Nat} {cs : List Value} (h : LiesAt w b o cs) (hu : Upd F w w1) (hb : b ∉ F) : LiesAt w1 b o cs := fun j v hj => by
  have hc := h j v hj
  exact (World.cell?_of_block (hu.block b (World.block_lt_of_cell? _ _ hc) hb)).trans hc
/-- A type of many cells: what a walk asks of it, one closed fact. -/
def aggOf (P : Program) (t : TypeId) (n : Nat) : Bool := (match P.underlying t with | some (.struct _) => true | some (.array _ _) => true | _ => false) && (P.info? t).map (·.size) == some n
theorem Upd.setRow {F : List Nat} {a w : World} (h : Upd F a w) {b : Nat} (hp : a.heap.size ≤ b ∨ b ∈ F) (cs : Array Value) : Upd F a (w.setRow b cs) :=
  ⟨h.os, h.tape, h.output, by rw [setRow_size]; exact h.size, fun x hx hF => by
    rw [setRow_other _ _ _ _ (by rintro rfl; rcases hp with h' | h' <;> first | omega | exact hF h')]; exact h.block x hx hF⟩
section
variable {P : Program} (w : World)
theorem aggOf.agg {t : TypeId} {n : Nat} (h : aggOf P t n = true) (W : World) : (isAgg t).run P W = .ok true W := by
  unfold aggOf at h
  unfold isAgg
  cases hu : P.underlying t with
  | none => simp [hu] at h
  | some d =>
    rw [hu] at h
    rw [Sem.run_bind, run_underlying hu]
    cases d <;> simp_all
theorem aggOf.size {t : TypeId} {n : Nat} (h : aggOf P t n = true) (W : World) : (sizeOf t).run P W = .ok n W := by
  unfold aggOf at h
  simp only [Bool.and_eq_true, beq_iff_eq] at h
  cases hq : P.info? t with
  | none => simp [hq] at h
  | some i =>
    have := h.2
    rw [hq] at this
    simp only [Option.map_some, Option.some.injEq] at this
    subst this
    simp [sizeOf, typeInfo, hq]
theorem run_loadAt_lies {t : TypeId} {cs : List Value} {b o : Nat} (ht : aggOf P t cs.length = true) (hb : LiesAt w b o cs) :
    (Instr.loadAt t (.pointer (some ⟨b, o, none⟩))).run P w = .ok (.agg cs.toArray) w := by
  simp only [Instr.loadAt, Instr.sureAddr, Sem.run_bind, Sem.run_pure, Result.andThen, loadVar, aggOf.agg ht, aggOf.size ht, if_true]
  rw [run_loadCells_list w ⟨b, o, none⟩ cs (fun j v hj => by rw [Go.Lk.add_plain]; exact hb j v hj)]
theorem wpList_load_lies {ops : Array Oper} {rest : List Oper} {o : Oper} {a : Act} {Q : Exit → Act → World → Prop} (hgd : o.guard = none) (t : TypeId) (x : Operand) (ho : o.op = .load t x)
    (b of : Nat) (cs : List Value) (hx : a.eval x = .pointer (some ⟨b, of, none⟩)) (ht : aggOf P t cs.length = true) (hb : LiesAt w b of cs)
    (h : wpList P ops Q rest (a.put o.dst (.agg cs.toArray)) w) : wpList P ops Q (o :: rest) a w :=
  wpList_plain hgd fun K hK => by
    unfold Oper.wp execOp
    simp only [ho, Sem.run_bind, Sem.run_pure, Result.andThen_ok, hx, run_loadAt_lies w ht hb]
    exact hK _ _ h
theorem wpList_store_agg {ops : Array Oper} {rest : List Oper} {o : Oper} {a : Act} {Q : Exit → Act → World → Prop} (hgd : o.guard = none) (t : TypeId) (x y : Operand) (ho : o.op = .store t x y)
    (b : Nat) (cs old : Array Value) (T : TypeId) (hx : a.eval x = .pointer (some ⟨b, 0, none⟩)) (hy : a.eval y = .agg cs) (ht : aggOf P t cs.size = true) (hb : w.heap[b]? = some (.cells old T (0, 0)))
    (hs : old.size = cs.size) (h1 : cs.all (·.oneCell') = true)
    (h : wpList P ops Q rest (a.put o.dst undef) (w.setRow b cs)) : wpList P ops Q (o :: rest) a w :=
  wpList_plain hgd fun K hK => by
    unfold Oper.wp execOp
    have hz : (P.info? t).map (·.size) = some cs.size := by
      have := ht
      unfold aggOf at this
      simp only [Bool.and_eq_true, beq_iff_eq] at this
      exact this.2
    have hr := run_storeVar_row (P := P) w b T t old cs hb hz hs h1
    simp only [ho, Sem.run_bind, Sem.run_pure, Result.andThen_ok, hx, hy, Instr.storeAt, Instr.sureAddr, hr]
    exact hK _ _ h
theorem wpList_store_part {ops : Array Oper} {rest : List Oper} {o : Oper} {a : Act} {Q : Exit → Act → World → Prop} (hgd : o.guard = none) (t : TypeId) (x y : Operand) (ho : o.op = .store t x y)
    (b of : Nat) (cs old : Array Value) (T : TypeId) (hx : a.eval x = .pointer (some ⟨b, of, none⟩)) (hy : a.eval y = .agg cs) (ht : aggOf P t cs.size = true) (hb : w.heap[b]? = some (.cells old T (0, 0)))
    (hs : of + cs.size ≤ old.size) (h1 : cs.all (·.oneCell') = true)
    (h : wpList P ops Q rest (a.put o.dst undef) (w.setRow b (old.toList.take of ++ cs.toList ++ old.toList.drop (of + cs.size)).toArray)) : wpList P ops Q (o :: rest) a w :=
  wpList_plain hgd fun K hK => by
    unfold Oper.wp execOp
    have hr := run_storeCells_at (P := P) b of T cs.toList 0 old w hb (by simpa using hs) (fun v hv => (Array.all_eq_true_iff_forall_mem.1 h1) v (by simpa using hv))
    simp only [Nat.add_zero, Array.length_toList] at hr
    have hz := aggOf.size ht w
    have hv : (storeVar t ⟨b, of, none⟩ (.agg cs)).run P w = .ok () (w.setRow b (old.toList.take of ++ cs.toList ++ old.toList.drop (of + cs.size)).toArray) := by
      simp only [storeVar, Sem.run_bind, hz, Result.andThen_ok, Value.cells, ne_eq, not_true_eq_false, if_false]
      exact hr
    simp only [ho, Sem.run_bind, Sem.run_pure, Result.andThen_ok, hx, hy, Instr.storeAt, Instr.sureAddr, hv]
    exact hK _ _ h
/-- The forms in which a walk meets them: to be laid into the context. -/
theorem run_loadFrom_lies {cs : List Value} {b o n : Nat} (hn : cs.length = n) (hb : LiesAt w b o cs) :
    (loadCellsFrom ⟨b, o, none⟩ 0 n #[]).run P w = .ok cs.toArray w := by
  subst hn
  have := run_loadCells_list (P := P) w ⟨b, o, none⟩ cs (fun j v hj => by rw [Go.Lk.add_plain]; exact hb j v hj)
  simpa [loadCells] using this
theorem run_storeCells_row {b of : Nat} {cs : List Value} {old : Array Value} {T : TypeId} (hb : w.heap[b]? = some (.cells old T (0, 0))) (hs : of + cs.length ≤ old.size) (h1 : ∀ v ∈ cs, v.oneCell' = true) :
    (storeCells ⟨b, of, none⟩ cs 0).run P w = .ok () (w.setRow b (old.toList.take of ++ cs ++ old.toList.drop (of + cs.length)).toArray) := by
  have hr := run_storeCells_at (P := P) b of T cs 0 old w hb (by simpa using hs) h1
  simpa using hr
theorem run_storeCells_all {b : Nat} {cs : List Value} {old : Array Value} {T : TypeId} (hb : w.heap[b]? = some (.cells old T (0, 0))) (hs : cs.length = old.size) (h1 : ∀ v ∈ cs, v.oneCell' = true) :
    (storeCells ⟨b, 0, none⟩ cs 0).run P w = .ok () (w.setRow b cs.toArray) := by
  have hr := run_storeCells_row (P := P) w (of := 0) hb (by omega) h1
  rw [hr]
  congr 3
  simp [hs]
theorem run_results_cell {fn : Func} {tmps : Array Value} {x t : Nat} {cs : List Value} {b o : Nat} (hf : fn.results = #[.cell x t]) (hx : tmps.getD x undef = .pointer (some ⟨b, o, none⟩)) (ht : aggOf P t cs.length = true) (hb : LiesAt w b o cs) :
    (results fn tmps).run P w = .ok (.agg cs.toArray) w := by
  have hl := run_loadAt_lies w ht hb
  simp only [Instr.loadAt, Instr.sureAddr, Sem.run_bind, Sem.run_pure, Result.andThen_ok] at hl
  have hx' : tmps[x]?.getD undef = .pointer (some ⟨b, o, none⟩) := by simpa using hx
  unfold results
  simp [hf, hx', asAddr, hl]
/-- '[]byte(s)'. -/
theorem run_conv_bytes (src dst e : TypeId) (x : List UInt8) (hs : P.underlying src = some .string) (hd : P.underlying dst = some (.slice e)) (he : P.underlying e = some (.int .u8)) :
    ∃ o c, (convert src dst (.string ⟨x.toArray⟩)).run P w = .ok (.slice (some ⟨w.heap.size, 0, none⟩) x.length c) (w.drew.alloc o) ∧ BytesV (w.drew.alloc o) (.slice (some ⟨w.heap.size, 0, none⟩) x.length c) x := by
  refine ⟨_, _, run_bytes_of_string w src dst e ⟨x.toArray⟩ hs hd he, ⟨_, _, rfl, grownCap_ge w _ 0 e, fun j b hj => ⟨w.heap.size, 0, rfl, ?_⟩⟩⟩
  have hlt : j < x.length := (List.getElem?_eq_some_iff.1 hj).1
  have hb : x[j] = b := (List.getElem?_eq_some_iff.1 hj).2
  rw [Nat.zero_add]
  refine cell_of (w := w.drew.alloc _) (heap_alloc_self (w := w.drew) _) ?_
  rw [bytesRow_at _ _ j (by simpa using hlt)]
  simp [hb, B]
theorem run_results_cell_tmp {fn : Func} {tmps : Array Value} {x t y : Nat} {cs : List Value} {b o : Nat} {v : Value} (hf : fn.results = #[.cell x t, .tmp y]) (hx : tmps.getD x undef = .pointer (some ⟨b, o, none⟩)) (hy : tmps.getD y undef = v) (ht : aggOf P t cs.length = true) (hb : LiesAt w b o cs) :
    (results fn tmps).run P w = .ok (.tuple #[.agg cs.toArray, v]) w := by
  have hl := run_loadAt_lies w ht hb
  simp only [Instr.loadAt, Instr.sureAddr, Sem.run_bind, Sem.run_pure, Result.andThen_ok] at hl
  have hx' : tmps[x]?.getD undef = .pointer (some ⟨b, o, none⟩) := by simpa using hx
  have hy' : tmps[y]?.getD undef = v := by simpa using hy
  unfold results
  simp [hf, hx', hy', asAddr, hl]
end
end Go.Lk
