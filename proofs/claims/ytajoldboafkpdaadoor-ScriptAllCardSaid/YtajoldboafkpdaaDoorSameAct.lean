-- lockkeeperlaw0.Headers, Req, Act, Acts of equal data: true.
import Derived.Test.YtajoldboafkpdaaDoorAwake27
import Derived.Test.YtajoldboafkpdaaDoorGreat
import Derived.Test.YtajoldboafkpdaaDoorProc
namespace Go.Proofs.YtajoldboafkpdaaDoor
set_option linter.unusedSimpArgs false
set_option linter.unusedVariables false
open Go.RowKit Go.Lk
theorem proc_load {P : Program} {Q : Exit → Act → World → Prop} {ops : Array Oper} {i : Nat} {o : Oper} {r : List (Nat × Nat)} {S : World → Prop} {a a' : Act} {w : World} (ho : ops[i]? = some o) (hg : o.guard = none) (t : TypeId) (x : Operand) (hop : o.op = .load t x) (b of : Nat) (cs : List Value)
    (hx : a.eval x = .pointer (some ⟨b, of, none⟩)) (ht : aggOf P t cs.length = true) (hb : ∀ W, S W → LiesAt W b of cs) (ha : a.put o.dst (.agg cs.toArray) = a') (h : wpProc P ops Q r S a' w) : wpProc P ops Q ((i, 0) :: r) S a w :=
  proc_held (v := .agg cs.toArray) ho hg (fun W hW => by
    unfold execOp
    simp only [hop, Sem.run_bind, Sem.run_pure, Result.andThen_ok, hx, run_loadAt_lies W ht (hb W hW)]) ha h
theorem aggHdr : aggOf Tryd.prog 100 2 = true := by kernel_rfl
set_option maxRecDepth 100000 in
theorem l0_headers {w : World} {A B : Option Addr} {ca cb : Nat} {l : List (Bs × Bs)} (hA : HdrsAt w A l) (hB : HdrsAt w B l) (hl : l.length ≤ 1000000) :
    Calls Tryd.prog 56 #[.slice A l.length ca, .slice B l.length cb] w fun e w' => e = .returned (.bool true) ∧ Upd [] w w' := by
  have HA := Lib.hid hA; have HB := Lib.hid hB; clear hA hB
  go_enter Tryd.func56, Tryd.ntmps56
  go_wp2_with fail
  go_loopw [5] (fun v5 wr => ∃ (k : Nat), k ≤ l.length ∧ v5 = .int .i64 k ∧ Upd [] w wr) (fun v5 _ => l.length - (intOf v5).toNat)
  case atStart => exact ⟨0, by omega, rfl, Upd.refl _ _⟩
  case round =>
    obtain ⟨k, hk, rfl, hu⟩ := hrel
    have HU := Lib.hid hu; clear hu
    by_cases hlt : k < l.length
    · obtain ⟨x, hx⟩ : ∃ x, x = l[k] := ⟨_, rfl⟩
      obtain ⟨ab, ao, hAe, hca, hda⟩ := (HA.out.upd0 HU.out) k x (by simp [hx, hlt])
      obtain ⟨bb, bo, hBe, hcb, hdb⟩ := (HB.out.upd0 HU.out) k x (by simp [hx, hlt])
      subst hAe hBe
      clear hx
      obtain ⟨x1, x2⟩ := x
      have two : ∀ {b o : Nat}, wr.cell? ⟨b, o + k * 2, none⟩ = some (strV x1) → wr.cell? ⟨b, o + k * 2 + 1, none⟩ = some (strV x2) → LiesAt wr b (o + k * 2) [strV x1, strV x2] := fun h1 h2 i v hi => by
        rcases i with _ | _ | i
        · obtain rfl : strV x1 = v := by simpa using hi
          exact h1
        · obtain rfl : strV x2 = v := by simpa using hi
          exact h2
        · simp at hi
      have hLA := two hca hda
      have hLB := two hcb hdb
      have HAG := Lib.hid aggHdr
      clear two hca hda hcb hdb
      go_wp2_with fail
      refine wp_region_proc [(0, 0), (1, 0), (2, 0), (3, 0), (4, 0), (5, 0), (6, 0), (7, 0), (8, 0)] (fun W => LiesAt W ab (ao + k * 2) [strV x1, strV x2] ∧ LiesAt W bb (bo + k * 2) [strV x1, strV x2]) (by kernel_rfl) (by kernel_rfl) (fun c a w t v h => by cases t <;> exact h) ⟨hLA, hLB⟩ ?_
      clear hLA hLB
      repeat
        (first
          | (apply proc_held
             case ho => simp only [List.getElem?_toArray, List.getElem?_cons_succ, List.getElem?_cons_zero]; rfl
             case hg => rfl
             case hv => intro W hW; (try dsimp only at hW); go_simp; rfl
             case ha => go_simp; rfl)
          | (apply proc_held_on
             case ho => simp only [List.getElem?_toArray, List.getElem?_cons_succ, List.getElem?_cons_zero]; rfl
             case hg => rfl
             case hv => intro W hW; (try dsimp only at hW); go_simp; rfl
             case ha => go_simp; rfl)
          | (apply proc_off
             case ho => simp only [List.getElem?_toArray, List.getElem?_cons_succ, List.getElem?_cons_zero]; rfl
             case hg => rfl
             case ha => go_simp; rfl))
      apply proc_load (t := 100) (x := .tmp 19) (b := ab) (of := ao + k * 2) (cs := [strV x1, strV x2])
      case ho => simp only [List.getElem?_toArray, List.getElem?_cons_succ, List.getElem?_cons_zero]; rfl
      case hg => rfl
      case hop => rfl
      case hx => rfl
      case ht => exact HAG.out
      case hb => exact fun W hW => hW.1
      case ha => go_simp; rfl
      repeat
        (first
          | (apply proc_held
             case ho => simp only [List.getElem?_toArray, List.getElem?_cons_succ, List.getElem?_cons_zero]; rfl
             case hg => rfl
             case hv => intro W hW; (try dsimp only at hW); go_simp; rfl
             case ha => go_simp; rfl)
          | (apply proc_held_on
             case ho => simp only [List.getElem?_toArray, List.getElem?_cons_succ, List.getElem?_cons_zero]; rfl
             case hg => rfl
             case hv => intro W hW; (try dsimp only at hW); go_simp; rfl
             case ha => go_simp; rfl)
          | (apply proc_off
             case ho => simp only [List.getElem?_toArray, List.getElem?_cons_succ, List.getElem?_cons_zero]; rfl
             case hg => rfl
             case ha => go_simp; rfl))
      apply proc_load (t := 100) (x := .tmp 23) (b := bb) (of := bo + k * 2) (cs := [strV x1, strV x2])
      case ho => simp only [List.getElem?_toArray, List.getElem?_cons_succ, List.getElem?_cons_zero]; rfl
      case hg => rfl
      case hop => rfl
      case hx => rfl
      case ht => exact HAG.out
      case hb => exact fun W hW => hW.2
      case ha => go_simp; rfl
      apply proc_held (v := .bool false)
      case ho => simp only [List.getElem?_toArray, List.getElem?_cons_succ, List.getElem?_cons_zero]; rfl
      case hg => rfl
      case hv => intro W hW; clear hW; unfold strV; go_simp
      case ha => go_simp; rfl
      refine proc_nil ?_
      go_wp2_with fail
      exact ⟨⟨k + 1, by omega, by go_num, HU.out.drew⟩, by simp [intOf]; omega⟩
    · have hkl : k = l.length := by omega
      go_wp2_with fail
      go_ret
      exact ⟨rfl, HU.out⟩
set_option maxHeartbeats 1600000 in
set_option maxRecDepth 100000 in
theorem l0_req {w : World} {A B : Option Addr} {ca cb : Nat} (r : ReqL) (hA : HdrsAt w A r.headers) (hB : HdrsAt w B r.headers) (hl : r.headers.length ≤ 1000000) :
    Calls Tryd.prog 57 #[reqV r (.slice A r.headers.length ca), reqV r (.slice B r.headers.length cb)] w fun e w' => e = .returned (.bool true) ∧ Upd [] w w' := by
  have HA := Lib.hid hA; have HB := Lib.hid hB; clear hA hB
  obtain ⟨w1, hw1⟩ : ∃ w1, w1 = w.alloc (.cells #[.string ⟨r.method.toArray⟩, .string ⟨r.url.toArray⟩, .string ⟨r.origin.toArray⟩, .int .i64 r.mode, .bool r.creds, .slice A r.headers.length ca, .int .i64 r.cls, .int .u64 r.timeout, .int .i64 r.group, .int .i64 r.signal] 27) := ⟨_, rfl⟩
  obtain ⟨w2, hw2⟩ : ∃ w2, w2 = w1.alloc (.cells #[.string ⟨r.method.toArray⟩, .string ⟨r.url.toArray⟩, .string ⟨r.origin.toArray⟩, .int .i64 r.mode, .bool r.creds, .slice B r.headers.length cb, .int .i64 r.cls, .int .u64 r.timeout, .int .i64 r.group, .int .i64 r.signal] 27) := ⟨_, rfl⟩
  have hu1 : Upd [] w w1 := by rw [hw1]; exact (Upd.refl [] w).alloc _
  have hu2 : Upd [] w1 w2 := by rw [hw2]; exact (Upd.refl [] w1).alloc _
  have hb0 : w1.heap[w.heap.size]? = some (.cells #[.string ⟨r.method.toArray⟩, .string ⟨r.url.toArray⟩, .string ⟨r.origin.toArray⟩, .int .i64 r.mode, .bool r.creds, .slice A r.headers.length ca, .int .i64 r.cls, .int .u64 r.timeout, .int .i64 r.group, .int .i64 r.signal] 27) := by rw [hw1]; exact heap_alloc_self _
  have hb1 := (hu2.block w.heap.size (Array.getElem?_eq_some_iff.1 hb0).1 (by simp)).trans hb0
  have hb2 : w2.heap[w1.heap.size]? = some (.cells #[.string ⟨r.method.toArray⟩, .string ⟨r.url.toArray⟩, .string ⟨r.origin.toArray⟩, .int .i64 r.mode, .bool r.creds, .slice B r.headers.length cb, .int .i64 r.cls, .int .u64 r.timeout, .int .i64 r.group, .int .i64 r.signal] 27) := by rw [hw2]; exact heap_alloc_self _
  have hz : w1.heap.size = w.heap.size + 1 := by rw [hw1]; simp
  rw [hz] at hb2
  have f0 := cell_of (i := 0) hb1 rfl
  have g0 := cell_of (i := 0) hb2 rfl
  have f1 := cell_of (i := 1) hb1 rfl
  have g1 := cell_of (i := 1) hb2 rfl
  have f2 := cell_of (i := 2) hb1 rfl
  have g2 := cell_of (i := 2) hb2 rfl
  have f3 := cell_of (i := 3) hb1 rfl
  have g3 := cell_of (i := 3) hb2 rfl
  have f4 := cell_of (i := 4) hb1 rfl
  have g4 := cell_of (i := 4) hb2 rfl
  have f5 := cell_of (i := 5) hb1 rfl
  have g5 := cell_of (i := 5) hb2 rfl
  simp only [List.getElem_toArray, List.getElem_cons_zero, List.getElem_cons_succ] at f0 g0 f1 g1 f2 g2 f3 g3 f4 g4 f5 g5
  have HB1 := Lib.hid hb1; have HB2 := Lib.hid hb2
  have HU2 := Lib.hid (hu1.trans hu2 (by simp)); have HW2 := Lib.hid (show w2 = (w.alloc (.cells #[.string ⟨r.method.toArray⟩, .string ⟨r.url.toArray⟩, .string ⟨r.origin.toArray⟩, .int .i64 r.mode, .bool r.creds, .slice A r.headers.length ca, .int .i64 r.cls, .int .u64 r.timeout, .int .i64 r.group, .int .i64 r.signal] 27)).alloc (.cells #[.string ⟨r.method.toArray⟩, .string ⟨r.url.toArray⟩, .string ⟨r.origin.toArray⟩, .int .i64 r.mode, .bool r.creds, .slice B r.headers.length cb, .int .i64 r.cls, .int .u64 r.timeout, .int .i64 r.group, .int .i64 r.signal] 27) by rw [hw2, hw1])
  rw [HW2.out] at f0 g0 f1 g1 f2 g2 f3 g3 f4 g4 f5 g5
  clear hu1 hu2 hb0 hb1 hb2 hz hw1 hw2
  have HQ := Lib.hid (l0_headers (ca := ca) (cb := cb) (HA.out.upd0 HU2.out) (HB.out.upd0 HU2.out) hl)
  unfold reqV
  go_enter Tryd.func57, Tryd.ntmps57
  go_wp2_with fail
  rw [← HW2.out]
  clear f0 g0 f1 g1 f2 g2 f3 g3 f4 g4 f5 g5
  refine (HQ.out).mono ?_
  rintro e w3 ⟨rfl, hu3⟩
  have hb1 := (hu3.block w.heap.size (Array.getElem?_eq_some_iff.1 HB1.out).1 (by simp)).trans HB1.out
  have hb2 := (hu3.block (w.heap.size + 1) (Array.getElem?_eq_some_iff.1 HB2.out).1 (by simp)).trans HB2.out
  have HU3 := Lib.hid (HU2.out.trans hu3 (by simp))
  clear HB1 HB2 hu3 
  have f6 := cell_of (i := 6) hb1 rfl
  have g6 := cell_of (i := 6) hb2 rfl
  have f7 := cell_of (i := 7) hb1 rfl
  have g7 := cell_of (i := 7) hb2 rfl
  have f8 := cell_of (i := 8) hb1 rfl
  have g8 := cell_of (i := 8) hb2 rfl
  have f9 := cell_of (i := 9) hb1 rfl
  have g9 := cell_of (i := 9) hb2 rfl
  simp only [List.getElem_toArray, List.getElem_cons_zero, List.getElem_cons_succ] at f6 g6 f7 g7 f8 g8 f9 g9
  have HB1 := Lib.hid hb1; have HB2 := Lib.hid hb2
  clear hb1 hb2
  go_wp2_with fail
  go_ret
  exact ⟨rfl, HU3.out⟩
set_option maxHeartbeats 3200000 in
set_option maxRecDepth 100000 in
theorem l0_act {w : World} {a : ActL} {p q : ActP} (hA : ActAt w a p) (hB : ActAt w a q) (hL : a.ids.length ≤ 1000000 ∧ a.headers.length ≤ 1000000 ∧ a.req.headers.length ≤ 1000000) :
    Calls Tryd.prog 23 #[actV a p, actV a q] w fun e w' => e = .returned (.bool true) ∧ Upd [] w w' := by
  have HA := Lib.hid hA; have HB := Lib.hid hB; have HL := Lib.hid hL; clear hA hB hL
  obtain ⟨w1, hw1⟩ : ∃ w1, w1 = w.alloc (.cells #[.int .i64 a.op, .int .i64 a.id, .int .i64 a.n, .slice p.ai a.ids.length p.ci, .int .u64 a.time, .int .i64 a.status, .slice p.ah a.headers.length p.ch, .slice p.ab a.bytes.length p.cb, .string ⟨a.req.method.toArray⟩, .string ⟨a.req.url.toArray⟩, .string ⟨a.req.origin.toArray⟩, .int .i64 a.req.mode, .bool a.req.creds, .slice p.ar a.req.headers.length p.cr, .int .i64 a.req.cls, .int .u64 a.req.timeout, .int .i64 a.req.group, .int .i64 a.req.signal] 29) := ⟨_, rfl⟩
  obtain ⟨w2, hw2⟩ : ∃ w2, w2 = w1.alloc (.cells #[.int .i64 a.op, .int .i64 a.id, .int .i64 a.n, .slice q.ai a.ids.length q.ci, .int .u64 a.time, .int .i64 a.status, .slice q.ah a.headers.length q.ch, .slice q.ab a.bytes.length q.cb, .string ⟨a.req.method.toArray⟩, .string ⟨a.req.url.toArray⟩, .string ⟨a.req.origin.toArray⟩, .int .i64 a.req.mode, .bool a.req.creds, .slice q.ar a.req.headers.length q.cr, .int .i64 a.req.cls, .int .u64 a.req.timeout, .int .i64 a.req.group, .int .i64 a.req.signal] 29) := ⟨_, rfl⟩
  have hu1 : Upd [] w w1 := by rw [hw1]; exact (Upd.refl [] w).alloc _
  have hu2 : Upd [] w1 w2 := by rw [hw2]; exact (Upd.refl [] w1).alloc _
  have hb0 : w1.heap[w.heap.size]? = some (.cells #[.int .i64 a.op, .int .i64 a.id, .int .i64 a.n, .slice p.ai a.ids.length p.ci, .int .u64 a.time, .int .i64 a.status, .slice p.ah a.headers.length p.ch, .slice p.ab a.bytes.length p.cb, .string ⟨a.req.method.toArray⟩, .string ⟨a.req.url.toArray⟩, .string ⟨a.req.origin.toArray⟩, .int .i64 a.req.mode, .bool a.req.creds, .slice p.ar a.req.headers.length p.cr, .int .i64 a.req.cls, .int .u64 a.req.timeout, .int .i64 a.req.group, .int .i64 a.req.signal] 29) := by rw [hw1]; exact heap_alloc_self _
  have hb1 := (hu2.block w.heap.size (Array.getElem?_eq_some_iff.1 hb0).1 (by simp)).trans hb0
  have hb2 : w2.heap[w1.heap.size]? = some (.cells #[.int .i64 a.op, .int .i64 a.id, .int .i64 a.n, .slice q.ai a.ids.length q.ci, .int .u64 a.time, .int .i64 a.status, .slice q.ah a.headers.length q.ch, .slice q.ab a.bytes.length q.cb, .string ⟨a.req.method.toArray⟩, .string ⟨a.req.url.toArray⟩, .string ⟨a.req.origin.toArray⟩, .int .i64 a.req.mode, .bool a.req.creds, .slice q.ar a.req.headers.length q.cr, .int .i64 a.req.cls, .int .u64 a.req.timeout, .int .i64 a.req.group, .int .i64 a.req.signal] 29) := by rw [hw2]; exact heap_alloc_self _
  have hz : w1.heap.size = w.heap.size + 1 := by rw [hw1]; simp
  rw [hz] at hb2
  have f0 := cell_of (i := 0) hb1 rfl
  have g0 := cell_of (i := 0) hb2 rfl
  have f1 := cell_of (i := 1) hb1 rfl
  have g1 := cell_of (i := 1) hb2 rfl
  have f2 := cell_of (i := 2) hb1 rfl
  have g2 := cell_of (i := 2) hb2 rfl
  have f3 := cell_of (i := 3) hb1 rfl
  have g3 := cell_of (i := 3) hb2 rfl
  simp only [List.getElem_toArray, List.getElem_cons_zero, List.getElem_cons_succ] at f0 g0 f1 g1 f2 g2 f3 g3
  have HB1 := Lib.hid hb1; have HB2 := Lib.hid hb2
  have HU2 := Lib.hid (hu1.trans hu2 (by simp)); have HW2 := Lib.hid (show w2 = (w.alloc (.cells #[.int .i64 a.op, .int .i64 a.id, .int .i64 a.n, .slice p.ai a.ids.length p.ci, .int .u64 a.time, .int .i64 a.status, .slice p.ah a.headers.length p.ch, .slice p.ab a.bytes.length p.cb, .string ⟨a.req.method.toArray⟩, .string ⟨a.req.url.toArray⟩, .string ⟨a.req.origin.toArray⟩, .int .i64 a.req.mode, .bool a.req.creds, .slice p.ar a.req.headers.length p.cr, .int .i64 a.req.cls, .int .u64 a.req.timeout, .int .i64 a.req.group, .int .i64 a.req.signal] 29)).alloc (.cells #[.int .i64 a.op, .int .i64 a.id, .int .i64 a.n, .slice q.ai a.ids.length q.ci, .int .u64 a.time, .int .i64 a.status, .slice q.ah a.headers.length q.ch, .slice q.ab a.bytes.length q.cb, .string ⟨a.req.method.toArray⟩, .string ⟨a.req.url.toArray⟩, .string ⟨a.req.origin.toArray⟩, .int .i64 a.req.mode, .bool a.req.creds, .slice q.ar a.req.headers.length q.cr, .int .i64 a.req.cls, .int .u64 a.req.timeout, .int .i64 a.req.group, .int .i64 a.req.signal] 29) by rw [hw2, hw1])
  rw [HW2.out] at f0 g0 f1 g1 f2 g2 f3 g3
  clear hu1 hu2 hb0 hb1 hb2 hz hw1 hw2
  have HQ := Lib.hid (l0_ints (ca := p.ci) (cb := q.ci) (HA.out.upd HU2.out (by simp)).ids (HB.out.upd HU2.out (by simp)).ids HL.out.1 HL.out.1)
  unfold actV actCells
  go_enter Tryd.func23, Tryd.ntmps23
  go_wp2_with fail
  rw [← HW2.out]
  clear f0 g0 f1 g1 f2 g2 f3 g3
  refine (HQ.out).mono ?_
  rintro e w3 ⟨rfl, hu3⟩
  have hb1 := (hu3.block w.heap.size (Array.getElem?_eq_some_iff.1 HB1.out).1 (by simp)).trans HB1.out
  have hb2 := (hu3.block (w.heap.size + 1) (Array.getElem?_eq_some_iff.1 HB2.out).1 (by simp)).trans HB2.out
  have HU3 := Lib.hid (HU2.out.trans hu3 (by simp))
  clear HB1 HB2 hu3 
  have f4 := cell_of (i := 4) hb1 rfl
  have g4 := cell_of (i := 4) hb2 rfl
  have f5 := cell_of (i := 5) hb1 rfl
  have g5 := cell_of (i := 5) hb2 rfl
  have f6 := cell_of (i := 6) hb1 rfl
  have g6 := cell_of (i := 6) hb2 rfl
  simp only [List.getElem_toArray, List.getElem_cons_zero, List.getElem_cons_succ] at f4 g4 f5 g5 f6 g6
  have HB1 := Lib.hid hb1; have HB2 := Lib.hid hb2
  clear hb1 hb2
  simp only [decide_true]
  clear HQ
  have HQ := Lib.hid (l0_headers (ca := p.ch) (cb := q.ch) (HA.out.upd HU3.out (by simp)).hds (HB.out.upd HU3.out (by simp)).hds HL.out.2.1)
  go_wp2_with fail
  clear f4 g4 f5 g5 f6 g6
  refine (HQ.out).mono ?_
  rintro e w4 ⟨rfl, hu4⟩
  have hb1 := (hu4.block w.heap.size (Array.getElem?_eq_some_iff.1 HB1.out).1 (by simp)).trans HB1.out
  have hb2 := (hu4.block (w.heap.size + 1) (Array.getElem?_eq_some_iff.1 HB2.out).1 (by simp)).trans HB2.out
  have HU4 := Lib.hid (HU3.out.trans hu4 (by simp))
  clear HB1 HB2 hu4 
  have f7 := cell_of (i := 7) hb1 rfl
  have g7 := cell_of (i := 7) hb2 rfl
  have f8 := cell_of (i := 8) hb1 rfl
  have g8 := cell_of (i := 8) hb2 rfl
  have f9 := cell_of (i := 9) hb1 rfl
  have g9 := cell_of (i := 9) hb2 rfl
  have f10 := cell_of (i := 10) hb1 rfl
  have g10 := cell_of (i := 10) hb2 rfl
  have f11 := cell_of (i := 11) hb1 rfl
  have g11 := cell_of (i := 11) hb2 rfl
  have f12 := cell_of (i := 12) hb1 rfl
  have g12 := cell_of (i := 12) hb2 rfl
  have f13 := cell_of (i := 13) hb1 rfl
  have g13 := cell_of (i := 13) hb2 rfl
  have f14 := cell_of (i := 14) hb1 rfl
  have g14 := cell_of (i := 14) hb2 rfl
  have f15 := cell_of (i := 15) hb1 rfl
  have g15 := cell_of (i := 15) hb2 rfl
  have f16 := cell_of (i := 16) hb1 rfl
  have g16 := cell_of (i := 16) hb2 rfl
  have f17 := cell_of (i := 17) hb1 rfl
  have g17 := cell_of (i := 17) hb2 rfl
  simp only [List.getElem_toArray, List.getElem_cons_zero, List.getElem_cons_succ] at f7 g7 f8 g8 f9 g9 f10 g10 f11 g11 f12 g12 f13 g13 f14 g14 f15 g15 f16 g16 f17 g17
  have HB1 := Lib.hid hb1; have HB2 := Lib.hid hb2
  clear hb1 hb2
  clear HQ
  have hs1 := (BytesV.str (P := Tryd.prog) ⟨p.ab, p.cb, rfl, (HA.out.upd HU4.out (by simp)).bcp, (HA.out.upd HU4.out (by simp)).bts⟩ 25 9 5 Tryd.underlying25 Tryd.underlying5 Tryd.underlying9)
  have hs2 := (BytesV.str (P := Tryd.prog) ⟨q.ab, q.cb, rfl, (HB.out.upd HU4.out (by simp)).bcp, (HB.out.upd HU4.out (by simp)).bts⟩ 25 9 5 Tryd.underlying25 Tryd.underlying5 Tryd.underlying9)
  have HQ := Lib.hid (l0_req (ca := p.cr) (cb := q.cr) a.req (HA.out.upd HU4.out (by simp)).rhd (HB.out.upd HU4.out (by simp)).rhd HL.out.2.2)
  go_wp2_with fail
  clear f7 g7 f8 g8 f9 g9 f10 g10 f11 g11 f12 g12 f13 g13 f14 g14 f15 g15 f16 g16 f17 g17 hs1 hs2
  refine HQ.out.mono ?_
  rintro e w5 ⟨rfl, hu5⟩
  go_wp2_with fail
  go_ret
  exact ⟨rfl, HU4.out.trans hu5 (by simp)⟩
set_option maxHeartbeats 1600000 in
set_option maxRecDepth 100000 in
theorem l0_acts {w : World} {A B : Option Addr} {ca cb : Nat} {al bl : List (ActL × ActP)} (hA : ActsAt w A al) (hB : ActsAt w B bl) (he : al.map (·.1) = bl.map (·.1)) (hn : al.length ≤ 1000000) (hL : ∀ x ∈ al, x.1.ids.length ≤ 1000000 ∧ x.1.headers.length ≤ 1000000 ∧ x.1.req.headers.length ≤ 1000000) :
    Calls Tryd.prog 24 #[.slice A al.length ca, .slice B bl.length cb] w fun e w' => e = .returned (.bool true) ∧ Upd [] w w' := by
  have hlen : bl.length = al.length := by have := congrArg List.length he; simpa using this.symm
  rw [hlen]
  have HA := Lib.hid hA; have HB := Lib.hid hB; have HE := Lib.hid he; have HL := Lib.hid hL; have HLEN := Lib.hid hlen
  clear hA hB he hL hlen
  go_enter Tryd.func24, Tryd.ntmps24
  go_wp2_with fail
  go_loopw [5] (fun v5 wr => ∃ (k : Nat), k ≤ al.length ∧ v5 = .int .i64 k ∧ Upd [] w wr) (fun v5 _ => al.length - (intOf v5).toNat)
  case atStart => exact ⟨0, by omega, rfl, Upd.refl _ _⟩
  case round =>
    obtain ⟨k, hk, rfl, hu⟩ := hrel
    have HU := Lib.hid hu; clear hu
    by_cases hlt : k < al.length
    · obtain ⟨x, hx⟩ : ∃ x, x = al[k] := ⟨_, rfl⟩
      obtain ⟨y, hy⟩ : ∃ y, y = bl[k]'(by rw [HLEN.out]; exact hlt) := ⟨_, rfl⟩
      have hxy : y.1 = x.1 := by
        have h1 : (al.map (·.1))[k]? = some x.1 := by rw [List.getElem?_map, List.getElem?_eq_getElem hlt, hx]; rfl
        have h2 : (bl.map (·.1))[k]? = some y.1 := by rw [List.getElem?_map, List.getElem?_eq_getElem (by rw [HLEN.out]; exact hlt), hy]; rfl
        rw [HE.out, h2] at h1
        exact Option.some.inj h1
      obtain ⟨ab, ao, hAe, hca0, haa0⟩ := HA.out k x (by simp [hx, hlt])
      obtain ⟨bb, bo, hBe, hcb0, hab0⟩ := HB.out k y (by rw [hy]; simp [HLEN.out, hlt])
      subst hAe hBe
      have hmem : x ∈ al := by rw [hx]; exact List.getElem_mem hlt
      have hlim := HL.out x hmem
      clear hx hy hmem
      obtain ⟨a, p⟩ := x
      obtain ⟨a2, q⟩ := y
      simp only at hxy
      subst hxy
      have hLA := hca0.upd HU.out.drew (by simp)
      have hLB := hcb0.upd HU.out.drew (by simp)
      have HQ := Lib.hid (l0_act (haa0.upd HU.out.drew (by simp)) (hab0.upd HU.out.drew (by simp)) hlim)
      have HG1 := Lib.hid (show aggOf Tryd.prog 29 (actCells a2 p).length = true from aggAct a2 p)
      have HG2 := Lib.hid (show aggOf Tryd.prog 29 (actCells a2 q).length = true from aggAct a2 q)
      clear hca0 hcb0 haa0 hab0 hlim
      go_wp2_with fail
      refine wp_region_proc [(0, 0), (1, 0), (2, 0), (3, 0), (4, 0), (5, 0), (6, 0), (7, 0), (8, 2), (9, 0)] (fun W => LiesAt W ab (ao + k * 18) (actCells a2 p) ∧ LiesAt W bb (bo + k * 18) (actCells a2 q)) (by kernel_rfl) (by kernel_rfl) (fun c a w t v h => by cases t <;> exact h) ⟨hLA, hLB⟩ ?_
      clear hLA hLB
      repeat
        (first
          | (apply proc_held
             case ho => simp only [List.getElem?_toArray, List.getElem?_cons_succ, List.getElem?_cons_zero]; rfl
             case hg => rfl
             case hv => intro W hW; (try dsimp only at hW); go_simp; rfl
             case ha => go_simp; rfl)
          | (apply proc_held_on
             case ho => simp only [List.getElem?_toArray, List.getElem?_cons_succ, List.getElem?_cons_zero]; rfl
             case hg => rfl
             case hv => intro W hW; (try dsimp only at hW); go_simp; rfl
             case ha => go_simp; rfl)
          | (apply proc_off
             case ho => simp only [List.getElem?_toArray, List.getElem?_cons_succ, List.getElem?_cons_zero]; rfl
             case hg => rfl
             case ha => go_simp; rfl))
      apply proc_load (t := 29) (x := .tmp 19) (b := ab) (of := ao + k * 18) (cs := actCells a2 p)
      case ho => simp only [List.getElem?_toArray, List.getElem?_cons_succ, List.getElem?_cons_zero]; rfl
      case hg => rfl
      case hop => rfl
      case hx => rfl
      case ht => exact HG1.out
      case hb => exact fun W hW => hW.1
      case ha => go_simp; rfl
      repeat
        (first
          | (apply proc_held
             case ho => simp only [List.getElem?_toArray, List.getElem?_cons_succ, List.getElem?_cons_zero]; rfl
             case hg => rfl
             case hv => intro W hW; (try dsimp only at hW); go_simp; rfl
             case ha => go_simp; rfl)
          | (apply proc_held_on
             case ho => simp only [List.getElem?_toArray, List.getElem?_cons_succ, List.getElem?_cons_zero]; rfl
             case hg => rfl
             case hv => intro W hW; (try dsimp only at hW); go_simp; rfl
             case ha => go_simp; rfl)
          | (apply proc_off
             case ho => simp only [List.getElem?_toArray, List.getElem?_cons_succ, List.getElem?_cons_zero]; rfl
             case hg => rfl
             case ha => go_simp; rfl))
      apply proc_load (t := 29) (x := .tmp 23) (b := bb) (of := bo + k * 18) (cs := actCells a2 q)
      case ho => simp only [List.getElem?_toArray, List.getElem?_cons_succ, List.getElem?_cons_zero]; rfl
      case hg => rfl
      case hop => rfl
      case hx => rfl
      case ht => exact HG2.out
      case hb => exact fun W hW => hW.2
      case ha => go_simp; rfl
      apply proc_last
      case ho => simp only [List.getElem?_toArray, List.getElem?_cons_succ, List.getElem?_cons_zero]; rfl
      go_wp2_with fail
      have q := HQ.out
      unfold actV at q
      refine q.mono ?_
      clear q HQ
      rintro e w2 ⟨rfl, hu2⟩
      have HU2 := Lib.hid (HU.out.drew.trans hu2 (by simp)); clear hu2
      go_wp2_with fail
      refine ⟨fun _ => True, trivial, ?_⟩
      repeat
        (first
          | (apply proc_held
             case ho => simp only [List.getElem?_toArray, List.getElem?_cons_succ, List.getElem?_cons_zero]; rfl
             case hg => rfl
             case hv => intro W hW; (try dsimp only at hW); go_simp; rfl
             case ha => go_simp; rfl)
          | (apply proc_held_on
             case ho => simp only [List.getElem?_toArray, List.getElem?_cons_succ, List.getElem?_cons_zero]; rfl
             case hg => rfl
             case hv => intro W hW; (try dsimp only at hW); go_simp; rfl
             case ha => go_simp; rfl)
          | (apply proc_off
             case ho => simp only [List.getElem?_toArray, List.getElem?_cons_succ, List.getElem?_cons_zero]; rfl
             case hg => rfl
             case ha => go_simp; rfl))
      refine proc_nil ?_
      go_wp2_with fail
      exact ⟨⟨k + 1, by omega, by go_num, HU2.out⟩, by simp [intOf]; omega⟩
    · have hkl : k = al.length := by omega
      go_wp2_with fail
      go_ret
      exact ⟨rfl, HU.out⟩
end Go.Proofs.YtajoldboafkpdaaDoor
