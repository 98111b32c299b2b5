-- script.Show: contract.
import Derived.Test.YtajoldboafkpdaaDoorWriter
import Derived.Test.YtajoldboafkpdaaDoorScOp
import Derived.Lib.ItoaLen
import Derived.Deep.CutBlock
namespace Go.Proofs.YtajoldboafkpdaaDoor
set_option linter.unusedSimpArgs false
set_option linter.unusedVariables false
open Go.RowKit Go.Lk
/-- Where an act's slices lie. -/
structure ActP where
  ai : Option Addr
  ci : Nat
  ah : Option Addr
  ch : Nat
  ab : Option Addr
  cb : Nat
  ar : Option Addr
  cr : Nat
def actCells (a : ActL) (p : ActP) : List Value := [.int .i64 a.op, .int .i64 a.id, .int .i64 a.n, .slice p.ai a.ids.length p.ci, .int .u64 a.time, .int .i64 a.status, .slice p.ah a.headers.length p.ch, .slice p.ab a.bytes.length p.cb,
  .string ⟨a.req.method.toArray⟩, .string ⟨a.req.url.toArray⟩, .string ⟨a.req.origin.toArray⟩, .int .i64 a.req.mode, .bool a.req.creds, .slice p.ar a.req.headers.length p.cr, .int .i64 a.req.cls, .int .u64 a.req.timeout, .int .i64 a.req.group, .int .i64 a.req.signal]
def actV (a : ActL) (p : ActP) : Value := .agg (actCells a p).toArray
structure ActAt (w : World) (a : ActL) (p : ActP) : Prop where
  ids : IntsAt w p.ai a.ids
  hds : HdrsAt w p.ah a.headers
  bts : BytesAt w p.ab a.bytes
  bcp : a.bytes.length ≤ p.cb
  rhd : HdrsAt w p.ar a.req.headers
structure ActLim (a : ActL) : Prop where
  op : i64R a.op
  id : i64R a.id
  n : i64R a.n
  ids : a.ids.length ≤ 1000000 ∧ ∀ x ∈ a.ids, i64R x
  ti : 0 ≤ a.time ∧ a.time < 18446744073709551616
  st : i64R a.status
  hd : HdrLim a.headers
  bt : a.bytes.length ≤ 1000000
  rq : ReqLim a.req
theorem hexS_le (x : Bs) : (hexS x).length ≤ 2 * x.length + 1 := by
  unfold hexS; split
  · simp
  · rw [hexL_length]; omega
theorem intsW_len {l : List Int} (h : ∀ x ∈ l, i64R x) : ∀ y ∈ (intsW l).1, y.length ≤ 4000000 := by
  intro y hy
  simp only [intsW, List.mem_map] at hy
  obtain ⟨x, hx, rfl⟩ := hy
  have := Lib.itoa_length_le x (h x hx).1 (h x hx).2
  omega
theorem itoa_u64_le {n : Int} (h : 0 ≤ n ∧ n < 18446744073709551616) : (Lib.itoa n).length ≤ 4000000 := by
  obtain ⟨m, rfl⟩ : ∃ m : Nat, n = m := ⟨n.toNat, by omega⟩
  rw [Lib.itoa_nonneg, Lib.decDigits_length]
  have := Lib.nDigits_le20 m (by omega)
  omega
theorem hdrsW_len {l : List (Bs × Bs)} (h : HdrLim l) : ∀ y ∈ (hdrsW l).1, y.length ≤ 4000000 := by
  intro y hy
  simp only [hdrsW, List.mem_map] at hy
  obtain ⟨x, hx, rfl⟩ := hy
  have := h.2 x hx
  have := hexS_le x.2
  simp only [hdrW, List.length_append, List.length_cons]
  omega
theorem reqW_len {r : ReqL} (h : ReqLim r) : (reqW r).1.length ≤ 1000010 ∧ ∀ y ∈ (reqW r).1, y.length ≤ 4000000 := by
  have h1 : ∀ y ∈ (intsW [r.mode, if r.creds then 1 else 0, r.cls]).1, y.length ≤ 4000000 := intsW_len (by
    intro x hx
    simp only [List.mem_cons, List.mem_nil_iff, or_false] at hx
    rcases hx with rfl | rfl | rfl
    · exact h.mo
    · unfold i64R; split <;> omega
    · exact h.cl)
  have h2 : ∀ y ∈ (intsW [r.group, r.signal]).1, y.length ≤ 4000000 := intsW_len (by
    intro x hx
    simp only [List.mem_cons, List.mem_nil_iff, or_false] at hx
    rcases hx with rfl | rfl
    · exact h.gr
    · exact h.si)
  have h3 := hdrsW_len h.hd
  have h4 := h.hd.1
  have h5 := h.me
  have h6 := h.ur
  have h7 := h.og
  refine ⟨by simp [reqW, intsW, hdrsW]; omega, fun y hy => ?_⟩
  simp only [reqW, List.mem_append, List.mem_cons, List.mem_nil_iff, or_false] at hy
  rcases hy with ((((rfl | rfl | rfl) | hy) | rfl) | hy) | hy
  · omega
  · omega
  · omega
  · exact h1 y hy
  · exact itoa_u64_le h.ti
  · exact h2 y hy
  · exact h3 y hy
theorem actW_len {a : ActL} (h : ActLim a) : (actW a).1.length ≤ 2000000 ∧ ∀ y ∈ (actW a).1, y.length ≤ 4000000 := by
  have hr := reqW_len h.rq
  have hh := hdrsW_len h.hd
  have hh1 := h.hd.1
  have hi := intsW_len (l := a.ids) h.ids.2
  have hi1 := h.ids.1
  have hb := hexS_le a.bytes
  have hb1 := h.bt
  have one : ∀ l : List Int, (∀ x ∈ l, i64R x) → l.length ≤ 5 → (intsW l).1.length ≤ 2000000 ∧ ∀ y ∈ (intsW l).1, y.length ≤ 4000000 := fun l hl hn => ⟨by simp [intsW]; omega, intsW_len hl⟩
  have o1 := one [a.id] (by simpa using h.id) (by simp)
  have o2 := one [a.id, a.status] (by simpa using ⟨h.id, h.st⟩) (by simp)
  have o3 := one [a.id, a.n] (by simpa using ⟨h.id, h.n⟩) (by simp)
  have t1 := itoa_u64_le h.ti
  unfold actW
  split
  · simp
  split
  · exact ⟨by simp [intsW]; omega, hi⟩
  split
  · exact ⟨by omega, hr.2⟩
  split
  · simp; omega
  split
  · refine ⟨by simp [intsW, hdrsW]; omega, fun y hy => ?_⟩
    rcases List.mem_append.1 hy with hy | hy
    · exact o2.2 y hy
    · exact hh y hy
  split
  · refine ⟨by simp [intsW], fun y hy => ?_⟩
    rcases List.mem_append.1 hy with hy | hy
    · exact o1.2 y hy
    · simp only [List.mem_cons, List.mem_nil_iff, or_false] at hy
      subst hy; omega
  split
  · exact o3
  split
  · exact o1
  · simp
theorem lens_le {M : Nat} : ∀ {l : List Bs}, (∀ y ∈ l, y.length ≤ M) → Lib.lens l ≤ l.length * M
  | [], _ => by simp [Lib.lens]
  | x :: l, h => by
    have h1 := lens_le (l := l) (fun y hy => h y (by simp [hy]))
    have h2 := h x (by simp)
    simp only [Lib.lens, List.map_cons, List.sum_cons, List.length_cons] at *
    rw [Nat.add_mul]; omega
theorem join_le {ws : List Bs} {M : Nat} (h : ∀ y ∈ ws, y.length ≤ M) : (Lib.join ws [32]).length ≤ ws.length * (M + 1) := by
  cases ws with
  | nil => simp [Lib.join_nil]
  | cons x r =>
    rw [Lib.join_cons, List.length_append, Lib.joinTail_length]
    have h1 := lens_le (l := r) (M := M) (fun y hy => h y (by simp [hy]))
    have h2 := h x (by simp)
    simp only [List.length_cons, List.length_nil, Nat.mul_add, Nat.add_mul] at *
    omega
theorem BytesAt.upd1 {w w1 : World} {F : List Nat} {A : Option Addr} {bs : List UInt8} (h : BytesAt w A bs) (hu : Upd F w w1) (hF : ∀ x ∈ F, w.heap.size ≤ x) : BytesAt w1 A bs := fun j x hj => by
  obtain ⟨ab, ao, e, hc⟩ := h j x hj
  exact ⟨ab, ao, e, (World.cell?_of_block (hu.block ab (World.block_lt_of_cell? _ _ hc) (fun hm => by have := hF _ hm; have := World.block_lt_of_cell? _ _ hc; simp only at *; omega))).trans hc⟩
theorem IntsAt.upd1 {w w1 : World} {F : List Nat} {A : Option Addr} {bs : List Int} (h : IntsAt w A bs) (hu : Upd F w w1) (hF : ∀ x ∈ F, w.heap.size ≤ x) : IntsAt w1 A bs := fun j x hj => by
  obtain ⟨ab, ao, e, hc⟩ := h j x hj
  exact ⟨ab, ao, e, (World.cell?_of_block (hu.block ab (World.block_lt_of_cell? _ _ hc) (fun hm => by have := hF _ hm; have := World.block_lt_of_cell? _ _ hc; simp only at *; omega))).trans hc⟩
theorem HdrsAt.upd1 {w w1 : World} {F : List Nat} {A : Option Addr} {bs : List (Bs × Bs)} (h : HdrsAt w A bs) (hu : Upd F w w1) (hF : ∀ x ∈ F, w.heap.size ≤ x) : HdrsAt w1 A bs := fun j x hj => by
  obtain ⟨ab, ao, e, hc, hd⟩ := h j x hj
  have hb := hu.block ab (World.block_lt_of_cell? _ _ hc) (fun hm => by have := hF _ hm; have := World.block_lt_of_cell? _ _ hc; simp only at *; omega)
  exact ⟨ab, ao, e, (World.cell?_of_block hb).trans hc, (World.cell?_of_block hb).trans hd⟩
theorem ActAt.upd {w w1 : World} {a : ActL} {p : ActP} {F : List Nat} (h : ActAt w a p) (hu : Upd F w w1) (hF : ∀ x ∈ F, w.heap.size ≤ x) : ActAt w1 a p :=
  ⟨h.ids.upd1 hu hF, h.hds.upd1 hu hF, BytesAt.upd1 h.bts hu hF, h.bcp, h.rhd.upd1 hu hF⟩
theorem ne_of_low {w0 w1 : World} {base wb : Nat} {v0 v1 : Value} {ws1 : List Bs} {b1 : Bool} (h : WrStep w0 w1 base wb v0 v1 ws1 b1) {n : Nat} (hw : n ≤ wb) (hv : ∀ k, v0.ownBlock = some k → n ≤ k) (hn : n ≤ w0.heap.size) {ab : Nat} (hab : ab < n) : ab ≠ wb ∧ v1.ownBlock ≠ some ab :=
  ⟨by omega, fun e => by
    rcases h.own _ e with h1 | h1
    · have := hv _ h1; omega
    · omega⟩
theorem own_str {w : World} {base g n c : Nat} {T : TypeId} {ws : List Bs} (h : w.ownsRow base T 1 (.slice (some ⟨g, 0, none⟩) n c) n (ws.map strV)) (j : Nat) (y : Bs) (hj : ws[j]? = some y) : w.cell? ⟨g, 0 + j, none⟩ = some (.string ⟨y.toArray⟩) := by
  obtain ⟨hl, ⟨h0, _⟩ | ⟨g', cap, cur, hv, hb, hh, hnc, hcm, hsz, ht⟩⟩ := h
  · cases h0
  · injection hv with hv _ _
    injection hv with hv
    injection hv with hv _ _
    subst hv
    rw [Nat.zero_add]
    refine cell_of hh ?_
    have h1 : (ws.map strV)[j]? = some (strV y) := by rw [List.getElem?_map, hj]; rfl
    rw [← ht] at h1
    rw [← Array.getElem?_toList]
    have hlt : j < n * 1 := by
      have := (List.getElem?_eq_some_iff.1 h1).1
      rw [List.length_take] at this; omega
    rw [List.getElem?_take_of_lt hlt] at h1
    exact h1
theorem own_cap {w : World} {base n c : Nat} {A : Option Addr} {T : TypeId} {sz : Nat} {xs : List Value} (h : w.ownsRow base T sz (.slice A n c) n xs) : n ≤ c := by
  obtain ⟨hl, ⟨h0, h1⟩ | ⟨g', cap, cur, hv, hb, hh, hnc, hcm, hsz, ht⟩⟩ := h
  · omega
  · injection hv with _ _ hv
    omega
theorem opS_le (n : Int) : (opS n).length ≤ 8 := by
  unfold opS
  split
  · simp
  · rename_i h
    obtain ⟨k, hk⟩ : ∃ k : Nat, (n - 1).toNat = k := ⟨_, rfl⟩
    rw [hk]
    have : k < 14 := by omega
    rcases (show k = 0 ∨ k = 1 ∨ k = 2 ∨ k = 3 ∨ k = 4 ∨ k = 5 ∨ k = 6 ∨ k = 7 ∨ k = 8 ∨ k = 9 ∨ k = 10 ∨ k = 11 ∨ k = 12 ∨ k = 13 by omega) with rfl | rfl | rfl | rfl | rfl | rfl | rfl | rfl | rfl | rfl | rfl | rfl | rfl | rfl <;> decide
set_option maxRecDepth 100000 in
set_option maxHeartbeats 6400000 in
theorem script_show {w : World} {a : ActL} {p : ActP} (hA : ActAt w a p) (hL : ActLim a) (hE : Env w) :
    Calls Tryd.prog 13 #[actV a p] w fun e w' => e = .returned (.tuple #[.string ⟨((showS a).getD []).toArray⟩, .int .i64 (if (showS a).isSome then 0 else 2)]) ∧ Upd [] w w' := by
  obtain ⟨sh, hsh⟩ : ∃ sh, sh = showS a := ⟨_, rfl⟩
  have HSH := Lib.hid hsh
  rw [← hsh]
  clear hsh
  obtain ⟨tx, htx⟩ : ∃ tx, tx = sh.getD [] := ⟨_, rfl⟩
  obtain ⟨en, hen⟩ : ∃ en : Int, en = if sh.isSome then 0 else 2 := ⟨_, rfl⟩
  have HTX := Lib.hid htx; have HEN := Lib.hid hen
  rw [← htx, ← hen]
  clear htx hen
  obtain ⟨w1, hw1⟩ : ∃ w1, w1 = w.alloc (.cells (actCells a p).toArray 29) := ⟨_, rfl⟩
  have hbx := heap_alloc_self (w := w) (.cells (actCells a p).toArray 29)
  have hu : Upd [] w w1 := by rw [hw1]; exact (Upd.refl [] w).alloc _
  have hsz : w1.heap.size = w.heap.size + 1 := by rw [hw1]; simp
  rw [← hw1] at hbx
  have HBX := Lib.hid hbx; have HW1 := Lib.hid hw1; have HU := Lib.hid hu; have HA := Lib.hid hA; have HL := Lib.hid hL; have HE := Lib.hid hE; clear hbx hw1 hu hA hL hE
  have f0 : w1.cell? ⟨w.heap.size, 0, none⟩ = some (.int .i64 a.op) := cell_of (i := 0) HBX.out rfl
  unfold actV
  go_enter Tryd.func13, Tryd.ntmps13
  rw [HW1.out] at f0
  go_wp2_with fail
  rw [← HW1.out]
  refine (script_op a.op w1).mono ?_
  rintro e w2 ⟨rfl, hu2⟩
  have HU2 := Lib.hid hu2; clear hu2 f0
  have hW2 : Upd [] w w2 := HU.out.trans HU2.out (by simp)
  have hblk2 : w2.heap[w.heap.size]? = some (.cells (actCells a p).toArray 29) := (HU2.out.block w.heap.size (by omega) (by simp)).trans HBX.out
  have hs2 := HU2.out.size
  obtain ⟨wb, hwb⟩ : ∃ wb, wb = w2.heap.size + 1 := ⟨_, rfl⟩
  obtain ⟨v0, hv0⟩ : ∃ v0 : Value, v0 = .slice (some ⟨w2.heap.size, 0, none⟩) 1 1 := ⟨_, rfl⟩
  obtain ⟨w3, hw3⟩ : ∃ w3, w3 = (w2.alloc (.cells #[.string ⟨(opS a.op).toArray⟩] 9)).alloc (.cells #[.slice (some ⟨w2.heap.size, 0, none⟩) 1 1, .bool false] 71) := ⟨_, rfl⟩
  have hW23 : Upd [] w2 w3 := by rw [hw3]; exact ((Upd.refl [] w2).alloc _).alloc _
  have hs3 : w3.heap.size = w2.heap.size + 2 := by rw [hw3]; simp
  have hat : WrAt w3 w.heap.size wb v0 [opS a.op] false := by
    rw [hw3, hwb, hv0]
    refine ⟨?_, by simp, .inr ⟨w2.heap.size, 1, #[.string ⟨(opS a.op).toArray⟩], rfl, by omega, ?_, by simp, by decide, by simp, by simp [strV]⟩⟩
    · have := heap_alloc_self (w := w2.alloc (.cells #[.string ⟨(opS a.op).toArray⟩] 9)) (.cells #[.slice (some ⟨w2.heap.size, 0, none⟩) 1 1, .bool false] 71)
      simpa using this
    · rw [heap_alloc_lt _ (by simp)]
      exact heap_alloc_self _
  have hA3 := HA.out.upd (hW2.trans hW23 (by simp)) (by simp)
  have hblk3 := (hW23.block w.heap.size (by omega) (by simp)).trans hblk2
  have hE3 := HE.out.upd0 (hW2.trans hW23 (by simp))
  have HW3U := Lib.hid (hW2.trans hW23 (by simp)); have HAT := Lib.hid hat; have HA3 := Lib.hid hA3; have HB3 := Lib.hid hblk3; have HE3 := Lib.hid hE3; have HWB := Lib.hid hwb; have HV0 := Lib.hid hv0; have HW3 := Lib.hid hw3
  clear hW2 hblk2 hwb hv0 hw3 hW23 hat hA3 hblk3 hE3
  have hg : gfree wb ∧ gfree w.heap.size := by have := HE.out.size; rw [HWB.out]; unfold gfree; omega
  have hwbw : w.heap.size < wb := by rw [HWB.out]; omega
  have hv0w : ∀ k, v0.ownBlock = some k → w.heap.size < k := fun k hk => by rw [HV0.out] at hk; simp only [Value.ownBlock, Option.some.injEq] at hk; omega
  have hb3 : w.heap.size ≤ w3.heap.size := by omega
  -- the act's block, whatever the writer did
  have blk : ∀ (w4 : World) (v4 : Value) (ws4 : List Bs) (b4 : Bool), WrStep w3 w4 w.heap.size wb v0 v4 ws4 b4 → w4.heap[w.heap.size]? = some (.cells (actCells a p).toArray 29) := fun _ _ _ _ hs =>
    (hs.block w.heap.size (by omega) (by omega) (fun e => by have := hv0w _ e; omega)).trans HB3.out
  have env : ∀ (w4 : World) (v4 : Value) (ws4 : List Bs) (b4 : Bool), WrStep w3 w4 w.heap.size wb v0 v4 ws4 b4 → Env w4 := fun _ _ _ _ hs => hs.env HE3.out hg (fun k hk => by have := hv0w _ hk; omega)
  have act : ∀ (w4 : World) (v4 : Value) (ws4 : List Bs) (b4 : Bool), WrStep w3 w4 w.heap.size wb v0 v4 ws4 b4 → ActAt w4 a p := fun _ _ _ _ hs => HA.out.upd (Upd.trans (F := wb :: v0.ownBlock.toList) (HW3U.out.weaken (by simp)) hs.upd (fun x hx => .inr hx)) (fun x hx => by
    rcases List.mem_cons.1 hx with rfl | hx
    · omega
    · have := hv0w x (by simpa using hx); omega)
  have away : ∀ (w4 : World) (v4 : Value) (ws4 : List Bs) (b4 : Bool), WrStep w3 w4 w.heap.size wb v0 v4 ws4 b4 → ∀ ab, ab < w.heap.size → ab ≠ wb ∧ v4.ownBlock ≠ some ab := fun _ _ _ _ hs ab hab =>
    ne_of_low hs (Nat.le_of_lt hwbw) (fun k hk => Nat.le_of_lt (hv0w k hk)) hb3 hab
  have BLK := Lib.hid blk; have ENV := Lib.hid env; have ACT := Lib.hid act; have AWAY := Lib.hid away
  clear blk env act away
  have hb3' : w.heap.size < w3.heap.size := by omega
  have HS3 := Lib.hid hs3
  clear hs3 hsz
  have S3 := Lib.hid HAT.out.step
  have f0 : w3.cell? ⟨w.heap.size, 0, none⟩ = some (.int .i64 a.op) := cell_of (i := 0) HB3.out rfl
  rw [HW3.out] at f0
  go_upto_block 0 with fail
  rw [← HW3.out, ← HWB.out]
  rw [← HW3.out] at f0
  go_cut [] from 12 to 74 (fun wz => ∃ vz, WrStep w3 wz w.heap.size wb v0 vz ([opS a.op] ++ (actW a).1) (!(actW a).2))
  case first =>
    by_cases h1 : a.op = 1
    · have HWA : Hid (actW a = ([], true)) := Lib.hid (by simp [actW, h1])
      have b1 : (a.op == 1) = true := by rw [h1]; rfl
      clear h1
      go_wp2_with fail
      go_meet
      case rel =>
        rw [HWA.out]
        exact ⟨_, by simpa [intsW, hdrsW] using S3.out⟩
    by_cases h9 : a.op = 9
    · have HWA : Hid (actW a = ([], true)) := Lib.hid (by simp [actW, h9])
      have b1 : (a.op == 1) = false := by rw [h9]; rfl
      have b9 : (a.op == 9) = true := by rw [h9]; rfl
      clear h9
      go_wp2_with fail
      go_meet
      case rel =>
        rw [HWA.out]
        exact ⟨_, by simpa [intsW, hdrsW] using S3.out⟩
    by_cases h2 : a.op = 2
    · have HWA : Hid (actW a = intsW a.ids) := Lib.hid (by simp [actW, h2])
      have b1 : (a.op == 1) = false := by rw [h2]; rfl
      have b9 : (a.op == 9) = false := by rw [h2]; rfl
      have b2 : (a.op == 2) = true := by rw [h2]; rfl
      clear h2
      have f3 : w3.cell? ⟨w.heap.size, 3, none⟩ = some (.slice p.ai a.ids.length p.ci) := cell_of (i := 3) (BLK.out _ _ _ _ S3.out) rfl
      go_wp2_with fail
      have q := ints_step (c := p.ci) S3.out HE3.out hb3 (by first | (simp; done) | (simp; omega) | omega) hg HA3.out.ids (by have := HL.out.ids.1; omega) (fun ab ao e hn => AWAY.out _ _ _ _ S3.out ab (HA.out.ids.lt hn ab ao e)) HL.out.ids.2
      refine q.mono ?_
      clear q
      rintro e w4 ⟨rfl, vw4, hst⟩
      have S4 := Lib.hid hst; clear hst
      go_wp2_with fail
      go_meet
      case rel =>
        rw [HWA.out]
        exact ⟨_, by simpa [intsW, hdrsW] using S4.out⟩
    by_cases h3 : a.op = 3
    · have HWA : Hid (actW a = reqW a.req) := Lib.hid (by simp [actW, h3])
      have b1 : (a.op == 1) = false := by rw [h3]; rfl
      have b9 : (a.op == 9) = false := by rw [h3]; rfl
      have b2 : (a.op == 2) = false := by rw [h3]; rfl
      have b3 : (a.op == 3) = true := by rw [h3]; rfl
      clear h3
      have hLd : LiesAt w3 w.heap.size 8 [.string ⟨a.req.method.toArray⟩, .string ⟨a.req.url.toArray⟩, .string ⟨a.req.origin.toArray⟩, .int .i64 a.req.mode, .bool a.req.creds, .slice p.ar a.req.headers.length p.cr, .int .i64 a.req.cls, .int .u64 a.req.timeout, .int .i64 a.req.group, .int .i64 a.req.signal] := fun j v hj => cell_of (i := 8 + j) HB3.out (by
        rw [List.getElem?_toArray]
        have h8 : (List.drop 8 (actCells a p))[j]? = some v := hj
        rw [List.getElem?_drop] at h8
        exact h8)
      have hag : aggOf Tryd.prog 27 10 = true := by kernel_rfl
      go_upto_region 9 with fail
      go_wp2_with (refine wpList_load_lies _ rfl 27 (.tmp 23) rfl w.heap.size 8 [.string ⟨a.req.method.toArray⟩, .string ⟨a.req.url.toArray⟩, .string ⟨a.req.origin.toArray⟩, .int .i64 a.req.mode, .bool a.req.creds, .slice p.ar a.req.headers.length p.cr, .int .i64 a.req.cls, .int .u64 a.req.timeout, .int .i64 a.req.group, .int .i64 a.req.signal] rfl hag hLd ?_)
      have q := writer_request (c := p.cr) S3.out.at_ HE3.out hb3 (by first | (simp; done) | (simp; omega)) hg a.req HL.out.rq HA3.out.rhd (fun ab ao e hn => AWAY.out _ _ _ _ S3.out ab (HA.out.rhd.lt hn ab ao e))
      unfold reqV at q
      refine q.mono ?_
      clear q
      rintro e w4 ⟨rfl, vw4, hst⟩
      have S4 := Lib.hid (S3.out.trans hst); clear hst
      go_wp2_with fail
      go_meet
      case rel =>
        rw [HWA.out]
        exact ⟨_, by simpa only [List.append_assoc, Bool.not_and, Bool.false_or] using S4.out⟩
    by_cases h8 : a.op = 8
    · have HWA : Hid (actW a = ([Lib.itoa a.time], true)) := Lib.hid (by simp [actW, h8])
      have b1 : (a.op == 1) = false := by rw [h8]; rfl
      have b9 : (a.op == 9) = false := by rw [h8]; rfl
      have b2 : (a.op == 2) = false := by rw [h8]; rfl
      have b3 : (a.op == 3) = false := by rw [h8]; rfl
      have b8 : (a.op == 8) = true := by rw [h8]; rfl
      clear h8
      have f4 : w3.cell? ⟨w.heap.size, 4, none⟩ = some (.int .u64 a.time) := cell_of (i := 4) (BLK.out _ _ _ _ S3.out) rfl
      go_wp2_with fail
      have q := num_step S3.out HE3.out hb3 (by first | (simp; done) | (simp; omega) | omega) a.time HL.out.ti
      refine q.mono ?_
      clear q
      rintro e w4 ⟨rfl, vw4, hst⟩
      have S4 := Lib.hid hst; clear hst
      go_wp2_with fail
      go_meet
      case rel =>
        rw [HWA.out]
        exact ⟨_, by simpa [intsW, hdrsW] using S4.out⟩
    by_cases h10 : a.op = 10
    · have HWA : Hid (actW a = ((intsW [a.id, a.status]).1 ++ (hdrsW a.headers).1, (intsW [a.id, a.status]).2 && (hdrsW a.headers).2)) := Lib.hid (by simp [actW, h10])
      have b1 : (a.op == 1) = false := by rw [h10]; rfl
      have b9 : (a.op == 9) = false := by rw [h10]; rfl
      have b2 : (a.op == 2) = false := by rw [h10]; rfl
      have b3 : (a.op == 3) = false := by rw [h10]; rfl
      have b8 : (a.op == 8) = false := by rw [h10]; rfl
      have b10 : (a.op == 10) = true := by rw [h10]; rfl
      clear h10
      have f1 : w3.cell? ⟨w.heap.size, 1, none⟩ = some (.int .i64 a.id) := cell_of (i := 1) (BLK.out _ _ _ _ S3.out) rfl
      have f5 : w3.cell? ⟨w.heap.size, 5, none⟩ = some (.int .i64 a.status) := cell_of (i := 5) (BLK.out _ _ _ _ S3.out) rfl
      go_wp2_with fail
      have q := ints_new_step S3.out (ENV.out _ _ _ _ S3.out) hb3 (by first | (simp; done) | (simp; omega) | omega) hg 3 [a.id, a.status] 2 rfl (by simp) (by simp; have := HL.out.id; have := HL.out.st; have := HL.out.n; unfold i64R at *; omega)
      refine q.mono ?_
      clear q
      rintro e w4 ⟨rfl, vw4, hst⟩
      have S4 := Lib.hid hst; clear hst
      clear f1 f5
      have f6 : w4.cell? ⟨w.heap.size, 6, none⟩ = some (.slice p.ah a.headers.length p.ch) := cell_of (i := 6) (BLK.out _ _ _ _ S4.out) rfl
      go_wp2_with fail
      have q := headers_step (c := p.ch) S4.out (ENV.out _ _ _ _ S4.out) hb3 (by first | (simp [intsW]; done) | (simp [intsW]; omega)) hg (ACT.out _ _ _ _ S4.out).hds (by have := HL.out.hd.1; omega) (fun ab ao e hn => AWAY.out _ _ _ _ S4.out ab (HA.out.hds.lt hn ab ao e)) HL.out.hd.2
      refine q.mono ?_
      clear q
      rintro e w5 ⟨rfl, vw5, hst⟩
      have S5 := Lib.hid hst; clear hst
      go_wp2_with fail
      go_meet
      case rel =>
        rw [HWA.out]
        exact ⟨_, by simpa only [List.append_assoc, Bool.not_and, Bool.false_or] using S5.out⟩
    by_cases h11 : a.op = 11
    · have HWA : Hid (actW a = ((intsW [a.id]).1 ++ [hexS a.bytes], (intsW [a.id]).2)) := Lib.hid (by simp [actW, h11])
      have b1 : (a.op == 1) = false := by rw [h11]; rfl
      have b9 : (a.op == 9) = false := by rw [h11]; rfl
      have b2 : (a.op == 2) = false := by rw [h11]; rfl
      have b3 : (a.op == 3) = false := by rw [h11]; rfl
      have b8 : (a.op == 8) = false := by rw [h11]; rfl
      have b10 : (a.op == 10) = false := by rw [h11]; rfl
      have b11 : (a.op == 11) = true := by rw [h11]; rfl
      clear h11
      have f1 : w3.cell? ⟨w.heap.size, 1, none⟩ = some (.int .i64 a.id) := cell_of (i := 1) (BLK.out _ _ _ _ S3.out) rfl
      go_wp2_with fail
      have q := ints_new_step S3.out (ENV.out _ _ _ _ S3.out) hb3 (by first | (simp; done) | (simp; omega) | omega) hg 3 [a.id] 1 rfl (by simp) (by simp; have := HL.out.id; unfold i64R at *; omega)
      refine q.mono ?_
      clear q
      rintro e w4 ⟨rfl, vw4, hst⟩
      have S4 := Lib.hid hst; clear hst f1
      obtain ⟨A4, ca4, rfl⟩ := S4.out.at_.slice
      have c0 := cell_of (i := 0) S4.out.at_.hb rfl
      simp only [List.getElem_toArray, List.getElem_cons_zero] at c0
      obtain ⟨n4, hn4⟩ : ∃ n4, n4 = ([opS a.op] ++ (intsW [a.id]).1).length := ⟨_, rfl⟩
      rw [← hn4] at c0
      have hn4' : n4 ≤ 2 := by rw [hn4]; simp [intsW]
      have HN4 := Lib.hid hn4; clear hn4
      have f7 : w4.cell? ⟨w.heap.size, 7, none⟩ = some (.slice p.ab a.bytes.length p.cb) := cell_of (i := 7) (BLK.out _ _ _ _ S4.out) rfl
      have HBT : Hid (BytesV w4 (.slice p.ab a.bytes.length p.cb) a.bytes) := Lib.hid ⟨_, _, rfl, (ACT.out _ _ _ _ S4.out).bcp, (ACT.out _ _ _ _ S4.out).bts⟩
      obtain ⟨i0, hi, hz0, hz1, hz2⟩ := info_parts Tryd.infoString
      go_wp2_with fail
      refine wp_region_proc [(0, 0), (1, 0), (2, 0), (3, 0), (4, 1), (5, 1), (6, 1), (7, 0), (8, 2)] (fun W => W.cell? ⟨wb, 0, none⟩ = some (.slice A4 n4 ca4) ∧ W.cell? ⟨w.heap.size, 7, none⟩ = some (.slice p.ab a.bytes.length p.cb)) (by kernel_rfl) (by kernel_rfl) (fun c a w t v h => by cases t <;> exact h) ⟨c0, f7⟩ ?_
      repeat
        (first
          | (apply proc_held
             case ho => simp only [List.getElem?_toArray, List.getElem?_cons_succ, List.getElem?_cons_zero]; rfl
             case hg => rfl
             case hv => intro W hW; (try dsimp only at hW); go_simp; rfl
             case ha => go_simp; rfl)
          | (apply proc_held_on
             case ho => simp only [List.getElem?_toArray, List.getElem?_cons_succ, List.getElem?_cons_zero]; rfl
             case hg => rfl
             case hv => intro W hW; (try dsimp only at hW); go_simp; rfl
             case ha => go_simp; rfl)
          | (apply proc_off
             case ho => simp only [List.getElem?_toArray, List.getElem?_cons_succ, List.getElem?_cons_zero]; rfl
             case hg => rfl
             case ha => go_simp; rfl))
      apply proc_eff
      case ho => simp only [List.getElem?_toArray, List.getElem?_cons_succ, List.getElem?_cons_zero]; rfl
      simp only [World.drew_eq]
      go_wp2_with fail
      refine (script_hex (HBT.out.drewN 1) HL.out.bt).mono ?_
      rintro e w5 ⟨rfl, hu5⟩
      have U5 := Lib.hid (((Upd.refl [] w4).drewN 1).trans hu5 (by simp)); clear hu5
      have cc0 : w5.cell? ⟨wb, 0, none⟩ = some (.slice A4 n4 ca4) := (World.cell?_of_block (U5.out.block _ (World.block_lt_of_cell? _ _ c0) (by simp))).trans c0
      have cc7 : w5.cell? ⟨w.heap.size, 7, none⟩ = some (.slice p.ab a.bytes.length p.cb) := (World.cell?_of_block (U5.out.block _ (World.block_lt_of_cell? _ _ f7) (by simp))).trans f7
      go_wp2_with fail
      refine ⟨_, fun _ h => h, ⟨cc0, cc7⟩, ?_⟩
      apply proc_eff
      case ho => simp only [List.getElem?_toArray, List.getElem?_cons_succ, List.getElem?_cons_zero]; rfl
      go_wp2_with fail
      have U6 := Lib.hid (U5.out.alloc (.cells #[strV (hexS a.bytes)] 9))
      have H6 := Lib.hid (S4.out.at_.upd U6.out (by simp) (by simp))
      clear cc0 cc7
      have cc0 : (w5.alloc (.cells #[strV (hexS a.bytes)] 9)).cell? ⟨wb, 0, none⟩ = some (.slice A4 n4 ca4) := (World.cell?_of_block (U6.out.block _ (World.block_lt_of_cell? _ _ c0) (by simp))).trans c0
      have cc7 : (w5.alloc (.cells #[strV (hexS a.bytes)] 9)).cell? ⟨w.heap.size, 7, none⟩ = some (.slice p.ab a.bytes.length p.cb) := (World.cell?_of_block (U6.out.block _ (World.block_lt_of_cell? _ _ f7) (by simp))).trans f7
      refine ⟨_, fun _ h => h, ⟨cc0, cc7⟩, ?_⟩
      apply proc_eff
      case ho => simp only [List.getElem?_toArray, List.getElem?_cons_succ, List.getElem?_cons_zero]; rfl
      have hown6 := H6.out.own
      rw [← HN4.out] at hown6
      refine wpList_append_src _ rfl (.tmp 49) (.tmp 53) 58 rfl w.heap.size 9 i0 (.string ⟨#[]⟩) 1 16 Tryd.underlying58 hi hz0 hz1 hz2 rfl (by decide) (.slice A4 n4 ca4) n4 (([opS a.op] ++ (intsW [a.id]).1).map strV) rfl hown6 (some ⟨w5.heap.size, 0, none⟩) 1 1 [strV (hexS a.bytes)] rfl (by simp) (cellsAt_new _ _ _) (by simp [strV, Value.oneCell']) (by unfold maxLen; omega) (by omega) (Nat.le_trans (Nat.le_trans hb3 S4.out.upd.size) U6.out.size) ?_
      intro v7 w7 hown7 hg7 hat7
      obtain ⟨A7, cb7, rfl⟩ := own_slice hown7
      have ug7 := (Upd.refl (Value.slice A4 n4 ca4).ownBlock.toList _).grown hg7 (fun k hk => .inr (by simp [hk]))
      have hb7 := (ug7.block wb (Array.getElem?_eq_some_iff.1 H6.out.hb).1 (fun hm => by
        have h1 : (Value.slice A4 n4 ca4).ownBlock = some wb := by simpa using hm
        rw [HN4.out] at h1
        exact H6.out.ne wb h1 rfl)).trans H6.out.hb
      have g7 : w7.cell? ⟨w.heap.size, 7, none⟩ = some (.slice p.ab a.bytes.length p.cb) := (World.cell?_of_block (ug7.block _ (World.block_lt_of_cell? _ _ cc7) (fun hm => by
        have h1 : (Value.slice A4 n4 ca4).ownBlock = some w.heap.size := by simpa using hm
        rw [HN4.out] at h1
        rcases S4.out.own _ h1 with h2 | h2
        · have := hv0w _ h2; omega
        · omega))).trans cc7
      rw [HN4.out] at hown7 hg7 hat7
      have hp := S4.out.at_.push (hexS a.bytes) U6.out hown7 hg7 hat7
      have d0 := cell_of (i := 0) hb7 rfl
      have e0 : w7.frozen? ⟨wb, 0, none⟩ = false := free_of hb7
      simp only [List.getElem_toArray, List.getElem_cons_zero] at d0
      have hp2 := S4.out.trans hp
      rw [← HN4.out] at hp2 d0
      have HP := Lib.hid hp2; clear hp hp2 hown7 hg7 hat7 hb7 ug7 hown6
      clear cc0 cc7
      go_wp2_with fail
      refine ⟨_, fun _ h => h, ⟨d0, g7⟩, ?_⟩
      repeat
        (first
          | (apply proc_held
             case ho => simp only [List.getElem?_toArray, List.getElem?_cons_succ, List.getElem?_cons_zero]; rfl
             case hg => rfl
             case hv => intro W hW; (try dsimp only at hW); go_simp; rfl
             case ha => go_simp; rfl)
          | (apply proc_held_on
             case ho => simp only [List.getElem?_toArray, List.getElem?_cons_succ, List.getElem?_cons_zero]; rfl
             case hg => rfl
             case hv => intro W hW; (try dsimp only at hW); go_simp; rfl
             case ha => go_simp; rfl)
          | (apply proc_off
             case ho => simp only [List.getElem?_toArray, List.getElem?_cons_succ, List.getElem?_cons_zero]; rfl
             case hg => rfl
             case ha => go_simp; rfl))
      apply proc_last
      case ho => simp only [List.getElem?_toArray, List.getElem?_cons_succ, List.getElem?_cons_zero]; rfl
      go_wp2_with fail
      refine ⟨fun _ => True, trivial, ?_⟩
      refine proc_nil ?_
      go_wp2_with fail
      go_meet
      case rel =>
        rw [HWA.out]
        exact ⟨_, by simpa only [List.append_assoc, Bool.not_and, Bool.false_or] using HP.out⟩
    by_cases h14 : a.op = 14
    · have HWA : Hid (actW a = intsW [a.id, a.n]) := Lib.hid (by simp [actW, h14])
      have b1 : (a.op == 1) = false := by rw [h14]; rfl
      have b9 : (a.op == 9) = false := by rw [h14]; rfl
      have b2 : (a.op == 2) = false := by rw [h14]; rfl
      have b3 : (a.op == 3) = false := by rw [h14]; rfl
      have b8 : (a.op == 8) = false := by rw [h14]; rfl
      have b10 : (a.op == 10) = false := by rw [h14]; rfl
      have b11 : (a.op == 11) = false := by rw [h14]; rfl
      have b14 : (a.op == 14) = true := by rw [h14]; rfl
      clear h14
      have f1 : w3.cell? ⟨w.heap.size, 1, none⟩ = some (.int .i64 a.id) := cell_of (i := 1) (BLK.out _ _ _ _ S3.out) rfl
      have f2 : w3.cell? ⟨w.heap.size, 2, none⟩ = some (.int .i64 a.n) := cell_of (i := 2) (BLK.out _ _ _ _ S3.out) rfl
      go_wp2_with fail
      have q := ints_new_step S3.out (ENV.out _ _ _ _ S3.out) hb3 (by first | (simp; done) | (simp; omega) | omega) hg 3 [a.id, a.n] 2 rfl (by simp) (by simp; have := HL.out.id; have := HL.out.st; have := HL.out.n; unfold i64R at *; omega)
      refine q.mono ?_
      clear q
      rintro e w4 ⟨rfl, vw4, hst⟩
      have S4 := Lib.hid hst; clear hst
      go_wp2_with fail
      go_meet
      case rel =>
        rw [HWA.out]
        exact ⟨_, by simpa [intsW, hdrsW] using S4.out⟩
    by_cases h4 : a.op = 4
    · have HWA : Hid (actW a = intsW [a.id]) := Lib.hid (by simp [actW, h4])
      have b1 : (a.op == 1) = false := by rw [h4]; rfl
      have b9 : (a.op == 9) = false := by rw [h4]; rfl
      have b2 : (a.op == 2) = false := by rw [h4]; rfl
      have b3 : (a.op == 3) = false := by rw [h4]; rfl
      have b8 : (a.op == 8) = false := by rw [h4]; rfl
      have b10 : (a.op == 10) = false := by rw [h4]; rfl
      have b11 : (a.op == 11) = false := by rw [h4]; rfl
      have b14 : (a.op == 14) = false := by rw [h4]; rfl
      have b4 : (a.op == 4) = true := by rw [h4]; rfl
      clear h4
      have f1 : w3.cell? ⟨w.heap.size, 1, none⟩ = some (.int .i64 a.id) := cell_of (i := 1) (BLK.out _ _ _ _ S3.out) rfl
      go_wp2_with fail
      have q := ints_new_step S3.out (ENV.out _ _ _ _ S3.out) hb3 (by first | (simp; done) | (simp; omega) | omega) hg 3 [a.id] 1 rfl (by simp) (by simp; have := HL.out.id; have := HL.out.st; have := HL.out.n; unfold i64R at *; omega)
      refine q.mono ?_
      clear q
      rintro e w4 ⟨rfl, vw4, hst⟩
      have S4 := Lib.hid hst; clear hst
      go_wp2_with fail
      go_meet
      case rel =>
        rw [HWA.out]
        exact ⟨_, by simpa [intsW, hdrsW] using S4.out⟩
    by_cases h5 : a.op = 5
    · have HWA : Hid (actW a = intsW [a.id]) := Lib.hid (by simp [actW, h5])
      have b1 : (a.op == 1) = false := by rw [h5]; rfl
      have b9 : (a.op == 9) = false := by rw [h5]; rfl
      have b2 : (a.op == 2) = false := by rw [h5]; rfl
      have b3 : (a.op == 3) = false := by rw [h5]; rfl
      have b8 : (a.op == 8) = false := by rw [h5]; rfl
      have b10 : (a.op == 10) = false := by rw [h5]; rfl
      have b11 : (a.op == 11) = false := by rw [h5]; rfl
      have b14 : (a.op == 14) = false := by rw [h5]; rfl
      have b4 : (a.op == 4) = false := by rw [h5]; rfl
      have b5 : (a.op == 5) = true := by rw [h5]; rfl
      clear h5
      have f1 : w3.cell? ⟨w.heap.size, 1, none⟩ = some (.int .i64 a.id) := cell_of (i := 1) (BLK.out _ _ _ _ S3.out) rfl
      go_wp2_with fail
      have q := ints_new_step S3.out (ENV.out _ _ _ _ S3.out) hb3 (by first | (simp; done) | (simp; omega) | omega) hg 3 [a.id] 1 rfl (by simp) (by simp; have := HL.out.id; have := HL.out.st; have := HL.out.n; unfold i64R at *; omega)
      refine q.mono ?_
      clear q
      rintro e w4 ⟨rfl, vw4, hst⟩
      have S4 := Lib.hid hst; clear hst
      go_wp2_with fail
      go_meet
      case rel =>
        rw [HWA.out]
        exact ⟨_, by simpa [intsW, hdrsW] using S4.out⟩
    by_cases h6 : a.op = 6
    · have HWA : Hid (actW a = intsW [a.id]) := Lib.hid (by simp [actW, h6])
      have b1 : (a.op == 1) = false := by rw [h6]; rfl
      have b9 : (a.op == 9) = false := by rw [h6]; rfl
      have b2 : (a.op == 2) = false := by rw [h6]; rfl
      have b3 : (a.op == 3) = false := by rw [h6]; rfl
      have b8 : (a.op == 8) = false := by rw [h6]; rfl
      have b10 : (a.op == 10) = false := by rw [h6]; rfl
      have b11 : (a.op == 11) = false := by rw [h6]; rfl
      have b14 : (a.op == 14) = false := by rw [h6]; rfl
      have b4 : (a.op == 4) = false := by rw [h6]; rfl
      have b5 : (a.op == 5) = false := by rw [h6]; rfl
      have b6 : (a.op == 6) = true := by rw [h6]; rfl
      clear h6
      have f1 : w3.cell? ⟨w.heap.size, 1, none⟩ = some (.int .i64 a.id) := cell_of (i := 1) (BLK.out _ _ _ _ S3.out) rfl
      go_wp2_with fail
      have q := ints_new_step S3.out (ENV.out _ _ _ _ S3.out) hb3 (by first | (simp; done) | (simp; omega) | omega) hg 3 [a.id] 1 rfl (by simp) (by simp; have := HL.out.id; have := HL.out.st; have := HL.out.n; unfold i64R at *; omega)
      refine q.mono ?_
      clear q
      rintro e w4 ⟨rfl, vw4, hst⟩
      have S4 := Lib.hid hst; clear hst
      go_wp2_with fail
      go_meet
      case rel =>
        rw [HWA.out]
        exact ⟨_, by simpa [intsW, hdrsW] using S4.out⟩
    by_cases h7 : a.op = 7
    · have HWA : Hid (actW a = intsW [a.id]) := Lib.hid (by simp [actW, h7])
      have b1 : (a.op == 1) = false := by rw [h7]; rfl
      have b9 : (a.op == 9) = false := by rw [h7]; rfl
      have b2 : (a.op == 2) = false := by rw [h7]; rfl
      have b3 : (a.op == 3) = false := by rw [h7]; rfl
      have b8 : (a.op == 8) = false := by rw [h7]; rfl
      have b10 : (a.op == 10) = false := by rw [h7]; rfl
      have b11 : (a.op == 11) = false := by rw [h7]; rfl
      have b14 : (a.op == 14) = false := by rw [h7]; rfl
      have b4 : (a.op == 4) = false := by rw [h7]; rfl
      have b5 : (a.op == 5) = false := by rw [h7]; rfl
      have b6 : (a.op == 6) = false := by rw [h7]; rfl
      have b7 : (a.op == 7) = true := by rw [h7]; rfl
      clear h7
      have f1 : w3.cell? ⟨w.heap.size, 1, none⟩ = some (.int .i64 a.id) := cell_of (i := 1) (BLK.out _ _ _ _ S3.out) rfl
      go_wp2_with fail
      have q := ints_new_step S3.out (ENV.out _ _ _ _ S3.out) hb3 (by first | (simp; done) | (simp; omega) | omega) hg 3 [a.id] 1 rfl (by simp) (by simp; have := HL.out.id; have := HL.out.st; have := HL.out.n; unfold i64R at *; omega)
      refine q.mono ?_
      clear q
      rintro e w4 ⟨rfl, vw4, hst⟩
      have S4 := Lib.hid hst; clear hst
      go_wp2_with fail
      go_meet
      case rel =>
        rw [HWA.out]
        exact ⟨_, by simpa [intsW, hdrsW] using S4.out⟩
    by_cases h12 : a.op = 12
    · have HWA : Hid (actW a = intsW [a.id]) := Lib.hid (by simp [actW, h12])
      have b1 : (a.op == 1) = false := by rw [h12]; rfl
      have b9 : (a.op == 9) = false := by rw [h12]; rfl
      have b2 : (a.op == 2) = false := by rw [h12]; rfl
      have b3 : (a.op == 3) = false := by rw [h12]; rfl
      have b8 : (a.op == 8) = false := by rw [h12]; rfl
      have b10 : (a.op == 10) = false := by rw [h12]; rfl
      have b11 : (a.op == 11) = false := by rw [h12]; rfl
      have b14 : (a.op == 14) = false := by rw [h12]; rfl
      have b4 : (a.op == 4) = false := by rw [h12]; rfl
      have b5 : (a.op == 5) = false := by rw [h12]; rfl
      have b6 : (a.op == 6) = false := by rw [h12]; rfl
      have b7 : (a.op == 7) = false := by rw [h12]; rfl
      have b12 : (a.op == 12) = true := by rw [h12]; rfl
      clear h12
      have f1 : w3.cell? ⟨w.heap.size, 1, none⟩ = some (.int .i64 a.id) := cell_of (i := 1) (BLK.out _ _ _ _ S3.out) rfl
      go_wp2_with fail
      have q := ints_new_step S3.out (ENV.out _ _ _ _ S3.out) hb3 (by first | (simp; done) | (simp; omega) | omega) hg 3 [a.id] 1 rfl (by simp) (by simp; have := HL.out.id; have := HL.out.st; have := HL.out.n; unfold i64R at *; omega)
      refine q.mono ?_
      clear q
      rintro e w4 ⟨rfl, vw4, hst⟩
      have S4 := Lib.hid hst; clear hst
      go_wp2_with fail
      go_meet
      case rel =>
        rw [HWA.out]
        exact ⟨_, by simpa [intsW, hdrsW] using S4.out⟩
    by_cases h13 : a.op = 13
    · have HWA : Hid (actW a = intsW [a.id]) := Lib.hid (by simp [actW, h13])
      have b1 : (a.op == 1) = false := by rw [h13]; rfl
      have b9 : (a.op == 9) = false := by rw [h13]; rfl
      have b2 : (a.op == 2) = false := by rw [h13]; rfl
      have b3 : (a.op == 3) = false := by rw [h13]; rfl
      have b8 : (a.op == 8) = false := by rw [h13]; rfl
      have b10 : (a.op == 10) = false := by rw [h13]; rfl
      have b11 : (a.op == 11) = false := by rw [h13]; rfl
      have b14 : (a.op == 14) = false := by rw [h13]; rfl
      have b4 : (a.op == 4) = false := by rw [h13]; rfl
      have b5 : (a.op == 5) = false := by rw [h13]; rfl
      have b6 : (a.op == 6) = false := by rw [h13]; rfl
      have b7 : (a.op == 7) = false := by rw [h13]; rfl
      have b12 : (a.op == 12) = false := by rw [h13]; rfl
      have b13 : (a.op == 13) = true := by rw [h13]; rfl
      clear h13
      have f1 : w3.cell? ⟨w.heap.size, 1, none⟩ = some (.int .i64 a.id) := cell_of (i := 1) (BLK.out _ _ _ _ S3.out) rfl
      go_wp2_with fail
      have q := ints_new_step S3.out (ENV.out _ _ _ _ S3.out) hb3 (by first | (simp; done) | (simp; omega) | omega) hg 3 [a.id] 1 rfl (by simp) (by simp; have := HL.out.id; have := HL.out.st; have := HL.out.n; unfold i64R at *; omega)
      refine q.mono ?_
      clear q
      rintro e w4 ⟨rfl, vw4, hst⟩
      have S4 := Lib.hid hst; clear hst
      go_wp2_with fail
      go_meet
      case rel =>
        rw [HWA.out]
        exact ⟨_, by simpa [intsW, hdrsW] using S4.out⟩
    have HWA : Hid (actW a = ([], false)) := Lib.hid (by simp [actW, h1, h2, h3, h4, h5, h6, h7, h8, h9, h10, h11, h12, h13, h14])
    have b1 : (a.op == 1) = false := by rw [beq_eq_false_iff_ne]; exact h1
    have b9 : (a.op == 9) = false := by rw [beq_eq_false_iff_ne]; exact h9
    have b2 : (a.op == 2) = false := by rw [beq_eq_false_iff_ne]; exact h2
    have b3 : (a.op == 3) = false := by rw [beq_eq_false_iff_ne]; exact h3
    have b8 : (a.op == 8) = false := by rw [beq_eq_false_iff_ne]; exact h8
    have b10 : (a.op == 10) = false := by rw [beq_eq_false_iff_ne]; exact h10
    have b11 : (a.op == 11) = false := by rw [beq_eq_false_iff_ne]; exact h11
    have b14 : (a.op == 14) = false := by rw [beq_eq_false_iff_ne]; exact h14
    have b4 : (a.op == 4) = false := by rw [beq_eq_false_iff_ne]; exact h4
    have b5 : (a.op == 5) = false := by rw [beq_eq_false_iff_ne]; exact h5
    have b6 : (a.op == 6) = false := by rw [beq_eq_false_iff_ne]; exact h6
    have b7 : (a.op == 7) = false := by rw [beq_eq_false_iff_ne]; exact h7
    have b12 : (a.op == 12) = false := by rw [beq_eq_false_iff_ne]; exact h12
    have b13 : (a.op == 13) = false := by rw [beq_eq_false_iff_ne]; exact h13
    clear h1 h9 h2 h3 h8 h10 h11 h14 h4 h5 h6 h7 h12 h13
    have c1 := cell_of (i := 1) S3.out.at_.hb rfl
    have g1 := free_of (i := 1) S3.out.at_.hb
    have S4 := Lib.hid (S3.out.trans (S3.out.at_.setBad true))
    simp only [List.getElem_toArray, List.getElem_cons_zero, List.getElem_cons_succ] at c1
    go_wp2_with fail
    go_meet
    case rel =>
      rw [HWA.out]
      exact ⟨_, by simpa using S4.out⟩
  case rest =>
    obtain ⟨vz, hst⟩ := hcut
    have c1 := cell_of (i := 1) hst.at_.hb rfl
    simp only [List.getElem_toArray, List.getElem_cons_zero, List.getElem_cons_succ] at c1
    have hlen := actW_len HL.out
    obtain ⟨pw, hpw⟩ : ∃ pw, pw = actW a := ⟨_, rfl⟩
    have HPW : Hid (sh = if pw.2 then some (Lib.join (opS a.op :: pw.1) [32]) else none) := Lib.hid (by rw [hpw, HSH.out]; rfl)
    rw [← hpw] at hst c1 hlen
    clear hpw
    have hfin : Upd [] w wc := Upd.weaken (F := wb :: v0.ownBlock.toList) (Upd.trans (F := wb :: v0.ownBlock.toList) (HW3U.out.weaken (by simp)) hst.upd (fun x hx => .inr hx)) (fun x hx => by
      rcases List.mem_cons.1 hx with rfl | hx
      · left; omega
      · have := hv0w x (by simpa using hx); left; omega)
    have HF := Lib.hid hfin; clear hfin
    obtain ⟨ws, ok⟩ := pw
    obtain ⟨Az, cz, rfl⟩ := hst.at_.slice
    have c0 := cell_of (i := 0) hst.at_.hb rfl
    simp only [List.getElem_toArray, List.getElem_cons_zero, List.getElem_cons_succ] at c0
    have HST := Lib.hid hst; have HLEN := Lib.hid hlen
    clear hst hlen
    cases ok
    · go_wp2_with fail
      go_ret2
      refine ⟨?_, HF.out⟩
      rw [HTX.out, HEN.out, HPW.out]
      rfl
    · obtain ⟨g, hg1⟩ : ∃ g, Az = some ⟨g, 0, none⟩ := by
        rcases HST.out.at_.own.2 with ⟨_, h0⟩ | ⟨g, cap, cur, hv, _⟩
        · simp at h0
        · injection hv with hv
          exact ⟨g, hv⟩
      subst hg1
      have hcells : ∀ (j : Nat) (x : ByteArray), ((opS a.op :: ws).map (fun x => (⟨x.toArray⟩ : ByteArray)))[j]? = some x → wc.cell? ⟨g, 0 + j, none⟩ = some (.string x) := by
        intro j x hj
        rw [List.getElem?_map] at hj
        obtain ⟨y, hy, rfl⟩ := Option.map_eq_some_iff.1 hj
        exact own_str HST.out.at_.own j y (by simpa using hy)
      have hglt : g < wc.heap.size := own_lt HST.out.at_.own g rfl
      have hcap := own_cap HST.out.at_.own
      have hmap : ((opS a.op :: ws).map (fun x => (⟨x.toArray⟩ : ByteArray))).map (·.data.toList) = opS a.op :: ws := by
        rw [List.map_map]; exact List.map_id _
      have hop : (opS a.op).length ≤ 4000000 := by
        have := opS_le a.op; omega
      have hjl := join_le (ws := opS a.op :: ws) (M := 4000000) (fun y hy => by
        rcases List.mem_cons.1 hy with rfl | hy
        · exact hop
        · exact HLEN.out.2 y hy)
      have hjn := HLEN.out.1
      have hJ := Tryd.strings_Join g 0 cz ((opS a.op :: ws).map (fun x => (⟨x.toArray⟩ : ByteArray))) ⟨#[32]⟩ wc hcells hglt (by simp only [List.length_map, List.length_cons]; simp only at hjn; omega) (by simpa using hcap) (by rw [hmap]; simp only [List.length_cons] at hjl hjn ⊢; have : (Lib.join (opS a.op :: ws) [32]).length ≤ (ws.length + 1) * (4000000 + 1) := hjl; show (Lib.join (opS a.op :: ws) [32]).length ≤ _; omega)
      rw [hmap] at hJ
      have hJl : ((opS a.op :: ws).map (fun x => (⟨x.toArray⟩ : ByteArray))).length = ws.length + 1 := by simp
      rw [hJl] at hJ
      have HJ := Lib.hid hJ
      clear hJ hcells hjl hmap hJl
      go_wp2_with fail
      refine HJ.out.mono ?_
      rintro e w9 ⟨rfl, hbw⟩
      go_wp2_with fail
      go_ret2
      refine ⟨?_, HF.out.trans_of ⟨hbw.os, hbw.tape, hbw.output, hbw.size, fun x hx _ => hbw.block x hx⟩⟩
      rw [HTX.out, HEN.out, HPW.out]
      rfl
end Go.Proofs.YtajoldboafkpdaaDoor
