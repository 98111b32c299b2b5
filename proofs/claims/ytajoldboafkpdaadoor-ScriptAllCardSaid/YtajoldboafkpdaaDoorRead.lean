-- script.Read: contract.
import Derived.Test.YtajoldboafkpdaaDoorParseLim
namespace Go.Proofs.YtajoldboafkpdaaDoor
set_option linter.unusedSimpArgs false
set_option linter.unusedVariables false
open Go.RowKit Go.Lk
def p0 : ActP := ⟨none, 0, none, 0, none, 0, none, 0⟩
theorem ActAt.zero (w : World) (op : Int) : ActAt w { ActL.zero with op := op } p0 :=
  ⟨IntsAt.nil _ _, HdrsAt.nil _ _, BytesAt.nil _ _, Nat.le_refl _, HdrsAt.nil _ _⟩
theorem StrsAt.new (w : World) (T : TypeId) (xs : List ByteArray) : StrsAt (w.alloc (.cells (xs.map Value.string).toArray T)) (some ⟨w.heap.size, 0, none⟩) (xs.map (·.data.toList)) := fun j x hj => by
  rw [List.getElem?_map] at hj
  obtain ⟨y, hy, rfl⟩ := Option.map_eq_some_iff.1 hj
  refine ⟨w.heap.size, 0, rfl, ?_⟩
  rw [Nat.zero_add]
  exact cell_of (heap_alloc_self _) (by simp [hy])
/-- Behind strings.Split: the words, as cells. -/
structure SplitAt (w : World) (tb : Nat) (ws : List Bs) : Prop where
  at_ : StrsAt w (some ⟨tb, 0, none⟩) ws
  lt : tb < w.heap.size
theorem split_call {w : World} (hE : Env w) (s : Bs) (hs : s.length ≤ 900000) :
    Calls Tryd.prog 31 #[.string ⟨s.toArray⟩, .string ⟨#[32]⟩] w fun e w' => e = .returned (.slice (some ⟨w.heap.size, 0, none⟩) (Lib.split s [32]).length (Lib.split s [32]).length) ∧ SplitAt w' w.heap.size (Lib.split s [32]) ∧ Upd [] w w' := by
  obtain ⟨m, hm⟩ := hE.m
  have h := Tryd.strings_Split ⟨s.toArray⟩ ⟨#[32]⟩ m w (by simp [ByteArray.size]; omega) hm (by decide)
  have hd := Lib.splitB_data ⟨#[32]⟩ 0 (Lib.countB ⟨s.toArray⟩ ⟨#[32]⟩) ⟨s.toArray⟩
  have hl := Lib.splitB_all ⟨#[32]⟩ (by decide) 0 _ ⟨s.toArray⟩ rfl
  have hsp : (Lib.splitB ⟨#[32]⟩ 0 (Lib.countB ⟨s.toArray⟩ ⟨#[32]⟩) ⟨s.toArray⟩).map (·.data.toList) = Lib.split s [32] := hd
  have hln : Lib.countB ⟨s.toArray⟩ ⟨#[32]⟩ + 1 = (Lib.split s [32]).length := by rw [← hsp, List.length_map, hl]
  refine h.mono ?_
  rintro e w' ⟨rfl, rfl⟩
  rw [hln]
  refine ⟨rfl, ⟨?_, by simp⟩, (Upd.refl [] w).alloc _⟩
  have := StrsAt.new w 9 (Lib.splitB ⟨#[32]⟩ 0 (Lib.countB ⟨s.toArray⟩ ⟨#[32]⟩) ⟨s.toArray⟩)
  rw [hsp] at this
  exact this
def ActP.blocks (p : ActP) : List Nat := (p.ai.map (·.block)).toList ++ (p.ah.map (·.block)).toList ++ (p.ab.map (·.block)).toList ++ (p.ar.map (·.block)).toList
theorem ActAt.upd2 {w w1 : World} {a : ActL} {p : ActP} {F : List Nat} (h : ActAt w a p) (hu : Upd F w w1) (hF : ∀ k ∈ p.blocks, k ∉ F) : ActAt w1 a p :=
  ⟨h.ids.upd hu (fun bb ao e => hF bb (by simp [ActP.blocks, e])), h.hds.upd hu (fun bb ao e => hF bb (by simp [ActP.blocks, e])), h.bts.upd hu (fun bb ao e => hF bb (by simp [ActP.blocks, e])), h.bcp, h.rhd.upd hu (fun bb ao e => hF bb (by simp [ActP.blocks, e]))⟩
theorem ints_own {w : World} {base n c : Nat} {A : Option Addr} {T : TypeId} {l : List Int} (h : w.ownsRow base T 1 (.slice A n c) n (l.map (Value.int .i64))) : n = l.length ∧ IntsAt w A l ∧ (∀ k ∈ (A.map (·.block)).toList, base ≤ k) := by
  refine ⟨by have := h.1; simp at this; omega, ?_, fun k hk => ?_⟩
  · intro j x hj
    obtain ⟨hl, ⟨h0, h1⟩ | ⟨g', cap, cur, hv, hb, hh, hnc, hcm, hsz, ht⟩⟩ := h
    · simp at hl
      have := (List.getElem?_eq_some_iff.1 hj).1
      omega
    · injection hv with hv
      refine ⟨g', 0, hv, ?_⟩
      rw [Nat.zero_add]
      refine cell_of hh ?_
      have h1 : (l.map (Value.int .i64))[j]? = some (.int .i64 x) := by rw [List.getElem?_map, hj]; rfl
      rw [← ht] at h1
      rw [← Array.getElem?_toList]
      have hlt : j < n * 1 := by
        have := (List.getElem?_eq_some_iff.1 h1).1
        rw [List.length_take] at this; omega
      rw [List.getElem?_take_of_lt hlt] at h1
      exact h1
  · cases A with
    | none => simp at hk
    | some a =>
      simp at hk; subst hk
      exact own_ge h _ rfl
theorem hdrs_own {w : World} {base n c : Nat} {A : Option Addr} {T : TypeId} {l : List (Bs × Bs)} (h : w.ownsRow base T 2 (.slice A n c) n (hdrCells l)) : n = l.length ∧ HdrsAt w A l ∧ (∀ k ∈ (A.map (·.block)).toList, base ≤ k) := by
  have hn : n = l.length := by have := h.1; rw [hdrCells_length] at this; omega
  refine ⟨hn, ?_, fun k hk => ?_⟩
  · intro j x hj
    have hjl := (List.getElem?_eq_some_iff.1 hj).1
    have hcell : ∀ i, i < 2 → (hdrCells l)[j * 2 + i]? = [strV x.1, strV x.2][i]? := by
      intro i hi
      have h1 : l = l.take j ++ x :: l.drop (j + 1) := by
        have hx := (List.getElem?_eq_some_iff.1 hj).2
        rw [← hx, ← List.drop_eq_getElem_cons hjl, List.take_append_drop]
      rw [h1, hdrCells_append]
      have h2 : (hdrCells (l.take j)).length = j * 2 := by rw [hdrCells_length, List.length_take]; omega
      rw [List.getElem?_append_right (by omega), h2, Nat.add_sub_cancel_left]
      rcases (show i = 0 ∨ i = 1 by omega) with rfl | rfl <;> rfl
    obtain ⟨hl, ⟨h0, h1⟩ | ⟨g', cap, cur, hv, hb, hh, hnc, hcm, hsz, ht⟩⟩ := h
    · omega
    · injection hv with hv
      have key : ∀ i, i < 2 → ∀ v, [strV x.1, strV x.2][i]? = some v → w.cell? ⟨g', j * 2 + i, none⟩ = some v := by
        intro i hi v hv2
        refine cell_of hh ?_
        have h3 := hcell i hi
        rw [hv2, ← ht] at h3
        rw [← Array.getElem?_toList]
        rw [List.getElem?_take_of_lt (by omega)] at h3
        exact h3
      refine ⟨g', 0, hv, ?_, ?_⟩
      · rw [Nat.zero_add]; exact key 0 (by omega) _ rfl
      · rw [Nat.zero_add]; exact key 1 (by omega) _ rfl
  · cases A with
    | none => simp at hk
    | some a =>
      simp at hk; subst hk
      exact own_ge h _ rfl
theorem opOfS_i64 (x : Bs) : i64R (opOfS x) := by
  unfold opOfS i64R
  cases h : opW.findIdx? (· == x) with
  | none => simp
  | some i =>
    have hi : i < opW.length := by
      rw [List.findIdx?_eq_some_iff_getElem] at h
      exact h.1
    have : i < 14 := hi
    simp only
    omega
set_option maxRecDepth 100000 in
set_option maxHeartbeats 6400000 in
theorem script_read_new {w : World} (s : Bs) (hs : s.length ≤ 900000) (hE : Env w) :
    Calls Tryd.prog 12 #[.string ⟨s.toArray⟩] w fun e w' => ∃ p, e = .returned (.tuple #[actV ((readS s).getD ActL.zero) p, .int .i64 (if (readS s).isSome then 0 else 3)]) ∧ ActAt w' ((readS s).getD ActL.zero) p ∧ (∀ k ∈ p.blocks, w.heap.size ≤ k) ∧ Upd [] w w' := by
  obtain ⟨rr, hrr⟩ : ∃ rr, rr = readS s := ⟨_, rfl⟩
  have HRR := Lib.hid hrr
  rw [← hrr]
  clear hrr
  obtain ⟨ra, hra⟩ : ∃ ra, ra = rr.getD ActL.zero := ⟨_, rfl⟩
  obtain ⟨en, hen⟩ : ∃ en : Int, en = if rr.isSome then 0 else 3 := ⟨_, rfl⟩
  have HRA := Lib.hid hra; have HEN := Lib.hid hen
  rw [← hra, ← hen]
  clear hra hen
  obtain ⟨w1, hw1⟩ : ∃ w1, w1 = w.alloc (.cells #[.int .i64 0, .int .i64 0, .int .i64 0, .slice none 0 0, .int .u64 0, .int .i64 0, .slice none 0 0, .slice none 0 0, .string ⟨#[]⟩, .string ⟨#[]⟩, .string ⟨#[]⟩, .int .i64 0, .bool false, .slice none 0 0, .int .i64 0, .int .u64 0, .int .i64 0, .int .i64 0] 29) := ⟨_, rfl⟩
  have hbx : w1.heap[w.heap.size]? = some (.cells (actCells ActL.zero p0).toArray 29) := by rw [hw1]; exact heap_alloc_self _
  have hu : Upd [] w w1 := by rw [hw1]; exact (Upd.refl [] w).alloc _
  have hsz : w1.heap.size = w.heap.size + 1 := by rw [hw1]; simp
  have HBX := Lib.hid hbx; have HW1 := Lib.hid hw1; have HU := Lib.hid hu; have HE := Lib.hid hE; have HSZ := Lib.hid hsz; clear hbx hw1 hu hE hsz
  have hlim := rdLim_split hs
  have hne : Lib.split s [32] ≠ [] := splitK_ne _ _ _
  have HQ := Lib.hid (split_call (HE.out.upd0 HU.out) s hs)
  obtain ⟨x, ws, hws⟩ : ∃ x ws, Lib.split s [32] = x :: ws := by
    cases h : Lib.split s [32] with
    | nil => exact absurd h hne
    | cons x ws => exact ⟨x, ws, rfl⟩
  have hxl : x.length ≤ 900000 := by have := (split_lim s).2 x (by rw [hws]; simp); omega
  rw [hws] at hlim HQ
  simp only [List.drop_succ_cons, List.drop_zero] at hlim
  have HWS := Lib.hid hws
  clear hws hne
  have hrs : readS s = if showS (parseS (opOfS x) ws) = some s then some (parseS (opOfS x) ws) else none := by
    unfold readS
    rw [HWS.out]
    rfl
  have HRS := Lib.hid (HRR.out.trans hrs); clear hrs HRR
  go_enter Tryd.func12, Tryd.ntmps12
  go_wp2_with fail
  rw [← HW1.out]
  refine HQ.out.mono ?_
  rintro e w2 ⟨rfl, hsp, hu2⟩
  obtain ⟨tb, htb⟩ : ∃ tb, tb = w1.heap.size := ⟨_, rfl⟩
  rw [← htb] at hsp
  have HSP := Lib.hid hsp; have HU2 := Lib.hid hu2
  clear hsp hu2
  have htbw : w.heap.size < tb := by have := HSZ.out; omega
  rw [← htb]
  have HTB := Lib.hid htb; clear htb
  obtain ⟨bb, ao, hb1, hcell0⟩ := HSP.out.at_ 0 x rfl
  injection hb1 with hb1
  injection hb1 with hb1 hb2
  subst hb1 hb2
  rw [Nat.add_zero] at hcell0
  go_wp2_with fail
  obtain ⟨op, hop⟩ : ∃ op, op = opOfS x := ⟨_, rfl⟩
  refine (script_opOf x w2).mono ?_
  rintro e w3 ⟨rfl, hu3⟩
  rw [← hop]
  have HOP := Lib.hid hop
  have HU3 := Lib.hid hu3
  clear hop hu3 hcell0
  have hag : aggOf Tryd.prog 29 18 = true := by kernel_rfl
  have hag1 : aggOf Tryd.prog 29 (actCells { ActL.zero with op := op } p0).toArray.size = true := hag
  have hz1 : (w3.alloc (.cells #[.int .i64 0, .int .i64 0, .int .i64 0, .slice none 0 0, .int .u64 0, .int .i64 0, .slice none 0 0, .slice none 0 0, .string ⟨#[]⟩, .string ⟨#[]⟩, .string ⟨#[]⟩, .int .i64 0, .bool false, .slice none 0 0, .int .i64 0, .int .u64 0, .int .i64 0, .int .i64 0] 29)).heap[w3.heap.size]? = some (.cells (actCells ActL.zero p0).toArray 29) := heap_alloc_self _
  have hz2 : (actCells ActL.zero p0).toArray.size = (actCells { ActL.zero with op := op } p0).toArray.size := rfl
  have hz3 : (actCells { ActL.zero with op := op } p0).toArray.all (·.oneCell') = true := by simp [actCells, Value.oneCell']
  have HAG1 := Lib.hid hag1; have HZ1 := Lib.hid hz1; have HZ2 := Lib.hid hz2; have HZ3 := Lib.hid hz3
  clear hag1 hz1 hz2 hz3
  go_upto_region 3 with (refine wpList_store_agg _ rfl 29 (.tmp 5) (.tmp 15) rfl w3.heap.size (actCells { ActL.zero with op := op } p0).toArray (actCells ActL.zero p0).toArray 29 rfl rfl HAG1.out HZ1.out HZ2.out HZ3.out ?_)
  obtain ⟨ab, hab⟩ : ∃ ab, ab = w3.heap.size := ⟨_, rfl⟩
  obtain ⟨w4, hw4⟩ : ∃ w4, w4 = (w3.alloc (.cells #[.int .i64 0, .int .i64 0, .int .i64 0, .slice none 0 0, .int .u64 0, .int .i64 0, .slice none 0 0, .slice none 0 0, .string ⟨#[]⟩, .string ⟨#[]⟩, .string ⟨#[]⟩, .int .i64 0, .bool false, .slice none 0 0, .int .i64 0, .int .u64 0, .int .i64 0, .int .i64 0] 29)).setRow w3.heap.size (actCells { ActL.zero with op := op } p0).toArray := ⟨_, rfl⟩
  have h4 : w4.heap[ab]? = some (.cells (actCells { ActL.zero with op := op } p0).toArray 29) := by rw [hw4, hab]; exact setRow_heap _ _ _ _ _ _ HZ1.out
  have u4 : Upd [] w3 w4 := by rw [hw4]; exact ((Upd.refl [] w3).alloc _).setRow (.inl (Nat.le_refl _)) _
  have s4 : w4.heap.size = ab + 1 := by rw [hw4, hab]; simp
  rw [← hw4, ← hab]
  have H4 := Lib.hid h4; have U4 := Lib.hid u4; have S4 := Lib.hid s4; have HAB := Lib.hid hab
  clear h4 u4 s4 hw4 hab
  have hA1 : ∃ A1 : Option Addr, (∀ W, (Instr.sliceAt 58 (.slice (some ⟨tb, 0, none⟩) (ws.length + 1) (ws.length + 1)) (some (.int .i64 1)) none none).run Tryd.prog W = .ok (.slice A1 ws.length ws.length) W) ∧ (ws = [] ∨ A1 = some ⟨tb, 1, none⟩) ∧ (∀ bb ao, A1 = some ⟨bb, ao, none⟩ → bb = tb) := by
    by_cases h0 : ws = []
    · subst h0
      exact ⟨some ⟨tb, 0, none⟩, fun W => by go_simp, .inl rfl, fun bb ao e => by injection e with e; injection e with e; exact e.symm⟩
    · have hl : ws.length ≠ 0 := fun h => h0 (List.eq_nil_of_length_eq_zero h)
      exact ⟨some ⟨tb, 1, none⟩, fun W => by go_simp; intro h; omega, .inr rfl, fun bb ao e => by injection e with e; injection e with e; exact e.symm⟩
  obtain ⟨A1, hsl, hA2, hA3⟩ := hA1
  have HA2 := Lib.hid hA2; have HA3 := Lib.hid hA3; clear hA2 hA3
  have f0 : (w4.alloc (.cells #[.slice A1 ws.length ws.length] 63)).cell? ⟨ab, 0, none⟩ = some (.int .i64 op) := cell_of (i := 0) ((heap_alloc_lt _ (by have := S4.out; omega)).trans H4.out) rfl
  go_upto_block 0 with fail
  obtain ⟨rb, hrb⟩ : ∃ rb, rb = w4.heap.size := ⟨_, rfl⟩
  obtain ⟨w5, hw5⟩ : ∃ w5, w5 = w4.alloc (.cells #[.slice A1 ws.length ws.length] 63) := ⟨_, rfl⟩
  rw [← hw5] at f0
  rw [← hw5, ← hrb]
  have u5 : Upd [] w4 w5 := by rw [hw5]; exact (Upd.refl [] w4).alloc _
  have s5 : w5.heap.size = rb + 1 := by rw [hw5, hrb]; simp
  have sab : ab + 1 = rb := by rw [hrb]; exact S4.out.symm
  have hwab : w.heap.size < tb ∧ tb < ab := by
    have h1 := HSP.out.lt; have h2 := HU3.out.size; have h3 := HAB.out; omega
  have h5 : w5.heap[ab]? = some (.cells (actCells { ActL.zero with op := op } p0).toArray 29) := (u5.block ab (by omega) (by simp)).trans H4.out
  have hrd : RdAt w5 rb tb A1 ws.length ws := by
    refine ⟨by rw [hw5, hrb]; exact heap_alloc_self _, ?_, Nat.le_refl _, HA3.out, by omega⟩
    have h3 : StrsAt w5 (some ⟨tb, 0, none⟩) (x :: ws) := HSP.out.at_.upd ((HU3.out.trans U4.out (by simp)).trans u5 (by simp)) (by simp)
    rcases HA2.out with h0 | h0
    · rw [h0]; exact StrsAt.nil _ _
    · rw [h0]; exact h3.tail
  have uw5 : Upd [] w w5 := (((HU.out.trans HU2.out (by simp)).trans HU3.out (by simp)).trans U4.out (by simp)).trans u5 (by simp)
  have hE5 : Env w5 := HE.out.upd0 uw5
  have hz5 : w5.heap[w.heap.size]? = some (.cells (actCells ActL.zero p0).toArray 29) := ((((HU2.out.trans HU3.out (by simp)).trans U4.out (by simp)).trans u5 (by simp)).block w.heap.size (by have := HSZ.out; omega) (by simp)).trans HBX.out
  have hgab : gfree ab ∧ gfree rb := by have := HE.out.size; unfold gfree; omega
  have hlt5 : tb < w5.heap.size ∧ ab < w5.heap.size ∧ rb < w5.heap.size ∧ w.heap.size < w5.heap.size ∧ tb ≠ ab ∧ tb ≠ rb ∧ ab ≠ rb ∧ w.heap.size ≠ ab ∧ w.heap.size ≠ rb := by omega
  have hlow : w.heap.size ≤ ab ∧ w.heap.size ≤ rb := by omega
  have HSAB := Lib.hid sab
  have H5 := Lib.hid h5; have HRD := Lib.hid (⟨_, _, hrd⟩ : Rd w5 rb tb ws); have UW5 := Lib.hid uw5; have HE5 := Lib.hid hE5; have HZ5 := Lib.hid hz5
  clear h5 hrd uw5 hE5 hz5 u5 s5 sab hw5 hrb hwab hsl
  go_cut [] from 21 to 73 (fun wz => ∃ p, wz.heap[ab]? = some (.cells (actCells (parseS op ws) p).toArray 29) ∧ ActAt wz (parseS op ws) p ∧ (∀ k ∈ p.blocks, w5.heap.size ≤ k) ∧ Upd [ab, rb] w5 wz)
  case first =>
    by_cases h2 : op = 2
    · have HWA : Hid (parseS op ws = { ActL.zero with op := op, ids := ws.map intS }) := Lib.hid (by simp [parseS, h2])
      have b2 : (op == 2) = true := by rw [h2]; rfl
      clear h2
      obtain ⟨i0, hi, hz0, hz1, hz2⟩ := info_parts Tryd.infoInt
      go_wp2_with fail
      go_loopw [] (fun wr => ∃ (k : Nat) (A : Option Addr) (c : Nat), k ≤ ws.length ∧ Rd wr rb tb (ws.drop k) ∧ wr.heap[ab]? = some (.cells (actCells { ActL.zero with op := op, ids := (ws.take k).map intS } { p0 with ai := A, ci := c }).toArray 29) ∧ wr.ownsRow w5.heap.size 3 1 (.slice A k c) k (((ws.take k).map intS).map (Value.int .i64)) ∧ Upd [ab, rb] w5 wr) (fun wr => rdN wr rb)
      case atStart => exact ⟨0, none, 0, by omega, HRD.out, H5.out, World.ownsRow_nil _ _ _ _, Upd.refl _ _⟩
      case round =>
        obtain ⟨k, A, c, hk, hr, hb, hown, hu⟩ := hrel
        obtain ⟨A', c', hra⟩ := hr
        have c0 : wr.cell? ⟨rb, 0, none⟩ = some (.slice A' (ws.length - k) c') := by rw [← List.length_drop]; exact cell_of (i := 0) hra.hb rfl
        have hbl : ((ws.take k).map intS).length = k := by rw [List.length_map, List.length_take]; omega
        have c3 : wr.cell? ⟨ab, 3, none⟩ = some (.slice A k c) := by
          have := cell_of (i := 3) (v := .slice A ((ws.take k).map intS).length c) hb rfl
          rw [hbl] at this; exact this
        have hrn := rdN_eq hra
        rw [List.length_drop] at hrn
        have HRK : Hid (Rd wr rb tb (ws.drop k)) := Lib.hid ⟨_, _, hra⟩
        have HB := Lib.hid hb; have HO := Lib.hid hown; have HU := Lib.hid hu; have HBL := Lib.hid hbl; have HRN := Lib.hid hrn
        clear hra hb hown hu hbl hrn
        by_cases hlt : k < ws.length
        · obtain ⟨y, hy⟩ : ∃ y, y = intS (wd ws k) := ⟨_, rfl⟩
          have htk : (ws.take (k + 1)).map intS = (ws.take k).map intS ++ [y] := by
            rw [List.take_succ_eq_append_getElem hlt, List.map_append, hy]
            simp [wd, List.getD, hlt]
          have HTK := Lib.hid htk; have HY := Lib.hid hy; clear htk hy
          have hpos : ((ws.length - k : Nat) : Int) > 0 := by omega
          go_wp2_with fail
          refine wp_region_proc [(0, 0), (1, 0), (2, 1), (3, 1), (4, 1), (5, 0), (6, 2)] (fun W => W.cell? ⟨ab, 3, none⟩ = some (.slice A k c)) (by kernel_rfl) (by kernel_rfl) (fun c a w t v h => by cases t <;> exact h) c3 ?_
          repeat
            (first
              | (apply proc_held
                 case ho => simp only [List.getElem?_toArray, List.getElem?_cons_succ, List.getElem?_cons_zero]; rfl
                 case hg => rfl
                 case hv => intro W hW; (try dsimp only at hW); go_simp; rfl
                 case ha => go_simp; rfl)
              | (apply proc_held_on
                 case ho => simp only [List.getElem?_toArray, List.getElem?_cons_succ, List.getElem?_cons_zero]; rfl
                 case hg => rfl
                 case hv => intro W hW; (try dsimp only at hW); go_simp; rfl
                 case ha => go_simp; rfl)
              | (apply proc_off
                 case ho => simp only [List.getElem?_toArray, List.getElem?_cons_succ, List.getElem?_cons_zero]; rfl
                 case hg => rfl
                 case ha => go_simp; rfl))
          apply proc_eff
          case ho => simp only [List.getElem?_toArray, List.getElem?_cons_succ, List.getElem?_cons_zero]; rfl
          simp only [World.drew_eq]
          go_wp2_with fail
          refine (int_at k (HRK.out.upd ((Upd.refl [] wr).drewN 1) (by simp) (by simp)) hlim).mono ?_
          rintro e w6 ⟨rfl, hr6, hu6⟩
          rw [← HY.out]
          have U6 := Lib.hid (((Upd.refl [rb] wr).drewN 1).trans hu6 (by simp)); have HR6 := Lib.hid hr6; clear hr6 hu6
          have d3 : w6.cell? ⟨ab, 3, none⟩ = some (.slice A k c) := (World.cell?_of_block (U6.out.block _ (World.block_lt_of_cell? _ _ c3) (by simp; omega))).trans c3
          go_wp2_with fail
          refine ⟨_, fun _ h => h, d3, ?_⟩
          apply proc_eff
          case ho => simp only [List.getElem?_toArray, List.getElem?_cons_succ, List.getElem?_cons_zero]; rfl
          go_wp2_with fail
          have e3 : (w6.alloc (.cells #[.int .i64 y] 3)).cell? ⟨ab, 3, none⟩ = some (.slice A k c) := (World.cell?_of_block (((Upd.refl [] w6).alloc (.cells #[.int .i64 y] 3)).block _ (World.block_lt_of_cell? _ _ d3) (by simp))).trans d3
          refine ⟨_, fun _ h => h, e3, ?_⟩
          apply proc_eff
          case ho => simp only [List.getElem?_toArray, List.getElem?_cons_succ, List.getElem?_cons_zero]; rfl
          have hge := own_ge HO.out
          have hown6 : (w6.alloc (.cells #[.int .i64 y] 3)).ownsRow w5.heap.size 3 1 (.slice A k c) k (((ws.take k).map intS).map (Value.int .i64)) := own_upd HO.out (U6.out.alloc _) (fun j hj => by have := hge j hj; simp; omega)
          have hs6 := U6.out.size
          have hs5 := HU.out.size
          refine wpList_append_src _ rfl (.tmp 28) (.tmp 30) 22 rfl w5.heap.size 3 i0 (.int .i64 0) 1 8 Tryd.underlying22 hi hz0 hz1 hz2 rfl (by decide) (.slice A k c) k (((ws.take k).map intS).map (Value.int .i64)) rfl hown6 (some ⟨w6.heap.size, 0, none⟩) 1 1 [.int .i64 y] rfl (by simp) (cellsAt_new _ _ _) (by simp [Value.oneCell']) (by unfold maxLen; have := hlim.1; omega) (by have := hlim.1; omega) (by simp; omega) ?_
          intro v7 w7 hown7 hg7 hat7
          obtain ⟨A7, c7, rfl⟩ := own_slice hown7
          have ug := ((Upd.refl (Value.slice A k c).ownBlock.toList w6).alloc (.cells #[.int .i64 y] 3)).grown hg7 (fun j hj => .inr (by simp [hj]))
          have nb : ∀ z, z < w5.heap.size → z ∉ (Value.slice A k c).ownBlock.toList := fun z hz hm => by have := hge z (by simpa using hm); omega
          have hb7 := (ug.block ab (World.block_lt_of_cell? _ _ d3) (nb _ (by omega))).trans ((U6.out.block ab (World.block_lt_of_cell? _ _ c3) (by simp; omega)).trans HB.out)
          have hr7 := HR6.out.upd ug (nb _ (by omega)) (nb _ (by omega))
          have hu7 : Upd [ab, rb] w5 w7 := ((HU.out.trans U6.out (by simp)).trans ug (fun z hz => .inl (hge z (by simpa using hz))))
          have hown8 : w7.ownsRow w5.heap.size 3 1 (.slice A7 (k + 1) c7) (k + 1) (((ws.take (k + 1)).map intS).map (Value.int .i64)) := by
            rw [HTK.out, List.map_append]; exact hown7
          have h3 := cell_of (i := 3) (v := .slice A ((ws.take k).map intS).length c) hb7 rfl
          have f3 : w7.frozen? ⟨ab, 3, none⟩ = false := free_of hb7
          rw [HBL.out] at h3
          have HB7 := Lib.hid hb7; have HR7 := Lib.hid hr7; have HU7 := Lib.hid hu7; have HO8 := Lib.hid hown8
          clear hown7 hg7 hat7 ug nb hb7 hr7 hu7 hown8 hown6 hs6 hs5 d3 e3 hge
          go_wp2_with fail
          refine ⟨_, fun _ h => h, h3, ?_⟩
          repeat
            (first
              | (apply proc_held
                 case ho => simp only [List.getElem?_toArray, List.getElem?_cons_succ, List.getElem?_cons_zero]; rfl
                 case hg => rfl
                 case hv => intro W hW; (try dsimp only at hW); go_simp; rfl
                 case ha => go_simp; rfl)
              | (apply proc_held_on
                 case ho => simp only [List.getElem?_toArray, List.getElem?_cons_succ, List.getElem?_cons_zero]; rfl
                 case hg => rfl
                 case hv => intro W hW; (try dsimp only at hW); go_simp; rfl
                 case ha => go_simp; rfl)
              | (apply proc_off
                 case ho => simp only [List.getElem?_toArray, List.getElem?_cons_succ, List.getElem?_cons_zero]; rfl
                 case hg => rfl
                 case ha => go_simp; rfl))
          apply proc_last
          case ho => simp only [List.getElem?_toArray, List.getElem?_cons_succ, List.getElem?_cons_zero]; rfl
          go_wp2_with fail
          refine ⟨fun _ => True, trivial, ?_⟩
          refine proc_nil ?_
          have hbl8 : ((ws.take (k + 1)).map intS).length = k + 1 := by rw [List.length_map, List.length_take]; omega
          have hfin : (w7.setCell ⟨ab, 3, none⟩ (.slice A7 (k + 1) c7)).heap[ab]? = some (.cells (actCells { ActL.zero with op := op, ids := (ws.take (k + 1)).map intS } { p0 with ai := A7, ci := c7 }).toArray 29) := by
            refine (heap_setCell_self HB7.out _ (i := 3)).trans ?_
            have key : ∀ (L M : List Int), M.length = k + 1 → (actCells { ActL.zero with op := op, ids := L } { p0 with ai := A, ci := c }).toArray.setIfInBounds 3 (.slice A7 (k + 1) c7) = (actCells { ActL.zero with op := op, ids := M } { p0 with ai := A7, ci := c7 }).toArray := by
              intro L M hM
              rw [← hM]; rfl
            rw [key _ _ hbl8]
          have us := (Upd.refl [ab] w7).setCell (p := ⟨ab, 3, none⟩) (.inr (by simp)) (.slice A7 (k + 1) c7)
          have hR8 := HR7.out.upd us (by simp; omega) (by simp; omega)
          have hO9 := own_upd HO8.out us (fun j hj => by have := own_ge HO8.out j hj; simp; omega)
          have hm8 : rdN (w7.setCell ⟨ab, 3, none⟩ (.slice A7 (k + 1) c7)) rb < rdN wr rb := by
            obtain ⟨A8, c8, h8⟩ := hR8
            rw [rdN_eq h8, HRN.out, List.length_drop]; omega
          have HFI := Lib.hid hfin; have HR8 := Lib.hid hR8; have HO9 := Lib.hid hO9; have HM8 := Lib.hid hm8
          clear hfin us hR8 hO9 hm8 hbl8 h3 f3
          go_wp2_with fail
          exact ⟨⟨k + 1, A7, c7, by omega, HR8.out, HFI.out, HO9.out, HU7.out.setCell (.inr (by simp)) _⟩, HM8.out⟩
        · obtain rfl : k = ws.length := by omega
          have hO := HO.out
          have hB := HB.out
          rw [List.take_length] at hO hB
          obtain ⟨hn, hia, hib⟩ := ints_own hO
          have HI := Lib.hid hia; have HIB := Lib.hid hib; have HB2 := Lib.hid hB
          clear hO hB hn hia hib
          go_wp2_with fail
          go_meet
          case rel =>
            refine ⟨{ p0 with ai := A, ci := c }, ?_, ?_, ?_, HU.out⟩
            · rw [HWA.out]; exact HB2.out
            · rw [HWA.out]
              exact ⟨HI.out, HdrsAt.nil _ _, BytesAt.nil _ _, Nat.le_refl _, HdrsAt.nil _ _⟩
            · intro j hj
              exact HIB.out j (by simpa [p0, ActP.blocks] using hj)
    by_cases h3 : op = 3
    · have HWA : Hid (parseS op ws = { ActL.zero with op := op, req := reqS ws }) := Lib.hid (by simp [parseS, h3])
      have b2 : (op == 2) = false := by rw [h3]; rfl
      have b3 : (op == 3) = true := by rw [h3]; rfl
      clear h3
      go_wp2_with fail
      refine (reader_request HRD.out hlim HE5.out hgab.2 hlt5.1).mono ?_
      rintro e w6 ⟨vh, rfl, hown, hu⟩
      obtain ⟨Ah, ch, rfl⟩ := own_slice hown
      obtain ⟨hn, hh, hhb⟩ := hdrs_own hown
      have hb6 := (hu.block ab (Array.getElem?_eq_some_iff.1 H5.out).1 (by simp; omega)).trans H5.out
      obtain ⟨r, hr⟩ : ∃ r, r = reqS ws := ⟨_, rfl⟩
      rw [← hr] at hown hn hh ⊢
      have HWA2 : Hid (parseS op ws = { ActL.zero with op := op, req := r }) := Lib.hid (by rw [HWA.out, hr])
      have HB6 := Lib.hid hb6; have HU6 := Lib.hid hu; have HH := Lib.hid hh; have HHB := Lib.hid hhb; clear hb6 hu hown hh hhb hn hr
      have hagr : aggOf Tryd.prog 27 10 = true := by kernel_rfl
      have HR1 : Hid (∀ vs : Array Value, vs = #[.string ⟨r.method.toArray⟩, .string ⟨r.url.toArray⟩, .string ⟨r.origin.toArray⟩, .int .i64 r.mode, .bool r.creds, .slice Ah r.headers.length ch, .int .i64 r.cls, .int .u64 r.timeout, .int .i64 r.group, .int .i64 r.signal] → vs.all (·.oneCell') = true) := Lib.hid (fun vs h => by rw [h]; simp [Value.oneCell'])
      unfold reqV
      go_wp2_with (refine wpList_store_part _ rfl 27 (.tmp 36) (.tmp 35) rfl ab 8 #[.string ⟨r.method.toArray⟩, .string ⟨r.url.toArray⟩, .string ⟨r.origin.toArray⟩, .int .i64 r.mode, .bool r.creds, .slice Ah r.headers.length ch, .int .i64 r.cls, .int .u64 r.timeout, .int .i64 r.group, .int .i64 r.signal] (actCells { ActL.zero with op := op } p0).toArray 29 rfl rfl hagr HB6.out (Nat.le_refl 18) (HR1.out _ rfl) ?_)
      go_meet
      case rel =>
        refine ⟨{ p0 with ar := Ah, cr := ch }, ?_, ?_, ?_, (HU6.out.weaken (by simp)).setRow (.inr (by simp)) _⟩
        · rw [HWA2.out]; exact (setRow_heap _ _ _ _ _ _ HB6.out).trans rfl
        · rw [HWA2.out]
          exact ⟨IntsAt.nil _ _, HdrsAt.nil _ _, BytesAt.nil _ _, Nat.le_refl _, HH.out.upd ((Upd.refl [ab] w6).setRow (.inr (by simp)) _) (fun bb ao e => by have := HHB.out bb (by simp [e]); simp; omega)⟩
        · intro k hk
          exact HHB.out k (by simpa [p0, ActP.blocks] using hk)
    by_cases h8 : op = 8
    · have HWA : Hid (parseS op ws = { ActL.zero with op := op, time := (digitsS (wd ws 0)).1 }) := Lib.hid (by simp [parseS, h8])
      have b2 : (op == 2) = false := by rw [h8]; rfl
      have b3 : (op == 3) = false := by rw [h8]; rfl
      have b8 : (op == 8) = true := by rw [h8]; rfl
      clear h8
      have HR0 : Hid (Rd w5 rb tb (ws.drop 0)) := Lib.hid HRD.out
      go_wp2_with fail
      refine (num_at 0 HR0.out hlim).mono ?_
      rintro e w6 ⟨rfl, hr, hu⟩
      have hb_w6 := (hu.block ab (Array.getElem?_eq_some_iff.1 H5.out).1 (by simp; omega)).trans H5.out
      have HU := Lib.hid hu; clear hu hr
      have c4 := cell_of (i := 4) hb_w6 rfl
      have g4 : w6.frozen? ⟨ab, 4, none⟩ = false := free_of hb_w6
      have HB6 := Lib.hid hb_w6; clear hb_w6
      go_wp2_with fail
      go_meet
      case rel =>
        refine ⟨p0, ?_, ?_, by simp [p0, ActP.blocks], (HU.out.weaken (by simp)).setCell (.inr (by simp)) _⟩
        · rw [HWA.out]; exact (heap_setCell_self HB6.out _ (i := 4)).trans rfl
        · rw [HWA.out]; exact ⟨IntsAt.nil _ _, HdrsAt.nil _ _, BytesAt.nil _ _, Nat.le_refl _, HdrsAt.nil _ _⟩
    by_cases h10 : op = 10
    · have HWA : Hid (parseS op ws = { ActL.zero with op := op, id := intS (wd ws 0), status := intS (wd ws 1), headers := (ws.drop 2).map hdrS }) := Lib.hid (by simp [parseS, h10])
      have b2 : (op == 2) = false := by rw [h10]; rfl
      have b3 : (op == 3) = false := by rw [h10]; rfl
      have b8 : (op == 8) = false := by rw [h10]; rfl
      have b10 : (op == 10) = true := by rw [h10]; rfl
      clear h10
      have HR0 : Hid (Rd w5 rb tb (ws.drop 0)) := Lib.hid HRD.out
      go_wp2_with fail
      refine (int_at 0 HR0.out hlim).mono ?_
      rintro e w6 ⟨rfl, hr, hu⟩
      have HR6 := Lib.hid hr; have HU6 := Lib.hid hu; clear hr hu
      go_wp2_with fail
      refine (int_at 1 HR6.out hlim).mono ?_
      rintro e w7 ⟨rfl, hr, hu⟩
      have HU7 := Lib.hid (HU6.out.trans hu (by simp)); have HR7 := Lib.hid hr; clear hr hu
      have hb_w7 := (HU7.out.block ab (Array.getElem?_eq_some_iff.1 H5.out).1 (by simp; omega)).trans H5.out
      have c1 := cell_of (i := 1) hb_w7 rfl
      have g1 : w7.frozen? ⟨ab, 1, none⟩ = false := free_of hb_w7
      have c5 := cell_of (i := 5) hb_w7 rfl
      have g5 : w7.frozen? ⟨ab, 5, none⟩ = false := free_of hb_w7
      have HB7 := Lib.hid hb_w7; clear hb_w7
      have hs8 := heap_setCell_self (i := 5) (heap_setCell_self (i := 1) HB7.out (.int .i64 (intS (wd ws 0)))) (.int .i64 (intS (wd ws 1)))
      have u8 := ((Upd.refl [ab] w7).setCell (p := ⟨ab, 1, none⟩) (.inr (by simp)) (.int .i64 (intS (wd ws 0)))).setCell (p := ⟨ab, 5, none⟩) (.inr (by simp)) (.int .i64 (intS (wd ws 1)))
      have HS8 := Lib.hid hs8; have HU8 := Lib.hid u8; clear hs8 u8
      go_wp2_with fail
      have hU58 : Upd [ab, rb] w5 ((w7.setCell ⟨ab, 1, none⟩ (.int .i64 (intS (wd ws 0)))).setCell ⟨ab, 5, none⟩ (.int .i64 (intS (wd ws 1)))) := (HU7.out.weaken (by simp)).trans HU8.out (by simp)
      refine (headers_at 2 (HR7.out.upd HU8.out (by simp; omega) (by simp; omega)) hlim (HE5.out.upd hU58 (by simp; exact ⟨hgab.1, hgab.2⟩)) hgab.2 (by have := hU58.size; omega)).mono ?_
      rintro e w9 ⟨v, rfl, hown, hu⟩
      obtain ⟨Ah, ch, rfl⟩ := own_slice hown
      obtain ⟨hn, hh, hhb⟩ := hdrs_own (l := (ws.drop 2).map hdrS) (by rw [← List.length_map (f := hdrS)] at hown; exact hown)
      have hb9 := (hu.block ab (Array.getElem?_eq_some_iff.1 HS8.out).1 (by simp; omega)).trans HS8.out
      have c6 := cell_of (i := 6) hb9 rfl
      have g6 : w9.frozen? ⟨ab, 6, none⟩ = false := free_of hb9
      have HUF := Lib.hid (hU58.trans hu (by simp)); have hsz8 := hU58.size
      have HB9 := Lib.hid hb9; have HH := Lib.hid hh; have HHB : Hid (∀ k ∈ (Ah.map (·.block)).toList, w5.heap.size ≤ k) := Lib.hid (fun k hk => Nat.le_trans hsz8 (hhb k hk)); clear hb9 hh hhb hown hu hsz8 hU58 hn
      obtain ⟨l, hl⟩ : ∃ l, l = (ws.drop 2).map hdrS := ⟨_, rfl⟩
      have hll : (ws.drop 2).length = l.length := by rw [hl, List.length_map]
      rw [hll]
      rw [← hl] at HWA HH
      clear hl hll
      go_wp2_with fail
      go_meet
      case rel =>
        refine ⟨{ p0 with ah := Ah, ch := ch }, ?_, ?_, ?_, HUF.out.setCell (.inr (by simp)) _⟩
        · rw [HWA.out]; exact (heap_setCell_self HB9.out _ (i := 6)).trans rfl
        · rw [HWA.out]
          exact ⟨IntsAt.nil _ _, HH.out.upd ((Upd.refl [ab] w9).setCell (.inr (by simp)) _) (fun bb ao e => by have := HHB.out bb (by simp [e]); simp; omega), BytesAt.nil _ _, Nat.le_refl _, HdrsAt.nil _ _⟩
        · intro k hk
          exact HHB.out k (by simpa [p0, ActP.blocks] using hk)
    by_cases h11 : op = 11
    · have HWA : Hid (parseS op ws = { ActL.zero with op := op, id := intS (wd ws 0), bytes := (unhexS (wd ws 1)).getD [] }) := Lib.hid (by simp [parseS, h11])
      have b2 : (op == 2) = false := by rw [h11]; rfl
      have b3 : (op == 3) = false := by rw [h11]; rfl
      have b8 : (op == 8) = false := by rw [h11]; rfl
      have b10 : (op == 10) = false := by rw [h11]; rfl
      have b11 : (op == 11) = true := by rw [h11]; rfl
      clear h11
      have HR0 : Hid (Rd w5 rb tb (ws.drop 0)) := Lib.hid HRD.out
      go_wp2_with fail
      refine (int_at 0 HR0.out hlim).mono ?_
      rintro e w6 ⟨rfl, hr, hu⟩
      have hb6 := (hu.block ab (Array.getElem?_eq_some_iff.1 H5.out).1 (by simp; omega)).trans H5.out
      have c1 := cell_of (i := 1) hb6 rfl
      have g1 : w6.frozen? ⟨ab, 1, none⟩ = false := free_of hb6
      have hs7 := (heap_setCell_self (i := 1) hb6 (.int .i64 (intS (wd ws 0)))).trans rfl
      have HR6 := Lib.hid hr; have HU6 := Lib.hid hu; have HS7 := Lib.hid hs7; clear hr hu hs7 hb6
      go_wp2_with fail
      refine (word_at 1 (HR6.out.upd ((Upd.refl [ab] w6).setCell (.inr (by simp)) _) (by simp; omega) (by simp; omega)) hlim).mono ?_
      rintro e w8 ⟨rfl, hr, hu⟩
      have hb8 := (hu.block ab (Array.getElem?_eq_some_iff.1 HS7.out).1 (by simp; omega)).trans HS7.out
      have HU8 : Hid (Upd [ab, rb] w5 w8) := Lib.hid (((HU6.out.weaken (by simp)).setCell (.inr (by simp)) _).trans hu (by simp))
      have HB8 := Lib.hid hb8; clear hr hu hb8 c1 g1
      have hw1 := wd_len hlim 1
      obtain ⟨y, hy⟩ : ∃ y, y = wd ws 1 := ⟨_, rfl⟩
      rw [← hy] at hw1 HWA ⊢
      clear hy
      go_wp2_with fail
      refine (script_bytes _ y hw1).mono ?_
      rintro e w9 ⟨v, rfl, hv, hvb, hu⟩
      have hb9 := (hu.block ab (Array.getElem?_eq_some_iff.1 HB8.out).1 (by simp)).trans HB8.out
      obtain ⟨bs, hbs⟩ : ∃ bs, bs = (unhexS y).getD [] := ⟨_, rfl⟩
      rw [← hbs] at hv HWA
      clear hbs
      obtain ⟨Ab, cb, rfl, hcap, hbt⟩ := hv
      have c7 := cell_of (i := 7) hb9 rfl
      have g7 : w9.frozen? ⟨ab, 7, none⟩ = false := free_of hb9
      have HUF := Lib.hid (HU8.out.trans hu (by simp)); have hsz8 := HU8.out.size
      have HHB : Hid (∀ bb ao, Ab = some ⟨bb, ao, none⟩ → w5.heap.size ≤ bb) := Lib.hid (fun bb ao e => Nat.le_trans hsz8 (hvb bb (by rw [e]; rfl)))
      have HVB := Lib.hid hvb; have HB9 := Lib.hid hb9; have HBT := Lib.hid hbt; have HCAP := Lib.hid hcap; clear hb9 hbt hcap hvb hu
      go_wp2_with fail
      go_meet
      case rel =>
        refine ⟨{ p0 with ab := Ab, cb := cb }, ?_, ?_, ?_, HUF.out.setCell (.inr (by simp)) _⟩
        · rw [HWA.out]; exact (heap_setCell_self HB9.out _ (i := 7)).trans rfl
        · rw [HWA.out]
          exact ⟨IntsAt.nil _ _, HdrsAt.nil _ _, HBT.out.upd ((Upd.refl [ab] w9).setCell (.inr (by simp)) _) (fun bb ao e => by have := HHB.out bb ao e; simp; omega), HCAP.out, HdrsAt.nil _ _⟩
        · intro k hk
          have hk2 : k ∈ (Ab.map (·.block)).toList := by simpa [p0, ActP.blocks] using hk
          cases Ab with
          | none => simp at hk2
          | some z =>
            simp at hk2; subst hk2
            exact Nat.le_trans hsz8 (HVB.out _ rfl)
    by_cases h14 : op = 14
    · have HWA : Hid (parseS op ws = { ActL.zero with op := op, id := intS (wd ws 0), n := intS (wd ws 1) }) := Lib.hid (by simp [parseS, h14])
      have b2 : (op == 2) = false := by rw [h14]; rfl
      have b3 : (op == 3) = false := by rw [h14]; rfl
      have b8 : (op == 8) = false := by rw [h14]; rfl
      have b10 : (op == 10) = false := by rw [h14]; rfl
      have b11 : (op == 11) = false := by rw [h14]; rfl
      have b14 : (op == 14) = true := by rw [h14]; rfl
      clear h14
      have HR0 : Hid (Rd w5 rb tb (ws.drop 0)) := Lib.hid HRD.out
      go_wp2_with fail
      refine (int_at 0 HR0.out hlim).mono ?_
      rintro e w6 ⟨rfl, hr, hu⟩
      have HR6 := Lib.hid hr; have HU6 := Lib.hid hu; clear hr hu
      go_wp2_with fail
      refine (int_at 1 HR6.out hlim).mono ?_
      rintro e w7 ⟨rfl, hr, hu⟩
      have HU7 := Lib.hid (HU6.out.trans hu (by simp)); have HR7 := Lib.hid hr; clear hr hu
      have hb_w7 := (HU7.out.block ab (Array.getElem?_eq_some_iff.1 H5.out).1 (by simp; omega)).trans H5.out
      have c1 := cell_of (i := 1) hb_w7 rfl
      have g1 : w7.frozen? ⟨ab, 1, none⟩ = false := free_of hb_w7
      have c2 := cell_of (i := 2) hb_w7 rfl
      have g2 : w7.frozen? ⟨ab, 2, none⟩ = false := free_of hb_w7
      have HB7 := Lib.hid hb_w7; clear hb_w7
      go_wp2_with fail
      go_meet
      case rel =>
        refine ⟨p0, ?_, ?_, by simp [p0, ActP.blocks], ((HU7.out.weaken (by simp)).setCell (.inr (by simp)) _).setCell (.inr (by simp)) _⟩
        · rw [HWA.out]; exact (heap_setCell_self (i := 2) (heap_setCell_self HB7.out _ (i := 1)) _).trans rfl
        · rw [HWA.out]; exact ⟨IntsAt.nil _ _, HdrsAt.nil _ _, BytesAt.nil _ _, Nat.le_refl _, HdrsAt.nil _ _⟩
    by_cases h4 : op = 4
    · have HWA : Hid (parseS op ws = { ActL.zero with op := op, id := intS (wd ws 0) }) := Lib.hid (by simp [parseS, h4])
      have b2 : (op == 2) = false := by rw [h4]; rfl
      have b3 : (op == 3) = false := by rw [h4]; rfl
      have b8 : (op == 8) = false := by rw [h4]; rfl
      have b10 : (op == 10) = false := by rw [h4]; rfl
      have b11 : (op == 11) = false := by rw [h4]; rfl
      have b14 : (op == 14) = false := by rw [h4]; rfl
      have b4 : (op == 4) = true := by rw [h4]; rfl
      clear h4
      have HR0 : Hid (Rd w5 rb tb (ws.drop 0)) := Lib.hid HRD.out
      go_wp2_with fail
      refine (int_at 0 HR0.out hlim).mono ?_
      rintro e w6 ⟨rfl, hr, hu⟩
      have hb_w6 := (hu.block ab (Array.getElem?_eq_some_iff.1 H5.out).1 (by simp; omega)).trans H5.out
      have HU := Lib.hid hu; clear hu hr
      have c1 := cell_of (i := 1) hb_w6 rfl
      have g1 : w6.frozen? ⟨ab, 1, none⟩ = false := free_of hb_w6
      have HB6 := Lib.hid hb_w6; clear hb_w6
      go_wp2_with fail
      go_meet
      case rel =>
        refine ⟨p0, ?_, ?_, by simp [p0, ActP.blocks], (HU.out.weaken (by simp)).setCell (.inr (by simp)) _⟩
        · rw [HWA.out]; exact (heap_setCell_self HB6.out _ (i := 1)).trans rfl
        · rw [HWA.out]; exact ⟨IntsAt.nil _ _, HdrsAt.nil _ _, BytesAt.nil _ _, Nat.le_refl _, HdrsAt.nil _ _⟩
    by_cases h5 : op = 5
    · have HWA : Hid (parseS op ws = { ActL.zero with op := op, id := intS (wd ws 0) }) := Lib.hid (by simp [parseS, h5])
      have b2 : (op == 2) = false := by rw [h5]; rfl
      have b3 : (op == 3) = false := by rw [h5]; rfl
      have b8 : (op == 8) = false := by rw [h5]; rfl
      have b10 : (op == 10) = false := by rw [h5]; rfl
      have b11 : (op == 11) = false := by rw [h5]; rfl
      have b14 : (op == 14) = false := by rw [h5]; rfl
      have b4 : (op == 4) = false := by rw [h5]; rfl
      have b5 : (op == 5) = true := by rw [h5]; rfl
      clear h5
      have HR0 : Hid (Rd w5 rb tb (ws.drop 0)) := Lib.hid HRD.out
      go_wp2_with fail
      refine (int_at 0 HR0.out hlim).mono ?_
      rintro e w6 ⟨rfl, hr, hu⟩
      have hb_w6 := (hu.block ab (Array.getElem?_eq_some_iff.1 H5.out).1 (by simp; omega)).trans H5.out
      have HU := Lib.hid hu; clear hu hr
      have c1 := cell_of (i := 1) hb_w6 rfl
      have g1 : w6.frozen? ⟨ab, 1, none⟩ = false := free_of hb_w6
      have HB6 := Lib.hid hb_w6; clear hb_w6
      go_wp2_with fail
      go_meet
      case rel =>
        refine ⟨p0, ?_, ?_, by simp [p0, ActP.blocks], (HU.out.weaken (by simp)).setCell (.inr (by simp)) _⟩
        · rw [HWA.out]; exact (heap_setCell_self HB6.out _ (i := 1)).trans rfl
        · rw [HWA.out]; exact ⟨IntsAt.nil _ _, HdrsAt.nil _ _, BytesAt.nil _ _, Nat.le_refl _, HdrsAt.nil _ _⟩
    by_cases h6 : op = 6
    · have HWA : Hid (parseS op ws = { ActL.zero with op := op, id := intS (wd ws 0) }) := Lib.hid (by simp [parseS, h6])
      have b2 : (op == 2) = false := by rw [h6]; rfl
      have b3 : (op == 3) = false := by rw [h6]; rfl
      have b8 : (op == 8) = false := by rw [h6]; rfl
      have b10 : (op == 10) = false := by rw [h6]; rfl
      have b11 : (op == 11) = false := by rw [h6]; rfl
      have b14 : (op == 14) = false := by rw [h6]; rfl
      have b4 : (op == 4) = false := by rw [h6]; rfl
      have b5 : (op == 5) = false := by rw [h6]; rfl
      have b6 : (op == 6) = true := by rw [h6]; rfl
      clear h6
      have HR0 : Hid (Rd w5 rb tb (ws.drop 0)) := Lib.hid HRD.out
      go_wp2_with fail
      refine (int_at 0 HR0.out hlim).mono ?_
      rintro e w6 ⟨rfl, hr, hu⟩
      have hb_w6 := (hu.block ab (Array.getElem?_eq_some_iff.1 H5.out).1 (by simp; omega)).trans H5.out
      have HU := Lib.hid hu; clear hu hr
      have c1 := cell_of (i := 1) hb_w6 rfl
      have g1 : w6.frozen? ⟨ab, 1, none⟩ = false := free_of hb_w6
      have HB6 := Lib.hid hb_w6; clear hb_w6
      go_wp2_with fail
      go_meet
      case rel =>
        refine ⟨p0, ?_, ?_, by simp [p0, ActP.blocks], (HU.out.weaken (by simp)).setCell (.inr (by simp)) _⟩
        · rw [HWA.out]; exact (heap_setCell_self HB6.out _ (i := 1)).trans rfl
        · rw [HWA.out]; exact ⟨IntsAt.nil _ _, HdrsAt.nil _ _, BytesAt.nil _ _, Nat.le_refl _, HdrsAt.nil _ _⟩
    by_cases h7 : op = 7
    · have HWA : Hid (parseS op ws = { ActL.zero with op := op, id := intS (wd ws 0) }) := Lib.hid (by simp [parseS, h7])
      have b2 : (op == 2) = false := by rw [h7]; rfl
      have b3 : (op == 3) = false := by rw [h7]; rfl
      have b8 : (op == 8) = false := by rw [h7]; rfl
      have b10 : (op == 10) = false := by rw [h7]; rfl
      have b11 : (op == 11) = false := by rw [h7]; rfl
      have b14 : (op == 14) = false := by rw [h7]; rfl
      have b4 : (op == 4) = false := by rw [h7]; rfl
      have b5 : (op == 5) = false := by rw [h7]; rfl
      have b6 : (op == 6) = false := by rw [h7]; rfl
      have b7 : (op == 7) = true := by rw [h7]; rfl
      clear h7
      have HR0 : Hid (Rd w5 rb tb (ws.drop 0)) := Lib.hid HRD.out
      go_wp2_with fail
      refine (int_at 0 HR0.out hlim).mono ?_
      rintro e w6 ⟨rfl, hr, hu⟩
      have hb_w6 := (hu.block ab (Array.getElem?_eq_some_iff.1 H5.out).1 (by simp; omega)).trans H5.out
      have HU := Lib.hid hu; clear hu hr
      have c1 := cell_of (i := 1) hb_w6 rfl
      have g1 : w6.frozen? ⟨ab, 1, none⟩ = false := free_of hb_w6
      have HB6 := Lib.hid hb_w6; clear hb_w6
      go_wp2_with fail
      go_meet
      case rel =>
        refine ⟨p0, ?_, ?_, by simp [p0, ActP.blocks], (HU.out.weaken (by simp)).setCell (.inr (by simp)) _⟩
        · rw [HWA.out]; exact (heap_setCell_self HB6.out _ (i := 1)).trans rfl
        · rw [HWA.out]; exact ⟨IntsAt.nil _ _, HdrsAt.nil _ _, BytesAt.nil _ _, Nat.le_refl _, HdrsAt.nil _ _⟩
    by_cases h12 : op = 12
    · have HWA : Hid (parseS op ws = { ActL.zero with op := op, id := intS (wd ws 0) }) := Lib.hid (by simp [parseS, h12])
      have b2 : (op == 2) = false := by rw [h12]; rfl
      have b3 : (op == 3) = false := by rw [h12]; rfl
      have b8 : (op == 8) = false := by rw [h12]; rfl
      have b10 : (op == 10) = false := by rw [h12]; rfl
      have b11 : (op == 11) = false := by rw [h12]; rfl
      have b14 : (op == 14) = false := by rw [h12]; rfl
      have b4 : (op == 4) = false := by rw [h12]; rfl
      have b5 : (op == 5) = false := by rw [h12]; rfl
      have b6 : (op == 6) = false := by rw [h12]; rfl
      have b7 : (op == 7) = false := by rw [h12]; rfl
      have b12 : (op == 12) = true := by rw [h12]; rfl
      clear h12
      have HR0 : Hid (Rd w5 rb tb (ws.drop 0)) := Lib.hid HRD.out
      go_wp2_with fail
      refine (int_at 0 HR0.out hlim).mono ?_
      rintro e w6 ⟨rfl, hr, hu⟩
      have hb_w6 := (hu.block ab (Array.getElem?_eq_some_iff.1 H5.out).1 (by simp; omega)).trans H5.out
      have HU := Lib.hid hu; clear hu hr
      have c1 := cell_of (i := 1) hb_w6 rfl
      have g1 : w6.frozen? ⟨ab, 1, none⟩ = false := free_of hb_w6
      have HB6 := Lib.hid hb_w6; clear hb_w6
      go_wp2_with fail
      go_meet
      case rel =>
        refine ⟨p0, ?_, ?_, by simp [p0, ActP.blocks], (HU.out.weaken (by simp)).setCell (.inr (by simp)) _⟩
        · rw [HWA.out]; exact (heap_setCell_self HB6.out _ (i := 1)).trans rfl
        · rw [HWA.out]; exact ⟨IntsAt.nil _ _, HdrsAt.nil _ _, BytesAt.nil _ _, Nat.le_refl _, HdrsAt.nil _ _⟩
    by_cases h13 : op = 13
    · have HWA : Hid (parseS op ws = { ActL.zero with op := op, id := intS (wd ws 0) }) := Lib.hid (by simp [parseS, h13])
      have b2 : (op == 2) = false := by rw [h13]; rfl
      have b3 : (op == 3) = false := by rw [h13]; rfl
      have b8 : (op == 8) = false := by rw [h13]; rfl
      have b10 : (op == 10) = false := by rw [h13]; rfl
      have b11 : (op == 11) = false := by rw [h13]; rfl
      have b14 : (op == 14) = false := by rw [h13]; rfl
      have b4 : (op == 4) = false := by rw [h13]; rfl
      have b5 : (op == 5) = false := by rw [h13]; rfl
      have b6 : (op == 6) = false := by rw [h13]; rfl
      have b7 : (op == 7) = false := by rw [h13]; rfl
      have b12 : (op == 12) = false := by rw [h13]; rfl
      have b13 : (op == 13) = true := by rw [h13]; rfl
      clear h13
      have HR0 : Hid (Rd w5 rb tb (ws.drop 0)) := Lib.hid HRD.out
      go_wp2_with fail
      refine (int_at 0 HR0.out hlim).mono ?_
      rintro e w6 ⟨rfl, hr, hu⟩
      have hb_w6 := (hu.block ab (Array.getElem?_eq_some_iff.1 H5.out).1 (by simp; omega)).trans H5.out
      have HU := Lib.hid hu; clear hu hr
      have c1 := cell_of (i := 1) hb_w6 rfl
      have g1 : w6.frozen? ⟨ab, 1, none⟩ = false := free_of hb_w6
      have HB6 := Lib.hid hb_w6; clear hb_w6
      go_wp2_with fail
      go_meet
      case rel =>
        refine ⟨p0, ?_, ?_, by simp [p0, ActP.blocks], (HU.out.weaken (by simp)).setCell (.inr (by simp)) _⟩
        · rw [HWA.out]; exact (heap_setCell_self HB6.out _ (i := 1)).trans rfl
        · rw [HWA.out]; exact ⟨IntsAt.nil _ _, HdrsAt.nil _ _, BytesAt.nil _ _, Nat.le_refl _, HdrsAt.nil _ _⟩
    have HWA : Hid (parseS op ws = { ActL.zero with op := op }) := Lib.hid (by simp [parseS, h2, h3, h8, h10, h11, h14, h4, h5, h6, h7, h12, h13])
    have b2 : (op == 2) = false := by rw [beq_eq_false_iff_ne]; exact h2
    have b3 : (op == 3) = false := by rw [beq_eq_false_iff_ne]; exact h3
    have b8 : (op == 8) = false := by rw [beq_eq_false_iff_ne]; exact h8
    have b10 : (op == 10) = false := by rw [beq_eq_false_iff_ne]; exact h10
    have b11 : (op == 11) = false := by rw [beq_eq_false_iff_ne]; exact h11
    have b14 : (op == 14) = false := by rw [beq_eq_false_iff_ne]; exact h14
    have b4 : (op == 4) = false := by rw [beq_eq_false_iff_ne]; exact h4
    have b5 : (op == 5) = false := by rw [beq_eq_false_iff_ne]; exact h5
    have b6 : (op == 6) = false := by rw [beq_eq_false_iff_ne]; exact h6
    have b7 : (op == 7) = false := by rw [beq_eq_false_iff_ne]; exact h7
    have b12 : (op == 12) = false := by rw [beq_eq_false_iff_ne]; exact h12
    have b13 : (op == 13) = false := by rw [beq_eq_false_iff_ne]; exact h13
    clear h2 h3 h8 h10 h11 h14 h4 h5 h6 h7 h12 h13
    go_wp2_with fail
    go_meet
    case rel =>
      refine ⟨p0, ?_, ?_, by simp [p0, ActP.blocks], Upd.refl _ _⟩
      · rw [HWA.out]; exact H5.out
      · rw [HWA.out]; exact ⟨IntsAt.nil _ _, HdrsAt.nil _ _, BytesAt.nil _ _, Nat.le_refl _, HdrsAt.nil _ _⟩
  case rest =>
    obtain ⟨p, hb, hact, hfr, hu6⟩ := hcut
    have hal := parseS_lim (op := op) hlim (by rw [HOP.out]; exact opOfS_i64 x)
    obtain ⟨a, ha⟩ : ∃ a, a = parseS op ws := ⟨_, rfl⟩
    rw [← ha] at hb hact hal
    have HRS2 : Hid (rr = if showS a = some s then some a else none) := Lib.hid (by rw [HRS.out, ha, HOP.out])
    clear ha
    have hLd : LiesAt wc ab 0 (actCells a p) := LiesAt.of_block hb
    have hlenc : aggOf Tryd.prog 29 (actCells a p).length = true := hag
    have hlena : aggOf Tryd.prog 29 (actCells a p).toArray.size = true := hag
    have HB := Lib.hid hb; have HACT := Lib.hid hact; have HFR := Lib.hid hfr; have HU6 := Lib.hid hu6; have HAL := Lib.hid hal; have HLD := Lib.hid hLd; have HLC := Lib.hid hlenc; have HLA := Lib.hid hlena
    have hE6 := HE5.out.upd HU6.out (by simp; exact ⟨hgab.1, hgab.2⟩)
    have HE6 := Lib.hid hE6
    clear hb hact hfr hu6 hal hLd hE6 hlenc hlena
    go_wp2_with (refine wpList_load_lies _ rfl 29 (.tmp 5) rfl ab 0 (actCells a p) rfl HLC.out HLD.out ?_)
    have q := script_show HACT.out HAL.out HE6.out
    unfold actV at q
    refine q.mono ?_
    clear q
    obtain ⟨sh, hsh⟩ : ∃ sh, sh = showS a := ⟨_, rfl⟩
    rw [← hsh]
    have HSH := Lib.hid hsh; clear hsh
    rintro e w7 ⟨rfl, hu7⟩
    have HU7 := Lib.hid hu7; clear hu7
    have hz7 : w7.heap[w.heap.size]? = some (.cells (actCells ActL.zero p0).toArray 29) := ((HU6.out.trans HU7.out (by simp)).block w.heap.size (by omega) (by simp; omega)).trans HZ5.out
    have hb7 : w7.heap[ab]? = some (.cells (actCells a p).toArray 29) := (HU7.out.block ab (Array.getElem?_eq_some_iff.1 HB.out).1 (by simp)).trans HB.out
    have HZ7 := Lib.hid hz7; have HB7 := Lib.hid hb7; clear hz7 hb7
    have hfin : Upd [] w w7 := (UW5.out.trans HU6.out (by simp; omega)).trans HU7.out (by simp)
    have HF := Lib.hid hfin; clear hfin
    have hLd7 : LiesAt w7 ab 0 (actCells a p) := LiesAt.of_block HB7.out
    have HLD7 := Lib.hid hLd7; clear hLd7
    have HZA : Hid ((actCells ActL.zero p0).toArray.all (·.oneCell') = true) := Lib.hid (by simp [actCells, Value.oneCell'])
    have HPA : Hid ((actCells a p).toArray.all (·.oneCell') = true) := Lib.hid (by simp [actCells, Value.oneCell'])
    cases sh with
    | none =>
      have HRR0 : rr = none := by rw [HRS2.out, ← HSH.out]; rfl
      go_wp2_with (refine wpList_store_agg _ rfl 29 (.tmp 2) (.tmp 86) rfl w.heap.size (actCells ActL.zero p0).toArray (actCells ActL.zero p0).toArray 29 rfl rfl hag HZ7.out rfl HZA.out ?_)
      refine bodyPost_ret (v := .tuple #[.agg (actCells ActL.zero p0).toArray, .int .i64 3]) (run_results_cell_tmp _ Tryd.results12 (b := w.heap.size) (o := 0) rfl rfl hag (LiesAt.of_block (setRow_heap _ _ _ _ _ _ HZ7.out))) rfl ?_
      refine ⟨p0, ?_, ?_, by simp [p0, ActP.blocks], ?_⟩
      · rw [HRA.out, HEN.out, HRR0]; rfl
      · rw [HRA.out, HRR0]; exact ActAt.zero _ _
      · exact HF.out.setRow (.inl (Nat.le_refl _)) _
    | some t =>
      by_cases hts : t = s
      · have HRR0 : rr = some a := by rw [HRS2.out, ← HSH.out, hts]; simp
        subst hts
        go_wp2_with first
          | refine wpList_load_lies _ rfl 29 (.tmp 5) rfl ab 0 (actCells a p) rfl HLC.out HLD7.out ?_
          | refine wpList_store_agg _ rfl 29 (.tmp 2) (.tmp 87) rfl w.heap.size (actCells a p).toArray (actCells ActL.zero p0).toArray 29 rfl rfl HLA.out HZ7.out rfl HPA.out ?_
        refine bodyPost_ret (v := .tuple #[.agg (actCells a p).toArray, .int .i64 0]) (run_results_cell_tmp _ Tryd.results12 (b := w.heap.size) (o := 0) rfl rfl HLC.out (LiesAt.of_block (setRow_heap _ _ _ _ _ _ HZ7.out))) rfl ?_
        refine ⟨p, ?_, ?_, fun k hk => by have := HFR.out k hk; omega, ?_⟩
        · rw [HRA.out, HEN.out, HRR0]; rfl
        · rw [HRA.out, HRR0]
          exact HACT.out.upd2 (F := [w.heap.size]) ((HU7.out.weaken (by simp)).setRow (.inr (by simp)) _) (fun k hk => by have := HFR.out k hk; simp; omega)
        · exact HF.out.setRow (.inl (Nat.le_refl _)) _
      · have HRR0 : rr = none := by rw [HRS2.out, ← HSH.out]; simp [hts]
        have hne : (t == s) = false := by rw [beq_eq_false_iff_ne]; exact hts
        go_wp2_with (refine wpList_store_agg _ rfl 29 (.tmp 2) (.tmp 86) rfl w.heap.size (actCells ActL.zero p0).toArray (actCells ActL.zero p0).toArray 29 rfl rfl hag HZ7.out rfl HZA.out ?_)
        refine bodyPost_ret (v := .tuple #[.agg (actCells ActL.zero p0).toArray, .int .i64 3]) (run_results_cell_tmp _ Tryd.results12 (b := w.heap.size) (o := 0) rfl rfl hag (LiesAt.of_block (setRow_heap _ _ _ _ _ _ HZ7.out))) rfl ?_
        refine ⟨p0, ?_, ?_, by simp [p0, ActP.blocks], ?_⟩
        · rw [HRA.out, HEN.out, HRR0]; rfl
        · rw [HRA.out, HRR0]; exact ActAt.zero _ _
        · exact HF.out.setRow (.inl (Nat.le_refl _)) _
theorem script_read {w : World} (s : Bs) (hs : s.length ≤ 900000) (hE : Env w) :
    Calls Tryd.prog 12 #[.string ⟨s.toArray⟩] w fun e w' => ∃ p, e = .returned (.tuple #[actV ((readS s).getD ActL.zero) p, .int .i64 (if (readS s).isSome then 0 else 3)]) ∧ ActAt w' ((readS s).getD ActL.zero) p ∧ Upd [] w w' :=
  (script_read_new s hs hE).mono (by rintro e w' ⟨p, h1, h2, _, h3⟩; exact ⟨p, h1, h2, h3⟩)
end Go.Proofs.YtajoldboafkpdaaDoor
