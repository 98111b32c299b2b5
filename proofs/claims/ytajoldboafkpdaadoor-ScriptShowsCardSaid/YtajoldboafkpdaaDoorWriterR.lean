-- script.writer.request: contract.
import Derived.Test.YtajoldboafkpdaaDoorWriterH
namespace Go.Proofs.YtajoldboafkpdaaDoor
set_option linter.unusedSimpArgs false
set_option linter.unusedVariables false
open Go.RowKit Go.Lk
section
variable {w0 w1 : World} {base wb : Nat} {v0 v1 : Value} {ws1 : List Bs} {b1 : Bool}
theorem WrStep.env (h : WrStep w0 w1 base wb v0 v1 ws1 b1) (hE : Env w0) (hg : gfree wb ∧ gfree base) (h0 : ∀ k, v0.ownBlock = some k → base ≤ k) : Env w1 := hE.upd h.upd (fun y hy => by
  rcases List.mem_cons.1 hy with rfl | hy
  · exact hg.1
  · have := h0 y (by simpa using hy)
    have := hg.2
    unfold gfree at *; omega)
theorem WrStep.then0 {w2 : World} (h : WrStep w0 w1 base wb v0 v1 ws1 b1) (hu : Upd [] w1 w2) : WrStep w0 w2 base wb v0 v1 ws1 b1 where
  at_ := h.at_.upd hu (by simp) (by simp)
  upd := h.upd.trans hu (by simp)
  own := h.own
/-- A block that was there, and is not the writer's, is as it was. -/
theorem WrStep.block (h : WrStep w0 w1 base wb v0 v1 ws1 b1) (x : Nat) (hx : x < w0.heap.size) (h1 : x ≠ wb) (h2 : v0.ownBlock ≠ some x) : w1.heap[x]? = w0.heap[x]? := h.upd.block x hx (fun hm => by
  rcases List.mem_cons.1 hm with e | hm
  · exact h1 e
  · exact h2 (by simpa using hm))
theorem text_step (h : WrStep w0 w1 base wb v0 v1 ws1 b1) (hb : base ≤ w0.heap.size) (hl : ws1.length ≤ 1000000) (s : Bs) (hs : s.length ≤ 1000000) :
    Calls Tryd.prog 61 #[.pointer (some ⟨wb, 0, none⟩), .string ⟨s.toArray⟩] w1 fun e w' => e = .returned (.tuple #[]) ∧ ∃ v', WrStep w0 w' base wb v0 v' (ws1 ++ [s]) (b1 || !textS s) :=
  (writer_text h.at_ (Nat.le_trans hb h.upd.size) hl s hs).mono fun e w' ⟨he, v', hv⟩ => ⟨he, v', h.trans hv⟩
theorem num_step (h : WrStep w0 w1 base wb v0 v1 ws1 b1) (hE : Env w1) (hb : base ≤ w0.heap.size) (hl : ws1.length ≤ 1000000) (n : Int) (hn : 0 ≤ n ∧ n < 18446744073709551616) :
    Calls Tryd.prog 41 #[.pointer (some ⟨wb, 0, none⟩), .int .u64 n] w1 fun e w' => e = .returned (.tuple #[]) ∧ ∃ v', WrStep w0 w' base wb v0 v' (ws1 ++ [Lib.itoa n]) b1 := by
  obtain ⟨m, rfl⟩ : ∃ m : Nat, n = m := ⟨n.toNat, by omega⟩
  rw [Lib.itoa_nonneg]
  exact (writer_num h.at_ hE (Nat.le_trans hb h.upd.size) hl m (by omega)).mono fun e w' ⟨he, v', hv⟩ => ⟨he, v', h.trans hv⟩
theorem ints_step (h : WrStep w0 w1 base wb v0 v1 ws1 b1) (hE : Env w1) (hb : base ≤ w0.heap.size) (hl : ws1.length ≤ 1000000) (hg : gfree wb ∧ gfree base) {A : Option Addr} {c : Nat} {l : List Int} (hA : IntsAt w1 A l) (hll : l.length ≤ 1000000)
    (hA1 : ∀ ab ao, A = some ⟨ab, ao, none⟩ → l ≠ [] → ab ≠ wb ∧ v1.ownBlock ≠ some ab) (hr : ∀ x ∈ l, -9223372036854775808 ≤ x ∧ x ≤ 9223372036854775807) :
    Calls Tryd.prog 39 #[.pointer (some ⟨wb, 0, none⟩), .slice A l.length c] w1 fun e w' => e = .returned (.tuple #[]) ∧ ∃ v', WrStep w0 w' base wb v0 v' (ws1 ++ (intsW l).1) (b1 || !(intsW l).2) :=
  (writer_ints h.at_ hE (Nat.le_trans hb h.upd.size) hl hg hA hll hA1 hr).mono fun e w' ⟨he, v', hv⟩ => ⟨he, v', h.trans hv⟩
theorem intsAt_new (w : World) (T : TypeId) (l : List Int) : IntsAt (w.alloc (.cells (l.map (Value.int .i64)).toArray T)) (some ⟨w.heap.size, 0, none⟩) l := fun j x hj =>
  ⟨_, _, rfl, by rw [Nat.zero_add]; exact cell_of (heap_alloc_self _) (by simp [hj])⟩
/-- Numbers in a new slice of the caller's. -/
theorem ints_new_step (h : WrStep w0 w1 base wb v0 v1 ws1 b1) (hE : Env w1) (hb : base ≤ w0.heap.size) (hl : ws1.length ≤ 1000000) (hg : gfree wb ∧ gfree base) (T : TypeId) (l : List Int) (n : Nat) (hn : n = l.length) (hll : l.length ≤ 1000000)
    (hr : ∀ x ∈ l, -9223372036854775808 ≤ x ∧ x ≤ 9223372036854775807) :
    Calls Tryd.prog 39 #[.pointer (some ⟨wb, 0, none⟩), .slice (some ⟨w1.heap.size, 0, none⟩) n n] (w1.alloc (.cells (l.map (Value.int .i64)).toArray T)) fun e w' => e = .returned (.tuple #[]) ∧ ∃ v', WrStep w0 w' base wb v0 v' (ws1 ++ (intsW l).1) (b1 || !(intsW l).2) := by
  subst hn
  have u := (Upd.refl [] w1).alloc (.cells (l.map (Value.int .i64)).toArray T)
  refine ints_step (h.then0 u) (hE.upd0 u) hb hl hg (intsAt_new w1 T l) hll ?_ hr
  intro ab ao e _
  injection e with e
  injection e with e
  subst e
  refine ⟨fun e => ?_, fun e => ?_⟩
  · have := (Array.getElem?_eq_some_iff.1 h.at_.hb).1; omega
  · have := own_lt h.at_.own _ e; omega
theorem headers_step (h : WrStep w0 w1 base wb v0 v1 ws1 b1) (hE : Env w1) (hb : base ≤ w0.heap.size) (hl : ws1.length ≤ 1000000) (hg : gfree wb ∧ gfree base) {A : Option Addr} {c : Nat} {l : List (Bs × Bs)} (hA : HdrsAt w1 A l) (hll : l.length ≤ 1000000)
    (hA1 : ∀ ab ao, A = some ⟨ab, ao, none⟩ → l ≠ [] → ab ≠ wb ∧ v1.ownBlock ≠ some ab) (hr : ∀ x ∈ l, x.1.length ≤ 1000000 ∧ x.2.length ≤ 1000000) :
    Calls Tryd.prog 42 #[.pointer (some ⟨wb, 0, none⟩), .slice A l.length c] w1 fun e w' => e = .returned (.tuple #[]) ∧ ∃ v', WrStep w0 w' base wb v0 v' (ws1 ++ (hdrsW l).1) (b1 || !(hdrsW l).2) :=
  (writer_headers h.at_ hE (Nat.le_trans hb h.upd.size) hl hg hA hll hA1 hr).mono fun e w' ⟨he, v', hv⟩ => ⟨he, v', h.trans hv⟩
end
def i64R (x : Int) : Prop := -9223372036854775808 ≤ x ∧ x ≤ 9223372036854775807
def HdrLim (l : List (Bs × Bs)) : Prop := l.length ≤ 1000000 ∧ ∀ x ∈ l, x.1.length ≤ 1000000 ∧ x.2.length ≤ 1000000
structure ReqLim (r : ReqL) : Prop where
  me : r.method.length ≤ 1000000
  ur : r.url.length ≤ 1000000
  og : r.origin.length ≤ 1000000
  mo : i64R r.mode
  cl : i64R r.cls
  ti : 0 ≤ r.timeout ∧ r.timeout < 18446744073709551616
  gr : i64R r.group
  si : i64R r.signal
  hd : HdrLim r.headers
set_option maxRecDepth 100000 in
set_option maxHeartbeats 3200000 in
theorem writer_request {w : World} {base wb : Nat} {v : Value} {ws : List Bs} {bad : Bool} (h : WrAt w base wb v ws bad) (hE : Env w) (hb : base ≤ w.heap.size) (hl : ws.length ≤ 100000) (hg : gfree wb ∧ gfree base)
    {A : Option Addr} {c : Nat} (r : ReqL) (hr : ReqLim r) (hA : HdrsAt w A r.headers) (hA1 : ∀ ab ao, A = some ⟨ab, ao, none⟩ → r.headers ≠ [] → ab ≠ wb ∧ v.ownBlock ≠ some ab) :
    Calls Tryd.prog 40 #[.pointer (some ⟨wb, 0, none⟩), reqV r (.slice A r.headers.length c)] w fun e w' => e = .returned (.tuple #[]) ∧ ∃ v', WrStep w w' base wb v v' (ws ++ (reqW r).1) (bad || !(reqW r).2) := by
  obtain ⟨sw, hsw⟩ : ∃ sw, sw = reqW r := ⟨_, rfl⟩
  have HS := Lib.hid hsw
  rw [← hsw]
  clear hsw
  obtain ⟨me, ur, og, mo, cr, hd, cl, ti, gr, si⟩ := r
  have HL := Lib.hid hr; have HH := Lib.hid h; have HE := Lib.hid hE; have HA := Lib.hid hA; have HA1 := Lib.hid hA1; clear h hE hA hA1 hr
  unfold reqV
  dsimp only
  obtain ⟨w1, hw1⟩ : ∃ w1, w1 = w.alloc (.cells #[.string ⟨me.toArray⟩, .string ⟨ur.toArray⟩, .string ⟨og.toArray⟩, .int .i64 mo, .bool cr, .slice A hd.length c, .int .i64 cl, .int .u64 ti, .int .i64 gr, .int .i64 si] 27) := ⟨_, rfl⟩
  have hbx := heap_alloc_self (w := w) (.cells #[.string ⟨me.toArray⟩, .string ⟨ur.toArray⟩, .string ⟨og.toArray⟩, .int .i64 mo, .bool cr, .slice A hd.length c, .int .i64 cl, .int .u64 ti, .int .i64 gr, .int .i64 si] 27)
  have hu : Upd [] w w1 := by rw [hw1]; exact (Upd.refl [] w).alloc _
  have hsz : w1.heap.size = w.heap.size + 1 := by rw [hw1]; simp
  rw [← hw1] at hbx
  have HBX := Lib.hid hbx; have HW1 := Lib.hid hw1; have HU := Lib.hid hu; clear hbx hw1 hu
  have HW := Lib.hid (HH.out.step.then0 HU.out)
  have hwl : wb < w.heap.size := (Array.getElem?_eq_some_iff.1 HH.out.hb).1
  have hv0 : ∀ k, v.ownBlock = some k → base ≤ k ∧ k < w.heap.size := fun k hk => ⟨own_ge HH.out.own k hk, own_lt HH.out.own k hk⟩
  have HV0 := Lib.hid hv0; clear hv0
  have HB1 : Hid (base ≤ w1.heap.size) := Lib.hid (Nat.le_trans hb HU.out.size)
  have HW0 := Lib.hid (HH.out.upd HU.out (by simp) (by simp)).step
  -- what is read of the request's block, whatever was written
  have blk : ∀ (w2 : World) (v2 : Value) (ws2 : List Bs) (b2 : Bool), WrStep w1 w2 base wb v v2 ws2 b2 → w2.heap[w.heap.size]? = some (.cells #[.string ⟨me.toArray⟩, .string ⟨ur.toArray⟩, .string ⟨og.toArray⟩, .int .i64 mo, .bool cr, .slice A hd.length c, .int .i64 cl, .int .u64 ti, .int .i64 gr, .int .i64 si] 27) := fun _ _ _ _ hs =>
    (hs.block w.heap.size (by omega) (by omega) (fun e => by have := (HV0.out _ e).2; omega)).trans HBX.out
  have env : ∀ (w2 : World) (v2 : Value) (ws2 : List Bs) (b2 : Bool), WrStep w1 w2 base wb v v2 ws2 b2 → Env w2 := fun _ _ _ _ hs => hs.env (HE.out.upd0 HU.out) hg (fun k hk => (HV0.out k hk).1)
  have BLK := Lib.hid blk; have ENV := Lib.hid env
  clear blk env
  have f0 : w1.cell? ⟨w.heap.size, 0, none⟩ = some (.string ⟨me.toArray⟩) := cell_of (i := 0) (BLK.out _ _ _ _ HW0.out) rfl
  go_enter Tryd.func40, Tryd.ntmps40
  rw [HW1.out] at f0
  go_wp2_with fail
  rw [← HW1.out]
  refine (text_step HW0.out HB1.out (by (try simp); omega) me HL.out.me).mono ?_
  rintro e w1x ⟨rfl, vw1x, hst⟩
  have HW1 := Lib.hid hst; clear hst
  have f1 : w1x.cell? ⟨w.heap.size, 1, none⟩ = some (.string ⟨ur.toArray⟩) := cell_of (i := 1) (BLK.out _ _ _ _ HW1.out) rfl
  clear f0
  go_wp2_with fail
  refine (text_step HW1.out HB1.out (by (try simp); omega) ur HL.out.ur).mono ?_
  rintro e w2x ⟨rfl, vw2x, hst⟩
  have HW2 := Lib.hid hst; clear hst
  have f2 : w2x.cell? ⟨w.heap.size, 2, none⟩ = some (.string ⟨og.toArray⟩) := cell_of (i := 2) (BLK.out _ _ _ _ HW2.out) rfl
  clear f1
  go_wp2_with fail
  refine (text_step HW2.out HB1.out (by (try simp); omega) og HL.out.og).mono ?_
  rintro e w3x ⟨rfl, vw3x, hst⟩
  have HW3 := Lib.hid hst; clear hst
  have f4 : w3x.cell? ⟨w.heap.size, 4, none⟩ = some (.bool cr) := cell_of (i := 4) (BLK.out _ _ _ _ HW3.out) rfl
  have f3 : w3x.cell? ⟨w.heap.size, 3, none⟩ = some (.int .i64 mo) := cell_of (i := 3) (BLK.out _ _ _ _ HW3.out) rfl
  have f6 : w3x.cell? ⟨w.heap.size, 6, none⟩ = some (.int .i64 cl) := cell_of (i := 6) (BLK.out _ _ _ _ HW3.out) rfl
  clear f2
  cases cr
  · go_wp2_with fail
    clear f3 f4 f6
    refine (ints_new_step HW3.out (ENV.out _ _ _ _ HW3.out) HB1.out (by (try simp); omega) hg _ [mo, 0, cl] 3 rfl (by simp) (by simp; have := HL.out.mo; have := HL.out.cl; unfold i64R at *; simp only at *; omega)).mono ?_
    rintro e w4x ⟨rfl, vw4x, hst⟩
    have HW4 := Lib.hid hst; clear hst
    have f7 : w4x.cell? ⟨w.heap.size, 7, none⟩ = some (.int .u64 ti) := cell_of (i := 7) (BLK.out _ _ _ _ HW4.out) rfl
    go_wp2_with fail
    refine (num_step HW4.out (ENV.out _ _ _ _ HW4.out) HB1.out (by simp [intsW]; omega) ti HL.out.ti).mono ?_
    rintro e w5x ⟨rfl, vw5x, hst⟩
    have HW5 := Lib.hid hst; clear hst f7
    have f8 : w5x.cell? ⟨w.heap.size, 8, none⟩ = some (.int .i64 gr) := cell_of (i := 8) (BLK.out _ _ _ _ HW5.out) rfl
    have f9 : w5x.cell? ⟨w.heap.size, 9, none⟩ = some (.int .i64 si) := cell_of (i := 9) (BLK.out _ _ _ _ HW5.out) rfl
    go_wp2_with fail
    refine (ints_new_step HW5.out (ENV.out _ _ _ _ HW5.out) HB1.out (by simp [intsW]; omega) hg _ [gr, si] 2 rfl (by simp) (by simp; have := HL.out.gr; have := HL.out.si; unfold i64R at *; simp only at *; omega)).mono ?_
    rintro e w6x ⟨rfl, vw6x, hst⟩
    have HW6 := Lib.hid hst; clear hst f8 f9
    have f5 : w6x.cell? ⟨w.heap.size, 5, none⟩ = some (.slice A hd.length c) := cell_of (i := 5) (BLK.out _ _ _ _ HW6.out) rfl
    go_wp2_with fail
    have hA6 : HdrsAt w6x A hd := by
      by_cases hn : hd = []
      · subst hn; exact HdrsAt.nil _ _
      · refine HA.out.upd (HU.out.trans_of HW6.out.upd) (fun ab ao e => ?_)
        have := HA1.out ab ao e hn
        intro hm
        rcases List.mem_cons.1 hm with e | hm
        · exact this.1 e
        · exact this.2 (by simpa using hm)
    refine (headers_step HW6.out (ENV.out _ _ _ _ HW6.out) HB1.out (by simp [intsW]; omega) hg hA6 (by have := HL.out.hd.1; simp only at this; omega) (fun ab ao e hn => ⟨(HA1.out ab ao e hn).1, fun e2 => ?_⟩) HL.out.hd.2).mono ?_
    · rcases HW6.out.own _ e2 with h1 | h1
      · exact (HA1.out ab ao e hn).2 h1
      · have := HA.out.lt hn ab ao e; omega
    rintro e w7x ⟨rfl, vw7x, hst⟩
    have HW7 := Lib.hid hst; clear hst f5
    go_wp2_with fail
    go_end0
    refine ⟨rfl, vw7x, ?_⟩
    have hfin := HW.out.trans HW7.out
    have e1 : ws ++ sw.1 = ws ++ [me] ++ [ur] ++ [og] ++ (intsW [mo, 0, cl]).1 ++ [Lib.itoa ti] ++ (intsW [gr, si]).1 ++ (hdrsW hd).1 := by rw [HS.out]; simp [reqW]
    have e2 : (bad || !sw.2) = (bad || !textS me || !textS ur || !textS og || !(intsW [mo, 0, cl]).2 || !(intsW [gr, si]).2 || !(hdrsW hd).2) := by rw [HS.out]; simp only [reqW, Bool.not_and, Bool.or_assoc]; rfl
    rw [e1, e2]
    exact hfin
  · go_wp2_with fail
    clear f3 f4 f6
    refine (ints_new_step HW3.out (ENV.out _ _ _ _ HW3.out) HB1.out (by (try simp); omega) hg _ [mo, 1, cl] 3 rfl (by simp) (by simp; have := HL.out.mo; have := HL.out.cl; unfold i64R at *; simp only at *; omega)).mono ?_
    rintro e w4x ⟨rfl, vw4x, hst⟩
    have HW4 := Lib.hid hst; clear hst
    have f7 : w4x.cell? ⟨w.heap.size, 7, none⟩ = some (.int .u64 ti) := cell_of (i := 7) (BLK.out _ _ _ _ HW4.out) rfl
    go_wp2_with fail
    refine (num_step HW4.out (ENV.out _ _ _ _ HW4.out) HB1.out (by simp [intsW]; omega) ti HL.out.ti).mono ?_
    rintro e w5x ⟨rfl, vw5x, hst⟩
    have HW5 := Lib.hid hst; clear hst f7
    have f8 : w5x.cell? ⟨w.heap.size, 8, none⟩ = some (.int .i64 gr) := cell_of (i := 8) (BLK.out _ _ _ _ HW5.out) rfl
    have f9 : w5x.cell? ⟨w.heap.size, 9, none⟩ = some (.int .i64 si) := cell_of (i := 9) (BLK.out _ _ _ _ HW5.out) rfl
    go_wp2_with fail
    refine (ints_new_step HW5.out (ENV.out _ _ _ _ HW5.out) HB1.out (by simp [intsW]; omega) hg _ [gr, si] 2 rfl (by simp) (by simp; have := HL.out.gr; have := HL.out.si; unfold i64R at *; simp only at *; omega)).mono ?_
    rintro e w6x ⟨rfl, vw6x, hst⟩
    have HW6 := Lib.hid hst; clear hst f8 f9
    have f5 : w6x.cell? ⟨w.heap.size, 5, none⟩ = some (.slice A hd.length c) := cell_of (i := 5) (BLK.out _ _ _ _ HW6.out) rfl
    go_wp2_with fail
    have hA6 : HdrsAt w6x A hd := by
      by_cases hn : hd = []
      · subst hn; exact HdrsAt.nil _ _
      · refine HA.out.upd (HU.out.trans_of HW6.out.upd) (fun ab ao e => ?_)
        have := HA1.out ab ao e hn
        intro hm
        rcases List.mem_cons.1 hm with e | hm
        · exact this.1 e
        · exact this.2 (by simpa using hm)
    refine (headers_step HW6.out (ENV.out _ _ _ _ HW6.out) HB1.out (by simp [intsW]; omega) hg hA6 (by have := HL.out.hd.1; simp only at this; omega) (fun ab ao e hn => ⟨(HA1.out ab ao e hn).1, fun e2 => ?_⟩) HL.out.hd.2).mono ?_
    · rcases HW6.out.own _ e2 with h1 | h1
      · exact (HA1.out ab ao e hn).2 h1
      · have := HA.out.lt hn ab ao e; omega
    rintro e w7x ⟨rfl, vw7x, hst⟩
    have HW7 := Lib.hid hst; clear hst f5
    go_wp2_with fail
    go_end0
    refine ⟨rfl, vw7x, ?_⟩
    have hfin := HW.out.trans HW7.out
    have e1 : ws ++ sw.1 = ws ++ [me] ++ [ur] ++ [og] ++ (intsW [mo, 1, cl]).1 ++ [Lib.itoa ti] ++ (intsW [gr, si]).1 ++ (hdrsW hd).1 := by rw [HS.out]; simp [reqW]
    have e2 : (bad || !sw.2) = (bad || !textS me || !textS ur || !textS og || !(intsW [mo, 1, cl]).2 || !(intsW [gr, si]).2 || !(hdrsW hd).2) := by rw [HS.out]; simp only [reqW, Bool.not_and, Bool.or_assoc]; rfl
    rw [e1, e2]
    exact hfin
end Go.Proofs.YtajoldboafkpdaaDoor
