-- script.writer: contracts of num, ints.
-- script.writer.ints: contract.
-- script.writer.text: contract.
-- script.writer.headers: contract.
-- script.writer.request: contract.
import Derived.Test.YtajoldboafkpdaaDoorFmtU
import Derived.Test.YtajoldboafkpdaaDoorActs
import Derived.Test.YtajoldboafkpdaaDoorProc
import Derived.Test.YtajoldboafkpdaaDoorInfoS
import Derived.Test.YtajoldboafkpdaaDoorAgg
import Derived.Test.YtajoldboafkpdaaDoorEnv
import Derived.Test.YtajoldboafkpdaaDoorIdx
import Derived.Test.YtajoldboafkpdaaDoorHex
import Derived.Test.YtajoldboafkpdaaDoorToken
namespace Go.Proofs.YtajoldboafkpdaaDoor
set_option linter.unusedSimpArgs false
set_option linter.unusedVariables false
open Go.RowKit Go.Lk
def strV (x : Bs) : Value := .string ⟨x.toArray⟩
/-- A writer at block wb: its words are the program's own row v. -/
structure WrAt (w : World) (base wb : Nat) (v : Value) (ws : List Bs) (bad : Bool) : Prop where
  hb : w.heap[wb]? = some (.cells #[v, .bool bad] 71 (0, 0))
  own : w.ownsRow base 9 1 v ws.length (ws.map strV)
structure WrStep (w w' : World) (base wb : Nat) (v v' : Value) (ws' : List Bs) (bad' : Bool) : Prop where
  at_ : WrAt w' base wb v' ws' bad'
  upd : Upd (wb :: v.ownBlock.toList) w w'
  own : ∀ k, v'.ownBlock = some k → v.ownBlock = some k ∨ w.heap.size ≤ k
theorem WrAt.ne {w : World} {base wb : Nat} {v : Value} {ws : List Bs} {bad : Bool} (h : WrAt w base wb v ws bad) (k : Nat) (hk : v.ownBlock = some k) : k ≠ wb := by
  rintro rfl
  rcases h.own.2 with ⟨rfl, _⟩ | ⟨g, cap, cur, rfl, _, hg, _⟩
  · cases hk
  · simp only [Value.ownBlock, Option.some.injEq] at hk
    subst hk
    rw [h.hb] at hg
    injection hg with hg
    injection hg with _ ht
    revert ht; decide
theorem WrAt.step {w : World} {base wb : Nat} {v : Value} {ws : List Bs} {bad : Bool} (h : WrAt w base wb v ws bad) : WrStep w w base wb v v ws bad := ⟨h, Upd.refl _ _, fun k hk => .inl hk⟩
theorem WrStep.trans {w w1 w2 : World} {base wb : Nat} {v v1 v2 : Value} {ws1 ws2 : List Bs} {b1 b2 : Bool} (h : WrStep w w1 base wb v v1 ws1 b1) (k : WrStep w1 w2 base wb v1 v2 ws2 b2) : WrStep w w2 base wb v v2 ws2 b2 where
  at_ := k.at_
  upd := h.upd.trans k.upd (fun x hx => by
    rcases List.mem_cons.1 hx with rfl | hx
    · exact .inr (by simp)
    · rcases h.own x (by simpa using hx) with h1 | h1
      · exact .inr (by simp [h1])
      · exact .inl h1)
  own := fun x hx => by
    rcases k.own x hx with h1 | h1
    · exact h.own x h1
    · exact .inr (Nat.le_trans h.upd.size h1)
theorem WrAt.upd {w w1 : World} {base wb : Nat} {v : Value} {ws : List Bs} {bad : Bool} {F : List Nat} (h : WrAt w base wb v ws bad) (hu : Upd F w w1) (h1 : wb ∉ F) (h2 : ∀ k, v.ownBlock = some k → k ∉ F) : WrAt w1 base wb v ws bad where
  hb := (hu.block wb (Array.getElem?_eq_some_iff.1 h.hb).1 h1).trans h.hb
  own := own_upd h.own hu h2
/-- One step that leaves all else (draws, new blocks), and then an append and a store: as a step. -/
theorem WrAt.push {w w1 w2 : World} {base wb : Nat} {v v2 : Value} {ws : List Bs} {bad : Bool} (x : Bs) (h : WrAt w base wb v ws bad) (hu : Upd [] w w1) (hown : w2.ownsRow base 9 1 v2 (ws.length + 1) (ws.map strV ++ [strV x])) (hg : w1.grownBy w2 v.ownBlock) (hat : v2.ownBlock = v.ownBlock ∨ v2.ownBlock = some w1.heap.size) :
    WrStep w (w2.setCell ⟨wb, 0, none⟩ v2) base wb v v2 (ws ++ [x]) bad := by
  have hlt := (Array.getElem?_eq_some_iff.1 h.hb).1
  have u2 : Upd v.ownBlock.toList w w2 := (hu.weaken (by simp)).grown hg (fun k hk => .inr (by simp [hk]))
  have hb2 := (u2.block wb hlt (fun hm => h.ne wb (by simpa using hm) rfl)).trans h.hb
  have hsz := hu.size
  have hb3 := (heap_setCell_self hb2 v2 (i := 0)).trans rfl
  refine ⟨⟨hb3, ?_⟩, ?_, ?_⟩
  · have h3 : w2.ownsRow base 9 1 v2 (ws ++ [x]).length ((ws ++ [x]).map strV) := by simpa using hown
    refine own_upd h3 ((Upd.refl [wb] w2).setCell (.inr (by simp)) v2) (fun k hk => ?_)
    rcases hat with e | e
    · rw [e] at hk
      have := h.ne k hk
      simpa using this
    · rw [e] at hk
      injection hk with hk
      simp; omega
  · exact (u2.weaken (G := wb :: v.ownBlock.toList) (fun x hx => .inr (by simp at hx ⊢; exact .inr hx))).setCell (.inr (by simp)) v2
  · intro k hk
    rcases hat with e | e
    · exact .inl (e ▸ hk)
    · rw [e] at hk
      injection hk with hk
      exact .inr (by omega)
theorem WrAt.setBad {w : World} {base wb : Nat} {v : Value} {ws : List Bs} {bad : Bool} (h : WrAt w base wb v ws bad) (b : Bool) : WrStep w (w.setCell ⟨wb, 1, none⟩ (.bool b)) base wb v v ws b where
  at_ := {
    hb := (heap_setCell_self h.hb (.bool b) (i := 1)).trans rfl
    own := own_upd h.own ((Upd.refl [wb] w).setCell (.inr (by simp)) (.bool b)) (fun k hk => by have := h.ne k hk; simpa using this) }
  upd := (Upd.refl _ w).setCell (.inr (by simp)) _
  own := fun k hk => .inl hk
theorem WrAt.slice {w : World} {base wb : Nat} {v : Value} {ws : List Bs} {bad : Bool} (h : WrAt w base wb v ws bad) : ∃ A c, v = .slice A ws.length c := own_slice h.own
set_option maxRecDepth 100000 in
set_option maxHeartbeats 1600000 in
theorem writer_num {w : World} {base wb : Nat} {v : Value} {ws : List Bs} {bad : Bool} (h : WrAt w base wb v ws bad) (hE : Env w) (hb : base ≤ w.heap.size) (hl : ws.length ≤ 1000000) (n : Nat) (hn : n < 18446744073709551616) :
    Calls Tryd.prog 41 #[.pointer (some ⟨wb, 0, none⟩), .int .u64 n] w fun e w' => e = .returned (.tuple #[]) ∧ ∃ v', WrStep w w' base wb v v' (ws ++ [Lib.decDigits n]) bad := by
  obtain ⟨i0, hi, hz0, hz1, hz2⟩ := info_parts Tryd.infoString
  obtain ⟨A, c, rfl⟩ := h.slice
  have c0 := cell_of (i := 0) h.hb rfl
  have f0 : w.frozen? ⟨wb, 0, none⟩ = false := free_of h.hb
  simp only [List.getElem_toArray, List.getElem_cons_zero] at c0
  have HH := Lib.hid h; have HE := Lib.hid hE; clear h hE
  go_enter Tryd.func41, Tryd.ntmps41
  go_wp2_with fail
  refine wp_region_proc [(0, 0), (1, 0), (2, 0), (3, 0), (4, 0), (5, 0), (6, 1), (7, 1), (8, 1), (9, 0), (10, 0), (11, 2)] (fun W => W.cell? ⟨wb, 0, none⟩ = some (.slice A ws.length c)) (by kernel_rfl) (by kernel_rfl) (fun c a w t v h => by cases t <;> exact h) c0 ?_
  repeat
    (first
      | (apply proc_held
         case ho => simp only [List.getElem?_toArray, List.getElem?_cons_succ, List.getElem?_cons_zero]; rfl
         case hg => rfl
         case hv => intro W hW; (try dsimp only at hW); go_simp; rfl
         case ha => go_simp; rfl)
      | (apply proc_held_on
         case ho => simp only [List.getElem?_toArray, List.getElem?_cons_succ, List.getElem?_cons_zero]; rfl
         case hg => rfl
         case hv => intro W hW; (try dsimp only at hW); go_simp; rfl
         case ha => go_simp; rfl)
      | (apply proc_off
         case ho => simp only [List.getElem?_toArray, List.getElem?_cons_succ, List.getElem?_cons_zero]; rfl
         case hg => rfl
         case ha => go_simp; rfl))
  apply proc_eff
  case ho => simp only [List.getElem?_toArray, List.getElem?_cons_succ, List.getElem?_cons_zero]; rfl
  simp only [World.drew_eq]
  go_wp2_with fail
  refine (strconv_formatUint (HE.out.upd0 ((Upd.refl [] w).drewN 1)) n hn).mono ?_
  rintro e w1 ⟨rfl, hu1⟩
  have U1 := Lib.hid (((Upd.refl [] w).drewN 1).trans hu1 (by simp)); clear hu1
  have H1 := Lib.hid (HH.out.upd U1.out (by simp) (by simp))
  have c1 : w1.cell? ⟨wb, 0, none⟩ = some (.slice A ws.length c) := cell_of (i := 0) H1.out.hb rfl
  go_wp2_with fail
  refine ⟨_, fun _ h => h, c1, ?_⟩
  apply proc_eff
  case ho => simp only [List.getElem?_toArray, List.getElem?_cons_succ, List.getElem?_cons_zero]; rfl
  go_wp2_with fail
  have U2 := Lib.hid (U1.out.alloc (.cells #[strV (Lib.decDigits n)] 9))
  have H2 := Lib.hid (HH.out.upd U2.out (by simp) (by simp))
  have c2 : (w1.alloc (.cells #[strV (Lib.decDigits n)] 9)).cell? ⟨wb, 0, none⟩ = some (.slice A ws.length c) := cell_of (i := 0) H2.out.hb rfl
  refine ⟨_, fun _ h => h, c2, ?_⟩
  apply proc_eff
  case ho => simp only [List.getElem?_toArray, List.getElem?_cons_succ, List.getElem?_cons_zero]; rfl
  refine wpList_append_src _ rfl (.tmp 8) (.tmp 11) 58 rfl base 9 i0 (.string ⟨#[]⟩) 1 16 Tryd.underlying58 hi hz0 hz1 hz2 rfl (by decide) (.slice A ws.length c) ws.length (ws.map strV) rfl H2.out.own (some ⟨w1.heap.size, 0, none⟩) 1 1 [strV (Lib.decDigits n)] rfl (by simp) (cellsAt_new _ _ _) (by simp [strV, Value.oneCell']) (by unfold maxLen; omega) (by omega) (Nat.le_trans hb U2.out.size) ?_
  intro v3 w3 hown3 hg3 hat3
  have hp := HH.out.push (Lib.decDigits n) U2.out hown3 hg3 hat3
  obtain ⟨A3, c3, rfl⟩ := own_slice hown3
  have hb3 := ((Upd.refl (Value.slice A ws.length c).ownBlock.toList _).grown hg3 (fun k hk => .inr (by simp [hk]))).block wb (Array.getElem?_eq_some_iff.1 H2.out.hb).1 (fun hm => H2.out.ne wb (by simpa using hm) rfl) |>.trans H2.out.hb
  have c3 := cell_of (i := 0) hb3 rfl
  have f3 : w3.frozen? ⟨wb, 0, none⟩ = false := free_of hb3
  simp only [List.getElem_toArray, List.getElem_cons_zero] at c3
  have HP := Lib.hid hp; clear hp hown3 hg3 hat3 hb3
  go_wp2_with fail
  refine ⟨_, fun _ h => h, c3, ?_⟩
  repeat
    (first
      | (apply proc_held
         case ho => simp only [List.getElem?_toArray, List.getElem?_cons_succ, List.getElem?_cons_zero]; rfl
         case hg => rfl
         case hv => intro W hW; (try dsimp only at hW); go_simp; rfl
         case ha => go_simp; rfl)
      | (apply proc_held_on
         case ho => simp only [List.getElem?_toArray, List.getElem?_cons_succ, List.getElem?_cons_zero]; rfl
         case hg => rfl
         case hv => intro W hW; (try dsimp only at hW); go_simp; rfl
         case ha => go_simp; rfl)
      | (apply proc_off
         case ho => simp only [List.getElem?_toArray, List.getElem?_cons_succ, List.getElem?_cons_zero]; rfl
         case hg => rfl
         case ha => go_simp; rfl))
  apply proc_last
  case ho => simp only [List.getElem?_toArray, List.getElem?_cons_succ, List.getElem?_cons_zero]; rfl
  go_wp2_with fail
  refine ⟨fun _ => True, trivial, ?_⟩
  refine proc_nil ?_
  go_wp2_with fail
  go_end0
  exact ⟨rfl, _, HP.out⟩
end Go.Proofs.YtajoldboafkpdaaDoor
namespace Go.Proofs.YtajoldboafkpdaaDoor
set_option linter.unusedSimpArgs false
set_option linter.unusedVariables false
open Go.RowKit Go.Lk
/-- Cells that hold numbers. -/
def IntsAt (w : World) (A : Option Addr) (l : List Int) : Prop := ∀ (j : Nat) x, l[j]? = some x → ∃ ab ao, A = some ⟨ab, ao, none⟩ ∧ w.cell? ⟨ab, ao + j, none⟩ = some (.int .i64 x)
theorem IntsAt.upd {w w1 : World} {F : List Nat} {A : Option Addr} {l : List Int} (h : IntsAt w A l) (hu : Upd F w w1) (hF : ∀ ab ao, A = some ⟨ab, ao, none⟩ → ab ∉ F) : IntsAt w1 A l := fun j x hj => by
  obtain ⟨ab, ao, e, hc⟩ := h j x hj
  exact ⟨ab, ao, e, (World.cell?_of_block (hu.block ab (World.block_lt_of_cell? _ _ hc) (hF ab ao e))).trans hc⟩
theorem IntsAt.lt {w : World} {A : Option Addr} {l : List Int} (h : IntsAt w A l) (hl : l ≠ []) (ab ao : Nat) (e : A = some ⟨ab, ao, none⟩) : ab < w.heap.size := by
  obtain ⟨x, hx⟩ : ∃ x, l[0]? = some x := ⟨l[0]'(List.length_pos_iff.2 hl), by simp [List.length_pos_iff.2 hl]⟩
  obtain ⟨ab', ao', e', hc⟩ := h 0 x hx
  rw [e] at e'
  injection e' with e'
  injection e' with e'
  subst e'
  exact World.block_lt_of_cell? _ _ hc
theorem IntsAt.nil (w : World) (A : Option Addr) : IntsAt w A [] := fun j x hj => by cases hj
set_option maxRecDepth 100000 in
set_option maxHeartbeats 1600000 in
theorem writer_ints {w : World} {base wb : Nat} {v : Value} {ws : List Bs} {bad : Bool} (h : WrAt w base wb v ws bad) (hE : Env w) (hb : base ≤ w.heap.size) (hl : ws.length ≤ 1000000) (hg : gfree wb ∧ gfree base)
    {A : Option Addr} {c : Nat} {l : List Int} (hA : IntsAt w A l) (hll : l.length ≤ 1000000) (hA1 : ∀ ab ao, A = some ⟨ab, ao, none⟩ → l ≠ [] → ab ≠ wb ∧ v.ownBlock ≠ some ab) (hr : ∀ x ∈ l, -9223372036854775808 ≤ x ∧ x ≤ 9223372036854775807) :
    Calls Tryd.prog 39 #[.pointer (some ⟨wb, 0, none⟩), .slice A l.length c] w fun e w' => e = .returned (.tuple #[]) ∧ ∃ v', WrStep w w' base wb v v' (ws ++ (intsW l).1) (bad || !(intsW l).2) := by
  obtain ⟨i0, hi, hz0, hz1, hz2⟩ := info_parts Tryd.infoString
  have hbw : base ≤ w.heap.size := hb
  have HH := Lib.hid h; have HE := Lib.hid hE; have HA := Lib.hid hA; have HA1 := Lib.hid hA1; clear h hE hA hA1
  obtain ⟨sw, hsw⟩ : ∃ sw, sw = intsW l := ⟨_, rfl⟩
  have HS := Lib.hid hsw
  rw [← hsw]
  clear hsw
  go_enter Tryd.func39, Tryd.ntmps39
  go_wp2_with fail
  go_loopw [8] (fun v8 wr => ∃ (k : Nat) (v' : Value), k ≤ l.length ∧ v8 = .int .i64 k ∧ WrStep w wr base wb v v' (ws ++ (intsW (l.take k)).1) (bad || !(intsW (l.take k)).2)) (fun v8 _ => l.length - (intOf v8).toNat)
  case atStart => exact ⟨0, v, by omega, rfl, by simpa [intsW] using HH.out.step⟩
  case round =>
    obtain ⟨k, v1, hk, rfl, hst⟩ := hrel
    have HST := Lib.hid hst; clear hst
    by_cases hlt : k < l.length
    · obtain ⟨x, hx⟩ : ∃ x, x = l[k] := ⟨_, rfl⟩
      have hE1 : Env wr := HE.out.upd HST.out.upd (fun y hy => by
        rcases List.mem_cons.1 hy with rfl | hy
        · exact hg.1
        · have := own_ge HH.out.own y (by simpa using hy)
          have := hg.2
          unfold gfree at *; omega)
      have hrx := hr x (by rw [hx]; exact List.getElem_mem hlt)
      obtain ⟨ab, ao, hAe, hcell0⟩ := HA.out k x (by simp [hx, hlt])
      subst hAe
      have hab := HA1.out ab ao rfl (fun h0 => by rw [h0] at hlt; simp at hlt)
      have hcell : wr.cell? ⟨ab, ao + k, none⟩ = some (.int .i64 x) := (World.cell?_of_block (HST.out.upd.block ab (World.block_lt_of_cell? _ _ hcell0) (by
        intro hm
        rcases List.mem_cons.1 hm with e | hm
        · exact hab.1 e
        · exact hab.2 (by simpa using hm)))).trans hcell0
      have HE1 := Lib.hid hE1; clear hE1 hcell0
      have hi2 : (intsW (l.take (k + 1))).1 = (intsW (l.take k)).1 ++ [Lib.itoa x] := by
        rw [List.take_succ_eq_append_getElem hlt, ← hx]; simp [intsW]
      have hi3 : (intsW (l.take (k + 1))).2 = ((intsW (l.take k)).2 && decide (0 ≤ x)) := by
        rw [List.take_succ_eq_append_getElem hlt, ← hx]; simp [intsW]
      have hil : (intsW (l.take k)).1.length = k := by simp [intsW]; omega
      have hwl : (ws ++ (intsW (l.take k)).1).length ≤ 2000000 := by rw [List.length_append]; omega
      obtain ⟨wk, hwk⟩ : ∃ wk, wk = ws ++ (intsW (l.take k)).1 := ⟨_, rfl⟩
      obtain ⟨bk, hbk⟩ : ∃ bk, bk = (bad || !(intsW (l.take k)).2) := ⟨_, rfl⟩
      have hst := HST.out
      rw [← hwk, ← hbk] at hst
      rw [← hwk] at hwl
      have HW := Lib.hid hwk; have HBK := Lib.hid hbk; have HI2 := Lib.hid hi2; have HI3 := Lib.hid hi3; have HX := Lib.hid hx
      clear hwk hbk hi2 hi3 hil hx HST
      obtain ⟨A1, ca, rfl⟩ := hst.at_.slice
      have c0 := cell_of (i := 0) hst.at_.hb rfl
      simp only [List.getElem_toArray, List.getElem_cons_zero] at c0
      have hbs : base ≤ wr.heap.size := Nat.le_trans hbw hst.upd.size
      have HST := Lib.hid hst; clear hst
      go_wp2_with fail
      refine wp_region_proc [(0, 0), (1, 0), (2, 0), (3, 0), (4, 0), (5, 0), (6, 1), (7, 1), (8, 1), (9, 0), (10, 0), (11, 2)] (fun W => W.cell? ⟨wb, 0, none⟩ = some (.slice A1 wk.length ca)) (by kernel_rfl) (by kernel_rfl) (fun c a w t v h => by cases t <;> exact h) c0 ?_
      repeat
        (first
          | (apply proc_held
             case ho => simp only [List.getElem?_toArray, List.getElem?_cons_succ, List.getElem?_cons_zero]; rfl
             case hg => rfl
             case hv => intro W hW; (try dsimp only at hW); go_simp; rfl
             case ha => go_simp; rfl)
          | (apply proc_held_on
             case ho => simp only [List.getElem?_toArray, List.getElem?_cons_succ, List.getElem?_cons_zero]; rfl
             case hg => rfl
             case hv => intro W hW; (try dsimp only at hW); go_simp; rfl
             case ha => go_simp; rfl)
          | (apply proc_off
             case ho => simp only [List.getElem?_toArray, List.getElem?_cons_succ, List.getElem?_cons_zero]; rfl
             case hg => rfl
             case ha => go_simp; rfl))
      apply proc_eff
      case ho => simp only [List.getElem?_toArray, List.getElem?_cons_succ, List.getElem?_cons_zero]; rfl
      simp only [World.drew_eq]
      go_wp2_with fail
      refine (strconv_itoa (HE1.out.upd0 ((Upd.refl [] wr).drewN 1)) x hrx.1 hrx.2).mono ?_
      rintro e w1 ⟨rfl, hu1⟩
      have U1 := Lib.hid (((Upd.refl [] wr).drewN 1).trans hu1 (by simp)); clear hu1
      have H1 := Lib.hid (HST.out.at_.upd U1.out (by simp) (by simp))
      have c1 : w1.cell? ⟨wb, 0, none⟩ = some (.slice A1 wk.length ca) := cell_of (i := 0) H1.out.hb rfl
      go_wp2_with fail
      refine ⟨_, fun _ h => h, c1, ?_⟩
      apply proc_eff
      case ho => simp only [List.getElem?_toArray, List.getElem?_cons_succ, List.getElem?_cons_zero]; rfl
      go_wp2_with fail
      have U2 := Lib.hid (U1.out.alloc (.cells #[strV (Lib.itoa x)] 9))
      have H2 := Lib.hid (HST.out.at_.upd U2.out (by simp) (by simp))
      have c2 : (w1.alloc (.cells #[strV (Lib.itoa x)] 9)).cell? ⟨wb, 0, none⟩ = some (.slice A1 wk.length ca) := cell_of (i := 0) H2.out.hb rfl
      refine ⟨_, fun _ h => h, c2, ?_⟩
      apply proc_eff
      case ho => simp only [List.getElem?_toArray, List.getElem?_cons_succ, List.getElem?_cons_zero]; rfl
      refine wpList_append_src _ rfl (.tmp 16) (.tmp 19) 58 rfl base 9 i0 (.string ⟨#[]⟩) 1 16 Tryd.underlying58 hi hz0 hz1 hz2 rfl (by decide) (.slice A1 wk.length ca) wk.length (wk.map strV) rfl H2.out.own (some ⟨w1.heap.size, 0, none⟩) 1 1 [strV (Lib.itoa x)] rfl (by simp) (cellsAt_new _ _ _) (by simp [strV, Value.oneCell']) (by unfold maxLen; omega) (by omega) (Nat.le_trans hbs U2.out.size) ?_
      intro v3 w3 hown3 hg3 hat3
      have hp := HST.out.at_.push (Lib.itoa x) U2.out hown3 hg3 hat3
      obtain ⟨A3, cb, rfl⟩ := own_slice hown3
      have hb3 := ((Upd.refl (Value.slice A1 wk.length ca).ownBlock.toList _).grown hg3 (fun k hk => .inr (by simp [hk]))).block wb (Array.getElem?_eq_some_iff.1 H2.out.hb).1 (fun hm => H2.out.ne wb (by simpa using hm) rfl) |>.trans H2.out.hb
      have c3 := cell_of (i := 0) hb3 rfl
      have f3 : w3.frozen? ⟨wb, 0, none⟩ = false := free_of hb3
      simp only [List.getElem_toArray, List.getElem_cons_zero] at c3
      have HP := Lib.hid hp; clear hp hown3 hg3 hat3 hb3
      go_wp2_with fail
      refine ⟨_, fun _ h => h, c3, ?_⟩
      repeat
        (first
          | (apply proc_held
             case ho => simp only [List.getElem?_toArray, List.getElem?_cons_succ, List.getElem?_cons_zero]; rfl
             case hg => rfl
             case hv => intro W hW; (try dsimp only at hW); go_simp; rfl
             case ha => go_simp; rfl)
          | (apply proc_held_on
             case ho => simp only [List.getElem?_toArray, List.getElem?_cons_succ, List.getElem?_cons_zero]; rfl
             case hg => rfl
             case hv => intro W hW; (try dsimp only at hW); go_simp; rfl
             case ha => go_simp; rfl)
          | (apply proc_off
             case ho => simp only [List.getElem?_toArray, List.getElem?_cons_succ, List.getElem?_cons_zero]; rfl
             case hg => rfl
             case ha => go_simp; rfl))
      apply proc_last
      case ho => simp only [List.getElem?_toArray, List.getElem?_cons_succ, List.getElem?_cons_zero]; rfl
      go_wp2_with fail
      refine ⟨fun _ => True, trivial, ?_⟩
      refine proc_nil ?_
      have c4 := cell_of (i := 1) HP.out.at_.hb rfl
      have f4 := free_of (i := 1) HP.out.at_.hb
      simp only [List.getElem_toArray, List.getElem_cons_zero, List.getElem_cons_succ] at c4
      have HN := Lib.hid (HP.out.at_.setBad (bk || decide (x < 0)))
      have HF := Lib.hid (HST.out.trans (HP.out.trans HN.out))
      have hbool : (bad || !(intsW (l.take (k + 1))).2) = (bk || decide (x < 0)) := by
        rw [HI3.out, HBK.out]
        have : decide (x < 0) = !decide (0 ≤ x) := by by_cases h0 : 0 ≤ x <;> simp [h0] <;> omega
        rw [this]
        cases bad <;> cases (intsW (l.take k)).2 <;> simp
      have hrel2 : WrStep w ((w3.setCell ⟨wb, 0, none⟩ (.slice A3 (wk.length + 1) cb)).setCell ⟨wb, 1, none⟩ (.bool (bk || decide (x < 0)))) base wb v (.slice A3 (wk.length + 1) cb) (ws ++ (intsW (l.take (k + 1))).1) (bad || !(intsW (l.take (k + 1))).2) := by
        rw [hbool, HI2.out, ← List.append_assoc, ← HW.out]
        exact HF.out
      have HR2 := Lib.hid hrel2; clear hrel2 hbool
      cases bk
      · go_wp2_with fail
        refine ⟨⟨k + 1, _, by omega, by go_num, by simpa using HR2.out⟩, by simp [intOf]; omega⟩
      · go_wp2_with fail
        refine ⟨⟨k + 1, _, by omega, by go_num, by simpa using HR2.out⟩, by simp [intOf]; omega⟩
    · obtain rfl : k = l.length := by omega
      have hst := HST.out
      rw [List.take_length, ← HS.out] at hst
      have HST2 := Lib.hid hst; clear hst
      go_wp2_with fail
      go_end0
      exact ⟨rfl, _, HST2.out⟩
end Go.Proofs.YtajoldboafkpdaaDoor
namespace Go.Proofs.YtajoldboafkpdaaDoor
set_option linter.unusedSimpArgs false
set_option linter.unusedVariables false
open Go.RowKit Go.Lk
set_option maxRecDepth 100000 in
set_option maxHeartbeats 1600000 in
theorem writer_text {w : World} {base wb : Nat} {v : Value} {ws : List Bs} {bad : Bool} (h : WrAt w base wb v ws bad) (hb : base ≤ w.heap.size) (hl : ws.length ≤ 1000000) (s : Bs) (hs : s.length ≤ 1000000) :
    Calls Tryd.prog 61 #[.pointer (some ⟨wb, 0, none⟩), .string ⟨s.toArray⟩] w fun e w' => e = .returned (.tuple #[]) ∧ ∃ v', WrStep w w' base wb v v' (ws ++ [s]) (bad || !textS s) := by
  obtain ⟨i0, hi, hz0, hz1, hz2⟩ := info_parts Tryd.infoString
  obtain ⟨A, c, rfl⟩ := h.slice
  have c0 := cell_of (i := 0) h.hb rfl
  have f0 : w.frozen? ⟨wb, 0, none⟩ = false := free_of h.hb
  simp only [List.getElem_toArray, List.getElem_cons_zero] at c0
  have HH := Lib.hid h; clear h
  have U2 := Lib.hid ((Upd.refl [] w).alloc (.cells #[strV s] 9))
  have H2 := Lib.hid (HH.out.upd U2.out (by simp) (by simp))
  go_enter Tryd.func61, Tryd.ntmps61
  go_upto_region 1 with (at_builtin; refine wpList_append_src _ rfl (.tmp 9) (.tmp 11) 58 rfl base 9 i0 (.string ⟨#[]⟩) 1 16 Tryd.underlying58 hi hz0 hz1 hz2 rfl (by decide) (.slice A ws.length c) ws.length (ws.map strV) rfl H2.out.own (some ⟨w.heap.size, 0, none⟩) 1 1 [strV s] rfl (by simp) (cellsAt_new _ _ _) (by simp [strV, Value.oneCell']) (by unfold maxLen; omega) (by omega) (Nat.le_trans hb U2.out.size) ?_)
  intro v3 w3 hown3 hg3 hat3
  have hp := HH.out.push s U2.out hown3 hg3 (by rcases hat3 with e | e; exact .inl e; exact .inr (by rw [e]; simp))
  obtain ⟨A3, cb, rfl⟩ := own_slice hown3
  have hb3 := ((Upd.refl (Value.slice A ws.length c).ownBlock.toList _).grown hg3 (fun k hk => .inr (by simp [hk]))).block wb (Array.getElem?_eq_some_iff.1 H2.out.hb).1 (fun hm => H2.out.ne wb (by simpa using hm) rfl) |>.trans H2.out.hb
  have c3 := cell_of (i := 0) hb3 rfl
  have f3 : w3.frozen? ⟨wb, 0, none⟩ = false := free_of hb3
  have c4 := cell_of (i := 1) hb3 rfl
  have f4 : w3.frozen? ⟨wb, 1, none⟩ = false := free_of hb3
  simp only [List.getElem_toArray, List.getElem_cons_zero, List.getElem_cons_succ] at c3 c4
  have HP := Lib.hid hp; clear hp hown3 hg3 hat3 hb3 c0 f0
  have HN := Lib.hid (HP.out.trans (HP.out.at_.setBad (bad || s.isEmpty)))
  go_upto_region 1 with fail
  go_cut [] from 15 to 25 (fun wz => WrStep w wz base wb (.slice A ws.length c) (.slice A3 (ws.length + 1) cb) (ws ++ [s]) (bad || s.isEmpty))
  case first =>
    cases bad
    · go_wp2_with fail
      go_meet
      case rel => exact HN.out
    · go_wp2_with fail
      go_meet
      case rel => exact HN.out
  case rest =>
    clear HN c3 f3 c4 f4
    have HC := Lib.hid hcut; clear hcut
    have hnil : (bad || s.isEmpty) = (bad || !(decide (s ≠ []) && (s.take 0).all seenC)) := by cases s <;> simp
    have HNIL := Lib.hid hnil; clear hnil
    go_wp2_with fail
    go_loopw [28] (fun v28 wr => ∃ (k : Nat), k ≤ s.length ∧ v28 = .int .i64 k ∧ WrStep w wr base wb (.slice A ws.length c) (.slice A3 (ws.length + 1) cb) (ws ++ [s]) (bad || !(decide (s ≠ []) && (s.take k).all seenC))) (fun v28 _ => s.length - (intOf v28).toNat)
    case atStart => exact ⟨0, by omega, rfl, by rw [← HNIL.out]; exact HC.out⟩
    case round =>
      obtain ⟨k, hk, rfl, hst⟩ := hrel
      have HST := Lib.hid hst; clear hst
      by_cases hlt : k < s.length
      · have hg := get_list s k hlt
        obtain ⟨x, hx⟩ : ∃ x, x = s[k] := ⟨_, rfl⟩
        have hk1 : (s.take (k + 1)).all seenC = ((s.take k).all seenC && seenC x) := by rw [List.take_succ_eq_append_getElem hlt, ← hx]; simp
        rw [← hx] at hg
        obtain ⟨bk, hbk⟩ : ∃ bk, bk = (bad || !(decide (s ≠ []) && (s.take k).all seenC)) := ⟨_, rfl⟩
        have hb2 : (bad || !(decide (s ≠ []) && (s.take (k + 1)).all seenC)) = (bk || !seenC x) := by
          rw [hk1, hbk]
          cases bad <;> cases (decide (s ≠ [])) <;> cases ((s.take k).all seenC) <;> cases (seenC x) <;> rfl
        have hst := HST.out
        rw [← hbk] at hst
        have c4 := cell_of (i := 1) hst.at_.hb rfl
        have f4 := free_of (i := 1) hst.at_.hb
        simp only [List.getElem_toArray, List.getElem_cons_zero, List.getElem_cons_succ] at c4
        have HF := Lib.hid (hst.trans (hst.at_.setBad (bk || !seenC x)))
        have hsx : seenC x = (decide (33 ≤ x.toNat) && decide (x.toNat ≤ 126)) := rfl
        have HB2 := Lib.hid hb2
        clear hb2 hbk hst hk1 hx HST
        cases bk
        · by_cases h33 : x.toNat < 33
          · have e1 : (false || !seenC x) = true := by rw [hsx, decide_eq_false (by omega : ¬ 33 ≤ x.toNat)]; rfl
            have hF := HF.out
            rw [e1] at hF
            have HF2 := Lib.hid hF
            have HB3 := Lib.hid (HB2.out.trans e1)
            clear hF e1 hsx
            go_wp2_with fail
            exact ⟨⟨k + 1, by omega, by go_num, by rw [HB3.out]; exact HF2.out⟩, by simp [intOf]; omega⟩
          · by_cases h126 : 126 < x.toNat
            · have e1 : (false || !seenC x) = true := by rw [hsx, decide_eq_false (by omega : ¬ x.toNat ≤ 126)]; simp
              have hF := HF.out
              rw [e1] at hF
              have HF2 := Lib.hid hF
              have HB3 := Lib.hid (HB2.out.trans e1)
              clear hF e1 hsx
              go_wp2_with fail
              exact ⟨⟨k + 1, by omega, by go_num, by rw [HB3.out, show (decide ((x.toNat : Int) < 33) || decide (126 < (x.toNat : Int))) = true by rw [decide_eq_true (by omega : 126 < (x.toNat : Int))]; simp]; exact HF2.out⟩, by simp [intOf]; omega⟩
            · have e1 : (false || !seenC x) = false := by rw [hsx, decide_eq_true (by omega : 33 ≤ x.toNat), decide_eq_true (by omega : x.toNat ≤ 126)]; rfl
              have hF := HF.out
              rw [e1] at hF
              have HF2 := Lib.hid hF
              have HB3 := Lib.hid (HB2.out.trans e1)
              clear hF e1 hsx
              go_wp2_with fail
              exact ⟨⟨k + 1, by omega, by go_num, by rw [HB3.out, show (decide ((x.toNat : Int) < 33) || decide (126 < (x.toNat : Int))) = false by rw [decide_eq_false (by omega : ¬ 126 < (x.toNat : Int)), decide_eq_false (by omega : ¬ (x.toNat : Int) < 33)]; rfl]; exact HF2.out⟩, by simp [intOf]; omega⟩
        · have e1 : (true || !seenC x) = true := rfl
          have hF := HF.out
          rw [e1] at hF
          have HF2 := Lib.hid hF
          have HB3 := Lib.hid (HB2.out.trans e1)
          clear hF e1 hsx
          go_wp2_with fail
          exact ⟨⟨k + 1, by omega, by go_num, by rw [HB3.out]; exact HF2.out⟩, by simp [intOf]; omega⟩
      · obtain rfl : k = s.length := by omega
        have hst := HST.out
        rw [List.take_length] at hst
        have HST2 := Lib.hid hst; clear hst
        go_wp2_with fail
        go_end0
        exact ⟨rfl, _, HST2.out⟩
end Go.Proofs.YtajoldboafkpdaaDoor
namespace Go.Proofs.YtajoldboafkpdaaDoor
set_option linter.unusedSimpArgs false
set_option linter.unusedVariables false
open Go.RowKit Go.Lk
/-- Cells that hold headers. -/
def HdrsAt (w : World) (A : Option Addr) (l : List (Bs × Bs)) : Prop := ∀ (j : Nat) h, l[j]? = some h → ∃ ab ao, A = some ⟨ab, ao, none⟩ ∧ w.cell? ⟨ab, ao + j * 2, none⟩ = some (strV h.1) ∧ w.cell? ⟨ab, ao + j * 2 + 1, none⟩ = some (strV h.2)
theorem HdrsAt.upd {w w1 : World} {F : List Nat} {A : Option Addr} {l : List (Bs × Bs)} (h : HdrsAt w A l) (hu : Upd F w w1) (hF : ∀ ab ao, A = some ⟨ab, ao, none⟩ → ab ∉ F) : HdrsAt w1 A l := fun j x hj => by
  obtain ⟨ab, ao, e, hc, hd⟩ := h j x hj
  exact ⟨ab, ao, e, (World.cell?_of_block (hu.block ab (World.block_lt_of_cell? _ _ hc) (hF ab ao e))).trans hc, (World.cell?_of_block (hu.block ab (World.block_lt_of_cell? _ _ hc) (hF ab ao e))).trans hd⟩
theorem HdrsAt.nil (w : World) (A : Option Addr) : HdrsAt w A [] := fun j x hj => by cases hj
theorem HdrsAt.lt {w : World} {A : Option Addr} {l : List (Bs × Bs)} (h : HdrsAt w A l) (hl : l ≠ []) (ab ao : Nat) (e : A = some ⟨ab, ao, none⟩) : ab < w.heap.size := by
  obtain ⟨x, hx⟩ : ∃ x, l[0]? = some x := ⟨l[0]'(List.length_pos_iff.2 hl), by simp [List.length_pos_iff.2 hl]⟩
  obtain ⟨ab', ao', e', hc, _⟩ := h 0 x hx
  rw [e] at e'
  injection e' with e'
  injection e' with e'
  subst e'
  exact World.block_lt_of_cell? _ _ hc
set_option maxRecDepth 100000 in
set_option maxHeartbeats 1600000 in
theorem writer_headers {w : World} {base wb : Nat} {v : Value} {ws : List Bs} {bad : Bool} (h : WrAt w base wb v ws bad) (hE : Env w) (hb : base ≤ w.heap.size) (hl : ws.length ≤ 1000000) (hg : gfree wb ∧ gfree base)
    {A : Option Addr} {c : Nat} {l : List (Bs × Bs)} (hA : HdrsAt w A l) (hll : l.length ≤ 1000000) (hA1 : ∀ ab ao, A = some ⟨ab, ao, none⟩ → l ≠ [] → ab ≠ wb ∧ v.ownBlock ≠ some ab) (hr : ∀ x ∈ l, x.1.length ≤ 1000000 ∧ x.2.length ≤ 1000000) :
    Calls Tryd.prog 42 #[.pointer (some ⟨wb, 0, none⟩), .slice A l.length c] w fun e w' => e = .returned (.tuple #[]) ∧ ∃ v', WrStep w w' base wb v v' (ws ++ (hdrsW l).1) (bad || !(hdrsW l).2) := by
  obtain ⟨i0, hi, hz0, hz1, hz2⟩ := info_parts Tryd.infoString
  have hbw : base ≤ w.heap.size := hb
  have HH := Lib.hid h; have HE := Lib.hid hE; have HA := Lib.hid hA; have HA1 := Lib.hid hA1; clear h hE hA hA1
  obtain ⟨sw, hsw⟩ : ∃ sw, sw = hdrsW l := ⟨_, rfl⟩
  have HS := Lib.hid hsw
  rw [← hsw]
  clear hsw
  go_enter Tryd.func42, Tryd.ntmps42
  go_wp2_with fail
  go_loopw [8] (fun v8 wr => ∃ (k : Nat) (v' : Value), k ≤ l.length ∧ v8 = .int .i64 k ∧ WrStep w wr base wb v v' (ws ++ (hdrsW (l.take k)).1) (bad || !(hdrsW (l.take k)).2)) (fun v8 _ => l.length - (intOf v8).toNat)
  case atStart => exact ⟨0, v, by omega, rfl, by simpa [hdrsW] using HH.out.step⟩
  case round =>
    obtain ⟨k, v1, hk, rfl, hst⟩ := hrel
    have HST := Lib.hid hst; clear hst
    by_cases hlt : k < l.length
    · obtain ⟨x, hx⟩ : ∃ x, x = l[k] := ⟨_, rfl⟩
      have hE1 : Env wr := HE.out.upd HST.out.upd (fun y hy => by
        rcases List.mem_cons.1 hy with rfl | hy
        · exact hg.1
        · have := own_ge HH.out.own y (by simpa using hy)
          have := hg.2
          unfold gfree at *; omega)
      have hrx := hr x (by rw [hx]; exact List.getElem_mem hlt)
      obtain ⟨ab, ao, hAe, hcell0, hcell1⟩ := HA.out k x (by simp [hx, hlt])
      subst hAe
      have hab := HA1.out ab ao rfl (fun h0 => by rw [h0] at hlt; simp at hlt)
      have habl := World.block_lt_of_cell? _ _ hcell0
      have hblk := HST.out.upd.block ab habl (by
        intro hm
        rcases List.mem_cons.1 hm with e | hm
        · exact hab.1 e
        · exact hab.2 (by simpa using hm))
      have hcell : wr.cell? ⟨ab, ao + k * 2, none⟩ = some (.string ⟨x.1.toArray⟩) := (World.cell?_of_block hblk).trans hcell0
      have hcelly : wr.cell? ⟨ab, ao + k * 2 + 1, none⟩ = some (.string ⟨x.2.toArray⟩) := (World.cell?_of_block hblk).trans hcell1
      have HE1 := Lib.hid hE1; clear hE1 hcell0 hcell1 hblk
      have hi2 : (hdrsW (l.take (k + 1))).1 = (hdrsW (l.take k)).1 ++ [hdrW x] := by
        rw [List.take_succ_eq_append_getElem hlt, ← hx]; simp [hdrsW]
      have hi3 : (hdrsW (l.take (k + 1))).2 = ((hdrsW (l.take k)).2 && tokenS x.1) := by
        rw [List.take_succ_eq_append_getElem hlt, ← hx]; simp [hdrsW]
      have hil : (hdrsW (l.take k)).1.length = k := by simp [hdrsW]; omega
      have hwl : (ws ++ (hdrsW (l.take k)).1).length ≤ 2000000 := by rw [List.length_append]; omega
      obtain ⟨wk, hwk⟩ : ∃ wk, wk = ws ++ (hdrsW (l.take k)).1 := ⟨_, rfl⟩
      obtain ⟨bk, hbk⟩ : ∃ bk, bk = (bad || !(hdrsW (l.take k)).2) := ⟨_, rfl⟩
      have hst := HST.out
      rw [← hwk, ← hbk] at hst
      rw [← hwk] at hwl
      have HW := Lib.hid hwk; have HBK := Lib.hid hbk; have HI2 := Lib.hid hi2; have HI3 := Lib.hid hi3; have HX := Lib.hid hx
      clear hwk hbk hi2 hi3 hil hx HST
      obtain ⟨A1, ca, rfl⟩ := hst.at_.slice
      have hbs : base ≤ wr.heap.size := Nat.le_trans hbw hst.upd.size
      have HST := Lib.hid hst; clear hst
      obtain ⟨x1, x2⟩ := x
      simp only at hrx
      go_upto_region 3 with fail
      have U0 := Lib.hid ((Upd.refl [] wr).alloc (.cells #[.string ⟨x1.toArray⟩, .string ⟨x2.toArray⟩] 100))
      have b0 := heap_alloc_self (w := wr) (.cells #[.string ⟨x1.toArray⟩, .string ⟨x2.toArray⟩] 100)
      have H0 := Lib.hid (HST.out.at_.upd U0.out (by simp) (by simp))
      generalize hw0 : wr.alloc (.cells #[.string ⟨x1.toArray⟩, .string ⟨x2.toArray⟩] 100) = w0 at *
      have c0 : w0.cell? ⟨wb, 0, none⟩ = some (.slice A1 wk.length ca) := cell_of (i := 0) H0.out.hb rfl
      have d0 : w0.cell? ⟨wr.heap.size, 0, none⟩ = some (.string ⟨x1.toArray⟩) := cell_of (i := 0) b0 rfl
      have d1 : w0.cell? ⟨wr.heap.size, 1, none⟩ = some (.string ⟨x2.toArray⟩) := cell_of (i := 1) b0 rfl
      have B0 := Lib.hid b0; clear b0
      refine wp_region_proc [(0, 0), (1, 0), (2, 0), (3, 0), (4, 0), (5, 0), (6, 0), (7, 0), (8, 0), (9, 0), (10, 1), (11, 1), (12, 0), (13, 1), (14, 1), (15, 0), (16, 0), (17, 2)] (fun W => W.cell? ⟨wb, 0, none⟩ = some (.slice A1 wk.length ca) ∧ W.cell? ⟨wr.heap.size, 0, none⟩ = some (.string ⟨x1.toArray⟩) ∧ W.cell? ⟨wr.heap.size, 1, none⟩ = some (.string ⟨x2.toArray⟩)) (by kernel_rfl) (by kernel_rfl) (fun c a w t v h => by cases t <;> exact h) ⟨c0, d0, d1⟩ ?_
      repeat
        (first
          | (apply proc_held
             case ho => simp only [List.getElem?_toArray, List.getElem?_cons_succ, List.getElem?_cons_zero]; rfl
             case hg => rfl
             case hv => intro W hW; (try dsimp only at hW); go_simp; rfl
             case ha => go_simp; rfl)
          | (apply proc_held_on
             case ho => simp only [List.getElem?_toArray, List.getElem?_cons_succ, List.getElem?_cons_zero]; rfl
             case hg => rfl
             case hv => intro W hW; (try dsimp only at hW); go_simp; rfl
             case ha => go_simp; rfl)
          | (apply proc_off
             case ho => simp only [List.getElem?_toArray, List.getElem?_cons_succ, List.getElem?_cons_zero]; rfl
             case hg => rfl
             case ha => go_simp; rfl))
      apply proc_held (v := .string ⟨(x1 ++ [61]).toArray⟩)
      case ho => simp only [List.getElem?_toArray, List.getElem?_cons_succ, List.getElem?_cons_zero]; rfl
      case hg => rfl
      case hv =>
        intro W hW
        go_simp
        rw [if_neg (by omega), str_append]
      case ha => go_simp; rfl
      repeat
        (first
          | (apply proc_held
             case ho => simp only [List.getElem?_toArray, List.getElem?_cons_succ, List.getElem?_cons_zero]; rfl
             case hg => rfl
             case hv => intro W hW; (try dsimp only at hW); go_simp; rfl
             case ha => go_simp; rfl)
          | (apply proc_held_on
             case ho => simp only [List.getElem?_toArray, List.getElem?_cons_succ, List.getElem?_cons_zero]; rfl
             case hg => rfl
             case hv => intro W hW; (try dsimp only at hW); go_simp; rfl
             case ha => go_simp; rfl)
          | (apply proc_off
             case ho => simp only [List.getElem?_toArray, List.getElem?_cons_succ, List.getElem?_cons_zero]; rfl
             case hg => rfl
             case ha => go_simp; rfl))
      apply proc_eff
      case ho => simp only [List.getElem?_toArray, List.getElem?_cons_succ, List.getElem?_cons_zero]; rfl
      simp only [World.drew_eq]
      obtain ⟨oc, cc, hcv, hvv⟩ := run_conv_bytes (P := Tryd.prog) w0.drew 9 25 5 x2 Tryd.underlying9 Tryd.underlying25 Tryd.underlying5
      have HVV := Lib.hid hvv; clear hvv
      have hd0 : w0.drew.heap = w0.heap := rfl
      rw [hd0] at hcv
      go_wp2_with fail
      obtain ⟨w1, hw1⟩ : ∃ w1, w1 = (w0.alloc oc).drew.drew := ⟨_, rfl⟩
      have uu : Upd [] w0 w1 := by rw [hw1]; exact (((Upd.refl [] w0).alloc oc).drewN 1).drew
      rw [← hw1]
      have hvv : BytesV w1 (.slice (some ⟨w0.heap.size, 0, none⟩) x2.length cc) x2 := by rw [hw1]; exact HVV.out
      have U1 := Lib.hid (U0.out.trans uu (by simp))
      have V1 := Lib.hid uu
      have HV1 := Lib.hid hvv
      clear hw1 uu hvv HVV
      have cc1 : w1.cell? ⟨wb, 0, none⟩ = some (.slice A1 wk.length ca) := cell_of (i := 0) (H0.out.upd V1.out (by simp) (by simp)).hb rfl
      have cc2 : w1.cell? ⟨wr.heap.size, 0, none⟩ = some (.string ⟨x1.toArray⟩) := (World.cell?_of_block (V1.out.block _ (World.block_lt_of_cell? _ _ d0) (by simp))).trans d0
      have cc3 : w1.cell? ⟨wr.heap.size, 1, none⟩ = some (.string ⟨x2.toArray⟩) := (World.cell?_of_block (V1.out.block _ (World.block_lt_of_cell? _ _ d1) (by simp))).trans d1
      refine ⟨_, fun _ h => h, ⟨cc1, cc2, cc3⟩, ?_⟩
      apply proc_eff
      case ho => simp only [List.getElem?_toArray, List.getElem?_cons_succ, List.getElem?_cons_zero]; rfl
      go_wp2_with fail
      refine (script_hex HV1.out (by omega)).mono ?_
      rintro e w2 ⟨rfl, hu2⟩
      have V2 := Lib.hid (V1.out.trans hu2 (by simp))
      have U2 := Lib.hid (U1.out.trans hu2 (by simp))
      clear hu2 cc1 cc2 cc3
      have cc1 : w2.cell? ⟨wb, 0, none⟩ = some (.slice A1 wk.length ca) := cell_of (i := 0) (H0.out.upd V2.out (by simp) (by simp)).hb rfl
      have cc2 : w2.cell? ⟨wr.heap.size, 0, none⟩ = some (.string ⟨x1.toArray⟩) := (World.cell?_of_block (V2.out.block _ (World.block_lt_of_cell? _ _ d0) (by simp))).trans d0
      have cc3 : w2.cell? ⟨wr.heap.size, 1, none⟩ = some (.string ⟨x2.toArray⟩) := (World.cell?_of_block (V2.out.block _ (World.block_lt_of_cell? _ _ d1) (by simp))).trans d1
      go_wp2_with fail
      refine ⟨_, fun _ h => h, ⟨cc1, cc2, cc3⟩, ?_⟩
      have hxl : (hexS x2).length ≤ 2000001 := by
        unfold hexS; split
        · simp
        · rw [hexL_length]; omega
      obtain ⟨y, hy⟩ : ∃ y, y = hexS x2 := ⟨_, rfl⟩
      rw [← hy] at hxl ⊢
      have HY := Lib.hid hy; clear hy
      obtain ⟨z, hz⟩ : ∃ z, z = x1 ++ [61] ++ y := ⟨_, rfl⟩
      have HZ : Hid (hdrW (x1, x2) = z) := Lib.hid (by rw [hz, HY.out]; simp [hdrW])
      have HZ0 := Lib.hid hz
      clear hz
      apply proc_held (v := .string ⟨z.toArray⟩)
      case ho => simp only [List.getElem?_toArray, List.getElem?_cons_succ, List.getElem?_cons_zero]; rfl
      case hg => rfl
      case hv =>
        intro W hW
        have e1 : (⟨(x1 ++ [61]).toArray⟩ : ByteArray) ++ ⟨y.toArray⟩ = ⟨z.toArray⟩ := by rw [str_append, HZ0.out]
        go_simp
        omega
      case ha => go_simp; rfl
      repeat
        (first
          | (apply proc_held
             case ho => simp only [List.getElem?_toArray, List.getElem?_cons_succ, List.getElem?_cons_zero]; rfl
             case hg => rfl
             case hv => intro W hW; (try dsimp only at hW); go_simp; rfl
             case ha => go_simp; rfl)
          | (apply proc_held_on
             case ho => simp only [List.getElem?_toArray, List.getElem?_cons_succ, List.getElem?_cons_zero]; rfl
             case hg => rfl
             case hv => intro W hW; (try dsimp only at hW); go_simp; rfl
             case ha => go_simp; rfl)
          | (apply proc_off
             case ho => simp only [List.getElem?_toArray, List.getElem?_cons_succ, List.getElem?_cons_zero]; rfl
             case hg => rfl
             case ha => go_simp; rfl))
      apply proc_eff
      case ho => simp only [List.getElem?_toArray, List.getElem?_cons_succ, List.getElem?_cons_zero]; rfl
      go_wp2_with fail
      have U3 := Lib.hid (U2.out.alloc (.cells #[.string ⟨z.toArray⟩] 9))
      have V3 := Lib.hid (V2.out.alloc (.cells #[.string ⟨z.toArray⟩] 9))
      have H3 := Lib.hid (HST.out.at_.upd U3.out (by simp) (by simp))
      clear cc1 cc2 cc3
      have cc1 : (w2.alloc (.cells #[.string ⟨z.toArray⟩] 9)).cell? ⟨wb, 0, none⟩ = some (.slice A1 wk.length ca) := cell_of (i := 0) H3.out.hb rfl
      have cc2 : (w2.alloc (.cells #[.string ⟨z.toArray⟩] 9)).cell? ⟨wr.heap.size, 0, none⟩ = some (.string ⟨x1.toArray⟩) := (World.cell?_of_block (V3.out.block _ (World.block_lt_of_cell? _ _ d0) (by simp))).trans d0
      have cc3 : (w2.alloc (.cells #[.string ⟨z.toArray⟩] 9)).cell? ⟨wr.heap.size, 1, none⟩ = some (.string ⟨x2.toArray⟩) := (World.cell?_of_block (V3.out.block _ (World.block_lt_of_cell? _ _ d1) (by simp))).trans d1
      refine ⟨_, fun _ h => h, ⟨cc1, cc2, cc3⟩, ?_⟩
      apply proc_eff
      case ho => simp only [List.getElem?_toArray, List.getElem?_cons_succ, List.getElem?_cons_zero]; rfl
      refine wpList_append_src _ rfl (.tmp 16) (.tmp 25) 58 rfl base 9 i0 (.string ⟨#[]⟩) 1 16 Tryd.underlying58 hi hz0 hz1 hz2 rfl (by decide) (.slice A1 wk.length ca) wk.length (wk.map strV) rfl H3.out.own (some ⟨w2.heap.size, 0, none⟩) 1 1 [strV z] rfl (by simp) (cellsAt_new _ _ _) (by simp [strV, Value.oneCell']) (by unfold maxLen; omega) (by omega) (Nat.le_trans hbs U3.out.size) ?_
      intro v3 w3 hown3 hg3 hat3
      have hp := HST.out.at_.push z U3.out hown3 hg3 hat3
      obtain ⟨A3, cb, rfl⟩ := own_slice hown3
      have ug3 := (Upd.refl (Value.slice A1 wk.length ca).ownBlock.toList _).grown hg3 (fun k hk => .inr (by simp [hk]))
      have hb3 := (ug3.block wb (Array.getElem?_eq_some_iff.1 H3.out.hb).1 (fun hm => H3.out.ne wb (by simpa using hm) rfl)).trans H3.out.hb
      have hnr : wr.heap.size ∉ (Value.slice A1 wk.length ca).ownBlock.toList := fun hm => by
        have := own_lt HST.out.at_.own _ (by simpa using hm); omega
      have dd0 := (World.cell?_of_block (ug3.block _ (World.block_lt_of_cell? _ _ cc2) hnr)).trans cc2
      have dd1 := (World.cell?_of_block (ug3.block _ (World.block_lt_of_cell? _ _ cc3) hnr)).trans cc3
      have c3 := cell_of (i := 0) hb3 rfl
      have f3 : w3.frozen? ⟨wb, 0, none⟩ = false := free_of hb3
      simp only [List.getElem_toArray, List.getElem_cons_zero] at c3
      have hwr : wb < wr.heap.size := (Array.getElem?_eq_some_iff.1 HST.out.at_.hb).1
      have dx : (w3.setCell ⟨wb, 0, none⟩ (.slice A3 (wk.length + 1) cb)).cell? ⟨wr.heap.size, 0, none⟩ = some (.string ⟨x1.toArray⟩) := by
        rw [World.cell?_setCell_other _ _ _ _ (by first | (simp; done) | (simp; omega))]; exact dd0
      have HP := Lib.hid hp; clear hp hown3 hg3 hat3 hb3 ug3
      clear cc1 cc2 cc3
      go_wp2_with fail
      refine ⟨_, fun _ h => h, ⟨c3, dd0, dd1⟩, ?_⟩
      repeat
        (first
          | (apply proc_held
             case ho => simp only [List.getElem?_toArray, List.getElem?_cons_succ, List.getElem?_cons_zero]; rfl
             case hg => rfl
             case hv => intro W hW; (try dsimp only at hW); go_simp; rfl
             case ha => go_simp; rfl)
          | (apply proc_held_on
             case ho => simp only [List.getElem?_toArray, List.getElem?_cons_succ, List.getElem?_cons_zero]; rfl
             case hg => rfl
             case hv => intro W hW; (try dsimp only at hW); go_simp; rfl
             case ha => go_simp; rfl)
          | (apply proc_off
             case ho => simp only [List.getElem?_toArray, List.getElem?_cons_succ, List.getElem?_cons_zero]; rfl
             case hg => rfl
             case ha => go_simp; rfl))
      apply proc_last
      case ho => simp only [List.getElem?_toArray, List.getElem?_cons_succ, List.getElem?_cons_zero]; rfl
      go_wp2_with fail
      refine ⟨fun _ => True, trivial, ?_⟩
      refine proc_nil ?_
      clear c3 f3 dd0 dd1
      have c4 := cell_of (i := 1) HP.out.at_.hb rfl
      have f4 := free_of (i := 1) HP.out.at_.hb
      simp only [List.getElem_toArray, List.getElem_cons_zero, List.getElem_cons_succ] at c4
      have HN := Lib.hid (HP.out.at_.setBad (bk || !tokenS x1))
      have HF := Lib.hid (HST.out.trans (HP.out.trans HN.out))
      have hbool : (bad || !(hdrsW (l.take (k + 1))).2) = (bk || !tokenS x1) := by
        rw [HI3.out, HBK.out]
        cases bad <;> cases (hdrsW (l.take k)).2 <;> simp
      have hrel2 : WrStep w ((w3.setCell ⟨wb, 0, none⟩ (.slice A3 (wk.length + 1) cb)).setCell ⟨wb, 1, none⟩ (.bool (bk || !tokenS x1))) base wb v (.slice A3 (wk.length + 1) cb) (ws ++ (hdrsW (l.take (k + 1))).1) (bad || !(hdrsW (l.take (k + 1))).2) := by
        rw [hbool, HI2.out, HZ.out, ← List.append_assoc, ← HW.out]
        exact HF.out
      have HR2 := Lib.hid hrel2; clear hrel2 hbool
      cases bk
      · go_wp2_with fail
        refine (octet_token x1 _ (by omega)).mono ?_
        rintro e w5 ⟨rfl, rfl⟩
        go_wp2_with fail
        refine ⟨⟨k + 1, _, by omega, by go_num, by simpa using HR2.out⟩, by simp [intOf]; omega⟩
      · go_wp2_with fail
        refine ⟨⟨k + 1, _, by omega, by go_num, by simpa using HR2.out⟩, by simp [intOf]; omega⟩
    · obtain rfl : k = l.length := by omega
      have hst := HST.out
      rw [List.take_length, ← HS.out] at hst
      have HST2 := Lib.hid hst; clear hst
      go_wp2_with fail
      go_end0
      exact ⟨rfl, _, HST2.out⟩
end Go.Proofs.YtajoldboafkpdaaDoor
namespace Go.Proofs.YtajoldboafkpdaaDoor
set_option linter.unusedSimpArgs false
set_option linter.unusedVariables false
open Go.RowKit Go.Lk
section
variable {w0 w1 : World} {base wb : Nat} {v0 v1 : Value} {ws1 : List Bs} {b1 : Bool}
theorem WrStep.env (h : WrStep w0 w1 base wb v0 v1 ws1 b1) (hE : Env w0) (hg : gfree wb ∧ gfree base) (h0 : ∀ k, v0.ownBlock = some k → base ≤ k) : Env w1 := hE.upd h.upd (fun y hy => by
  rcases List.mem_cons.1 hy with rfl | hy
  · exact hg.1
  · have := h0 y (by simpa using hy)
    have := hg.2
    unfold gfree at *; omega)
theorem WrStep.then0 {w2 : World} (h : WrStep w0 w1 base wb v0 v1 ws1 b1) (hu : Upd [] w1 w2) : WrStep w0 w2 base wb v0 v1 ws1 b1 where
  at_ := h.at_.upd hu (by simp) (by simp)
  upd := h.upd.trans hu (by simp)
  own := h.own
/-- A block that was there, and is not the writer's, is as it was. -/
theorem WrStep.block (h : WrStep w0 w1 base wb v0 v1 ws1 b1) (x : Nat) (hx : x < w0.heap.size) (h1 : x ≠ wb) (h2 : v0.ownBlock ≠ some x) : w1.heap[x]? = w0.heap[x]? := h.upd.block x hx (fun hm => by
  rcases List.mem_cons.1 hm with e | hm
  · exact h1 e
  · exact h2 (by simpa using hm))
theorem text_step (h : WrStep w0 w1 base wb v0 v1 ws1 b1) (hb : base ≤ w0.heap.size) (hl : ws1.length ≤ 1000000) (s : Bs) (hs : s.length ≤ 1000000) :
    Calls Tryd.prog 61 #[.pointer (some ⟨wb, 0, none⟩), .string ⟨s.toArray⟩] w1 fun e w' => e = .returned (.tuple #[]) ∧ ∃ v', WrStep w0 w' base wb v0 v' (ws1 ++ [s]) (b1 || !textS s) :=
  (writer_text h.at_ (Nat.le_trans hb h.upd.size) hl s hs).mono fun e w' ⟨he, v', hv⟩ => ⟨he, v', h.trans hv⟩
theorem num_step (h : WrStep w0 w1 base wb v0 v1 ws1 b1) (hE : Env w1) (hb : base ≤ w0.heap.size) (hl : ws1.length ≤ 1000000) (n : Int) (hn : 0 ≤ n ∧ n < 18446744073709551616) :
    Calls Tryd.prog 41 #[.pointer (some ⟨wb, 0, none⟩), .int .u64 n] w1 fun e w' => e = .returned (.tuple #[]) ∧ ∃ v', WrStep w0 w' base wb v0 v' (ws1 ++ [Lib.itoa n]) b1 := by
  obtain ⟨m, rfl⟩ : ∃ m : Nat, n = m := ⟨n.toNat, by omega⟩
  rw [Lib.itoa_nonneg]
  exact (writer_num h.at_ hE (Nat.le_trans hb h.upd.size) hl m (by omega)).mono fun e w' ⟨he, v', hv⟩ => ⟨he, v', h.trans hv⟩
theorem ints_step (h : WrStep w0 w1 base wb v0 v1 ws1 b1) (hE : Env w1) (hb : base ≤ w0.heap.size) (hl : ws1.length ≤ 1000000) (hg : gfree wb ∧ gfree base) {A : Option Addr} {c : Nat} {l : List Int} (hA : IntsAt w1 A l) (hll : l.length ≤ 1000000)
    (hA1 : ∀ ab ao, A = some ⟨ab, ao, none⟩ → l ≠ [] → ab ≠ wb ∧ v1.ownBlock ≠ some ab) (hr : ∀ x ∈ l, -9223372036854775808 ≤ x ∧ x ≤ 9223372036854775807) :
    Calls Tryd.prog 39 #[.pointer (some ⟨wb, 0, none⟩), .slice A l.length c] w1 fun e w' => e = .returned (.tuple #[]) ∧ ∃ v', WrStep w0 w' base wb v0 v' (ws1 ++ (intsW l).1) (b1 || !(intsW l).2) :=
  (writer_ints h.at_ hE (Nat.le_trans hb h.upd.size) hl hg hA hll hA1 hr).mono fun e w' ⟨he, v', hv⟩ => ⟨he, v', h.trans hv⟩
theorem intsAt_new (w : World) (T : TypeId) (l : List Int) : IntsAt (w.alloc (.cells (l.map (Value.int .i64)).toArray T)) (some ⟨w.heap.size, 0, none⟩) l := fun j x hj =>
  ⟨_, _, rfl, by rw [Nat.zero_add]; exact cell_of (heap_alloc_self _) (by simp [hj])⟩
/-- Numbers in a new slice of the caller's. -/
theorem ints_new_step (h : WrStep w0 w1 base wb v0 v1 ws1 b1) (hE : Env w1) (hb : base ≤ w0.heap.size) (hl : ws1.length ≤ 1000000) (hg : gfree wb ∧ gfree base) (T : TypeId) (l : List Int) (n : Nat) (hn : n = l.length) (hll : l.length ≤ 1000000)
    (hr : ∀ x ∈ l, -9223372036854775808 ≤ x ∧ x ≤ 9223372036854775807) :
    Calls Tryd.prog 39 #[.pointer (some ⟨wb, 0, none⟩), .slice (some ⟨w1.heap.size, 0, none⟩) n n] (w1.alloc (.cells (l.map (Value.int .i64)).toArray T)) fun e w' => e = .returned (.tuple #[]) ∧ ∃ v', WrStep w0 w' base wb v0 v' (ws1 ++ (intsW l).1) (b1 || !(intsW l).2) := by
  subst hn
  have u := (Upd.refl [] w1).alloc (.cells (l.map (Value.int .i64)).toArray T)
  refine ints_step (h.then0 u) (hE.upd0 u) hb hl hg (intsAt_new w1 T l) hll ?_ hr
  intro ab ao e _
  injection e with e
  injection e with e
  subst e
  refine ⟨fun e => ?_, fun e => ?_⟩
  · have := (Array.getElem?_eq_some_iff.1 h.at_.hb).1; omega
  · have := own_lt h.at_.own _ e; omega
theorem headers_step (h : WrStep w0 w1 base wb v0 v1 ws1 b1) (hE : Env w1) (hb : base ≤ w0.heap.size) (hl : ws1.length ≤ 1000000) (hg : gfree wb ∧ gfree base) {A : Option Addr} {c : Nat} {l : List (Bs × Bs)} (hA : HdrsAt w1 A l) (hll : l.length ≤ 1000000)
    (hA1 : ∀ ab ao, A = some ⟨ab, ao, none⟩ → l ≠ [] → ab ≠ wb ∧ v1.ownBlock ≠ some ab) (hr : ∀ x ∈ l, x.1.length ≤ 1000000 ∧ x.2.length ≤ 1000000) :
    Calls Tryd.prog 42 #[.pointer (some ⟨wb, 0, none⟩), .slice A l.length c] w1 fun e w' => e = .returned (.tuple #[]) ∧ ∃ v', WrStep w0 w' base wb v0 v' (ws1 ++ (hdrsW l).1) (b1 || !(hdrsW l).2) :=
  (writer_headers h.at_ hE (Nat.le_trans hb h.upd.size) hl hg hA hll hA1 hr).mono fun e w' ⟨he, v', hv⟩ => ⟨he, v', h.trans hv⟩
end
def i64R (x : Int) : Prop := -9223372036854775808 ≤ x ∧ x ≤ 9223372036854775807
def HdrLim (l : List (Bs × Bs)) : Prop := l.length ≤ 1000000 ∧ ∀ x ∈ l, x.1.length ≤ 1000000 ∧ x.2.length ≤ 1000000
structure ReqLim (r : ReqL) : Prop where
  me : r.method.length ≤ 1000000
  ur : r.url.length ≤ 1000000
  og : r.origin.length ≤ 1000000
  mo : i64R r.mode
  cl : i64R r.cls
  ti : 0 ≤ r.timeout ∧ r.timeout < 18446744073709551616
  gr : i64R r.group
  si : i64R r.signal
  hd : HdrLim r.headers
set_option maxRecDepth 100000 in
set_option maxHeartbeats 3200000 in
theorem writer_request {w : World} {base wb : Nat} {v : Value} {ws : List Bs} {bad : Bool} (h : WrAt w base wb v ws bad) (hE : Env w) (hb : base ≤ w.heap.size) (hl : ws.length ≤ 100000) (hg : gfree wb ∧ gfree base)
    {A : Option Addr} {c : Nat} (r : ReqL) (hr : ReqLim r) (hA : HdrsAt w A r.headers) (hA1 : ∀ ab ao, A = some ⟨ab, ao, none⟩ → r.headers ≠ [] → ab ≠ wb ∧ v.ownBlock ≠ some ab) :
    Calls Tryd.prog 40 #[.pointer (some ⟨wb, 0, none⟩), reqV r (.slice A r.headers.length c)] w fun e w' => e = .returned (.tuple #[]) ∧ ∃ v', WrStep w w' base wb v v' (ws ++ (reqW r).1) (bad || !(reqW r).2) := by
  obtain ⟨sw, hsw⟩ : ∃ sw, sw = reqW r := ⟨_, rfl⟩
  have HS := Lib.hid hsw
  rw [← hsw]
  clear hsw
  obtain ⟨me, ur, og, mo, cr, hd, cl, ti, gr, si⟩ := r
  have HL := Lib.hid hr; have HH := Lib.hid h; have HE := Lib.hid hE; have HA := Lib.hid hA; have HA1 := Lib.hid hA1; clear h hE hA hA1 hr
  unfold reqV
  dsimp only
  obtain ⟨w1, hw1⟩ : ∃ w1, w1 = w.alloc (.cells #[.string ⟨me.toArray⟩, .string ⟨ur.toArray⟩, .string ⟨og.toArray⟩, .int .i64 mo, .bool cr, .slice A hd.length c, .int .i64 cl, .int .u64 ti, .int .i64 gr, .int .i64 si] 27) := ⟨_, rfl⟩
  have hbx := heap_alloc_self (w := w) (.cells #[.string ⟨me.toArray⟩, .string ⟨ur.toArray⟩, .string ⟨og.toArray⟩, .int .i64 mo, .bool cr, .slice A hd.length c, .int .i64 cl, .int .u64 ti, .int .i64 gr, .int .i64 si] 27)
  have hu : Upd [] w w1 := by rw [hw1]; exact (Upd.refl [] w).alloc _
  have hsz : w1.heap.size = w.heap.size + 1 := by rw [hw1]; simp
  rw [← hw1] at hbx
  have HBX := Lib.hid hbx; have HW1 := Lib.hid hw1; have HU := Lib.hid hu; clear hbx hw1 hu
  have HW := Lib.hid (HH.out.step.then0 HU.out)
  have hwl : wb < w.heap.size := (Array.getElem?_eq_some_iff.1 HH.out.hb).1
  have hv0 : ∀ k, v.ownBlock = some k → base ≤ k ∧ k < w.heap.size := fun k hk => ⟨own_ge HH.out.own k hk, own_lt HH.out.own k hk⟩
  have HV0 := Lib.hid hv0; clear hv0
  have HB1 : Hid (base ≤ w1.heap.size) := Lib.hid (Nat.le_trans hb HU.out.size)
  have HW0 := Lib.hid (HH.out.upd HU.out (by simp) (by simp)).step
  -- what is read of the request's block, whatever was written
  have blk : ∀ (w2 : World) (v2 : Value) (ws2 : List Bs) (b2 : Bool), WrStep w1 w2 base wb v v2 ws2 b2 → w2.heap[w.heap.size]? = some (.cells #[.string ⟨me.toArray⟩, .string ⟨ur.toArray⟩, .string ⟨og.toArray⟩, .int .i64 mo, .bool cr, .slice A hd.length c, .int .i64 cl, .int .u64 ti, .int .i64 gr, .int .i64 si] 27) := fun _ _ _ _ hs =>
    (hs.block w.heap.size (by omega) (by omega) (fun e => by have := (HV0.out _ e).2; omega)).trans HBX.out
  have env : ∀ (w2 : World) (v2 : Value) (ws2 : List Bs) (b2 : Bool), WrStep w1 w2 base wb v v2 ws2 b2 → Env w2 := fun _ _ _ _ hs => hs.env (HE.out.upd0 HU.out) hg (fun k hk => (HV0.out k hk).1)
  have BLK := Lib.hid blk; have ENV := Lib.hid env
  clear blk env
  have f0 : w1.cell? ⟨w.heap.size, 0, none⟩ = some (.string ⟨me.toArray⟩) := cell_of (i := 0) (BLK.out _ _ _ _ HW0.out) rfl
  go_enter Tryd.func40, Tryd.ntmps40
  rw [HW1.out] at f0
  go_wp2_with fail
  rw [← HW1.out]
  refine (text_step HW0.out HB1.out (by (try simp); omega) me HL.out.me).mono ?_
  rintro e w1x ⟨rfl, vw1x, hst⟩
  have HW1 := Lib.hid hst; clear hst
  have f1 : w1x.cell? ⟨w.heap.size, 1, none⟩ = some (.string ⟨ur.toArray⟩) := cell_of (i := 1) (BLK.out _ _ _ _ HW1.out) rfl
  clear f0
  go_wp2_with fail
  refine (text_step HW1.out HB1.out (by (try simp); omega) ur HL.out.ur).mono ?_
  rintro e w2x ⟨rfl, vw2x, hst⟩
  have HW2 := Lib.hid hst; clear hst
  have f2 : w2x.cell? ⟨w.heap.size, 2, none⟩ = some (.string ⟨og.toArray⟩) := cell_of (i := 2) (BLK.out _ _ _ _ HW2.out) rfl
  clear f1
  go_wp2_with fail
  refine (text_step HW2.out HB1.out (by (try simp); omega) og HL.out.og).mono ?_
  rintro e w3x ⟨rfl, vw3x, hst⟩
  have HW3 := Lib.hid hst; clear hst
  have f4 : w3x.cell? ⟨w.heap.size, 4, none⟩ = some (.bool cr) := cell_of (i := 4) (BLK.out _ _ _ _ HW3.out) rfl
  have f3 : w3x.cell? ⟨w.heap.size, 3, none⟩ = some (.int .i64 mo) := cell_of (i := 3) (BLK.out _ _ _ _ HW3.out) rfl
  have f6 : w3x.cell? ⟨w.heap.size, 6, none⟩ = some (.int .i64 cl) := cell_of (i := 6) (BLK.out _ _ _ _ HW3.out) rfl
  clear f2
  cases cr
  · go_wp2_with fail
    clear f3 f4 f6
    refine (ints_new_step HW3.out (ENV.out _ _ _ _ HW3.out) HB1.out (by (try simp); omega) hg _ [mo, 0, cl] 3 rfl (by simp) (by simp; have := HL.out.mo; have := HL.out.cl; unfold i64R at *; simp only at *; omega)).mono ?_
    rintro e w4x ⟨rfl, vw4x, hst⟩
    have HW4 := Lib.hid hst; clear hst
    have f7 : w4x.cell? ⟨w.heap.size, 7, none⟩ = some (.int .u64 ti) := cell_of (i := 7) (BLK.out _ _ _ _ HW4.out) rfl
    go_wp2_with fail
    refine (num_step HW4.out (ENV.out _ _ _ _ HW4.out) HB1.out (by simp [intsW]; omega) ti HL.out.ti).mono ?_
    rintro e w5x ⟨rfl, vw5x, hst⟩
    have HW5 := Lib.hid hst; clear hst f7
    have f8 : w5x.cell? ⟨w.heap.size, 8, none⟩ = some (.int .i64 gr) := cell_of (i := 8) (BLK.out _ _ _ _ HW5.out) rfl
    have f9 : w5x.cell? ⟨w.heap.size, 9, none⟩ = some (.int .i64 si) := cell_of (i := 9) (BLK.out _ _ _ _ HW5.out) rfl
    go_wp2_with fail
    refine (ints_new_step HW5.out (ENV.out _ _ _ _ HW5.out) HB1.out (by simp [intsW]; omega) hg _ [gr, si] 2 rfl (by simp) (by simp; have := HL.out.gr; have := HL.out.si; unfold i64R at *; simp only at *; omega)).mono ?_
    rintro e w6x ⟨rfl, vw6x, hst⟩
    have HW6 := Lib.hid hst; clear hst f8 f9
    have f5 : w6x.cell? ⟨w.heap.size, 5, none⟩ = some (.slice A hd.length c) := cell_of (i := 5) (BLK.out _ _ _ _ HW6.out) rfl
    go_wp2_with fail
    have hA6 : HdrsAt w6x A hd := by
      by_cases hn : hd = []
      · subst hn; exact HdrsAt.nil _ _
      · refine HA.out.upd (HU.out.trans_of HW6.out.upd) (fun ab ao e => ?_)
        have := HA1.out ab ao e hn
        intro hm
        rcases List.mem_cons.1 hm with e | hm
        · exact this.1 e
        · exact this.2 (by simpa using hm)
    refine (headers_step HW6.out (ENV.out _ _ _ _ HW6.out) HB1.out (by simp [intsW]; omega) hg hA6 (by have := HL.out.hd.1; simp only at this; omega) (fun ab ao e hn => ⟨(HA1.out ab ao e hn).1, fun e2 => ?_⟩) HL.out.hd.2).mono ?_
    · rcases HW6.out.own _ e2 with h1 | h1
      · exact (HA1.out ab ao e hn).2 h1
      · have := HA.out.lt hn ab ao e; omega
    rintro e w7x ⟨rfl, vw7x, hst⟩
    have HW7 := Lib.hid hst; clear hst f5
    go_wp2_with fail
    go_end0
    refine ⟨rfl, vw7x, ?_⟩
    have hfin := HW.out.trans HW7.out
    have e1 : ws ++ sw.1 = ws ++ [me] ++ [ur] ++ [og] ++ (intsW [mo, 0, cl]).1 ++ [Lib.itoa ti] ++ (intsW [gr, si]).1 ++ (hdrsW hd).1 := by rw [HS.out]; simp [reqW]
    have e2 : (bad || !sw.2) = (bad || !textS me || !textS ur || !textS og || !(intsW [mo, 0, cl]).2 || !(intsW [gr, si]).2 || !(hdrsW hd).2) := by rw [HS.out]; simp only [reqW, Bool.not_and, Bool.or_assoc]; rfl
    rw [e1, e2]
    exact hfin
  · go_wp2_with fail
    clear f3 f4 f6
    refine (ints_new_step HW3.out (ENV.out _ _ _ _ HW3.out) HB1.out (by (try simp); omega) hg _ [mo, 1, cl] 3 rfl (by simp) (by simp; have := HL.out.mo; have := HL.out.cl; unfold i64R at *; simp only at *; omega)).mono ?_
    rintro e w4x ⟨rfl, vw4x, hst⟩
    have HW4 := Lib.hid hst; clear hst
    have f7 : w4x.cell? ⟨w.heap.size, 7, none⟩ = some (.int .u64 ti) := cell_of (i := 7) (BLK.out _ _ _ _ HW4.out) rfl
    go_wp2_with fail
    refine (num_step HW4.out (ENV.out _ _ _ _ HW4.out) HB1.out (by simp [intsW]; omega) ti HL.out.ti).mono ?_
    rintro e w5x ⟨rfl, vw5x, hst⟩
    have HW5 := Lib.hid hst; clear hst f7
    have f8 : w5x.cell? ⟨w.heap.size, 8, none⟩ = some (.int .i64 gr) := cell_of (i := 8) (BLK.out _ _ _ _ HW5.out) rfl
    have f9 : w5x.cell? ⟨w.heap.size, 9, none⟩ = some (.int .i64 si) := cell_of (i := 9) (BLK.out _ _ _ _ HW5.out) rfl
    go_wp2_with fail
    refine (ints_new_step HW5.out (ENV.out _ _ _ _ HW5.out) HB1.out (by simp [intsW]; omega) hg _ [gr, si] 2 rfl (by simp) (by simp; have := HL.out.gr; have := HL.out.si; unfold i64R at *; simp only at *; omega)).mono ?_
    rintro e w6x ⟨rfl, vw6x, hst⟩
    have HW6 := Lib.hid hst; clear hst f8 f9
    have f5 : w6x.cell? ⟨w.heap.size, 5, none⟩ = some (.slice A hd.length c) := cell_of (i := 5) (BLK.out _ _ _ _ HW6.out) rfl
    go_wp2_with fail
    have hA6 : HdrsAt w6x A hd := by
      by_cases hn : hd = []
      · subst hn; exact HdrsAt.nil _ _
      · refine HA.out.upd (HU.out.trans_of HW6.out.upd) (fun ab ao e => ?_)
        have := HA1.out ab ao e hn
        intro hm
        rcases List.mem_cons.1 hm with e | hm
        · exact this.1 e
        · exact this.2 (by simpa using hm)
    refine (headers_step HW6.out (ENV.out _ _ _ _ HW6.out) HB1.out (by simp [intsW]; omega) hg hA6 (by have := HL.out.hd.1; simp only at this; omega) (fun ab ao e hn => ⟨(HA1.out ab ao e hn).1, fun e2 => ?_⟩) HL.out.hd.2).mono ?_
    · rcases HW6.out.own _ e2 with h1 | h1
      · exact (HA1.out ab ao e hn).2 h1
      · have := HA.out.lt hn ab ao e; omega
    rintro e w7x ⟨rfl, vw7x, hst⟩
    have HW7 := Lib.hid hst; clear hst f5
    go_wp2_with fail
    go_end0
    refine ⟨rfl, vw7x, ?_⟩
    have hfin := HW.out.trans HW7.out
    have e1 : ws ++ sw.1 = ws ++ [me] ++ [ur] ++ [og] ++ (intsW [mo, 1, cl]).1 ++ [Lib.itoa ti] ++ (intsW [gr, si]).1 ++ (hdrsW hd).1 := by rw [HS.out]; simp [reqW]
    have e2 : (bad || !sw.2) = (bad || !textS me || !textS ur || !textS og || !(intsW [mo, 1, cl]).2 || !(intsW [gr, si]).2 || !(hdrsW hd).2) := by rw [HS.out]; simp only [reqW, Bool.not_and, Bool.or_assoc]; rfl
    rw [e1, e2]
    exact hfin
end Go.Proofs.YtajoldboafkpdaaDoor
