-- script.writer.ints: contract.
import Derived.Test.YtajoldboafkpdaaDoorWriter
namespace Go.Proofs.YtajoldboafkpdaaDoor
set_option linter.unusedSimpArgs false
set_option linter.unusedVariables false
open Go.RowKit Go.Lk
/-- Cells that hold numbers. -/
def IntsAt (w : World) (A : Option Addr) (l : List Int) : Prop := ∀ (j : Nat) x, l[j]? = some x → ∃ ab ao, A = some ⟨ab, ao, none⟩ ∧ w.cell? ⟨ab, ao + j, none⟩ = some (.int .i64 x)
theorem IntsAt.upd {w w1 : World} {F : List Nat} {A : Option Addr} {l : List Int} (h : IntsAt w A l) (hu : Upd F w w1) (hF : ∀ ab ao, A = some ⟨ab, ao, none⟩ → ab ∉ F) : IntsAt w1 A l := fun j x hj => by
  obtain ⟨ab, ao, e, hc⟩ := h j x hj
  exact ⟨ab, ao, e, (World.cell?_of_block (hu.block ab (World.block_lt_of_cell? _ _ hc) (hF ab ao e))).trans hc⟩
theorem IntsAt.lt {w : World} {A : Option Addr} {l : List Int} (h : IntsAt w A l) (hl : l ≠ []) (ab ao : Nat) (e : A = some ⟨ab, ao, none⟩) : ab < w.heap.size := by
  obtain ⟨x, hx⟩ : ∃ x, l[0]? = some x := ⟨l[0]'(List.length_pos_iff.2 hl), by simp [List.length_pos_iff.2 hl]⟩
  obtain ⟨ab', ao', e', hc⟩ := h 0 x hx
  rw [e] at e'
  injection e' with e'
  injection e' with e'
  subst e'
  exact World.block_lt_of_cell? _ _ hc
theorem IntsAt.nil (w : World) (A : Option Addr) : IntsAt w A [] := fun j x hj => by cases hj
set_option maxRecDepth 100000 in
set_option maxHeartbeats 1600000 in
theorem writer_ints {w : World} {base wb : Nat} {v : Value} {ws : List Bs} {bad : Bool} (h : WrAt w base wb v ws bad) (hE : Env w) (hb : base ≤ w.heap.size) (hl : ws.length ≤ 1000000) (hg : gfree wb ∧ gfree base)
    {A : Option Addr} {c : Nat} {l : List Int} (hA : IntsAt w A l) (hll : l.length ≤ 1000000) (hA1 : ∀ ab ao, A = some ⟨ab, ao, none⟩ → l ≠ [] → ab ≠ wb ∧ v.ownBlock ≠ some ab) (hr : ∀ x ∈ l, -9223372036854775808 ≤ x ∧ x ≤ 9223372036854775807) :
    Calls Tryd.prog 39 #[.pointer (some ⟨wb, 0, none⟩), .slice A l.length c] w fun e w' => e = .returned (.tuple #[]) ∧ ∃ v', WrStep w w' base wb v v' (ws ++ (intsW l).1) (bad || !(intsW l).2) := by
  obtain ⟨i0, hi, hz0, hz1, hz2⟩ := info_parts Tryd.infoString
  have hbw : base ≤ w.heap.size := hb
  have HH := Lib.hid h; have HE := Lib.hid hE; have HA := Lib.hid hA; have HA1 := Lib.hid hA1; clear h hE hA hA1
  obtain ⟨sw, hsw⟩ : ∃ sw, sw = intsW l := ⟨_, rfl⟩
  have HS := Lib.hid hsw
  rw [← hsw]
  clear hsw
  go_enter Tryd.func39, Tryd.ntmps39
  go_wp2_with fail
  go_loopw [8] (fun v8 wr => ∃ (k : Nat) (v' : Value), k ≤ l.length ∧ v8 = .int .i64 k ∧ WrStep w wr base wb v v' (ws ++ (intsW (l.take k)).1) (bad || !(intsW (l.take k)).2)) (fun v8 _ => l.length - (intOf v8).toNat)
  case atStart => exact ⟨0, v, by omega, rfl, by simpa [intsW] using HH.out.step⟩
  case round =>
    obtain ⟨k, v1, hk, rfl, hst⟩ := hrel
    have HST := Lib.hid hst; clear hst
    by_cases hlt : k < l.length
    · obtain ⟨x, hx⟩ : ∃ x, x = l[k] := ⟨_, rfl⟩
      have hE1 : Env wr := HE.out.upd HST.out.upd (fun y hy => by
        rcases List.mem_cons.1 hy with rfl | hy
        · exact hg.1
        · have := own_ge HH.out.own y (by simpa using hy)
          have := hg.2
          unfold gfree at *; omega)
      have hrx := hr x (by rw [hx]; exact List.getElem_mem hlt)
      obtain ⟨ab, ao, hAe, hcell0⟩ := HA.out k x (by simp [hx, hlt])
      subst hAe
      have hab := HA1.out ab ao rfl (fun h0 => by rw [h0] at hlt; simp at hlt)
      have hcell : wr.cell? ⟨ab, ao + k, none⟩ = some (.int .i64 x) := (World.cell?_of_block (HST.out.upd.block ab (World.block_lt_of_cell? _ _ hcell0) (by
        intro hm
        rcases List.mem_cons.1 hm with e | hm
        · exact hab.1 e
        · exact hab.2 (by simpa using hm)))).trans hcell0
      have HE1 := Lib.hid hE1; clear hE1 hcell0
      have hi2 : (intsW (l.take (k + 1))).1 = (intsW (l.take k)).1 ++ [Lib.itoa x] := by
        rw [List.take_succ_eq_append_getElem hlt, ← hx]; simp [intsW]
      have hi3 : (intsW (l.take (k + 1))).2 = ((intsW (l.take k)).2 && decide (0 ≤ x)) := by
        rw [List.take_succ_eq_append_getElem hlt, ← hx]; simp [intsW]
      have hil : (intsW (l.take k)).1.length = k := by simp [intsW]; omega
      have hwl : (ws ++ (intsW (l.take k)).1).length ≤ 2000000 := by rw [List.length_append]; omega
      obtain ⟨wk, hwk⟩ : ∃ wk, wk = ws ++ (intsW (l.take k)).1 := ⟨_, rfl⟩
      obtain ⟨bk, hbk⟩ : ∃ bk, bk = (bad || !(intsW (l.take k)).2) := ⟨_, rfl⟩
      have hst := HST.out
      rw [← hwk, ← hbk] at hst
      rw [← hwk] at hwl
      have HW := Lib.hid hwk; have HBK := Lib.hid hbk; have HI2 := Lib.hid hi2; have HI3 := Lib.hid hi3; have HX := Lib.hid hx
      clear hwk hbk hi2 hi3 hil hx HST
      obtain ⟨A1, ca, rfl⟩ := hst.at_.slice
      have c0 := cell_of (i := 0) hst.at_.hb rfl
      simp only [List.getElem_toArray, List.getElem_cons_zero] at c0
      have hbs : base ≤ wr.heap.size := Nat.le_trans hbw hst.upd.size
      have HST := Lib.hid hst; clear hst
      go_wp2_with fail
      refine wp_region_proc [(0, 0), (1, 0), (2, 0), (3, 0), (4, 0), (5, 0), (6, 1), (7, 1), (8, 1), (9, 0), (10, 0), (11, 2)] (fun W => W.cell? ⟨wb, 0, none⟩ = some (.slice A1 wk.length ca)) (by kernel_rfl) (by kernel_rfl) (fun c a w t v h => by cases t <;> exact h) c0 ?_
      repeat
        (first
          | (apply proc_held
             case ho => simp only [List.getElem?_toArray, List.getElem?_cons_succ, List.getElem?_cons_zero]; rfl
             case hg => rfl
             case hv => intro W hW; (try dsimp only at hW); go_simp; rfl
             case ha => go_simp; rfl)
          | (apply proc_held_on
             case ho => simp only [List.getElem?_toArray, List.getElem?_cons_succ, List.getElem?_cons_zero]; rfl
             case hg => rfl
             case hv => intro W hW; (try dsimp only at hW); go_simp; rfl
             case ha => go_simp; rfl)
          | (apply proc_off
             case ho => simp only [List.getElem?_toArray, List.getElem?_cons_succ, List.getElem?_cons_zero]; rfl
             case hg => rfl
             case ha => go_simp; rfl))
      apply proc_eff
      case ho => simp only [List.getElem?_toArray, List.getElem?_cons_succ, List.getElem?_cons_zero]; rfl
      simp only [World.drew_eq]
      go_wp2_with fail
      refine (strconv_itoa (HE1.out.upd0 ((Upd.refl [] wr).drewN 1)) x hrx.1 hrx.2).mono ?_
      rintro e w1 ⟨rfl, hu1⟩
      have U1 := Lib.hid (((Upd.refl [] wr).drewN 1).trans hu1 (by simp)); clear hu1
      have H1 := Lib.hid (HST.out.at_.upd U1.out (by simp) (by simp))
      have c1 : w1.cell? ⟨wb, 0, none⟩ = some (.slice A1 wk.length ca) := cell_of (i := 0) H1.out.hb rfl
      go_wp2_with fail
      refine ⟨_, fun _ h => h, c1, ?_⟩
      apply proc_eff
      case ho => simp only [List.getElem?_toArray, List.getElem?_cons_succ, List.getElem?_cons_zero]; rfl
      go_wp2_with fail
      have U2 := Lib.hid (U1.out.alloc (.cells #[strV (Lib.itoa x)] 9))
      have H2 := Lib.hid (HST.out.at_.upd U2.out (by simp) (by simp))
      have c2 : (w1.alloc (.cells #[strV (Lib.itoa x)] 9)).cell? ⟨wb, 0, none⟩ = some (.slice A1 wk.length ca) := cell_of (i := 0) H2.out.hb rfl
      refine ⟨_, fun _ h => h, c2, ?_⟩
      apply proc_eff
      case ho => simp only [List.getElem?_toArray, List.getElem?_cons_succ, List.getElem?_cons_zero]; rfl
      refine wpList_append_src _ rfl (.tmp 16) (.tmp 19) 58 rfl base 9 i0 (.string ⟨#[]⟩) 1 16 Tryd.underlying58 hi hz0 hz1 hz2 rfl (by decide) (.slice A1 wk.length ca) wk.length (wk.map strV) rfl H2.out.own (some ⟨w1.heap.size, 0, none⟩) 1 1 [strV (Lib.itoa x)] rfl (by simp) (cellsAt_new _ _ _) (by simp [strV, Value.oneCell']) (by unfold maxLen; omega) (by omega) (Nat.le_trans hbs U2.out.size) ?_
      intro v3 w3 hown3 hg3 hat3
      have hp := HST.out.at_.push (Lib.itoa x) U2.out hown3 hg3 hat3
      obtain ⟨A3, cb, rfl⟩ := own_slice hown3
      have hb3 := ((Upd.refl (Value.slice A1 wk.length ca).ownBlock.toList _).grown hg3 (fun k hk => .inr (by simp [hk]))).block wb (Array.getElem?_eq_some_iff.1 H2.out.hb).1 (fun hm => H2.out.ne wb (by simpa using hm) rfl) |>.trans H2.out.hb
      have c3 := cell_of (i := 0) hb3 rfl
      have f3 : w3.frozen? ⟨wb, 0, none⟩ = false := free_of hb3
      simp only [List.getElem_toArray, List.getElem_cons_zero] at c3
      have HP := Lib.hid hp; clear hp hown3 hg3 hat3 hb3
      go_wp2_with fail
      refine ⟨_, fun _ h => h, c3, ?_⟩
      repeat
        (first
          | (apply proc_held
             case ho => simp only [List.getElem?_toArray, List.getElem?_cons_succ, List.getElem?_cons_zero]; rfl
             case hg => rfl
             case hv => intro W hW; (try dsimp only at hW); go_simp; rfl
             case ha => go_simp; rfl)
          | (apply proc_held_on
             case ho => simp only [List.getElem?_toArray, List.getElem?_cons_succ, List.getElem?_cons_zero]; rfl
             case hg => rfl
             case hv => intro W hW; (try dsimp only at hW); go_simp; rfl
             case ha => go_simp; rfl)
          | (apply proc_off
             case ho => simp only [List.getElem?_toArray, List.getElem?_cons_succ, List.getElem?_cons_zero]; rfl
             case hg => rfl
             case ha => go_simp; rfl))
      apply proc_last
      case ho => simp only [List.getElem?_toArray, List.getElem?_cons_succ, List.getElem?_cons_zero]; rfl
      go_wp2_with fail
      refine ⟨fun _ => True, trivial, ?_⟩
      refine proc_nil ?_
      have c4 := cell_of (i := 1) HP.out.at_.hb rfl
      have f4 := free_of (i := 1) HP.out.at_.hb
      simp only [List.getElem_toArray, List.getElem_cons_zero, List.getElem_cons_succ] at c4
      have HN := Lib.hid (HP.out.at_.setBad (bk || decide (x < 0)))
      have HF := Lib.hid (HST.out.trans (HP.out.trans HN.out))
      have hbool : (bad || !(intsW (l.take (k + 1))).2) = (bk || decide (x < 0)) := by
        rw [HI3.out, HBK.out]
        have : decide (x < 0) = !decide (0 ≤ x) := by by_cases h0 : 0 ≤ x <;> simp [h0] <;> omega
        rw [this]
        cases bad <;> cases (intsW (l.take k)).2 <;> simp
      have hrel2 : WrStep w ((w3.setCell ⟨wb, 0, none⟩ (.slice A3 (wk.length + 1) cb)).setCell ⟨wb, 1, none⟩ (.bool (bk || decide (x < 0)))) base wb v (.slice A3 (wk.length + 1) cb) (ws ++ (intsW (l.take (k + 1))).1) (bad || !(intsW (l.take (k + 1))).2) := by
        rw [hbool, HI2.out, ← List.append_assoc, ← HW.out]
        exact HF.out
      have HR2 := Lib.hid hrel2; clear hrel2 hbool
      cases bk
      · go_wp2_with fail
        refine ⟨⟨k + 1, _, by omega, by go_num, by simpa using HR2.out⟩, by simp [intOf]; omega⟩
      · go_wp2_with fail
        refine ⟨⟨k + 1, _, by omega, by go_num, by simpa using HR2.out⟩, by simp [intOf]; omega⟩
    · obtain rfl : k = l.length := by omega
      have hst := HST.out
      rw [List.take_length, ← HS.out] at hst
      have HST2 := Lib.hid hst; clear hst
      go_wp2_with fail
      go_end0
      exact ⟨rfl, _, HST2.out⟩
end Go.Proofs.YtajoldboafkpdaaDoor
