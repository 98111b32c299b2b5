-- script.writer.headers: contract.
import Derived.Test.YtajoldboafkpdaaDoorWriterT
import Derived.Test.YtajoldboafkpdaaDoorHex
import Derived.Test.YtajoldboafkpdaaDoorToken
namespace Go.Proofs.YtajoldboafkpdaaDoor
set_option linter.unusedSimpArgs false
set_option linter.unusedVariables false
open Go.RowKit Go.Lk
/-- Cells that hold headers. -/
def HdrsAt (w : World) (A : Option Addr) (l : List (Bs × Bs)) : Prop := ∀ (j : Nat) h, l[j]? = some h → ∃ ab ao, A = some ⟨ab, ao, none⟩ ∧ w.cell? ⟨ab, ao + j * 2, none⟩ = some (strV h.1) ∧ w.cell? ⟨ab, ao + j * 2 + 1, none⟩ = some (strV h.2)
theorem HdrsAt.upd {w w1 : World} {F : List Nat} {A : Option Addr} {l : List (Bs × Bs)} (h : HdrsAt w A l) (hu : Upd F w w1) (hF : ∀ ab ao, A = some ⟨ab, ao, none⟩ → ab ∉ F) : HdrsAt w1 A l := fun j x hj => by
  obtain ⟨ab, ao, e, hc, hd⟩ := h j x hj
  exact ⟨ab, ao, e, (World.cell?_of_block (hu.block ab (World.block_lt_of_cell? _ _ hc) (hF ab ao e))).trans hc, (World.cell?_of_block (hu.block ab (World.block_lt_of_cell? _ _ hc) (hF ab ao e))).trans hd⟩
theorem HdrsAt.nil (w : World) (A : Option Addr) : HdrsAt w A [] := fun j x hj => by cases hj
theorem HdrsAt.lt {w : World} {A : Option Addr} {l : List (Bs × Bs)} (h : HdrsAt w A l) (hl : l ≠ []) (ab ao : Nat) (e : A = some ⟨ab, ao, none⟩) : ab < w.heap.size := by
  obtain ⟨x, hx⟩ : ∃ x, l[0]? = some x := ⟨l[0]'(List.length_pos_iff.2 hl), by simp [List.length_pos_iff.2 hl]⟩
  obtain ⟨ab', ao', e', hc, _⟩ := h 0 x hx
  rw [e] at e'
  injection e' with e'
  injection e' with e'
  subst e'
  exact World.block_lt_of_cell? _ _ hc
set_option maxRecDepth 100000 in
set_option maxHeartbeats 1600000 in
theorem writer_headers {w : World} {base wb : Nat} {v : Value} {ws : List Bs} {bad : Bool} (h : WrAt w base wb v ws bad) (hE : Env w) (hb : base ≤ w.heap.size) (hl : ws.length ≤ 1000000) (hg : gfree wb ∧ gfree base)
    {A : Option Addr} {c : Nat} {l : List (Bs × Bs)} (hA : HdrsAt w A l) (hll : l.length ≤ 1000000) (hA1 : ∀ ab ao, A = some ⟨ab, ao, none⟩ → l ≠ [] → ab ≠ wb ∧ v.ownBlock ≠ some ab) (hr : ∀ x ∈ l, x.1.length ≤ 1000000 ∧ x.2.length ≤ 1000000) :
    Calls Tryd.prog 42 #[.pointer (some ⟨wb, 0, none⟩), .slice A l.length c] w fun e w' => e = .returned (.tuple #[]) ∧ ∃ v', WrStep w w' base wb v v' (ws ++ (hdrsW l).1) (bad || !(hdrsW l).2) := by
  obtain ⟨i0, hi, hz0, hz1, hz2⟩ := info_parts Tryd.infoString
  have hbw : base ≤ w.heap.size := hb
  have HH := Lib.hid h; have HE := Lib.hid hE; have HA := Lib.hid hA; have HA1 := Lib.hid hA1; clear h hE hA hA1
  obtain ⟨sw, hsw⟩ : ∃ sw, sw = hdrsW l := ⟨_, rfl⟩
  have HS := Lib.hid hsw
  rw [← hsw]
  clear hsw
  go_enter Tryd.func42, Tryd.ntmps42
  go_wp2_with fail
  go_loopw [8] (fun v8 wr => ∃ (k : Nat) (v' : Value), k ≤ l.length ∧ v8 = .int .i64 k ∧ WrStep w wr base wb v v' (ws ++ (hdrsW (l.take k)).1) (bad || !(hdrsW (l.take k)).2)) (fun v8 _ => l.length - (intOf v8).toNat)
  case atStart => exact ⟨0, v, by omega, rfl, by simpa [hdrsW] using HH.out.step⟩
  case round =>
    obtain ⟨k, v1, hk, rfl, hst⟩ := hrel
    have HST := Lib.hid hst; clear hst
    by_cases hlt : k < l.length
    · obtain ⟨x, hx⟩ : ∃ x, x = l[k] := ⟨_, rfl⟩
      have hE1 : Env wr := HE.out.upd HST.out.upd (fun y hy => by
        rcases List.mem_cons.1 hy with rfl | hy
        · exact hg.1
        · have := own_ge HH.out.own y (by simpa using hy)
          have := hg.2
          unfold gfree at *; omega)
      have hrx := hr x (by rw [hx]; exact List.getElem_mem hlt)
      obtain ⟨ab, ao, hAe, hcell0, hcell1⟩ := HA.out k x (by simp [hx, hlt])
      subst hAe
      have hab := HA1.out ab ao rfl (fun h0 => by rw [h0] at hlt; simp at hlt)
      have habl := World.block_lt_of_cell? _ _ hcell0
      have hblk := HST.out.upd.block ab habl (by
        intro hm
        rcases List.mem_cons.1 hm with e | hm
        · exact hab.1 e
        · exact hab.2 (by simpa using hm))
      have hcell : wr.cell? ⟨ab, ao + k * 2, none⟩ = some (.string ⟨x.1.toArray⟩) := (World.cell?_of_block hblk).trans hcell0
      have hcelly : wr.cell? ⟨ab, ao + k * 2 + 1, none⟩ = some (.string ⟨x.2.toArray⟩) := (World.cell?_of_block hblk).trans hcell1
      have HE1 := Lib.hid hE1; clear hE1 hcell0 hcell1 hblk
      have hi2 : (hdrsW (l.take (k + 1))).1 = (hdrsW (l.take k)).1 ++ [hdrW x] := by
        rw [List.take_succ_eq_append_getElem hlt, ← hx]; simp [hdrsW]
      have hi3 : (hdrsW (l.take (k + 1))).2 = ((hdrsW (l.take k)).2 && tokenS x.1) := by
        rw [List.take_succ_eq_append_getElem hlt, ← hx]; simp [hdrsW]
      have hil : (hdrsW (l.take k)).1.length = k := by simp [hdrsW]; omega
      have hwl : (ws ++ (hdrsW (l.take k)).1).length ≤ 2000000 := by rw [List.length_append]; omega
      obtain ⟨wk, hwk⟩ : ∃ wk, wk = ws ++ (hdrsW (l.take k)).1 := ⟨_, rfl⟩
      obtain ⟨bk, hbk⟩ : ∃ bk, bk = (bad || !(hdrsW (l.take k)).2) := ⟨_, rfl⟩
      have hst := HST.out
      rw [← hwk, ← hbk] at hst
      rw [← hwk] at hwl
      have HW := Lib.hid hwk; have HBK := Lib.hid hbk; have HI2 := Lib.hid hi2; have HI3 := Lib.hid hi3; have HX := Lib.hid hx
      clear hwk hbk hi2 hi3 hil hx HST
      obtain ⟨A1, ca, rfl⟩ := hst.at_.slice
      have hbs : base ≤ wr.heap.size := Nat.le_trans hbw hst.upd.size
      have HST := Lib.hid hst; clear hst
      obtain ⟨x1, x2⟩ := x
      simp only at hrx
      go_upto_region 3 with fail
      have U0 := Lib.hid ((Upd.refl [] wr).alloc (.cells #[.string ⟨x1.toArray⟩, .string ⟨x2.toArray⟩] 100))
      have b0 := heap_alloc_self (w := wr) (.cells #[.string ⟨x1.toArray⟩, .string ⟨x2.toArray⟩] 100)
      have H0 := Lib.hid (HST.out.at_.upd U0.out (by simp) (by simp))
      generalize hw0 : wr.alloc (.cells #[.string ⟨x1.toArray⟩, .string ⟨x2.toArray⟩] 100) = w0 at *
      have c0 : w0.cell? ⟨wb, 0, none⟩ = some (.slice A1 wk.length ca) := cell_of (i := 0) H0.out.hb rfl
      have d0 : w0.cell? ⟨wr.heap.size, 0, none⟩ = some (.string ⟨x1.toArray⟩) := cell_of (i := 0) b0 rfl
      have d1 : w0.cell? ⟨wr.heap.size, 1, none⟩ = some (.string ⟨x2.toArray⟩) := cell_of (i := 1) b0 rfl
      have B0 := Lib.hid b0; clear b0
      refine wp_region_proc [(0, 0), (1, 0), (2, 0), (3, 0), (4, 0), (5, 0), (6, 0), (7, 0), (8, 0), (9, 0), (10, 1), (11, 1), (12, 0), (13, 1), (14, 1), (15, 0), (16, 0), (17, 2)] (fun W => W.cell? ⟨wb, 0, none⟩ = some (.slice A1 wk.length ca) ∧ W.cell? ⟨wr.heap.size, 0, none⟩ = some (.string ⟨x1.toArray⟩) ∧ W.cell? ⟨wr.heap.size, 1, none⟩ = some (.string ⟨x2.toArray⟩)) (by kernel_rfl) (by kernel_rfl) (fun c a w t v h => by cases t <;> exact h) ⟨c0, d0, d1⟩ ?_
      repeat
        (first
          | (apply proc_held
             case ho => simp only [List.getElem?_toArray, List.getElem?_cons_succ, List.getElem?_cons_zero]; rfl
             case hg => rfl
             case hv => intro W hW; (try dsimp only at hW); go_simp; rfl
             case ha => go_simp; rfl)
          | (apply proc_held_on
             case ho => simp only [List.getElem?_toArray, List.getElem?_cons_succ, List.getElem?_cons_zero]; rfl
             case hg => rfl
             case hv => intro W hW; (try dsimp only at hW); go_simp; rfl
             case ha => go_simp; rfl)
          | (apply proc_off
             case ho => simp only [List.getElem?_toArray, List.getElem?_cons_succ, List.getElem?_cons_zero]; rfl
             case hg => rfl
             case ha => go_simp; rfl))
      apply proc_held (v := .string ⟨(x1 ++ [61]).toArray⟩)
      case ho => simp only [List.getElem?_toArray, List.getElem?_cons_succ, List.getElem?_cons_zero]; rfl
      case hg => rfl
      case hv =>
        intro W hW
        go_simp
        rw [if_neg (by omega), str_append]
      case ha => go_simp; rfl
      repeat
        (first
          | (apply proc_held
             case ho => simp only [List.getElem?_toArray, List.getElem?_cons_succ, List.getElem?_cons_zero]; rfl
             case hg => rfl
             case hv => intro W hW; (try dsimp only at hW); go_simp; rfl
             case ha => go_simp; rfl)
          | (apply proc_held_on
             case ho => simp only [List.getElem?_toArray, List.getElem?_cons_succ, List.getElem?_cons_zero]; rfl
             case hg => rfl
             case hv => intro W hW; (try dsimp only at hW); go_simp; rfl
             case ha => go_simp; rfl)
          | (apply proc_off
             case ho => simp only [List.getElem?_toArray, List.getElem?_cons_succ, List.getElem?_cons_zero]; rfl
             case hg => rfl
             case ha => go_simp; rfl))
      apply proc_eff
      case ho => simp only [List.getElem?_toArray, List.getElem?_cons_succ, List.getElem?_cons_zero]; rfl
      simp only [World.drew_eq]
      obtain ⟨oc, cc, hcv, hvv⟩ := run_conv_bytes (P := Tryd.prog) w0.drew 9 25 5 x2 Tryd.underlying9 Tryd.underlying25 Tryd.underlying5
      have HVV := Lib.hid hvv; clear hvv
      have hd0 : w0.drew.heap = w0.heap := rfl
      rw [hd0] at hcv
      go_wp2_with fail
      obtain ⟨w1, hw1⟩ : ∃ w1, w1 = (w0.alloc oc).drew.drew := ⟨_, rfl⟩
      have uu : Upd [] w0 w1 := by rw [hw1]; exact (((Upd.refl [] w0).alloc oc).drewN 1).drew
      rw [← hw1]
      have hvv : BytesV w1 (.slice (some ⟨w0.heap.size, 0, none⟩) x2.length cc) x2 := by rw [hw1]; exact HVV.out
      have U1 := Lib.hid (U0.out.trans uu (by simp))
      have V1 := Lib.hid uu
      have HV1 := Lib.hid hvv
      clear hw1 uu hvv HVV
      have cc1 : w1.cell? ⟨wb, 0, none⟩ = some (.slice A1 wk.length ca) := cell_of (i := 0) (H0.out.upd V1.out (by simp) (by simp)).hb rfl
      have cc2 : w1.cell? ⟨wr.heap.size, 0, none⟩ = some (.string ⟨x1.toArray⟩) := (World.cell?_of_block (V1.out.block _ (World.block_lt_of_cell? _ _ d0) (by simp))).trans d0
      have cc3 : w1.cell? ⟨wr.heap.size, 1, none⟩ = some (.string ⟨x2.toArray⟩) := (World.cell?_of_block (V1.out.block _ (World.block_lt_of_cell? _ _ d1) (by simp))).trans d1
      refine ⟨_, fun _ h => h, ⟨cc1, cc2, cc3⟩, ?_⟩
      apply proc_eff
      case ho => simp only [List.getElem?_toArray, List.getElem?_cons_succ, List.getElem?_cons_zero]; rfl
      go_wp2_with fail
      refine (script_hex HV1.out (by omega)).mono ?_
      rintro e w2 ⟨rfl, hu2⟩
      have V2 := Lib.hid (V1.out.trans hu2 (by simp))
      have U2 := Lib.hid (U1.out.trans hu2 (by simp))
      clear hu2 cc1 cc2 cc3
      have cc1 : w2.cell? ⟨wb, 0, none⟩ = some (.slice A1 wk.length ca) := cell_of (i := 0) (H0.out.upd V2.out (by simp) (by simp)).hb rfl
      have cc2 : w2.cell? ⟨wr.heap.size, 0, none⟩ = some (.string ⟨x1.toArray⟩) := (World.cell?_of_block (V2.out.block _ (World.block_lt_of_cell? _ _ d0) (by simp))).trans d0
      have cc3 : w2.cell? ⟨wr.heap.size, 1, none⟩ = some (.string ⟨x2.toArray⟩) := (World.cell?_of_block (V2.out.block _ (World.block_lt_of_cell? _ _ d1) (by simp))).trans d1
      go_wp2_with fail
      refine ⟨_, fun _ h => h, ⟨cc1, cc2, cc3⟩, ?_⟩
      have hxl : (hexS x2).length ≤ 2000001 := by
        unfold hexS; split
        · simp
        · rw [hexL_length]; omega
      obtain ⟨y, hy⟩ : ∃ y, y = hexS x2 := ⟨_, rfl⟩
      rw [← hy] at hxl ⊢
      have HY := Lib.hid hy; clear hy
      obtain ⟨z, hz⟩ : ∃ z, z = x1 ++ [61] ++ y := ⟨_, rfl⟩
      have HZ : Hid (hdrW (x1, x2) = z) := Lib.hid (by rw [hz, HY.out]; simp [hdrW])
      have HZ0 := Lib.hid hz
      clear hz
      apply proc_held (v := .string ⟨z.toArray⟩)
      case ho => simp only [List.getElem?_toArray, List.getElem?_cons_succ, List.getElem?_cons_zero]; rfl
      case hg => rfl
      case hv =>
        intro W hW
        have e1 : (⟨(x1 ++ [61]).toArray⟩ : ByteArray) ++ ⟨y.toArray⟩ = ⟨z.toArray⟩ := by rw [str_append, HZ0.out]
        go_simp
        omega
      case ha => go_simp; rfl
      repeat
        (first
          | (apply proc_held
             case ho => simp only [List.getElem?_toArray, List.getElem?_cons_succ, List.getElem?_cons_zero]; rfl
             case hg => rfl
             case hv => intro W hW; (try dsimp only at hW); go_simp; rfl
             case ha => go_simp; rfl)
          | (apply proc_held_on
             case ho => simp only [List.getElem?_toArray, List.getElem?_cons_succ, List.getElem?_cons_zero]; rfl
             case hg => rfl
             case hv => intro W hW; (try dsimp only at hW); go_simp; rfl
             case ha => go_simp; rfl)
          | (apply proc_off
             case ho => simp only [List.getElem?_toArray, List.getElem?_cons_succ, List.getElem?_cons_zero]; rfl
             case hg => rfl
             case ha => go_simp; rfl))
      apply proc_eff
      case ho => simp only [List.getElem?_toArray, List.getElem?_cons_succ, List.getElem?_cons_zero]; rfl
      go_wp2_with fail
      have U3 := Lib.hid (U2.out.alloc (.cells #[.string ⟨z.toArray⟩] 9))
      have V3 := Lib.hid (V2.out.alloc (.cells #[.string ⟨z.toArray⟩] 9))
      have H3 := Lib.hid (HST.out.at_.upd U3.out (by simp) (by simp))
      clear cc1 cc2 cc3
      have cc1 : (w2.alloc (.cells #[.string ⟨z.toArray⟩] 9)).cell? ⟨wb, 0, none⟩ = some (.slice A1 wk.length ca) := cell_of (i := 0) H3.out.hb rfl
      have cc2 : (w2.alloc (.cells #[.string ⟨z.toArray⟩] 9)).cell? ⟨wr.heap.size, 0, none⟩ = some (.string ⟨x1.toArray⟩) := (World.cell?_of_block (V3.out.block _ (World.block_lt_of_cell? _ _ d0) (by simp))).trans d0
      have cc3 : (w2.alloc (.cells #[.string ⟨z.toArray⟩] 9)).cell? ⟨wr.heap.size, 1, none⟩ = some (.string ⟨x2.toArray⟩) := (World.cell?_of_block (V3.out.block _ (World.block_lt_of_cell? _ _ d1) (by simp))).trans d1
      refine ⟨_, fun _ h => h, ⟨cc1, cc2, cc3⟩, ?_⟩
      apply proc_eff
      case ho => simp only [List.getElem?_toArray, List.getElem?_cons_succ, List.getElem?_cons_zero]; rfl
      refine wpList_append_src _ rfl (.tmp 16) (.tmp 25) 58 rfl base 9 i0 (.string ⟨#[]⟩) 1 16 Tryd.underlying58 hi hz0 hz1 hz2 rfl (by decide) (.slice A1 wk.length ca) wk.length (wk.map strV) rfl H3.out.own (some ⟨w2.heap.size, 0, none⟩) 1 1 [strV z] rfl (by simp) (cellsAt_new _ _ _) (by simp [strV, Value.oneCell']) (by unfold maxLen; omega) (by omega) (Nat.le_trans hbs U3.out.size) ?_
      intro v3 w3 hown3 hg3 hat3
      have hp := HST.out.at_.push z U3.out hown3 hg3 hat3
      obtain ⟨A3, cb, rfl⟩ := own_slice hown3
      have ug3 := (Upd.refl (Value.slice A1 wk.length ca).ownBlock.toList _).grown hg3 (fun k hk => .inr (by simp [hk]))
      have hb3 := (ug3.block wb (Array.getElem?_eq_some_iff.1 H3.out.hb).1 (fun hm => H3.out.ne wb (by simpa using hm) rfl)).trans H3.out.hb
      have hnr : wr.heap.size ∉ (Value.slice A1 wk.length ca).ownBlock.toList := fun hm => by
        have := own_lt HST.out.at_.own _ (by simpa using hm); omega
      have dd0 := (World.cell?_of_block (ug3.block _ (World.block_lt_of_cell? _ _ cc2) hnr)).trans cc2
      have dd1 := (World.cell?_of_block (ug3.block _ (World.block_lt_of_cell? _ _ cc3) hnr)).trans cc3
      have c3 := cell_of (i := 0) hb3 rfl
      have f3 : w3.frozen? ⟨wb, 0, none⟩ = false := free_of hb3
      simp only [List.getElem_toArray, List.getElem_cons_zero] at c3
      have hwr : wb < wr.heap.size := (Array.getElem?_eq_some_iff.1 HST.out.at_.hb).1
      have dx : (w3.setCell ⟨wb, 0, none⟩ (.slice A3 (wk.length + 1) cb)).cell? ⟨wr.heap.size, 0, none⟩ = some (.string ⟨x1.toArray⟩) := by
        rw [World.cell?_setCell_other _ _ _ _ (by first | (simp; done) | (simp; omega))]; exact dd0
      have HP := Lib.hid hp; clear hp hown3 hg3 hat3 hb3 ug3
      clear cc1 cc2 cc3
      go_wp2_with fail
      refine ⟨_, fun _ h => h, ⟨c3, dd0, dd1⟩, ?_⟩
      repeat
        (first
          | (apply proc_held
             case ho => simp only [List.getElem?_toArray, List.getElem?_cons_succ, List.getElem?_cons_zero]; rfl
             case hg => rfl
             case hv => intro W hW; (try dsimp only at hW); go_simp; rfl
             case ha => go_simp; rfl)
          | (apply proc_held_on
             case ho => simp only [List.getElem?_toArray, List.getElem?_cons_succ, List.getElem?_cons_zero]; rfl
             case hg => rfl
             case hv => intro W hW; (try dsimp only at hW); go_simp; rfl
             case ha => go_simp; rfl)
          | (apply proc_off
             case ho => simp only [List.getElem?_toArray, List.getElem?_cons_succ, List.getElem?_cons_zero]; rfl
             case hg => rfl
             case ha => go_simp; rfl))
      apply proc_last
      case ho => simp only [List.getElem?_toArray, List.getElem?_cons_succ, List.getElem?_cons_zero]; rfl
      go_wp2_with fail
      refine ⟨fun _ => True, trivial, ?_⟩
      refine proc_nil ?_
      clear c3 f3 dd0 dd1
      have c4 := cell_of (i := 1) HP.out.at_.hb rfl
      have f4 := free_of (i := 1) HP.out.at_.hb
      simp only [List.getElem_toArray, List.getElem_cons_zero, List.getElem_cons_succ] at c4
      have HN := Lib.hid (HP.out.at_.setBad (bk || !tokenS x1))
      have HF := Lib.hid (HST.out.trans (HP.out.trans HN.out))
      have hbool : (bad || !(hdrsW (l.take (k + 1))).2) = (bk || !tokenS x1) := by
        rw [HI3.out, HBK.out]
        cases bad <;> cases (hdrsW (l.take k)).2 <;> simp
      have hrel2 : WrStep w ((w3.setCell ⟨wb, 0, none⟩ (.slice A3 (wk.length + 1) cb)).setCell ⟨wb, 1, none⟩ (.bool (bk || !tokenS x1))) base wb v (.slice A3 (wk.length + 1) cb) (ws ++ (hdrsW (l.take (k + 1))).1) (bad || !(hdrsW (l.take (k + 1))).2) := by
        rw [hbool, HI2.out, HZ.out, ← List.append_assoc, ← HW.out]
        exact HF.out
      have HR2 := Lib.hid hrel2; clear hrel2 hbool
      cases bk
      · go_wp2_with fail
        refine (octet_token x1 _ (by omega)).mono ?_
        rintro e w5 ⟨rfl, rfl⟩
        go_wp2_with fail
        refine ⟨⟨k + 1, _, by omega, by go_num, by simpa using HR2.out⟩, by simp [intOf]; omega⟩
      · go_wp2_with fail
        refine ⟨⟨k + 1, _, by omega, by go_num, by simpa using HR2.out⟩, by simp [intOf]; omega⟩
    · obtain rfl : k = l.length := by omega
      have hst := HST.out
      rw [List.take_length, ← HS.out] at hst
      have HST2 := Lib.hid hst; clear hst
      go_wp2_with fail
      go_end0
      exact ⟨rfl, _, HST2.out⟩
end Go.Proofs.YtajoldboafkpdaaDoor
