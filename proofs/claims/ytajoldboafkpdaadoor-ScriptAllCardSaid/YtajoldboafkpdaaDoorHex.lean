-- script.Hex, script.Bytes: contracts.
import Derived.Test.YtajoldboafkpdaaDoorBase
import Derived.Test.YtajoldboafkpdaaDoorProc
import Derived.Test.YtajoldboafkpdaaDoorProg
import Derived.Test.YtajoldboafkpdaaDoorInfo
import Derived.Test.YtajoldboafkpdaaDoorApp
import Derived.Test.YtajoldboafkpdaaDoorTxt
import Derived.Outline
namespace Go.Proofs.YtajoldboafkpdaaDoor
set_option linter.unusedSimpArgs false
set_option linter.unusedVariables false
open Go.RowKit Go.Lk
def hexD : ByteArray := ⟨#[48, 49, 50, 51, 52, 53, 54, 55, 56, 57, 97, 98, 99, 100, 101, 102]⟩
theorem hexD_at (n : Nat) (h : n < hexD.size) : hexD[n] = hd n := by
  have h' : n < 16 := h
  rcases (show n = 0 ∨ n = 1 ∨ n = 2 ∨ n = 3 ∨ n = 4 ∨ n = 5 ∨ n = 6 ∨ n = 7 ∨ n = 8 ∨ n = 9 ∨ n = 10 ∨ n = 11 ∨ n = 12 ∨ n = 13 ∨ n = 14 ∨ n = 15 by omega) with rfl | rfl | rfl | rfl | rfl | rfl | rfl | rfl | rfl | rfl | rfl | rfl | rfl | rfl | rfl | rfl <;> rfl
theorem and15_fin : ∀ n : Fin 256, bits BinOp.and IntKind.u8 (n.val : Int) 15 = ((n.val % 16 : Nat) : Int) := by decide +kernel
theorem and15 (x : UInt8) : bits BinOp.and IntKind.u8 (x.toNat : Int) 15 = ((x.toNat % 16 : Nat) : Int) := and15_fin ⟨x.toNat, x.toNat_lt⟩
theorem run_hexD (z : Int) (n : Nat) (hz : z = n) (h : n < 16) (W : World) : (Instr.index 9 (.string hexD) (.int .u8 z)).run Tryd.prog W = .ok (B (hd n)) W := by
  subst hz
  have e : (0 : Int) ≤ (n : Int) := by omega
  have hs : n < hexD.size := h
  simp [Instr.index, run_underlying Tryd.underlying9, asIntOf, go_sem, hs, hexD_at, B]
set_option maxHeartbeats 800000 in
set_option maxRecDepth 100000 in
theorem script_hex {w : World} {v : Value} {bs : List UInt8} (hv : BytesV w v bs) (hlen : bs.length ≤ 1000000) :
    Calls Tryd.prog 15 #[v] w fun e w' => e = .returned (.string ⟨(hexS bs).toArray⟩) ∧ Upd [] w w' := by
  obtain ⟨A, c, rfl, hbc, hb⟩ := hv
  by_cases h0 : bs = []
  · subst h0
    go_enter Tryd.func15, Tryd.ntmps15
    go_wp2
    go_ret
    exact ⟨rfl, Upd.refl _ _⟩
  have hl : bs.length ≠ 0 := fun h => h0 (List.eq_nil_of_length_eq_zero h)
  have hz : ((bs.length : Int) == 0) = false := by rw [beq_eq_false_iff_ne]; omega
  obtain ⟨i0, hi, hz0, hz1, hz2⟩ := info_parts Tryd.info5
  have HB := Lib.hid hb; clear hb
  go_enter Tryd.func15, Tryd.ntmps15
  go_wp2_with fail
  go_loopw [3, 11] (fun v3 v11 wr => ∃ (k : Nat), k ≤ bs.length ∧ v11 = .int .i64 k ∧ wr.ownsRow w.heap.size 5 1 v3 (2 * k) ((hexL (bs.take k)).map B) ∧ Upd [] w wr) (fun _ v11 _ => bs.length - (intOf v11).toNat)
  case atStart => exact ⟨0, by omega, rfl, World.ownsRow_nil _ _ _ _, Upd.refl _ _⟩
  case round =>
    obtain ⟨k, hk, rfl, hown, hu⟩ := hrel
    obtain ⟨A3, c3, rfl⟩ := own_slice hown
    have HO := Lib.hid hown; have HU := Lib.hid hu; clear hown hu
    by_cases hlt : k < bs.length
    · obtain ⟨ab, ao, hA, hcell⟩ := (HB.out.upd0 HU.out) k bs[k] (by simp [hlt])
      subst hA
      generalize hx : bs[k] = x at *
      have HX := Lib.hid hx; clear hx
      unfold B at hcell
      go_wp2_with fail
      refine wp_region_proc [(0, 0), (1, 0), (2, 0), (3, 0), (4, 0), (5, 0), (6, 0), (7, 1), (8, 2), (9, 0)] (fun W => True) (by kernel_rfl) (by kernel_rfl) (fun c a w t v h => by cases t <;> exact h) trivial ?_
      repeat
        (first
          | (apply proc_held
             case ho => simp only [List.getElem?_toArray, List.getElem?_cons_succ, List.getElem?_cons_zero]; rfl
             case hg => rfl
             case hv => intro W hW; (try dsimp only at hW); go_simp; rfl
             case ha => go_simp; rfl)
          | (apply proc_held_on
             case ho => simp only [List.getElem?_toArray, List.getElem?_cons_succ, List.getElem?_cons_zero]; rfl
             case hg => rfl
             case hv => intro W hW; (try dsimp only at hW); go_simp; rfl
             case ha => go_simp; rfl)
          | (apply proc_off
             case ho => simp only [List.getElem?_toArray, List.getElem?_cons_succ, List.getElem?_cons_zero]; rfl
             case hg => rfl
             case ha => go_simp; rfl))
      apply proc_held (v := .int .u8 ((hd (x.toNat / 16)).toNat : Int))
      case ho => simp only [List.getElem?_toArray, List.getElem?_cons_succ, List.getElem?_cons_zero]; rfl
      case hg => rfl
      case hv =>
        intro W hW
        have hr := run_hexD ((x.toNat : Int) / 16) (x.toNat / 16) (by omega) (by have := x.toNat_lt; omega) W
        unfold hexD at hr
        show (Instr.index 9 (.string ⟨#[48, 49, 50, 51, 52, 53, 54, 55, 56, 57, 97, 98, 99, 100, 101, 102]⟩) (.int .u8 ((x.toNat : Int) / 16)) >>= fun v => pure (Next.value v)).run Tryd.prog W = _
        rw [Sem.run_bind, hr]
        rfl
      case ha => go_simp; rfl
      repeat
        (first
          | (apply proc_held
             case ho => simp only [List.getElem?_toArray, List.getElem?_cons_succ, List.getElem?_cons_zero]; rfl
             case hg => rfl
             case hv => intro W hW; (try dsimp only at hW); go_simp; rfl
             case ha => go_simp; rfl)
          | (apply proc_held_on
             case ho => simp only [List.getElem?_toArray, List.getElem?_cons_succ, List.getElem?_cons_zero]; rfl
             case hg => rfl
             case hv => intro W hW; (try dsimp only at hW); go_simp; rfl
             case ha => go_simp; rfl)
          | (apply proc_off
             case ho => simp only [List.getElem?_toArray, List.getElem?_cons_succ, List.getElem?_cons_zero]; rfl
             case hg => rfl
             case ha => go_simp; rfl))
      apply proc_held (v := .int .u8 ((hd (x.toNat % 16)).toNat : Int))
      case ho => simp only [List.getElem?_toArray, List.getElem?_cons_succ, List.getElem?_cons_zero]; rfl
      case hg => rfl
      case hv =>
        intro W hW
        have hr := run_hexD (bits BinOp.and IntKind.u8 (x.toNat : Int) 15) (x.toNat % 16) (and15 x) (by omega) W
        unfold hexD at hr
        show (Instr.index 9 (.string ⟨#[48, 49, 50, 51, 52, 53, 54, 55, 56, 57, 97, 98, 99, 100, 101, 102]⟩) (.int .u8 (bits BinOp.and IntKind.u8 (x.toNat : Int) 15)) >>= fun v => pure (Next.value v)).run Tryd.prog W = _
        rw [Sem.run_bind, hr]
        rfl
      case ha => go_simp; rfl
      apply proc_eff
      case ho => simp only [List.getElem?_toArray, List.getElem?_cons_succ, List.getElem?_cons_zero]; rfl
      go_wp2_with fail
      refine ⟨_, fun _ h => h, trivial, ?_⟩
      apply proc_last
      case ho => simp only [List.getElem?_toArray, List.getElem?_cons_succ, List.getElem?_cons_zero]; rfl
      have hnew : CellsAt ((wr.drewN 1).alloc (.cells #[.int .u8 ((hd (x.toNat / 16)).toNat : Int), .int .u8 ((hd (x.toNat % 16)).toNat : Int)] 5)) (some ⟨wr.heap.size, 0, none⟩) ([hd (x.toNat / 16), hd (x.toNat % 16)].map B) := (bytesAt_new (wr.drewN 1) 5 [hd (x.toNat / 16), hd (x.toNat % 16)] (0, 0)).cells
      have hl1 : (hexL (bs.take k)).length = 2 * k := by rw [hexL_length, List.length_take]; omega
      refine wpList_append_src _ rfl (.tmp 15) (.tmp 22) 25 rfl w.heap.size 5 i0 (.int .u8 0) 1 1 Tryd.underlying25 hi hz0 hz1 hz2 rfl (by decide) (.slice A3 (2 * k) c3) (2 * k) ((hexL (bs.take k)).map B) rfl (own_upd HO.out (((Upd.refl [] wr).drewN 1).alloc _) (by simp)) (some ⟨wr.heap.size, 0, none⟩) 2 2 ([hd (x.toNat / 16), hd (x.toNat % 16)].map B) rfl (by simp) hnew (B_one _) (by unfold maxLen; omega) (by omega) (by have := HU.out.size; simp; omega) ?_
      intro v2 w2 hown2 hg2 hat2
      have hge1 := own_ge HO.out
      have U2 : Upd [] w w2 := (((HU.out.drewN 1).alloc _)).grown hg2 (fun j hj => .inl (hge1 j hj))
      have HO2 := Lib.hid hown2; have HU2 := Lib.hid U2
      clear hown2 hg2 hat2 U2 hnew
      go_wp2_with fail
      refine ⟨fun _ => True, trivial, ?_⟩
      repeat
        (first
          | (apply proc_held
             case ho => simp only [List.getElem?_toArray, List.getElem?_cons_succ, List.getElem?_cons_zero]; rfl
             case hg => rfl
             case hv => intro W hW; (try dsimp only at hW); go_simp; rfl
             case ha => go_simp; rfl)
          | (apply proc_held_on
             case ho => simp only [List.getElem?_toArray, List.getElem?_cons_succ, List.getElem?_cons_zero]; rfl
             case hg => rfl
             case hv => intro W hW; (try dsimp only at hW); go_simp; rfl
             case ha => go_simp; rfl)
          | (apply proc_off
             case ho => simp only [List.getElem?_toArray, List.getElem?_cons_succ, List.getElem?_cons_zero]; rfl
             case hg => rfl
             case ha => go_simp; rfl))
      refine proc_nil ?_
      go_wp2_with fail
      refine ⟨⟨k + 1, by omega, by go_num, ?_, HU2.out⟩, by simp [intOf]; omega⟩
      have e : hexL (bs.take (k + 1)) = hexL (bs.take k) ++ [hd (x.toNat / 16), hd (x.toNat % 16)] := by
        rw [List.take_succ_eq_append_getElem hlt, HX.out]
        simp [hexL]
      rw [e, List.map_append]
      exact HO2.out
    · obtain rfl : k = bs.length := by omega
      have hs := (bytes_of_own (show wr.ownsRow w.heap.size 5 1 (.slice A3 (2 * bs.length) c3) (2 * bs.length) ((hexL bs).map B) by simpa using HO.out)).str (P := Tryd.prog) 25 9 5 Tryd.underlying25 Tryd.underlying5 Tryd.underlying9
      go_wp2_with fail
      go_ret
      refine ⟨?_, HU.out⟩
      rw [hexS, if_neg h0]
      rfl
end Go.Proofs.YtajoldboafkpdaaDoor
