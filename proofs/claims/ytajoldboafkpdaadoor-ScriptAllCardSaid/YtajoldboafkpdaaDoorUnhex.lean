-- script.Bytes: contract.
import Derived.Test.YtajoldboafkpdaaDoorHex
import Derived.Test.YtajoldboafkpdaaDoorIdx
import Derived.Test.YtajoldboafkpdaaDoorShelf
namespace Go.Proofs.YtajoldboafkpdaaDoor
set_option linter.unusedSimpArgs false
set_option linter.unusedVariables false
open Go.RowKit Go.Lk
/-- Where a digit lies among the digits. -/
def hvI (c : UInt8) : Int := match hv c with | some n => n | none => -1
theorem hexD_index_fin : ∀ n : Fin 256, Lib.indexByte [48, 49, 50, 51, 52, 53, 54, 55, 56, 57, 97, 98, 99, 100, 101, 102] (UInt8.ofNat n.val) = hvI (UInt8.ofNat n.val) := by decide +kernel
theorem hexD_index (c : UInt8) : Lib.indexByte [48, 49, 50, 51, 52, 53, 54, 55, 56, 57, 97, 98, 99, 100, 101, 102] c = hvI c := by
  have := hexD_index_fin ⟨c.toNat, c.toNat_lt⟩
  simpa using this
theorem hexD_index' (c : UInt8) : Lib.indexByte (⟨#[48, 49, 50, 51, 52, 53, 54, 55, 56, 57, 97, 98, 99, 100, 101, 102]⟩ : ByteArray).data.toList ((c.toNat : Int).toNat.toUInt8) = hvI c := by
  rw [show ((c.toNat : Int).toNat.toUInt8) = c by simp]
  exact hexD_index c
theorem or_fin : ∀ m n : Fin 16, bits BinOp.or IntKind.i64 ((m.val : Int) * 16) (n.val : Int) % 256 = ((16 * m.val + n.val : Nat) : Int) := by decide +kernel
theorem or_hex {m n : Nat} (hm : m < 16) (hn : n < 16) : bits BinOp.or IntKind.i64 ((m : Int) * 16) (n : Int) % 256 = (((UInt8.ofNat (16 * m + n)).toNat : Nat) : Int) := by
  rw [or_fin ⟨m, hm⟩ ⟨n, hn⟩, UInt8.toNat_ofNat', Nat.mod_eq_of_lt (by omega)]
set_option maxHeartbeats 1600000 in
set_option maxRecDepth 100000 in
theorem script_bytes (w : World) (s : List UInt8) (hlen : s.length ≤ 1000000) :
    Calls Tryd.prog 14 #[.string ⟨s.toArray⟩] w fun e w' => ∃ v, e = .returned (.tuple #[v, .bool (unhexS s).isSome]) ∧ BytesV w' v ((unhexS s).getD []) ∧ (∀ k, v.ownBlock = some k → w.heap.size ≤ k) ∧ Upd [] w w' := by
  have nilB : ∀ W : World, BytesV W (.slice none 0 0) [] := fun W => ⟨none, 0, rfl, Nat.le_refl _, fun j x h => by cases h⟩
  by_cases h1 : s = [45]
  · subst h1
    go_enter Tryd.func14, Tryd.ntmps14
    go_wp2
    go_ret2
    exact ⟨_, rfl, nilB _, by simp [Value.ownBlock], Upd.refl _ _⟩
  by_cases h2 : s = []
  · subst h2
    go_enter Tryd.func14, Tryd.ntmps14
    go_wp2
    go_ret2
    exact ⟨_, rfl, nilB _, by simp [Value.ownBlock], Upd.refl _ _⟩
  have hu : unhexS s = unhexL s := by unfold unhexS; rw [if_neg h1, if_neg h2]
  rw [hu]
  clear hu
  have ne1 : (s == [45]) = false := by rw [beq_eq_false_iff_ne]; exact h1
  have ne2 : s.isEmpty = false := by cases s <;> simp_all
  by_cases hodd : s.length % 2 = 0
  case neg =>
    have hn : unhexL s = none := by
      cases h : unhexL s with
      | none => rfl
      | some b => have := unhexL_length h; omega
    rw [hn]
    have e1 : ((s.length : Int) % 2 != 0) = true := by rw [bne_iff_ne]; omega
    go_enter Tryd.func14, Tryd.ntmps14
    go_wp2
    go_ret2
    exact ⟨_, rfl, nilB _, by simp [Value.ownBlock], Upd.refl _ _⟩
  have e1 : ((s.length : Int) % 2 != 0) = false := by rw [bne_eq_false_iff_eq]; omega
  obtain ⟨i0, hi, hz0, hz1, hz2⟩ := info_parts Tryd.info5
  go_enter Tryd.func14, Tryd.ntmps14
  go_wp2_with fail
  clear ne1 ne2 e1
  go_loopw [4, 5] (fun v4 v5 wr => ∃ (k : Nat) (o : List UInt8), 2 * k ≤ s.length ∧ v5 = .int .i64 (2 * k : Nat) ∧ wr.ownsRow w.heap.size 5 1 v4 k (o.map B) ∧ unhexL s = (unhexL (s.drop (2 * k))).map (o ++ ·) ∧ Upd [] w wr) (fun _ v5 _ => s.length - (intOf v5).toNat)
  case atStart => exact ⟨0, [], by omega, rfl, World.ownsRow_nil _ _ _ _, by simp, Upd.refl _ _⟩
  case round =>
    obtain ⟨k, o, hk, rfl, hown, he, hu⟩ := hrel
    obtain ⟨A3, c3, rfl⟩ := own_slice hown
    have HO := Lib.hid hown; have HU := Lib.hid hu; have HE := Lib.hid he; clear hown hu he
    by_cases hlt : 2 * k < s.length
    · have hlt2 : 2 * k + 1 < s.length := by omega
      obtain ⟨x, hx⟩ : ∃ x, x = s[2 * k] := ⟨_, rfl⟩
      obtain ⟨y, hy⟩ : ∃ y, y = s[2 * k + 1] := ⟨_, rfl⟩
      have hdr : s.drop (2 * k) = x :: y :: s.drop (2 * (k + 1)) := by
        rw [List.drop_eq_getElem_cons hlt, List.drop_eq_getElem_cons hlt2, hx, hy]; rfl
      have HX := Lib.hid hx; have HY := Lib.hid hy; have HD := Lib.hid hdr
      clear hx hy hdr
      go_wp2_with fail
      refine wp_region_proc [(0, 0), (1, 0), (2, 0), (4, 0), (5, 0), (6, 0), (7, 0), (3, 1), (8, 2), (9, 0), (10, 0)] (fun W => True) (by kernel_rfl) (by kernel_rfl) (fun c a w t v h => by cases t <;> exact h) trivial ?_
      apply proc_held
      case ho => simp only [List.getElem?_toArray, List.getElem?_cons_succ, List.getElem?_cons_zero]; rfl
      case hg => rfl
      case hv => intro W hW; go_simp; rfl
      case ha => go_simp; rfl
      apply proc_held
      case ho => simp only [List.getElem?_toArray, List.getElem?_cons_succ, List.getElem?_cons_zero]; rfl
      case hg => rfl
      case hv => intro W hW; go_simp; rfl
      case ha => go_simp; rfl
      apply proc_held (v := .int .u8 (x.toNat : Int))
      case ho => simp only [List.getElem?_toArray, List.getElem?_cons_succ, List.getElem?_cons_zero]; rfl
      case hg => rfl
      case hv => intro W hW; rw [HX.out]; exact run_index_next Tryd.underlying9 rfl hlt W
      case ha => go_simp; rfl
      apply proc_held
      case ho => simp only [List.getElem?_toArray, List.getElem?_cons_succ, List.getElem?_cons_zero]; rfl
      case hg => rfl
      case hv => intro W hW; go_simp; rfl
      case ha => go_simp; rfl
      apply proc_held
      case ho => simp only [List.getElem?_toArray, List.getElem?_cons_succ, List.getElem?_cons_zero]; rfl
      case hg => rfl
      case hv => intro W hW; go_simp; rfl
      case ha => go_simp; rfl
      apply proc_held
      case ho => simp only [List.getElem?_toArray, List.getElem?_cons_succ, List.getElem?_cons_zero]; rfl
      case hg => rfl
      case hv => intro W hW; go_simp; rfl
      case ha => go_simp; rfl
      apply proc_held (v := .int .u8 (y.toNat : Int))
      case ho => simp only [List.getElem?_toArray, List.getElem?_cons_succ, List.getElem?_cons_zero]; rfl
      case hg => rfl
      case hv => intro W hW; rw [HY.out]; exact run_index_next Tryd.underlying9 (by rw [IntWalk.i64_in _ (by omega)]; omega) hlt2 W
      case ha => go_simp; rfl
      apply proc_eff
      case ho => simp only [List.getElem?_toArray, List.getElem?_cons_succ, List.getElem?_cons_zero]; rfl
      go_wp2_with fail
      refine (Tryd.strings_IndexByte _ _ _).mono ?_
      rintro e w2 ⟨rfl, rfl⟩
      rw [hexD_index' x]
      go_wp2_with fail
      refine ⟨_, fun _ h => h, trivial, ?_⟩
      apply proc_last
      case ho => simp only [List.getElem?_toArray, List.getElem?_cons_succ, List.getElem?_cons_zero]; rfl
      go_wp2_with fail
      refine (Tryd.strings_IndexByte _ _ _).mono ?_
      rintro e w2 ⟨rfl, rfl⟩
      rw [hexD_index' y]
      go_wp2_with fail
      refine ⟨fun _ => True, trivial, ?_⟩
      repeat
        (first
          | (apply proc_held
             case ho => simp only [List.getElem?_toArray, List.getElem?_cons_succ, List.getElem?_cons_zero]; rfl
             case hg => rfl
             case hv => intro W hW; (try dsimp only at hW); go_simp; rfl
             case ha => go_simp; rfl)
          | (apply proc_held_on
             case ho => simp only [List.getElem?_toArray, List.getElem?_cons_succ, List.getElem?_cons_zero]; rfl
             case hg => rfl
             case hv => intro W hW; (try dsimp only at hW); go_simp; rfl
             case ha => go_simp; rfl)
          | (apply proc_off
             case ho => simp only [List.getElem?_toArray, List.getElem?_cons_succ, List.getElem?_cons_zero]; rfl
             case hg => rfl
             case ha => go_simp; rfl))
      refine proc_nil ?_
      have hvx : hvI x = match hv x with | some n => (n : Int) | none => -1 := rfl
      have hvy : hvI y = match hv y with | some n => (n : Int) | none => -1 := rfl
      cases hx2 : hv x with
      | none =>
        rw [hx2] at hvx
        have hn : unhexL s = none := by rw [HE.out, HD.out, unhexL, hx2]; rfl
        rw [hvx]
        clear hvx hvy hx2
        have HN := Lib.hid hn; clear hn
        go_wp2
        go_ret2
        rw [HN.out]
        exact ⟨_, rfl, nilB _, by simp [Value.ownBlock], HU.out.drew⟩
      | some m =>
        rw [hx2] at hvx
        cases hy2 : hv y with
        | none =>
          rw [hy2] at hvy
          have hn : unhexL s = none := by rw [HE.out, HD.out, unhexL, hx2, hy2]; rfl
          rw [hvx, hvy]
          clear hvx hvy hx2 hy2
          have HN := Lib.hid hn; clear hn
          go_wp2
          go_ret2
          rw [HN.out]
          exact ⟨_, rfl, nilB _, by simp [Value.ownBlock], HU.out.drew⟩
        | some n =>
          rw [hy2] at hvy
          rw [hvx, hvy]
          have hm := hv_lt hx2
          have hn := hv_lt hy2
          have HV := Lib.hid hx2; have HW := Lib.hid hy2
          clear hvx hvy hx2 hy2
          have hob := or_hex hm hn
          have ho1 : o.length = k := by have := HO.out.1; simpa using this
          have hnew : CellsAt ((wr.drewN 1).alloc (.cells #[.int .u8 ((UInt8.ofNat (16 * m + n)).toNat : Int)] 5)) (some ⟨wr.heap.size, 0, none⟩) ([UInt8.ofNat (16 * m + n)].map B) := (bytesAt_new (wr.drewN 1) 5 [UInt8.ofNat (16 * m + n)] (0, 0)).cells
          have hstep : unhexL s = (unhexL (s.drop (2 * (k + 1)))).map ((o ++ [UInt8.ofNat (16 * m + n)]) ++ ·) := by
            rw [HE.out, HD.out, unhexL, HV.out, HW.out]
            simp only
            rw [Option.map_map]; congr 1; funext r; simp
          have HNEW := Lib.hid hnew; have HOL := Lib.hid ho1; have HST := Lib.hid hstep; clear hnew ho1 hstep
          generalize UInt8.ofNat (16 * m + n) = cb at *
          go_wp2_with (at_builtin; refine wpList_append_src _ rfl (.tmp 39) (.tmp 45) 25 rfl w.heap.size 5 i0 (.int .u8 0) 1 1 Tryd.underlying25 hi hz0 hz1 hz2 rfl (by decide) (.slice A3 k c3) k (o.map B) rfl ?q1 (some ⟨wr.heap.size, 0, none⟩) 1 1 ([cb].map B) rfl (by simp) ?q2 (B_one _) ?q3 ?q4 ?q5 ?q6)
          case q1 => exact own_upd HO.out (((Upd.refl [] wr).alloc _).drew) (by simp)
          case q2 => exact HNEW.out
          case q3 => unfold maxLen; omega
          case q4 => omega
          case q5 => have := HU.out.size; simp; omega
          intro v2 w2 hown2 hg2 hat2
          have hge1 := own_ge HO.out
          have U2 : Upd [] w w2 := ((HU.out.alloc _).drew).grown hg2 (fun j hj => .inl (hge1 j hj))
          have HO2 := Lib.hid hown2; have HU2 := Lib.hid U2
          clear hown2 hg2 hat2 U2
          go_wp2_with fail
          refine ⟨⟨k + 1, o ++ [cb], by omega, by go_num, by rw [List.map_append]; exact HO2.out, HST.out, HU2.out⟩, by simp [intOf]; omega⟩
    · have hk2 : 2 * k = s.length := by omega
      have hend : unhexL s = some o := by rw [HE.out, hk2, List.drop_length]; simp [unhexL]
      have HN := Lib.hid hend; clear hend hk2
      have ho1 : o.length = k := by have := HO.out.1; simpa using this
      go_wp2
      go_ret2
      rw [HN.out]
      exact ⟨_, rfl, bytes_of_own HO.out, own_ge HO.out, HU.out⟩
end Go.Proofs.YtajoldboafkpdaaDoor
