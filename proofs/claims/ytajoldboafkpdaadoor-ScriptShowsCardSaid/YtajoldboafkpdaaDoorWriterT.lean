-- script.writer.text: contract.
import Derived.Test.YtajoldboafkpdaaDoorWriterI
import Derived.Test.YtajoldboafkpdaaDoorIdx
namespace Go.Proofs.YtajoldboafkpdaaDoor
set_option linter.unusedSimpArgs false
set_option linter.unusedVariables false
open Go.RowKit Go.Lk
set_option maxRecDepth 100000 in
set_option maxHeartbeats 1600000 in
theorem writer_text {w : World} {base wb : Nat} {v : Value} {ws : List Bs} {bad : Bool} (h : WrAt w base wb v ws bad) (hb : base ≤ w.heap.size) (hl : ws.length ≤ 1000000) (s : Bs) (hs : s.length ≤ 1000000) :
    Calls Tryd.prog 61 #[.pointer (some ⟨wb, 0, none⟩), .string ⟨s.toArray⟩] w fun e w' => e = .returned (.tuple #[]) ∧ ∃ v', WrStep w w' base wb v v' (ws ++ [s]) (bad || !textS s) := by
  obtain ⟨i0, hi, hz0, hz1, hz2⟩ := info_parts Tryd.infoString
  obtain ⟨A, c, rfl⟩ := h.slice
  have c0 := cell_of (i := 0) h.hb rfl
  have f0 : w.frozen? ⟨wb, 0, none⟩ = false := free_of h.hb
  simp only [List.getElem_toArray, List.getElem_cons_zero] at c0
  have HH := Lib.hid h; clear h
  have U2 := Lib.hid ((Upd.refl [] w).alloc (.cells #[strV s] 9))
  have H2 := Lib.hid (HH.out.upd U2.out (by simp) (by simp))
  go_enter Tryd.func61, Tryd.ntmps61
  go_upto_region 1 with (at_builtin; refine wpList_append_src _ rfl (.tmp 9) (.tmp 11) 58 rfl base 9 i0 (.string ⟨#[]⟩) 1 16 Tryd.underlying58 hi hz0 hz1 hz2 rfl (by decide) (.slice A ws.length c) ws.length (ws.map strV) rfl H2.out.own (some ⟨w.heap.size, 0, none⟩) 1 1 [strV s] rfl (by simp) (cellsAt_new _ _ _) (by simp [strV, Value.oneCell']) (by unfold maxLen; omega) (by omega) (Nat.le_trans hb U2.out.size) ?_)
  intro v3 w3 hown3 hg3 hat3
  have hp := HH.out.push s U2.out hown3 hg3 (by rcases hat3 with e | e; exact .inl e; exact .inr (by rw [e]; simp))
  obtain ⟨A3, cb, rfl⟩ := own_slice hown3
  have hb3 := ((Upd.refl (Value.slice A ws.length c).ownBlock.toList _).grown hg3 (fun k hk => .inr (by simp [hk]))).block wb (Array.getElem?_eq_some_iff.1 H2.out.hb).1 (fun hm => H2.out.ne wb (by simpa using hm) rfl) |>.trans H2.out.hb
  have c3 := cell_of (i := 0) hb3 rfl
  have f3 : w3.frozen? ⟨wb, 0, none⟩ = false := free_of hb3
  have c4 := cell_of (i := 1) hb3 rfl
  have f4 : w3.frozen? ⟨wb, 1, none⟩ = false := free_of hb3
  simp only [List.getElem_toArray, List.getElem_cons_zero, List.getElem_cons_succ] at c3 c4
  have HP := Lib.hid hp; clear hp hown3 hg3 hat3 hb3 c0 f0
  have HN := Lib.hid (HP.out.trans (HP.out.at_.setBad (bad || s.isEmpty)))
  go_upto_region 1 with fail
  go_cut [] from 15 to 25 (fun wz => WrStep w wz base wb (.slice A ws.length c) (.slice A3 (ws.length + 1) cb) (ws ++ [s]) (bad || s.isEmpty))
  case first =>
    cases bad
    · go_wp2_with fail
      go_meet
      case rel => exact HN.out
    · go_wp2_with fail
      go_meet
      case rel => exact HN.out
  case rest =>
    clear HN c3 f3 c4 f4
    have HC := Lib.hid hcut; clear hcut
    have hnil : (bad || s.isEmpty) = (bad || !(decide (s ≠ []) && (s.take 0).all seenC)) := by cases s <;> simp
    have HNIL := Lib.hid hnil; clear hnil
    go_wp2_with fail
    go_loopw [28] (fun v28 wr => ∃ (k : Nat), k ≤ s.length ∧ v28 = .int .i64 k ∧ WrStep w wr base wb (.slice A ws.length c) (.slice A3 (ws.length + 1) cb) (ws ++ [s]) (bad || !(decide (s ≠ []) && (s.take k).all seenC))) (fun v28 _ => s.length - (intOf v28).toNat)
    case atStart => exact ⟨0, by omega, rfl, by rw [← HNIL.out]; exact HC.out⟩
    case round =>
      obtain ⟨k, hk, rfl, hst⟩ := hrel
      have HST := Lib.hid hst; clear hst
      by_cases hlt : k < s.length
      · have hg := get_list s k hlt
        obtain ⟨x, hx⟩ : ∃ x, x = s[k] := ⟨_, rfl⟩
        have hk1 : (s.take (k + 1)).all seenC = ((s.take k).all seenC && seenC x) := by rw [List.take_succ_eq_append_getElem hlt, ← hx]; simp
        rw [← hx] at hg
        obtain ⟨bk, hbk⟩ : ∃ bk, bk = (bad || !(decide (s ≠ []) && (s.take k).all seenC)) := ⟨_, rfl⟩
        have hb2 : (bad || !(decide (s ≠ []) && (s.take (k + 1)).all seenC)) = (bk || !seenC x) := by
          rw [hk1, hbk]
          cases bad <;> cases (decide (s ≠ [])) <;> cases ((s.take k).all seenC) <;> cases (seenC x) <;> rfl
        have hst := HST.out
        rw [← hbk] at hst
        have c4 := cell_of (i := 1) hst.at_.hb rfl
        have f4 := free_of (i := 1) hst.at_.hb
        simp only [List.getElem_toArray, List.getElem_cons_zero, List.getElem_cons_succ] at c4
        have HF := Lib.hid (hst.trans (hst.at_.setBad (bk || !seenC x)))
        have hsx : seenC x = (decide (33 ≤ x.toNat) && decide (x.toNat ≤ 126)) := rfl
        have HB2 := Lib.hid hb2
        clear hb2 hbk hst hk1 hx HST
        cases bk
        · by_cases h33 : x.toNat < 33
          · have e1 : (false || !seenC x) = true := by rw [hsx, decide_eq_false (by omega : ¬ 33 ≤ x.toNat)]; rfl
            have hF := HF.out
            rw [e1] at hF
            have HF2 := Lib.hid hF
            have HB3 := Lib.hid (HB2.out.trans e1)
            clear hF e1 hsx
            go_wp2_with fail
            exact ⟨⟨k + 1, by omega, by go_num, by rw [HB3.out]; exact HF2.out⟩, by simp [intOf]; omega⟩
          · by_cases h126 : 126 < x.toNat
            · have e1 : (false || !seenC x) = true := by rw [hsx, decide_eq_false (by omega : ¬ x.toNat ≤ 126)]; simp
              have hF := HF.out
              rw [e1] at hF
              have HF2 := Lib.hid hF
              have HB3 := Lib.hid (HB2.out.trans e1)
              clear hF e1 hsx
              go_wp2_with fail
              exact ⟨⟨k + 1, by omega, by go_num, by rw [HB3.out, show (decide ((x.toNat : Int) < 33) || decide (126 < (x.toNat : Int))) = true by rw [decide_eq_true (by omega : 126 < (x.toNat : Int))]; simp]; exact HF2.out⟩, by simp [intOf]; omega⟩
            · have e1 : (false || !seenC x) = false := by rw [hsx, decide_eq_true (by omega : 33 ≤ x.toNat), decide_eq_true (by omega : x.toNat ≤ 126)]; rfl
              have hF := HF.out
              rw [e1] at hF
              have HF2 := Lib.hid hF
              have HB3 := Lib.hid (HB2.out.trans e1)
              clear hF e1 hsx
              go_wp2_with fail
              exact ⟨⟨k + 1, by omega, by go_num, by rw [HB3.out, show (decide ((x.toNat : Int) < 33) || decide (126 < (x.toNat : Int))) = false by rw [decide_eq_false (by omega : ¬ 126 < (x.toNat : Int)), decide_eq_false (by omega : ¬ (x.toNat : Int) < 33)]; rfl]; exact HF2.out⟩, by simp [intOf]; omega⟩
        · have e1 : (true || !seenC x) = true := rfl
          have hF := HF.out
          rw [e1] at hF
          have HF2 := Lib.hid hF
          have HB3 := Lib.hid (HB2.out.trans e1)
          clear hF e1 hsx
          go_wp2_with fail
          exact ⟨⟨k + 1, by omega, by go_num, by rw [HB3.out]; exact HF2.out⟩, by simp [intOf]; omega⟩
      · obtain rfl : k = s.length := by omega
        have hst := HST.out
        rw [List.take_length] at hst
        have HST2 := Lib.hid hst; clear hst
        go_wp2_with fail
        go_end0
        exact ⟨rfl, _, HST2.out⟩
end Go.Proofs.YtajoldboafkpdaaDoor
