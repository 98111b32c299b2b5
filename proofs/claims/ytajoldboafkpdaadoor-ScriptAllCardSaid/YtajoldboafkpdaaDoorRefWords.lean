-- lockkeeperref24.Words: contract.
import Derived.Test.YtajoldboafkpdaaDoorSplitM
import Derived.Test.YtajoldboafkpdaaDoorRefTok
import Derived.Test.YtajoldboafkpdaaDoorWriter
import Derived.Lib.Strings
namespace Go.Proofs.YtajoldboafkpdaaDoor
set_option linter.unusedSimpArgs false
set_option linter.unusedVariables false
open Go.RowKit Go.Lk
set_option maxRecDepth 100000 in
set_option maxHeartbeats 1600000 in
theorem ref_words {w : World} (s : Bs) (hlen : s.length ≤ 900000) :
    Calls Tryd.prog 53 #[.string ⟨s.toArray⟩] w fun e w' => ∃ v, e = .returned v ∧ w'.ownsRow w.heap.size 9 1 v (Lib.split s [32]).length ((Lib.split s [32]).map strV) ∧ Upd [] w w' := by
  obtain ⟨i0, hi, hz0, hz1, hz2⟩ := info_parts Tryd.infoString
  obtain ⟨sp, hsp⟩ : ∃ sp, sp = Lib.split s [32] := ⟨_, rfl⟩
  have HSP := Lib.hid hsp
  rw [← hsp]
  clear hsp
  go_enter Tryd.func53, Tryd.ntmps53
  go_wp2_with fail
  go_loopw [3, 4, 5] (fun v3 v4 v5 wr => ∃ (i from_ : Nat) (done : List Bs), i ≤ s.length + 1 ∧ v5 = .int .i64 i ∧ v4 = .int .i64 from_ ∧ wr.ownsRow w.heap.size 9 1 v3 done.length (done.map strV) ∧ Upd [] w wr ∧ done.length ≤ i ∧
      ((i ≤ s.length ∧ from_ ≤ i ∧ (32 : UInt8) ∉ (s.drop from_).take (i - from_) ∧ sp = done ++ Lib.split (s.drop from_) [32]) ∨ (i = s.length + 1 ∧ sp = done))) (fun _ _ v5 _ => s.length + 1 - (intOf v5).toNat)
  case atStart => exact ⟨0, 0, [], by omega, rfl, rfl, World.ownsRow_nil _ _ _ _, Upd.refl _ _, by simp, .inl ⟨by omega, by omega, by simp, by simpa using HSP.out⟩⟩
  case round =>
    obtain ⟨i, fr, done, hi1, rfl, rfl, hown, hu, hdl, hst⟩ := hrel
    have HO := Lib.hid hown; have HU := Lib.hid hu; clear hown hu
    rcases hst with ⟨h1, h2, h3, h4⟩ | ⟨h1, h4⟩
    · have H3 := Lib.hid h3; have H4 := Lib.hid h4; clear h3 h4
      obtain ⟨wd, hwd⟩ : ∃ wd, wd = (s.drop fr).take (i - fr) := ⟨_, rfl⟩
      have hex : ByteArray.extract ⟨s.toArray⟩ fr i = ⟨wd.toArray⟩ := by rw [Lib.extract_eq, hwd]
      have hrest : s.drop fr = wd ++ s.drop i := by
        rw [hwd]
        have := (List.take_append_drop (i - fr) (s.drop fr)).symm
        rw [List.drop_drop, show fr + (i - fr) = i by omega] at this
        exact this
      have HWD := Lib.hid hwd; have HRS := Lib.hid hrest
      clear hwd hrest
      obtain ⟨A3, c3, rfl⟩ := own_slice HO.out
      have hnw : (32 : UInt8) ∉ wd := by rw [HWD.out]; exact H3.out
      have HNW := Lib.hid hnw; clear hnw
      by_cases hend : i = s.length
      · have hsp : sp = done ++ [wd] := by
          have h := H4.out
          rw [HRS.out, hend, List.drop_length, List.append_nil, split_not _ _ HNW.out] at h
          exact h
        have HSP2 := Lib.hid hsp; have HEND := Lib.hid hend
        have b1 : ((i : Int) == (s.length : Int)) = true := by rw [hend]; simp
        have b2 : (i : Int) ≤ (s.length : Int) := by omega
        clear hsp hend
        go_wp2_with (at_builtin; refine wpList_append_src _ rfl (.tmp 22) (.tmp 27) 58 rfl w.heap.size 9 i0 (.string ⟨#[]⟩) 1 16 Tryd.underlying58 hi hz0 hz1 hz2 rfl (by decide) (.slice A3 done.length c3) done.length (done.map strV) rfl ?q1 (some ⟨wr.heap.size, 0, none⟩) 1 1 [strV wd] rfl (by simp) (cellsAt_new _ _ _) (by simp [strV, Value.oneCell']) ?q3 ?q4 ?q5 ?q6)
        case q1 => exact own_upd HO.out ((Upd.refl [] wr).alloc _) (by simp)
        case q3 => unfold maxLen; omega
        case q4 => omega
        case q5 => have := HU.out.size; simp; omega
        intro v6 w6 hown6 hg6 hat6
        have hu6 : Upd [] w w6 := (HU.out.alloc _).grown hg6 (fun k hk => .inl (own_ge HO.out k hk))
        have hown : w6.ownsRow w.heap.size 9 1 v6 (done ++ [wd]).length ((done ++ [wd]).map strV) := by simpa using hown6
        have HO6 := Lib.hid hown; have HU6 := Lib.hid hu6
        clear hown hu6 hown6 hg6 hat6
        go_wp2_with fail
        refine ⟨⟨i + 1, i + 1, done ++ [wd], by omega, by go_num, by go_num, HO6.out, HU6.out, by rw [List.length_append]; simp; omega, .inr ⟨by have := HEND.out; omega, HSP2.out⟩⟩, by simp [intOf]; omega⟩
      · have hil : i < s.length := by omega
        have b1 : ((i : Int) == (s.length : Int)) = false := by rw [beq_eq_false_iff_ne]; omega
        have b2 : (i : Int) ≤ (s.length : Int) := by omega
        obtain ⟨x, hx⟩ : ∃ x, x = s[i] := ⟨_, rfl⟩
        have hdi : s.drop i = x :: s.drop (i + 1) := by rw [List.drop_eq_getElem_cons hil, hx]
        have hg := get_list s i hil
        rw [← hx] at hg
        by_cases h32 : x = 32
        · have hb : ((x.toNat : Int) == 32) = true := by rw [h32]; rfl
          have hsp : sp = (done ++ [wd]) ++ Lib.split (s.drop (i + 1)) [32] := by
            have h := H4.out
            rw [HRS.out, hdi, h32, split_mid _ _ _ HNW.out] at h
            rw [h]; simp
          have HSP2 := Lib.hid hsp
          clear hsp hdi hx h32
          go_wp2_with (at_builtin; refine wpList_append_src _ rfl (.tmp 22) (.tmp 27) 58 rfl w.heap.size 9 i0 (.string ⟨#[]⟩) 1 16 Tryd.underlying58 hi hz0 hz1 hz2 rfl (by decide) (.slice A3 done.length c3) done.length (done.map strV) rfl ?r1 (some ⟨wr.heap.size, 0, none⟩) 1 1 [strV wd] rfl (by simp) (cellsAt_new _ _ _) (by simp [strV, Value.oneCell']) ?r3 ?r4 ?r5 ?r6)
          case r1 => exact own_upd HO.out ((Upd.refl [] wr).alloc _) (by simp)
          case r3 => unfold maxLen; omega
          case r4 => omega
          case r5 => have := HU.out.size; simp; omega
          intro v6 w6 hown6 hg6 hat6
          have hu6 : Upd [] w w6 := (HU.out.alloc _).grown hg6 (fun k hk => .inl (own_ge HO.out k hk))
          have hown : w6.ownsRow w.heap.size 9 1 v6 (done ++ [wd]).length ((done ++ [wd]).map strV) := by simpa using hown6
          have HO6 := Lib.hid hown; have HU6 := Lib.hid hu6
          clear hown hu6 hown6 hg6 hat6
          go_wp2_with fail
          refine ⟨⟨i + 1, i + 1, done ++ [wd], by omega, by go_num, by go_num, HO6.out, HU6.out, by rw [List.length_append]; simp; omega, .inl ⟨by omega, by omega, by simp, HSP2.out⟩⟩, by simp [intOf]; omega⟩
        · have hb : ((x.toNat : Int) == 32) = false := by
            rw [beq_eq_false_iff_ne]
            intro h
            apply h32
            apply UInt8.toNat_inj.1
            show x.toNat = 32
            omega
          have hno : (32 : UInt8) ∉ (s.drop fr).take (i + 1 - fr) := by
            have e : (s.drop fr).take (i + 1 - fr) = wd ++ [x] := by
              have h1 : i + 1 - fr = (i - fr) + 1 := by omega
              have h2 : i - fr < (s.drop fr).length := by rw [List.length_drop]; omega
              rw [h1, List.take_succ_eq_append_getElem h2, HWD.out, hx]
              congr 2
              rw [List.getElem_drop]
              congr 1
              omega
            rw [e, List.mem_append, List.mem_singleton]
            rintro (h | h)
            · exact HNW.out h
            · exact h32 h.symm
          have HNO := Lib.hid hno
          clear hno hdi hx
          go_wp2_with fail
          exact ⟨⟨i + 1, fr, done, by omega, by go_num, rfl, HO.out, HU.out, by omega, .inl ⟨by omega, by omega, HNO.out, H4.out⟩⟩, by simp [intOf]; omega⟩
    · have H4 := Lib.hid h4; clear h4
      obtain ⟨A3, c3, rfl⟩ := own_slice HO.out
      have a1 : ¬ ((i : Int) ≤ s.length) := by omega
      have HI := Lib.hid h1; clear h1
      go_wp2_with fail
      go_ret
      exact ⟨_, rfl, by rw [H4.out]; exact HO.out, HU.out⟩
end Go.Proofs.YtajoldboafkpdaaDoor
