-- lockkeeperref1.In, Token; lockkeeperref27.text: contracts.
import Derived.Test.YtajoldboafkpdaaDoorRefNum
namespace Go.Proofs.YtajoldboafkpdaaDoor
set_option linter.unusedSimpArgs false
set_option linter.unusedVariables false
open Go.RowKit Go.Lk
theorem u8_eq (c x : UInt8) : ((x.toNat : Int) == (c.toNat : Int)) = (x == c) := by
  rw [Bool.eq_iff_iff]
  simp only [beq_iff_eq]
  constructor
  · intro h; exact UInt8.toNat_inj.1 (by omega)
  · rintro rfl; rfl
theorem ref_in (c : UInt8) (s : Bs) (w : World) (hs : s.length ≤ 1000000) :
    Calls Tryd.prog 26 #[.int .u8 c.toNat, .string ⟨s.toArray⟩] w fun e w' => e = .returned (.bool (s.contains c)) ∧ w' = w := by
  obtain ⟨r, hr⟩ : ∃ r, r = s.contains c := ⟨_, rfl⟩
  have HR := Lib.hid hr
  rw [← hr]
  clear hr
  go_enter Tryd.func26, Tryd.ntmps26
  go_wp2_with fail
  go_loopw [5] (fun v5 wr => ∃ (k : Nat), k ≤ s.length ∧ v5 = .int .i64 k ∧ (s.take k).contains c = false ∧ wr = w) (fun v5 _ => s.length - (intOf v5).toNat)
  case atStart => exact ⟨0, by omega, rfl, by simp, rfl⟩
  case round =>
    obtain ⟨k, hk, rfl, hc, rfl⟩ := hrel
    have HC := Lib.hid hc; clear hc
    by_cases hlt : k < s.length
    · have hg := get_list s k hlt
      obtain ⟨x, hx⟩ : ∃ x, x = s[k] := ⟨_, rfl⟩
      have htk : s.take (k + 1) = s.take k ++ [x] := by rw [List.take_succ_eq_append_getElem hlt, hx]
      have hmem : x ∈ s := by rw [hx]; exact List.getElem_mem hlt
      rw [← hx] at hg
      have HTK := Lib.hid htk; have HM := Lib.hid hmem
      clear htk hx hmem
      have hb := u8_eq c x
      by_cases hxc : x = c
      · have hr2 : r = true := by rw [HR.out]; subst hxc; simpa using HM.out
        rw [show (x == c) = true by rw [hxc]; simp] at hb
        go_wp2_with fail
        go_ret
        exact ⟨by first | rfl | (rw [hr2]; rfl), rfl⟩
      · rw [show (x == c) = false by rw [beq_eq_false_iff_ne]; exact hxc] at hb
        have hany : (s.take (k + 1)).contains c = false := by
          rw [HTK.out]
          have h0 := HC.out
          rw [← Bool.not_eq_true, List.contains_iff_mem] at h0 ⊢
          rw [List.mem_append, List.mem_singleton]
          rintro (h | h)
          · exact h0 h
          · exact hxc h.symm
        have HANY := Lib.hid hany; clear hany
        go_wp2_with fail
        exact ⟨⟨k + 1, by omega, by go_num, HANY.out, trivial⟩, by simp [intOf]; omega⟩
    · have hkl : k = s.length := by omega
      have hr2 : r = false := by
        rw [HR.out]
        have := HC.out
        rw [hkl, List.take_length] at this
        exact this
      clear hkl
      go_wp2_with fail
      go_ret
      exact ⟨by first | rfl | (rw [hr2]; rfl), rfl⟩
def in14 : Bs := [33, 35, 36, 37, 38, 39, 42, 43, 45, 46, 94, 95, 124, 126]
theorem tok_fin : ∀ n : Fin 256, tokC (UInt8.ofNat n.val) = (plainC (UInt8.ofNat n.val) || in14.contains (UInt8.ofNat n.val) || UInt8.ofNat n.val == 96) := by decide +kernel
theorem tok_eq (c : UInt8) : tokC c = (plainC c || in14.contains c || c == 96) := by
  have := tok_fin ⟨c.toNat, c.toNat_lt⟩
  simpa using this
set_option maxHeartbeats 800000 in
theorem ref_token (s : Bs) (w : World) (hs : s.length ≤ 1000000) :
    Calls Tryd.prog 67 #[.string ⟨s.toArray⟩] w fun e w' => e = .returned (.bool (tokenS s)) ∧ w' = w := by
  obtain ⟨r, hr⟩ : ∃ r, r = tokenS s := ⟨_, rfl⟩
  have HR := Lib.hid hr
  rw [← hr]
  clear hr
  go_enter Tryd.func67, Tryd.ntmps67
  go_wp2_with fail
  go_loopw [3] (fun v3 wr => ∃ (k : Nat), k ≤ s.length ∧ v3 = .int .i64 k ∧ (s.take k).all tokC = true ∧ wr = w) (fun v3 _ => s.length - (intOf v3).toNat)
  case atStart => exact ⟨0, by omega, rfl, by simp, rfl⟩
  case round =>
    obtain ⟨k, hk, rfl, hc, rfl⟩ := hrel
    have HC := Lib.hid hc; clear hc
    by_cases hlt : k < s.length
    · have hg := get_list s k hlt
      obtain ⟨x, hx⟩ : ∃ x, x = s[k] := ⟨_, rfl⟩
      have htk : s.take (k + 1) = s.take k ++ [x] := by rw [List.take_succ_eq_append_getElem hlt, hx]
      have hmem : x ∈ s := by rw [hx]; exact List.getElem_mem hlt
      rw [← hx] at hg
      have hno : tokC x = false → r = false := fun h => by
        rw [HR.out]; unfold tokenS
        rw [show s.all tokC = false by rw [List.all_eq_false]; exact ⟨x, hmem, by rw [h]; simp⟩]; simp
      have hyes : tokC x = true → (s.take (k + 1)).all tokC = true := fun h => by rw [htk, List.all_append, HC.out]; simp [h]
      have HNO := Lib.hid hno; have HYES := Lib.hid hyes; have HT := Lib.hid (tok_eq x)
      clear htk hx hmem hno hyes
      go_wp2_with fail
      refine (ref_plain x _).mono ?_
      rintro e w2 ⟨rfl, rfl⟩
      obtain ⟨pl, hpl⟩ : ∃ pl, pl = plainC x := ⟨_, rfl⟩
      have HPL := Lib.hid hpl
      rw [← hpl]
      clear hpl
      cases pl
      · go_wp2_with fail
        refine (ref_in x in14 _ (by decide)).mono ?_
        rintro e w3 ⟨rfl, rfl⟩
        obtain ⟨ii, hii⟩ : ∃ ii, ii = in14.contains x := ⟨_, rfl⟩
        have HII := Lib.hid hii
        rw [← hii]
        clear hii
        cases ii
        · by_cases h96 : x = 96
          · have hb : ((x.toNat : Int) != 96) = false := by rw [h96]; rfl
            have hy := HYES.out (by rw [HT.out, ← HPL.out, ← HII.out, h96]; rfl)
            have HY := Lib.hid hy; clear hy h96
            go_wp2_with fail
            exact ⟨⟨k + 1, by omega, by go_num, HY.out, trivial⟩, by simp [intOf]; omega⟩
          · have hb : ((x.toNat : Int) != 96) = true := by
              rw [bne_iff_ne]; intro h; exact h96 (UInt8.toNat_inj.1 (by have : x.toNat = 96 := by omega
                                                                         rw [this]; rfl))
            have hr2 := HNO.out (by rw [HT.out, ← HPL.out, ← HII.out, show (x == 96) = false by rw [beq_eq_false_iff_ne]; exact h96]; rfl)
            go_wp2_with fail
            go_ret
            exact ⟨by first | rfl | (rw [hr2]; rfl), rfl⟩
        · have hy := HYES.out (by rw [HT.out, ← HPL.out, ← HII.out]; rfl)
          have HY := Lib.hid hy; clear hy
          go_wp2_with fail
          exact ⟨⟨k + 1, by omega, by go_num, HY.out, trivial⟩, by simp [intOf]; omega⟩
      · have hy := HYES.out (by rw [HT.out, ← HPL.out]; rfl)
        have HY := Lib.hid hy; clear hy
        go_wp2_with fail
        exact ⟨⟨k + 1, by omega, by go_num, HY.out, trivial⟩, by simp [intOf]; omega⟩
    · have hkl : k = s.length := by omega
      have hr2 : r = decide (0 < s.length) := by
        rw [HR.out]; unfold tokenS
        have := HC.out
        rw [hkl, List.take_length] at this
        rw [this, Bool.and_true]
        cases s <;> simp
      have HR2 := Lib.hid hr2
      clear hkl hr2
      go_wp2_with fail
      go_ret
      exact ⟨by rw [HR2.out]; rfl, rfl⟩
set_option maxHeartbeats 800000 in
theorem ref_text (s : Bs) (w : World) (hs : s.length ≤ 1000000) :
    Calls Tryd.prog 66 #[.string ⟨s.toArray⟩] w fun e w' => e = .returned (.bool (textS s)) ∧ w' = w := by
  obtain ⟨r, hr⟩ : ∃ r, r = textS s := ⟨_, rfl⟩
  have HR := Lib.hid hr
  rw [← hr]
  clear hr
  go_enter Tryd.func66, Tryd.ntmps66
  go_wp2_with fail
  go_loopw [3] (fun v3 wr => ∃ (k : Nat), k ≤ s.length ∧ v3 = .int .i64 k ∧ (s.take k).all seenC = true ∧ wr = w) (fun v3 _ => s.length - (intOf v3).toNat)
  case atStart => exact ⟨0, by omega, rfl, by simp, rfl⟩
  case round =>
    obtain ⟨k, hk, rfl, hc, rfl⟩ := hrel
    have HC := Lib.hid hc; clear hc
    by_cases hlt : k < s.length
    · have hg := get_list s k hlt
      obtain ⟨x, hx⟩ : ∃ x, x = s[k] := ⟨_, rfl⟩
      have htk : s.take (k + 1) = s.take k ++ [x] := by rw [List.take_succ_eq_append_getElem hlt, hx]
      have hmem : x ∈ s := by rw [hx]; exact List.getElem_mem hlt
      rw [← hx] at hg
      have hno : seenC x = false → r = false := fun h => by
        rw [HR.out]; unfold textS
        rw [show s.all seenC = false by rw [List.all_eq_false]; exact ⟨x, hmem, by rw [h]; simp⟩]; simp
      have hyes : seenC x = true → (s.take (k + 1)).all seenC = true := fun h => by rw [htk, List.all_append, HC.out]; simp [h]
      have hsx : seenC x = (decide (33 ≤ x.toNat) && decide (x.toNat ≤ 126)) := rfl
      have HNO := Lib.hid hno; have HYES := Lib.hid hyes; have HSX := Lib.hid hsx
      clear htk hx hmem hno hyes hsx
      by_cases h33 : x.toNat < 33
      · have hr2 := HNO.out (by rw [HSX.out, decide_eq_false (by omega : ¬ 33 ≤ x.toNat)]; rfl)
        have n1 : (x.toNat : Int) < 33 := by omega
        go_wp2_with fail
        go_ret
        exact ⟨by first | rfl | (rw [hr2]; rfl), rfl⟩
      · have n1 : ¬ (x.toNat : Int) < 33 := by omega
        by_cases h126 : 126 < x.toNat
        · have hr2 := HNO.out (by rw [HSX.out, decide_eq_false (by omega : ¬ x.toNat ≤ 126)]; simp)
          have n2 : (x.toNat : Int) > 126 := by omega
          go_wp2_with fail
          go_ret
          exact ⟨by first | rfl | (rw [hr2]; rfl), rfl⟩
        · have n2 : ¬ (126 < (x.toNat : Int)) := by omega
          have hy := HYES.out (by rw [HSX.out, decide_eq_true (by omega : 33 ≤ x.toNat), decide_eq_true (by omega : x.toNat ≤ 126)]; rfl)
          have HY := Lib.hid hy; clear hy
          go_wp2_with fail
          exact ⟨⟨k + 1, by omega, by go_num, HY.out, trivial⟩, by simp [intOf]; omega⟩
    · have hkl : k = s.length := by omega
      have hr2 : r = decide (0 < s.length) := by
        rw [HR.out]; unfold textS
        have := HC.out
        rw [hkl, List.take_length] at this
        rw [this, Bool.and_true]
        cases s <;> simp
      have HR2 := Lib.hid hr2
      clear hkl hr2
      go_wp2_with fail
      go_ret
      exact ⟨by rw [HR2.out]; rfl, rfl⟩
end Go.Proofs.YtajoldboafkpdaaDoor
