-- octet.Token: contract.
import Derived.Test.YtajoldboafkpdaaDoorDigits
import Derived.Test.YtajoldboafkpdaaDoorActs
import Derived.Test.YtajoldboafkpdaaDoorShelf
namespace Go.Proofs.YtajoldboafkpdaaDoor
set_option linter.unusedSimpArgs false
set_option linter.unusedVariables false
open Go.RowKit Go.Lk
def isLet (c : UInt8) : Bool := (decide (97 ≤ c.toNat) && decide (c.toNat ≤ 122)) || (decide (65 ≤ c.toNat) && decide (c.toNat ≤ 90))
theorem octet_letter (c : UInt8) (w : World) :
    Calls Tryd.prog 81 #[.int .u8 (c.toNat : Int)] w fun e w' => e = .returned (.bool (isLet c)) ∧ w = w' := by
  rcases (show 97 ≤ c.toNat ∧ c.toNat ≤ 122 ∨ (122 < c.toNat) ∨ (65 ≤ c.toNat ∧ c.toNat ≤ 90) ∨ (90 < c.toNat ∧ c.toNat < 97) ∨ c.toNat < 65 by omega) with ⟨h1, h2⟩ | h1 | ⟨h1, h2⟩ | ⟨h1, h2⟩ | h1
  · have e : isLet c = true := by simp [isLet, h1, h2]
    rw [e]
    go_enter Tryd.func81, Tryd.ntmps81
    go_wp2
    go_ret
    first | exact ⟨rfl, rfl⟩ | (refine ⟨?_, rfl⟩; simp; omega)
  · have e : isLet c = false := by simp [isLet]; omega
    rw [e]
    go_enter Tryd.func81, Tryd.ntmps81
    go_wp2
    go_ret
    first | exact ⟨rfl, rfl⟩ | (refine ⟨?_, rfl⟩; simp; omega)
  · have e : isLet c = true := by simp [isLet, h1, h2]
    rw [e]
    go_enter Tryd.func81, Tryd.ntmps81
    go_wp2
    go_ret
    first | exact ⟨rfl, rfl⟩ | (refine ⟨?_, rfl⟩; simp; omega)
  · have e : isLet c = false := by simp [isLet]; omega
    rw [e]
    go_enter Tryd.func81, Tryd.ntmps81
    go_wp2
    go_ret
    first | exact ⟨rfl, rfl⟩ | (refine ⟨?_, rfl⟩; simp; omega)
  · have e : isLet c = false := by simp [isLet]; omega
    rw [e]
    go_enter Tryd.func81, Tryd.ntmps81
    go_wp2
    go_ret
    first | exact ⟨rfl, rfl⟩ | (refine ⟨?_, rfl⟩; simp; omega)
theorem marks_fin : ∀ n : Fin 256, decide (Lib.indexByte [33, 35, 36, 37, 38, 39, 42, 43, 45, 46, 94, 95, 96, 124, 126] (UInt8.ofNat n.val) < 0) = !([33, 35, 36, 37, 38, 39, 42, 43, 45, 46, 94, 95, 96, 124, 126] : List UInt8).contains (UInt8.ofNat n.val) := by decide +kernel
theorem marks_at (c : UInt8) : decide (Lib.indexByte (⟨#[33, 35, 36, 37, 38, 39, 42, 43, 45, 46, 94, 95, 96, 124, 126]⟩ : ByteArray).data.toList ((c.toNat : Int).toNat.toUInt8) < 0) = !([33, 35, 36, 37, 38, 39, 42, 43, 45, 46, 94, 95, 96, 124, 126] : List UInt8).contains c := by
  rw [show ((c.toNat : Int).toNat.toUInt8) = c by simp]
  have := marks_fin ⟨c.toNat, c.toNat_lt⟩
  simpa using this
set_option maxRecDepth 100000 in
set_option maxHeartbeats 1600000 in
theorem octet_token (s : List UInt8) (w : World) (hlen : s.length ≤ 1000000) :
    Calls Tryd.prog 63 #[.string ⟨s.toArray⟩] w fun e w' => e = .returned (.bool (tokenS s)) ∧ w = w' := by
  go_enter Tryd.func63, Tryd.ntmps63
  go_wp2_with fail
  go_loopw [6] (fun v6 wr => ∃ (k : Nat), k ≤ s.length ∧ v6 = .int .i64 k ∧ (s.take k).all tokC = true ∧ wr = w) (fun v6 _ => s.length - (intOf v6).toNat)
  case atStart => exact ⟨0, by omega, rfl, by simp, rfl⟩
  case round =>
    obtain ⟨k, hk, rfl, ha, rfl⟩ := hrel
    have HA := Lib.hid ha; clear ha
    by_cases hlt : k < s.length
    · have hg := get_list s k hlt
      go_wp2_with fail
      refine (octet_letter _ _).mono ?_
      rintro e w2 ⟨rfl, rfl⟩
      obtain ⟨c, hc⟩ : ∃ c, c = s[k] := ⟨_, rfl⟩
      rw [← hc] at hg ⊢
      have htk : (s.take (k + 1)).all tokC = tokC c := by rw [List.take_succ_eq_append_getElem hlt, List.all_append, HA.out, ← hc]; simp
      have hno : tokC c = false → tokenS s = false := by
        intro h
        unfold tokenS
        have : s.all tokC = false := by
          rw [Bool.eq_false_iff]; intro h2
          rw [List.all_eq_true] at h2
          have := h2 c (by rw [hc]; exact List.getElem_mem hlt)
          rw [h] at this; cases this
        rw [this, Bool.and_false]
      have HT := Lib.hid htk; have HNO := Lib.hid hno
      clear hc htk hno
      have htc : tokC c = (isLet c || isDig c || ([33, 35, 36, 37, 38, 39, 42, 43, 45, 46, 94, 95, 96, 124, 126] : List UInt8).contains c) := rfl
      have hmk := marks_at c
      obtain ⟨mk, hmk2⟩ : ∃ mk, mk = ([33, 35, 36, 37, 38, 39, 42, 43, 45, 46, 94, 95, 96, 124, 126] : List UInt8).contains c := ⟨_, rfl⟩
      rw [← hmk2] at hmk htc
      obtain ⟨lt, hlt2⟩ : ∃ lt, lt = isLet c := ⟨_, rfl⟩
      obtain ⟨dg, hdg⟩ : ∃ dg, dg = isDig c := ⟨_, rfl⟩
      rw [← hlt2, ← hdg] at htc
      rw [← hlt2]
      have HTC := Lib.hid htc; have HMK := Lib.hid hmk; have HDG := Lib.hid hdg
      clear htc hmk hmk2 hlt2 hdg
      cases lt
      case true =>
        go_wp2_with fail
        go_roundw
        case rel => exact ⟨k + 1, by omega, by go_num, by rw [HT.out, HTC.out]; simp, trivial⟩
        case measure => simp [intOf]; omega
      case false =>
        go_wp2_with fail
        refine (octet_digit _ _).mono ?_
        rintro e w2 ⟨rfl, rfl⟩
        rw [← HDG.out]
        cases dg
        case true =>
          go_wp2_with fail
          go_roundw
          case rel => exact ⟨k + 1, by omega, by go_num, by rw [HT.out, HTC.out]; simp, trivial⟩
          case measure => simp [intOf]; omega
        case false =>
          go_wp2_with fail
          refine (Tryd.strings_IndexByte _ _ _).mono ?_
          rintro e w2 ⟨rfl, rfl⟩
          obtain ⟨z, hz⟩ : ∃ z : Int, z = Lib.indexByte (⟨#[33, 35, 36, 37, 38, 39, 42, 43, 45, 46, 94, 95, 96, 124, 126]⟩ : ByteArray).data.toList ((c.toNat : Int).toNat.toUInt8) := ⟨_, rfl⟩
          have hmk := HMK.out
          rw [← hz] at hmk ⊢
          clear hz
          cases mk
          case true =>
            have hzz : ¬ z < 0 := by simpa using hmk
            clear hmk
            go_wp2_with fail
            go_roundw
            case rel => exact ⟨k + 1, by omega, by go_num, by rw [HT.out, HTC.out]; simp, trivial⟩
            case measure => simp [intOf]; omega
          case false =>
            have hzz : z < 0 := by simpa using hmk
            clear hmk
            have hr := HNO.out (by rw [HTC.out]; rfl)
            have HR := Lib.hid hr; clear hr
            go_wp2
            go_ret
            rw [HR.out]
            exact ⟨rfl, rfl⟩
    · obtain rfl : k = s.length := by omega
      have hall : s.all tokC = true := by have := HA.out; rwa [List.take_length] at this
      have hr : tokenS s = decide (s ≠ []) := by unfold tokenS; rw [hall, Bool.and_true]
      have HR := Lib.hid hr; clear hr hall
      go_wp2
      go_ret
      rw [HR.out]
      refine ⟨?_, rfl⟩
      cases s <;> rfl
end Go.Proofs.YtajoldboafkpdaaDoor
