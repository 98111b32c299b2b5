-- lockkeeperref27.nums, Hex: contracts.
import Derived.Test.YtajoldboafkpdaaDoorRefTok
import Derived.Test.YtajoldboafkpdaaDoorWriter
import Derived.Test.YtajoldboafkpdaaDoorHex
namespace Go.Proofs.YtajoldboafkpdaaDoor
set_option linter.unusedSimpArgs false
set_option linter.unusedVariables false
open Go.RowKit Go.Lk
/-- Words, a blank ahead of each. -/
def spW (ws : List Bs) : Bs := ws.flatMap fun w => 32 :: w
theorem spW_append (a b : List Bs) : spW (a ++ b) = spW a ++ spW b := by simp [spW]
def okS (ok : Bool) (s : Bs) : Bs := if ok then s else []
set_option maxHeartbeats 800000 in
theorem ref_nums {w : World} {A : Option Addr} {c : Nat} {l : List Int} (hA : IntsAt w A l) (hl : l.length ≤ 1000000) (hr : ∀ x ∈ l, -9223372036854775808 ≤ x ∧ x ≤ 9223372036854775807) :
    Calls Tryd.prog 46 #[.slice A l.length c] w fun e w' => e = .returned (.tuple #[.string ⟨(okS (intsW l).2 (spW (intsW l).1)).toArray⟩, .bool (intsW l).2]) ∧ w' = w := by
  have HA := Lib.hid hA; clear hA
  obtain ⟨ok, hok⟩ : ∃ ok, ok = (intsW l).2 := ⟨_, rfl⟩
  obtain ⟨t, ht⟩ : ∃ t, t = okS ok (spW (intsW l).1) := ⟨_, rfl⟩
  have HOK := Lib.hid hok; have HT := Lib.hid ht
  rw [← hok, ← ht]
  clear hok ht
  go_enter Tryd.func46, Tryd.ntmps46
  go_wp2_with fail
  go_loopw [4, 5] (fun v4 v5 wr => ∃ (k : Nat) (s : Bs), k ≤ l.length ∧ v4 = .string ⟨s.toArray⟩ ∧ v5 = .int .i64 k ∧ s = spW (intsW (l.take k)).1 ∧ (intsW (l.take k)).2 = true ∧ s.length ≤ 22 * k ∧ wr = w) (fun _ v5 _ => l.length - (intOf v5).toNat)
  case atStart => exact ⟨0, [], by omega, rfl, rfl, rfl, rfl, by simp, rfl⟩
  case round =>
    obtain ⟨k, s, hk, rfl, rfl, hs, hb, hsl, rfl⟩ := hrel
    have HS := Lib.hid hs; have HB := Lib.hid hb; clear hs hb
    by_cases hlt : k < l.length
    · obtain ⟨x, hx⟩ : ∃ x, x = l[k] := ⟨_, rfl⟩
      have hmem : x ∈ l := by rw [hx]; exact List.getElem_mem hlt
      have hrx := hr x hmem
      obtain ⟨ab, ao, hAe, hcell⟩ := HA.out k x (by simp [hx, hlt])
      subst hAe
      have htk : l.take (k + 1) = l.take k ++ [x] := by rw [List.take_succ_eq_append_getElem hlt, hx]
      have HTK := Lib.hid htk; have HM := Lib.hid hmem; clear htk hx hmem
      by_cases hneg : x < 0
      · have hok : ok = false := by
          rw [HOK.out]
          simp only [intsW, List.all_eq_false]
          exact ⟨x, HM.out, by simp; omega⟩
        have htt : t = [] := by rw [HT.out, hok]; rfl
        have HO2 := Lib.hid hok; have HT2 := Lib.hid htt
        clear hok htt
        go_wp2_with fail
        go_ret2
        refine ⟨?_, rfl⟩
        rw [HO2.out, HT2.out]; rfl
      · obtain ⟨m, rfl⟩ : ∃ m : Nat, x = m := ⟨x.toNat, by omega⟩
        have hml : (Lib.decDigits m).length ≤ 20 := by rw [Lib.decDigits_length]; exact Lib.nDigits_le20 m (by omega)
        have hm64 : m < 18446744073709551616 := by omega
        obtain ⟨d, hd⟩ : ∃ d, d = Lib.decDigits m := ⟨_, rfl⟩
        have HD := Lib.hid hd
        rw [← hd] at hml
        clear hd
        go_wp2_with fail
        refine (ref_num m hm64 _).mono ?_
        rintro e w2 ⟨rfl, rfl⟩
        rw [← HD.out]
        have hstep : s ++ [32] ++ d = spW (intsW (l.take (k + 1))).1 := by
          rw [HTK.out, HS.out]
          simp only [intsW, List.map_append, List.map_cons, List.map_nil, spW_append]
          rw [Lib.itoa_nonneg, ← HD.out]
          simp [spW]
        have hall : (intsW (l.take (k + 1))).2 = true := by
          have := HB.out
          rw [HTK.out]
          simp only [intsW, List.all_append] at this ⊢
          rw [this]; simp
        have HST := Lib.hid hstep; have HAL := Lib.hid hall
        clear hstep hall
        go_wp2_with fail
        refine ⟨⟨k + 1, s ++ [32] ++ d, by omega, ?_, by go_num, HST.out, HAL.out, by simp; omega, trivial⟩, by simp [intOf]; omega⟩
        rw [← str_append, ← str_append]
    · have hkl : k = l.length := by omega
      have hok : ok = true := by
        rw [HOK.out]
        have := HB.out
        rw [hkl, List.take_length] at this
        exact this
      have htt : t = s := by
        have := HS.out
        rw [hkl, List.take_length] at this
        rw [HT.out, hok, this]; rfl
      have HO2 := Lib.hid hok; have HT2 := Lib.hid htt
      clear hkl hok htt
      go_wp2_with fail
      go_ret2
      refine ⟨?_, rfl⟩
      rw [HO2.out, HT2.out]; rfl
theorem slice_hex (d : Nat) (hd' : d < 16) (W : World) : (Instr.sliceAt 9 (.string ⟨#[48, 49, 50, 51, 52, 53, 54, 55, 56, 57, 97, 98, 99, 100, 101, 102]⟩) (some (.int .u8 (d : Int))) (some (.int .u8 ((d : Int) + 1))) none).run Tryd.prog W = .ok (.string ⟨#[hd d]⟩) W := by
  rcases (show d = 0 ∨ d = 1 ∨ d = 2 ∨ d = 3 ∨ d = 4 ∨ d = 5 ∨ d = 6 ∨ d = 7 ∨ d = 8 ∨ d = 9 ∨ d = 10 ∨ d = 11 ∨ d = 12 ∨ d = 13 ∨ d = 14 ∨ d = 15 by omega) with rfl | rfl | rfl | rfl | rfl | rfl | rfl | rfl | rfl | rfl | rfl | rfl | rfl | rfl | rfl | rfl <;> kernel_rfl
set_option maxRecDepth 100000 in
set_option maxHeartbeats 1600000 in
theorem ref_hex {w : World} {v : Value} {bs : Bs} (hv : BytesV w v bs) (hlen : bs.length ≤ 1000000) :
    Calls Tryd.prog 25 #[v] w fun e w' => e = .returned (.string ⟨(hexS bs).toArray⟩) ∧ Upd [] w w' := by
  obtain ⟨A, c, rfl, hbc, hb⟩ := hv
  by_cases h0 : bs = []
  · subst h0
    go_enter Tryd.func25, Tryd.ntmps25
    go_wp2
    go_ret
    exact ⟨rfl, Upd.refl _ _⟩
  have hl : bs.length ≠ 0 := fun h => h0 (List.eq_nil_of_length_eq_zero h)
  have hz : ((bs.length : Int) == 0) = false := by rw [beq_eq_false_iff_ne]; omega
  have hh : hexS bs = hexL bs := by rw [hexS, if_neg h0]
  rw [hh]
  clear hh
  have HB := Lib.hid hb; clear hb
  go_enter Tryd.func25, Tryd.ntmps25
  go_wp2_with fail
  clear hz
  go_loopw [3, 4] (fun v3 v4 wr => ∃ (k : Nat) (s : Bs), k ≤ bs.length ∧ v3 = .string ⟨s.toArray⟩ ∧ v4 = .int .i64 k ∧ s = hexL (bs.take k) ∧ s.length ≤ 2 * k ∧ Upd [] w wr) (fun _ v4 _ => bs.length - (intOf v4).toNat)
  case atStart => exact ⟨0, [], by omega, rfl, rfl, rfl, by simp, Upd.refl _ _⟩
  case round =>
    obtain ⟨k, s, hk, rfl, rfl, hs, hsl, hu⟩ := hrel
    have HS := Lib.hid hs; have HU := Lib.hid hu; clear hs hu
    by_cases hlt : k < bs.length
    · obtain ⟨x, hx⟩ : ∃ x, x = bs[k] := ⟨_, rfl⟩
      obtain ⟨ab, ao, hA, hcell⟩ := (HB.out.upd0 HU.out) k x (by simp [hx, hlt])
      subst hA
      unfold B at hcell
      have htk : hexL (bs.take (k + 1)) = hexL (bs.take k) ++ [hd (x.toNat / 16), hd (x.toNat % 16)] := by
        rw [List.take_succ_eq_append_getElem hlt, ← hx]; simp [hexL]
      have HTK := Lib.hid htk; clear htk hx
      have hx256 := x.toNat_lt
      have hq := slice_hex (x.toNat / 16) (by omega)
      have hr := slice_hex (x.toNat % 16) (by omega)
      rw [show ((x.toNat / 16 : Nat) : Int) = (x.toNat : Int) / 16 by omega] at hq
      rw [show ((x.toNat % 16 : Nat) : Int) = (x.toNat : Int) % 16 by omega] at hr
      have e1 : IntKind.u8.wrap ((x.toNat : Int) / 16) = (x.toNat : Int) / 16 := by rw [IntKind.wrap_u8]; omega
      have e2 : IntKind.u8.wrap ((x.toNat : Int) / 16 + 1) = (x.toNat : Int) / 16 + 1 := by rw [IntKind.wrap_u8]; omega
      have e4 : (x.toNat : Int).tmod 16 = (x.toNat : Int) % 16 := Int.tmod_eq_emod_of_nonneg (by omega)
      have e3 : IntKind.u8.wrap ((x.toNat : Int) % 16 + 1) = (x.toNat : Int) % 16 + 1 := by rw [IntKind.wrap_u8]; omega
      go_wp2_with fail
      refine wp_region_proc [(0, 0), (1, 0), (2, 0), (3, 0), (4, 0), (5, 0), (6, 0), (7, 0), (8, 0), (9, 0), (10, 0), (11, 0), (12, 0), (13, 0), (14, 0), (15, 0), (16, 0), (17, 0), (18, 0), (19, 0), (20, 0), (21, 0), (22, 0), (23, 0), (24, 0), (25, 0), (26, 0), (27, 0)] (fun W => W.cell? ⟨ab, ao + k, none⟩ = some (.int .u8 (x.toNat : Int))) (by kernel_rfl) (by kernel_rfl) (fun c a w t v h => by cases t <;> exact h) hcell ?_
      repeat
        (first
          | (apply proc_held
             case ho => simp only [List.getElem?_toArray, List.getElem?_cons_succ, List.getElem?_cons_zero]; rfl
             case hg => rfl
             case hv => intro W hW; (try dsimp only at hW); go_simp; rfl
             case ha => go_simp; rfl)
          | (apply proc_held_on
             case ho => simp only [List.getElem?_toArray, List.getElem?_cons_succ, List.getElem?_cons_zero]; rfl
             case hg => rfl
             case hv => intro W hW; (try dsimp only at hW); go_simp; rfl
             case ha => go_simp; rfl)
          | (apply proc_off
             case ho => simp only [List.getElem?_toArray, List.getElem?_cons_succ, List.getElem?_cons_zero]; rfl
             case hg => rfl
             case ha => go_simp; rfl))
      apply proc_held (v := .string ⟨(s ++ [hd (x.toNat / 16)]).toArray⟩)
      case ho => simp only [List.getElem?_toArray, List.getElem?_cons_succ, List.getElem?_cons_zero]; rfl
      case hg => rfl
      case hv =>
        intro W hW
        go_simp
        rw [if_neg (by omega), show (⟨#[hd (x.toNat / 16)]⟩ : ByteArray) = ⟨[hd (x.toNat / 16)].toArray⟩ from rfl, str_append]
      case ha => go_simp; rfl
      repeat
        (first
          | (apply proc_held
             case ho => simp only [List.getElem?_toArray, List.getElem?_cons_succ, List.getElem?_cons_zero]; rfl
             case hg => rfl
             case hv => intro W hW; (try dsimp only at hW); go_simp; rfl
             case ha => go_simp; rfl)
          | (apply proc_held_on
             case ho => simp only [List.getElem?_toArray, List.getElem?_cons_succ, List.getElem?_cons_zero]; rfl
             case hg => rfl
             case hv => intro W hW; (try dsimp only at hW); go_simp; rfl
             case ha => go_simp; rfl)
          | (apply proc_off
             case ho => simp only [List.getElem?_toArray, List.getElem?_cons_succ, List.getElem?_cons_zero]; rfl
             case hg => rfl
             case ha => go_simp; rfl))
      apply proc_held (v := .string ⟨(s ++ [hd (x.toNat / 16)] ++ [hd (x.toNat % 16)]).toArray⟩)
      case ho => simp only [List.getElem?_toArray, List.getElem?_cons_succ, List.getElem?_cons_zero]; rfl
      case hg => rfl
      case hv =>
        intro W hW
        go_simp
        rw [if_neg (by simp; omega), show (⟨#[hd (x.toNat % 16)]⟩ : ByteArray) = ⟨[hd (x.toNat % 16)].toArray⟩ from rfl, str_append]
        simp
      case ha => go_simp; rfl
      repeat
        (first
          | (apply proc_held
             case ho => simp only [List.getElem?_toArray, List.getElem?_cons_succ, List.getElem?_cons_zero]; rfl
             case hg => rfl
             case hv => intro W hW; (try dsimp only at hW); go_simp; rfl
             case ha => go_simp; rfl)
          | (apply proc_held_on
             case ho => simp only [List.getElem?_toArray, List.getElem?_cons_succ, List.getElem?_cons_zero]; rfl
             case hg => rfl
             case hv => intro W hW; (try dsimp only at hW); go_simp; rfl
             case ha => go_simp; rfl)
          | (apply proc_off
             case ho => simp only [List.getElem?_toArray, List.getElem?_cons_succ, List.getElem?_cons_zero]; rfl
             case hg => rfl
             case ha => go_simp; rfl))
      refine proc_nil ?_
      go_wp2_with fail
      refine ⟨⟨k + 1, s ++ [hd (x.toNat / 16)] ++ [hd (x.toNat % 16)], by omega, ?_, by go_num, by rw [HTK.out, HS.out]; simp, by simp; omega, HU.out.drew⟩, by simp [intOf]; omega⟩
      first | rfl | simp
    · have hkl : k = bs.length := by omega
      have hss : s = hexL bs := by
        have := HS.out
        rw [hkl, List.take_length] at this
        exact this
      have HSS := Lib.hid hss
      clear hkl hss
      go_wp2_with fail
      go_ret
      refine ⟨?_, HU.out⟩
      rw [← HSS.out]; rfl
end Go.Proofs.YtajoldboafkpdaaDoor
