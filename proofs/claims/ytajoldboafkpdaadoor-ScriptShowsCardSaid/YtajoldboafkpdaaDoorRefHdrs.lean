-- lockkeeperref27.headers: contract.
import Derived.Test.YtajoldboafkpdaaDoorRefNums
import Derived.Test.YtajoldboafkpdaaDoorWriterH
namespace Go.Proofs.YtajoldboafkpdaaDoor
set_option linter.unusedSimpArgs false
set_option linter.unusedVariables false
open Go.RowKit Go.Lk
theorem spW_le {M : Nat} : ∀ {ws : List Bs}, (∀ y ∈ ws, y.length ≤ M) → (spW ws).length ≤ ws.length * (M + 1)
  | [], _ => by simp [spW]
  | x :: ws, h => by
    have h1 := spW_le (ws := ws) (fun y hy => h y (by simp [hy]))
    have h2 := h x (by simp)
    simp only [spW, List.flatMap_cons, List.length_append, List.length_cons, Nat.add_mul] at *
    omega
set_option maxRecDepth 100000 in
set_option maxHeartbeats 1600000 in
theorem ref_headers {w : World} {A : Option Addr} {c : Nat} {l : List (Bs × Bs)} (hA : HdrsAt w A l) (hl : l.length ≤ 1000000) (hr : ∀ x ∈ l, x.1.length ≤ 1000000 ∧ x.2.length ≤ 1000000) :
    Calls Tryd.prog 49 #[.slice A l.length c] w fun e w' => e = .returned (.tuple #[.string ⟨(okS (hdrsW l).2 (spW (hdrsW l).1)).toArray⟩, .bool (hdrsW l).2]) ∧ Upd [] w w' := by
  have HA := Lib.hid hA; clear hA
  obtain ⟨ok, hok⟩ : ∃ ok, ok = (hdrsW l).2 := ⟨_, rfl⟩
  obtain ⟨t, ht⟩ : ∃ t, t = okS ok (spW (hdrsW l).1) := ⟨_, rfl⟩
  have HOK := Lib.hid hok; have HT := Lib.hid ht
  rw [← hok, ← ht]
  clear hok ht
  go_enter Tryd.func49, Tryd.ntmps49
  go_wp2_with fail
  go_loopw [4, 5] (fun v4 v5 wr => ∃ (k : Nat) (s : Bs), k ≤ l.length ∧ v4 = .string ⟨s.toArray⟩ ∧ v5 = .int .i64 k ∧ s = spW (hdrsW (l.take k)).1 ∧ (hdrsW (l.take k)).2 = true ∧ s.length ≤ 4000000 * k ∧ Upd [] w wr) (fun _ v5 _ => l.length - (intOf v5).toNat)
  case atStart => exact ⟨0, [], by omega, rfl, rfl, rfl, rfl, by simp, Upd.refl _ _⟩
  case round =>
    obtain ⟨k, s, hk, rfl, rfl, hs, hb, hsl, hu⟩ := hrel
    have HS := Lib.hid hs; have HB := Lib.hid hb; have HU := Lib.hid hu; clear hs hb hu
    by_cases hlt : k < l.length
    · obtain ⟨x, hx⟩ : ∃ x, x = l[k] := ⟨_, rfl⟩
      have hmem : x ∈ l := by rw [hx]; exact List.getElem_mem hlt
      have hrx := hr x hmem
      obtain ⟨ab, ao, hAe, hc1, hc2⟩ := (HA.out.upd HU.out (by simp)) k x (by simp [hx, hlt])
      subst hAe
      have htk : l.take (k + 1) = l.take k ++ [x] := by rw [List.take_succ_eq_append_getElem hlt, hx]
      have HTK := Lib.hid htk; have HM := Lib.hid hmem; clear htk hx hmem
      obtain ⟨x1, x2⟩ := x
      unfold strV at hc1 hc2
      simp only at hrx
      go_wp2_with fail
      refine (ref_token x1 _ (by omega)).mono ?_
      rintro e w2 ⟨rfl, rfl⟩
      obtain ⟨tk, htk⟩ : ∃ tk, tk = tokenS x1 := ⟨_, rfl⟩
      have HTOK := Lib.hid htk
      rw [← htk]
      clear htk
      cases tk with
      | false =>
        have hok : ok = false := by
          rw [HOK.out]
          simp only [hdrsW, List.all_eq_false]
          exact ⟨_, HM.out, by rw [← HTOK.out]; simp⟩
        have htt : t = [] := by rw [HT.out, hok]; rfl
        have HO2 := Lib.hid hok; have HT2 := Lib.hid htt
        clear hok htt
        go_wp2_with fail
        go_ret2
        refine ⟨?_, HU.out⟩
        rw [HO2.out, HT2.out]; rfl
      | true =>
      go_wp2_with fail
      refine wp_region_proc [(0, 0), (1, 0), (2, 0), (3, 0), (4, 0), (5, 0), (6, 0), (7, 0), (8, 0), (9, 0), (10, 0), (11, 0), (12, 0), (13, 0), (14, 1), (15, 1), (16, 0), (17, 0)] (fun W => W.cell? ⟨ab, ao + k * 2, none⟩ = some (.string ⟨x1.toArray⟩) ∧ W.cell? ⟨ab, ao + k * 2 + 1, none⟩ = some (.string ⟨x2.toArray⟩)) (by kernel_rfl) (by kernel_rfl) (fun c a w t v h => by cases t <;> exact h) ⟨hc1, hc2⟩ ?_
      repeat
        (first
          | (apply proc_held
             case ho => simp only [List.getElem?_toArray, List.getElem?_cons_succ, List.getElem?_cons_zero]; rfl
             case hg => rfl
             case hv => intro W hW; (try dsimp only at hW); go_simp; rfl
             case ha => go_simp; rfl)
          | (apply proc_held_on
             case ho => simp only [List.getElem?_toArray, List.getElem?_cons_succ, List.getElem?_cons_zero]; rfl
             case hg => rfl
             case hv => intro W hW; (try dsimp only at hW); go_simp; rfl
             case ha => go_simp; rfl)
          | (apply proc_off
             case ho => simp only [List.getElem?_toArray, List.getElem?_cons_succ, List.getElem?_cons_zero]; rfl
             case hg => rfl
             case ha => go_simp; rfl))
      apply proc_held (v := .string ⟨(s ++ [32]).toArray⟩)
      case ho => simp only [List.getElem?_toArray, List.getElem?_cons_succ, List.getElem?_cons_zero]; rfl
      case hg => rfl
      case hv =>
        intro W hW
        go_simp
        rw [if_neg (by (try simp); omega), str_append]
        (try simp)
      case ha => go_simp; rfl
      repeat
        (first
          | (apply proc_held
             case ho => simp only [List.getElem?_toArray, List.getElem?_cons_succ, List.getElem?_cons_zero]; rfl
             case hg => rfl
             case hv => intro W hW; (try dsimp only at hW); go_simp; rfl
             case ha => go_simp; rfl)
          | (apply proc_held_on
             case ho => simp only [List.getElem?_toArray, List.getElem?_cons_succ, List.getElem?_cons_zero]; rfl
             case hg => rfl
             case hv => intro W hW; (try dsimp only at hW); go_simp; rfl
             case ha => go_simp; rfl)
          | (apply proc_off
             case ho => simp only [List.getElem?_toArray, List.getElem?_cons_succ, List.getElem?_cons_zero]; rfl
             case hg => rfl
             case ha => go_simp; rfl))
      apply proc_held (v := .string ⟨(s ++ [32] ++ x1).toArray⟩)
      case ho => simp only [List.getElem?_toArray, List.getElem?_cons_succ, List.getElem?_cons_zero]; rfl
      case hg => rfl
      case hv =>
        intro W hW
        go_simp
        rw [if_neg (by (try simp); omega), str_append]
        (try simp)
      case ha => go_simp; rfl
      apply proc_held (v := .string ⟨(s ++ [32] ++ x1 ++ [61]).toArray⟩)
      case ho => simp only [List.getElem?_toArray, List.getElem?_cons_succ, List.getElem?_cons_zero]; rfl
      case hg => rfl
      case hv =>
        intro W hW
        go_simp
        rw [if_neg (by (try simp); omega), str_append]
        (try simp)
      case ha => go_simp; rfl
      repeat
        (first
          | (apply proc_held
             case ho => simp only [List.getElem?_toArray, List.getElem?_cons_succ, List.getElem?_cons_zero]; rfl
             case hg => rfl
             case hv => intro W hW; (try dsimp only at hW); go_simp; rfl
             case ha => go_simp; rfl)
          | (apply proc_held_on
             case ho => simp only [List.getElem?_toArray, List.getElem?_cons_succ, List.getElem?_cons_zero]; rfl
             case hg => rfl
             case hv => intro W hW; (try dsimp only at hW); go_simp; rfl
             case ha => go_simp; rfl)
          | (apply proc_off
             case ho => simp only [List.getElem?_toArray, List.getElem?_cons_succ, List.getElem?_cons_zero]; rfl
             case hg => rfl
             case ha => go_simp; rfl))
      apply proc_eff
      case ho => simp only [List.getElem?_toArray, List.getElem?_cons_succ, List.getElem?_cons_zero]; rfl
      simp only [World.drew_eq]
      obtain ⟨oc, cc, hcv, hvv⟩ := run_conv_bytes (P := Tryd.prog) w2.drew 9 25 5 x2 Tryd.underlying9 Tryd.underlying25 Tryd.underlying5
      have HVV := Lib.hid hvv; clear hvv
      have hd0 : w2.drew.heap = w2.heap := rfl
      rw [hd0] at hcv
      go_wp2_with fail
      obtain ⟨w3, hw3⟩ : ∃ w3, w3 = (w2.alloc oc).drew.drew := ⟨_, rfl⟩
      have uu : Upd [] w2 w3 := by rw [hw3]; exact (((Upd.refl [] w2).alloc oc).drewN 1).drew
      rw [← hw3]
      have hvv : BytesV w3 (.slice (some ⟨w2.heap.size, 0, none⟩) x2.length cc) x2 := by rw [hw3]; exact HVV.out
      have V3 := Lib.hid uu
      have HV3 := Lib.hid hvv
      clear hw3 uu hvv HVV
      have cc1 := (World.cell?_of_block (V3.out.block _ (World.block_lt_of_cell? _ _ hc1) (by simp))).trans hc1
      have cc2 := (World.cell?_of_block (V3.out.block _ (World.block_lt_of_cell? _ _ hc2) (by simp))).trans hc2
      refine ⟨_, fun _ h => h, ⟨cc1, cc2⟩, ?_⟩
      apply proc_eff
      case ho => simp only [List.getElem?_toArray, List.getElem?_cons_succ, List.getElem?_cons_zero]; rfl
      go_wp2_with fail
      refine (ref_hex HV3.out (by omega)).mono ?_
      rintro e w4 ⟨rfl, hu4⟩
      have V4 := Lib.hid (V3.out.trans hu4 (by simp))
      clear hu4 cc1 cc2
      have cc1 := (World.cell?_of_block (V4.out.block _ (World.block_lt_of_cell? _ _ hc1) (by simp))).trans hc1
      have cc2 := (World.cell?_of_block (V4.out.block _ (World.block_lt_of_cell? _ _ hc2) (by simp))).trans hc2
      go_wp2_with fail
      refine ⟨_, fun _ h => h, ⟨cc1, cc2⟩, ?_⟩
      have hxl : (hexS x2).length ≤ 2000001 := by
        unfold hexS; split
        · simp
        · rw [hexL_length]; omega
      obtain ⟨y, hy⟩ : ∃ y, y = hexS x2 := ⟨_, rfl⟩
      rw [← hy] at hxl ⊢
      have HY := Lib.hid hy; clear hy
      obtain ⟨z, hz⟩ : ∃ z, z = s ++ [32] ++ x1 ++ [61] ++ y := ⟨_, rfl⟩
      have HZ0 := Lib.hid hz
      have hzl : z.length ≤ 4000000 * (k + 1) := by rw [hz]; simp; omega
      clear hz
      apply proc_held (v := .string ⟨z.toArray⟩)
      case ho => simp only [List.getElem?_toArray, List.getElem?_cons_succ, List.getElem?_cons_zero]; rfl
      case hg => rfl
      case hv =>
        intro W hW
        go_simp
        rw [if_neg (by omega), str_append, HZ0.out]
        simp
      case ha => go_simp; rfl
      repeat
        (first
          | (apply proc_held
             case ho => simp only [List.getElem?_toArray, List.getElem?_cons_succ, List.getElem?_cons_zero]; rfl
             case hg => rfl
             case hv => intro W hW; (try dsimp only at hW); go_simp; rfl
             case ha => go_simp; rfl)
          | (apply proc_held_on
             case ho => simp only [List.getElem?_toArray, List.getElem?_cons_succ, List.getElem?_cons_zero]; rfl
             case hg => rfl
             case hv => intro W hW; (try dsimp only at hW); go_simp; rfl
             case ha => go_simp; rfl)
          | (apply proc_off
             case ho => simp only [List.getElem?_toArray, List.getElem?_cons_succ, List.getElem?_cons_zero]; rfl
             case hg => rfl
             case ha => go_simp; rfl))
      refine proc_nil ?_
      have hstep : z = spW (hdrsW (l.take (k + 1))).1 := by
        rw [HTK.out, HZ0.out, HS.out, HY.out]
        simp only [hdrsW, List.map_append, List.map_cons, List.map_nil, spW_append]
        simp [spW, hdrW]
      have hall : (hdrsW (l.take (k + 1))).2 = true := by
        have := HB.out
        rw [HTK.out]
        simp only [hdrsW, List.all_append] at this ⊢
        rw [this]; simp [← HTOK.out]
      have HST := Lib.hid hstep; have HAL := Lib.hid hall
      clear hstep hall
      go_wp2_with fail
      exact ⟨⟨k + 1, z, by omega, rfl, by go_num, HST.out, HAL.out, hzl, HU.out.trans V4.out (by simp)⟩, by simp [intOf]; omega⟩
    · have hkl : k = l.length := by omega
      have hok : ok = true := by
        rw [HOK.out]
        have := HB.out
        rw [hkl, List.take_length] at this
        exact this
      have htt : t = s := by
        have := HS.out
        rw [hkl, List.take_length] at this
        rw [HT.out, hok, this]; rfl
      have HO2 := Lib.hid hok; have HT2 := Lib.hid htt
      clear hkl hok htt
      go_wp2_with fail
      go_ret2
      refine ⟨?_, HU.out⟩
      rw [HO2.out, HT2.out]; rfl
end Go.Proofs.YtajoldboafkpdaaDoor
