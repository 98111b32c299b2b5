-- lockkeeperlaw0.Ints: contract.
import Derived.Test.YtajoldboafkpdaaDoorRead
namespace Go.Proofs.YtajoldboafkpdaaDoor
set_option linter.unusedSimpArgs false
set_option linter.unusedVariables false
open Go.RowKit Go.Lk
set_option maxRecDepth 100000 in
theorem l0_ints {w : World} {A B : Option Addr} {ca cb : Nat} {l m : List Int} (hA : IntsAt w A l) (hB : IntsAt w B m) (hl : l.length ≤ 1000000) (hm : m.length ≤ 1000000) :
    Calls Tryd.prog 30 #[.slice A l.length ca, .slice B m.length cb] w fun e w' => e = .returned (.bool (decide (l = m))) ∧ Upd [] w w' := by
  have HA := Lib.hid hA; have HB := Lib.hid hB; clear hA hB
  by_cases hlm : l.length = m.length
  case neg =>
    have hd : decide (l = m) = false := decide_eq_false (fun h => hlm (by rw [h]))
    have hne : ((l.length : Int) != (m.length : Int)) = true := by rw [bne_iff_ne]; omega
    rw [hd]
    clear hd
    go_enter Tryd.func30, Tryd.ntmps30
    go_wp2
    go_ret
    exact ⟨rfl, Upd.refl _ _⟩
  have hne : ((l.length : Int) != (m.length : Int)) = false := by rw [bne_eq_false_iff_eq]; omega
  have HLE := Lib.hid hlm
  clear hlm
  have hmm : m.length ≤ l.length ∧ l.length ≤ m.length := by have := HLE.out; omega
  obtain ⟨r, hr⟩ : ∃ r, r = decide (l = m) := ⟨_, rfl⟩
  have HR := Lib.hid hr
  rw [← hr]
  clear hr
  go_enter Tryd.func30, Tryd.ntmps30
  go_wp2_with fail
  clear hne
  go_loopw [5] (fun v5 wr => ∃ (k : Nat), k ≤ l.length ∧ v5 = .int .i64 k ∧ l.take k = m.take k ∧ Upd [] w wr) (fun v5 _ => l.length - (intOf v5).toNat)
  case atStart => exact ⟨0, by omega, rfl, by simp, Upd.refl _ _⟩
  case round =>
    obtain ⟨k, hk, rfl, ht, hu⟩ := hrel
    have HU := Lib.hid hu; have HT := Lib.hid ht; clear hu ht
    by_cases hlt : k < l.length
    · obtain ⟨x, hx⟩ : ∃ x, x = l[k] := ⟨_, rfl⟩
      obtain ⟨y, hy⟩ : ∃ y, y = m[k]'(by omega) := ⟨_, rfl⟩
      obtain ⟨ab, ao, hAe, hcx0⟩ := HA.out k x (by simp [hx, hlt])
      obtain ⟨bb, bo, hBe, hcy0⟩ := HB.out k y (by rw [hy]; simp [show k < m.length by omega])
      subst hAe hBe
      have hcx : wr.cell? ⟨ab, ao + k, none⟩ = some (.int .i64 x) := (World.cell?_of_block (HU.out.block ab (World.block_lt_of_cell? _ _ hcx0) (by simp))).trans hcx0
      have hcy : wr.cell? ⟨bb, bo + k, none⟩ = some (.int .i64 y) := (World.cell?_of_block (HU.out.block bb (World.block_lt_of_cell? _ _ hcy0) (by simp))).trans hcy0
      have hkm : k < m.length := by omega
      have htx : l.take (k + 1) = l.take k ++ [x] := by rw [List.take_succ_eq_append_getElem hlt, hx]
      have hty : m.take (k + 1) = m.take k ++ [y] := by rw [List.take_succ_eq_append_getElem hkm, hy]
      have HTX := Lib.hid htx; have HTY := Lib.hid hty; clear htx hty hx hy hcx0 hcy0
      go_wp2_with fail
      refine wp_region_proc [(0, 0), (1, 0), (2, 0), (3, 0), (4, 0), (5, 0), (6, 0), (7, 0), (8, 0)] (fun W => W.cell? ⟨ab, ao + k, none⟩ = some (.int .i64 x) ∧ W.cell? ⟨bb, bo + k, none⟩ = some (.int .i64 y)) (by kernel_rfl) (by kernel_rfl) (fun c a w t v h => by cases t <;> exact h) ⟨hcx, hcy⟩ ?_
      repeat
        (first
          | (apply proc_held
             case ho => simp only [List.getElem?_toArray, List.getElem?_cons_succ, List.getElem?_cons_zero]; rfl
             case hg => rfl
             case hv => intro W hW; (try dsimp only at hW); go_simp; rfl
             case ha => go_simp; rfl)
          | (apply proc_held_on
             case ho => simp only [List.getElem?_toArray, List.getElem?_cons_succ, List.getElem?_cons_zero]; rfl
             case hg => rfl
             case hv => intro W hW; (try dsimp only at hW); go_simp; rfl
             case ha => go_simp; rfl)
          | (apply proc_off
             case ho => simp only [List.getElem?_toArray, List.getElem?_cons_succ, List.getElem?_cons_zero]; rfl
             case hg => rfl
             case ha => go_simp; rfl))
      refine proc_nil ?_
      by_cases hxy : x = y
      · subst hxy
        go_wp2_with fail
        refine ⟨⟨k + 1, by omega, by go_num, by rw [HTX.out, HTY.out, HT.out], HU.out.drew⟩, by simp [intOf]; omega⟩
      · have hxn : (x != y) = true := by rw [bne_iff_ne]; exact hxy
        go_wp2_with fail
        go_ret
        have hr2 : r = false := by
          rw [HR.out, decide_eq_false]
          intro h
          have h1 := HTX.out
          rw [h, HTY.out] at h1
          have := List.append_inj_right' h1 rfl
          simp at this
          exact hxy this.symm
        refine ⟨?_, HU.out.drew⟩
        rw [hr2]; rfl
    · have hkl : k = l.length := by omega
      have ht := HT.out
      rw [hkl, List.take_length, HLE.out, List.take_length] at ht
      have HLM := Lib.hid ht; clear ht
      go_wp2_with fail
      go_ret
      have hr2 : r = true := by rw [HR.out, decide_eq_true HLM.out]
      refine ⟨?_, HU.out⟩
      rw [hr2]; rfl
end Go.Proofs.YtajoldboafkpdaaDoor
