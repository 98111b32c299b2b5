-- ScriptShows: the walk.
import Derived.Test.YtajoldboafkpdaaDoorScLines
namespace Go.Proofs.YtajoldboafkpdaaDoor
set_option linter.unusedSimpArgs false
set_option linter.unusedVariables false
open Go.RowKit Go.Lk
set_option maxRecDepth 100000 in
theorem great_acts_long {w : World} {A : Option Addr} {c n : Nat} (m : Int) (hm : (n : Int) > m) :
    Calls Tryd.prog 9 #[.slice A n c, .int .i64 m] w fun e w' => e = .returned (.bool true) ∧ Upd [] w w' := by
  go_enter Tryd.func9, Tryd.ntmps9
  go_wp2
  go_ret
  exact ⟨rfl, Upd.refl _ _⟩
set_option maxRecDepth 100000 in
set_option maxHeartbeats 3200000 in
theorem walk_ScriptShows {w : World} {A : Option Addr} {c : Nat} {al : List (ActL × ActP)} (hA : ActsAt w A al) (hwf : ∀ x ∈ al, ActWf x.1) (hE : Env w) :
    Calls Tryd.prog 5 #[.slice A al.length c] w fun e w' => e = .returned (.bool true) ∧ Upd [] w w' := by
  have HA := Lib.hid hA; have HWF := Lib.hid hwf; have HE := Lib.hid hE; clear hA hwf hE
  by_cases hbig : (al.length : Int) > 30
  · go_enter Tryd.func5, Tryd.ntmps5
    go_wp2_with fail
    refine (great_acts_long 30 hbig).mono ?_
    rintro e w1 ⟨rfl, hu1⟩
    have HU1 := Lib.hid hu1; clear hu1
    go_wp2_with fail
    refine (awake27 (HE.out.upd0 HU1.out)).mono ?_
    rintro e w2 ⟨rfl, hu2⟩
    go_wp2_with fail
    go_ret
    exact ⟨rfl, HU1.out.trans hu2 (by simp)⟩
  have hn30 : al.length ≤ 30 := by omega
  have q1 := great_acts (c := c) HA.out 30 (by omega)
  obtain ⟨g, hg⟩ : ∃ g, g = greatA (al.map (·.1)) 30 := ⟨_, rfl⟩
  have HG := Lib.hid hg
  rw [← hg] at q1
  clear hg
  have Q1 := Lib.hid q1
  clear q1 hbig
  go_enter Tryd.func5, Tryd.ntmps5
  go_wp2_with fail
  refine Q1.out.mono ?_
  rintro e w1 ⟨rfl, hu1⟩
  have HU1 := Lib.hid hu1; clear hu1 Q1
  cases g with
  | true =>
    go_wp2_with fail
    refine (awake27 (HE.out.upd0 HU1.out)).mono ?_
    rintro e w2 ⟨rfl, hu2⟩
    go_wp2_with fail
    go_ret
    exact ⟨rfl, HU1.out.trans hu2 (by simp)⟩
  | false =>
  have hok : ∀ x ∈ al, ActOk x.1 := fun x hx => ⟨(greatA_few HG.out.symm).2 _ (List.mem_map.2 ⟨x, hx, rfl⟩), HWF.out x hx⟩
  have HOK := Lib.hid hok
  clear hok HG
  go_wp2_with fail
  go_loopw [3] (fun v3 wr => ∃ (k : Nat), k ≤ al.length ∧ v3 = .int .i64 k ∧ Upd [] w wr) (fun v3 _ => al.length - (intOf v3).toNat)
  case atStart => exact ⟨0, by omega, rfl, HU1.out⟩
  case round =>
    obtain ⟨k, hk, rfl, hu⟩ := hrel
    have HU := Lib.hid hu; clear hu
    by_cases hlt : k < al.length
    · obtain ⟨x, hx⟩ : ∃ x, x = al[k] := ⟨_, rfl⟩
      obtain ⟨ab, ao, hAe, hL0, hat0⟩ := HA.out k x (by simp [hx, hlt])
      subst hAe
      have hmem : x ∈ al := by rw [hx]; exact List.getElem_mem hlt
      have HOKX := Lib.hid (HOK.out x hmem)
      have HL0 := Lib.hid hL0; have HAT0 := Lib.hid hat0
      clear hx hmem hL0 hat0
      obtain ⟨a, p⟩ := x
      have HAG : Hid (aggOf Tryd.prog 29 (actCells a p).length = true) := Lib.hid (aggAct a p)
      have HLD := Lib.hid (HL0.out.upd HU.out (by simp))
      have q2 := script_show (HAT0.out.upd HU.out (by simp)) (lim_of_few HOKX.out.1 HOKX.out.2) (HE.out.upd0 HU.out)
      unfold actV at q2
      obtain ⟨tx, htx⟩ : ∃ tx, tx = (showS a).getD [] := ⟨_, rfl⟩
      obtain ⟨en, hen⟩ : ∃ en : Int, en = if (showS a).isSome then 0 else 2 := ⟨_, rfl⟩
      rw [← htx, ← hen] at q2
      have Q2 := Lib.hid q2; have HTX := Lib.hid htx; have HEN := Lib.hid hen
      clear q2 htx hen
      go_wp2_with (refine wpList_load_lies _ rfl 29 (.tmp 24) rfl ab (ao + k * 18) (actCells a p) rfl HAG.out HLD.out ?_)
      refine Q2.out.mono ?_
      rintro e w3 ⟨rfl, hu3⟩
      have HU3 := Lib.hid (HU.out.trans hu3 (by simp)); clear hu3 Q2
      have HLD3 := Lib.hid (HL0.out.upd HU3.out (by simp))
      have q3 := ref_show (HAT0.out.upd HU3.out (by simp)) (lim_of_few HOKX.out.1 HOKX.out.2)
      unfold actV at q3
      rw [← HTX.out, ← HEN.out] at q3
      have Q3 := Lib.hid q3
      clear q3
      go_wp2_with (refine wpList_load_lies _ rfl 29 (.tmp 32) rfl ab (ao + k * 18) (actCells a p) rfl HAG.out HLD3.out ?_)
      refine Q3.out.mono ?_
      rintro e w4 ⟨rfl, hu4⟩
      have HU4 := Lib.hid (HU3.out.trans hu4 (by simp)); clear hu4 Q3
      go_wp2_with fail
      exact ⟨⟨k + 1, by omega, by go_num, HU4.out⟩, by simp [intOf]; omega⟩
    · have q5 := script_lines (c := c) (w := wr) (fun j x hj => by
        obtain ⟨ab, ao, e, hl, ha⟩ := HA.out j x hj
        exact ⟨ab, ao, e, hl.upd HU.out (by simp), ha.upd HU.out (by simp)⟩) HOK.out (by omega) (HE.out.upd0 HU.out)
      obtain ⟨tx, htx⟩ : ∃ tx, tx = (linesS (al.map (·.1))).getD [] := ⟨_, rfl⟩
      obtain ⟨en, hen⟩ : ∃ en : Int, en = if (linesS (al.map (·.1))).isSome then 0 else 2 := ⟨_, rfl⟩
      rw [← htx, ← hen] at q5
      have Q5 := Lib.hid q5; have HTX := Lib.hid htx; have HEN := Lib.hid hen
      clear q5 htx hen
      go_wp2_with fail
      refine Q5.out.mono ?_
      rintro e w6 ⟨rfl, hu6⟩
      have HU6 := Lib.hid (HU.out.trans hu6 (by simp)); clear hu6 Q5
      have q7 := ref_lines (c := c) (w := w6) (fun j x hj => by
        obtain ⟨ab, ao, e, hl, ha⟩ := HA.out j x hj
        exact ⟨ab, ao, e, hl.upd HU6.out (by simp), ha.upd HU6.out (by simp)⟩) HOK.out (by omega)
      rw [← HTX.out, ← HEN.out] at q7
      have Q7 := Lib.hid q7
      clear q7
      go_wp2_with fail
      refine Q7.out.mono ?_
      rintro e w8 ⟨rfl, hu8⟩
      have HU8 := Lib.hid (HU6.out.trans hu8 (by simp)); clear hu8 Q7
      go_wp2_with fail
      refine (awake27 (HE.out.upd0 HU8.out)).mono ?_
      rintro e w9 ⟨rfl, hu9⟩
      go_wp2_with fail
      go_ret
      exact ⟨rfl, HU8.out.trans hu9 (by simp)⟩
/-- A slice of acts that came in. -/
def ActsR (W : World) (v : Value) (al : List (ActL × ActP)) : Prop := SliceR W 18 (fun cs (x : ActL × ActP) => cs = actCells x.1 x.2 ∧ ActAt W x.1 x.2 ∧ ActWf x.1) v al
theorem open_acts {H : Type} {enc : TypeId × Value → H} {w : World} {spare : Nat → Bool} {held : Bool} {fuel : Nat} {cs : List Value} {x : DataW H × List MemPlace} (h : DataW.trod enc Tryd.prog w 0 spare held fuel 31 cs = some x) : ∃ v l, cs = [v] ∧ ActsR w v l :=
  open_sliceR Tryd.underlying31 18 (by kernel_rfl) (by omega) (fun n cs' d hd => by obtain ⟨a, p, h1, h2, h3⟩ := open_act hd; exact ⟨(a, p), h1, h2, h3⟩) h
theorem ActsR.acts {W : World} {v : Value} {al : List (ActL × ActP)} (h : ActsR W v al) : ∃ A c, v = .slice A al.length c ∧ ActsAt W A al ∧ ∀ x ∈ al, ActWf x.1 := by
  obtain ⟨A, c, rfl, _, hp⟩ := h
  refine ⟨A, c, rfl, fun j x hj => ?_, fun x hx => ?_⟩
  · obtain ⟨ab, ao, rfl, cs, _, hc, rfl, ha, _⟩ := hp j x hj
    exact ⟨ab, ao, rfl, fun i u hi => by have := hc i u hi; rw [← Nat.add_assoc] at this; exact this, ha⟩
  · obtain ⟨j, hj⟩ := List.getElem?_of_mem hx
    obtain ⟨ab, ao, _, cs, _, _, _, _, hw⟩ := hp j x hj
    exact hw
theorem walkA_ScriptShows (W : World) (v : Value) (al : List (ActL × ActP)) (h : ActsR W v al) (hE : Env W) :
    Calls Tryd.prog 5 #[v] W fun e W' => e = .returned (.bool true) ∧ Below W.heap.size W W' := by
  obtain ⟨A, c, rfl, ha, hw⟩ := h.acts
  exact (walk_ScriptShows ha hw hE).mono fun e W' ⟨he, hu⟩ => ⟨he, hu.below (by simp)⟩
end Go.Proofs.YtajoldboafkpdaaDoor
