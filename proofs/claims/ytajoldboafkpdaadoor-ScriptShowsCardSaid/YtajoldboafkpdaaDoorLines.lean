-- script.Lines, lockkeeperref27.Lines: contracts.
import Derived.Test.YtajoldboafkpdaaDoorBld
import Derived.Test.YtajoldboafkpdaaDoorBackL
import Derived.Test.YtajoldboafkpdaaDoorRefShow
namespace Go.Proofs.YtajoldboafkpdaaDoor
set_option linter.unusedSimpArgs false
set_option linter.unusedVariables false
open Go.RowKit Go.Lk
/-- Acts as lines; none: one may not be told. -/
def linesS : List ActL → Option Bs
  | [] => some []
  | a :: l => match showS a, linesS l with
    | some t, some r => some (t ++ 10 :: r)
    | _, _ => none
theorem linesS_snoc (l : List ActL) (a : ActL) {s t : Bs} (h1 : linesS l = some s) (h2 : showS a = some t) : linesS (l ++ [a]) = some (s ++ t ++ [10]) := by
  induction l generalizing s with
  | nil => injection h1 with h1; subst h1; simp [linesS, h2]
  | cons x l ih =>
    unfold linesS at h1
    rw [List.cons_append]
    unfold linesS
    split at h1
    · rename_i u r hu hr
      injection h1 with h1
      rw [hu, ih hr]
      subst h1; simp
    · cases h1
theorem linesS_none {l : List ActL} {a : ActL} (h : a ∈ l) (h2 : showS a = none) : linesS l = none := by
  induction l with
  | nil => cases h
  | cons x l ih =>
    unfold linesS
    rcases List.mem_cons.1 h with rfl | h
    · rw [h2]
    · rw [ih h]
      split
      · rename_i hh; cases hh
      · rfl
theorem bld_upd {T e : TypeId} {B b : Nat} {bs : List Value} {w w1 : World} (h : Lib.IsBuilder T e B b bs w) (hu : Upd [] w w1) : Lib.IsBuilder T e B b bs w1 := by
  have one : ∀ p, Lib.BuilderAt T e B b p bs w → Lib.BuilderAt T e B b p bs w1 := fun p ⟨h1, v, h2, h3, h4⟩ =>
    ⟨h1, v, (hu.block b (Array.getElem?_eq_some_iff.1 h2).1 (by simp)).trans h2, own_upd h3 hu (by simp), h4⟩
  exact h.elim (fun x => .inl (one _ x)) (fun x => .inr (one _ x))
theorem Upd.ofBelow {B : Nat} {w w1 w2 : World} (h : Below B w w1) (hu : Upd [] w1 w2) (hB : B ≤ w1.heap.size) : Below B w w2 :=
  ⟨hu.os.trans h.os, hu.tape.trans h.tape, hu.output.trans h.output, Nat.le_trans h.size hu.size, fun k hk => (hu.block k (by omega) (by simp)).trans (h.block k hk)⟩
theorem ActAt.below {w w1 : World} {a : ActL} {p : ActP} (h : ActAt w a p) (hb : Below w.heap.size w w1) : ActAt w1 a p := by
  have hu : ∀ k, k < w.heap.size → w1.heap[k]? = w.heap[k]? := hb.block
  refine ⟨fun j x hj => ?_, fun j x hj => ?_, fun j x hj => ?_, h.bcp, fun j x hj => ?_⟩
  · obtain ⟨ab, ao, e, hc⟩ := h.ids j x hj
    exact ⟨ab, ao, e, (World.cell?_of_block (hu ab (World.block_lt_of_cell? _ _ hc))).trans hc⟩
  · obtain ⟨ab, ao, e, hc, hd⟩ := h.hds j x hj
    exact ⟨ab, ao, e, (World.cell?_of_block (hu ab (World.block_lt_of_cell? _ _ hc))).trans hc, (World.cell?_of_block (hu ab (World.block_lt_of_cell? _ _ hc))).trans hd⟩
  · obtain ⟨ab, ao, e, hc⟩ := h.bts j x hj
    exact ⟨ab, ao, e, (World.cell?_of_block (hu ab (World.block_lt_of_cell? _ _ hc))).trans hc⟩
  · obtain ⟨ab, ao, e, hc, hd⟩ := h.rhd j x hj
    exact ⟨ab, ao, e, (World.cell?_of_block (hu ab (World.block_lt_of_cell? _ _ hc))).trans hc, (World.cell?_of_block (hu ab (World.block_lt_of_cell? _ _ hc))).trans hd⟩
theorem ActsAt.below {w w1 : World} {A : Option Addr} {al : List (ActL × ActP)} (h : ActsAt w A al) (hb : Below w.heap.size w w1) : ActsAt w1 A al := fun j x hj => by
  obtain ⟨ab, ao, e, hl, ha⟩ := h j x hj
  exact ⟨ab, ao, e, fun i v hi => (World.cell?_of_block (hb.block ab (World.block_lt_of_cell? _ _ (hl i v hi)))).trans (hl i v hi), ha.below hb⟩
theorem Env.below {w w1 : World} (h : Env w) (hb : Below w.heap.size w w1) : Env w1 := by
  have hu : Upd [] w w1 := ⟨hb.os, hb.tape, hb.output, hb.size, fun k hk _ => hb.block k hk⟩
  exact h.upd0 hu
theorem Below.upd {w w1 : World} (hb : Below w.heap.size w w1) : Upd [] w w1 := ⟨hb.os, hb.tape, hb.output, hb.size, fun k hk _ => hb.block k hk⟩
/-- Acts of which a law speaks. -/
def ActOk (a : ActL) : Prop := ActFew a ∧ ActWf a
set_option maxRecDepth 100000 in
set_option maxHeartbeats 1600000 in
theorem ref_lines {w : World} {A : Option Addr} {c : Nat} {al : List (ActL × ActP)} (hA : ActsAt w A al) (hok : ∀ x ∈ al, ActOk x.1) (hn : al.length ≤ 1000) :
    Calls Tryd.prog 18 #[.slice A al.length c] w fun e w' => e = .returned (.tuple #[.string ⟨((linesS (al.map (·.1))).getD []).toArray⟩, .int .i64 (if (linesS (al.map (·.1))).isSome then 0 else 2)]) ∧ Upd [] w w' := by
  have HA := Lib.hid hA; have HOK := Lib.hid hok; clear hA hok
  obtain ⟨sh, hsh⟩ : ∃ sh, sh = linesS (al.map (·.1)) := ⟨_, rfl⟩
  have HSH := Lib.hid hsh
  rw [← hsh]
  clear hsh
  obtain ⟨tx, htx⟩ : ∃ tx, tx = sh.getD [] := ⟨_, rfl⟩
  obtain ⟨en, hen⟩ : ∃ en : Int, en = if sh.isSome then 0 else 2 := ⟨_, rfl⟩
  have HTX := Lib.hid htx; have HEN := Lib.hid hen
  rw [← htx, ← hen]
  clear htx hen
  go_enter Tryd.func18, Tryd.ntmps18
  go_wp2_with fail
  go_loopw [4, 5] (fun v4 v5 wr => ∃ (k : Nat) (s : Bs), k ≤ al.length ∧ v4 = .string ⟨s.toArray⟩ ∧ v5 = .int .i64 k ∧ linesS ((al.take k).map (·.1)) = some s ∧ s.length ≤ 900001 * k ∧ Upd [] w wr) (fun _ v5 _ => al.length - (intOf v5).toNat)
  case atStart => exact ⟨0, [], by omega, rfl, rfl, rfl, by simp, Upd.refl _ _⟩
  case round =>
    obtain ⟨k, s, hk, rfl, rfl, hs, hsl, hu⟩ := hrel
    have HS := Lib.hid hs; have HU := Lib.hid hu; clear hs hu
    by_cases hlt : k < al.length
    · obtain ⟨x, hx⟩ : ∃ x, x = al[k] := ⟨_, rfl⟩
      obtain ⟨ab, ao, hAe, hL0, hat0⟩ := HA.out k x (by simp [hx, hlt])
      subst hAe
      have hmem : x ∈ al := by rw [hx]; exact List.getElem_mem hlt
      have htk : al.take (k + 1) = al.take k ++ [x] := by rw [List.take_succ_eq_append_getElem hlt, hx]
      have HOKX := Lib.hid (HOK.out x hmem)
      have HM : Hid (x.1 ∈ al.map (·.1)) := Lib.hid (List.mem_map.2 ⟨x, hmem, rfl⟩)
      have HTK := Lib.hid htk
      have HLD := Lib.hid (hL0.upd HU.out (by simp)); have HAT := Lib.hid (hat0.upd HU.out (by simp))
      clear htk hx hmem hL0 hat0
      obtain ⟨a, p⟩ := x
      have HAG : Hid (aggOf Tryd.prog 29 (actCells a p).length = true) := Lib.hid (aggAct a p)
      have q := ref_show HAT.out (lim_of_few HOKX.out.1 HOKX.out.2)
      unfold actV at q
      cases hsa : showS a with
      | none =>
        rw [hsa] at q
        have hno : sh = none := by rw [HSH.out]; exact linesS_none HM.out hsa
        have HNO := Lib.hid hno; have Q := Lib.hid q
        clear hno q hsa
        go_wp2_with (refine wpList_load_lies _ rfl 29 (.tmp 17) rfl ab (ao + k * 18) (actCells a p) rfl HAG.out HLD.out ?_)
        refine Q.out.mono ?_
        rintro e w3 ⟨rfl, hu3⟩
        have HU3 := Lib.hid (HU.out.trans hu3 (by simp)); clear hu3 Q
        simp only [Option.getD_none, Option.isSome_none, Bool.false_eq_true, if_false]
        go_wp2_with fail
        go_ret2
        refine ⟨?_, HU3.out⟩
        rw [HTX.out, HEN.out, HNO.out]; rfl
      | some t =>
        have htl := showS_few HOKX.out.1 HOKX.out.2 hsa
        rw [hsa] at q
        have hst : linesS ((al.take (k + 1)).map (·.1)) = some (s ++ t ++ [10]) := by
          rw [HTK.out, List.map_append]; exact linesS_snoc _ _ HS.out hsa
        have HST := Lib.hid hst; have Q := Lib.hid q
        clear hst q hsa
        go_wp2_with (refine wpList_load_lies _ rfl 29 (.tmp 17) rfl ab (ao + k * 18) (actCells a p) rfl HAG.out HLD.out ?_)
        refine Q.out.mono ?_
        rintro e w3 ⟨rfl, hu3⟩
        have HU3 := Lib.hid (HU.out.trans hu3 (by simp)); clear hu3 Q
        simp only [Option.getD_some, Option.isSome_some, if_true]
        go_wp2_with fail
        refine ⟨⟨k + 1, s ++ t ++ [10], by omega, ?_, by go_num, HST.out, by simp; omega, HU3.out⟩, by simp [intOf]; omega⟩
        rw [← str_append, ← str_append]
    · have hkl : k = al.length := by omega
      have hss : sh = some s := by
        rw [HSH.out]
        have := HS.out
        rw [hkl, List.take_length] at this
        exact this
      have HSS := Lib.hid hss
      clear hkl hss
      go_wp2_with fail
      go_ret2
      refine ⟨?_, HU.out⟩
      rw [HTX.out, HEN.out, HSS.out]; rfl
end Go.Proofs.YtajoldboafkpdaaDoor
