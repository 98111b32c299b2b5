-- script.Lines: contract.
import Derived.Test.YtajoldboafkpdaaDoorLines
namespace Go.Proofs.YtajoldboafkpdaaDoor
set_option linter.unusedSimpArgs false
set_option linter.unusedVariables false
open Go.RowKit Go.Lk
theorem byteCells_str (s : Bs) (t : Bs) : Lib.byteCells s ++ Lib.strCells ⟨t.toArray⟩ = Lib.byteCells (s ++ t) := by
  simp [Lib.byteCells, Lib.strCells]
set_option maxRecDepth 100000 in
set_option maxHeartbeats 3200000 in
theorem script_lines_lim {w : World} {A : Option Addr} {c : Nat} {al : List (ActL × ActP)} (hA : ActsAt w A al) (hok : ∀ x ∈ al, ActLim x.1 ∧ ∀ t, showS x.1 = some t → t.length ≤ 900000) (hn : al.length ≤ 1000) (hE : Env w) :
    Calls Tryd.prog 17 #[.slice A al.length c] w fun e w' => e = .returned (.tuple #[.string ⟨((linesS (al.map (·.1))).getD []).toArray⟩, .int .i64 (if (linesS (al.map (·.1))).isSome then 0 else 2)]) ∧ Upd [] w w' := by
  have HA := Lib.hid hA; have HOK := Lib.hid hok; have HE := Lib.hid hE; clear hA hok hE
  obtain ⟨sh, hsh⟩ : ∃ sh, sh = linesS (al.map (·.1)) := ⟨_, rfl⟩
  have HSH := Lib.hid hsh
  rw [← hsh]
  clear hsh
  obtain ⟨tx, htx⟩ : ∃ tx, tx = sh.getD [] := ⟨_, rfl⟩
  obtain ⟨en, hen⟩ : ∃ en : Int, en = if sh.isSome then 0 else 2 := ⟨_, rfl⟩
  have HTX := Lib.hid htx; have HEN := Lib.hid hen
  rw [← htx, ← hen]
  clear htx hen
  go_enter Tryd.func17, Tryd.ntmps17
  go_wp2_with fail
  go_loopw [11] (fun v11 wr => ∃ (k : Nat) (s : Bs), k ≤ al.length ∧ v11 = .int .i64 k ∧ linesS ((al.take k).map (·.1)) = some s ∧ s.length ≤ 900001 * k ∧ Lib.IsBuilder 86 5 w.heap.size w.heap.size (Lib.byteCells s) wr ∧ Below w.heap.size w wr) (fun v11 _ => al.length - (intOf v11).toNat)
  case atStart =>
    refine ⟨0, [], by omega, rfl, rfl, by simp, .inl ⟨Nat.le_refl _, .slice none 0 0, heap_alloc_self _, World.ownsRow_nil _ _ _ _, by simp [Value.ownBlock]⟩, ((Upd.refl [] w).alloc _).below (by simp)⟩
  case round =>
    obtain ⟨k, s, hk, rfl, hs, hsl, hbu, hbl⟩ := hrel
    have HS := Lib.hid hs; have HBU := Lib.hid hbu; have HBL := Lib.hid hbl; clear hs hbu hbl
    by_cases hlt : k < al.length
    · obtain ⟨x, hx⟩ : ∃ x, x = al[k] := ⟨_, rfl⟩
      obtain ⟨ab, ao, hAe, hL0, hat0⟩ := (HA.out.below HBL.out) k x (by simp [hx, hlt])
      subst hAe
      have hmem : x ∈ al := by rw [hx]; exact List.getElem_mem hlt
      have htk : al.take (k + 1) = al.take k ++ [x] := by rw [List.take_succ_eq_append_getElem hlt, hx]
      have HOKX := Lib.hid (HOK.out x hmem)
      have HM : Hid (x.1 ∈ al.map (·.1)) := Lib.hid (List.mem_map.2 ⟨x, hmem, rfl⟩)
      have HTK := Lib.hid htk
      have HLD := Lib.hid hL0; have HAT := Lib.hid hat0
      clear htk hx hmem hL0 hat0
      obtain ⟨a, p⟩ := x
      have HAG : Hid (aggOf Tryd.prog 29 (actCells a p).length = true) := Lib.hid (aggAct a p)
      have HG2 := Lib.hid (aggAct a p); have HZ := Lib.hid (zeroAct_heap wr); have HC := Lib.hid (actCells_all a p)
      have hv := actVar wr a p rfl
      have HL2 : Hid (LiesAt ((wr.alloc (.cells #[.int .i64 0, .int .i64 0, .int .i64 0, .slice none 0 0, .int .u64 0, .int .i64 0, .slice none 0 0, .slice none 0 0, .string ⟨#[]⟩, .string ⟨#[]⟩, .string ⟨#[]⟩, .int .i64 0, .bool false, .slice none 0 0, .int .i64 0, .int .u64 0, .int .i64 0, .int .i64 0] 29)).setRow wr.heap.size (actCells a p).toArray) wr.heap.size 0 (actCells a p)) := Lib.hid (LiesAt.of_block hv.1)
      have HU1 := Lib.hid hv.2
      have HE1 := Lib.hid ((HE.out.below HBL.out).upd0 hv.2)
      have HA1 := Lib.hid (HAT.out.upd hv.2 (by simp))
      have HBU1 := Lib.hid (bld_upd HBU.out hv.2)
      have hsz : w.heap.size ≤ wr.heap.size := HBL.out.size
      have HBL1 := Lib.hid (Upd.ofBelow HBL.out hv.2 hsz)
      clear hv
      have q := script_show HA1.out HOKX.out.1 HE1.out
      unfold actV at q
      cases hsa : showS a with
      | none =>
        rw [hsa] at q
        have hno : sh = none := by rw [HSH.out]; exact linesS_none HM.out hsa
        have HNO := Lib.hid hno; have Q := Lib.hid q
        clear hno q hsa
        go_wp2_with first
          | refine wpList_load_lies _ rfl 29 (.tmp 13) rfl ab (ao + k * 18) (actCells a p) rfl HAG.out HLD.out ?_
          | refine wpList_store_agg _ rfl 29 (.tmp 6) (.tmp 14) rfl wr.heap.size (actCells a p).toArray (actCells ActL.zero p0).toArray 29 rfl rfl HG2.out HZ.out rfl HC.out ?_
          | refine wpList_load_lies _ rfl 29 (.tmp 6) rfl wr.heap.size 0 (actCells a p) rfl HAG.out HL2.out ?_
        refine Q.out.mono ?_
        rintro e w3 ⟨rfl, hu3⟩
        have HB3 := Lib.hid (Upd.ofBelow HBL1.out hu3 HBL1.out.size); clear hu3 Q
        simp only [Option.getD_none, Option.isSome_none, Bool.false_eq_true, if_false]
        go_wp2_with fail
        go_ret2
        refine ⟨?_, Below.upd HB3.out⟩
        rw [HTX.out, HEN.out, HNO.out]; rfl
      | some t =>
        have htl := HOKX.out.2 _ hsa
        rw [hsa] at q
        have hst : linesS ((al.take (k + 1)).map (·.1)) = some (s ++ t ++ [10]) := by
          rw [HTK.out, List.map_append]; exact linesS_snoc _ _ HS.out hsa
        have HST := Lib.hid hst; have Q := Lib.hid q
        clear hst q hsa
        go_wp2_with first
          | refine wpList_load_lies _ rfl 29 (.tmp 13) rfl ab (ao + k * 18) (actCells a p) rfl HAG.out HLD.out ?_
          | refine wpList_store_agg _ rfl 29 (.tmp 6) (.tmp 14) rfl wr.heap.size (actCells a p).toArray (actCells ActL.zero p0).toArray 29 rfl rfl HG2.out HZ.out rfl HC.out ?_
          | refine wpList_load_lies _ rfl 29 (.tmp 6) rfl wr.heap.size 0 (actCells a p) rfl HAG.out HL2.out ?_
        refine Q.out.mono ?_
        rintro e w3 ⟨rfl, hu3⟩
        have HB3 := Lib.hid (Upd.ofBelow HBL1.out hu3 HBL1.out.size)
        have HBU3 := Lib.hid (bld_upd HBU1.out hu3)
        clear hu3 Q
        simp only [Option.getD_some, Option.isSome_some, if_true]
        go_wp2_with fail
        have q4 := bwrite w.heap.size w.heap.size (Lib.byteCells s) ⟨(t ++ [10]).toArray⟩ w3 HBU3.out (by rw [Lib.byteCells_length]; simp [ByteArray.size]; omega) HB3.out.size
        rw [byteCells_str, ← str_append] at q4
        refine q4.mono ?_
        clear q4
        rintro e w4 ⟨rfl, hb4, hbl4⟩
        have HB4 := Lib.hid hb4; have HBL4 := Lib.hid (HB3.out.trans hbl4)
        clear hb4 hbl4
        go_wp2_with fail
        refine ⟨⟨k + 1, s ++ t ++ [10], by omega, by go_num, HST.out, by simp; omega, .inr (by rw [List.append_assoc]; exact HB4.out), HBL4.out⟩, by simp [intOf]; omega⟩
    · have hkl : k = al.length := by omega
      have hss : sh = some s := by
        rw [HSH.out]
        have := HS.out
        rw [hkl, List.take_length] at this
        exact this
      have HSS := Lib.hid hss
      clear hkl hss
      go_wp2_with fail
      refine (Tryd.Builder_String_any w.heap.size w.heap.size s wr HBU.out HBL.out.size).mono ?_
      rintro e w9 ⟨rfl, hb9⟩
      go_wp2_with fail
      go_ret2
      refine ⟨?_, Below.upd (HBL.out.trans hb9)⟩
      rw [HTX.out, HEN.out, HSS.out]; rfl
theorem script_lines {w : World} {A : Option Addr} {c : Nat} {al : List (ActL × ActP)} (hA : ActsAt w A al) (hok : ∀ x ∈ al, ActOk x.1) (hn : al.length ≤ 1000) (hE : Env w) :
    Calls Tryd.prog 17 #[.slice A al.length c] w fun e w' => e = .returned (.tuple #[.string ⟨((linesS (al.map (·.1))).getD []).toArray⟩, .int .i64 (if (linesS (al.map (·.1))).isSome then 0 else 2)]) ∧ Upd [] w w' :=
  script_lines_lim hA (fun x hx => ⟨lim_of_few (hok x hx).1 (hok x hx).2, fun t ht => showS_few (hok x hx).1 (hok x hx).2 ht⟩) hn hE
end Go.Proofs.YtajoldboafkpdaaDoor
