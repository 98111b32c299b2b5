-- script.reader.headers: contract.
import Derived.Test.YtajoldboafkpdaaDoorReadInt
import Derived.Test.YtajoldboafkpdaaDoorInfoS
import Derived.Test.YtajoldboafkpdaaDoorEnv
namespace Go.Proofs.YtajoldboafkpdaaDoor
set_option linter.unusedSimpArgs false
set_option linter.unusedVariables false
open Go.RowKit Go.Lk
def hdrCells (l : List (Bs × Bs)) : List Value := l.flatMap fun h => [.string ⟨h.1.toArray⟩, .string ⟨h.2.toArray⟩]
theorem hdrCells_append (a b : List (Bs × Bs)) : hdrCells (a ++ b) = hdrCells a ++ hdrCells b := by simp [hdrCells]
theorem hdrCells_length (a : List (Bs × Bs)) : (hdrCells a).length = a.length * 2 := by
  induction a with
  | nil => rfl
  | cons x l ih => simp only [hdrCells, List.flatMap_cons, List.length_append, List.length_cons, List.length_nil] at *; omega
/-- How many words a reader has, off memory. -/
def rdN (w : World) (b : Nat) : Nat := match w.cell? ⟨b, 0, none⟩ with | some (.slice _ n _) => n | _ => 0
theorem rdN_eq {w : World} {rb tb : Nat} {A : Option Addr} {c : Nat} {ws : List Bs} (h : RdAt w rb tb A c ws) : rdN w rb = ws.length := by
  unfold rdN
  rw [show w.cell? ⟨rb, 0, none⟩ = _ from cell_of (i := 0) h.hb rfl]
  rfl
theorem cut_le (s sep : Bs) : (Lib.cut s sep).1.length ≤ s.length ∧ (Lib.cut s sep).2.1.length ≤ s.length := by
  unfold Lib.cut
  split <;> simp <;> omega
set_option maxRecDepth 100000 in
set_option maxHeartbeats 1600000 in
theorem reader_headers {w : World} {rb tb : Nat} {A : Option Addr} {c : Nat} {ws : List Bs} (h : RdAt w rb tb A c ws) (hl : ws.length ≤ 1000000) (hw : ∀ x ∈ ws, x.length ≤ 1000000) (hE : Env w) (hrb : gfree rb) (htb : tb < w.heap.size) :
    Calls Tryd.prog 36 #[.pointer (some ⟨rb, 0, none⟩)] w fun e w' => ∃ v, e = .returned v ∧ w'.ownsRow w.heap.size 100 2 v ws.length (hdrCells (ws.map hdrS)) ∧ Upd [rb] w w' := by
  obtain ⟨i0, hi, hz0, hz1, hz2⟩ := info_parts Tryd.infoHeader
  have hrlt : rb < w.heap.size := (Array.getElem?_eq_some_iff.1 h.hb).1
  have HH := Lib.hid h; have HE := Lib.hid hE; clear h hE
  go_enter Tryd.func36, Tryd.ntmps36
  go_wp2_with fail
  go_loopw [3] (fun v3 wr => ∃ (k : Nat) (A' : Option Addr) (c' : Nat), k ≤ ws.length ∧ RdAt wr rb tb A' c' (ws.drop k) ∧ wr.ownsRow w.heap.size 100 2 v3 k (hdrCells ((ws.take k).map hdrS)) ∧ Upd [rb] w wr) (fun _ wr => rdN wr rb)
  case atStart => exact ⟨0, A, c, by omega, by simpa using HH.out, World.ownsRow_nil _ _ _ _, Upd.refl _ _⟩
  case round =>
    obtain ⟨k, A1, c1, hk, hr, hown, hu⟩ := hrel
    obtain ⟨A3, c3, rfl⟩ := own_slice hown
    have c0 : wr.cell? ⟨rb, 0, none⟩ = some (.slice A1 (ws.length - k) c1) := by rw [← List.length_drop]; exact cell_of (i := 0) hr.hb rfl
    have HR := Lib.hid hr; have HO := Lib.hid hown; have HU := Lib.hid hu; clear hr hown hu
    by_cases hlt : k < ws.length
    · obtain ⟨x, hx⟩ : ∃ x, x = ws[k] := ⟨_, rfl⟩
      have hx0 : (ws.drop k).getD 0 [] = x := by rw [hx, List.drop_eq_getElem_cons hlt]; rfl
      have hxl : x.length ≤ 1000000 := by rw [hx]; exact hw _ (List.getElem_mem hlt)
      have htk : (ws.take (k + 1)).map hdrS = (ws.take k).map hdrS ++ [hdrS x] := by rw [List.take_succ_eq_append_getElem hlt, List.map_append, hx]; rfl
      have HX := Lib.hid hx0; have HT := Lib.hid htk; clear hx hx0 htk
      have hpos : ((ws.length - k : Nat) : Int) > 0 := by omega
      go_wp2_with fail
      refine (reader_word HR.out (by rw [List.length_drop]; omega)).mono ?_
      rintro e w1 ⟨rfl, ⟨A2, c2, hr1⟩, hu1⟩
      rw [HX.out]
      rw [List.drop_drop] at hr1
      have HR1 := Lib.hid hr1; have HU1 := Lib.hid hu1; clear hr1 hu1
      have U1 : Upd [rb] w w1 := HU.out.trans HU1.out (by simp)
      obtain ⟨m, hm⟩ := (HE.out.upd U1 (by simpa using hrb)).m
      have HU2 := Lib.hid U1; clear U1
      go_wp2_with fail
      refine (Tryd.strings_Cut ⟨x.toArray⟩ ⟨#[61]⟩ m _ (by simp [ByteArray.size]; omega) hm).mono ?_
      rintro e w2 ⟨rfl, n2, rfl⟩
      have hcl := cut_le x [61]
      obtain ⟨cu, hcu⟩ : ∃ cu, cu = Lib.cut x [61] := ⟨_, rfl⟩
      have hcu' : Lib.cut (⟨x.toArray⟩ : ByteArray).data.toList (⟨#[61]⟩ : ByteArray).data.toList = cu := hcu.symm
      rw [hcu']
      rw [← hcu] at hcl
      have hhd : hdrS x = (cu.1, (unhexS cu.2.1).getD []) := by rw [hcu]; rfl
      have HH2 := Lib.hid hhd; clear hcu hcu' hhd
      obtain ⟨c1', c2', c3'⟩ := cu
      simp only at hcl
      go_wp2_with fail
      refine (script_bytes _ c2' (by omega)).mono ?_
      rintro e w3 ⟨v, rfl, hv, hvo, hu3⟩
      have HV := Lib.hid hv; clear hv
      have HU3 := Lib.hid ((HU2.out.drewN n2).trans hu3 (by simp)); have HU3' := Lib.hid hu3; clear hu3
      have hs := HV.out.str (P := Tryd.prog) 25 9 5 Tryd.underlying25 Tryd.underlying5 Tryd.underlying9
      have hW3 : Upd [rb] wr w3 := by
        refine (HU1.out.drewN n2).trans HU3'.out (by simp)
      go_wp2_with (at_builtin; refine wpList_append_src _ rfl (.tmp 27) (.tmp 32) 24 rfl w.heap.size 100 i0 (.agg #[.string ⟨#[]⟩, .string ⟨#[]⟩]) 2 32 Tryd.underlying24 hi hz0 hz1 hz2 rfl (by decide) (.slice A3 k c3) k (hdrCells ((ws.take k).map hdrS)) rfl ?q1 (some ⟨w3.heap.size, 0, none⟩) 1 1 [.string ⟨c1'.toArray⟩, .string ⟨((unhexS c2').getD []).toArray⟩] rfl rfl ?q2 (by simp [Value.oneCell']) ?q3 ?q4 ?q5 ?q6)
      case q1 => exact own_upd HO.out (hW3.alloc _) (fun k hk => by have := own_ge HO.out k hk; simp; omega)
      case q2 => exact cellsAt_new _ _ _
      case q3 => unfold maxLen; omega
      case q4 => omega
      case q5 => have := HU3.out.size; simp; omega
      intro v2 w4 hown2 hg2 hat2
      have hge1 := own_ge HO.out
      have hown3 : w4.ownsRow w.heap.size 100 2 v2 (k + 1) (hdrCells ((ws.take (k + 1)).map hdrS)) := by
        rw [HT.out, HH2.out, hdrCells_append]; simpa [hdrCells, List.map_take] using hown2
      have hge2 := own_ge hown3
      have U3 : Upd [rb] w w4 := (HU3.out.alloc _).grown hg2 (fun j hj => .inl (hge1 j hj))
      have HR3 := Lib.hid ((HR1.out.upd (((Upd.refl [] w1).drewN n2).trans HU3'.out (by simp)) (by simp) (by simp)))
      have hF : ∀ x, x < w.heap.size → x ∉ (Value.slice A3 k c3).ownBlock.toList := fun x hx hm => by
        have := hge1 x (by simpa using hm); omega
      have U4 : Upd (Value.slice A3 k c3).ownBlock.toList w3 w4 := ((Upd.refl _ _).alloc _).grown hg2 (fun j hj => .inr (by simp [hj]))
      have HR4 := Lib.hid (HR3.out.upd U4 (hF _ hrlt) (hF _ htb))
      have HO4 := Lib.hid hown3; have HU4 := Lib.hid U3
      have hr4 := rdN_eq HR4.out
      have hr0 := rdN_eq HR.out
      rw [List.length_drop] at hr4 hr0
      have hms : rdN w4 rb < rdN wr rb := by omega
      clear hown2 hg2 hat2 hown3 hge2 U3 U4 hF hr4 hr0
      go_wp2_with fail
      refine ⟨⟨k + 1, _, _, by omega, HR4.out, HO4.out, HU4.out⟩, hms⟩
    · obtain rfl : k = ws.length := by omega
      have hO := HO.out
      rw [List.take_length] at hO
      have HO2 := Lib.hid hO; clear hO
      go_wp2_with fail
      go_ret
      exact ⟨_, rfl, HO2.out, HU.out⟩
end Go.Proofs.YtajoldboafkpdaaDoor
