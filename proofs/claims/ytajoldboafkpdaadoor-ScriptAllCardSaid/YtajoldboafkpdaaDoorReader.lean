-- script.reader: contracts.
-- script.reader.int, .num: contracts.
-- script.reader.headers: contract.
-- script.reader.request: contract.
import Derived.Test.YtajoldboafkpdaaDoorUnhex
import Derived.Test.YtajoldboafkpdaaDoorDigits
import Derived.Test.YtajoldboafkpdaaDoorActs
import Derived.Test.YtajoldboafkpdaaDoorInfoS
import Derived.Test.YtajoldboafkpdaaDoorEnv
import Derived.Test.YtajoldboafkpdaaDoorAgg
namespace Go.Proofs.YtajoldboafkpdaaDoor
set_option linter.unusedSimpArgs false
set_option linter.unusedVariables false
open Go.RowKit Go.Lk
/-- Cells that hold texts. -/
def StrsAt (w : World) (A : Option Addr) (ws : List Bs) : Prop := ∀ (j : Nat) (x : Bs), ws[j]? = some x → ∃ ab ao, A = some ⟨ab, ao, none⟩ ∧ w.cell? ⟨ab, ao + j, none⟩ = some (.string ⟨x.toArray⟩)
theorem StrsAt.upd {w w1 : World} {F : List Nat} {A : Option Addr} {ws : List Bs} (h : StrsAt w A ws) (hu : Upd F w w1) (hF : ∀ ab ao, A = some ⟨ab, ao, none⟩ → ab ∉ F) : StrsAt w1 A ws := fun j x hj => by
  obtain ⟨ab, ao, e, hc⟩ := h j x hj
  exact ⟨ab, ao, e, (World.cell?_of_block (hu.block ab (World.block_lt_of_cell? _ _ hc) (hF ab ao e))).trans hc⟩
theorem StrsAt.tail {w : World} {A : Option Addr} {x : Bs} {ws : List Bs} (h : StrsAt w A (x :: ws)) : StrsAt w (A.map (fun a => a.add 1)) ws := fun j y hj => by
  obtain ⟨ab, ao, rfl, hc⟩ := h (j + 1) y (by simpa using hj)
  exact ⟨ab, ao + 1, by simp [add_plain], by rw [show ao + 1 + j = ao + (j + 1) by omega]; exact hc⟩
theorem StrsAt.nil (w : World) (A : Option Addr) : StrsAt w A [] := fun j x hj => by cases hj
/-- A reader at block rb that has the words ws. -/
structure RdAt (w : World) (rb tb : Nat) (A : Option Addr) (c : Nat) (ws : List Bs) : Prop where
  hb : w.heap[rb]? = some (.cells #[.slice A ws.length c] 63 (0, 0))
  at_ : StrsAt w A ws
  cap : ws.length ≤ c
  ne : ∀ ab ao, A = some ⟨ab, ao, none⟩ → ab = tb
  ntb : tb ≠ rb
/-- A reader goes on being one where neither its block nor its words' turn. -/
theorem RdAt.upd {w w1 : World} {rb tb : Nat} {A : Option Addr} {c : Nat} {ws : List Bs} {F : List Nat} (h : RdAt w rb tb A c ws) (hu : Upd F w w1) (h1 : rb ∉ F) (h2 : tb ∉ F) : RdAt w1 rb tb A c ws where
  hb := (hu.block rb (Array.getElem?_eq_some_iff.1 h.hb).1 h1).trans h.hb
  at_ := h.at_.upd hu fun ab ao e => by rw [h.ne ab ao e]; exact h2
  cap := h.cap
  ne := h.ne
  ntb := h.ntb
set_option maxRecDepth 100000 in
theorem reader_word {w : World} {rb tb : Nat} {A : Option Addr} {c : Nat} {ws : List Bs} (h : RdAt w rb tb A c ws) (hl : ws.length ≤ 1000000) :
    Calls Tryd.prog 37 #[.pointer (some ⟨rb, 0, none⟩)] w fun e w' => e = .returned (.string ⟨(ws.getD 0 []).toArray⟩) ∧ (∃ A' c', RdAt w' rb tb A' c' (ws.drop 1)) ∧ Upd [rb] w w' := by
  have c0 : w.cell? ⟨rb, 0, none⟩ = _ := cell_of (i := 0) h.hb rfl
  have f0 : w.frozen? ⟨rb, 0, none⟩ = false := free_of h.hb
  cases ws with
  | nil =>
    go_enter Tryd.func37, Tryd.ntmps37
    go_wp2
    go_ret
    exact ⟨rfl, ⟨A, c, h⟩, Upd.refl _ _⟩
  | cons x ws =>
    obtain ⟨ab, ao, rfl, hc0⟩ := h.at_ 0 x rfl
    rw [Nat.add_zero] at hc0
    have hz : (((x :: ws).length : Int) == 0) = false := by rw [beq_eq_false_iff_ne]; simp only [List.length_cons]; omega
    have HH := Lib.hid h; clear h
    simp only [List.length_cons] at hz hl c0
    by_cases hc1 : c = 1
    · subst hc1
      have hw : ws = [] := by have := HH.out.cap; simp at this; exact this
      subst hw
      go_enter Tryd.func37, Tryd.ntmps37
      go_wp2
      go_ret
      refine ⟨rfl, ⟨_, _, ⟨(heap_setCell_self HH.out.hb _).trans rfl, StrsAt.nil _ _, Nat.le_refl _, HH.out.ne, HH.out.ntb⟩⟩, (Upd.refl _ _).setCell (.inr (by simp)) _⟩
    · go_enter Tryd.func37, Tryd.ntmps37
      go_wp2
      go_ret
      refine ⟨rfl, ⟨_, _, ⟨(heap_setCell_self HH.out.hb _).trans rfl, HH.out.at_.tail.upd (F := [rb]) ((Upd.refl _ _).setCell (.inr (by simp)) _) ?_, ?_, ?_, HH.out.ntb⟩⟩, (Upd.refl _ _).setCell (.inr (by simp)) _⟩
      · intro b2 o2 e
        simp [add_plain] at e
        have := HH.out.ne ab ao rfl
        have := HH.out.ntb
        simp; omega
      · have := HH.out.cap; simp at this ⊢; omega
      · intro b2 o2 e
        simp [add_plain] at e
        have := HH.out.ne ab ao rfl
        omega
end Go.Proofs.YtajoldboafkpdaaDoor
namespace Go.Proofs.YtajoldboafkpdaaDoor
set_option linter.unusedSimpArgs false
set_option linter.unusedVariables false
open Go.RowKit Go.Lk
theorem reader_num {w : World} {rb tb : Nat} {A : Option Addr} {c : Nat} {ws : List Bs} (h : RdAt w rb tb A c ws) (hl : ws.length ≤ 1000000) (hw : ∀ x ∈ ws, x.length ≤ 1000000) :
    Calls Tryd.prog 35 #[.pointer (some ⟨rb, 0, none⟩)] w fun e w' => e = .returned (.int .u64 ((digitsS (ws.getD 0 [])).1 : Int)) ∧ (∃ A' c', RdAt w' rb tb A' c' (ws.drop 1)) ∧ Upd [rb] w w' := by
  have hx : (ws.getD 0 []).length ≤ 1000000 := by
    cases ws with
    | nil => simp
    | cons x l => exact hw x (by simp)
  have HH := Lib.hid h; clear h
  obtain ⟨x, hx0⟩ : ∃ x, x = ws.getD 0 [] := ⟨_, rfl⟩
  have HX := Lib.hid hx0
  rw [← hx0] at hx ⊢
  clear hx0
  obtain ⟨p, hp⟩ : ∃ p, p = digitsS x := ⟨_, rfl⟩
  have HP := Lib.hid hp
  rw [← hp]
  clear hp
  go_enter Tryd.func35, Tryd.ntmps35
  go_wp2_with fail
  refine (reader_word HH.out hl).mono ?_
  rintro e w1 ⟨rfl, h1, u1⟩
  have H1 := Lib.hid h1; have U1 := Lib.hid u1; clear h1 u1
  rw [← HX.out]
  go_wp2_with fail
  refine (octet_digits x _ hx).mono ?_
  rintro e w2 ⟨rfl, rfl⟩
  rw [← HP.out]
  go_wp2
  go_ret
  exact ⟨rfl, H1.out, U1.out⟩
theorem reader_int {w : World} {rb tb : Nat} {A : Option Addr} {c : Nat} {ws : List Bs} (h : RdAt w rb tb A c ws) (hl : ws.length ≤ 1000000) (hw : ∀ x ∈ ws, x.length ≤ 1000000) :
    Calls Tryd.prog 33 #[.pointer (some ⟨rb, 0, none⟩)] w fun e w' => e = .returned (.int .i64 (intS (ws.getD 0 []))) ∧ (∃ A' c', RdAt w' rb tb A' c' (ws.drop 1)) ∧ Upd [rb] w w' := by
  have hx : (ws.getD 0 []).length ≤ 1000000 := by
    cases ws with
    | nil => simp
    | cons x l => exact hw x (by simp)
  have HH := Lib.hid h; clear h
  obtain ⟨x, hx0⟩ : ∃ x, x = ws.getD 0 [] := ⟨_, rfl⟩
  have HX := Lib.hid hx0
  rw [← hx0] at hx ⊢
  clear hx0
  have hi : intS x = if !(digitsS x).2 ∨ 9223372036854775807 < (digitsS x).1 then -1 else ((digitsS x).1 : Int) := rfl
  rw [hi]
  clear hi
  obtain ⟨p, hp⟩ : ∃ p, p = digitsS x := ⟨_, rfl⟩
  have HP := Lib.hid hp
  rw [← hp]
  clear hp
  go_enter Tryd.func33, Tryd.ntmps33
  go_wp2_with fail
  refine (reader_word HH.out hl).mono ?_
  rintro e w1 ⟨rfl, h1, u1⟩
  have H1 := Lib.hid h1; have U1 := Lib.hid u1; clear h1 u1
  rw [← HX.out]
  go_wp2_with fail
  refine (octet_digits x _ hx).mono ?_
  rintro e w2 ⟨rfl, rfl⟩
  rw [← HP.out]
  obtain ⟨n, ok⟩ := p
  cases ok
  · go_wp2
    go_ret
    exact ⟨by simp, by simpa using H1.out, U1.out⟩
  · by_cases hn : 9223372036854775807 < n
    · go_wp2
      go_ret
      exact ⟨by simp [hn], by simpa using H1.out, U1.out⟩
    · go_wp2
      go_ret
      exact ⟨by simp [hn], by simpa using H1.out, U1.out⟩
end Go.Proofs.YtajoldboafkpdaaDoor
namespace Go.Proofs.YtajoldboafkpdaaDoor
set_option linter.unusedSimpArgs false
set_option linter.unusedVariables false
open Go.RowKit Go.Lk
def hdrCells (l : List (Bs × Bs)) : List Value := l.flatMap fun h => [.string ⟨h.1.toArray⟩, .string ⟨h.2.toArray⟩]
theorem hdrCells_append (a b : List (Bs × Bs)) : hdrCells (a ++ b) = hdrCells a ++ hdrCells b := by simp [hdrCells]
theorem hdrCells_length (a : List (Bs × Bs)) : (hdrCells a).length = a.length * 2 := by
  induction a with
  | nil => rfl
  | cons x l ih => simp only [hdrCells, List.flatMap_cons, List.length_append, List.length_cons, List.length_nil] at *; omega
/-- How many words a reader has, off memory. -/
def rdN (w : World) (b : Nat) : Nat := match w.cell? ⟨b, 0, none⟩ with | some (.slice _ n _) => n | _ => 0
theorem rdN_eq {w : World} {rb tb : Nat} {A : Option Addr} {c : Nat} {ws : List Bs} (h : RdAt w rb tb A c ws) : rdN w rb = ws.length := by
  unfold rdN
  rw [show w.cell? ⟨rb, 0, none⟩ = _ from cell_of (i := 0) h.hb rfl]
  rfl
theorem cut_le (s sep : Bs) : (Lib.cut s sep).1.length ≤ s.length ∧ (Lib.cut s sep).2.1.length ≤ s.length := by
  unfold Lib.cut
  split <;> simp <;> omega
set_option maxRecDepth 100000 in
set_option maxHeartbeats 1600000 in
theorem reader_headers {w : World} {rb tb : Nat} {A : Option Addr} {c : Nat} {ws : List Bs} (h : RdAt w rb tb A c ws) (hl : ws.length ≤ 1000000) (hw : ∀ x ∈ ws, x.length ≤ 1000000) (hE : Env w) (hrb : gfree rb) (htb : tb < w.heap.size) :
    Calls Tryd.prog 36 #[.pointer (some ⟨rb, 0, none⟩)] w fun e w' => ∃ v, e = .returned v ∧ w'.ownsRow w.heap.size 100 2 v ws.length (hdrCells (ws.map hdrS)) ∧ Upd [rb] w w' := by
  obtain ⟨i0, hi, hz0, hz1, hz2⟩ := info_parts Tryd.infoHeader
  have hrlt : rb < w.heap.size := (Array.getElem?_eq_some_iff.1 h.hb).1
  have HH := Lib.hid h; have HE := Lib.hid hE; clear h hE
  go_enter Tryd.func36, Tryd.ntmps36
  go_wp2_with fail
  go_loopw [3] (fun v3 wr => ∃ (k : Nat) (A' : Option Addr) (c' : Nat), k ≤ ws.length ∧ RdAt wr rb tb A' c' (ws.drop k) ∧ wr.ownsRow w.heap.size 100 2 v3 k (hdrCells ((ws.take k).map hdrS)) ∧ Upd [rb] w wr) (fun _ wr => rdN wr rb)
  case atStart => exact ⟨0, A, c, by omega, by simpa using HH.out, World.ownsRow_nil _ _ _ _, Upd.refl _ _⟩
  case round =>
    obtain ⟨k, A1, c1, hk, hr, hown, hu⟩ := hrel
    obtain ⟨A3, c3, rfl⟩ := own_slice hown
    have c0 : wr.cell? ⟨rb, 0, none⟩ = some (.slice A1 (ws.length - k) c1) := by rw [← List.length_drop]; exact cell_of (i := 0) hr.hb rfl
    have HR := Lib.hid hr; have HO := Lib.hid hown; have HU := Lib.hid hu; clear hr hown hu
    by_cases hlt : k < ws.length
    · obtain ⟨x, hx⟩ : ∃ x, x = ws[k] := ⟨_, rfl⟩
      have hx0 : (ws.drop k).getD 0 [] = x := by rw [hx, List.drop_eq_getElem_cons hlt]; rfl
      have hxl : x.length ≤ 1000000 := by rw [hx]; exact hw _ (List.getElem_mem hlt)
      have htk : (ws.take (k + 1)).map hdrS = (ws.take k).map hdrS ++ [hdrS x] := by rw [List.take_succ_eq_append_getElem hlt, List.map_append, hx]; rfl
      have HX := Lib.hid hx0; have HT := Lib.hid htk; clear hx hx0 htk
      have hpos : ((ws.length - k : Nat) : Int) > 0 := by omega
      go_wp2_with fail
      refine (reader_word HR.out (by rw [List.length_drop]; omega)).mono ?_
      rintro e w1 ⟨rfl, ⟨A2, c2, hr1⟩, hu1⟩
      rw [HX.out]
      rw [List.drop_drop] at hr1
      have HR1 := Lib.hid hr1; have HU1 := Lib.hid hu1; clear hr1 hu1
      have U1 : Upd [rb] w w1 := HU.out.trans HU1.out (by simp)
      obtain ⟨m, hm⟩ := (HE.out.upd U1 (by simpa using hrb)).m
      have HU2 := Lib.hid U1; clear U1
      go_wp2_with fail
      refine (Tryd.strings_Cut ⟨x.toArray⟩ ⟨#[61]⟩ m _ (by simp [ByteArray.size]; omega) hm).mono ?_
      rintro e w2 ⟨rfl, n2, rfl⟩
      have hcl := cut_le x [61]
      obtain ⟨cu, hcu⟩ : ∃ cu, cu = Lib.cut x [61] := ⟨_, rfl⟩
      have hcu' : Lib.cut (⟨x.toArray⟩ : ByteArray).data.toList (⟨#[61]⟩ : ByteArray).data.toList = cu := hcu.symm
      rw [hcu']
      rw [← hcu] at hcl
      have hhd : hdrS x = (cu.1, (unhexS cu.2.1).getD []) := by rw [hcu]; rfl
      have HH2 := Lib.hid hhd; clear hcu hcu' hhd
      obtain ⟨c1', c2', c3'⟩ := cu
      simp only at hcl
      go_wp2_with fail
      refine (script_bytes _ c2' (by omega)).mono ?_
      rintro e w3 ⟨v, rfl, hv, hvo, hu3⟩
      have HV := Lib.hid hv; clear hv
      have HU3 := Lib.hid ((HU2.out.drewN n2).trans hu3 (by simp)); have HU3' := Lib.hid hu3; clear hu3
      have hs := HV.out.str (P := Tryd.prog) 25 9 5 Tryd.underlying25 Tryd.underlying5 Tryd.underlying9
      have hW3 : Upd [rb] wr w3 := by
        refine (HU1.out.drewN n2).trans HU3'.out (by simp)
      go_wp2_with (at_builtin; refine wpList_append_src _ rfl (.tmp 27) (.tmp 32) 24 rfl w.heap.size 100 i0 (.agg #[.string ⟨#[]⟩, .string ⟨#[]⟩]) 2 32 Tryd.underlying24 hi hz0 hz1 hz2 rfl (by decide) (.slice A3 k c3) k (hdrCells ((ws.take k).map hdrS)) rfl ?q1 (some ⟨w3.heap.size, 0, none⟩) 1 1 [.string ⟨c1'.toArray⟩, .string ⟨((unhexS c2').getD []).toArray⟩] rfl rfl ?q2 (by simp [Value.oneCell']) ?q3 ?q4 ?q5 ?q6)
      case q1 => exact own_upd HO.out (hW3.alloc _) (fun k hk => by have := own_ge HO.out k hk; simp; omega)
      case q2 => exact cellsAt_new _ _ _
      case q3 => unfold maxLen; omega
      case q4 => omega
      case q5 => have := HU3.out.size; simp; omega
      intro v2 w4 hown2 hg2 hat2
      have hge1 := own_ge HO.out
      have hown3 : w4.ownsRow w.heap.size 100 2 v2 (k + 1) (hdrCells ((ws.take (k + 1)).map hdrS)) := by
        rw [HT.out, HH2.out, hdrCells_append]; simpa [hdrCells, List.map_take] using hown2
      have hge2 := own_ge hown3
      have U3 : Upd [rb] w w4 := (HU3.out.alloc _).grown hg2 (fun j hj => .inl (hge1 j hj))
      have HR3 := Lib.hid ((HR1.out.upd (((Upd.refl [] w1).drewN n2).trans HU3'.out (by simp)) (by simp) (by simp)))
      have hF : ∀ x, x < w.heap.size → x ∉ (Value.slice A3 k c3).ownBlock.toList := fun x hx hm => by
        have := hge1 x (by simpa using hm); omega
      have U4 : Upd (Value.slice A3 k c3).ownBlock.toList w3 w4 := ((Upd.refl _ _).alloc _).grown hg2 (fun j hj => .inr (by simp [hj]))
      have HR4 := Lib.hid (HR3.out.upd U4 (hF _ hrlt) (hF _ htb))
      have HO4 := Lib.hid hown3; have HU4 := Lib.hid U3
      have hr4 := rdN_eq HR4.out
      have hr0 := rdN_eq HR.out
      rw [List.length_drop] at hr4 hr0
      have hms : rdN w4 rb < rdN wr rb := by omega
      clear hown2 hg2 hat2 hown3 hge2 U3 U4 hF hr4 hr0
      go_wp2_with fail
      refine ⟨⟨k + 1, _, _, by omega, HR4.out, HO4.out, HU4.out⟩, hms⟩
    · obtain rfl : k = ws.length := by omega
      have hO := HO.out
      rw [List.take_length] at hO
      have HO2 := Lib.hid hO; clear hO
      go_wp2_with fail
      go_ret
      exact ⟨_, rfl, HO2.out, HU.out⟩
end Go.Proofs.YtajoldboafkpdaaDoor
namespace Go.Proofs.YtajoldboafkpdaaDoor
set_option linter.unusedSimpArgs false
set_option linter.unusedVariables false
open Go.RowKit Go.Lk
def Rd (w : World) (rb tb : Nat) (ws : List Bs) : Prop := ∃ A c, RdAt w rb tb A c ws
theorem Rd.upd {w w1 : World} {rb tb : Nat} {ws : List Bs} {F : List Nat} (h : Rd w rb tb ws) (hu : Upd F w w1) (h1 : rb ∉ F) (h2 : tb ∉ F) : Rd w1 rb tb ws := by
  obtain ⟨A, c, h⟩ := h
  exact ⟨A, c, h.upd hu h1 h2⟩
theorem Rd.lt {w : World} {rb tb : Nat} {ws : List Bs} (h : Rd w rb tb ws) : rb < w.heap.size := by
  obtain ⟨A, c, h⟩ := h
  exact (Array.getElem?_eq_some_iff.1 h.hb).1
theorem drop_getD (ws : List Bs) (i : Nat) : (ws.drop i).getD 0 [] = wd ws i := by simp [wd, List.getD]
/-- What a reader's words are at most. -/
def RdLim (ws : List Bs) : Prop := ws.length ≤ 1000000 ∧ ∀ x ∈ ws, x.length ≤ 1000000
theorem RdLim.drop {ws : List Bs} (h : RdLim ws) (i : Nat) : (ws.drop i).length ≤ 1000000 ∧ ∀ x ∈ ws.drop i, x.length ≤ 1000000 :=
  ⟨by rw [List.length_drop]; have := h.1; omega, fun x hx => h.2 x (List.mem_of_mem_drop hx)⟩
theorem wd_len {ws : List Bs} (h : RdLim ws) (i : Nat) : (wd ws i).length ≤ 1000000 := by
  unfold wd
  rw [List.getD_eq_getElem?_getD]
  cases hi : ws[i]? with
  | none => simp
  | some x => exact h.2 x (List.mem_of_getElem? hi)
theorem word_at {w : World} {rb tb : Nat} {ws : List Bs} (i : Nat) (h : Rd w rb tb (ws.drop i)) (hl : RdLim ws) :
    Calls Tryd.prog 37 #[.pointer (some ⟨rb, 0, none⟩)] w fun e w' => e = .returned (.string ⟨(wd ws i).toArray⟩) ∧ Rd w' rb tb (ws.drop (i + 1)) ∧ Upd [rb] w w' := by
  obtain ⟨A, c, h⟩ := h
  refine (reader_word h (hl.drop i).1).mono ?_
  rintro e w' ⟨rfl, h2, h3⟩
  rw [drop_getD, List.drop_drop] at *
  exact ⟨rfl, h2, h3⟩
theorem int_at {w : World} {rb tb : Nat} {ws : List Bs} (i : Nat) (h : Rd w rb tb (ws.drop i)) (hl : RdLim ws) :
    Calls Tryd.prog 33 #[.pointer (some ⟨rb, 0, none⟩)] w fun e w' => e = .returned (.int .i64 (intS (wd ws i))) ∧ Rd w' rb tb (ws.drop (i + 1)) ∧ Upd [rb] w w' := by
  obtain ⟨A, c, h⟩ := h
  refine (reader_int h (hl.drop i).1 (hl.drop i).2).mono ?_
  rintro e w' ⟨rfl, h2, h3⟩
  rw [drop_getD, List.drop_drop] at *
  exact ⟨rfl, h2, h3⟩
theorem num_at {w : World} {rb tb : Nat} {ws : List Bs} (i : Nat) (h : Rd w rb tb (ws.drop i)) (hl : RdLim ws) :
    Calls Tryd.prog 35 #[.pointer (some ⟨rb, 0, none⟩)] w fun e w' => e = .returned (.int .u64 ((digitsS (wd ws i)).1 : Int)) ∧ Rd w' rb tb (ws.drop (i + 1)) ∧ Upd [rb] w w' := by
  obtain ⟨A, c, h⟩ := h
  refine (reader_num h (hl.drop i).1 (hl.drop i).2).mono ?_
  rintro e w' ⟨rfl, h2, h3⟩
  rw [drop_getD, List.drop_drop] at *
  exact ⟨rfl, h2, h3⟩
theorem headers_at {w : World} {rb tb : Nat} {ws : List Bs} (i : Nat) (h : Rd w rb tb (ws.drop i)) (hl : RdLim ws) (hE : Env w) (hrb : gfree rb) (htb : tb < w.heap.size) :
    Calls Tryd.prog 36 #[.pointer (some ⟨rb, 0, none⟩)] w fun e w' => ∃ v, e = .returned v ∧ w'.ownsRow w.heap.size 100 2 v (ws.drop i).length (hdrCells ((ws.drop i).map hdrS)) ∧ Upd [rb] w w' := by
  obtain ⟨A, c, h⟩ := h
  exact reader_headers h (hl.drop i).1 (hl.drop i).2 hE hrb htb
set_option maxRecDepth 100000 in
set_option maxHeartbeats 1600000 in
theorem reader_request {w : World} {rb tb : Nat} {ws : List Bs} (h : Rd w rb tb ws) (hl : RdLim ws) (hE : Env w) (hrb : gfree rb) (htb : tb < w.heap.size) :
    Calls Tryd.prog 34 #[.pointer (some ⟨rb, 0, none⟩)] w fun e w' => ∃ vh, e = .returned (reqV (reqS ws) vh) ∧ w'.ownsRow w.heap.size 100 2 vh (reqS ws).headers.length (hdrCells (reqS ws).headers) ∧ Upd [rb] w w' := by
  have h0 : Rd w rb tb (ws.drop 0) := h
  have hlt := h.lt
  have HH := Lib.hid h0; have HE := Lib.hid hE; clear h h0 hE
  obtain ⟨r, hr⟩ : ∃ r, r = reqS ws := ⟨_, rfl⟩
  have HR := Lib.hid hr
  rw [← hr]
  clear hr
  go_enter Tryd.func34, Tryd.ntmps34
  go_wp2_with fail
  obtain ⟨wa, hwa⟩ : ∃ x, x = w.alloc (.cells #[.string ⟨#[]⟩, .string ⟨#[]⟩, .string ⟨#[]⟩, .int .i64 0, .bool false, .slice none 0 0, .int .i64 0, .int .u64 0, .int .i64 0, .int .i64 0] 27) := ⟨_, rfl⟩
  rw [← hwa]
  have haa := heap_alloc_self (w := w) (.cells #[.string ⟨#[]⟩, .string ⟨#[]⟩, .string ⟨#[]⟩, .int .i64 0, .bool false, .slice none 0 0, .int .i64 0, .int .u64 0, .int .i64 0, .int .i64 0] 27)
  rw [← hwa] at haa
  have hua : Upd [] w wa := by rw [hwa]; exact (Upd.refl [] w).alloc _
  have hsa : wa.heap.size = w.heap.size + 1 := by rw [hwa]; simp
  have HAA := Lib.hid haa; have HUA := Lib.hid hua; clear haa hua hwa
  refine (word_at 0 (HH.out.upd HUA.out (by simp) (by simp)) hl).mono ?_
  rintro e w1 ⟨rfl, hr1, u1⟩
  have H1 := Lib.hid hr1; have U1 := Lib.hid u1; clear hr1 u1
  go_wp2_with fail
  refine (word_at 1 H1.out hl).mono ?_
  rintro e w2 ⟨rfl, hr1, u1⟩
  have H2 := Lib.hid hr1; have U2 := Lib.hid (U1.out.trans u1 (by simp)); clear hr1 u1
  go_wp2_with fail
  refine (word_at 2 H2.out hl).mono ?_
  rintro e w3 ⟨rfl, hr1, u1⟩
  have H3 := Lib.hid hr1; have U3 := Lib.hid (U2.out.trans u1 (by simp)); clear hr1 u1
  go_wp2_with fail
  refine (int_at 3 H3.out hl).mono ?_
  rintro e w4 ⟨rfl, hr1, u1⟩
  have H4 := Lib.hid hr1; have U4 := Lib.hid (U3.out.trans u1 (by simp)); clear hr1 u1
  go_wp2_with fail
  generalize hb3 : w4.heap.size = b3
  have hb3' : rb ≠ b3 := by have := U4.out.size; omega
  have htb3 : tb ≠ b3 := by have := U4.out.size; omega
  have h4h := heap_alloc_self (w := w4) (.cells #[.string ⟨(wd ws 0).toArray⟩, .string ⟨(wd ws 1).toArray⟩, .string ⟨(wd ws 2).toArray⟩, .int .i64 (intS (wd ws 3)), .bool false, .slice none 0 0, .int .i64 0, .int .u64 0, .int .i64 0, .int .i64 0] 27)
  rw [hb3] at h4h
  have H4h := Lib.hid h4h; have HB3 := Lib.hid hb3; clear h4h hb3
  refine (word_at 4 (H4.out.upd ((Upd.refl [] w4).alloc _) (by simp) (by simp)) hl).mono ?_
  rintro e w5 ⟨rfl, hr1, u1⟩
  have h5h := (u1.block b3 (Array.getElem?_eq_some_iff.1 H4h.out).1 (by simp; omega)).trans H4h.out
  have H5 := Lib.hid hr1; have U5 := Lib.hid ((U4.out.alloc _).trans u1 (by simp)); clear hr1 u1
  have c4 := cell_of (i := 4) h5h rfl
  have f4 : w5.frozen? ⟨b3, 4, none⟩ = false := free_of h5h
  have H5h := Lib.hid h5h; clear h5h
  simp only [List.getElem_toArray, List.getElem_cons_succ, List.getElem_cons_zero] at c4
  go_wp2_with fail
  have hb3w : wa.heap.size ≤ b3 := by rw [← HB3.out]; exact U4.out.size
  have h5s := (heap_setCell_self H5h.out (.bool (wd ws 4 == [49])) (i := 4)).trans rfl
  have U5' := Lib.hid (U5.out.setCell (p := ⟨b3, 4, none⟩) (.inl hb3w) (.bool (wd ws 4 == [49])))
  have R5 := Lib.hid (H5.out.upd ((Upd.refl [b3] w5).setCell (p := ⟨b3, 4, none⟩) (.inr (by simp)) (.bool (wd ws 4 == [49]))) (by simp; omega) (by simp; omega))
  have H5s := Lib.hid h5s; clear h5s c4 f4
  refine (int_at 5 R5.out hl).mono ?_
  rintro e w6 ⟨rfl, hr1, u1⟩
  have H6 := Lib.hid hr1; have V6 := Lib.hid u1; clear hr1 u1
  go_wp2_with fail
  refine (num_at 6 H6.out hl).mono ?_
  rintro e w7 ⟨rfl, hr1, u1⟩
  have H7 := Lib.hid hr1; have V7 := Lib.hid (V6.out.trans u1 (by simp)); clear hr1 u1
  go_wp2_with fail
  refine (int_at 7 H7.out hl).mono ?_
  rintro e w8 ⟨rfl, hr1, u1⟩
  have H8 := Lib.hid hr1; have V8 := Lib.hid (V7.out.trans u1 (by simp)); clear hr1 u1
  go_wp2_with fail
  refine (int_at 8 H8.out hl).mono ?_
  rintro e w9 ⟨rfl, hr1, u1⟩
  have H9 := Lib.hid hr1; have V9 := Lib.hid (V8.out.trans u1 (by simp)); clear hr1 u1
  have h9h := (V9.out.block b3 (Array.getElem?_eq_some_iff.1 H5s.out).1 (by simp; omega)).trans H5s.out
  have c6 := cell_of (i := 6) h9h rfl
  have f6 : w9.frozen? ⟨b3, 6, none⟩ = false := free_of h9h
  have c7 := cell_of (i := 7) h9h rfl
  have f7 : w9.frozen? ⟨b3, 7, none⟩ = false := free_of h9h
  have c8 := cell_of (i := 8) h9h rfl
  have f8 : w9.frozen? ⟨b3, 8, none⟩ = false := free_of h9h
  have c9 := cell_of (i := 9) h9h rfl
  have f9 : w9.frozen? ⟨b3, 9, none⟩ = false := free_of h9h
  have H9h := Lib.hid h9h; clear h9h
  go_wp2_with fail
  have uS := ((((Upd.refl [b3] w9).setCell (p := ⟨b3, 6, none⟩) (.inr (by simp)) (.int .i64 (intS (wd ws 5)))).setCell (p := ⟨b3, 7, none⟩) (.inr (by simp)) (.int .u64 ((digitsS (wd ws 6)).1 : Int))).setCell (p := ⟨b3, 8, none⟩) (.inr (by simp)) (.int .i64 (intS (wd ws 7)))).setCell (p := ⟨b3, 9, none⟩) (.inr (by simp)) (.int .i64 (intS (wd ws 8)))
  have hS := heap_setCell_self (i := 9) (heap_setCell_self (i := 8) (heap_setCell_self (i := 7) (heap_setCell_self (i := 6) H9h.out (.int .i64 (intS (wd ws 5)))) (.int .u64 ((digitsS (wd ws 6)).1 : Int))) (.int .i64 (intS (wd ws 7)))) (.int .i64 (intS (wd ws 8)))
  have US := Lib.hid ((U5'.out.trans V9.out (by simp)).trans uS (by simp; omega))
  have R9 := Lib.hid (H9.out.upd uS (by simp; omega) (by simp; omega))
  have HS := Lib.hid hS; clear hS uS c6 f6 c7 f7 c8 f8 c9 f9
  have htb9 := US.out.size
  refine (headers_at 9 R9.out hl ((HE.out.upd0 HUA.out).upd US.out (by simpa using hrb)) hrb (by omega)).mono ?_
  rintro e w10 ⟨v, rfl, hown, u10⟩
  have h10 := (u10.block b3 (Array.getElem?_eq_some_iff.1 HS.out).1 (by simp; omega)).trans HS.out
  have U10 := Lib.hid (US.out.trans u10 (by simp)); clear u10
  have haa := (U10.out.block w.heap.size (by omega) (by simp; omega)).trans HAA.out
  obtain ⟨Av, cv, rfl⟩ := own_slice hown
  have HO := Lib.hid hown; clear hown
  have c5 := cell_of (i := 5) h10 rfl
  have f5 : w10.frozen? ⟨b3, 5, none⟩ = false := free_of h10
  have h10b := (heap_setCell_self h10 (.slice Av (ws.drop 9).length cv) (i := 5)).trans rfl
  have U11 := Lib.hid ((Upd.refl [b3] w10).setCell (p := ⟨b3, 5, none⟩) (.inr (by simp)) (.slice Av (ws.drop 9).length cv))
  have hab := (U11.out.block w.heap.size (Array.getElem?_eq_some_iff.1 haa).1 (by simp; omega)).trans haa
  rw [List.length_drop] at h10b hab
  have HB := Lib.hid h10b; have HAB := Lib.hid hab; clear h10b hab haa
  have H10 := Lib.hid h10; clear h10
  have hag : aggOf Tryd.prog 27 10 = true := by kernel_rfl
  have hLb : LiesAt (w10.setCell ⟨b3, 5, none⟩ (.slice Av (ws.length - 9) cv)) b3 0 [.string ⟨(wd ws 0).toArray⟩, .string ⟨(wd ws 1).toArray⟩, .string ⟨(wd ws 2).toArray⟩, .int .i64 (intS (wd ws 3)), .bool (wd ws 4 == [49]), .slice Av (ws.length - 9) cv, .int .i64 (intS (wd ws 5)), .int .u64 ((digitsS (wd ws 6)).1 : Int), .int .i64 (intS (wd ws 7)), .int .i64 (intS (wd ws 8))] := LiesAt.of_block HB.out
  have hsr : ∃ T0, (w10.setCell ⟨b3, 5, none⟩ (.slice Av (ws.length - 9) cv)).heap[w.heap.size]? = some (.cells #[.string ⟨#[]⟩, .string ⟨#[]⟩, .string ⟨#[]⟩, .int .i64 0, .bool false, .slice none 0 0, .int .i64 0, .int .u64 0, .int .i64 0, .int .i64 0] T0 (0, 0)) := ⟨_, HAB.out⟩
  obtain ⟨T0, hsr⟩ := hsr
  have hcs1 : ∃ cs : List Value, cs = [.string ⟨(wd ws 0).toArray⟩, .string ⟨(wd ws 1).toArray⟩, .string ⟨(wd ws 2).toArray⟩, .int .i64 (intS (wd ws 3)), .bool (wd ws 4 == [49]), .slice Av (ws.length - 9) cv, .int .i64 (intS (wd ws 5)), .int .u64 ((digitsS (wd ws 6)).1 : Int), .int .i64 (intS (wd ws 7)), .int .i64 (intS (wd ws 8))] := ⟨_, rfl⟩
  obtain ⟨cs, hcs⟩ := hcs1
  rw [← hcs] at hLb
  have hcn : cs.length = 10 := by rw [hcs]; rfl
  have hc1 : ∀ v ∈ cs, v.oneCell' = true := by rw [hcs]; simp [Value.oneCell']
  have hst := run_storeCells_all (P := Tryd.prog) _ hsr (by rw [hcn]; rfl) hc1
  have hcm : aggOf Tryd.prog 27 cs.length = true := by rw [hcn]; exact hag
  have HCS := Lib.hid hcs; have HSR := Lib.hid hsr; have HLB := Lib.hid hLb; have HCM := Lib.hid hcm
  clear hcs hLb hsr hag hc1 hcm
  go_wp2_with (refine wpList_load_lies _ rfl 27 (.tmp 3) rfl b3 0 cs rfl HCM.out HLB.out ?_)
  refine bodyPost_ret (v := .agg cs.toArray) ?_ rfl ?_
  · refine run_results_cell _ Tryd.results34 (b := w.heap.size) (o := 0) rfl HCM.out (LiesAt.of_block (setRow_heap _ _ _ _ _ _ HSR.out))
  have hb4 : (wd ws 4 == [49]) = decide (wd ws 4 = [49]) := by rw [Bool.eq_iff_iff]; simp
  have hr : r = reqS ws := HR.out
  have hown : w10.ownsRow w.heap.size 100 2 (.slice Av (ws.length - 9) cv) r.headers.length (hdrCells r.headers) := by
    rw [hr]
    have hs9 : w.heap.size ≤ (((((w9.setCell ⟨b3, 6, none⟩ (.int .i64 (intS (wd ws 5)))).setCell ⟨b3, 7, none⟩ (.int .u64 ((digitsS (wd ws 6)).1 : Int))).setCell ⟨b3, 8, none⟩ (.int .i64 (intS (wd ws 7)))).setCell ⟨b3, 9, none⟩ (.int .i64 (intS (wd ws 8))))).heap.size := by omega
    have h := own_weaken HO.out hs9
    rw [List.length_drop] at h
    show w10.ownsRow w.heap.size 100 2 (.slice Av (ws.length - 9) cv) ((ws.drop 9).map hdrS).length (hdrCells ((ws.drop 9).map hdrS))
    rw [List.length_map, List.length_drop]
    exact h
  refine ⟨.slice Av (ws.length - 9) cv, ?_, ?_, ?_⟩
  · rw [HCS.out, hr]
    simp only [reqV, reqS, hb4]
  · refine own_upd hown (((Upd.refl [w.heap.size, b3] w10).setCell (.inr (by simp)) _).setRow (.inr (by simp)) _) (fun k hk => ?_)
    have h1 := own_ge HO.out k (by rw [List.length_drop]; exact hk)
    simp only [World.size_setCell] at h1
    have h2 := (Array.getElem?_eq_some_iff.1 H9h.out).1
    simp; omega
  · have U12 : Upd [rb] w w10 := HUA.out.trans_of U10.out
    exact (U12.setCell (.inl (by simp; omega)) _).setRow (.inl (Nat.le_refl _)) _
end Go.Proofs.YtajoldboafkpdaaDoor
