-- script.reader: contracts.
import Derived.Test.YtajoldboafkpdaaDoorUnhex
import Derived.Test.YtajoldboafkpdaaDoorDigits
import Derived.Test.YtajoldboafkpdaaDoorActs
namespace Go.Proofs.YtajoldboafkpdaaDoor
set_option linter.unusedSimpArgs false
set_option linter.unusedVariables false
open Go.RowKit Go.Lk
/-- Cells that hold texts. -/
def StrsAt (w : World) (A : Option Addr) (ws : List Bs) : Prop := ∀ (j : Nat) (x : Bs), ws[j]? = some x → ∃ ab ao, A = some ⟨ab, ao, none⟩ ∧ w.cell? ⟨ab, ao + j, none⟩ = some (.string ⟨x.toArray⟩)
theorem StrsAt.upd {w w1 : World} {F : List Nat} {A : Option Addr} {ws : List Bs} (h : StrsAt w A ws) (hu : Upd F w w1) (hF : ∀ ab ao, A = some ⟨ab, ao, none⟩ → ab ∉ F) : StrsAt w1 A ws := fun j x hj => by
  obtain ⟨ab, ao, e, hc⟩ := h j x hj
  exact ⟨ab, ao, e, (World.cell?_of_block (hu.block ab (World.block_lt_of_cell? _ _ hc) (hF ab ao e))).trans hc⟩
theorem StrsAt.tail {w : World} {A : Option Addr} {x : Bs} {ws : List Bs} (h : StrsAt w A (x :: ws)) : StrsAt w (A.map (fun a => a.add 1)) ws := fun j y hj => by
  obtain ⟨ab, ao, rfl, hc⟩ := h (j + 1) y (by simpa using hj)
  exact ⟨ab, ao + 1, by simp [add_plain], by rw [show ao + 1 + j = ao + (j + 1) by omega]; exact hc⟩
theorem StrsAt.nil (w : World) (A : Option Addr) : StrsAt w A [] := fun j x hj => by cases hj
/-- A reader at block rb that has the words ws. -/
structure RdAt (w : World) (rb tb : Nat) (A : Option Addr) (c : Nat) (ws : List Bs) : Prop where
  hb : w.heap[rb]? = some (.cells #[.slice A ws.length c] 63 (0, 0))
  at_ : StrsAt w A ws
  cap : ws.length ≤ c
  ne : ∀ ab ao, A = some ⟨ab, ao, none⟩ → ab = tb
  ntb : tb ≠ rb
/-- A reader goes on being one where neither its block nor its words' turn. -/
theorem RdAt.upd {w w1 : World} {rb tb : Nat} {A : Option Addr} {c : Nat} {ws : List Bs} {F : List Nat} (h : RdAt w rb tb A c ws) (hu : Upd F w w1) (h1 : rb ∉ F) (h2 : tb ∉ F) : RdAt w1 rb tb A c ws where
  hb := (hu.block rb (Array.getElem?_eq_some_iff.1 h.hb).1 h1).trans h.hb
  at_ := h.at_.upd hu fun ab ao e => by rw [h.ne ab ao e]; exact h2
  cap := h.cap
  ne := h.ne
  ntb := h.ntb
set_option maxRecDepth 100000 in
theorem reader_word {w : World} {rb tb : Nat} {A : Option Addr} {c : Nat} {ws : List Bs} (h : RdAt w rb tb A c ws) (hl : ws.length ≤ 1000000) :
    Calls Tryd.prog 37 #[.pointer (some ⟨rb, 0, none⟩)] w fun e w' => e = .returned (.string ⟨(ws.getD 0 []).toArray⟩) ∧ (∃ A' c', RdAt w' rb tb A' c' (ws.drop 1)) ∧ Upd [rb] w w' := by
  have c0 : w.cell? ⟨rb, 0, none⟩ = _ := cell_of (i := 0) h.hb rfl
  have f0 : w.frozen? ⟨rb, 0, none⟩ = false := free_of h.hb
  cases ws with
  | nil =>
    go_enter Tryd.func37, Tryd.ntmps37
    go_wp2
    go_ret
    exact ⟨rfl, ⟨A, c, h⟩, Upd.refl _ _⟩
  | cons x ws =>
    obtain ⟨ab, ao, rfl, hc0⟩ := h.at_ 0 x rfl
    rw [Nat.add_zero] at hc0
    have hz : (((x :: ws).length : Int) == 0) = false := by rw [beq_eq_false_iff_ne]; simp only [List.length_cons]; omega
    have HH := Lib.hid h; clear h
    simp only [List.length_cons] at hz hl c0
    by_cases hc1 : c = 1
    · subst hc1
      have hw : ws = [] := by have := HH.out.cap; simp at this; exact this
      subst hw
      go_enter Tryd.func37, Tryd.ntmps37
      go_wp2
      go_ret
      refine ⟨rfl, ⟨_, _, ⟨(heap_setCell_self HH.out.hb _).trans rfl, StrsAt.nil _ _, Nat.le_refl _, HH.out.ne, HH.out.ntb⟩⟩, (Upd.refl _ _).setCell (.inr (by simp)) _⟩
    · go_enter Tryd.func37, Tryd.ntmps37
      go_wp2
      go_ret
      refine ⟨rfl, ⟨_, _, ⟨(heap_setCell_self HH.out.hb _).trans rfl, HH.out.at_.tail.upd (F := [rb]) ((Upd.refl _ _).setCell (.inr (by simp)) _) ?_, ?_, ?_, HH.out.ntb⟩⟩, (Upd.refl _ _).setCell (.inr (by simp)) _⟩
      · intro b2 o2 e
        simp [add_plain] at e
        have := HH.out.ne ab ao rfl
        have := HH.out.ntb
        simp; omega
      · have := HH.out.cap; simp at this ⊢; omega
      · intro b2 o2 e
        simp [add_plain] at e
        have := HH.out.ne ab ao rfl
        omega
end Go.Proofs.YtajoldboafkpdaaDoor
