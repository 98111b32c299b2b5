-- script.reader.int, .num: contracts.
import Derived.Test.YtajoldboafkpdaaDoorReader
namespace Go.Proofs.YtajoldboafkpdaaDoor
set_option linter.unusedSimpArgs false
set_option linter.unusedVariables false
open Go.RowKit Go.Lk
theorem reader_num {w : World} {rb tb : Nat} {A : Option Addr} {c : Nat} {ws : List Bs} (h : RdAt w rb tb A c ws) (hl : ws.length ≤ 1000000) (hw : ∀ x ∈ ws, x.length ≤ 1000000) :
    Calls Tryd.prog 35 #[.pointer (some ⟨rb, 0, none⟩)] w fun e w' => e = .returned (.int .u64 ((digitsS (ws.getD 0 [])).1 : Int)) ∧ (∃ A' c', RdAt w' rb tb A' c' (ws.drop 1)) ∧ Upd [rb] w w' := by
  have hx : (ws.getD 0 []).length ≤ 1000000 := by
    cases ws with
    | nil => simp
    | cons x l => exact hw x (by simp)
  have HH := Lib.hid h; clear h
  obtain ⟨x, hx0⟩ : ∃ x, x = ws.getD 0 [] := ⟨_, rfl⟩
  have HX := Lib.hid hx0
  rw [← hx0] at hx ⊢
  clear hx0
  obtain ⟨p, hp⟩ : ∃ p, p = digitsS x := ⟨_, rfl⟩
  have HP := Lib.hid hp
  rw [← hp]
  clear hp
  go_enter Tryd.func35, Tryd.ntmps35
  go_wp2_with fail
  refine (reader_word HH.out hl).mono ?_
  rintro e w1 ⟨rfl, h1, u1⟩
  have H1 := Lib.hid h1; have U1 := Lib.hid u1; clear h1 u1
  rw [← HX.out]
  go_wp2_with fail
  refine (octet_digits x _ hx).mono ?_
  rintro e w2 ⟨rfl, rfl⟩
  rw [← HP.out]
  go_wp2
  go_ret
  exact ⟨rfl, H1.out, U1.out⟩
theorem reader_int {w : World} {rb tb : Nat} {A : Option Addr} {c : Nat} {ws : List Bs} (h : RdAt w rb tb A c ws) (hl : ws.length ≤ 1000000) (hw : ∀ x ∈ ws, x.length ≤ 1000000) :
    Calls Tryd.prog 33 #[.pointer (some ⟨rb, 0, none⟩)] w fun e w' => e = .returned (.int .i64 (intS (ws.getD 0 []))) ∧ (∃ A' c', RdAt w' rb tb A' c' (ws.drop 1)) ∧ Upd [rb] w w' := by
  have hx : (ws.getD 0 []).length ≤ 1000000 := by
    cases ws with
    | nil => simp
    | cons x l => exact hw x (by simp)
  have HH := Lib.hid h; clear h
  obtain ⟨x, hx0⟩ : ∃ x, x = ws.getD 0 [] := ⟨_, rfl⟩
  have HX := Lib.hid hx0
  rw [← hx0] at hx ⊢
  clear hx0
  have hi : intS x = if !(digitsS x).2 ∨ 9223372036854775807 < (digitsS x).1 then -1 else ((digitsS x).1 : Int) := rfl
  rw [hi]
  clear hi
  obtain ⟨p, hp⟩ : ∃ p, p = digitsS x := ⟨_, rfl⟩
  have HP := Lib.hid hp
  rw [← hp]
  clear hp
  go_enter Tryd.func33, Tryd.ntmps33
  go_wp2_with fail
  refine (reader_word HH.out hl).mono ?_
  rintro e w1 ⟨rfl, h1, u1⟩
  have H1 := Lib.hid h1; have U1 := Lib.hid u1; clear h1 u1
  rw [← HX.out]
  go_wp2_with fail
  refine (octet_digits x _ hx).mono ?_
  rintro e w2 ⟨rfl, rfl⟩
  rw [← HP.out]
  obtain ⟨n, ok⟩ := p
  cases ok
  · go_wp2
    go_ret
    exact ⟨by simp, by simpa using H1.out, U1.out⟩
  · by_cases hn : 9223372036854775807 < n
    · go_wp2
      go_ret
      exact ⟨by simp [hn], by simpa using H1.out, U1.out⟩
    · go_wp2
      go_ret
      exact ⟨by simp [hn], by simpa using H1.out, U1.out⟩
end Go.Proofs.YtajoldboafkpdaaDoor
