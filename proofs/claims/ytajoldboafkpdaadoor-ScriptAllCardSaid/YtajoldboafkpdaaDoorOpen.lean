-- What came in, as lists: slices of whatever elements (nested, too). Of no program.
import Derived.Test.YtajoldboafkpdaaDoorBase
import Derived.ProofKit
import Derived.OpenShut
import Derived.ShutString
import Derived.Deep.Slices
set_option linter.unusedSimpArgs false
namespace Go.Lk
set_option linter.unusedVariables false
open Go.RowKit Go.Deep
/-- The value 'v' is a slice whose elements (of 'sz' cells each) read as 'l'. -/
def SliceR {α : Type} (w : World) (sz : Nat) (R : List Value → α → Prop) (v : Value) (l : List α) : Prop :=
  ∃ A c, v = .slice A l.length c ∧ l.length ≤ c ∧ ∀ j x, l[j]? = some x → ∃ ab ao, A = some ⟨ab, ao, none⟩ ∧ ∃ cs, cs.length = sz ∧ (∀ i u, cs[i]? = some u → w.cell? ⟨ab, ao + (j * sz + i), none⟩ = some u) ∧ R cs x
theorem list_of {α : Type} {P : Nat → α → Prop} : ∀ n, (∀ i, i < n → ∃ x, P i x) → ∃ l : List α, l.length = n ∧ ∀ i x, l[i]? = some x → P i x
  | 0, _ => ⟨[], rfl, fun i x h => by cases h⟩
  | n + 1, h => by
    obtain ⟨l, hl, hp⟩ := list_of n (fun i hi => h i (by omega))
    obtain ⟨x, hx⟩ := h n (by omega)
    refine ⟨l ++ [x], by simp [hl], fun i y hy => ?_⟩
    rcases Nat.lt_trichotomy i n with hi | hi | hi
    · rw [List.getElem?_append_left (by omega)] at hy; exact hp i y hy
    · subst hi
      rw [List.getElem?_append_right (by omega)] at hy
      have : x = y := by simpa [hl] using hy
      subst this; exact hx
    · rw [List.getElem?_eq_none (by simp; omega)] at hy; cases hy
section
variable {H : Type} {enc : TypeId × Value → H} {P : Program} {w : World} {spare : Nat → Bool} {held : Bool}
theorem open_sliceR {α : Type} {R : List Value → α → Prop} {t e : TypeId} {fuel : Nat} {cs : List Value} {x : DataW H × List MemPlace} (ht : P.underlying t = some (.slice e)) (sz : Nat) (hsz : P.cellsOf e = sz) (h0 : 0 < sz)
    (helt : ∀ n cs' d, DataW.trod enc P w 0 spare held n e cs' = some d → ∃ y, R cs' y) (h : DataW.trod enc P w 0 spare held fuel t cs = some x) : ∃ v l, cs = [v] ∧ SliceR w sz R v l := by
  rcases open_slice ht h with ⟨rfl, _⟩ | ⟨a, len, cap, m, n, D, Pl, rfl, _, hl, _, hm, _, hel⟩
  · exact ⟨_, [], rfl, none, 0, rfl, Nat.le_refl _, fun j x hj => by cases hj⟩
  · have hlm : len ≤ m := by rw [hm]; split <;> omega
    obtain ⟨l, hll, hp⟩ := list_of (P := fun j y => ∃ ab ao, (some a : Option Addr) = some ⟨ab, ao, none⟩ ∧ ∃ cs, cs.length = sz ∧ (∀ i u, cs[i]? = some u → w.cell? ⟨ab, ao + (j * sz + i), none⟩ = some u) ∧ R cs y) len (fun i hi => by
      obtain ⟨cs', h1, h2⟩ := hel i (by omega)
      obtain ⟨y, hy⟩ := helt _ _ _ h2
      obtain ⟨_, hlen, hc⟩ := World.cells?_some h1
      rw [hsz] at hlen hc
      obtain ⟨b, off, spot⟩ := a
      have hspot : spot = none ∨ i * sz ≠ 0 := by
        by_cases hz : i * sz = 0
        · left
          have hc0 := hc 0 h0
          rw [hz] at hc0
          have hs : ∃ u, cs'[0]? = some u := ⟨cs'[0]'(by omega), by simp⟩
          obtain ⟨u, hu⟩ := hs
          rw [hu] at hc0
          simpa [Addr.add] using World.cell?_spot hc0
        · exact .inr hz
      have hspot' : spot = none := by
        rcases hspot with h | _
        · exact h
        · obtain ⟨cs0, g1, _⟩ := hel 0 (by omega)
          obtain ⟨_, glen, gc⟩ := World.cells?_some g1
          rw [hsz] at glen gc
          have hc0 := gc 0 h0
          have hs : ∃ u, cs0[0]? = some u := ⟨cs0[0]'(by omega), by simp⟩
          obtain ⟨u, hu⟩ := hs
          rw [hu] at hc0
          simpa [Addr.add] using World.cell?_spot hc0
      subst hspot'
      refine ⟨y, b, off, rfl, cs', hlen, fun k u hk => ?_, hy⟩
      have hkl : k < sz := by
        rcases Nat.lt_or_ge k cs'.length with h | h
        · omega
        · rw [List.getElem?_eq_none h] at hk; cases hk
      have := hc k hkl
      rw [add_plain, add_plain, hk, Nat.add_assoc] at this
      exact this)
    exact ⟨_, l, rfl, some a, cap, by rw [hll], by omega, hp⟩
theorem open_intsR {k : IntKind} {t e : TypeId} {fuel : Nat} {cs : List Value} {x : DataW H × List MemPlace} (ht : P.underlying t = some (.slice e)) (he : P.underlying e = some (.int k)) (hsz : P.cellsOf e = 1)
    (h : DataW.trod enc P w 0 spare held fuel t cs = some x) : ∃ v l, cs = [v] ∧ SliceR w 1 (fun cs (n : Int) => cs = [.int k n] ∧ (Lit.int k n).wf = true) v l :=
  open_sliceR ht 1 hsz (by omega) (fun n cs' d hd => by obtain ⟨m, h1, _, h3⟩ := DataW.trod_int he hd; exact ⟨m, h1, h3⟩) h
theorem open_bytesR {t e : TypeId} {fuel : Nat} {cs : List Value} {x : DataW H × List MemPlace} (ht : P.underlying t = some (.slice e)) (he : P.underlying e = some (.int .u8)) (hsz : P.cellsOf e = 1)
    (h : DataW.trod enc P w 0 spare held fuel t cs = some x) : ∃ v bs, cs = [v] ∧ BytesV w v bs := by
  obtain ⟨v, l, rfl, A, c, rfl, hlc, hp⟩ := open_sliceR (R := fun cs (b : UInt8) => cs = [B b]) ht 1 hsz (by omega) (fun n cs' d hd => by
    obtain ⟨m, h1, _, h3⟩ := DataW.trod_int he hd
    refine ⟨UInt8.ofNat m.toNat, ?_⟩
    have hb : 0 ≤ m ∧ m ≤ 255 := bounds_u8 h3
    rw [h1]; unfold B
    congr 2
    simp [UInt8.toNat_ofNat']; omega) h
  refine ⟨_, l, rfl, A, c, rfl, hlc, fun j x hj => ?_⟩
  obtain ⟨ab, ao, rfl, cs, _, hc, rfl⟩ := hp j x hj
  exact ⟨ab, ao, rfl, by have := hc 0 _ rfl; simpa using this⟩
theorem open_bytessR {t e b : TypeId} {fuel : Nat} {cs : List Value} {x : DataW H × List MemPlace} (ht : P.underlying t = some (.slice e)) (he : P.underlying e = some (.slice b)) (hb : P.underlying b = some (.int .u8)) (hsz : P.cellsOf e = 1) (hsb : P.cellsOf b = 1)
    (h : DataW.trod enc P w 0 spare held fuel t cs = some x) : ∃ v l, cs = [v] ∧ SliceR w 1 (fun cs (bs : List UInt8) => ∃ v, cs = [v] ∧ BytesV w v bs) v l :=
  open_sliceR ht 1 hsz (by omega) (fun n cs' d hd => by obtain ⟨v, bs, h1, h2⟩ := open_bytesR he hb hsb hd; exact ⟨bs, v, h1, h2⟩) h
theorem open_strsR {t e : TypeId} {fuel : Nat} {cs : List Value} {x : DataW H × List MemPlace} (ht : P.underlying t = some (.slice e)) (he : P.underlying e = some .string) (hsz : P.cellsOf e = 1)
    (h : DataW.trod enc P w 0 spare held fuel t cs = some x) : ∃ v l, cs = [v] ∧ SliceR w 1 (fun cs (s : ByteArray) => cs = [.string s] ∧ s.size ≤ maxLen) v l :=
  open_sliceR ht 1 hsz (by omega) (fun n cs' d hd => by obtain ⟨m, h1, _, h3⟩ := DataW.trod_string he hd; exact ⟨m, h1, h3⟩) h
end
theorem SliceR.upd {α : Type} {w w' : World} {sz : Nat} {R : List Value → α → Prop} {v : Value} {l : List α} (h : SliceR w sz R v l) (h0 : 0 < sz) (hu : Upd [] w w') : SliceR w' sz R v l := by
  obtain ⟨A, c, rfl, hlc, hp⟩ := h
  refine ⟨A, c, rfl, hlc, fun j x hj => ?_⟩
  obtain ⟨ab, ao, rfl, cs, hl, hc, hr⟩ := hp j x hj
  refine ⟨ab, ao, rfl, cs, hl, fun i u hi => ?_, hr⟩
  have := hc i u hi
  exact (World.cell?_of_block (hu.block ab (World.block_lt_of_cell? _ _ this) (by simp))).trans this
/-- Element k, of one cell. -/
theorem SliceR.at1 {α : Type} {w : World} {R : List Value → α → Prop} {v : Value} {l : List α} (h : SliceR w 1 R v l) (k : Nat) (hk : k < l.length) :
    ∃ ab ao c u, v = .slice (some ⟨ab, ao, none⟩) l.length c ∧ w.cell? ⟨ab, ao + k, none⟩ = some u ∧ R [u] l[k] := by
  obtain ⟨A, c, rfl, _, hp⟩ := h
  obtain ⟨ab, ao, rfl, cs, hl, hc, hr⟩ := hp k l[k] (by simp [hk])
  match cs, hl with
  | [u], _ => exact ⟨ab, ao, c, u, rfl, by simpa using hc 0 u rfl, hr⟩
theorem SliceR.form {α : Type} {w : World} {sz : Nat} {R : List Value → α → Prop} {v : Value} {l : List α} (h : SliceR w sz R v l) : ∃ A c, v = .slice A l.length c ∧ l.length ≤ c := by
  obtain ⟨A, c, rfl, h, _⟩ := h; exact ⟨A, c, rfl, h⟩
theorem SliceR.mono {α β : Type} {w w' : World} {sz : Nat} {R : List Value → α → Prop} {R' : List Value → α → Prop} {v : Value} {l : List α} (h : SliceR w sz R v l) (hr : ∀ cs x, R cs x → R' cs x) : SliceR w sz R' v l := by
  obtain ⟨A, c, rfl, hlc, hp⟩ := h
  refine ⟨A, c, rfl, hlc, fun j x hj => ?_⟩
  obtain ⟨ab, ao, rfl, cs, hl, hc, hx⟩ := hp j x hj
  exact ⟨ab, ao, rfl, cs, hl, hc, hr _ _ hx⟩
end Go.Lk
