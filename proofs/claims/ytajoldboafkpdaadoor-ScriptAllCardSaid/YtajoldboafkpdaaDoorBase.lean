-- Plain words on worlds and blocks, of no program.
import Derived.WalkKit
import Derived.WalkSpells
import Derived.WalkLawsBesides
import Derived.Lib.Hide
import Derived.StillTailTactics
import Derived.Deep.QuietTactic
import Derived.BigQuiet
import Derived.KernelRfl
set_option linter.unusedVariables false
set_option linter.unusedSimpArgs false
namespace Go.Lk
open Go.RowKit
def B (x : UInt8) : Value := .int .u8 (x.toNat : Int)
theorem heap_setCell_self {w : World} {b i : Nat} {cs : Array Value} {T : TypeId} {fr : Nat × Nat} (h : w.heap[b]? = some (.cells cs T fr)) (v : Value) :
    (w.setCell ⟨b, i, none⟩ v).heap[b]? = some (.cells (cs.setIfInBounds i v) T fr) := by
  obtain ⟨lo, hi⟩ := fr
  simp only [World.setCell, Array.getElem?_modify]
  simp [h]
theorem heap_setCell_ne {w : World} {b : Nat} {a : Addr} (v : Value) (h : a.block ≠ b) : (w.setCell a v).heap[b]? = w.heap[b]? := by
  simp only [World.setCell, Array.getElem?_modify]
  rw [if_neg h]
theorem heap_alloc_lt {w : World} {b : Nat} (o : Obj) (h : b < w.heap.size) : (w.alloc o).heap[b]? = w.heap[b]? := by
  show (w.heap.push o)[b]? = _
  rw [Array.getElem?_push, if_neg (by omega)]
theorem heap_alloc_self {w : World} (o : Obj) : (w.alloc o).heap[w.heap.size]? = some o := by
  show (w.heap.push o)[w.heap.size]? = _
  simp
theorem heap_drew {w : World} : w.drew.heap = w.heap := rfl
theorem cell_of {w : World} {b i : Nat} {cs : Array Value} {T : TypeId} {fr : Nat × Nat} {v : Value} (h : w.heap[b]? = some (.cells cs T fr)) (hi : cs[i]? = some v) : w.cell? ⟨b, i, none⟩ = some v := by
  simp [World.cell?, h, hi]
theorem free_of {w : World} {b i : Nat} {cs : Array Value} {T : TypeId} (h : w.heap[b]? = some (.cells cs T (0, 0))) : w.frozen? ⟨b, i, none⟩ = false := by
  simp [World.frozen?, h]
/-- Of what was there only the blocks of 'F' may have turned. -/
structure Upd (F : List Nat) (w w' : World) : Prop where
  os : w'.os = w.os
  tape : w'.tape = w.tape
  output : w'.output = w.output
  size : w.heap.size ≤ w'.heap.size
  block : ∀ k, k < w.heap.size → k ∉ F → w'.heap[k]? = w.heap[k]?
theorem Upd.refl (F : List Nat) (w : World) : Upd F w w := ⟨rfl, rfl, rfl, Nat.le_refl _, fun _ _ _ => rfl⟩
theorem Upd.drew {F : List Nat} {a w : World} (h : Upd F a w) : Upd F a w.drew := ⟨h.os, h.tape, h.output, h.size, h.block⟩
theorem Upd.drewN {F : List Nat} {a w : World} (h : Upd F a w) (k : Nat) : Upd F a (w.drewN k) := ⟨h.os, h.tape, h.output, h.size, h.block⟩
theorem Upd.alloc {F : List Nat} {a w : World} (h : Upd F a w) (o : Obj) : Upd F a (w.alloc o) :=
  ⟨h.os, h.tape, h.output, Nat.le_trans h.size (by simp), fun k hk hn => by rw [heap_alloc_lt o (Nat.lt_of_lt_of_le hk h.size)]; exact h.block k hk hn⟩
theorem Upd.setCell {F : List Nat} {a w : World} (h : Upd F a w) {p : Addr} (hp : a.heap.size ≤ p.block ∨ p.block ∈ F) (u : Value) : Upd F a (w.setCell p u) :=
  ⟨h.os, h.tape, h.output, by simpa using h.size, fun k hk hn => by
    rw [heap_setCell_ne]
    · exact h.block k hk hn
    · rintro rfl
      rcases hp with hp | hp
      · omega
      · exact hn hp⟩
theorem Upd.trans {F G : List Nat} {a w w' : World} (h : Upd F a w) (k : Upd G w w') (hG : ∀ x, x ∈ G → a.heap.size ≤ x ∨ x ∈ F) : Upd F a w' :=
  ⟨k.os.trans h.os, k.tape.trans h.tape, k.output.trans h.output, Nat.le_trans h.size k.size, fun x hx hn => by
    rw [k.block x (Nat.lt_of_lt_of_le hx h.size) (fun hg => by rcases hG x hg with h' | h' <;> first | omega | exact hn h'), h.block x hx hn]⟩
theorem Upd.trans_of {F : List Nat} {a w w' : World} (h : Upd [] a w) (k : Upd F w w') : Upd F a w' :=
  Upd.trans (F := F) ⟨h.os, h.tape, h.output, h.size, fun x hx _ => h.block x hx (by simp)⟩ k (fun x hx => .inr hx)
theorem Upd.grown {F : List Nat} {a w w' : World} (h : Upd F a w) {row : Option Nat} (hg : w.grownBy w' row) (hr : ∀ k, row = some k → a.heap.size ≤ k ∨ k ∈ F) : Upd F a w' :=
  ⟨hg.os.trans h.os, hg.tape.trans h.tape, hg.output.trans h.output, Nat.le_trans h.size hg.size, fun k hk hn => by
    rw [hg.block k (Nat.lt_of_lt_of_le hk h.size) (fun e => by rcases hr k e.symm with h' | h' <;> first | omega | exact hn h'), h.block k hk hn]⟩
theorem own_ge {w : World} {base : Nat} {e : TypeId} {size n : Nat} {v : Value} {xs : List Value} (h : w.ownsRow base e size v n xs) (k : Nat) (hk : v.ownBlock = some k) : base ≤ k := by
  rcases h.2 with ⟨rfl, _⟩ | ⟨g, cap, cur, rfl, hb, _⟩
  · simp [Value.ownBlock] at hk
  · have : g = k := by simpa [Value.ownBlock] using hk
    omega
theorem own_weaken {w : World} {base base' : Nat} {e : TypeId} {size n : Nat} {v : Value} {xs : List Value} (h : w.ownsRow base e size v n xs) (hb : base' ≤ base) : w.ownsRow base' e size v n xs := by
  obtain ⟨hl, h0 | ⟨g, cap, cur, hv, hb2, r⟩⟩ := h
  · exact ⟨hl, .inl h0⟩
  · exact ⟨hl, .inr ⟨g, cap, cur, hv, Nat.le_trans hb hb2, r⟩⟩
theorem own_lt {w : World} {base : Nat} {e : TypeId} {size n : Nat} {v : Value} {xs : List Value} (h : w.ownsRow base e size v n xs) (k : Nat) (hk : v.ownBlock = some k) : k < w.heap.size := by
  rcases h.2 with ⟨rfl, _⟩ | ⟨g, cap, cur, rfl, hb, hh, _⟩
  · simp [Value.ownBlock] at hk
  · have : g = k := by simpa [Value.ownBlock] using hk
    subst this
    exact (Array.getElem?_eq_some_iff.1 hh).1
theorem own_upd {w w1 : World} {F : List Nat} {base : Nat} {e : TypeId} {size n : Nat} {v : Value} {xs : List Value} (h : w.ownsRow base e size v n xs) (hu : Upd F w w1) (hF : ∀ k, v.ownBlock = some k → k ∉ F) : w1.ownsRow base e size v n xs := by
  obtain ⟨h1, h2⟩ := h
  refine ⟨h1, ?_⟩
  rcases h2 with h2 | ⟨g, cap, cur, hv, hg, hh, r⟩
  · exact Or.inl h2
  · subst hv
    exact Or.inr ⟨g, cap, cur, rfl, hg, by rw [hu.block g (Array.getElem?_eq_some_iff.1 hh).1 (hF g rfl)]; exact hh, r⟩
/-- A slice of bytes reads as 'bs'. -/
def BytesAt (w : World) (A : Option Addr) (bs : List UInt8) : Prop := ∀ j x, bs[j]? = some x → ∃ ab ao, A = some ⟨ab, ao, none⟩ ∧ w.cell? ⟨ab, ao + j, none⟩ = some (B x)
def BytesV (w : World) (v : Value) (bs : List UInt8) : Prop := ∃ A c, v = .slice A bs.length c ∧ bs.length ≤ c ∧ BytesAt w A bs
theorem add_plain (g o j : Nat) : (⟨g, o, none⟩ : Addr).add j = ⟨g, o + j, none⟩ := by unfold Addr.add; split <;> simp_all
theorem BytesV.str {P : Program} {w : World} {v : Value} {bs : List UInt8} (h : BytesV w v bs) (src dst e : TypeId) (hs : P.underlying src = some (.slice e)) (he : P.underlying e = some (.int .u8)) (hd : P.underlying dst = some .string) :
    (convert src dst v).run P w = .ok (.string ⟨bs.toArray⟩) w := by
  obtain ⟨A, c, rfl, _, h⟩ := h
  by_cases hb : bs = []
  · subst hb
    cases A with
    | none => exact run_convert_bytes_nil w src e hs he _ _ dst hd
    | some a => exact run_convert_bytes_back w src dst e a c [] hs he hd (fun j hj => by cases hj)
  · obtain ⟨ab, ao, rfl, _⟩ := h 0 (bs[0]'(List.length_pos_iff.2 hb)) (by simp)
    refine run_convert_bytes_back w src dst e _ c bs hs he hd (fun j hj => ?_)
    obtain ⟨ab', ao', e1, e2⟩ := h j bs[j] (by simp [hj])
    injection e1 with e1; injection e1 with e3 e4
    subst e3 e4
    rw [add_plain]; exact e2
theorem bytes_of_own {w : World} {base : Nat} {e : TypeId} {v : Value} {n : Nat} {bs : List UInt8} (h : w.ownsRow base e 1 v n (bs.map B)) : BytesV w v bs := by
  have hl : bs.length = n := by simpa using h.1
  rcases h.2 with ⟨rfl, rfl⟩ | ⟨g, cap, cur, rfl, _, hh, hn, _, hs, ht⟩
  · obtain rfl : bs = [] := List.eq_nil_of_length_eq_zero hl
    exact ⟨none, 0, rfl, Nat.le_refl _, fun j x hj => by cases hj⟩
  · refine ⟨_, cap, by rw [hl], by omega, fun j x hj => ⟨g, 0, rfl, cell_of hh ?_⟩⟩
    have hjl : j < bs.length := by
      rcases Nat.lt_or_ge j bs.length with h' | h'
      · exact h'
      · simp [List.getElem?_eq_none h'] at hj
    have h1 : (cur.toList.take (n * 1))[j]? = some (B x) := by rw [ht]; simp [hj]
    rw [List.getElem?_take_of_lt (by omega)] at h1
    simpa using h1
theorem bytesAt_new (w : World) (e : TypeId) (bs : List UInt8) (fr : Nat × Nat) : BytesAt (w.alloc (.cells (bs.map B).toArray e fr)) (some ⟨w.heap.size, 0, none⟩) bs := fun j x hj =>
  ⟨w.heap.size, 0, rfl, cell_of (heap_alloc_self _) (by simp [hj])⟩
theorem own_slice {w : World} {base n : Nat} {e : TypeId} {size : Nat} {v : Value} {xs : List Value} (h : w.ownsRow base e size v n xs) : ∃ A c, v = .slice A n c := by
  rcases h.2 with ⟨rfl, rfl⟩ | ⟨g, cap, cur, rfl, _⟩
  · exact ⟨none, 0, rfl⟩
  · exact ⟨_, cap, rfl⟩
theorem own_notin {w : World} {base : Nat} {e : TypeId} {size n : Nat} {v : Value} {xs : List Value} {F : List Nat} (h : w.ownsRow base e size v n xs) (hF : ∀ x, x ∈ F → x < base) (k : Nat) (hk : v.ownBlock = some k) : k ∉ F := fun hm => by
  have := own_ge h k hk; have := hF k hm; omega
theorem BytesV.drewN {w : World} {v : Value} {bs : List UInt8} (h : BytesV w v bs) (k : Nat) : BytesV (w.drewN k) v bs := h
theorem BytesAt.take {w : World} {A : Option Addr} {bs : List UInt8} (h : BytesAt w A bs) (n : Nat) : BytesAt w A (bs.take n) := fun j x hj => h j x (by
  rw [List.getElem?_take] at hj; split at hj
  · exact hj
  · cases hj)
theorem BytesAt.drop {w : World} {A : Option Addr} {bs : List UInt8} (h : BytesAt w A bs) (n : Nat) : BytesAt w (A.map (fun x => x.add n)) (bs.drop n) := fun j x hj => by
  rw [List.getElem?_drop] at hj
  obtain ⟨ab, ao, rfl, hc⟩ := h _ _ hj
  exact ⟨ab, ao + n, by simp [add_plain], by rw [Nat.add_assoc]; exact hc⟩
theorem BytesAt.nil (w : World) (A : Option Addr) : BytesAt w A [] := fun j x hj => by cases hj
theorem str_append (a b : List UInt8) : (⟨a.toArray⟩ : ByteArray) ++ ⟨b.toArray⟩ = ⟨(a ++ b).toArray⟩ := by
  apply ByteArray.ext; simp
theorem BytesAt.lt {w : World} {A : Option Addr} {bs : List UInt8} (h : BytesAt w A bs) (hb : bs ≠ []) (ab ao : Nat) (e : A = some ⟨ab, ao, none⟩) : ab < w.heap.size := by
  obtain ⟨ab', ao', e', hc⟩ := h 0 (bs[0]'(List.length_pos_iff.2 hb)) (by simp)
  rw [e] at e'; injection e' with e'; injection e' with e1 e2
  subst e1 e2
  exact World.block_lt_of_cell? _ _ hc
theorem BytesAt.upd0 {w w1 : World} {A : Option Addr} {bs : List UInt8} (h : BytesAt w A bs) (hu : Upd [] w w1) : BytesAt w1 A bs := fun j x hj => by
  obtain ⟨ab, ao, rfl, hc⟩ := h j x hj
  exact ⟨ab, ao, rfl, (World.cell?_of_block (hu.block ab (World.block_lt_of_cell? _ _ hc) (by simp))).trans hc⟩
theorem BytesAt.upd {w w1 : World} {F : List Nat} {A : Option Addr} {bs : List UInt8} (h : BytesAt w A bs) (hu : Upd F w w1) (hF : ∀ ab ao, A = some ⟨ab, ao, none⟩ → ab ∉ F) : BytesAt w1 A bs := fun j x hj => by
  obtain ⟨ab, ao, rfl, hc⟩ := h j x hj
  exact ⟨ab, ao, rfl, (World.cell?_of_block (hu.block ab (World.block_lt_of_cell? _ _ hc) (hF ab ao rfl))).trans hc⟩
theorem BytesV.upd {w w1 : World} {F : List Nat} {v : Value} {bs : List UInt8} (h : BytesV w v bs) (hu : Upd F w w1) (hF : ∀ k, v.ownBlock = some k → k ∉ F) : BytesV w1 v bs := by
  obtain ⟨A, c, rfl, hc, h⟩ := h
  exact ⟨A, c, rfl, hc, h.upd hu fun ab ao e => hF ab (by rw [e]; rfl)⟩
theorem Upd.below {F : List Nat} {w w' : World} (h : Upd F w w') (hF : ∀ x, x ∈ F → w.heap.size ≤ x) : Below w.heap.size w w' :=
  ⟨h.os, h.tape, h.output, h.size, fun k hk => h.block k hk fun hm => by have := hF k hm; omega⟩
theorem Upd.weaken {F G : List Nat} {a w : World} (h : Upd F a w) (hG : ∀ x, x ∈ F → a.heap.size ≤ x ∨ x ∈ G) : Upd G a w :=
  ⟨h.os, h.tape, h.output, h.size, fun k hk hn => h.block k hk fun hm => by rcases hG k hm with h' | h' <;> first | omega | exact hn h'⟩
end Go.Lk
