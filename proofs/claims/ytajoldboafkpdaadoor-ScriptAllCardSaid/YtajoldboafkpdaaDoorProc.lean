-- A region that draws its order, walked in an order of the prover's choice: what only reads (whatever is written beside it leaves that be: 'S'), and calls, stores, appends, one behind the other. Of no program.
import Derived.Test.YtajoldboafkpdaaDoorMix
import Derived.OrdersHeld
import Derived.KernelRfl
set_option linter.unusedVariables false
set_option linter.unusedSimpArgs false
namespace Go.Lk
open Go
section
variable {P : Program} {ops : Array Oper} {md : Region.Mode} {Q : Exit → Act → World → Prop}
/-- Operation i yields its value in every world that meets S. -/
def heldOp (P : Program) (ops : Array Oper) (S : World → Prop) (i : Nat) (K : Act → Prop) (a : Act) : Prop :=
  ∃ o v, ops[i]? = some o ∧ YieldsIf P ops S o v a ∧ K (a.put o.dst v)
/-- 0: it only reads; 1: anything that keeps S; 2: anything (all that came ahead has come up when it does). -/
def wpProc (P : Program) (ops : Array Oper) (Q : Exit → Act → World → Prop) : List (Nat × Nat) → (World → Prop) → Act → World → Prop
  | [], _, a, w => Q .normal a w
  | (i, 0) :: r, S, a, w => heldOp P ops S i (fun a' => wpProc P ops Q r S a' w) a
  | (i, 1) :: r, S, a, w => wpOp P ops Q i (fun a' w' => ∃ S' : World → Prop, (∀ W, S' W → S W) ∧ S' w' ∧ wpProc P ops Q r S' a' w') a w
  | (i, _) :: r, _, a, w => wpOp P ops Q i (fun a' w' => ∃ S' : World → Prop, S' w' ∧ wpProc P ops Q r S' a' w') a w
def fence : List (Nat × Nat) → Option Nat
  | [] => none
  | (_, 0) :: r => fence r
  | (_, 1) :: r => fence r
  | (i, _) :: _ => some i
def wpAnyF (P : Program) (md : Region.Mode) (ops : Array Oper) (Q : Exit → Act → World → Prop) (F : Option Nat) (S : World → Prop) : Nat → Array Bool → Act → World → Prop
  | 0, listed, a, w => Region.ready md ops listed = [] ∧ Q .normal a w
  | fuel + 1, listed, a, w =>
    (Region.ready md ops listed = [] → Q .normal a w) ∧
    ∀ i ∈ Region.ready md ops listed, if F = some i then wpOp P ops Q i (wpAny P md ops Q fuel (listed.setIfInBounds i true)) a w
      else wpOp P ops Q i (fun a' w' => S w' ∧ wpAnyF P md ops Q F S fuel (listed.setIfInBounds i true) a' w') a w
theorem wpAny_of_F {F : Option Nat} {S : World → Prop} : ∀ (fuel : Nat) (listed : Array Bool) (a : Act) (w : World), wpAnyF P md ops Q F S fuel listed a w → wpAny P md ops Q fuel listed a w
  | 0, _, _, _, h => h
  | fuel + 1, _, _, _, h => ⟨h.1, fun i hi => by
      have h2 := h.2 i hi
      split at h2
      · exact h2
      · exact wpOp_mono (fun a' w' h' => wpAny_of_F fuel _ a' w' h'.2) h2⟩
theorem wpAnyF_mono {F : Option Nat} {S S' : World → Prop} (h : ∀ W, S' W → S W) : ∀ (fuel : Nat) (listed : Array Bool) (a : Act) (w : World), wpAnyF P md ops Q F S' fuel listed a w → wpAnyF P md ops Q F S fuel listed a w
  | 0, _, _, _, hh => hh
  | fuel + 1, _, _, _, hh => ⟨hh.1, fun i hi => by
      have h2 := hh.2 i hi
      split at h2
      · rename_i hF; rw [if_pos hF]; exact h2
      · rename_i hF; rw [if_neg hF]; exact wpOp_mono (fun a' w' h' => ⟨h _ h'.1, wpAnyF_mono h fuel _ a' w' h'.2⟩) h2⟩
theorem wpAnyF_first {F : Option Nat} {S : World → Prop} {i : Nat} {oi : Oper} {v : Value} (hi : ops[i]? = some oi) (hsel : ∀ (j : Nat) (o : Oper) cs b, ops[j]? = some o → o.op ≠ .select cs b)
    (hQ : ∀ c a w, Q (.panic c) (a.put oi.dst v) w → Q (.panic c) a w) (hF : F ≠ some i) (hd : ∀ j, F = some j → (desc md ops i).getD j false = true) :
    ∀ (fuel : Nat) (listed : Array Bool) (a : Act) (w : World), Closed md ops listed →
      (∀ j oj, ops[j]? = some oj → j ≠ i → listed.getD j true = false → (∀ e ∈ oj.after, Region.binds md e = true → e.on ≠ i) → oi.apart ops oj = true) →
      i ∈ Region.ready md ops listed → YieldsIf P ops S oi v a → S w →
      wpAnyF P md ops Q F S fuel (listed.setIfInBounds i true) (a.put oi.dst v) w → wpAnyF P md ops Q F S (fuel + 1) listed a w := by
  intro fuel
  induction fuel with
  | zero =>
    intro listed a w hc hfree hr hy hS H
    refine ⟨fun h => (by rw [h] at hr; cases hr), fun j hj => ?_⟩
    by_cases hji : j = i
    · subst hji; rw [if_neg hF]; exact hy.wpOp hi hS ⟨hS, H⟩
    · have := ready_mono hj hji
      rw [H.1] at this
      cases this
  | succ fuel ih =>
    intro listed a w hc hfree hr hy hS H
    refine ⟨fun h => (by rw [h] at hr; cases hr), fun j hj => ?_⟩
    by_cases hji : j = i
    · subst hji; rw [if_neg hF]; exact hy.wpOp hi hS ⟨hS, H⟩
    · have h1 := H.2 j (ready_mono hj hji)
      have hiun : listed.getD i false = false := getD_both (mem_ready.1 hr).1
      have hFj : F ≠ some j := fun e => (late_desc i j (hd j e) listed hc hiun).2 hj
      rw [if_neg hFj] at h1 ⊢
      obtain ⟨hjun, oj, hoj, hall⟩ := mem_ready.1 hj
      have hnot : ∀ e ∈ oj.after, Region.binds md e = true → e.on ≠ i := fun e he hb heq => by
        have h1 := hall e he hb
        rw [heq, hiun] at h1
        cases h1
      have h2 := wpOp_putIf hoj (hfree j oj hoj hji hjun hnot) (fun cs b => hsel i oi cs b hi) (fun cs b => hsel j oj cs b hoj) hQ hy h1
      have hfree' : ∀ k ok, ops[k]? = some ok → k ≠ i → (listed.setIfInBounds j true).getD k true = false →
          (∀ e ∈ ok.after, Region.binds md e = true → e.on ≠ i) → oi.apart ops ok = true := fun k ok hk hki hun hno => by
        refine hfree k ok hk hki ?_ hno
        by_cases hjk : j = k
        · subst hjk; exact hjun
        · rw [getD_set_ne true hjk] at hun; exact hun
      refine wpOp_mono (fun a' w' h3 => ⟨h3.2.1, ih (listed.setIfInBounds j true) a' w' (closed_set hc hj) hfree' (ready_mono hr (Ne.symm hji)) h3.1 h3.2.1 ?_⟩) h2
      rw [Array.setIfInBounds_comm _ _ hji]
      exact h3.2.2
def procB (md : Region.Mode) (ops : Array Oper) : List (Nat × Nat) → Array Bool → Bool
  | [], listed => (Region.ready md ops listed).isEmpty
  | (i, 0) :: r, listed => (Region.ready md ops listed).contains i && Region.free md ops listed i && (match fence r with | some j => i != j && (desc md ops i).getD j false | none => true) && procB md ops r (listed.setIfInBounds i true)
  | (i, 1) :: r, listed => Region.ready md ops listed == [i] && (fence r != some i) && procB md ops r (listed.setIfInBounds i true)
  | (i, _) :: r, listed => Region.ready md ops listed == [i] && procB md ops r (listed.setIfInBounds i true)
theorem anyF_of_proc (hs : Region.noSelect ops = true) (hQ : ∀ c a w t v, Q (.panic c) (a.put t v) w → Q (.panic c) a w) :
    ∀ (l : List (Nat × Nat)) (S : World → Prop) (listed : Array Bool) (a : Act) (w : World), Closed md ops listed → procB md ops l listed = true → S w → wpProc P ops Q l S a w → wpAnyF P md ops Q (fence l) S l.length listed a w
  | [], S, listed, a, w, _, hB, _, h => ⟨by simpa [procB] using hB, h⟩
  | (i, 0) :: r, S, listed, a, w, hc, hB, hS, h => by
    simp only [procB, Bool.and_eq_true] at hB
    obtain ⟨o, v, ho, hy, hK⟩ := h
    have hr : i ∈ Region.ready md ops listed := by simpa using hB.1.1.1
    refine wpAnyF_first (F := fence r) ho (Region.noSelect_spec hs) (fun c a w => hQ c a w _ _) (fun e => ?_) (fun j e => ?_) r.length listed a w hc (Region.free_spec ho hB.1.1.2) hr hy hS
      (anyF_of_proc hs hQ r S _ _ _ (closed_set hc hr) hB.2 hS hK)
    · have := hB.1.2; rw [e] at this; simp at this
    · have := hB.1.2; rw [e] at this; simp only [Bool.and_eq_true] at this; exact this.2
  | (i, 1) :: r, S, listed, a, w, hc, hB, hS, h => by
    simp only [procB, Bool.and_eq_true, beq_iff_eq] at hB
    refine ⟨fun h0 => (by rw [hB.1.1] at h0; cases h0), fun j hj => ?_⟩
    have hi : i ∈ Region.ready md ops listed := by rw [hB.1.1]; simp
    rw [hB.1.1] at hj
    obtain rfl : j = i := by simpa using hj
    rw [if_neg (by have := hB.1.2; simpa [fence] using this)]
    refine wpOp_mono (fun a' w' h' => ?_) h
    obtain ⟨S', h1, h2, h3⟩ := h'
    exact ⟨h1 _ h2, wpAnyF_mono h1 _ _ _ _ (anyF_of_proc hs hQ r S' _ _ _ (closed_set hc hi) hB.2 h2 h3)⟩
  | (i, n + 2) :: r, S, listed, a, w, hc, hB, hS, h => by
    simp only [procB, Bool.and_eq_true, beq_iff_eq] at hB
    refine ⟨fun h0 => (by rw [hB.1] at h0; cases h0), fun j hj => ?_⟩
    have hi : i ∈ Region.ready md ops listed := by rw [hB.1]; simp
    rw [hB.1] at hj
    obtain rfl : j = i := by simpa using hj
    rw [if_pos (by simp [fence])]
    refine wpOp_mono (fun a' w' h' => ?_) h
    obtain ⟨S', h2, h3⟩ := h'
    exact wpAny_of_F _ _ _ _ (anyF_of_proc hs hQ r S' _ _ _ (closed_set hc hi) hB.2 h2 h3)
def procsB (md : Region.Mode) (ops : Array Oper) (l : List (Nat × Nat)) : Bool := Region.noSelect ops && l.length == ops.size && procB md ops l (Array.replicate ops.size false)
/-- The region, in the order 'l', under S. -/
theorem wp_region_proc {id : Nat} {a : Act} {w : World} {ol : List Oper} (l : List (Nat × Nat)) (S : World → Prop) (hm : P.follows .mixedOrders = true) (hB : procsB .any ol.toArray l = true)
    (hQ : ∀ c a w t v, Q (.panic c) (a.put t v) w → Q (.panic c) a w) (hS : S { w with drawn := w.drawn + 1 })
    (h : wpProc P ol.toArray Q l S a { w with drawn := w.drawn + 1 }) : (Code.region id ol.toArray true).wp P Q a w := by
  simp only [procsB, Bool.and_eq_true, beq_iff_eq] at hB
  obtain ⟨⟨hs, hlen⟩, hB⟩ := hB
  refine wp_region_any hm ?_
  have h2 := anyF_of_proc hs hQ l S _ _ _ (fun j oj _ hl => (by rw [getD_replicate_false] at hl; cases hl)) hB hS h
  rw [hlen] at h2
  exact wpAny_of_F _ _ _ _ h2
theorem proc_held {i : Nat} {o : Oper} {r : List (Nat × Nat)} {S : World → Prop} {a a' : Act} {w : World} {v : Value} (ho : ops[i]? = some o) (hg : o.guard = none)
    (hv : ∀ W, S W → (execOp a.eval o).run P W = .ok (.value v) W) (ha : a.put o.dst v = a') (h : wpProc P ops Q r S a' w) : wpProc P ops Q ((i, 0) :: r) S a w :=
  ⟨o, v, ho, .inl ⟨by simp [Region.wanted, hg], hv⟩, by rw [ha]; exact h⟩
theorem proc_held_on {i : Nat} {o : Oper} {r : List (Nat × Nat)} {S : World → Prop} {a a' : Act} {w : World} {v : Value} (ho : ops[i]? = some o) (hg : Region.wanted o (yielded ops a.tmps) = true)
    (hv : ∀ W, S W → (execOp a.eval o).run P W = .ok (.value v) W) (ha : a.put o.dst v = a') (h : wpProc P ops Q r S a' w) : wpProc P ops Q ((i, 0) :: r) S a w :=
  ⟨o, v, ho, .inl ⟨hg, hv⟩, by rw [ha]; exact h⟩
theorem proc_off {i : Nat} {o : Oper} {r : List (Nat × Nat)} {S : World → Prop} {a a' : Act} {w : World} (ho : ops[i]? = some o) (hg : Region.wanted o (yielded ops a.tmps) = false)
    (ha : a.put o.dst undef = a') (h : wpProc P ops Q r S a' w) : wpProc P ops Q ((i, 0) :: r) S a w :=
  ⟨o, undef, ho, .inr ⟨hg, rfl⟩, by rw [ha]; exact h⟩
theorem proc_eff {i : Nat} {o : Oper} {r : List (Nat × Nat)} {S : World → Prop} {a : Act} {w : World} (ho : ops[i]? = some o)
    (h : wpList P ops (Exit.then (fun a' w' => ∃ S' : World → Prop, (∀ W, S' W → S W) ∧ S' w' ∧ wpProc P ops Q r S' a' w') Q) [o] a w) : wpProc P ops Q ((i, 1) :: r) S a w := by
  refine wpOp_then (n := fun a' w' => ∃ S' : World → Prop, (∀ W, S' W → S W) ∧ S' w' ∧ wpProc P ops Q r S' a' w') ?_
  unfold wpOp
  simp only [ho]
  exact h
theorem proc_last {i : Nat} {o : Oper} {r : List (Nat × Nat)} {S : World → Prop} {a : Act} {w : World} (ho : ops[i]? = some o)
    (h : wpList P ops (Exit.then (fun a' w' => ∃ S' : World → Prop, S' w' ∧ wpProc P ops Q r S' a' w') Q) [o] a w) : wpProc P ops Q ((i, 2) :: r) S a w := by
  refine wpOp_then (n := fun a' w' => ∃ S' : World → Prop, S' w' ∧ wpProc P ops Q r S' a' w') ?_
  unfold wpOp
  simp only [ho]
  exact h
theorem proc_nil {S : World → Prop} {a : Act} {w : World} (h : Q .normal a w) : wpProc P ops Q [] S a w := h
end
end Go.Lk
