-- A region that draws its order, walked in the order of the text: operations that only read and operations that write, call or allocate, mixed. Of no program.
import Derived.StillTail
import Derived.KernelRfl
set_option linter.unusedVariables false
set_option linter.unusedSimpArgs false
namespace Go.Lk
open Go
section
variable {P : Program} {ops : Array Oper} {md : Region.Mode}
def pureB (o : Oper) : Bool := match o.op with | .move _ | .assign _ => true | _ => false
theorem yields_of_pure {w : World} {o : Oper} {v : Value} {a : Act} (hp : pureB o = true) (h : YieldsAt P ops w o v a) : Yields P ops o v a := by
  rcases h with ⟨hw, h⟩ | h
  · refine .inl ⟨hw, ?_⟩
    have key : ∃ u, ∀ w, (execOp a.eval o).run P w = .ok (.value u) w := by
      unfold pureB at hp
      split at hp
      · rename_i x hx; exact ⟨a.eval x, fun w => by unfold execOp; rw [hx]; rfl⟩
      · rename_i x hx; exact ⟨a.eval x, fun w => by unfold execOp; rw [hx]; rfl⟩
      · cases hp
    obtain ⟨u, hu⟩ := key
    rcases h with h | ⟨h, _⟩ | ⟨f, args, h, _⟩
    · rw [hu] at h
      injection h with h
      injection h with h
      subst h
      exact hu
    · rw [hu] at h; injection h with h; cases h
    · rw [hu] at h; injection h with h; cases h
  · exact .inr h
theorem yieldsAt_of {w : World} {o : Oper} {v : Value} {a : Act} (h : Yields P ops o v a) : YieldsAt P ops w o v a := by
  rcases h with ⟨hw, h⟩ | h
  · exact .inl ⟨hw, .inl (h w)⟩
  · exact .inr h
def descStep (md : Region.Mode) (ops : Array Oper) (i : Nat) (acc : Array Bool) (j : Nat) : Array Bool :=
  if (match ops[j]? with | some oj => oj.after.any fun e => Region.binds md e && (e.on == i || acc.getD e.on false) | none => false) then acc.setIfInBounds j true else acc
def desc (md : Region.Mode) (ops : Array Oper) (i : Nat) : Array Bool := (List.range ops.size).foldl (descStep md ops i) (Array.replicate ops.size false)
def Closed (md : Region.Mode) (ops : Array Oper) (listed : Array Bool) : Prop :=
  ∀ j oj, ops[j]? = some oj → listed.getD j false = true → ∀ e ∈ oj.after, Region.binds md e = true → listed.getD e.on false = true
def Late (md : Region.Mode) (ops : Array Oper) (i : Nat) (acc : Array Bool) : Prop :=
  ∀ j, acc.getD j false = true → ∀ listed, Closed md ops listed → listed.getD i false = false → listed.getD j false = false ∧ j ∉ Region.ready md ops listed
theorem late_step {i : Nat} {acc : Array Bool} (h : Late md ops i acc) (j : Nat) : Late md ops i (descStep md ops i acc j) := by
  unfold descStep
  cases hoj : ops[j]? with
  | none => simpa using h
  | some oj =>
    simp only []
    by_cases hj : (oj.after.any fun e => Region.binds md e && (e.on == i || acc.getD e.on false)) = true
    · rw [if_pos hj]
      obtain ⟨e, he, hb⟩ := Array.any_eq_true'.1 hj
      simp only [Bool.and_eq_true, Bool.or_eq_true, beq_iff_eq] at hb
      intro k hk listed hc hi
      by_cases hjk : j = k
      · subst hjk
        have hon : listed.getD e.on false = false := by
          rcases hb.2 with h' | h'
          · rw [h']; exact hi
          · exact (h _ h' listed hc hi).1
        refine ⟨?_, fun hr => ?_⟩
        · cases hl : listed.getD j false
          · rfl
          · rw [hc j oj hoj hl e he hb.1] at hon; cases hon
        · obtain ⟨_, o', ho', hall⟩ := mem_ready.1 hr
          have : o' = oj := Option.some.inj (ho'.symm.trans hoj)
          subst this
          rw [hall e he hb.1] at hon; cases hon
      · rw [getD_set_ne false hjk] at hk
        exact h k hk listed hc hi
    · rw [if_neg hj]; exact h
theorem late_desc (i : Nat) : Late md ops i (desc md ops i) := by
  have key : ∀ (l : List Nat) (acc : Array Bool), Late md ops i acc → Late md ops i (l.foldl (descStep md ops i) acc) := by
    intro l
    induction l with
    | nil => exact fun acc h => h
    | cons j l ih => exact fun acc h => ih _ (late_step h j)
  exact key _ _ fun j hj => by rw [getD_replicate_false] at hj; cases hj
def wpAnyM (P : Program) (md : Region.Mode) (ops : Array Oper) (S : Nat → Bool) (Q : Exit → Act → World → Prop) : Nat → Array Bool → Act → World → Prop
  | 0, listed, a, w => Region.ready md ops listed = [] ∧ Q .normal a w
  | fuel + 1, listed, a, w =>
    (Region.ready md ops listed = [] → Q .normal a w) ∧
    ∀ i ∈ Region.ready md ops listed, if S i then stOp P ops w i (fun a' => wpAnyM P md ops S Q fuel (listed.setIfInBounds i true) a' w) a
      else wpOp P ops Q i (wpAnyM P md ops S Q fuel (listed.setIfInBounds i true)) a w
variable {S : Nat → Bool} {Q : Exit → Act → World → Prop}
theorem wpAny_of_M : ∀ (fuel : Nat) (listed : Array Bool) (a : Act) (w : World), wpAnyM P md ops S Q fuel listed a w → wpAny P md ops Q fuel listed a w
  | 0, _, _, _, h => h
  | fuel + 1, listed, a, w, h => ⟨h.1, fun i hi => by
      have h2 := h.2 i hi
      split at h2
      · exact wpOp_of_stOp (fun a' h' => wpAny_of_M fuel _ a' w h') h2
      · exact wpOp_mono (fun a' w' h' => wpAny_of_M fuel _ a' w' h') h2⟩
theorem closed_set {i : Nat} {listed : Array Bool} (hc : Closed md ops listed) (hi : i ∈ Region.ready md ops listed) : Closed md ops (listed.setIfInBounds i true) := by
  obtain ⟨_, oi, hoi, hall⟩ := mem_ready.1 hi
  intro j oj hj hl e he hb
  by_cases hij : i = j
  · subst hij
    have : oj = oi := Option.some.inj (hj.symm.trans hoi)
    subst this
    exact getD_set_true (hall e he hb)
  · rw [getD_set_ne false hij] at hl
    exact getD_set_true (hc j oj hj hl e he hb)
theorem wpAnyM_first {i : Nat} {oi : Oper} {v : Value} (hi : ops[i]? = some oi) (hsel : ∀ (j : Nat) (o : Oper) cs b, ops[j]? = some o → o.op ≠ .select cs b)
    (hQ : ∀ c a w, Q (.panic c) (a.put oi.dst v) w → Q (.panic c) a w) (hS : S i = true) :
    ∀ (fuel : Nat) (listed : Array Bool) (a : Act) (w : World), Closed md ops listed →
      (∀ j oj, ops[j]? = some oj → j ≠ i → listed.getD j true = false → (desc md ops i).getD j false = false → oi.apart ops oj = true ∧ (S j = true ∨ pureB oi = true)) →
      i ∈ Region.ready md ops listed → YieldsAt P ops w oi v a →
      wpAnyM P md ops S Q fuel (listed.setIfInBounds i true) (a.put oi.dst v) w → wpAnyM P md ops S Q (fuel + 1) listed a w := by
  intro fuel
  induction fuel with
  | zero =>
    intro listed a w hc hfree hr hy H
    refine ⟨fun h => (by rw [h] at hr; cases hr), fun j hj => ?_⟩
    by_cases hji : j = i
    · subst hji; rw [if_pos hS]; exact hy.stOp hi H
    · have := ready_mono hj hji
      rw [H.1] at this
      cases this
  | succ fuel ih =>
    intro listed a w hc hfree hr hy H
    refine ⟨fun h => (by rw [h] at hr; cases hr), fun j hj => ?_⟩
    by_cases hji : j = i
    · subst hji; rw [if_pos hS]; exact hy.stOp hi H
    · have h1 := H.2 j (ready_mono hj hji)
      obtain ⟨hjun, oj, hoj, hall⟩ := mem_ready.1 hj
      have hiun : listed.getD i false = false := getD_both (mem_ready.1 hr).1
      have hnd : (desc md ops i).getD j false = false := by
        cases hd : (desc md ops i).getD j false
        · rfl
        · exact absurd hj (late_desc i j hd listed hc hiun).2
      have hap := hfree j oj hoj hji hjun hnd
      have hfree' : ∀ k ok, ops[k]? = some ok → k ≠ i → (listed.setIfInBounds j true).getD k true = false →
          (desc md ops i).getD k false = false → oi.apart ops ok = true ∧ (S k = true ∨ pureB oi = true) := fun k ok hk hki hun hno => by
        refine hfree k ok hk hki ?_ hno
        by_cases hjk : j = k
        · subst hjk; exact hjun
        · rw [getD_set_ne true hjk] at hun; exact hun
      split
      · rename_i hSj
        rw [if_pos hSj] at h1
        have h2 := stOp_put hoj hap.1 (fun cs b => hsel i oi cs b hi) (fun cs b => hsel j oj cs b hoj) hy h1
        refine stOp_mono (fun a' h3 => ih (listed.setIfInBounds j true) a' w (closed_set hc hj) hfree' (ready_mono hr (Ne.symm hji)) h3.1 ?_) h2
        rw [Array.setIfInBounds_comm _ _ hji]
        exact h3.2
      · rename_i hSj
        rw [if_neg hSj] at h1
        have hp : pureB oi = true := hap.2.resolve_left hSj
        have h2 := wpOp_put hoj hap.1 (fun cs b => hsel i oi cs b hi) (fun cs b => hsel j oj cs b hoj) hQ (yields_of_pure hp hy) h1
        refine wpOp_mono (fun a' w' h3 => ih (listed.setIfInBounds j true) a' w' (closed_set hc hj) hfree' (ready_mono hr (Ne.symm hji)) (yieldsAt_of h3.1) ?_) h2
        rw [Array.setIfInBounds_comm _ _ hji]
        exact h3.2
def freeM (md : Region.Mode) (ops : Array Oper) (S : Nat → Bool) (listed : Array Bool) (i : Nat) : Bool :=
  match ops[i]? with
  | none => false
  | some oi => let d := desc md ops i
    (List.range ops.size).all fun j => j == i || listed.getD j true || d.getD j false || match ops[j]? with
      | some oj => oi.apart ops oj && (S j || pureB oi)
      | none => true
theorem freeM_spec {i : Nat} {oi : Oper} {listed : Array Bool} (hi : ops[i]? = some oi) (h : freeM md ops S listed i = true) (j : Nat) (oj : Oper)
    (hj : ops[j]? = some oj) (hne : j ≠ i) (hun : listed.getD j true = false) (hno : (desc md ops i).getD j false = false) :
    oi.apart ops oj = true ∧ (S j = true ∨ pureB oi = true) := by
  simp only [freeM, hi, List.all_eq_true, List.mem_range] at h
  have h1 := h j (Array.getElem?_eq_some_iff.1 hj).1
  simpa only [hj, Bool.or_eq_true, beq_iff_eq, hne, false_or, hun, hno, Bool.false_eq_true, Bool.and_eq_true] using h1
def mixFrom (md : Region.Mode) (ops : Array Oper) (S : Nat → Bool) : Nat → Nat → Array Bool → Bool
  | 0, _, listed => (Region.ready md ops listed).isEmpty
  | fuel + 1, k, listed => (if S k then (Region.ready md ops listed).contains k && freeM md ops S listed k else Region.ready md ops listed == [k]) &&
    mixFrom md ops S fuel (k + 1) (listed.setIfInBounds k true)
def wpMix (P : Program) (ops : Array Oper) (S : Nat → Bool) (Q : Exit → Act → World → Prop) : Nat → Nat → Act → World → Prop
  | 0, _, a, w => Q .normal a w
  | fuel + 1, k, a, w => if S k then stOp P ops w k (fun a' => wpMix P ops S Q fuel (k + 1) a' w) a else wpOp P ops Q k (wpMix P ops S Q fuel (k + 1)) a w
theorem wpAnyM_of_mix (hs : Region.noSelect ops = true) (hQ : ∀ c a w t v, Q (.panic c) (a.put t v) w → Q (.panic c) a w) :
    ∀ (fuel k : Nat) (listed : Array Bool) (a : Act) (w : World), Closed md ops listed → mixFrom md ops S fuel k listed = true → wpMix P ops S Q fuel k a w → wpAnyM P md ops S Q fuel listed a w
  | 0, k, listed, a, w, _, hB, h => ⟨by simpa [mixFrom] using hB, h⟩
  | fuel + 1, k, listed, a, w, hc, hB, h => by
    simp only [mixFrom, Bool.and_eq_true] at hB
    obtain ⟨hB, hB'⟩ := hB
    unfold wpMix at h
    by_cases hSk : S k = true
    · rw [if_pos hSk] at h hB
      simp only [Bool.and_eq_true] at hB
      have hr : k ∈ Region.ready md ops listed := by simpa using hB.1
      obtain ⟨_, ok, hok, _⟩ := mem_ready.1 hr
      obtain ⟨v, hy, hK⟩ := yieldsAt_of_stOp hok h
      exact wpAnyM_first hok (Region.noSelect_spec hs) (fun c a w => hQ c a w _ _) hSk fuel listed a w hc (freeM_spec hok hB.2) hr hy
        (wpAnyM_of_mix hs hQ fuel (k + 1) _ _ _ (closed_set hc hr) hB' hK)
    · rw [if_neg hSk] at h hB
      have hr : Region.ready md ops listed = [k] := by simpa using hB
      refine ⟨fun h0 => (by rw [hr] at h0; cases h0), fun i hi => ?_⟩
      have hki : k ∈ Region.ready md ops listed := by rw [hr]; simp
      rw [hr] at hi
      have : i = k := by simpa using hi
      subst this
      rw [if_neg hSk]
      exact wpOp_mono (fun a' w' h' => wpAnyM_of_mix hs hQ fuel (i + 1) _ a' w' (closed_set hc hki) hB' h') h
/-- The segments: 'true n': n operations that only read; 'false n': n operations that may do anything. -/
def kindAt : List (Bool × Nat) → Nat → Bool
  | [], _ => false
  | (b, n) :: r, k => if k < n then b else kindAt r (k - n)
def wpSegs (P : Program) (ops : Array Oper) (Q : Exit → Act → World → Prop) : List (Bool × Nat) → List Oper → Act → World → Prop
  | [], _, a, w => Q .normal a w
  | (true, n) :: r, l, a, w => wpStill P ops w (fun a' => wpSegs P ops Q r (l.drop n) a' w) (l.take n) a
  | (false, n) :: r, l, a, w => wpList P ops (Exit.then (fun a' w' => wpSegs P ops Q r (l.drop n) a' w') Q) (l.take n) a w
theorem wpOp_then {n : Act → World → Prop} {i : Nat} {K : Act → World → Prop} {a : Act} {w : World} (h : wpOp P ops (Exit.then n Q) i K a w) : wpOp P ops Q i K a w := by
  unfold wpOp at *
  split
  · rename_i ho; simpa [ho] using h
  · rename_i o ho
    simp only [ho] at h
    split
    · rename_i hw
      simp only [hw, if_true] at h
      rcases h with h | ⟨h1, a', w', h2⟩
      · refine .inl ?_
        unfold Oper.wp at *
        generalize (execOp a.eval o).run P w = r at *
        cases r with
        | ok m w' =>
          cases m <;> simp only [Oper.upon] at h ⊢
          case enter f args => exact Calls.mono h fun e w'' he => by cases e <;> first | exact he | (obtain ⟨a, w, hx⟩ := he; exact ⟨a, w, hx⟩)
          all_goals exact h
        | halt x w' => cases x <;> simp only [Oper.upon] at h ⊢ <;> exact h
      · exact .inr ⟨h1, a', w', h2⟩
    · rename_i hw; simp only [hw] at h; exact h
theorem mix_still {k n m : Nat} {L : Act → Prop} {w : World} (hS : ∀ j, k ≤ j → j < k + n → S j = true) (hL : ∀ a, L a → wpMix P ops S Q m (k + n) a w) :
    ∀ (l : List Oper) (a : Act), l.length = n → (∀ j, j < n → l[j]? = ops[k + j]?) → wpStill P ops w L l a → wpMix P ops S Q (n + m) k a w := by
  intro l
  induction l generalizing k n with
  | nil => intro a hn _ h; obtain rfl : n = 0 := by simpa using hn.symm
           rw [Nat.zero_add]; exact hL a h
  | cons o l ih =>
    intro a hn hl h
    obtain ⟨n, rfl⟩ : ∃ n', n = n' + 1 := ⟨l.length, by simpa using hn.symm⟩
    have h0 : ops[k]? = some o := by simpa using (hl 0 (by omega)).symm
    rw [show n + 1 + m = (n + m) + 1 by omega]
    unfold wpMix
    rw [if_pos (hS k (Nat.le_refl _) (by omega))]
    have hst : stOp P ops w k (wpStill P ops w L l) a := by unfold stOp; simp only [h0]; exact h
    refine stOp_mono (fun a' h' => ih (k := k + 1) (n := n) (fun j h1 h2 => hS j (by omega) (by omega)) (fun a ha => ?_) a' (by simpa using hn) (fun j hj => ?_) h') hst
    · rw [show k + 1 + n = k + (n + 1) by omega]; exact hL a ha
    · have := hl (j + 1) (by omega); simpa [Nat.add_assoc, Nat.add_comm 1 j] using this
theorem mix_list {k n m : Nat} {L : Act → World → Prop} (hS : ∀ j, k ≤ j → j < k + n → S j = false) (hL : ∀ a w, L a w → wpMix P ops S Q m (k + n) a w) :
    ∀ (l : List Oper) (a : Act) (w : World), l.length = n → (∀ j, j < n → l[j]? = ops[k + j]?) → wpList P ops (Exit.then L Q) l a w → wpMix P ops S Q (n + m) k a w := by
  intro l
  induction l generalizing k n with
  | nil => intro a w hn _ h; obtain rfl : n = 0 := by simpa using hn.symm
           rw [Nat.zero_add]; exact hL a w h
  | cons o l ih =>
    intro a w hn hl h
    obtain ⟨n, rfl⟩ : ∃ n', n = n' + 1 := ⟨l.length, by simpa using hn.symm⟩
    have h0 : ops[k]? = some o := by simpa using (hl 0 (by omega)).symm
    rw [show n + 1 + m = (n + m) + 1 by omega]
    unfold wpMix
    rw [if_neg (by rw [hS k (Nat.le_refl _) (by omega)]; simp)]
    have hst : wpOp P ops (Exit.then L Q) k (wpList P ops (Exit.then L Q) l) a w := by unfold wpOp; simp only [h0]; exact h
    refine wpOp_mono (fun a' w' h' => ih (k := k + 1) (n := n) (fun j h1 h2 => hS j (by omega) (by omega)) (fun a w ha => ?_) a' w' (by simpa using hn) (fun j hj => ?_) h') (wpOp_then hst)
    · rw [show k + 1 + n = k + (n + 1) by omega]; exact hL a w ha
    · have := hl (j + 1) (by omega); simpa [Nat.add_assoc, Nat.add_comm 1 j] using this
def segsLen : List (Bool × Nat) → Nat
  | [] => 0
  | (_, n) :: r => n + segsLen r
theorem mix_segs : ∀ (segs : List (Bool × Nat)) (k : Nat) (l : List Oper) (a : Act) (w : World), (∀ j, k ≤ j → S j = kindAt segs (j - k)) → l.length = segsLen segs → (∀ j, l[j]? = ops[k + j]?) →
    wpSegs P ops Q segs l a w → wpMix P ops S Q (segsLen segs) k a w
  | [], k, l, a, w, _, _, _, h => h
  | (true, n) :: r, k, l, a, w, hS, hlen, hl, h => by
    simp only [segsLen] at hlen ⊢
    refine mix_still (fun j h1 h2 => ?_) (fun a' h' => mix_segs r (k + n) (l.drop n) a' w (fun j hj => ?_) (by simp; omega) (fun j => ?_) h') (l.take n) a (by simp; omega) (fun j hj => ?_) h
    · rw [hS j h1]; simp only [kindAt]; rw [if_pos (by omega)]
    · rw [hS j (by omega)]; simp only [kindAt]; rw [if_neg (by omega)]; congr 1; omega
    · rw [List.getElem?_drop, hl, Nat.add_assoc]
    · rw [List.getElem?_take_of_lt hj]; exact hl j
  | (false, n) :: r, k, l, a, w, hS, hlen, hl, h => by
    simp only [segsLen] at hlen ⊢
    refine mix_list (fun j h1 h2 => ?_) (fun a' w' h' => mix_segs r (k + n) (l.drop n) a' w' (fun j hj => ?_) (by simp; omega) (fun j => ?_) h') (l.take n) a w (by simp; omega) (fun j hj => ?_) h
    · rw [hS j h1]; simp only [kindAt]; rw [if_pos (by omega)]
    · rw [hS j (by omega)]; simp only [kindAt]; rw [if_neg (by omega)]; congr 1; omega
    · rw [List.getElem?_drop, hl, Nat.add_assoc]
    · rw [List.getElem?_take_of_lt hj]; exact hl j
def mixB (md : Region.Mode) (ops : Array Oper) (segs : List (Bool × Nat)) : Bool :=
  Region.noSelect ops && (segsLen segs == ops.size) && mixFrom md ops (kindAt segs) ops.size 0 (Array.replicate ops.size false)
theorem wp_region_mix {id : Nat} {a : Act} {w : World} {l : List Oper} (segs : List (Bool × Nat)) (hm : P.follows .mixedOrders = true) (hB : mixB .any l.toArray segs = true)
    (hQ : ∀ c a w t v, Q (.panic c) (a.put t v) w → Q (.panic c) a w)
    (h : wpSegs P l.toArray Q segs l a { w with drawn := w.drawn + 1 }) : (Code.region id l.toArray true).wp P Q a w := by
  simp only [mixB, Bool.and_eq_true, beq_iff_eq] at hB
  obtain ⟨⟨hs, hlen⟩, hB⟩ := hB
  refine wp_region_any hm (wpAny_of_M (S := kindAt segs) _ _ _ _ ?_)
  refine wpAnyM_of_mix hs hQ _ 0 _ _ _ (fun j oj _ hl => (by rw [getD_replicate_false] at hl; cases hl)) hB ?_
  have := mix_segs (S := kindAt segs) segs 0 l a { w with drawn := w.drawn + 1 } (fun j _ => by simp) (by rw [hlen]; simp) (fun j => by simp) h
  rw [hlen] at this
  exact this
end
end Go.Lk
