-- What lockkeeperref27 reads, as data, and that it is what script reads. Of no program.
-- What lockkeeperref27 reads is what script reads: the law.
import Derived.Test.YtajoldboafkpdaaDoorRoundU
import Derived.Test.YtajoldboafkpdaaDoorRefCount
import Derived.Test.YtajoldboafkpdaaDoorSplitM
import Derived.Lib.ItoaLen
import Derived.Test.YtajoldboafkpdaaDoorRead
set_option linter.unusedVariables false
set_option linter.unusedSimpArgs false
namespace Go.Proofs.YtajoldboafkpdaaDoor
open Go.RowKit Go.Lk Go.Lib
def intR (w : Bs) : Option Int := if (countS w 9223372036854775807).2 then some ((countS w 9223372036854775807).1 : Int) else none
def hdrR (w : Bs) : Option (Bs × Bs) := if (61 : UInt8) ∈ w ∧ tokenS (cut w [61]).1 = true then (unhexS (cut w [61]).2.1).map (fun b => ((cut w [61]).1, b)) else none
def allR {α : Type} (f : Bs → Option α) : List Bs → Option (List α)
  | [] => some []
  | w :: ws => match f w, allR f ws with
    | some n, some l => some (n :: l)
    | _, _ => none
theorem allR_eq {α : Type} (f : Bs → Option α) (g : Bs → α) (p : Bs → Bool) (h : ∀ w, f w = if p w then some (g w) else none) : ∀ ws, allR f ws = if ws.all p then some (ws.map g) else none
  | [] => rfl
  | w :: ws => by
    unfold allR
    rw [allR_eq f g p h ws, h w]
    cases hp : p w <;> cases hq : ws.all p <;> simp [hp, hq]
theorem decDigits_len20 (n : Nat) (h : n ≤ 18446744073709551615) : (decDigits n).length ≤ 20 := by
  rw [decDigits_length]; exact nDigits_le20 n (by omega)
theorem countS_true {w : Bs} {most : Nat} (hm : most ≤ 18446744073709551615) : (countS w most).2 = true ↔ decDigits (digitsS w).1 = w ∧ (digitsS w).1 ≤ most := by
  unfold countS
  constructor
  · intro h
    split at h
    · rename_i hc; exact ⟨hc.2.2.1, hc.2.2.2⟩
    · cases h
  · rintro ⟨h1, h2⟩
    have h3 := digitsS_decDigits (digitsS w).1 (by omega)
    rw [h1] at h3
    rw [if_pos ⟨by rw [h3], by have := decDigits_len20 (digitsS w).1 (by omega); rw [h1] at this; exact this, h1, h2⟩]
theorem countS_val {w : Bs} {most : Nat} (h : (countS w most).2 = true) : (countS w most).1 = (digitsS w).1 := by
  unfold countS at h ⊢
  split at h
  · rename_i hc; rw [if_pos hc]
  · cases h
theorem intR_eq (w : Bs) : intR w = if decide (0 ≤ intS w) && decide (itoa (intS w) = w) then some (intS w) else none := by
  have key : (countS w 9223372036854775807).2 = true ↔ (0 ≤ intS w ∧ itoa (intS w) = w) := by
    rw [countS_true (by omega)]
    constructor
    · rintro ⟨h1, h2⟩
      have h3 := digitsS_decDigits (digitsS w).1 (by omega)
      rw [h1] at h3
      have h4 : intS w = ((digitsS w).1 : Int) := by
        unfold intS
        rw [if_neg]
        rw [show (digitsS w).2 = true by rw [h3]]
        simp; omega
      rw [h4]
      exact ⟨by omega, by rw [itoa_nonneg]; exact h1⟩
    · rintro ⟨h1, h2⟩
      have h3 : ¬ ((!(digitsS w).2) = true ∨ 9223372036854775807 < (digitsS w).1) := by
        intro h
        unfold intS at h1
        rw [if_pos h] at h1
        omega
      have h4 : intS w = ((digitsS w).1 : Int) := by unfold intS; rw [if_neg h3]
      rw [h4, itoa_nonneg] at h2
      exact ⟨h2, by rw [not_or] at h3; omega⟩
  have val : (countS w 9223372036854775807).2 = true → ((countS w 9223372036854775807).1 : Int) = intS w := by
    intro h
    have h1 := countS_val h
    obtain ⟨h2, h3⟩ := (countS_true (by omega)).1 h
    rw [h1]
    have h4 := digitsS_decDigits (digitsS w).1 (by omega)
    rw [h2] at h4
    unfold intS
    rw [if_neg]
    rw [show (digitsS w).2 = true by rw [h4]]
    simp; omega
  unfold intR
  by_cases h : (countS w 9223372036854775807).2 = true
  · rw [if_pos h, val h]
    obtain ⟨h1, h2⟩ := key.1 h
    simp [h1, h2]
  · rw [if_neg h]
    have hn : ¬ (0 ≤ intS w ∧ itoa (intS w) = w) := fun hh => h (key.2 hh)
    rw [if_neg]
    simp only [Bool.and_eq_true, decide_eq_true_eq]
    exact hn
theorem numR_eq (w : Bs) : (countS w 18446744073709551615).2 = decide (itoa ((digitsS w).1 : Int) = w) ∧ ((countS w 18446744073709551615).2 = true → (countS w 18446744073709551615).1 = (digitsS w).1) := by
  refine ⟨?_, countS_val⟩
  have hle : (digitsS w).1 ≤ 18446744073709551615 := by unfold digitsS; split <;> simp <;> omega
  rw [Bool.eq_iff_iff, countS_true (by omega), decide_eq_true_eq, itoa_nonneg]
  exact ⟨fun h => h.1, fun h => ⟨h, hle⟩⟩
theorem hexback (r : Bs) : hexS ((unhexS r).getD []) = r ↔ (unhexS r).isSome = true := by
  cases h : unhexS r with
  | some b => simp [hexS_unhexS h]
  | none =>
    simp only [Option.getD_none, Option.isSome_none, Bool.false_eq_true, iff_false]
    intro hr
    have h1 := unhexS_hexS []
    rw [hr, h] at h1
    cases h1
theorem hdrR_eq (w : Bs) : hdrR w = if tokenS (hdrS w).1 && decide (hdrW (hdrS w) = w) then some (hdrS w) else none := by
  unfold hdrR hdrS hdrW
  by_cases h : (61 : UInt8) ∈ w
  · obtain ⟨x, r, hx, hn⟩ := List.eq_append_cons_of_mem h
    have hc : cut w [61] = (x, r, true) := by rw [hx]; exact cut_mid 61 x r hn
    rw [hc]
    simp only [h, true_and]
    have hw : (x ++ 61 :: hexS ((unhexS r).getD []) = w) ↔ hexS ((unhexS r).getD []) = r := by
      rw [hx]
      constructor
      · intro h; have := List.append_cancel_left h; injection this
      · intro h; rw [h]
    cases ht : tokenS x
    · simp
    · cases hu : unhexS r with
      | some b =>
        have := (hexback r).2 (by rw [hu]; rfl)
        rw [hu] at this hw
        simp [hw.2 this]
        simp only [Option.getD_some] at hw this
        rw [hw.2 this]
      | none =>
        have h2 : ¬ (x ++ 61 :: hexS ((unhexS r).getD []) = w) := fun h => by have := (hexback r).1 (hw.1 h); rw [hu] at this; cases this
        rw [hu] at h2
        simp only [Option.getD_none] at h2
        simp [h2]
  · have hc : cut w [61] = (w, [], false) := by unfold cut; rw [index_not 61 w h]; rfl
    rw [hc]
    have h2 : ¬ (w ++ 61 :: hexS ((unhexS []).getD []) = w) := fun hh => by have := congrArg List.length hh; rw [List.length_append, List.length_cons] at this; omega
    simp only [h, false_and, if_false, h2, decide_false, Bool.and_false, Bool.false_eq_true]
theorem creds_word (w : Bs) : itoa (if decide (w = [49]) then 1 else 0) = w ↔ (w = [48] ∨ w = [49]) := by
  by_cases h : w = [49]
  · subst h; simp; decide +kernel
  · rw [decide_eq_false h]
    simp only [Bool.false_eq_true, if_false, h, or_false]
    constructor
    · intro hh; rw [← hh]; decide +kernel
    · intro hh; rw [hh]; decide +kernel
theorem map_fix {f : Bs → Bs} {ws : List Bs} : ws.map f = ws ↔ ∀ w ∈ ws, f w = w := by
  induction ws with
  | nil => simp
  | cons x l ih => simp only [List.map_cons, List.cons.injEq, List.mem_cons, forall_eq_or_imp, ih]
def intP (w : Bs) : Bool := decide (0 ≤ intS w) && decide (itoa (intS w) = w)
def hdrP (w : Bs) : Bool := tokenS (hdrS w).1 && decide (hdrW (hdrS w) = w)
theorem ints_eq (ws : List Bs) : allR intR ws = if ws.all intP then some (ws.map intS) else none := allR_eq intR intS intP intR_eq ws
theorem hdrs_eq (ws : List Bs) : allR hdrR ws = if ws.all hdrP then some (ws.map hdrS) else none := allR_eq hdrR hdrS hdrP hdrR_eq ws
theorem ints_iff (ws : List Bs) : ws.all intP = true ↔ (intsW (ws.map intS)).2 = true ∧ (intsW (ws.map intS)).1 = ws := by
  simp only [intsW, List.map_map, map_fix, Function.comp_apply, List.all_eq_true, List.mem_map, intP, Bool.and_eq_true, decide_eq_true_eq]
  constructor
  · intro h
    exact ⟨by rintro x ⟨y, hy, rfl⟩; exact (h y hy).1, fun w hw => (h w hw).2⟩
  · rintro ⟨h1, h2⟩ w hw
    exact ⟨h1 _ ⟨w, hw, rfl⟩, h2 w hw⟩
theorem hdrs_iff (ws : List Bs) : ws.all hdrP = true ↔ (hdrsW (ws.map hdrS)).2 = true ∧ (hdrsW (ws.map hdrS)).1 = ws := by
  simp only [hdrsW, List.map_map, map_fix, Function.comp_apply, List.all_eq_true, List.mem_map, hdrP, Bool.and_eq_true, decide_eq_true_eq]
  constructor
  · intro h
    exact ⟨by rintro x ⟨y, hy, rfl⟩; exact (h y hy).1, fun w hw => (h w hw).2⟩
  · rintro ⟨h1, h2⟩ w hw
    exact ⟨h1 _ ⟨w, hw, rfl⟩, h2 w hw⟩
def reqP (ws : List Bs) : Bool := decide (9 ≤ ws.length) && (textS (wd ws 0) && textS (wd ws 1) && textS (wd ws 2)) && (decide (wd ws 4 = [48]) || decide (wd ws 4 = [49]))
/-- A request of the words behind its name. -/
def reqR (ws : List Bs) : Option ReqL :=
  if reqP ws && (([wd ws 3, wd ws 5, wd ws 7, wd ws 8]).all intP && (countS (wd ws 6) 18446744073709551615).2 && (ws.drop 9).all hdrP) then some (reqS ws) else none
theorem reqR_iff (ws : List Bs) : (reqP ws && (([wd ws 3, wd ws 5, wd ws 7, wd ws 8]).all intP && (countS (wd ws 6) 18446744073709551615).2 && (ws.drop 9).all hdrP)) = true ↔ (reqW (reqS ws)).2 = true ∧ (reqW (reqS ws)).1 = ws := by
  by_cases h9 : 9 ≤ ws.length
  · obtain ⟨w0, w1, w2, w3, w4, w5, w6, w7, w8, r, rfl⟩ : ∃ w0 w1 w2 w3 w4 w5 w6 w7 w8 r, ws = w0 :: w1 :: w2 :: w3 :: w4 :: w5 :: w6 :: w7 :: w8 :: r := by
      match ws, h9 with
      | w0 :: w1 :: w2 :: w3 :: w4 :: w5 :: w6 :: w7 :: w8 :: r, _ => exact ⟨w0, w1, w2, w3, w4, w5, w6, w7, w8, r, rfl⟩
    have hr := hdrs_iff r
    have hc := creds_word w4
    have hn := (numR_eq w6).1
    have e : wd (w0 :: w1 :: w2 :: w3 :: w4 :: w5 :: w6 :: w7 :: w8 :: r) 0 = w0 ∧ wd (w0 :: w1 :: w2 :: w3 :: w4 :: w5 :: w6 :: w7 :: w8 :: r) 1 = w1 ∧ wd (w0 :: w1 :: w2 :: w3 :: w4 :: w5 :: w6 :: w7 :: w8 :: r) 2 = w2 ∧ wd (w0 :: w1 :: w2 :: w3 :: w4 :: w5 :: w6 :: w7 :: w8 :: r) 3 = w3 ∧ wd (w0 :: w1 :: w2 :: w3 :: w4 :: w5 :: w6 :: w7 :: w8 :: r) 4 = w4 ∧ wd (w0 :: w1 :: w2 :: w3 :: w4 :: w5 :: w6 :: w7 :: w8 :: r) 5 = w5 ∧ wd (w0 :: w1 :: w2 :: w3 :: w4 :: w5 :: w6 :: w7 :: w8 :: r) 6 = w6 ∧ wd (w0 :: w1 :: w2 :: w3 :: w4 :: w5 :: w6 :: w7 :: w8 :: r) 7 = w7 ∧ wd (w0 :: w1 :: w2 :: w3 :: w4 :: w5 :: w6 :: w7 :: w8 :: r) 8 = w8 ∧ (w0 :: w1 :: w2 :: w3 :: w4 :: w5 :: w6 :: w7 :: w8 :: r).drop 9 = r := ⟨rfl, rfl, rfl, rfl, rfl, rfl, rfl, rfl, rfl, rfl⟩
    obtain ⟨e0, e1, e2, e3, e4, e5, e6, e7, e8, e9⟩ := e
    unfold reqP reqW reqS
    rw [e0, e1, e2, e3, e4, e5, e6, e7, e8, e9, hn]
    simp only [intsW, List.map_cons, List.map_nil, List.all_cons, List.all_nil, Bool.and_true, Bool.and_eq_true, Bool.or_eq_true, decide_eq_true_eq, intP, List.cons_append, List.nil_append, List.append_assoc, List.cons.injEq, true_and, hr, List.length_cons]
    have hb : (0 : Int) ≤ if w4 = [49] then 1 else 0 := by split <;> omega
    have hc' : itoa (if w4 = [49] then 1 else 0) = w4 ↔ (w4 = [48] ∨ w4 = [49]) := by rw [← hc]; simp
    rw [hc']
    constructor
    · rintro ⟨⟨⟨_, ⟨⟨t0, t1⟩, t2⟩⟩, hw4⟩, ⟨⟨⟨⟨a1, a2⟩, ⟨b1, b2⟩, ⟨c1, c2⟩, ⟨d1, d2⟩⟩, n6⟩, f1, f2⟩⟩
      exact ⟨⟨⟨⟨⟨⟨t0, t1⟩, t2⟩, a1, hb, b1⟩, c1, d1⟩, f1⟩, a2, hw4, b2, n6, c2, d2, f2⟩
    · rintro ⟨⟨⟨⟨⟨⟨t0, t1⟩, t2⟩, a1, _, b1⟩, c1, d1⟩, f1⟩, a2, hw4, b2, n6, c2, d2, f2⟩
      exact ⟨⟨⟨by omega, ⟨⟨t0, t1⟩, t2⟩⟩, hw4⟩, ⟨⟨⟨⟨a1, a2⟩, ⟨b1, b2⟩, ⟨c1, c2⟩, ⟨d1, d2⟩⟩, n6⟩, f1, f2⟩⟩
  · have h1 : reqP ws = false := by unfold reqP; rw [decide_eq_false h9]; rfl
    rw [h1]
    simp only [Bool.false_and, Bool.false_eq_true, false_iff, not_and]
    intro _ h
    have := congrArg List.length h
    simp only [reqW, intsW, hdrsW, List.length_append, List.length_map, List.length_cons, List.length_nil] at this
    omega
/-- Whether the words behind an act's name are right. -/
def actP (op : Int) (ws : List Bs) : Bool :=
  if op = 1 ∨ op = 9 then decide (ws = [])
  else if op = 2 then ws.all intP
  else if op = 3 then reqP ws && (([wd ws 3, wd ws 5, wd ws 7, wd ws 8]).all intP && (countS (wd ws 6) 18446744073709551615).2 && (ws.drop 9).all hdrP)
  else if op = 8 then decide (ws.length = 1) && (countS (wd ws 0) 18446744073709551615).2
  else if op = 10 then decide (2 ≤ ws.length) && ((ws.take 2).all intP && (ws.drop 2).all hdrP)
  else if op = 11 then decide (ws.length = 2) && (intP (wd ws 0) && (unhexS (wd ws 1)).isSome)
  else if op = 14 then decide (ws.length = 2) && ws.all intP
  else decide (ws.length = 1) && intP (wd ws 0)
theorem actP_iff {op : Int} (ws : List Bs) (h : 1 ≤ op ∧ op ≤ 14) : actP op ws = true ↔ (actW (parseS op ws)).2 = true ∧ (actW (parseS op ws)).1 = ws := by
  have one : ∀ w, intP w = true ↔ (intsW [intS w]).2 = true ∧ (intsW [intS w]).1 = [w] := fun w => by have := ints_iff [w]; simpa using this
  rcases (show op = 1 ∨ op = 2 ∨ op = 3 ∨ op = 4 ∨ op = 5 ∨ op = 6 ∨ op = 7 ∨ op = 8 ∨ op = 9 ∨ op = 10 ∨ op = 11 ∨ op = 12 ∨ op = 13 ∨ op = 14 by omega) with rfl | rfl | rfl | rfl | rfl | rfl | rfl | rfl | rfl | rfl | rfl | rfl | rfl | rfl
  case inl => simp [actP, parseS, actW, eq_comm]
  case inr.inl =>
    have := ints_iff ws
    simpa [actP, parseS, actW] using this
  case inr.inr.inl =>
    have := reqR_iff ws
    have e1 : actP 3 ws = (reqP ws && (([wd ws 3, wd ws 5, wd ws 7, wd ws 8]).all intP && (countS (wd ws 6) 18446744073709551615).2 && (ws.drop 9).all hdrP)) := rfl
    have e2 : actW (parseS 3 ws) = reqW (reqS ws) := rfl
    rw [e1, e2]; exact this
  case inr.inr.inr.inr.inr.inr.inr.inl =>
    have e1 : actP 8 ws = (decide (ws.length = 1) && (countS (wd ws 0) 18446744073709551615).2) := rfl
    have e2 : actW (parseS 8 ws) = ([itoa (digitsS (wd ws 0)).1], true) := rfl
    rw [e1, e2, (numR_eq (wd ws 0)).1]
    match ws with
    | [] => simp
    | [w] => simp [wd]
    | x :: y :: r => simp
  case inr.inr.inr.inr.inr.inr.inr.inr.inl => simp [actP, parseS, actW, eq_comm]
  case inr.inr.inr.inr.inr.inr.inr.inr.inr.inl =>
    have e1 : actP 10 ws = (decide (2 ≤ ws.length) && ((ws.take 2).all intP && (ws.drop 2).all hdrP)) := rfl
    have e2 : actW (parseS 10 ws) = ((intsW [intS (wd ws 0), intS (wd ws 1)]).1 ++ (hdrsW ((ws.drop 2).map hdrS)).1, (intsW [intS (wd ws 0), intS (wd ws 1)]).2 && (hdrsW ((ws.drop 2).map hdrS)).2) := rfl
    rw [e1, e2]
    match ws with
    | [] => simp [intsW]
    | [w] => simp [intsW]
    | x :: y :: r =>
      have h1 := ints_iff [x, y]
      have h2 := hdrs_iff r
      simp only [List.length_cons, List.take_succ_cons, List.take_zero, List.drop_succ_cons, List.drop_zero, wd, List.getD_cons_zero, List.getD_cons_succ, Bool.and_eq_true, decide_eq_true_eq, h1, h2]
      simp only [List.map_cons, List.map_nil, intsW, List.cons_append, List.nil_append, List.cons.injEq, and_true]
      constructor
      · rintro ⟨_, ⟨a, b, c⟩, d, e⟩; exact ⟨⟨a, d⟩, b, c, e⟩
      · rintro ⟨⟨a, d⟩, b, c, e⟩; exact ⟨by omega, ⟨a, b, c⟩, d, e⟩
  case inr.inr.inr.inr.inr.inr.inr.inr.inr.inr.inl =>
    have e1 : actP 11 ws = (decide (ws.length = 2) && (intP (wd ws 0) && (unhexS (wd ws 1)).isSome)) := rfl
    have e2 : actW (parseS 11 ws) = ((intsW [intS (wd ws 0)]).1 ++ [hexS ((unhexS (wd ws 1)).getD [])], (intsW [intS (wd ws 0)]).2) := rfl
    rw [e1, e2]
    match ws with
    | [] => simp [intsW]
    | [w] => simp [intsW]
    | [x, y] =>
      have h1 := one x
      have h2 := hexback y
      simp only [List.length_cons, List.length_nil, wd, List.getD_cons_zero, List.getD_cons_succ, Bool.and_eq_true, decide_eq_true_eq, h1, ← h2]
      simp [intsW, and_assoc]
    | x :: y :: z :: r => simp [intsW]
  case inr.inr.inr.inr.inr.inr.inr.inr.inr.inr.inr.inr.inr =>
    have e1 : actP 14 ws = (decide (ws.length = 2) && ws.all intP) := rfl
    have e2 : actW (parseS 14 ws) = intsW [intS (wd ws 0), intS (wd ws 1)] := rfl
    rw [e1, e2]
    match ws with
    | [] => simp [intsW]
    | [w] => simp [intsW]
    | [x, y] =>
      have h1 := ints_iff [x, y]
      rw [Bool.and_eq_true, h1]
      simp [wd]
    | x :: y :: z :: r => simp [intsW]
  all_goals
    have h1 := one (wd ws 0)
    simp only [intsW, List.map_cons, List.map_nil] at h1
    match ws with
    | [] => simp [actP, parseS, actW, intsW]
    | [w] => simp [actP, parseS, actW, intsW, wd] at h1 ⊢; simp [h1]
    | x :: y :: r => simp [actP, parseS, actW, intsW]
/-- lockkeeperref27.Read. -/
def readR (s : Bs) : Option ActL :=
  let ws := split s [32]
  let op := opOfS (ws.getD 0 [])
  if op = 0 then none else if actP op (ws.drop 1) then some (parseS op (ws.drop 1)) else none
theorem split_words : ∀ (n : Nat) (s : Bs), s.length ≤ n → ∃ x r, split s [32] = x :: r ∧ join (x :: r) [32] = s ∧ ∀ w ∈ x :: r, (32 : UInt8) ∉ w
  | n, s, hn => by
    by_cases h : (32 : UInt8) ∈ s
    · obtain ⟨x, r, rfl, hx⟩ := List.eq_append_cons_of_mem h
      cases n with
      | zero => simp at hn
      | succ n =>
        obtain ⟨y, t, h1, h2, h3⟩ := split_words n r (by rw [List.length_append, List.length_cons] at hn; omega)
        refine ⟨x, y :: t, by rw [split_mid _ _ _ hx, h1], by rw [join_cons2, h2], ?_⟩
        intro w hw
        rcases List.mem_cons.1 hw with rfl | hw
        · exact hx
        · exact h3 w hw
    · exact ⟨s, [], split_not _ _ h, by simp [join], by simpa using h⟩
end Go.Proofs.YtajoldboafkpdaaDoor
namespace Go.Proofs.YtajoldboafkpdaaDoor
set_option linter.unusedSimpArgs false
set_option linter.unusedVariables false
open Go.RowKit Go.Lk Go.Lib
theorem actB_lim {a : ActL} (h : ActLim a) : ActB a :=
  ⟨h.id.2, h.n.2, fun x hx => (h.ids.2 x hx).2, ⟨h.ti.1, by have := h.ti.2; omega⟩, h.st.2, h.rq.mo.2, h.rq.cl.2, ⟨h.rq.ti.1, by have := h.rq.ti.2; omega⟩, h.rq.gr.2, h.rq.si.2⟩
theorem opOfS_cases (w : Bs) : opOfS w = 0 ∨ (1 ≤ opOfS w ∧ opOfS w ≤ 14 ∧ opS (opOfS w) = w) := by
  unfold opOfS
  cases h : opW.findIdx? (· == w) with
  | none => exact .inl rfl
  | some i =>
    right
    obtain ⟨hi, hw, _⟩ := List.findIdx?_eq_some_iff_getElem.1 h
    have h14 : i < 14 := hi
    refine ⟨by simp only; omega, by simp only; omega, ?_⟩
    simp only
    unfold opS
    rw [if_neg (by omega)]
    have e : ((i : Int) + 1 - 1).toNat = i := by omega
    rw [e, List.getD_eq_getElem?_getD, List.getElem?_eq_getElem hi]
    exact eq_of_beq hw
theorem parseS_op (op : Int) (ws : List Bs) : (parseS op ws).op = op := by
  unfold parseS
  repeat' split
  all_goals rfl
theorem readR_eq {s : Bs} (hs : s.length ≤ 900000) : readR s = readS s := by
  obtain ⟨x, r, hsp, hj, hcl⟩ := split_words s.length s (Nat.le_refl _)
  have hL := rdLim_split hs
  rw [hsp, List.drop_succ_cons, List.drop_zero] at hL
  unfold readR readS
  rw [hsp]
  simp only [List.getD_cons_zero, List.drop_succ_cons, List.drop_zero]
  obtain ⟨op, hop⟩ : ∃ op, op = opOfS x := ⟨_, rfl⟩
  have hoc := opOfS_cases x
  have ho := opOfS_i64 x
  rw [← hop] at hoc ho ⊢
  have hB := actB_lim (parseS_lim hL ho)
  have hpo := parseS_op op r
  rcases hoc with h0 | ⟨h1, h2, h3⟩
  · rw [if_pos h0, if_neg]
    intro h
    unfold showS at h
    split at h
    · rename_i hw
      have := actW_op hw
      omega
    · cases h
  · rw [if_neg (by omega)]
    have hiff := actP_iff r ⟨h1, h2⟩
    have key : showS (parseS op r) = some s ↔ actP op r = true := by
      rw [hiff]
      unfold showS
      rw [hpo, h3]
      constructor
      · intro h
        split at h
        · rename_i hw
          refine ⟨hw, ?_⟩
          injection h with h
          have hc2 := actW_clean hw hB
          have h4 : split s [32] = x :: (actW (parseS op r)).1 := by
            rw [← h]
            exact split_join 32 _ (by simp) (fun w hm => by
              rcases List.mem_cons.1 hm with rfl | hm
              · exact hcl w (by simp)
              · exact hc2 w hm)
          rw [hsp] at h4
          injection h4 with _ h4
          exact h4.symm
        · cases h
      · rintro ⟨hw, he⟩
        rw [if_pos hw, he, hj]
    by_cases hp : actP op r = true
    · rw [if_pos hp, if_pos (key.2 hp)]
    · rw [if_neg hp, if_neg (fun h => hp (key.1 h))]
end Go.Proofs.YtajoldboafkpdaaDoor
