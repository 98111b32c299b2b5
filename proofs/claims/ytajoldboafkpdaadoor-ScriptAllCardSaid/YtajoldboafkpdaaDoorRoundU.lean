-- What is told of an act is read back. Of no program.
-- What is told of an act is read back: the law. Of no program.
-- No told act has a line's end in it. Of no program (lines of RoundT, RoundU for another byte).
import Derived.Test.YtajoldboafkpdaaDoorActs
import Derived.Test.YtajoldboafkpdaaDoorSplitJ
import Derived.Lib.ItoaLen
set_option linter.unusedVariables false
set_option linter.unusedSimpArgs false
namespace Go.Lk
open Go.Lib
theorem decV_append (a : List UInt8) (c : UInt8) : decV (a ++ [c]) = 10 * decV a + (c.toNat - 48) := by simp [decV, List.foldl_append]
theorem dig_toNat {k : Nat} (h : k < 10) : (UInt8.ofNat (48 + k)).toNat = 48 + k := by rw [UInt8.toNat_ofNat', Nat.mod_eq_of_lt (by omega)]
theorem decV_decDigits : ∀ (f n : Nat), n < f → decV (decDigits n) = n
  | 0, n, h => by omega
  | f + 1, n, h => by
    rw [decDigits]
    split
    · rename_i h10; simp [decV]; omega
    · rw [decV_append, decV_decDigits f (n / 10) (by omega), dig_toNat (by omega)]; omega
theorem decDigits_all : ∀ (f n : Nat), n < f → ∀ c ∈ decDigits n, isDig c = true
  | 0, n, h => by omega
  | f + 1, n, h => by
    intro c hc
    rw [decDigits] at hc
    split at hc
    · rename_i h10
      simp only [List.mem_singleton] at hc; subst hc
      simp [isDig]; omega
    · rw [List.mem_append] at hc
      rcases hc with hc | hc
      · exact decDigits_all f (n / 10) (by omega) c hc
      · simp only [List.mem_singleton] at hc; subst hc
        simp [isDig]; omega
theorem decDigits_ne (n : Nat) : decDigits n ≠ [] := by
  rw [decDigits]; split <;> simp
theorem digitsS_decDigits (n : Nat) (h : n ≤ 18446744073709551615) : digitsS (decDigits n) = (n, true) := by
  unfold digitsS
  rw [if_pos (List.all_eq_true.2 (decDigits_all (n + 1) n (by omega))), decV_decDigits (n + 1) n (by omega), Nat.min_eq_left h]
  simp [decDigits_ne]
theorem itoa_nat (n : Int) (h : 0 ≤ n) : itoa n = decDigits n.toNat := by unfold itoa; rw [if_neg (by omega)]
theorem intS_itoa (n : Int) (h0 : 0 ≤ n) (h1 : n ≤ 9223372036854775807) : intS (itoa n) = n := by
  rw [itoa_nat n h0]; unfold intS
  rw [digitsS_decDigits _ (by omega)]
  simp only [Bool.not_true, Bool.false_eq_true, false_or]
  rw [if_neg (by omega)]; omega
theorem numS_itoa (n : Int) (h0 : 0 ≤ n) (h1 : n ≤ 18446744073709551615) : ((digitsS (itoa n)).1 : Int) = n := by
  rw [itoa_nat n h0, digitsS_decDigits _ (by omega)]; simp; omega
theorem isDig_blank {c : UInt8} (h : isDig c = true) : c ≠ 32 := by
  rintro rfl; revert h; decide
theorem itoa_clean (n : Int) (h : 0 ≤ n) : (32 : UInt8) ∉ itoa n := by
  rw [itoa_nat n h]
  exact fun hm => isDig_blank (decDigits_all (n.toNat + 1) n.toNat (by omega) 32 hm) rfl
theorem hd_clean (n : Nat) (h : n < 16) : hd n ≠ 32 := by
  rcases (show n = 0 ∨ n = 1 ∨ n = 2 ∨ n = 3 ∨ n = 4 ∨ n = 5 ∨ n = 6 ∨ n = 7 ∨ n = 8 ∨ n = 9 ∨ n = 10 ∨ n = 11 ∨ n = 12 ∨ n = 13 ∨ n = 14 ∨ n = 15 by omega) with rfl | rfl | rfl | rfl | rfl | rfl | rfl | rfl | rfl | rfl | rfl | rfl | rfl | rfl | rfl | rfl <;> decide
theorem hexS_clean (b : List UInt8) : (32 : UInt8) ∉ hexS b := by
  unfold hexS
  split
  · decide
  · intro hm
    simp only [hexL, List.mem_flatMap, List.mem_cons, List.not_mem_nil, or_false] at hm
    obtain ⟨c, _, h | h⟩ := hm
    · exact hd_clean _ (by have := c.toNat_lt; omega) h.symm
    · exact hd_clean _ (by omega) h.symm
theorem textS_clean {s : List UInt8} (h : textS s = true) : (32 : UInt8) ∉ s := by
  intro hm
  simp only [textS, Bool.and_eq_true, List.all_eq_true] at h
  have := h.2 32 hm
  revert this; decide
theorem tokenS_clean {s : List UInt8} (h : tokenS s = true) : (32 : UInt8) ∉ s ∧ (61 : UInt8) ∉ s := by
  simp only [tokenS, Bool.and_eq_true, List.all_eq_true] at h
  constructor
  · intro hm; have := h.2 32 hm; revert this; decide
  · intro hm; have := h.2 61 hm; revert this; decide
theorem hdrS_hdrW {x : Bs × Bs} (h : tokenS x.1 = true) : hdrS (hdrW x) = x := by
  unfold hdrS hdrW
  rw [cut_mid 61 x.1 _ (tokenS_clean h).2]
  simp only [unhexS_hexS, Option.getD_some]
theorem hdrW_clean {x : Bs × Bs} (h : tokenS x.1 = true) : (32 : UInt8) ∉ hdrW x := by
  unfold hdrW
  intro hm
  rw [List.mem_append, List.mem_cons] at hm
  rcases hm with hm | hm | hm
  · exact (tokenS_clean h).1 hm
  · revert hm; decide
  · exact hexS_clean _ hm
/-- The bounds of what the fields' types hold. -/
structure ActB (a : ActL) : Prop where
  id : a.id ≤ 9223372036854775807
  n : a.n ≤ 9223372036854775807
  ids : ∀ x ∈ a.ids, x ≤ 9223372036854775807
  time : 0 ≤ a.time ∧ a.time ≤ 18446744073709551615
  status : a.status ≤ 9223372036854775807
  mode : a.req.mode ≤ 9223372036854775807
  cls : a.req.cls ≤ 9223372036854775807
  timeout : 0 ≤ a.req.timeout ∧ a.req.timeout ≤ 18446744073709551615
  group : a.req.group ≤ 9223372036854775807
  signal : a.req.signal ≤ 9223372036854775807
theorem opOfS_opS {n : Int} (h : 1 ≤ n ∧ n ≤ 14) : opOfS (opS n) = n := by
  rcases (show n = 1 ∨ n = 2 ∨ n = 3 ∨ n = 4 ∨ n = 5 ∨ n = 6 ∨ n = 7 ∨ n = 8 ∨ n = 9 ∨ n = 10 ∨ n = 11 ∨ n = 12 ∨ n = 13 ∨ n = 14 by omega) with rfl | rfl | rfl | rfl | rfl | rfl | rfl | rfl | rfl | rfl | rfl | rfl | rfl | rfl <;> decide
theorem opS_clean {n : Int} (h : 1 ≤ n ∧ n ≤ 14) : (32 : UInt8) ∉ opS n := by
  rcases (show n = 1 ∨ n = 2 ∨ n = 3 ∨ n = 4 ∨ n = 5 ∨ n = 6 ∨ n = 7 ∨ n = 8 ∨ n = 9 ∨ n = 10 ∨ n = 11 ∨ n = 12 ∨ n = 13 ∨ n = 14 by omega) with rfl | rfl | rfl | rfl | rfl | rfl | rfl | rfl | rfl | rfl | rfl | rfl | rfl | rfl <;> decide
theorem actW_op {a : ActL} (h : (actW a).2 = true) : 1 ≤ a.op ∧ a.op ≤ 14 := by
  unfold actW at h
  (repeat' split at h) <;> first | omega | (simp at h)
end Go.Lk
set_option linter.unusedVariables false
set_option linter.unusedSimpArgs false
namespace Go.Lk
open Go.Lib
theorem ints_back : ∀ (l : List Int), (∀ x ∈ l, 0 ≤ x ∧ x ≤ 9223372036854775807) → (l.map itoa).map intS = l
  | [], _ => rfl
  | x :: l, h => by
    rw [List.map_cons, List.map_cons, intS_itoa x (h x (by simp)).1 (h x (by simp)).2, ints_back l (fun y hy => h y (by simp [hy]))]
theorem hdrs_back : ∀ (l : List (Bs × Bs)), (∀ x ∈ l, tokenS x.1 = true) → (l.map hdrW).map hdrS = l
  | [], _ => rfl
  | x :: l, h => by
    rw [List.map_cons, List.map_cons, hdrS_hdrW (h x (by simp)), hdrs_back l (fun y hy => h y (by simp [hy]))]
theorem creds_back (b : Bool) : decide (itoa (if b then 1 else 0) = [49]) = b := by
  cases b
  · have : itoa 0 = [48] := by decide +kernel
    simp [this]
  · have : itoa 1 = [49] := by decide +kernel
    simp [this]
theorem req_back {r : ReqL} (h : (reqW r).2 = true) (h1 : r.mode ≤ 9223372036854775807) (h2 : r.cls ≤ 9223372036854775807) (h3 : 0 ≤ r.timeout ∧ r.timeout ≤ 18446744073709551615) (h4 : r.group ≤ 9223372036854775807) (h5 : r.signal ≤ 9223372036854775807) :
    reqS (reqW r).1 = r := by
  simp only [reqW, intsW, hdrsW, Bool.and_eq_true, List.all_cons, List.all_nil, decide_eq_true_eq, and_true, List.all_eq_true] at h
  obtain ⟨⟨⟨⟨⟨ht1, ht2⟩, ht3⟩, hm, hc, hcl⟩, hg, hs⟩, hh⟩ := h
  unfold reqS reqW intsW hdrsW wd
  simp only [List.map_cons, List.map_nil, List.cons_append, List.nil_append, List.getD_cons_zero, List.getD_cons_succ, List.drop_succ_cons, List.drop_zero]
  rw [intS_itoa _ hm h1, intS_itoa _ hcl h2, intS_itoa _ hg h4, intS_itoa _ hs h5, numS_itoa _ h3.1 h3.2, creds_back, hdrs_back _ hh]
theorem parse_act {a : ActL} (h : (actW a).2 = true) (hb : ActB a) : (parseS a.op (actW a).1).op = a.op ∧ actW (parseS a.op (actW a).1) = actW a := by
  have hop := actW_op h
  obtain ⟨op, id, n, ids, time, status, headers, bytes, req⟩ := a
  obtain ⟨b1, b2, b3, b4, b5, b6, b7, b8, b9, b10⟩ := hb
  simp only at hop b1 b2 b3 b4 b5 b6 b7 b8 b9 b10
  rcases (show op = 1 ∨ op = 2 ∨ op = 3 ∨ op = 4 ∨ op = 5 ∨ op = 6 ∨ op = 7 ∨ op = 8 ∨ op = 9 ∨ op = 10 ∨ op = 11 ∨ op = 12 ∨ op = 13 ∨ op = 14 by omega) with rfl | rfl | rfl | rfl | rfl | rfl | rfl | rfl | rfl | rfl | rfl | rfl | rfl | rfl
  · exact ⟨rfl, rfl⟩
  · have h0 : (intsW ids).2 = true := h
    simp only [intsW, List.all_eq_true, decide_eq_true_eq] at h0
    have e : parseS 2 (intsW ids).1 = { ActL.zero with op := 2, ids := ids } := by
      show { ActL.zero with op := 2, ids := (ids.map itoa).map intS } = _
      rw [ints_back ids (fun x hx => ⟨h0 x hx, b3 x hx⟩)]
    show (parseS 2 (intsW ids).1).op = 2 ∧ actW (parseS 2 (intsW ids).1) = intsW ids
    rw [e]
    exact ⟨rfl, rfl⟩
  · have h0 : (reqW req).2 = true := h
    have e : parseS 3 (reqW req).1 = { ActL.zero with op := 3, req := req } := by
      show { ActL.zero with op := 3, req := reqS (reqW req).1 } = _
      rw [req_back h0 b6 b7 b8 b9 b10]
    show (parseS 3 (reqW req).1).op = 3 ∧ actW (parseS 3 (reqW req).1) = reqW req
    rw [e]
    exact ⟨rfl, rfl⟩
  · have h0 : (intsW [id]).2 = true := h
    simp only [intsW, List.all_cons, List.all_nil, Bool.and_true, decide_eq_true_eq] at h0
    have e : parseS 4 (intsW [id]).1 = { ActL.zero with op := 4, id := id } := by
      show { ActL.zero with op := 4, id := intS (itoa id) } = _
      rw [intS_itoa id h0 b1]
    show (parseS 4 (intsW [id]).1).op = 4 ∧ actW (parseS 4 (intsW [id]).1) = intsW [id]
    rw [e]
    exact ⟨rfl, rfl⟩
  · have h0 : (intsW [id]).2 = true := h
    simp only [intsW, List.all_cons, List.all_nil, Bool.and_true, decide_eq_true_eq] at h0
    have e : parseS 5 (intsW [id]).1 = { ActL.zero with op := 5, id := id } := by
      show { ActL.zero with op := 5, id := intS (itoa id) } = _
      rw [intS_itoa id h0 b1]
    show (parseS 5 (intsW [id]).1).op = 5 ∧ actW (parseS 5 (intsW [id]).1) = intsW [id]
    rw [e]
    exact ⟨rfl, rfl⟩
  · have h0 : (intsW [id]).2 = true := h
    simp only [intsW, List.all_cons, List.all_nil, Bool.and_true, decide_eq_true_eq] at h0
    have e : parseS 6 (intsW [id]).1 = { ActL.zero with op := 6, id := id } := by
      show { ActL.zero with op := 6, id := intS (itoa id) } = _
      rw [intS_itoa id h0 b1]
    show (parseS 6 (intsW [id]).1).op = 6 ∧ actW (parseS 6 (intsW [id]).1) = intsW [id]
    rw [e]
    exact ⟨rfl, rfl⟩
  · have h0 : (intsW [id]).2 = true := h
    simp only [intsW, List.all_cons, List.all_nil, Bool.and_true, decide_eq_true_eq] at h0
    have e : parseS 7 (intsW [id]).1 = { ActL.zero with op := 7, id := id } := by
      show { ActL.zero with op := 7, id := intS (itoa id) } = _
      rw [intS_itoa id h0 b1]
    show (parseS 7 (intsW [id]).1).op = 7 ∧ actW (parseS 7 (intsW [id]).1) = intsW [id]
    rw [e]
    exact ⟨rfl, rfl⟩
  · have e : parseS 8 [itoa time] = { ActL.zero with op := 8, time := time } := by
      show { ActL.zero with op := 8, time := ((digitsS (itoa time)).1 : Int) } = _
      rw [numS_itoa time b4.1 b4.2]
    show (parseS 8 [itoa time]).op = 8 ∧ actW (parseS 8 [itoa time]) = ([itoa time], true)
    rw [e]
    exact ⟨rfl, rfl⟩
  · exact ⟨rfl, rfl⟩
  · have h0 : ((intsW [id, status]).2 && (hdrsW headers).2) = true := h
    simp only [intsW, hdrsW, List.all_cons, List.all_nil, Bool.and_true, Bool.and_eq_true, decide_eq_true_eq, List.all_eq_true] at h0
    have e : parseS 10 ((intsW [id, status]).1 ++ (hdrsW headers).1) = { ActL.zero with op := 10, id := id, status := status, headers := headers } := by
      show { ActL.zero with op := 10, id := intS (itoa id), status := intS (itoa status), headers := (headers.map hdrW).map hdrS } = _
      rw [intS_itoa id h0.1.1 b1, intS_itoa status h0.1.2 b5, hdrs_back headers h0.2]
    show (parseS 10 ((intsW [id, status]).1 ++ (hdrsW headers).1)).op = 10 ∧ actW (parseS 10 ((intsW [id, status]).1 ++ (hdrsW headers).1)) = _
    rw [e]
    exact ⟨rfl, rfl⟩
  · have h0 : (intsW [id]).2 = true := h
    simp only [intsW, List.all_cons, List.all_nil, Bool.and_true, decide_eq_true_eq] at h0
    have e : parseS 11 ((intsW [id]).1 ++ [hexS bytes]) = { ActL.zero with op := 11, id := id, bytes := bytes } := by
      show { ActL.zero with op := 11, id := intS (itoa id), bytes := (unhexS (hexS bytes)).getD [] } = _
      rw [intS_itoa id h0 b1, unhexS_hexS]; rfl
    show (parseS 11 ((intsW [id]).1 ++ [hexS bytes])).op = 11 ∧ actW (parseS 11 ((intsW [id]).1 ++ [hexS bytes])) = _
    rw [e]
    exact ⟨rfl, rfl⟩
  · have h0 : (intsW [id]).2 = true := h
    simp only [intsW, List.all_cons, List.all_nil, Bool.and_true, decide_eq_true_eq] at h0
    have e : parseS 12 (intsW [id]).1 = { ActL.zero with op := 12, id := id } := by
      show { ActL.zero with op := 12, id := intS (itoa id) } = _
      rw [intS_itoa id h0 b1]
    show (parseS 12 (intsW [id]).1).op = 12 ∧ actW (parseS 12 (intsW [id]).1) = intsW [id]
    rw [e]
    exact ⟨rfl, rfl⟩
  · have h0 : (intsW [id]).2 = true := h
    simp only [intsW, List.all_cons, List.all_nil, Bool.and_true, decide_eq_true_eq] at h0
    have e : parseS 13 (intsW [id]).1 = { ActL.zero with op := 13, id := id } := by
      show { ActL.zero with op := 13, id := intS (itoa id) } = _
      rw [intS_itoa id h0 b1]
    show (parseS 13 (intsW [id]).1).op = 13 ∧ actW (parseS 13 (intsW [id]).1) = intsW [id]
    rw [e]
    exact ⟨rfl, rfl⟩
  · have h0 : (intsW [id, n]).2 = true := h
    simp only [intsW, List.all_cons, List.all_nil, Bool.and_true, Bool.and_eq_true, decide_eq_true_eq] at h0
    have e : parseS 14 (intsW [id, n]).1 = { ActL.zero with op := 14, id := id, n := n } := by
      show { ActL.zero with op := 14, id := intS (itoa id), n := intS (itoa n) } = _
      rw [intS_itoa id h0.1 b1, intS_itoa n h0.2 b2]
    show (parseS 14 (intsW [id, n]).1).op = 14 ∧ actW (parseS 14 (intsW [id, n]).1) = intsW [id, n]
    rw [e]
    exact ⟨rfl, rfl⟩
theorem ints_clean {l : List Int} (h : ∀ x ∈ l, 0 ≤ x) : ∀ w ∈ l.map itoa, (32 : UInt8) ∉ w := by
  intro w hw
  obtain ⟨x, hx, rfl⟩ := List.mem_map.1 hw
  exact itoa_clean x (h x hx)
theorem hdrs_clean {l : List (Bs × Bs)} (h : ∀ x ∈ l, tokenS x.1 = true) : ∀ w ∈ l.map hdrW, (32 : UInt8) ∉ w := by
  intro w hw
  obtain ⟨x, hx, rfl⟩ := List.mem_map.1 hw
  exact hdrW_clean (h x hx)
theorem actW_clean {a : ActL} (h : (actW a).2 = true) (hb : ActB a) : ∀ w ∈ (actW a).1, (32 : UInt8) ∉ w := by
  have hop := actW_op h
  obtain ⟨op, id, n, ids, time, status, headers, bytes, req⟩ := a
  obtain ⟨b1, b2, b3, b4, b5, b6, b7, b8, b9, b10⟩ := hb
  simp only at hop b4 b8
  rcases (show op = 1 ∨ op = 2 ∨ op = 3 ∨ op = 4 ∨ op = 5 ∨ op = 6 ∨ op = 7 ∨ op = 8 ∨ op = 9 ∨ op = 10 ∨ op = 11 ∨ op = 12 ∨ op = 13 ∨ op = 14 by omega) with rfl | rfl | rfl | rfl | rfl | rfl | rfl | rfl | rfl | rfl | rfl | rfl | rfl | rfl
  · show ∀ w ∈ ([] : List Bs), _
    intro w hw; cases hw
  · have h0 : (intsW ids).2 = true := h
    simp only [intsW, List.all_eq_true, decide_eq_true_eq] at h0
    exact ints_clean h0
  · have h0 : (reqW req).2 = true := h
    simp only [reqW, intsW, hdrsW, Bool.and_eq_true, List.all_cons, List.all_nil, decide_eq_true_eq, and_true, List.all_eq_true] at h0
    obtain ⟨⟨⟨⟨⟨ht1, ht2⟩, ht3⟩, hm, hc, hcl⟩, hg, hs⟩, hh⟩ := h0
    show ∀ w ∈ (reqW req).1, _
    intro w hw
    simp only [reqW, intsW, hdrsW, List.map_cons, List.map_nil, List.cons_append, List.nil_append, List.mem_cons] at hw
    rcases hw with rfl | rfl | rfl | rfl | rfl | rfl | rfl | rfl | rfl | hw
    · exact textS_clean ht1
    · exact textS_clean ht2
    · exact textS_clean ht3
    · exact itoa_clean _ hm
    · exact itoa_clean _ hc
    · exact itoa_clean _ hcl
    · exact itoa_clean _ b8.1
    · exact itoa_clean _ hg
    · exact itoa_clean _ hs
    · exact hdrs_clean hh w hw
  · have h0 : (intsW [id]).2 = true := h
    simp only [intsW, List.all_cons, List.all_nil, Bool.and_true, decide_eq_true_eq] at h0
    show ∀ w ∈ [itoa id], _
    intro w hw
    rw [List.mem_singleton] at hw; subst hw
    exact itoa_clean id h0
  · have h0 : (intsW [id]).2 = true := h
    simp only [intsW, List.all_cons, List.all_nil, Bool.and_true, decide_eq_true_eq] at h0
    show ∀ w ∈ [itoa id], _
    intro w hw
    rw [List.mem_singleton] at hw; subst hw
    exact itoa_clean id h0
  · have h0 : (intsW [id]).2 = true := h
    simp only [intsW, List.all_cons, List.all_nil, Bool.and_true, decide_eq_true_eq] at h0
    show ∀ w ∈ [itoa id], _
    intro w hw
    rw [List.mem_singleton] at hw; subst hw
    exact itoa_clean id h0
  · have h0 : (intsW [id]).2 = true := h
    simp only [intsW, List.all_cons, List.all_nil, Bool.and_true, decide_eq_true_eq] at h0
    show ∀ w ∈ [itoa id], _
    intro w hw
    rw [List.mem_singleton] at hw; subst hw
    exact itoa_clean id h0
  · show ∀ w ∈ [itoa time], _
    intro w hw
    rw [List.mem_singleton] at hw; subst hw
    exact itoa_clean time b4.1
  · show ∀ w ∈ ([] : List Bs), _
    intro w hw; cases hw
  · have h0 : ((intsW [id, status]).2 && (hdrsW headers).2) = true := h
    simp only [intsW, hdrsW, List.all_cons, List.all_nil, Bool.and_true, Bool.and_eq_true, decide_eq_true_eq, List.all_eq_true] at h0
    show ∀ w ∈ itoa id :: itoa status :: headers.map hdrW, _
    intro w hw
    simp only [List.mem_cons] at hw
    rcases hw with rfl | rfl | hw
    · exact itoa_clean _ h0.1.1
    · exact itoa_clean _ h0.1.2
    · exact hdrs_clean h0.2 w hw
  · have h0 : (intsW [id]).2 = true := h
    simp only [intsW, List.all_cons, List.all_nil, Bool.and_true, decide_eq_true_eq] at h0
    show ∀ w ∈ [itoa id, hexS bytes], _
    intro w hw
    simp only [List.mem_cons, List.not_mem_nil, or_false] at hw
    rcases hw with rfl | rfl
    · exact itoa_clean _ h0
    · exact hexS_clean _
  · have h0 : (intsW [id]).2 = true := h
    simp only [intsW, List.all_cons, List.all_nil, Bool.and_true, decide_eq_true_eq] at h0
    show ∀ w ∈ [itoa id], _
    intro w hw
    rw [List.mem_singleton] at hw; subst hw
    exact itoa_clean id h0
  · have h0 : (intsW [id]).2 = true := h
    simp only [intsW, List.all_cons, List.all_nil, Bool.and_true, decide_eq_true_eq] at h0
    show ∀ w ∈ [itoa id], _
    intro w hw
    rw [List.mem_singleton] at hw; subst hw
    exact itoa_clean id h0
  · have h0 : (intsW [id, n]).2 = true := h
    simp only [intsW, List.all_cons, List.all_nil, Bool.and_true, Bool.and_eq_true, decide_eq_true_eq] at h0
    show ∀ w ∈ [itoa id, itoa n], _
    intro w hw
    simp only [List.mem_cons, List.not_mem_nil, or_false] at hw
    rcases hw with rfl | rfl
    · exact itoa_clean _ h0.1
    · exact itoa_clean _ h0.2
/-- What is told is read: the act that is read tells the same, and is of the same kind. -/
theorem readS_showS {a : ActL} {t : Bs} (h : showS a = some t) (hb : ActB a) : ∃ b, readS t = some b ∧ b.op = a.op ∧ showS b = some t := by
  unfold showS at h
  split at h
  · rename_i hw
    injection h with h
    have hop := actW_op hw
    have hcl := actW_clean hw hb
    obtain ⟨p1, p2⟩ := parse_act hw hb
    have hs : split t [32] = opS a.op :: (actW a).1 := by
      rw [← h]
      exact split_join 32 _ (by simp) (fun w hm => by
        rw [List.mem_cons] at hm
        rcases hm with rfl | hm
        · exact opS_clean hop
        · exact hcl w hm)
    have hsh : showS (parseS a.op (actW a).1) = some t := by
      unfold showS
      rw [p2, p1, if_pos hw, h]
    refine ⟨parseS a.op (actW a).1, ?_, p1, hsh⟩
    unfold readS
    rw [hs]
    simp only [List.getD_cons_zero, List.drop_succ_cons, List.drop_zero, opOfS_opS hop]
    rw [if_pos hsh]
  · cases h
end Go.Lk
set_option linter.unusedVariables false
set_option linter.unusedSimpArgs false
namespace Go.Lk
open Go.RowKit Go.Lib
theorem isDig_blankN {c : UInt8} (h : isDig c = true) : c ≠ 10 := by
  rintro rfl; revert h; decide
theorem itoa_cleanN (n : Int) (h : 0 ≤ n) : (10 : UInt8) ∉ itoa n := by
  rw [itoa_nat n h]
  exact fun hm => isDig_blankN (decDigits_all (n.toNat + 1) n.toNat (by omega) 10 hm) rfl
theorem hd_cleanN (n : Nat) (h : n < 16) : hd n ≠ 10 := by
  rcases (show n = 0 ∨ n = 1 ∨ n = 2 ∨ n = 3 ∨ n = 4 ∨ n = 5 ∨ n = 6 ∨ n = 7 ∨ n = 8 ∨ n = 9 ∨ n = 10 ∨ n = 11 ∨ n = 12 ∨ n = 13 ∨ n = 14 ∨ n = 15 by omega) with rfl | rfl | rfl | rfl | rfl | rfl | rfl | rfl | rfl | rfl | rfl | rfl | rfl | rfl | rfl | rfl <;> decide
theorem hexS_cleanN (b : List UInt8) : (10 : UInt8) ∉ hexS b := by
  unfold hexS
  split
  · decide
  · intro hm
    simp only [hexL, List.mem_flatMap, List.mem_cons, List.not_mem_nil, or_false] at hm
    obtain ⟨c, _, h | h⟩ := hm
    · exact hd_cleanN _ (by have := c.toNat_lt; omega) h.symm
    · exact hd_cleanN _ (by omega) h.symm
theorem textS_cleanN {s : List UInt8} (h : textS s = true) : (10 : UInt8) ∉ s := by
  intro hm
  simp only [textS, Bool.and_eq_true, List.all_eq_true] at h
  have := h.2 10 hm
  revert this; decide
theorem tokenS_cleanN {s : List UInt8} (h : tokenS s = true) : (10 : UInt8) ∉ s ∧ (61 : UInt8) ∉ s := by
  simp only [tokenS, Bool.and_eq_true, List.all_eq_true] at h
  constructor
  · intro hm; have := h.2 10 hm; revert this; decide
  · intro hm; have := h.2 61 hm; revert this; decide
theorem hdrW_cleanN {x : Bs × Bs} (h : tokenS x.1 = true) : (10 : UInt8) ∉ hdrW x := by
  unfold hdrW
  intro hm
  rw [List.mem_append, List.mem_cons] at hm
  rcases hm with hm | hm | hm
  · exact (tokenS_cleanN h).1 hm
  · revert hm; decide
  · exact hexS_cleanN _ hm
theorem opS_cleanN {n : Int} (h : 1 ≤ n ∧ n ≤ 14) : (10 : UInt8) ∉ opS n := by
  rcases (show n = 1 ∨ n = 2 ∨ n = 3 ∨ n = 4 ∨ n = 5 ∨ n = 6 ∨ n = 7 ∨ n = 8 ∨ n = 9 ∨ n = 10 ∨ n = 11 ∨ n = 12 ∨ n = 13 ∨ n = 14 by omega) with rfl | rfl | rfl | rfl | rfl | rfl | rfl | rfl | rfl | rfl | rfl | rfl | rfl | rfl <;> decide
theorem ints_cleanN {l : List Int} (h : ∀ x ∈ l, 0 ≤ x) : ∀ w ∈ l.map itoa, (10 : UInt8) ∉ w := by
  intro w hw
  obtain ⟨x, hx, rfl⟩ := List.mem_map.1 hw
  exact itoa_cleanN x (h x hx)
theorem hdrs_cleanN {l : List (Bs × Bs)} (h : ∀ x ∈ l, tokenS x.1 = true) : ∀ w ∈ l.map hdrW, (10 : UInt8) ∉ w := by
  intro w hw
  obtain ⟨x, hx, rfl⟩ := List.mem_map.1 hw
  exact hdrW_cleanN (h x hx)
theorem actW_cleanN {a : ActL} (h : (actW a).2 = true) (hb : ActB a) : ∀ w ∈ (actW a).1, (10 : UInt8) ∉ w := by
  have hop := actW_op h
  obtain ⟨op, id, n, ids, time, status, headers, bytes, req⟩ := a
  obtain ⟨b1, b2, b3, b4, b5, b6, b7, b8, b9, b10⟩ := hb
  simp only at hop b4 b8
  rcases (show op = 1 ∨ op = 2 ∨ op = 3 ∨ op = 4 ∨ op = 5 ∨ op = 6 ∨ op = 7 ∨ op = 8 ∨ op = 9 ∨ op = 10 ∨ op = 11 ∨ op = 12 ∨ op = 13 ∨ op = 14 by omega) with rfl | rfl | rfl | rfl | rfl | rfl | rfl | rfl | rfl | rfl | rfl | rfl | rfl | rfl
  · show ∀ w ∈ ([] : List Bs), _
    intro w hw; cases hw
  · have h0 : (intsW ids).2 = true := h
    simp only [intsW, List.all_eq_true, decide_eq_true_eq] at h0
    exact ints_cleanN h0
  · have h0 : (reqW req).2 = true := h
    simp only [reqW, intsW, hdrsW, Bool.and_eq_true, List.all_cons, List.all_nil, decide_eq_true_eq, and_true, List.all_eq_true] at h0
    obtain ⟨⟨⟨⟨⟨ht1, ht2⟩, ht3⟩, hm, hc, hcl⟩, hg, hs⟩, hh⟩ := h0
    show ∀ w ∈ (reqW req).1, _
    intro w hw
    simp only [reqW, intsW, hdrsW, List.map_cons, List.map_nil, List.cons_append, List.nil_append, List.mem_cons] at hw
    rcases hw with rfl | rfl | rfl | rfl | rfl | rfl | rfl | rfl | rfl | hw
    · exact textS_cleanN ht1
    · exact textS_cleanN ht2
    · exact textS_cleanN ht3
    · exact itoa_cleanN _ hm
    · exact itoa_cleanN _ hc
    · exact itoa_cleanN _ hcl
    · exact itoa_cleanN _ b8.1
    · exact itoa_cleanN _ hg
    · exact itoa_cleanN _ hs
    · exact hdrs_cleanN hh w hw
  · have h0 : (intsW [id]).2 = true := h
    simp only [intsW, List.all_cons, List.all_nil, Bool.and_true, decide_eq_true_eq] at h0
    show ∀ w ∈ [itoa id], _
    intro w hw
    rw [List.mem_singleton] at hw; subst hw
    exact itoa_cleanN id h0
  · have h0 : (intsW [id]).2 = true := h
    simp only [intsW, List.all_cons, List.all_nil, Bool.and_true, decide_eq_true_eq] at h0
    show ∀ w ∈ [itoa id], _
    intro w hw
    rw [List.mem_singleton] at hw; subst hw
    exact itoa_cleanN id h0
  · have h0 : (intsW [id]).2 = true := h
    simp only [intsW, List.all_cons, List.all_nil, Bool.and_true, decide_eq_true_eq] at h0
    show ∀ w ∈ [itoa id], _
    intro w hw
    rw [List.mem_singleton] at hw; subst hw
    exact itoa_cleanN id h0
  · have h0 : (intsW [id]).2 = true := h
    simp only [intsW, List.all_cons, List.all_nil, Bool.and_true, decide_eq_true_eq] at h0
    show ∀ w ∈ [itoa id], _
    intro w hw
    rw [List.mem_singleton] at hw; subst hw
    exact itoa_cleanN id h0
  · show ∀ w ∈ [itoa time], _
    intro w hw
    rw [List.mem_singleton] at hw; subst hw
    exact itoa_cleanN time b4.1
  · show ∀ w ∈ ([] : List Bs), _
    intro w hw; cases hw
  · have h0 : ((intsW [id, status]).2 && (hdrsW headers).2) = true := h
    simp only [intsW, hdrsW, List.all_cons, List.all_nil, Bool.and_true, Bool.and_eq_true, decide_eq_true_eq, List.all_eq_true] at h0
    show ∀ w ∈ itoa id :: itoa status :: headers.map hdrW, _
    intro w hw
    simp only [List.mem_cons] at hw
    rcases hw with rfl | rfl | hw
    · exact itoa_cleanN _ h0.1.1
    · exact itoa_cleanN _ h0.1.2
    · exact hdrs_cleanN h0.2 w hw
  · have h0 : (intsW [id]).2 = true := h
    simp only [intsW, List.all_cons, List.all_nil, Bool.and_true, decide_eq_true_eq] at h0
    show ∀ w ∈ [itoa id, hexS bytes], _
    intro w hw
    simp only [List.mem_cons, List.not_mem_nil, or_false] at hw
    rcases hw with rfl | rfl
    · exact itoa_cleanN _ h0
    · exact hexS_cleanN _
  · have h0 : (intsW [id]).2 = true := h
    simp only [intsW, List.all_cons, List.all_nil, Bool.and_true, decide_eq_true_eq] at h0
    show ∀ w ∈ [itoa id], _
    intro w hw
    rw [List.mem_singleton] at hw; subst hw
    exact itoa_cleanN id h0
  · have h0 : (intsW [id]).2 = true := h
    simp only [intsW, List.all_cons, List.all_nil, Bool.and_true, decide_eq_true_eq] at h0
    show ∀ w ∈ [itoa id], _
    intro w hw
    rw [List.mem_singleton] at hw; subst hw
    exact itoa_cleanN id h0
  · have h0 : (intsW [id, n]).2 = true := h
    simp only [intsW, List.all_cons, List.all_nil, Bool.and_true, Bool.and_eq_true, decide_eq_true_eq] at h0
    show ∀ w ∈ [itoa id, itoa n], _
    intro w hw
    simp only [List.mem_cons, List.not_mem_nil, or_false] at hw
    rcases hw with rfl | rfl
    · exact itoa_cleanN _ h0.1
    · exact itoa_cleanN _ h0.2
theorem joinTail_mem (c d : UInt8) (ws : List Bs) (hd : c ≠ d) (h : ∀ w ∈ ws, c ∉ w) : c ∉ joinTail [d] ws := by
  unfold joinTail
  intro hm
  rw [List.mem_flatten] at hm
  obtain ⟨l, hl, hm⟩ := hm
  obtain ⟨w, hw, rfl⟩ := List.mem_map.1 hl
  simp only [List.cons_append, List.nil_append, List.mem_cons] at hm
  rcases hm with hm | hm
  · exact hd hm
  · exact h w hw hm
theorem showS_nl {a : ActL} {t : Bs} (h : showS a = some t) (hb : ActB a) : (10 : UInt8) ∉ t := by
  unfold showS at h
  split at h
  · rename_i hw
    injection h with h
    have hop := actW_op hw
    have hcl := actW_cleanN hw hb
    rw [← h, join_cons, List.mem_append]
    rintro (hm | hm)
    · exact opS_cleanN hop hm
    · exact joinTail_mem 10 32 _ (by decide) hcl hm
  · cases h
end Go.Lk
