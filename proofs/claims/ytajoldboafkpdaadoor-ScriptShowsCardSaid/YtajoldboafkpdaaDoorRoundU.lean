-- What is told of an act is read back: the law. Of no program.
import Derived.Test.YtajoldboafkpdaaDoorRoundT
namespace Go.Lk
open Go.Lib
theorem ints_back : ∀ (l : List Int), (∀ x ∈ l, 0 ≤ x ∧ x ≤ 9223372036854775807) → (l.map itoa).map intS = l
  | [], _ => rfl
  | x :: l, h => by
    rw [List.map_cons, List.map_cons, intS_itoa x (h x (by simp)).1 (h x (by simp)).2, ints_back l (fun y hy => h y (by simp [hy]))]
theorem hdrs_back : ∀ (l : List (Bs × Bs)), (∀ x ∈ l, tokenS x.1 = true) → (l.map hdrW).map hdrS = l
  | [], _ => rfl
  | x :: l, h => by
    rw [List.map_cons, List.map_cons, hdrS_hdrW (h x (by simp)), hdrs_back l (fun y hy => h y (by simp [hy]))]
theorem creds_back (b : Bool) : decide (itoa (if b then 1 else 0) = [49]) = b := by
  cases b
  · have : itoa 0 = [48] := by decide +kernel
    simp [this]
  · have : itoa 1 = [49] := by decide +kernel
    simp [this]
theorem req_back {r : ReqL} (h : (reqW r).2 = true) (h1 : r.mode ≤ 9223372036854775807) (h2 : r.cls ≤ 9223372036854775807) (h3 : 0 ≤ r.timeout ∧ r.timeout ≤ 18446744073709551615) (h4 : r.group ≤ 9223372036854775807) (h5 : r.signal ≤ 9223372036854775807) :
    reqS (reqW r).1 = r := by
  simp only [reqW, intsW, hdrsW, Bool.and_eq_true, List.all_cons, List.all_nil, decide_eq_true_eq, and_true, List.all_eq_true] at h
  obtain ⟨⟨⟨⟨⟨ht1, ht2⟩, ht3⟩, hm, hc, hcl⟩, hg, hs⟩, hh⟩ := h
  unfold reqS reqW intsW hdrsW wd
  simp only [List.map_cons, List.map_nil, List.cons_append, List.nil_append, List.getD_cons_zero, List.getD_cons_succ, List.drop_succ_cons, List.drop_zero]
  rw [intS_itoa _ hm h1, intS_itoa _ hcl h2, intS_itoa _ hg h4, intS_itoa _ hs h5, numS_itoa _ h3.1 h3.2, creds_back, hdrs_back _ hh]
theorem parse_act {a : ActL} (h : (actW a).2 = true) (hb : ActB a) : (parseS a.op (actW a).1).op = a.op ∧ actW (parseS a.op (actW a).1) = actW a := by
  have hop := actW_op h
  obtain ⟨op, id, n, ids, time, status, headers, bytes, req⟩ := a
  obtain ⟨b1, b2, b3, b4, b5, b6, b7, b8, b9, b10⟩ := hb
  simp only at hop b1 b2 b3 b4 b5 b6 b7 b8 b9 b10
  rcases (show op = 1 ∨ op = 2 ∨ op = 3 ∨ op = 4 ∨ op = 5 ∨ op = 6 ∨ op = 7 ∨ op = 8 ∨ op = 9 ∨ op = 10 ∨ op = 11 ∨ op = 12 ∨ op = 13 ∨ op = 14 by omega) with rfl | rfl | rfl | rfl | rfl | rfl | rfl | rfl | rfl | rfl | rfl | rfl | rfl | rfl
  · exact ⟨rfl, rfl⟩
  · have h0 : (intsW ids).2 = true := h
    simp only [intsW, List.all_eq_true, decide_eq_true_eq] at h0
    have e : parseS 2 (intsW ids).1 = { ActL.zero with op := 2, ids := ids } := by
      show { ActL.zero with op := 2, ids := (ids.map itoa).map intS } = _
      rw [ints_back ids (fun x hx => ⟨h0 x hx, b3 x hx⟩)]
    show (parseS 2 (intsW ids).1).op = 2 ∧ actW (parseS 2 (intsW ids).1) = intsW ids
    rw [e]
    exact ⟨rfl, rfl⟩
  · have h0 : (reqW req).2 = true := h
    have e : parseS 3 (reqW req).1 = { ActL.zero with op := 3, req := req } := by
      show { ActL.zero with op := 3, req := reqS (reqW req).1 } = _
      rw [req_back h0 b6 b7 b8 b9 b10]
    show (parseS 3 (reqW req).1).op = 3 ∧ actW (parseS 3 (reqW req).1) = reqW req
    rw [e]
    exact ⟨rfl, rfl⟩
  · have h0 : (intsW [id]).2 = true := h
    simp only [intsW, List.all_cons, List.all_nil, Bool.and_true, decide_eq_true_eq] at h0
    have e : parseS 4 (intsW [id]).1 = { ActL.zero with op := 4, id := id } := by
      show { ActL.zero with op := 4, id := intS (itoa id) } = _
      rw [intS_itoa id h0 b1]
    show (parseS 4 (intsW [id]).1).op = 4 ∧ actW (parseS 4 (intsW [id]).1) = intsW [id]
    rw [e]
    exact ⟨rfl, rfl⟩
  · have h0 : (intsW [id]).2 = true := h
    simp only [intsW, List.all_cons, List.all_nil, Bool.and_true, decide_eq_true_eq] at h0
    have e : parseS 5 (intsW [id]).1 = { ActL.zero with op := 5, id := id } := by
      show { ActL.zero with op := 5, id := intS (itoa id) } = _
      rw [intS_itoa id h0 b1]
    show (parseS 5 (intsW [id]).1).op = 5 ∧ actW (parseS 5 (intsW [id]).1) = intsW [id]
    rw [e]
    exact ⟨rfl, rfl⟩
  · have h0 : (intsW [id]).2 = true := h
    simp only [intsW, List.all_cons, List.all_nil, Bool.and_true, decide_eq_true_eq] at h0
    have e : parseS 6 (intsW [id]).1 = { ActL.zero with op := 6, id := id } := by
      show { ActL.zero with op := 6, id := intS (itoa id) } = _
      rw [intS_itoa id h0 b1]
    show (parseS 6 (intsW [id]).1).op = 6 ∧ actW (parseS 6 (intsW [id]).1) = intsW [id]
    rw [e]
    exact ⟨rfl, rfl⟩
  · have h0 : (intsW [id]).2 = true := h
    simp only [intsW, List.all_cons, List.all_nil, Bool.and_true, decide_eq_true_eq] at h0
    have e : parseS 7 (intsW [id]).1 = { ActL.zero with op := 7, id := id } := by
      show { ActL.zero with op := 7, id := intS (itoa id) } = _
      rw [intS_itoa id h0 b1]
    show (parseS 7 (intsW [id]).1).op = 7 ∧ actW (parseS 7 (intsW [id]).1) = intsW [id]
    rw [e]
    exact ⟨rfl, rfl⟩
  · have e : parseS 8 [itoa time] = { ActL.zero with op := 8, time := time } := by
      show { ActL.zero with op := 8, time := ((digitsS (itoa time)).1 : Int) } = _
      rw [numS_itoa time b4.1 b4.2]
    show (parseS 8 [itoa time]).op = 8 ∧ actW (parseS 8 [itoa time]) = ([itoa time], true)
    rw [e]
    exact ⟨rfl, rfl⟩
  · exact ⟨rfl, rfl⟩
  · have h0 : ((intsW [id, status]).2 && (hdrsW headers).2) = true := h
    simp only [intsW, hdrsW, List.all_cons, List.all_nil, Bool.and_true, Bool.and_eq_true, decide_eq_true_eq, List.all_eq_true] at h0
    have e : parseS 10 ((intsW [id, status]).1 ++ (hdrsW headers).1) = { ActL.zero with op := 10, id := id, status := status, headers := headers } := by
      show { ActL.zero with op := 10, id := intS (itoa id), status := intS (itoa status), headers := (headers.map hdrW).map hdrS } = _
      rw [intS_itoa id h0.1.1 b1, intS_itoa status h0.1.2 b5, hdrs_back headers h0.2]
    show (parseS 10 ((intsW [id, status]).1 ++ (hdrsW headers).1)).op = 10 ∧ actW (parseS 10 ((intsW [id, status]).1 ++ (hdrsW headers).1)) = _
    rw [e]
    exact ⟨rfl, rfl⟩
  · have h0 : (intsW [id]).2 = true := h
    simp only [intsW, List.all_cons, List.all_nil, Bool.and_true, decide_eq_true_eq] at h0
    have e : parseS 11 ((intsW [id]).1 ++ [hexS bytes]) = { ActL.zero with op := 11, id := id, bytes := bytes } := by
      show { ActL.zero with op := 11, id := intS (itoa id), bytes := (unhexS (hexS bytes)).getD [] } = _
      rw [intS_itoa id h0 b1, unhexS_hexS]; rfl
    show (parseS 11 ((intsW [id]).1 ++ [hexS bytes])).op = 11 ∧ actW (parseS 11 ((intsW [id]).1 ++ [hexS bytes])) = _
    rw [e]
    exact ⟨rfl, rfl⟩
  · have h0 : (intsW [id]).2 = true := h
    simp only [intsW, List.all_cons, List.all_nil, Bool.and_true, decide_eq_true_eq] at h0
    have e : parseS 12 (intsW [id]).1 = { ActL.zero with op := 12, id := id } := by
      show { ActL.zero with op := 12, id := intS (itoa id) } = _
      rw [intS_itoa id h0 b1]
    show (parseS 12 (intsW [id]).1).op = 12 ∧ actW (parseS 12 (intsW [id]).1) = intsW [id]
    rw [e]
    exact ⟨rfl, rfl⟩
  · have h0 : (intsW [id]).2 = true := h
    simp only [intsW, List.all_cons, List.all_nil, Bool.and_true, decide_eq_true_eq] at h0
    have e : parseS 13 (intsW [id]).1 = { ActL.zero with op := 13, id := id } := by
      show { ActL.zero with op := 13, id := intS (itoa id) } = _
      rw [intS_itoa id h0 b1]
    show (parseS 13 (intsW [id]).1).op = 13 ∧ actW (parseS 13 (intsW [id]).1) = intsW [id]
    rw [e]
    exact ⟨rfl, rfl⟩
  · have h0 : (intsW [id, n]).2 = true := h
    simp only [intsW, List.all_cons, List.all_nil, Bool.and_true, Bool.and_eq_true, decide_eq_true_eq] at h0
    have e : parseS 14 (intsW [id, n]).1 = { ActL.zero with op := 14, id := id, n := n } := by
      show { ActL.zero with op := 14, id := intS (itoa id), n := intS (itoa n) } = _
      rw [intS_itoa id h0.1 b1, intS_itoa n h0.2 b2]
    show (parseS 14 (intsW [id, n]).1).op = 14 ∧ actW (parseS 14 (intsW [id, n]).1) = intsW [id, n]
    rw [e]
    exact ⟨rfl, rfl⟩
theorem ints_clean {l : List Int} (h : ∀ x ∈ l, 0 ≤ x) : ∀ w ∈ l.map itoa, (32 : UInt8) ∉ w := by
  intro w hw
  obtain ⟨x, hx, rfl⟩ := List.mem_map.1 hw
  exact itoa_clean x (h x hx)
theorem hdrs_clean {l : List (Bs × Bs)} (h : ∀ x ∈ l, tokenS x.1 = true) : ∀ w ∈ l.map hdrW, (32 : UInt8) ∉ w := by
  intro w hw
  obtain ⟨x, hx, rfl⟩ := List.mem_map.1 hw
  exact hdrW_clean (h x hx)
theorem actW_clean {a : ActL} (h : (actW a).2 = true) (hb : ActB a) : ∀ w ∈ (actW a).1, (32 : UInt8) ∉ w := by
  have hop := actW_op h
  obtain ⟨op, id, n, ids, time, status, headers, bytes, req⟩ := a
  obtain ⟨b1, b2, b3, b4, b5, b6, b7, b8, b9, b10⟩ := hb
  simp only at hop b4 b8
  rcases (show op = 1 ∨ op = 2 ∨ op = 3 ∨ op = 4 ∨ op = 5 ∨ op = 6 ∨ op = 7 ∨ op = 8 ∨ op = 9 ∨ op = 10 ∨ op = 11 ∨ op = 12 ∨ op = 13 ∨ op = 14 by omega) with rfl | rfl | rfl | rfl | rfl | rfl | rfl | rfl | rfl | rfl | rfl | rfl | rfl | rfl
  · show ∀ w ∈ ([] : List Bs), _
    intro w hw; cases hw
  · have h0 : (intsW ids).2 = true := h
    simp only [intsW, List.all_eq_true, decide_eq_true_eq] at h0
    exact ints_clean h0
  · have h0 : (reqW req).2 = true := h
    simp only [reqW, intsW, hdrsW, Bool.and_eq_true, List.all_cons, List.all_nil, decide_eq_true_eq, and_true, List.all_eq_true] at h0
    obtain ⟨⟨⟨⟨⟨ht1, ht2⟩, ht3⟩, hm, hc, hcl⟩, hg, hs⟩, hh⟩ := h0
    show ∀ w ∈ (reqW req).1, _
    intro w hw
    simp only [reqW, intsW, hdrsW, List.map_cons, List.map_nil, List.cons_append, List.nil_append, List.mem_cons] at hw
    rcases hw with rfl | rfl | rfl | rfl | rfl | rfl | rfl | rfl | rfl | hw
    · exact textS_clean ht1
    · exact textS_clean ht2
    · exact textS_clean ht3
    · exact itoa_clean _ hm
    · exact itoa_clean _ hc
    · exact itoa_clean _ hcl
    · exact itoa_clean _ b8.1
    · exact itoa_clean _ hg
    · exact itoa_clean _ hs
    · exact hdrs_clean hh w hw
  · have h0 : (intsW [id]).2 = true := h
    simp only [intsW, List.all_cons, List.all_nil, Bool.and_true, decide_eq_true_eq] at h0
    show ∀ w ∈ [itoa id], _
    intro w hw
    rw [List.mem_singleton] at hw; subst hw
    exact itoa_clean id h0
  · have h0 : (intsW [id]).2 = true := h
    simp only [intsW, List.all_cons, List.all_nil, Bool.and_true, decide_eq_true_eq] at h0
    show ∀ w ∈ [itoa id], _
    intro w hw
    rw [List.mem_singleton] at hw; subst hw
    exact itoa_clean id h0
  · have h0 : (intsW [id]).2 = true := h
    simp only [intsW, List.all_cons, List.all_nil, Bool.and_true, decide_eq_true_eq] at h0
    show ∀ w ∈ [itoa id], _
    intro w hw
    rw [List.mem_singleton] at hw; subst hw
    exact itoa_clean id h0
  · have h0 : (intsW [id]).2 = true := h
    simp only [intsW, List.all_cons, List.all_nil, Bool.and_true, decide_eq_true_eq] at h0
    show ∀ w ∈ [itoa id], _
    intro w hw
    rw [List.mem_singleton] at hw; subst hw
    exact itoa_clean id h0
  · show ∀ w ∈ [itoa time], _
    intro w hw
    rw [List.mem_singleton] at hw; subst hw
    exact itoa_clean time b4.1
  · show ∀ w ∈ ([] : List Bs), _
    intro w hw; cases hw
  · have h0 : ((intsW [id, status]).2 && (hdrsW headers).2) = true := h
    simp only [intsW, hdrsW, List.all_cons, List.all_nil, Bool.and_true, Bool.and_eq_true, decide_eq_true_eq, List.all_eq_true] at h0
    show ∀ w ∈ itoa id :: itoa status :: headers.map hdrW, _
    intro w hw
    simp only [List.mem_cons] at hw
    rcases hw with rfl | rfl | hw
    · exact itoa_clean _ h0.1.1
    · exact itoa_clean _ h0.1.2
    · exact hdrs_clean h0.2 w hw
  · have h0 : (intsW [id]).2 = true := h
    simp only [intsW, List.all_cons, List.all_nil, Bool.and_true, decide_eq_true_eq] at h0
    show ∀ w ∈ [itoa id, hexS bytes], _
    intro w hw
    simp only [List.mem_cons, List.not_mem_nil, or_false] at hw
    rcases hw with rfl | rfl
    · exact itoa_clean _ h0
    · exact hexS_clean _
  · have h0 : (intsW [id]).2 = true := h
    simp only [intsW, List.all_cons, List.all_nil, Bool.and_true, decide_eq_true_eq] at h0
    show ∀ w ∈ [itoa id], _
    intro w hw
    rw [List.mem_singleton] at hw; subst hw
    exact itoa_clean id h0
  · have h0 : (intsW [id]).2 = true := h
    simp only [intsW, List.all_cons, List.all_nil, Bool.and_true, decide_eq_true_eq] at h0
    show ∀ w ∈ [itoa id], _
    intro w hw
    rw [List.mem_singleton] at hw; subst hw
    exact itoa_clean id h0
  · have h0 : (intsW [id, n]).2 = true := h
    simp only [intsW, List.all_cons, List.all_nil, Bool.and_true, Bool.and_eq_true, decide_eq_true_eq] at h0
    show ∀ w ∈ [itoa id, itoa n], _
    intro w hw
    simp only [List.mem_cons, List.not_mem_nil, or_false] at hw
    rcases hw with rfl | rfl
    · exact itoa_clean _ h0.1
    · exact itoa_clean _ h0.2
/-- What is told is read: the act that is read tells the same, and is of the same kind. -/
theorem readS_showS {a : ActL} {t : Bs} (h : showS a = some t) (hb : ActB a) : ∃ b, readS t = some b ∧ b.op = a.op ∧ showS b = some t := by
  unfold showS at h
  split at h
  · rename_i hw
    injection h with h
    have hop := actW_op hw
    have hcl := actW_clean hw hb
    obtain ⟨p1, p2⟩ := parse_act hw hb
    have hs : split t [32] = opS a.op :: (actW a).1 := by
      rw [← h]
      exact split_join 32 _ (by simp) (fun w hm => by
        rw [List.mem_cons] at hm
        rcases hm with rfl | hm
        · exact opS_clean hop
        · exact hcl w hm)
    have hsh : showS (parseS a.op (actW a).1) = some t := by
      unfold showS
      rw [p2, p1, if_pos hw, h]
    refine ⟨parseS a.op (actW a).1, ?_, p1, hsh⟩
    unfold readS
    rw [hs]
    simp only [List.getD_cons_zero, List.drop_succ_cons, List.drop_zero, opOfS_opS hop]
    rw [if_pos hsh]
  · cases h
end Go.Lk
