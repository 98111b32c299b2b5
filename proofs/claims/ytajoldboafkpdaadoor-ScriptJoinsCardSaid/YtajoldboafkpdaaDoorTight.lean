-- How long acts' lines may be: laws. Of no program.
import Derived.Test.YtajoldboafkpdaaDoorScSplit
import Derived.Test.YtajoldboafkpdaaDoorScLines
namespace Go.Proofs.YtajoldboafkpdaaDoor
set_option linter.unusedSimpArgs false
set_option linter.unusedVariables false
open Go.RowKit Go.Lk
def wsum (ws : List Bs) : Nat := (ws.map (fun y => y.length + 1)).sum
theorem wsum_cons (x : Bs) (l : List Bs) : wsum (x :: l) = x.length + 1 + wsum l := by simp [wsum]
theorem wsum_append (a b : List Bs) : wsum (a ++ b) = wsum a + wsum b := by simp [wsum]
theorem wsum_nil : wsum [] = 0 := rfl
theorem lens_wsum : ∀ l : List Bs, Lib.lens l + l.length = wsum l
  | [] => rfl
  | x :: l => by
    have := lens_wsum l
    have e : Lib.lens (x :: l) = x.length + Lib.lens l := by simp [Lib.lens]
    rw [wsum_cons, e, List.length_cons]; omega
theorem join_wsum (ws : List Bs) : (Lib.join ws [32]).length ≤ wsum ws := by
  cases ws with
  | nil => simp [Lib.join_nil, wsum]
  | cons x r =>
    rw [Lib.join_cons, List.length_append, Lib.joinTail_length, wsum_cons]
    have := lens_wsum r
    simp only [List.length_cons, List.length_nil] at *
    omega
theorem wsum_le {l : List Bs} {M : Nat} (h : ∀ y ∈ l, y.length ≤ M) : wsum l ≤ l.length * (M + 1) := by
  induction l with
  | nil => simp [wsum]
  | cons x l ih =>
    have h1 := ih (fun y hy => h y (by simp [hy]))
    have h2 := h x (by simp)
    rw [wsum_cons, List.length_cons, Nat.add_mul]; omega
theorem wsum_hdrs : ∀ {l : List (Bs × Bs)}, (∀ x ∈ l, x.1.length ≤ 100) → wsum (hdrsW l).1 ≤ 103 * l.length + 2 * hdrSum l
  | [], _ => by simp [hdrsW, wsum]
  | x :: l, h => by
    have h1 := wsum_hdrs (l := l) (fun y hy => h y (by simp [hy]))
    have h2 := h x (by simp)
    have h3 := hexS_le x.2
    have e : wsum (hdrsW (x :: l)).1 = (hdrW x).length + 1 + wsum (hdrsW l).1 := by simp only [hdrsW, List.map_cons, wsum_cons]
    have e2 : hdrSum (x :: l) = x.2.length + hdrSum l := by simp [hdrSum]
    have e3 : (hdrW x).length = x.1.length + (hexS x.2).length + 1 := by simp only [hdrW, List.length_append, List.length_cons]; omega
    rw [e, e2, e3, List.length_cons]; omega
theorem wsum_ints {l : List Int} (h : ∀ x ∈ l, i64R x) : wsum (intsW l).1 ≤ 22 * l.length := by
  have := wsum_le (l := (intsW l).1) (M := 21) (fun y hy => by
    simp only [intsW, List.mem_map] at hy
    obtain ⟨x, hx, rfl⟩ := hy
    exact Lib.itoa_length_le x (h x hx).1 (h x hx).2)
  have e : (intsW l).1.length = l.length := by simp [intsW]
  rw [e] at this; omega
theorem u64_len {n : Int} (h : 0 ≤ n ∧ n < 18446744073709551616) : (Lib.itoa n).length ≤ 20 := by
  obtain ⟨m, rfl⟩ : ∃ m : Nat, n = m := ⟨n.toNat, by omega⟩
  rw [Lib.itoa_nonneg, Lib.decDigits_length]
  exact Lib.nDigits_le20 m (by omega)
theorem greatAct_sums {a : ActL} (h : greatAct a = false) : hdrSum a.headers ≤ 12000 ∧ hdrSum a.req.headers ≤ 12000 := by
  unfold greatAct greatR greatH at h
  simp only [Bool.or_eq_false_iff, decide_eq_false_iff_not] at h
  omega
theorem showS_tight {a : ActL} {t : Bs} (hg : greatAct a = false) (hw : ActWf a) (ht : showS a = some t) : t.length ≤ 29900 := by
  have hf := greatAct_few hg
  obtain ⟨s1, s2⟩ := greatAct_sums hg
  have h0 := opS_le a.op
  have hi := wsum_ints hw.ids
  have h1 := wsum_ints (l := [a.id]) (by simpa using hw.id)
  have h2 := wsum_ints (l := [a.id, a.status]) (by simpa using ⟨hw.id, hw.st⟩)
  have h3 := wsum_ints (l := [a.id, a.n]) (by simpa using ⟨hw.id, hw.n⟩)
  have h4 := wsum_hdrs (l := a.headers) (fun x hx => (hf.hd.2 x hx).1)
  have h5 := wsum_hdrs (l := a.req.headers) (fun x hx => (hf.rq.hd.2 x hx).1)
  have h6 := hexS_le a.bytes
  have g1 := wsum_ints (l := [a.req.mode, if a.req.creds then 1 else 0, a.req.cls]) (by
    intro x hx
    simp only [List.mem_cons, List.mem_nil_iff, or_false] at hx
    rcases hx with rfl | rfl | rfl
    · exact hw.rq.mo
    · unfold i64R; split <;> omega
    · exact hw.rq.cl)
  have g2 := wsum_ints (l := [a.req.group, a.req.signal]) (by
    intro x hx
    simp only [List.mem_cons, List.mem_nil_iff, or_false] at hx
    rcases hx with rfl | rfl
    · exact hw.rq.gr
    · exact hw.rq.si)
  have g3 := u64_len hw.rq.ti
  have g4 := u64_len hw.ti
  have g5 := hf.ids; have g6 := hf.bt; have g7 := hf.hd.1; have g8 := hf.rq.hd.1; have g9 := hf.rq.me; have g10 := hf.rq.ur; have g11 := hf.rq.og
  simp only [List.length_cons, List.length_nil] at h1 h2 h3 g1 g2
  have key : wsum (actW a).1 ≤ 29800 := by
    unfold actW
    split
    · simp [wsum]
    split
    · omega
    split
    · simp only [reqW, wsum_append, wsum_cons, wsum_nil]; omega
    split
    · simp only [wsum_cons, wsum_nil]; omega
    split
    · simp only [wsum_append]; omega
    split
    · simp only [wsum_append, wsum_cons, wsum_nil]; omega
    split
    · omega
    split
    · omega
    · simp [wsum]
  unfold showS at ht
  split at ht
  · injection ht with ht
    subst ht
    have := join_wsum (opS a.op :: (actW a).1)
    rw [wsum_cons] at this
    omega
  · cases ht
theorem linesS_tight : ∀ {l : List ActL} {s : Bs}, (∀ a ∈ l, greatAct a = false ∧ ActWf a) → linesS l = some s → s.length ≤ 29901 * l.length
  | [], s, _, h => by injection h with h; subst h; simp
  | a :: l, s, hl, h => by
    unfold linesS at h
    split at h
    · rename_i u r hu hr
      injection h with h
      have h1 := linesS_tight (fun x hx => hl x (by simp [hx])) hr
      have h2 := showS_tight (hl a (by simp)).1 (hl a (by simp)).2 hu
      rw [← h, List.length_append, List.length_cons, List.length_cons]; omega
    · cases h
theorem greatA_each {l : List ActL} {m : Int} (h : greatA l m = false) : (l.length : Int) ≤ m ∧ ∀ x ∈ l, greatAct x = false := by
  unfold greatA at h
  simp only [Bool.or_eq_false_iff, decide_eq_false_iff_not, List.any_eq_false] at h
  exact ⟨by omega, fun x hx => by have := h.2 x hx; simpa using this⟩
theorem ActsAt.take {w : World} {A : Option Addr} {al : List (ActL × ActP)} (h : ActsAt w A al) (n : Nat) : ActsAt w A (al.take n) := fun j x hj => by
  refine h j x ?_
  rw [List.getElem?_take] at hj
  split at hj
  · exact hj
  · cases hj
theorem ActsAt.drop {w : World} {A : Option Addr} {al : List (ActL × ActP)} (h : ActsAt w A al) (n : Nat) : ActsAt w (A.map (fun a => a.add (n * 18))) (al.drop n) := fun j x hj => by
  rw [List.getElem?_drop] at hj
  obtain ⟨ab, ao, rfl, hl, ha⟩ := h (n + j) x hj
  refine ⟨ab, ao + n * 18, by simp [Go.Lk.add_plain], ?_, ha⟩
  have e : ao + n * 18 + j * 18 = ao + (n + j) * 18 := by omega
  rw [e]; exact hl
theorem ActsAt.upd0 {w w1 : World} {A : Option Addr} {al : List (ActL × ActP)} (h : ActsAt w A al) (hu : Upd [] w w1) : ActsAt w1 A al := fun j x hj => by
  obtain ⟨ab, ao, e, hl, ha⟩ := h j x hj
  exact ⟨ab, ao, e, hl.upd hu (by simp), ha.upd hu (by simp)⟩
end Go.Proofs.YtajoldboafkpdaaDoor
