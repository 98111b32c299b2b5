-- ScriptBack: the plain law's bounds.
import Derived.Test.YtajoldboafkpdaaDoorOpenAct
import Derived.Test.YtajoldboafkpdaaDoorRoundU
namespace Go.Proofs.YtajoldboafkpdaaDoor
set_option linter.unusedSimpArgs false
set_option linter.unusedVariables false
open Go.RowKit Go.Lk
theorem lim_of_few {a : ActL} (h : ActFew a) (hw : ActWf a) : ActLim a := by
  have h1 := h.ids; have h2 := h.bt; have h3 := h.hd; have h4 := h.rq
  have hd1 : HdrLim a.headers := ⟨by have := h3.1; omega, fun x hx => by have := h3.2 x hx; omega⟩
  have hd2 : HdrLim a.req.headers := ⟨by have := h4.hd.1; omega, fun x hx => by have := h4.hd.2 x hx; omega⟩
  exact ⟨hw.op, hw.id, hw.n, ⟨by omega, hw.ids⟩, hw.ti, hw.st, hd1, by omega,
    ⟨by have := h4.me; omega, by have := h4.ur; omega, by have := h4.og; omega, hw.rq.mo, hw.rq.cl, hw.rq.ti, hw.rq.gr, hw.rq.si, hd2⟩⟩
theorem actB_of {a : ActL} (hw : ActWf a) : ActB a :=
  ⟨hw.id.2, hw.n.2, fun x hx => (hw.ids x hx).2, ⟨hw.ti.1, by have := hw.ti.2; omega⟩, hw.st.2, hw.rq.mo.2, hw.rq.cl.2, ⟨hw.rq.ti.1, by have := hw.rq.ti.2; omega⟩, hw.rq.gr.2, hw.rq.si.2⟩
theorem ints_few {l : List Int} (h : ∀ x ∈ l, i64R x) : ∀ y ∈ (intsW l).1, y.length ≤ 10102 := by
  intro y hy
  simp only [intsW, List.mem_map] at hy
  obtain ⟨x, hx, rfl⟩ := hy
  have := Lib.itoa_length_le x (h x hx).1 (h x hx).2
  omega
theorem u64_few {n : Int} (h : 0 ≤ n ∧ n < 18446744073709551616) : (Lib.itoa n).length ≤ 10102 := by
  obtain ⟨m, rfl⟩ : ∃ m : Nat, n = m := ⟨n.toNat, by omega⟩
  rw [Lib.itoa_nonneg, Lib.decDigits_length]
  have := Lib.nDigits_le20 m (by omega)
  omega
theorem hdrs_few {l : List (Bs × Bs)} (h : HdrFew l) : ∀ y ∈ (hdrsW l).1, y.length ≤ 10102 := by
  intro y hy
  simp only [hdrsW, List.mem_map] at hy
  obtain ⟨x, hx, rfl⟩ := hy
  have := h.2 x hx
  have := hexS_le x.2
  simp only [hdrW, List.length_append, List.length_cons]
  omega
theorem actW_few {a : ActL} (h : ActFew a) (hw : ActWf a) : (actW a).1.length ≤ 79 ∧ ∀ y ∈ (actW a).1, y.length ≤ 10102 := by
  have h1 := h.ids; have h2 := h.bt; have h3 := h.hd; have h4 := h.rq
  have hh := hdrs_few h3
  have hh1 := h3.1
  have hi := ints_few hw.ids
  have hb := hexS_le a.bytes
  have t1 := u64_few hw.ti
  have one : ∀ l : List Int, (∀ x ∈ l, i64R x) → l.length ≤ 5 → (intsW l).1.length ≤ 79 ∧ ∀ y ∈ (intsW l).1, y.length ≤ 10102 := fun l hl hn => ⟨by simp [intsW]; omega, ints_few hl⟩
  have o1 := one [a.id] (by simpa using hw.id) (by simp)
  have o2 := one [a.id, a.status] (by simpa using ⟨hw.id, hw.st⟩) (by simp)
  have o3 := one [a.id, a.n] (by simpa using ⟨hw.id, hw.n⟩) (by simp)
  unfold actW
  split
  · simp
  split
  · exact ⟨by simp [intsW]; omega, hi⟩
  split
  · have g1 := ints_few (l := [a.req.mode, if a.req.creds then 1 else 0, a.req.cls]) (by
      intro x hx
      simp only [List.mem_cons, List.mem_nil_iff, or_false] at hx
      rcases hx with rfl | rfl | rfl
      · exact hw.rq.mo
      · unfold i64R; split <;> omega
      · exact hw.rq.cl)
    have g2 := ints_few (l := [a.req.group, a.req.signal]) (by
      intro x hx
      simp only [List.mem_cons, List.mem_nil_iff, or_false] at hx
      rcases hx with rfl | rfl
      · exact hw.rq.gr
      · exact hw.rq.si)
    have g3 := hdrs_few h4.hd
    have g4 := h4.hd.1
    have g5 := h4.me
    have g6 := h4.ur
    have g7 := h4.og
    refine ⟨by simp [reqW, intsW, hdrsW]; omega, fun y hy => ?_⟩
    simp only [reqW, List.mem_append, List.mem_cons, List.mem_nil_iff, or_false] at hy
    rcases hy with ((((rfl | rfl | rfl) | hy) | rfl) | hy) | hy
    · omega
    · omega
    · omega
    · exact g1 y hy
    · exact u64_few hw.rq.ti
    · exact g2 y hy
    · exact g3 y hy
  split
  · simp; omega
  split
  · refine ⟨by simp [intsW, hdrsW]; omega, fun y hy => ?_⟩
    rcases List.mem_append.1 hy with hy | hy
    · exact o2.2 y hy
    · exact hh y hy
  split
  · refine ⟨by simp [intsW], fun y hy => ?_⟩
    rcases List.mem_append.1 hy with hy | hy
    · exact o1.2 y hy
    · simp only [List.mem_cons, List.mem_nil_iff, or_false] at hy
      subst hy; omega
  split
  · exact o3
  split
  · exact o1
  · simp
theorem showS_few {a : ActL} {t : Bs} (h : ActFew a) (hw : ActWf a) (ht : showS a = some t) : t.length ≤ 900000 := by
  obtain ⟨h1, h2⟩ := actW_few h hw
  unfold showS at ht
  split at ht
  · injection ht with ht
    subst ht
    have := join_le (ws := opS a.op :: (actW a).1) (M := 10102) (fun y hy => by
      rcases List.mem_cons.1 hy with rfl | hy
      · have := opS_le a.op; omega
      · exact h2 y hy)
    have h3 : (opS a.op :: (actW a).1).length ≤ 80 := by rw [List.length_cons]; omega
    have h4 : (opS a.op :: (actW a).1).length * (10102 + 1) ≤ 80 * (10102 + 1) := Nat.mul_le_mul_right _ h3
    omega
  · cases ht
theorem readS_lim {s : Bs} {b : ActL} (hs : s.length ≤ 900000) (h : readS s = some b) : ActLim b := by
  unfold readS at h
  simp only at h
  split at h
  · injection h with h
    rw [← h]
    exact parseS_lim (rdLim_split hs) (opOfS_i64 _)
  · cases h
end Go.Proofs.YtajoldboafkpdaaDoor
