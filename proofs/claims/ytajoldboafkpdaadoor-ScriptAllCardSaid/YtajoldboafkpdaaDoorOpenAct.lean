-- An act that came in by value, as data.
import Derived.Test.YtajoldboafkpdaaDoorGreat
import Derived.Test.YtajoldboafkpdaaDoorOpen
import Derived.ChangeArms
import Derived.ChangeSame
import Derived.KernelRfl
namespace Go.Proofs.YtajoldboafkpdaaDoor
set_option linter.unusedSimpArgs false
set_option linter.unusedVariables false
open Go.RowKit Go.Lk
structure ReqWf (r : ReqL) : Prop where
  mo : i64R r.mode
  cl : i64R r.cls
  ti : 0 ≤ r.timeout ∧ r.timeout < 18446744073709551616
  gr : i64R r.group
  si : i64R r.signal
structure ActWf (a : ActL) : Prop where
  op : i64R a.op
  id : i64R a.id
  n : i64R a.n
  ids : ∀ x ∈ a.ids, i64R x
  ti : 0 ≤ a.time ∧ a.time < 18446744073709551616
  st : i64R a.status
  rq : ReqWf a.req
theorem i64_of_wf {n : Int} (h : (Lit.int .i64 n).wf = true) : i64R n := by
  have := bounds_i64 h
  unfold i64R; omega
theorem u64_of_wf {n : Int} (h : (Lit.int .u64 n).wf = true) : 0 ≤ n ∧ n < 18446744073709551616 := by
  have := bounds_u64 h
  omega
theorem str_back (s : ByteArray) : (⟨s.data.toList.toArray⟩ : ByteArray) = s := by cases s; simp
theorem ints_of {w : World} {v : Value} {l : List Int} (h : SliceR w 1 (fun cs (n : Int) => cs = [.int .i64 n] ∧ (Lit.int .i64 n).wf = true) v l) : ∃ A c, v = .slice A l.length c ∧ IntsAt w A l ∧ ∀ x ∈ l, i64R x := by
  obtain ⟨A, c, rfl, _, hp⟩ := h
  refine ⟨A, c, rfl, fun j x hj => ?_, fun x hx => ?_⟩
  · obtain ⟨ab, ao, rfl, cs, _, hc, rfl, _⟩ := hp j x hj
    exact ⟨ab, ao, rfl, by have := hc 0 _ rfl; simpa using this⟩
  · obtain ⟨j, hj⟩ := List.getElem?_of_mem hx
    obtain ⟨ab, ao, _, cs, _, _, _, hw⟩ := hp j x hj
    exact i64_of_wf hw
theorem hdrs_of {w : World} {v : Value} {l : List (Bs × Bs)} (h : SliceR w 2 (HdrR w) v l) : ∃ A c, v = .slice A l.length c ∧ HdrsAt w A l := by
  obtain ⟨A, c, rfl, _, hp⟩ := h
  refine ⟨A, c, rfl, fun j x hj => ?_⟩
  obtain ⟨ab, ao, rfl, cs, _, hc, hr⟩ := hp j x hj
  unfold HdrR at hr
  subst hr
  exact ⟨ab, ao, rfl, by unfold strV; have := hc 0 _ rfl; simpa using this, by have := hc 1 _ rfl; rw [← Nat.add_assoc] at this; exact this⟩
section
variable {H : Type} {enc : TypeId × Value → H} {w : World} {spare : Nat → Bool} {held : Bool}
theorem fieldAt {t : TypeId} {fs : Array Field} {n : Nat} {cs : List Value} {x : DataW H × List MemPlace} (ht : Tryd.prog.underlying t = some (.struct fs)) (h : DataW.trod enc Tryd.prog w 0 spare held n t cs = some x) (i : Nat) (T off sz : Nat) (f : Field) (hf : fs[i]? = some f) (hT : f.type = T) (ho : f.offset = off) (hs : Tryd.prog.cellsOf T = sz) :
    ∃ m y, DataW.trod enc Tryd.prog w 0 spare held m T ((cs.drop off).take sz) = some y := by
  subst hT ho hs
  obtain ⟨xs, m, _, _, _, hlen, hall⟩ := DataW.trod_struct ht h
  have hi : i < fs.size := (Array.getElem?_eq_some_iff.1 hf).1
  refine ⟨m, xs[i], ?_⟩
  rw [hall i f hf]
  simp [hlen, hi]
set_option maxRecDepth 100000 in
theorem open_hdr {n : Nat} {cs : List Value} {x : DataW H × List MemPlace} (h : DataW.trod enc Tryd.prog w 0 spare held n 100 cs = some x) : ∃ y : Bs × Bs, HdrR w cs y := by
  have hl : cs.length = Tryd.prog.cellsOf 100 := by
    obtain ⟨xs, m, _, _, hl, _, _⟩ := DataW.trod_struct Tryd.underlying100 h
    exact hl
  obtain ⟨m0, y0, h0⟩ := fieldAt Tryd.underlying100 h 0 9 0 1 _ rfl rfl rfl (by kernel_rfl)
  obtain ⟨m1, y1, h1⟩ := fieldAt Tryd.underlying100 h 1 9 1 1 _ rfl rfl rfl (by kernel_rfl)
  have hc : Tryd.prog.cellsOf 100 = 2 := by kernel_rfl
  rw [hc] at hl
  match cs, hl with
  | [c0, c1], _ =>
    obtain ⟨s0, e0, _, _⟩ := DataW.trod_string Tryd.underlying9 h0
    obtain ⟨s1, e1, _, _⟩ := DataW.trod_string Tryd.underlying9 h1
    refine ⟨(s0.data.toList, s1.data.toList), ?_⟩
    have e0' : c0 = .string s0 := by simpa using e0
    have e1' : c1 = .string s1 := by simpa using e1
    unfold HdrR
    rw [e0', e1', str_back, str_back]
theorem open_hdrs {n : Nat} {cs : List Value} {x : DataW H × List MemPlace} (h : DataW.trod enc Tryd.prog w 0 spare held n 24 cs = some x) : ∃ A c l, cs = [.slice A l.length c] ∧ HdrsAt w A l := by
  obtain ⟨v, l, rfl, hs⟩ := open_sliceR (R := HdrR w) Tryd.underlying24 2 (by kernel_rfl) (by omega) (fun n cs' d hd => open_hdr hd) h
  obtain ⟨A, c, rfl, ha⟩ := hdrs_of hs
  exact ⟨A, c, l, rfl, ha⟩
set_option maxRecDepth 100000 in
theorem open_req {n : Nat} {cs : List Value} {x : DataW H × List MemPlace} (h : DataW.trod enc Tryd.prog w 0 spare held n 27 cs = some x) : ∃ (r : ReqL) (A : Option Addr) (k : Nat), cs = [.string ⟨r.method.toArray⟩, .string ⟨r.url.toArray⟩, .string ⟨r.origin.toArray⟩, .int .i64 r.mode, .bool r.creds, .slice A r.headers.length k, .int .i64 r.cls, .int .u64 r.timeout, .int .i64 r.group, .int .i64 r.signal] ∧ HdrsAt w A r.headers ∧ ReqWf r := by
  have hl : cs.length = 10 := by
    obtain ⟨xs, m, _, _, hl, _, _⟩ := DataW.trod_struct Tryd.underlying27 h
    rw [hl]; kernel_rfl
  obtain ⟨m0, y0, h0⟩ := fieldAt Tryd.underlying27 h 0 9 0 1 _ rfl rfl rfl (by kernel_rfl)
  obtain ⟨m1, y1, h1⟩ := fieldAt Tryd.underlying27 h 1 9 1 1 _ rfl rfl rfl (by kernel_rfl)
  obtain ⟨m2, y2, h2⟩ := fieldAt Tryd.underlying27 h 2 9 2 1 _ rfl rfl rfl (by kernel_rfl)
  obtain ⟨m3, y3, h3⟩ := fieldAt Tryd.underlying27 h 3 3 3 1 _ rfl rfl rfl (by kernel_rfl)
  obtain ⟨m4, y4, h4⟩ := fieldAt Tryd.underlying27 h 4 4 4 1 _ rfl rfl rfl (by kernel_rfl)
  obtain ⟨m5, y5, h5⟩ := fieldAt Tryd.underlying27 h 5 24 5 1 _ rfl rfl rfl (by kernel_rfl)
  obtain ⟨m6, y6, h6⟩ := fieldAt Tryd.underlying27 h 6 3 6 1 _ rfl rfl rfl (by kernel_rfl)
  obtain ⟨m7, y7, h7⟩ := fieldAt Tryd.underlying27 h 7 23 7 1 _ rfl rfl rfl (by kernel_rfl)
  obtain ⟨m8, y8, h8⟩ := fieldAt Tryd.underlying27 h 8 3 8 1 _ rfl rfl rfl (by kernel_rfl)
  obtain ⟨m9, y9, h9⟩ := fieldAt Tryd.underlying27 h 9 3 9 1 _ rfl rfl rfl (by kernel_rfl)
  match cs, hl with
  | [c0, c1, c2, c3, c4, c5, c6, c7, c8, c9], _ =>
    obtain ⟨s0, e0, _, _⟩ := DataW.trod_string Tryd.underlying9 h0
    obtain rfl : c0 = .string s0 := by simpa using e0
    obtain ⟨s1, e1, _, _⟩ := DataW.trod_string Tryd.underlying9 h1
    obtain rfl : c1 = .string s1 := by simpa using e1
    obtain ⟨s2, e2, _, _⟩ := DataW.trod_string Tryd.underlying9 h2
    obtain rfl : c2 = .string s2 := by simpa using e2
    obtain ⟨s3, e3, _, w3⟩ := DataW.trod_int Tryd.underlying3 h3
    obtain rfl : c3 = .int .i64 s3 := by simpa using e3
    obtain ⟨s4, e4, _⟩ := DataW.trod_bool Tryd.underlying4 h4
    obtain rfl : c4 = .bool s4 := by simpa using e4
    obtain ⟨A5, k5, l5, e5, a5⟩ := open_hdrs h5
    obtain rfl : c5 = .slice A5 l5.length k5 := by simpa using e5
    obtain ⟨s6, e6, _, w6⟩ := DataW.trod_int Tryd.underlying3 h6
    obtain rfl : c6 = .int .i64 s6 := by simpa using e6
    obtain ⟨s7, e7, _, w7⟩ := DataW.trod_int Tryd.underlying23 h7
    obtain rfl : c7 = .int .u64 s7 := by simpa using e7
    obtain ⟨s8, e8, _, w8⟩ := DataW.trod_int Tryd.underlying3 h8
    obtain rfl : c8 = .int .i64 s8 := by simpa using e8
    obtain ⟨s9, e9, _, w9⟩ := DataW.trod_int Tryd.underlying3 h9
    obtain rfl : c9 = .int .i64 s9 := by simpa using e9
    refine ⟨⟨s0.data.toList, s1.data.toList, s2.data.toList, s3, s4, l5, s6, s7, s8, s9⟩, A5, k5, ?_, a5, ⟨i64_of_wf w3, i64_of_wf w6, u64_of_wf w7, i64_of_wf w8, i64_of_wf w9⟩⟩
    simp only [str_back]
set_option maxRecDepth 100000 in
theorem open_act {n : Nat} {cs : List Value} {x : DataW H × List MemPlace} (h : DataW.trod enc Tryd.prog w 0 spare held n 29 cs = some x) : ∃ (a : ActL) (p : ActP), cs = actCells a p ∧ ActAt w a p ∧ ActWf a := by
  have hl : cs.length = 18 := by
    obtain ⟨xs, m, _, _, hl, _, _⟩ := DataW.trod_struct Tryd.underlying29 h
    rw [hl]; kernel_rfl
  obtain ⟨m0, y0, h0⟩ := fieldAt Tryd.underlying29 h 0 3 0 1 _ rfl rfl rfl (by kernel_rfl)
  obtain ⟨m1, y1, h1⟩ := fieldAt Tryd.underlying29 h 1 3 1 1 _ rfl rfl rfl (by kernel_rfl)
  obtain ⟨m2, y2, h2⟩ := fieldAt Tryd.underlying29 h 2 3 2 1 _ rfl rfl rfl (by kernel_rfl)
  obtain ⟨m3, y3, h3⟩ := fieldAt Tryd.underlying29 h 3 22 3 1 _ rfl rfl rfl (by kernel_rfl)
  obtain ⟨m4, y4, h4⟩ := fieldAt Tryd.underlying29 h 4 23 4 1 _ rfl rfl rfl (by kernel_rfl)
  obtain ⟨m5, y5, h5⟩ := fieldAt Tryd.underlying29 h 5 3 5 1 _ rfl rfl rfl (by kernel_rfl)
  obtain ⟨m6, y6, h6⟩ := fieldAt Tryd.underlying29 h 6 24 6 1 _ rfl rfl rfl (by kernel_rfl)
  obtain ⟨m7, y7, h7⟩ := fieldAt Tryd.underlying29 h 7 25 7 1 _ rfl rfl rfl (by kernel_rfl)
  obtain ⟨m8, y8, h8⟩ := fieldAt Tryd.underlying29 h 8 27 8 10 _ rfl rfl rfl (by kernel_rfl)
  match cs, hl with
  | [c0, c1, c2, c3, c4, c5, c6, c7, c8, c9, c10, c11, c12, c13, c14, c15, c16, c17], _ =>
    obtain ⟨s0, e0, _, w0⟩ := DataW.trod_int Tryd.underlying3 h0
    obtain rfl : c0 = .int .i64 s0 := by simpa using e0
    obtain ⟨s1, e1, _, w1⟩ := DataW.trod_int Tryd.underlying3 h1
    obtain rfl : c1 = .int .i64 s1 := by simpa using e1
    obtain ⟨s2, e2, _, w2⟩ := DataW.trod_int Tryd.underlying3 h2
    obtain rfl : c2 = .int .i64 s2 := by simpa using e2
    obtain ⟨v3, l3, e3, q3⟩ := open_intsR Tryd.underlying22 Tryd.underlying3 (by kernel_rfl) h3
    obtain ⟨A3, k3, rfl, a3, w3⟩ := ints_of q3
    obtain rfl : c3 = .slice A3 l3.length k3 := by simpa using e3
    obtain ⟨s4, e4, _, w4⟩ := DataW.trod_int Tryd.underlying23 h4
    obtain rfl : c4 = .int .u64 s4 := by simpa using e4
    obtain ⟨s5, e5, _, w5⟩ := DataW.trod_int Tryd.underlying3 h5
    obtain rfl : c5 = .int .i64 s5 := by simpa using e5
    obtain ⟨A6, k6, l6, e6, a6⟩ := open_hdrs h6
    obtain rfl : c6 = .slice A6 l6.length k6 := by simpa using e6
    obtain ⟨v7, l7, e7, A7, k7, rfl, p7, a7⟩ := open_bytesR Tryd.underlying25 Tryd.underlying5 (by kernel_rfl) h7
    obtain rfl : c7 = .slice A7 l7.length k7 := by simpa using e7
    obtain ⟨r, A8, k8, e8, a8, w8⟩ := open_req h8
    refine ⟨⟨s0, s1, s2, l3, s4, s5, l6, l7, r⟩, ⟨A3, k3, A6, k6, A7, k7, A8, k8⟩, ?_, ⟨a3, a6, a7, p7, a8⟩, ⟨i64_of_wf w0, i64_of_wf w1, i64_of_wf w2, w3, u64_of_wf w4, i64_of_wf w5, w8⟩⟩
    unfold actCells
    rw [← e8]
    rfl
end
end Go.Proofs.YtajoldboafkpdaaDoor
