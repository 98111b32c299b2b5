-- lockkeeperlaw0.GreatHeaders, GreatReq, GreatActs: contracts (what is so where they say no).
import Derived.Test.YtajoldboafkpdaaDoorAwake27
namespace Go.Proofs.YtajoldboafkpdaaDoor
set_option linter.unusedSimpArgs false
set_option linter.unusedVariables false
open Go.RowKit Go.Lk
def HdrFew (l : List (Bs × Bs)) : Prop := l.length ≤ 40 ∧ ∀ x ∈ l, x.1.length ≤ 100 ∧ x.2.length ≤ 5000
def hdrBig (h : Bs × Bs) : Bool := decide (100 < h.1.length) || decide (5000 < h.2.length)
def hdrSum (l : List (Bs × Bs)) : Nat := (l.map (·.2.length)).sum
def greatH (l : List (Bs × Bs)) : Bool := decide (40 < l.length) || l.any hdrBig || decide (12000 < hdrSum l)
theorem greatH_few {l : List (Bs × Bs)} (h : greatH l = false) : HdrFew l := by
  unfold greatH at h
  simp only [Bool.or_eq_false_iff, decide_eq_false_iff_not, List.any_eq_false] at h
  refine ⟨by omega, fun x hx => ?_⟩
  have := h.1.2 x hx
  unfold hdrBig at this
  simp only [Bool.or_eq_true, decide_eq_true_eq, not_or] at this
  omega
set_option maxRecDepth 100000 in
theorem great_headers {w : World} {A : Option Addr} {c : Nat} {l : List (Bs × Bs)} (hA : HdrsAt w A l) :
    Calls Tryd.prog 28 #[.slice A l.length c] w fun e w' => e = .returned (.bool (greatH l)) ∧ w' = w := by
  have HA := Lib.hid hA; clear hA
  obtain ⟨r, hr⟩ : ∃ r, r = greatH l := ⟨_, rfl⟩
  have HR := Lib.hid hr
  rw [← hr]
  clear hr
  by_cases h40 : 40 < l.length
  · have h40' : (l.length : Int) > 40 := by omega
    have hr2 : r = true := by rw [HR.out]; unfold greatH; rw [decide_eq_true h40]; rfl
    go_enter Tryd.func28, Tryd.ntmps28
    go_wp2
    go_ret
    exact ⟨by first | rfl | (rw [hr2]; rfl), rfl⟩
  go_enter Tryd.func28, Tryd.ntmps28
  go_wp2_with fail
  go_loopw [3, 4] (fun v3 v4 wr => ∃ (k : Nat), k ≤ l.length ∧ v3 = .int .i64 (hdrSum (l.take k) : Nat) ∧ v4 = .int .i64 k ∧ wr = w ∧ (l.take k).any hdrBig = false ∧ hdrSum (l.take k) ≤ 5000 * k) (fun _ v4 _ => l.length - (intOf v4).toNat)
  case atStart => exact ⟨0, by omega, rfl, rfl, rfl, rfl, by simp [hdrSum]⟩
  case round =>
    obtain ⟨k, hk, rfl, rfl, rfl, hall, hle⟩ := hrel
    have HALL := Lib.hid hall; clear hall
    obtain ⟨n, hn⟩ : ∃ n, n = hdrSum (l.take k) := ⟨_, rfl⟩
    rw [← hn] at hle ⊢
    have HN := Lib.hid hn; clear hn
    by_cases hlt : k < l.length
    · obtain ⟨x, hx⟩ : ∃ x, x = l[k] := ⟨_, rfl⟩
      obtain ⟨ab, ao, hAe, hc1, hc2⟩ := HA.out k x (by simp [hx, hlt])
      subst hAe
      have htk : l.take (k + 1) = l.take k ++ [x] := by rw [List.take_succ_eq_append_getElem hlt, hx]
      have hmem : x ∈ l := by rw [hx]; exact List.getElem_mem hlt
      have HTK := Lib.hid htk; have HM := Lib.hid hmem; clear htk hx hmem
      obtain ⟨x1, x2⟩ := x
      unfold strV at hc1 hc2
      have hbig : hdrBig (x1, x2) = true → r = true := fun hb => by
        rw [HR.out]; unfold greatH
        rw [List.any_eq_true.2 ⟨_, HM.out, hb⟩]; simp
      by_cases h1 : 100 < x1.length
      · have h1' : (x1.length : Int) > 100 := by omega
        have hr2 : r = true := hbig (by unfold hdrBig; simp only; rw [decide_eq_true h1]; rfl)
        clear hbig
        go_wp2_with fail
        go_ret
        exact ⟨by first | rfl | (rw [hr2]; rfl), rfl⟩
      · by_cases h2 : 5000 < x2.length
        · have h2' : (x2.length : Int) > 5000 := by omega
          have hr2 : r = true := hbig (by unfold hdrBig; simp only; rw [decide_eq_true h2]; simp)
          clear hbig
          go_wp2_with fail
          go_ret
          exact ⟨by first | rfl | (rw [hr2]; rfl), rfl⟩
        · have hsum : hdrSum (l.take (k + 1)) = n + x2.length := by rw [HTK.out, HN.out]; simp [hdrSum]
          have hany : (l.take (k + 1)).any hdrBig = false := by
            rw [HTK.out, List.any_append, HALL.out]
            simp only [List.any_cons, List.any_nil, hdrBig, Bool.or_false, Bool.false_or]
            rw [decide_eq_false h1, decide_eq_false h2]; rfl
          have HSUM := Lib.hid hsum; have HANY := Lib.hid hany
          clear hbig hsum hany
          go_wp2_with fail
          refine ⟨⟨k + 1, by omega, ?_, by go_num, by trivial, HANY.out, by rw [HSUM.out]; omega⟩, by simp [intOf]; omega⟩
          rw [HSUM.out]; go_num
    · have hkl : k = l.length := by omega
      have hr2 : r = decide (12000 < n) := by
        rw [HR.out, HN.out]; unfold greatH
        have := HALL.out
        rw [hkl, List.take_length] at this ⊢
        rw [this, decide_eq_false h40]; simp
      have hr3 : r = decide ((n : Int) > 12000) := by rw [hr2]; congr 1; simp; omega
      have HR3 := Lib.hid hr3
      clear hr2 hr3 hkl
      go_wp2_with fail
      go_ret
      exact ⟨by rw [HR3.out]; rfl, rfl⟩
structure ReqFew (r : ReqL) : Prop where
  me : r.method.length ≤ 60
  ur : r.url.length ≤ 700
  og : r.origin.length ≤ 700
  hd : HdrFew r.headers
def greatR (r : ReqL) : Bool := decide (60 < r.method.length) || decide (700 < r.url.length) || decide (700 < r.origin.length) || greatH r.headers
theorem greatR_few {r : ReqL} (h : greatR r = false) : ReqFew r := by
  unfold greatR at h
  simp only [Bool.or_eq_false_iff, decide_eq_false_iff_not] at h
  exact ⟨by omega, by omega, by omega, greatH_few h.2⟩
set_option maxHeartbeats 800000 in
set_option maxRecDepth 100000 in
theorem great_req {w : World} {A : Option Addr} {c : Nat} (r : ReqL) (hA : HdrsAt w A r.headers) :
    Calls Tryd.prog 29 #[reqV r (.slice A r.headers.length c)] w fun e w' => e = .returned (.bool (greatR r)) ∧ Upd [] w w' := by
  have HA := Lib.hid hA; clear hA
  obtain ⟨w1, hw1⟩ : ∃ w1, w1 = w.alloc (.cells #[.string ⟨r.method.toArray⟩, .string ⟨r.url.toArray⟩, .string ⟨r.origin.toArray⟩, .int .i64 r.mode, .bool r.creds, .slice A r.headers.length c, .int .i64 r.cls, .int .u64 r.timeout, .int .i64 r.group, .int .i64 r.signal] 27) := ⟨_, rfl⟩
  have hb := heap_alloc_self (w := w) (.cells #[.string ⟨r.method.toArray⟩, .string ⟨r.url.toArray⟩, .string ⟨r.origin.toArray⟩, .int .i64 r.mode, .bool r.creds, .slice A r.headers.length c, .int .i64 r.cls, .int .u64 r.timeout, .int .i64 r.group, .int .i64 r.signal] 27)
  have hu : Upd [] w w1 := by rw [hw1]; exact (Upd.refl [] w).alloc _
  rw [← hw1] at hb
  have f0 : w1.cell? ⟨w.heap.size, 0, none⟩ = some (.string ⟨r.method.toArray⟩) := cell_of (i := 0) hb rfl
  have f1 : w1.cell? ⟨w.heap.size, 1, none⟩ = some (.string ⟨r.url.toArray⟩) := cell_of (i := 1) hb rfl
  have f2 : w1.cell? ⟨w.heap.size, 2, none⟩ = some (.string ⟨r.origin.toArray⟩) := cell_of (i := 2) hb rfl
  have f5 : w1.cell? ⟨w.heap.size, 5, none⟩ = some (.slice A r.headers.length c) := cell_of (i := 5) hb rfl
  have HU := Lib.hid hu; have HW1 := Lib.hid hw1
  rw [hw1] at f0 f1 f2 f5
  clear hw1 hb hu
  unfold reqV
  obtain ⟨g, hg⟩ : ∃ g, g = greatR r := ⟨_, rfl⟩
  have HG := Lib.hid hg
  rw [← hg]
  clear hg
  by_cases h1 : 60 < r.method.length
  · have hg2 : g = true := by rw [HG.out]; unfold greatR; rw [decide_eq_true h1]; simp
    have h1' : (r.method.length : Int) > 60 := by omega
    go_enter Tryd.func29, Tryd.ntmps29
    go_wp2
    go_ret
    exact ⟨by first | rfl | (rw [hg2]; rfl), by rw [← HW1.out]; exact HU.out⟩
  by_cases h2 : 700 < r.url.length
  · have hg2 : g = true := by rw [HG.out]; unfold greatR; rw [decide_eq_true h2]; simp
    have h2' : (r.url.length : Int) > 700 := by omega
    go_enter Tryd.func29, Tryd.ntmps29
    go_wp2
    go_ret
    exact ⟨by first | rfl | (rw [hg2]; rfl), by rw [← HW1.out]; exact HU.out⟩
  by_cases h3 : 700 < r.origin.length
  · have hg2 : g = true := by rw [HG.out]; unfold greatR; rw [decide_eq_true h3]; simp
    have h3' : (r.origin.length : Int) > 700 := by omega
    go_enter Tryd.func29, Tryd.ntmps29
    go_wp2
    go_ret
    exact ⟨by first | rfl | (rw [hg2]; rfl), by rw [← HW1.out]; exact HU.out⟩
  have n1 : ¬ (60 < (r.method.length : Int)) := by omega
  have n2 : ¬ (700 < (r.url.length : Int)) := by omega
  have n3 : ¬ (700 < (r.origin.length : Int)) := by omega
  go_enter Tryd.func29, Tryd.ntmps29
  go_wp2_with fail
  rw [← HW1.out]
  refine (great_headers (HA.out.upd HU.out (by simp))).mono ?_
  rintro e w2 ⟨rfl, rfl⟩
  have hg2 : g = greatH r.headers := by rw [HG.out]; unfold greatR; rw [decide_eq_false h1, decide_eq_false h2, decide_eq_false h3]; rfl
  rw [← hg2]
  clear hg2
  go_wp2_with fail
  go_ret
  exact ⟨rfl, HU.out⟩
structure ActFew (a : ActL) : Prop where
  ids : a.ids.length ≤ 70
  bt : a.bytes.length ≤ 200
  hd : HdrFew a.headers
  rq : ReqFew a.req
def greatAct (a : ActL) : Bool := decide (70 < a.ids.length) || decide (200 < a.bytes.length) || greatH a.headers || greatR a.req
def greatA (l : List ActL) (m : Int) : Bool := decide ((l.length : Int) > m) || l.any greatAct
theorem greatAct_few {a : ActL} (h : greatAct a = false) : ActFew a := by
  unfold greatAct at h
  simp only [Bool.or_eq_false_iff, decide_eq_false_iff_not] at h
  exact ⟨by omega, by omega, greatH_few h.1.2, greatR_few h.2⟩
theorem greatA_few {l : List ActL} {m : Int} (h : greatA l m = false) : (l.length : Int) ≤ m ∧ ∀ x ∈ l, ActFew x := by
  unfold greatA at h
  simp only [Bool.or_eq_false_iff, decide_eq_false_iff_not, List.any_eq_false] at h
  exact ⟨by omega, fun x hx => greatAct_few (by have := h.2 x hx; simpa using this)⟩
/-- Acts that lie one behind the other. -/
def ActsAt (w : World) (A : Option Addr) (al : List (ActL × ActP)) : Prop := ∀ (j : Nat) x, al[j]? = some x → ∃ ab ao, A = some ⟨ab, ao, none⟩ ∧ LiesAt w ab (ao + j * 18) (actCells x.1 x.2) ∧ ActAt w x.1 x.2
theorem HdrsAt.upd0 {w w1 : World} {A : Option Addr} {l : List (Bs × Bs)} (h : HdrsAt w A l) (hu : Upd [] w w1) : HdrsAt w1 A l := h.upd hu (by simp)
set_option maxRecDepth 100000 in
set_option maxHeartbeats 1600000 in
theorem great_acts {w : World} {A : Option Addr} {c : Nat} {al : List (ActL × ActP)} (hA : ActsAt w A al) (m : Int) (hn : al.length ≤ 1000000) :
    Calls Tryd.prog 9 #[.slice A al.length c, .int .i64 m] w fun e w' => e = .returned (.bool (greatA (al.map (·.1)) m)) ∧ Upd [] w w' := by
  have HA := Lib.hid hA; clear hA
  obtain ⟨r, hr⟩ : ∃ r, r = greatA (al.map (·.1)) m := ⟨_, rfl⟩
  have HR := Lib.hid hr
  rw [← hr]
  clear hr
  by_cases hm : (al.length : Int) > m
  · have hr2 : r = true := by rw [HR.out]; unfold greatA; rw [List.length_map, decide_eq_true hm]; rfl
    go_enter Tryd.func9, Tryd.ntmps9
    go_wp2
    go_ret
    exact ⟨by first | rfl | (rw [hr2]; rfl), Upd.refl _ _⟩
  go_enter Tryd.func9, Tryd.ntmps9
  go_wp2_with fail
  go_loopw [5] (fun v5 wr => ∃ (k : Nat), k ≤ al.length ∧ v5 = .int .i64 k ∧ Upd [] w wr ∧ ((al.take k).map (·.1)).any greatAct = false) (fun v5 _ => al.length - (intOf v5).toNat)
  case atStart => exact ⟨0, by omega, rfl, Upd.refl _ _, rfl⟩
  case round =>
    obtain ⟨k, hk, rfl, hu, hall⟩ := hrel
    have HALL := Lib.hid hall; have HU := Lib.hid hu; clear hall hu
    by_cases hlt : k < al.length
    · obtain ⟨x, hx⟩ : ∃ x, x = al[k] := ⟨_, rfl⟩
      obtain ⟨ab, ao, hAe, hL0, hat0⟩ := HA.out k x (by simp [hx, hlt])
      subst hAe
      have htk : al.take (k + 1) = al.take k ++ [x] := by rw [List.take_succ_eq_append_getElem hlt, hx]
      have hmem : x.1 ∈ al.map (·.1) := List.mem_map.2 ⟨x, by rw [hx]; exact List.getElem_mem hlt, rfl⟩
      have hbig : greatAct x.1 = true → r = true := fun hb => by
        rw [HR.out]; unfold greatA
        rw [List.any_eq_true.2 ⟨_, hmem, hb⟩]; simp
      have HBIG := Lib.hid hbig
      have HTK := Lib.hid htk; clear htk hx hmem hbig
      have hL := hL0.upd HU.out (by simp)
      have hat := hat0.upd HU.out (by simp)
      obtain ⟨a, p⟩ := x
      have c3 : wr.cell? ⟨ab, ao + k * 18 + 3, none⟩ = some (.slice p.ai a.ids.length p.ci) := hL 3 _ rfl
      have c6 : wr.cell? ⟨ab, ao + k * 18 + 6, none⟩ = some (.slice p.ah a.headers.length p.ch) := hL 6 _ rfl
      have c7 : wr.cell? ⟨ab, ao + k * 18 + 7, none⟩ = some (.slice p.ab a.bytes.length p.cb) := hL 7 _ rfl
      have c8 : wr.cell? ⟨ab, ao + k * 18 + 8, none⟩ = some (.string ⟨a.req.method.toArray⟩) := hL 8 _ rfl
      have c9 : wr.cell? ⟨ab, ao + k * 18 + 9, none⟩ = some (.string ⟨a.req.url.toArray⟩) := hL 9 _ rfl
      have c10 : wr.cell? ⟨ab, ao + k * 18 + 10, none⟩ = some (.string ⟨a.req.origin.toArray⟩) := hL 10 _ rfl
      have c11 : wr.cell? ⟨ab, ao + k * 18 + 11, none⟩ = some (.int .i64 a.req.mode) := hL 11 _ rfl
      have c12 : wr.cell? ⟨ab, ao + k * 18 + 12, none⟩ = some (.bool a.req.creds) := hL 12 _ rfl
      have c13 : wr.cell? ⟨ab, ao + k * 18 + 13, none⟩ = some (.slice p.ar a.req.headers.length p.cr) := hL 13 _ rfl
      have c14 : wr.cell? ⟨ab, ao + k * 18 + 14, none⟩ = some (.int .i64 a.req.cls) := hL 14 _ rfl
      have c15 : wr.cell? ⟨ab, ao + k * 18 + 15, none⟩ = some (.int .u64 a.req.timeout) := hL 15 _ rfl
      have c16 : wr.cell? ⟨ab, ao + k * 18 + 16, none⟩ = some (.int .i64 a.req.group) := hL 16 _ rfl
      have c17 : wr.cell? ⟨ab, ao + k * 18 + 17, none⟩ = some (.int .i64 a.req.signal) := hL 17 _ rfl
      have HAT := Lib.hid hat
      clear hat hL hL0 hat0
      by_cases h1 : 70 < a.ids.length
      · have hr2 : r = true := HBIG.out (by unfold greatAct; simp only; rw [decide_eq_true h1]; simp)
        have h1' : (a.ids.length : Int) > 70 := by omega
        go_wp2_with fail
        go_ret
        exact ⟨by first | rfl | (rw [hr2]; rfl), HU.out⟩
      by_cases h2 : 200 < a.bytes.length
      · have hr2 : r = true := HBIG.out (by unfold greatAct; simp only; rw [decide_eq_true h2]; simp)
        have h2' : (a.bytes.length : Int) > 200 := by omega
        go_wp2_with fail
        go_ret
        exact ⟨by first | rfl | (rw [hr2]; rfl), HU.out⟩
      have n1 : ¬ (70 < (a.ids.length : Int)) := by omega
      have n2 : ¬ (200 < (a.bytes.length : Int)) := by omega
      go_wp2_with fail
      refine (great_headers HAT.out.hds).mono ?_
      rintro e w2 ⟨rfl, rfl⟩
      obtain ⟨gh, hgh⟩ : ∃ gh, gh = greatH a.headers := ⟨_, rfl⟩
      have HGH := Lib.hid hgh
      rw [← hgh]
      clear hgh
      cases gh with
      | true =>
        have hr2 : r = true := HBIG.out (by unfold greatAct; (try simp only); rw [← HGH.out]; simp)
        go_wp2_with fail
        go_ret
        exact ⟨by first | rfl | (rw [hr2]; rfl), HU.out⟩
      | false =>
        have q := great_req (c := p.cr) a.req HAT.out.rhd
        unfold reqV at q
        have Q := Lib.hid q; clear q
        go_wp2_with fail
        refine Q.out.mono ?_
        rintro e w3 ⟨rfl, hu3⟩
        have HU3 := Lib.hid (HU.out.trans hu3 (by simp)); clear hu3
        obtain ⟨gr, hgr⟩ : ∃ gr, gr = greatR a.req := ⟨_, rfl⟩
        have HGR := Lib.hid hgr
        rw [← hgr]
        clear hgr
        cases gr with
        | true =>
          have hr2 : r = true := HBIG.out (by unfold greatAct; (try simp only); rw [← HGR.out]; simp)
          go_wp2_with fail
          go_ret
          exact ⟨by first | rfl | (rw [hr2]; rfl), HU3.out⟩
        | false =>
          have hany : ((al.take (k + 1)).map (·.1)).any greatAct = false := by
            rw [HTK.out, List.map_append, List.any_append, HALL.out]
            simp only [List.map_cons, List.map_nil, List.any_cons, List.any_nil, greatAct, Bool.or_false, Bool.false_or]
            rw [decide_eq_false h1, decide_eq_false h2, ← HGH.out, ← HGR.out]; rfl
          have HANY := Lib.hid hany
          clear hany
          go_wp2_with fail
          exact ⟨⟨k + 1, by omega, by go_num, HU3.out, HANY.out⟩, by simp [intOf]; omega⟩
    · have hkl : k = al.length := by omega
      have hr2 : r = false := by
        rw [HR.out]; unfold greatA
        have := HALL.out
        rw [hkl, List.take_length] at this
        rw [this, List.length_map, decide_eq_false (by omega)]; rfl
      clear hkl
      go_wp2_with fail
      go_ret
      exact ⟨by first | rfl | (rw [hr2]; rfl), HU.out⟩
end Go.Proofs.YtajoldboafkpdaaDoor
