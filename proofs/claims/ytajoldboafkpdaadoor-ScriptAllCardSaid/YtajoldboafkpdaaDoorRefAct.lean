-- lockkeeperref27.act: contract. Written by gen/refact.py.
import Derived.Test.YtajoldboafkpdaaDoorRefReq
import Derived.Test.YtajoldboafkpdaaDoorRefWord
import Derived.Test.YtajoldboafkpdaaDoorParseEq
namespace Go.Proofs.YtajoldboafkpdaaDoor
set_option linter.unusedSimpArgs false
set_option linter.unusedVariables false
open Go.RowKit Go.Lk
theorem op_eq (x : Bs) (i : Int) (h : 1 ≤ i ∧ i ≤ 14) : opS i = x ↔ opOfS x = i := by
  constructor
  · rintro rfl; exact opOfS_opS h
  · intro he
    rcases opOfS_cases x with h0 | ⟨_, _, h3⟩
    · omega
    · rw [← he]; exact h3
theorem StrsAt.upd0 {w w1 : World} {A : Option Addr} {ws : List Bs} (h : StrsAt w A ws) (hu : Upd [] w w1) : StrsAt w1 A ws := h.upd hu (by simp)
def readQ (op : Int) (tl : List Bs) : Bool := !(op == 0) && actP op tl
theorem readQ_of {op : Int} (tl : List Bs) (h : op ≠ 0) : readQ op tl = actP op tl := by unfold readQ; rw [beq_eq_false_iff_ne.2 h]; rfl
theorem StrsAt.take {w : World} {A : Option Addr} {ws : List Bs} (h : StrsAt w A ws) (n : Nat) : StrsAt w A (ws.take n) := fun j x hj => by
  refine h j x ?_
  rw [List.getElem?_take] at hj
  split at hj
  · exact hj
  · cases hj
theorem RdLim.take {ws : List Bs} (h : RdLim ws) (n : Nat) : RdLim (ws.take n) := ⟨by rw [List.length_take]; have := h.1; omega, fun x hx => h.2 x (List.mem_of_mem_take hx)⟩
theorem used_ints {w : World} {A : Option Addr} {l : List Int} {n : Nat} (h : IntsAt w A l) (hf : ∀ ab ao, A = some ⟨ab, ao, none⟩ → n ≤ ab) : ∀ k ∈ (if l = [] then [] else (A.map (·.block)).toList), n ≤ k := by
  intro k hk
  cases l with
  | nil => simp at hk
  | cons x l =>
    obtain ⟨ab, ao, e, _⟩ := h 0 x rfl
    rw [if_neg (by simp), e] at hk
    obtain rfl : k = ab := by simpa using hk
    exact hf _ _ e
theorem used_hdrs {w : World} {A : Option Addr} {l : List (Bs × Bs)} {n : Nat} (h : HdrsAt w A l) (hf : ∀ ab ao, A = some ⟨ab, ao, none⟩ → n ≤ ab) : ∀ k ∈ (if l = [] then [] else (A.map (·.block)).toList), n ≤ k := by
  intro k hk
  cases l with
  | nil => simp at hk
  | cons x l =>
    obtain ⟨ab, ao, e, _⟩ := h 0 x rfl
    rw [if_neg (by simp), e] at hk
    obtain rfl : k = ab := by simpa using hk
    exact hf _ _ e
def Post27 (w : World) (op : Int) (tl : List Bs) (r : Bool) (e : Ending) (w' : World) : Prop := ∃ a p, e = .returned (.tuple #[actV a p, .bool r]) ∧ (r = true → a = parseS op tl ∧ ActAt w' a p ∧ ∀ k ∈ usedB a p, w.heap.size ≤ k) ∧ Upd [] w w'
set_option maxRecDepth 100000 in
set_option maxHeartbeats 8000000 in
theorem ref_act {w : World} {A : Option Addr} {c : Nat} {x : Bs} {tl : List Bs} (hA : StrsAt w A (x :: tl)) (hc : tl.length + 1 ≤ c) (hl : RdLim tl) :
    Calls Tryd.prog 52 #[.slice A (tl.length + 1) c] w fun e w' => Post27 w (opOfS x) tl (readQ (opOfS x) tl) e w' := by
  have HA := Lib.hid hA; have HL := Lib.hid hl; clear hA
  have hlim := hl.1
  obtain ⟨r, hr⟩ : ∃ r, r = readQ (opOfS x) tl := ⟨_, rfl⟩
  have HR := Lib.hid hr
  rw [← hr]
  clear hr
  obtain ⟨op, hop⟩ : ∃ op, op = opOfS x := ⟨_, rfl⟩
  have hoc := opOfS_cases x
  have hoe := op_eq x
  rw [← hop] at HR hoc ⊢
  rw [← hop] at hoe
  have hop14 : 0 ≤ op ∧ op ≤ 14 := by rcases hoc with h | h <;> omega
  have HOE := Lib.hid hoe
  clear hoc hoe hop
  obtain ⟨ab, ao, hAe, hc0⟩ := HA.out 0 x rfl
  subst hAe
  have hab : ab < w.heap.size := World.block_lt_of_cell? _ _ hc0
  rw [Nat.add_zero] at hc0
  obtain ⟨w1, hw1⟩ : ∃ w1, w1 = w.alloc (.cells #[.int .i64 0, .int .i64 0, .int .i64 0, .slice none 0 0, .int .u64 0, .int .i64 0, .slice none 0 0, .slice none 0 0, .string ⟨#[]⟩, .string ⟨#[]⟩, .string ⟨#[]⟩, .int .i64 0, .bool false, .slice none 0 0, .int .i64 0, .int .u64 0, .int .i64 0, .int .i64 0] 29) := ⟨_, rfl⟩
  have hz1 : w1.heap[w.heap.size]? = some (.cells (actCells ActL.zero p0).toArray 29 (0, 0)) := by rw [hw1]; exact zeroAct_heap w
  have hu1 : Upd [] w w1 := by rw [hw1]; exact (Upd.refl [] w).alloc _
  have hs1 : w1.heap.size = w.heap.size + 1 := by rw [hw1]; simp
  obtain ⟨w2, hw2⟩ : ∃ w2, w2 = (w1.alloc (.cells #[.int .i64 0, .int .i64 0, .int .i64 0, .slice none 0 0, .int .u64 0, .int .i64 0, .slice none 0 0, .slice none 0 0, .string ⟨#[]⟩, .string ⟨#[]⟩, .string ⟨#[]⟩, .int .i64 0, .bool false, .slice none 0 0, .int .i64 0, .int .u64 0, .int .i64 0, .int .i64 0] 29)).setRow w1.heap.size (actCells ActL.zero p0).toArray := ⟨_, rfl⟩
  have hv2 := actVar w1 _ _ hw2
  rw [hs1] at hw2
  have hza := zeroAct_heap w1
  rw [hs1] at hza
  have HW1 := Lib.hid hw1; have HW2 := Lib.hid hw2; have HZA := Lib.hid hza; clear hza
  have HAG := Lib.hid (aggAct ActL.zero p0); have HCZ := Lib.hid (actCells_all ActL.zero p0)
  have hz2 := (hv2.2.block w.heap.size (by omega) (by simp)).trans hz1
  have hv21 := hv2.1
  rw [hs1] at hv21
  have HZ2 := Lib.hid hz2; have HT2 := Lib.hid hv21; have HU2 := Lib.hid (hu1.trans hv2.2 (by simp))
  obtain ⟨tb, htb⟩ : ∃ tb, tb = w.heap.size + 1 := ⟨_, rfl⟩
  have HTB := Lib.hid htb
  have htw : w.heap.size < tb := by omega
  have HC0 := Lib.hid hc0
  clear hw1 hw2 hv2 hv21 hz1 hz2 hu1 hc0
  go_enter Tryd.func52, Tryd.ntmps52
  go_upto_region 1 with fail
  rw [← HW1.out]
  go_upto_region 2 with (refine wpList_store_agg _ rfl 29 (.tmp 4) (.tmp 17) rfl (w.heap.size + 1) (actCells ActL.zero p0).toArray (actCells ActL.zero p0).toArray 29 rfl rfl HAG.out HZA.out rfl HCZ.out ?_)
  rw [← HW2.out]
  rw [← HTB.out] at HT2 ⊢
  clear HW1 HW2 HZA htb
  go_wp2_with fail
  go_loopw [5] (fun v5 wr => ∃ (i : Nat) (m : Int), 1 ≤ i ∧ i ≤ 15 ∧ v5 = .int .i64 i ∧ m = (if 1 ≤ op ∧ op < i then op else 0) ∧ wr.heap[tb]? = some (.cells (actCells { ActL.zero with op := m } p0).toArray 29) ∧ wr.heap[w.heap.size]? = some (.cells (actCells ActL.zero p0).toArray 29) ∧ Upd [] w wr) (fun v5 _ => 15 - (intOf v5).toNat)
  case atStart => exact ⟨1, 0, by omega, by omega, rfl, by rw [if_neg (by omega)], HT2.out, HZ2.out, HU2.out⟩
  case round =>
    obtain ⟨i, m, hi1, hi2, rfl, hm, ht, hz, hu⟩ := hrel
    have HT := Lib.hid ht; have HZ := Lib.hid hz; have HU := Lib.hid hu; have HM := Lib.hid hm
    clear hm
    by_cases hi : i ≤ 14
    · have hcx : wr.cell? ⟨ab, ao, none⟩ = some (.string ⟨x.toArray⟩) := (World.cell?_of_block (hu.block ab hab (by simp))).trans HC0.out
      have he := HOE.out i ⟨by omega, by omega⟩
      obtain ⟨y, hy⟩ : ∃ y, y = opS (i : Int) := ⟨_, rfl⟩
      rw [← hy] at he
      have q := ref_word (i : Int) wr.drew
      rw [← hy] at q
      have Q := Lib.hid q
      clear q hy
      have ct := cell_of (i := 0) ht rfl
      have ft : wr.frozen? ⟨tb, 0, none⟩ = false := free_of ht
      clear ht hz hu
      by_cases hyx : y = x
      · have hopi : op = i := he.1 hyx
        have bxy : (y == x) = true := by rw [hyx]; simp
        clear he hyx
        go_wp2_with fail
        refine wp_region_proc [(0, 0), (2, 0), (3, 0), (4, 0), (1, 1), (5, 0)] (fun W => W.cell? ⟨ab, ao, none⟩ = some (.string ⟨x.toArray⟩)) (by kernel_rfl) (by kernel_rfl) (fun c a w t v h => by cases t <;> exact h) hcx ?_
        repeat
          (first
            | (apply proc_held
               case ho => simp only [List.getElem?_toArray, List.getElem?_cons_succ, List.getElem?_cons_zero]; rfl
               case hg => rfl
               case hv => intro W hW; (try dsimp only at hW); go_simp; rfl
               case ha => go_simp; rfl)
            | (apply proc_held_on
               case ho => simp only [List.getElem?_toArray, List.getElem?_cons_succ, List.getElem?_cons_zero]; rfl
               case hg => rfl
               case hv => intro W hW; (try dsimp only at hW); go_simp; rfl
               case ha => go_simp; rfl)
            | (apply proc_off
               case ho => simp only [List.getElem?_toArray, List.getElem?_cons_succ, List.getElem?_cons_zero]; rfl
               case hg => rfl
               case ha => go_simp; rfl))
        apply proc_eff
        case ho => simp only [List.getElem?_toArray, List.getElem?_cons_succ, List.getElem?_cons_zero]; rfl
        simp only [World.drew_eq]
        go_wp2_with fail
        refine Q.out.mono ?_
        rintro e wt ⟨rfl, hwt⟩
        rw [hwt]; clear hwt wt Q
        go_wp2_with fail
        refine ⟨_, fun _ h => h, hcx, ?_⟩
        repeat
          (first
            | (apply proc_held
               case ho => simp only [List.getElem?_toArray, List.getElem?_cons_succ, List.getElem?_cons_zero]; rfl
               case hg => rfl
               case hv => intro W hW; (try dsimp only at hW); go_simp; rfl
               case ha => go_simp; rfl)
            | (apply proc_held_on
               case ho => simp only [List.getElem?_toArray, List.getElem?_cons_succ, List.getElem?_cons_zero]; rfl
               case hg => rfl
               case hv => intro W hW; (try dsimp only at hW); go_simp; rfl
               case ha => go_simp; rfl)
            | (apply proc_off
               case ho => simp only [List.getElem?_toArray, List.getElem?_cons_succ, List.getElem?_cons_zero]; rfl
               case hg => rfl
               case ha => go_simp; rfl))
        refine proc_nil ?_
        clear hcx
        go_wp2_with fail
        refine ⟨⟨i + 1, op, by omega, by omega, by go_num, by rw [if_pos (by omega)], ?_, ?_, (HU.out.drewN 1).setCell (.inl (show w.heap.size ≤ tb by omega)) _⟩, by simp [intOf]; omega⟩
        · rw [hopi]; exact (heap_setCell_self (i := 0) (w := wr.drew) HT.out _).trans rfl
        · exact (heap_setCell_ne (w := wr.drew) _ (show tb ≠ w.heap.size by omega)).trans HZ.out
      · have hopi : op ≠ i := fun h => hyx (he.2 h)
        have bxy : (y == x) = false := by rw [beq_eq_false_iff_ne]; exact hyx
        clear he hyx ct ft
        go_wp2_with fail
        refine wp_region_proc [(0, 0), (2, 0), (3, 0), (4, 0), (1, 1), (5, 0)] (fun W => W.cell? ⟨ab, ao, none⟩ = some (.string ⟨x.toArray⟩)) (by kernel_rfl) (by kernel_rfl) (fun c a w t v h => by cases t <;> exact h) hcx ?_
        repeat
          (first
            | (apply proc_held
               case ho => simp only [List.getElem?_toArray, List.getElem?_cons_succ, List.getElem?_cons_zero]; rfl
               case hg => rfl
               case hv => intro W hW; (try dsimp only at hW); go_simp; rfl
               case ha => go_simp; rfl)
            | (apply proc_held_on
               case ho => simp only [List.getElem?_toArray, List.getElem?_cons_succ, List.getElem?_cons_zero]; rfl
               case hg => rfl
               case hv => intro W hW; (try dsimp only at hW); go_simp; rfl
               case ha => go_simp; rfl)
            | (apply proc_off
               case ho => simp only [List.getElem?_toArray, List.getElem?_cons_succ, List.getElem?_cons_zero]; rfl
               case hg => rfl
               case ha => go_simp; rfl))
        apply proc_eff
        case ho => simp only [List.getElem?_toArray, List.getElem?_cons_succ, List.getElem?_cons_zero]; rfl
        simp only [World.drew_eq]
        go_wp2_with fail
        refine Q.out.mono ?_
        rintro e wt ⟨rfl, hwt⟩
        rw [hwt]; clear hwt wt Q
        go_wp2_with fail
        refine ⟨_, fun _ h => h, hcx, ?_⟩
        repeat
          (first
            | (apply proc_held
               case ho => simp only [List.getElem?_toArray, List.getElem?_cons_succ, List.getElem?_cons_zero]; rfl
               case hg => rfl
               case hv => intro W hW; (try dsimp only at hW); go_simp; rfl
               case ha => go_simp; rfl)
            | (apply proc_held_on
               case ho => simp only [List.getElem?_toArray, List.getElem?_cons_succ, List.getElem?_cons_zero]; rfl
               case hg => rfl
               case hv => intro W hW; (try dsimp only at hW); go_simp; rfl
               case ha => go_simp; rfl)
            | (apply proc_off
               case ho => simp only [List.getElem?_toArray, List.getElem?_cons_succ, List.getElem?_cons_zero]; rfl
               case hg => rfl
               case ha => go_simp; rfl))
        refine proc_nil ?_
        clear hcx
        go_wp2_with fail
        refine ⟨⟨i + 1, m, by omega, by omega, by go_num, ?_, HT.out, HZ.out, HU.out.drewN 1⟩, by simp [intOf]; omega⟩
        rw [HM.out]
        by_cases h : 1 ≤ op ∧ op < (i : Int)
        · rw [if_pos h, if_pos (by omega)]
        · rw [if_neg h, if_neg (by omega)]
    · have hm : m = op := by
        rw [HM.out]
        by_cases h : 1 ≤ op
        · rw [if_pos (by omega)]
        · rw [if_neg (by omega)]; omega
      have hm' : op = m := hm.symm
      subst hm'
      clear HM HT2 HZ2 HU2 HOE
      have hcm := cell_of (i := 0) ht rfl
      simp only [List.getElem_toArray, actCells, List.getElem_cons_zero] at hcm
      clear ht hz hu
      by_cases hc1 : c = 1
      · have hc8 : tl.length = 0 := by omega
        have htl : tl = [] := List.eq_nil_of_length_eq_zero hc8
        have HTL := Lib.hid htl; clear htl
        rcases (show op = 0 ∨ op = 1 ∨ op = 2 ∨ op = 3 ∨ op = 4 ∨ op = 5 ∨ op = 6 ∨ op = 7 ∨ op = 8 ∨ op = 9 ∨ op = 10 ∨ op = 11 ∨ op = 12 ∨ op = 13 ∨ op = 14 by omega) with rfl | rfl | rfl | rfl | rfl | rfl | rfl | rfl | rfl | rfl | rfl | rfl | rfl | rfl | rfl
        · -- op 0
          have hrf : r = false := by rw [HR.out]; rfl
          have HRF := Lib.hid hrf; clear hrf
          go_upto_region 51 with fail
          obtain ⟨a, ha⟩ : ∃ a : ActL, a = { ActL.zero with op := 0 } := ⟨_, rfl⟩
          obtain ⟨p, hp⟩ : ∃ p : ActP, p = p0 := ⟨_, rfl⟩
          have HTF : Hid (wr.heap[tb]? = some (.cells (actCells a p).toArray 29 (0, 0))) := Lib.hid (by rw [ha, hp]; exact HT.out)
          have HAA := Lib.hid ha; have HPP := Lib.hid hp
          clear ha hp
          have HLD := Lib.hid (LiesAt.of_block HTF.out)
          have HAGa := Lib.hid (show aggOf Tryd.prog 29 (actCells a p).length = true from aggAct a p); have HCa := Lib.hid (actCells_all a p)
          go_wp2_with first
            | refine wpList_load_lies _ rfl 29 (.tmp 4) rfl tb 0 (actCells a p) rfl HAGa.out HLD.out ?_
            | refine wpList_store_agg _ rfl 29 (.tmp 2) (.tmp 177) rfl w.heap.size (actCells a p).toArray (actCells ActL.zero p0).toArray 29 rfl rfl HAGa.out HZ.out rfl HCa.out ?_
          refine bodyPost_ret (v := .tuple #[.agg (actCells a p).toArray, .bool false]) (run_results_cell_tmp _ Tryd.results52 (b := w.heap.size) (o := 0) rfl rfl HAGa.out (LiesAt.of_block (setRow_heap _ _ _ _ _ _ HZ.out))) rfl ?_
          refine ⟨a, p, by rw [HRF.out]; rfl, ?_, HU.out.setRow (.inl (Nat.le_refl _)) _⟩
          exact fun h => by rw [HRF.out] at h; cases h
        · -- op 1
          have hrt : r = true := by rw [HR.out, readQ_of _ (by decide)]; unfold actP; rw [if_pos (by decide), decide_eq_true HTL.out]
          have HRT := Lib.hid hrt; clear hrt
          have bz : ((tl.length : Int) == 0) = true := by rw [hc8]; rfl
          go_upto_region 51 with fail
          obtain ⟨a, ha⟩ : ∃ a : ActL, a = { ActL.zero with op := 1 } := ⟨_, rfl⟩
          obtain ⟨p, hp⟩ : ∃ p : ActP, p = p0 := ⟨_, rfl⟩
          have HTF : Hid (wr.heap[tb]? = some (.cells (actCells a p).toArray 29 (0, 0))) := Lib.hid (by rw [ha, hp]; exact HT.out)
          have HAA := Lib.hid ha; have HPP := Lib.hid hp
          clear ha hp
          have HLD := Lib.hid (LiesAt.of_block HTF.out)
          have HAGa := Lib.hid (show aggOf Tryd.prog 29 (actCells a p).length = true from aggAct a p); have HCa := Lib.hid (actCells_all a p)
          go_wp2_with first
            | refine wpList_load_lies _ rfl 29 (.tmp 4) rfl tb 0 (actCells a p) rfl HAGa.out HLD.out ?_
            | refine wpList_store_agg _ rfl 29 (.tmp 2) (.tmp 177) rfl w.heap.size (actCells a p).toArray (actCells ActL.zero p0).toArray 29 rfl rfl HAGa.out HZ.out rfl HCa.out ?_
          refine bodyPost_ret (v := .tuple #[.agg (actCells a p).toArray, .bool true]) (run_results_cell_tmp _ Tryd.results52 (b := w.heap.size) (o := 0) rfl rfl HAGa.out (LiesAt.of_block (setRow_heap _ _ _ _ _ _ HZ.out))) rfl ?_
          refine ⟨a, p, by rw [HRT.out]; rfl, ?_, HU.out.setRow (.inl (Nat.le_refl _)) _⟩
          intro h
          rw [HAA.out, HPP.out]
          refine ⟨?_, ActAt.zero _ _, by simp [usedB, ActL.zero, ReqL.zero]⟩
          simp [parseS]
        · -- op 2
          have hQ : ∀ A' n c', StrsAt wr A' tl → n = tl.length → Calls Tryd.prog 69 #[.slice A' n c'] wr fun e w' => ∃ B d l, e = .returned (.tuple #[.slice B l.length d, .bool r]) ∧ (r = true → l = tl.map intS) ∧ IntsAt w' B l ∧ (∀ ab ao, B = some ⟨ab, ao, none⟩ → wr.heap.size ≤ ab) ∧ Upd [] wr w' := fun A' n c' hA' hn => by
            subst hn
            have q := ref_ints (c := c') hA' HL.out
            have e : r = tl.all intP := by rw [HR.out, readQ_of _ (by decide)]; rfl
            rw [← e] at q
            exact q
          have HQ := Lib.hid hQ; clear hQ
          go_wp2_with fail
          refine (HQ.out _ _ _ (by rw [HTL.out]; intro j z hj; cases hj) (by first | rfl | omega)).mono ?_
          rintro e w5 ⟨B5, d5, l5, rfl, hl5, hi5, hf5, hu5⟩
          have ht5 := (hu5.block tb (Array.getElem?_eq_some_iff.1 HT.out).1 (by simp)).trans HT.out
          have HZ5 := Lib.hid ((hu5.block w.heap.size (Array.getElem?_eq_some_iff.1 HZ.out).1 (by simp)).trans HZ.out)
          have c3 := cell_of (i := 3) ht5 rfl
          have f3 : w5.frozen? ⟨tb, 3, none⟩ = false := free_of ht5
          have HT5 := Lib.hid ht5; have HU5 := Lib.hid (HU.out.trans hu5 (by simp)); have HL5 := Lib.hid hl5; have HI5 := Lib.hid hi5; have HF5 := Lib.hid hf5
          have HS5 := Lib.hid HU.out.size
          clear ht5 hu5 hl5 hi5 hf5
          go_upto_region 51 with fail
          obtain ⟨w6, hw6⟩ : ∃ w6, w6 = w5.setCell ⟨tb, 3, none⟩ (.slice B5 l5.length d5) := ⟨_, rfl⟩
          rw [← hw6]
          have HT6 := Lib.hid (show w6.heap[tb]? = some (.cells (actCells { ActL.zero with op := 2, ids := l5 } { p0 with ai := B5, ci := d5 }).toArray 29 (0, 0)) by rw [hw6]; exact (heap_setCell_self (i := 3) HT5.out _).trans rfl)
          have HZ6 := Lib.hid (show w6.heap[w.heap.size]? = some (.cells (actCells ActL.zero p0).toArray 29 (0, 0)) by rw [hw6]; exact (heap_setCell_ne _ (show tb ≠ w.heap.size by omega)).trans HZ5.out)
          have HU6 := Lib.hid (show Upd [] w w6 by rw [hw6]; exact HU5.out.setCell (.inl (show w.heap.size ≤ tb by omega)) _)
          have HU56 := Lib.hid (show Upd [tb] w5 w6 by rw [hw6]; exact (Upd.refl [tb] w5).setCell (.inr (by simp)) _)
          have htl5 : tb < wr.heap.size := (Array.getElem?_eq_some_iff.1 HT.out).1
          clear hw6 c3 f3
          obtain ⟨a, ha⟩ : ∃ a : ActL, a = { ActL.zero with op := 2, ids := l5 } := ⟨_, rfl⟩
          obtain ⟨p, hp⟩ : ∃ p : ActP, p = { p0 with ai := B5, ci := d5 } := ⟨_, rfl⟩
          have HTF : Hid (w6.heap[tb]? = some (.cells (actCells a p).toArray 29 (0, 0))) := Lib.hid (by rw [ha, hp]; exact HT6.out)
          have HAA := Lib.hid ha; have HPP := Lib.hid hp
          clear ha hp
          have HLD := Lib.hid (LiesAt.of_block HTF.out)
          have HAGa := Lib.hid (show aggOf Tryd.prog 29 (actCells a p).length = true from aggAct a p); have HCa := Lib.hid (actCells_all a p)
          go_wp2_with first
            | refine wpList_load_lies _ rfl 29 (.tmp 4) rfl tb 0 (actCells a p) rfl HAGa.out HLD.out ?_
            | refine wpList_store_agg _ rfl 29 (.tmp 2) (.tmp 177) rfl w.heap.size (actCells a p).toArray (actCells ActL.zero p0).toArray 29 rfl rfl HAGa.out HZ6.out rfl HCa.out ?_
          refine bodyPost_ret (v := .tuple #[.agg (actCells a p).toArray, .bool r]) (run_results_cell_tmp _ Tryd.results52 (b := w.heap.size) (o := 0) rfl rfl HAGa.out (LiesAt.of_block (setRow_heap _ _ _ _ _ _ HZ6.out))) rfl ?_
          refine ⟨a, p, rfl, ?_, HU6.out.setRow (.inl (Nat.le_refl _)) _⟩
          intro h
          rw [HAA.out, HPP.out]
          refine ⟨by rw [HL5.out h]; simp [parseS], ⟨(HI5.out.upd (F := [tb, w.heap.size]) ((HU56.out.weaken (by simp)).setRow (.inr (by simp)) _) (fun bb bo e => by have := HF5.out bb bo e; have := HS5.out; simp; omega)), HdrsAt.nil _ _, BytesAt.nil _ _, Nat.le_refl _, HdrsAt.nil _ _⟩, fun k hk => ?_⟩
          exact used_ints HI5.out (fun ab ao e => by have := HF5.out ab ao e; have := HS5.out; omega) k (by simpa [usedB, ActL.zero, ReqL.zero] using hk)
        · -- op 3
          have hQ : ∀ A' n c', StrsAt wr A' tl → n = tl.length → tl.length ≤ c' → Calls Tryd.prog 70 #[.slice A' n c'] wr fun e w' => ∃ r0 B d, e = .returned (.tuple #[.agg (reqC r0 B d).toArray, .bool r]) ∧ (r = true → r0 = reqS tl) ∧ HdrsAt w' B r0.headers ∧ (∀ ab ao, B = some ⟨ab, ao, none⟩ → wr.heap.size ≤ ab) ∧ Upd [] wr w' := fun A' n c' hA' hn hcc => by
            subst hn
            have q := ref_request (c := c') hA' hcc HL.out
            have e : r = reqQ tl := by rw [HR.out, readQ_of _ (by decide)]; rfl
            rw [← e] at q
            exact q
          have HQ := Lib.hid hQ; clear hQ
          go_wp2_with fail
          refine (HQ.out _ _ _ (by rw [HTL.out]; intro j z hj; cases hj) (by first | rfl | omega) (by omega)).mono ?_
          rintro e w5 ⟨r5, B5, d5, rfl, hl5, hi5, hf5, hu5⟩
          have HT5 := Lib.hid ((hu5.block tb (Array.getElem?_eq_some_iff.1 HT.out).1 (by simp)).trans HT.out)
          have HZ5 := Lib.hid ((hu5.block w.heap.size (Array.getElem?_eq_some_iff.1 HZ.out).1 (by simp)).trans HZ.out)
          have HU5 := Lib.hid (HU.out.trans hu5 (by simp)); have HL5 := Lib.hid hl5; have HI5 := Lib.hid hi5; have HF5 := Lib.hid hf5
          have HS5 := Lib.hid HU.out.size
          have HR1 := Lib.hid (reqC_one r5 B5 d5)
          clear hu5 hl5 hi5 hf5
          go_upto_region 51 with (refine wpList_store_part _ rfl 27 (.tmp 58) (.tmp 56) rfl tb 8 (reqC r5 B5 d5).toArray (actCells { ActL.zero with op := 3 } p0).toArray 29 rfl rfl aggReq HT5.out (Nat.le_refl 18) HR1.out ?_)
          obtain ⟨w6, hw6⟩ : ∃ w6, w6 = w5.setRow tb (List.take 8 (actCells { ActL.zero with op := 3 } p0) ++ (reqC r5 B5 d5 ++ List.drop (8 + (reqC r5 B5 d5).length) (actCells { ActL.zero with op := 3 } p0))).toArray := ⟨_, rfl⟩
          rw [← hw6]
          have HT6 := Lib.hid (show w6.heap[tb]? = some (.cells (actCells { ActL.zero with op := 3, req := r5 } { p0 with ar := B5, cr := d5 }).toArray 29 (0, 0)) by rw [hw6]; exact (setRow_heap _ _ _ _ _ _ HT5.out).trans rfl)
          have HU6 := Lib.hid (show Upd [] w w6 by rw [hw6]; exact HU5.out.setRow (.inl (show w.heap.size ≤ tb by omega)) _)
          have HU56 := Lib.hid (show Upd [tb] w5 w6 by rw [hw6]; exact (Upd.refl [tb] w5).setRow (.inr (by simp)) _)
          have HZ6 := Lib.hid (show w6.heap[w.heap.size]? = some (.cells (actCells ActL.zero p0).toArray 29 (0, 0)) from (HU56.out.block w.heap.size (Array.getElem?_eq_some_iff.1 HZ5.out).1 (by simp; omega)).trans HZ5.out)
          have htl5 : tb < wr.heap.size := (Array.getElem?_eq_some_iff.1 HT.out).1
          clear hw6
          obtain ⟨a, ha⟩ : ∃ a : ActL, a = { ActL.zero with op := 3, req := r5 } := ⟨_, rfl⟩
          obtain ⟨p, hp⟩ : ∃ p : ActP, p = { p0 with ar := B5, cr := d5 } := ⟨_, rfl⟩
          have HTF : Hid (w6.heap[tb]? = some (.cells (actCells a p).toArray 29 (0, 0))) := Lib.hid (by rw [ha, hp]; exact HT6.out)
          have HAA := Lib.hid ha; have HPP := Lib.hid hp
          clear ha hp
          have HLD := Lib.hid (LiesAt.of_block HTF.out)
          have HAGa := Lib.hid (show aggOf Tryd.prog 29 (actCells a p).length = true from aggAct a p); have HCa := Lib.hid (actCells_all a p)
          go_wp2_with first
            | refine wpList_load_lies _ rfl 29 (.tmp 4) rfl tb 0 (actCells a p) rfl HAGa.out HLD.out ?_
            | refine wpList_store_agg _ rfl 29 (.tmp 2) (.tmp 177) rfl w.heap.size (actCells a p).toArray (actCells ActL.zero p0).toArray 29 rfl rfl HAGa.out HZ6.out rfl HCa.out ?_
          refine bodyPost_ret (v := .tuple #[.agg (actCells a p).toArray, .bool r]) (run_results_cell_tmp _ Tryd.results52 (b := w.heap.size) (o := 0) rfl rfl HAGa.out (LiesAt.of_block (setRow_heap _ _ _ _ _ _ HZ6.out))) rfl ?_
          refine ⟨a, p, rfl, ?_, HU6.out.setRow (.inl (Nat.le_refl _)) _⟩
          intro h
          rw [HAA.out, HPP.out]
          refine ⟨by rw [HL5.out h]; simp [parseS], ⟨IntsAt.nil _ _, HdrsAt.nil _ _, BytesAt.nil _ _, Nat.le_refl _, (HI5.out.upd (F := [tb, w.heap.size]) ((HU56.out.weaken (by simp)).setRow (.inr (by simp)) _) (fun bb bo e => by have := HF5.out bb bo e; have := HS5.out; simp; omega))⟩, fun k hk => ?_⟩
          exact used_hdrs HI5.out (fun ab ao e => by have := HF5.out ab ao e; have := HS5.out; omega) k (by simpa [usedB, ActL.zero] using hk)
        · -- op 4
          have hak : actP 4 tl = (decide (tl.length = 1) && intP (wd tl 0)) := rfl
          have hrf : r = false := by
            rw [HR.out, readQ_of _ (by decide)]
            rw [hak, decide_eq_false (by omega)]; rfl
          have HRF := Lib.hid hrf; clear hrf
          clear hak
          have bz : ((tl.length : Int) != 1) = true := by rw [bne_iff_ne]; omega
          go_upto_region 24 with fail
          obtain ⟨a, ha⟩ : ∃ a : ActL, a = { ActL.zero with op := 4 } := ⟨_, rfl⟩
          obtain ⟨p, hp⟩ : ∃ p : ActP, p = p0 := ⟨_, rfl⟩
          have HTF : Hid (wr.heap[tb]? = some (.cells (actCells a p).toArray 29 (0, 0))) := Lib.hid (by rw [ha, hp]; exact HT.out)
          have HAA := Lib.hid ha; have HPP := Lib.hid hp
          clear ha hp
          have HLD := Lib.hid (LiesAt.of_block HTF.out)
          have HAGa := Lib.hid (show aggOf Tryd.prog 29 (actCells a p).length = true from aggAct a p); have HCa := Lib.hid (actCells_all a p)
          go_wp2_with first
            | refine wpList_load_lies _ rfl 29 (.tmp 4) rfl tb 0 (actCells a p) rfl HAGa.out HLD.out ?_
            | refine wpList_store_agg _ rfl 29 (.tmp 2) (.tmp 69) rfl w.heap.size (actCells a p).toArray (actCells ActL.zero p0).toArray 29 rfl rfl HAGa.out HZ.out rfl HCa.out ?_
          refine bodyPost_ret (v := .tuple #[.agg (actCells a p).toArray, .bool false]) (run_results_cell_tmp _ Tryd.results52 (b := w.heap.size) (o := 0) rfl rfl HAGa.out (LiesAt.of_block (setRow_heap _ _ _ _ _ _ HZ.out))) rfl ?_
          refine ⟨a, p, by rw [HRF.out]; rfl, ?_, HU.out.setRow (.inl (Nat.le_refl _)) _⟩
          exact fun h => by rw [HRF.out] at h; cases h
        · -- op 5
          have hak : actP 5 tl = (decide (tl.length = 1) && intP (wd tl 0)) := rfl
          have hrf : r = false := by
            rw [HR.out, readQ_of _ (by decide)]
            rw [hak, decide_eq_false (by omega)]; rfl
          have HRF := Lib.hid hrf; clear hrf
          clear hak
          have bz : ((tl.length : Int) != 1) = true := by rw [bne_iff_ne]; omega
          go_upto_region 24 with fail
          obtain ⟨a, ha⟩ : ∃ a : ActL, a = { ActL.zero with op := 5 } := ⟨_, rfl⟩
          obtain ⟨p, hp⟩ : ∃ p : ActP, p = p0 := ⟨_, rfl⟩
          have HTF : Hid (wr.heap[tb]? = some (.cells (actCells a p).toArray 29 (0, 0))) := Lib.hid (by rw [ha, hp]; exact HT.out)
          have HAA := Lib.hid ha; have HPP := Lib.hid hp
          clear ha hp
          have HLD := Lib.hid (LiesAt.of_block HTF.out)
          have HAGa := Lib.hid (show aggOf Tryd.prog 29 (actCells a p).length = true from aggAct a p); have HCa := Lib.hid (actCells_all a p)
          go_wp2_with first
            | refine wpList_load_lies _ rfl 29 (.tmp 4) rfl tb 0 (actCells a p) rfl HAGa.out HLD.out ?_
            | refine wpList_store_agg _ rfl 29 (.tmp 2) (.tmp 69) rfl w.heap.size (actCells a p).toArray (actCells ActL.zero p0).toArray 29 rfl rfl HAGa.out HZ.out rfl HCa.out ?_
          refine bodyPost_ret (v := .tuple #[.agg (actCells a p).toArray, .bool false]) (run_results_cell_tmp _ Tryd.results52 (b := w.heap.size) (o := 0) rfl rfl HAGa.out (LiesAt.of_block (setRow_heap _ _ _ _ _ _ HZ.out))) rfl ?_
          refine ⟨a, p, by rw [HRF.out]; rfl, ?_, HU.out.setRow (.inl (Nat.le_refl _)) _⟩
          exact fun h => by rw [HRF.out] at h; cases h
        · -- op 6
          have hak : actP 6 tl = (decide (tl.length = 1) && intP (wd tl 0)) := rfl
          have hrf : r = false := by
            rw [HR.out, readQ_of _ (by decide)]
            rw [hak, decide_eq_false (by omega)]; rfl
          have HRF := Lib.hid hrf; clear hrf
          clear hak
          have bz : ((tl.length : Int) != 1) = true := by rw [bne_iff_ne]; omega
          go_upto_region 24 with fail
          obtain ⟨a, ha⟩ : ∃ a : ActL, a = { ActL.zero with op := 6 } := ⟨_, rfl⟩
          obtain ⟨p, hp⟩ : ∃ p : ActP, p = p0 := ⟨_, rfl⟩
          have HTF : Hid (wr.heap[tb]? = some (.cells (actCells a p).toArray 29 (0, 0))) := Lib.hid (by rw [ha, hp]; exact HT.out)
          have HAA := Lib.hid ha; have HPP := Lib.hid hp
          clear ha hp
          have HLD := Lib.hid (LiesAt.of_block HTF.out)
          have HAGa := Lib.hid (show aggOf Tryd.prog 29 (actCells a p).length = true from aggAct a p); have HCa := Lib.hid (actCells_all a p)
          go_wp2_with first
            | refine wpList_load_lies _ rfl 29 (.tmp 4) rfl tb 0 (actCells a p) rfl HAGa.out HLD.out ?_
            | refine wpList_store_agg _ rfl 29 (.tmp 2) (.tmp 69) rfl w.heap.size (actCells a p).toArray (actCells ActL.zero p0).toArray 29 rfl rfl HAGa.out HZ.out rfl HCa.out ?_
          refine bodyPost_ret (v := .tuple #[.agg (actCells a p).toArray, .bool false]) (run_results_cell_tmp _ Tryd.results52 (b := w.heap.size) (o := 0) rfl rfl HAGa.out (LiesAt.of_block (setRow_heap _ _ _ _ _ _ HZ.out))) rfl ?_
          refine ⟨a, p, by rw [HRF.out]; rfl, ?_, HU.out.setRow (.inl (Nat.le_refl _)) _⟩
          exact fun h => by rw [HRF.out] at h; cases h
        · -- op 7
          have hak : actP 7 tl = (decide (tl.length = 1) && intP (wd tl 0)) := rfl
          have hrf : r = false := by
            rw [HR.out, readQ_of _ (by decide)]
            rw [hak, decide_eq_false (by omega)]; rfl
          have HRF := Lib.hid hrf; clear hrf
          clear hak
          have bz : ((tl.length : Int) != 1) = true := by rw [bne_iff_ne]; omega
          go_upto_region 24 with fail
          obtain ⟨a, ha⟩ : ∃ a : ActL, a = { ActL.zero with op := 7 } := ⟨_, rfl⟩
          obtain ⟨p, hp⟩ : ∃ p : ActP, p = p0 := ⟨_, rfl⟩
          have HTF : Hid (wr.heap[tb]? = some (.cells (actCells a p).toArray 29 (0, 0))) := Lib.hid (by rw [ha, hp]; exact HT.out)
          have HAA := Lib.hid ha; have HPP := Lib.hid hp
          clear ha hp
          have HLD := Lib.hid (LiesAt.of_block HTF.out)
          have HAGa := Lib.hid (show aggOf Tryd.prog 29 (actCells a p).length = true from aggAct a p); have HCa := Lib.hid (actCells_all a p)
          go_wp2_with first
            | refine wpList_load_lies _ rfl 29 (.tmp 4) rfl tb 0 (actCells a p) rfl HAGa.out HLD.out ?_
            | refine wpList_store_agg _ rfl 29 (.tmp 2) (.tmp 69) rfl w.heap.size (actCells a p).toArray (actCells ActL.zero p0).toArray 29 rfl rfl HAGa.out HZ.out rfl HCa.out ?_
          refine bodyPost_ret (v := .tuple #[.agg (actCells a p).toArray, .bool false]) (run_results_cell_tmp _ Tryd.results52 (b := w.heap.size) (o := 0) rfl rfl HAGa.out (LiesAt.of_block (setRow_heap _ _ _ _ _ _ HZ.out))) rfl ?_
          refine ⟨a, p, by rw [HRF.out]; rfl, ?_, HU.out.setRow (.inl (Nat.le_refl _)) _⟩
          exact fun h => by rw [HRF.out] at h; cases h
        · -- op 8
          have hak : actP 8 tl = (decide (tl.length = 1) && (countS (wd tl 0) 18446744073709551615).2) := rfl
          have hrf : r = false := by
            rw [HR.out, readQ_of _ (by decide)]
            rw [hak, decide_eq_false (by omega)]; rfl
          have HRF := Lib.hid hrf; clear hrf
          clear hak
          have bz : ((tl.length : Int) != 1) = true := by rw [bne_iff_ne]; omega
          go_upto_region 28 with fail
          obtain ⟨a, ha⟩ : ∃ a : ActL, a = { ActL.zero with op := 8 } := ⟨_, rfl⟩
          obtain ⟨p, hp⟩ : ∃ p : ActP, p = p0 := ⟨_, rfl⟩
          have HTF : Hid (wr.heap[tb]? = some (.cells (actCells a p).toArray 29 (0, 0))) := Lib.hid (by rw [ha, hp]; exact HT.out)
          have HAA := Lib.hid ha; have HPP := Lib.hid hp
          clear ha hp
          have HLD := Lib.hid (LiesAt.of_block HTF.out)
          have HAGa := Lib.hid (show aggOf Tryd.prog 29 (actCells a p).length = true from aggAct a p); have HCa := Lib.hid (actCells_all a p)
          go_wp2_with first
            | refine wpList_load_lies _ rfl 29 (.tmp 4) rfl tb 0 (actCells a p) rfl HAGa.out HLD.out ?_
            | refine wpList_store_agg _ rfl 29 (.tmp 2) (.tmp 83) rfl w.heap.size (actCells a p).toArray (actCells ActL.zero p0).toArray 29 rfl rfl HAGa.out HZ.out rfl HCa.out ?_
          refine bodyPost_ret (v := .tuple #[.agg (actCells a p).toArray, .bool false]) (run_results_cell_tmp _ Tryd.results52 (b := w.heap.size) (o := 0) rfl rfl HAGa.out (LiesAt.of_block (setRow_heap _ _ _ _ _ _ HZ.out))) rfl ?_
          refine ⟨a, p, by rw [HRF.out]; rfl, ?_, HU.out.setRow (.inl (Nat.le_refl _)) _⟩
          exact fun h => by rw [HRF.out] at h; cases h
        · -- op 9
          have hrt : r = true := by rw [HR.out, readQ_of _ (by decide)]; unfold actP; rw [if_pos (by decide), decide_eq_true HTL.out]
          have HRT := Lib.hid hrt; clear hrt
          have bz : ((tl.length : Int) == 0) = true := by rw [hc8]; rfl
          go_upto_region 51 with fail
          obtain ⟨a, ha⟩ : ∃ a : ActL, a = { ActL.zero with op := 9 } := ⟨_, rfl⟩
          obtain ⟨p, hp⟩ : ∃ p : ActP, p = p0 := ⟨_, rfl⟩
          have HTF : Hid (wr.heap[tb]? = some (.cells (actCells a p).toArray 29 (0, 0))) := Lib.hid (by rw [ha, hp]; exact HT.out)
          have HAA := Lib.hid ha; have HPP := Lib.hid hp
          clear ha hp
          have HLD := Lib.hid (LiesAt.of_block HTF.out)
          have HAGa := Lib.hid (show aggOf Tryd.prog 29 (actCells a p).length = true from aggAct a p); have HCa := Lib.hid (actCells_all a p)
          go_wp2_with first
            | refine wpList_load_lies _ rfl 29 (.tmp 4) rfl tb 0 (actCells a p) rfl HAGa.out HLD.out ?_
            | refine wpList_store_agg _ rfl 29 (.tmp 2) (.tmp 177) rfl w.heap.size (actCells a p).toArray (actCells ActL.zero p0).toArray 29 rfl rfl HAGa.out HZ.out rfl HCa.out ?_
          refine bodyPost_ret (v := .tuple #[.agg (actCells a p).toArray, .bool true]) (run_results_cell_tmp _ Tryd.results52 (b := w.heap.size) (o := 0) rfl rfl HAGa.out (LiesAt.of_block (setRow_heap _ _ _ _ _ _ HZ.out))) rfl ?_
          refine ⟨a, p, by rw [HRT.out]; rfl, ?_, HU.out.setRow (.inl (Nat.le_refl _)) _⟩
          intro h
          rw [HAA.out, HPP.out]
          refine ⟨?_, ActAt.zero _ _, by simp [usedB, ActL.zero, ReqL.zero]⟩
          simp [parseS]
        · -- op 10
          have hak : actP 10 tl = (decide (2 ≤ tl.length) && ((tl.take 2).all intP && (tl.drop 2).all hdrP)) := rfl
          have hrf : r = false := by
            rw [HR.out, readQ_of _ (by decide)]
            rw [hak, decide_eq_false (by omega)]; rfl
          have HRF := Lib.hid hrf; clear hrf
          clear hak
          have bz : (tl.length : Int) < 2 := by omega
          go_upto_region 32 with fail
          obtain ⟨a, ha⟩ : ∃ a : ActL, a = { ActL.zero with op := 10 } := ⟨_, rfl⟩
          obtain ⟨p, hp⟩ : ∃ p : ActP, p = p0 := ⟨_, rfl⟩
          have HTF : Hid (wr.heap[tb]? = some (.cells (actCells a p).toArray 29 (0, 0))) := Lib.hid (by rw [ha, hp]; exact HT.out)
          have HAA := Lib.hid ha; have HPP := Lib.hid hp
          clear ha hp
          have HLD := Lib.hid (LiesAt.of_block HTF.out)
          have HAGa := Lib.hid (show aggOf Tryd.prog 29 (actCells a p).length = true from aggAct a p); have HCa := Lib.hid (actCells_all a p)
          go_wp2_with first
            | refine wpList_load_lies _ rfl 29 (.tmp 4) rfl tb 0 (actCells a p) rfl HAGa.out HLD.out ?_
            | refine wpList_store_agg _ rfl 29 (.tmp 2) (.tmp 97) rfl w.heap.size (actCells a p).toArray (actCells ActL.zero p0).toArray 29 rfl rfl HAGa.out HZ.out rfl HCa.out ?_
          refine bodyPost_ret (v := .tuple #[.agg (actCells a p).toArray, .bool false]) (run_results_cell_tmp _ Tryd.results52 (b := w.heap.size) (o := 0) rfl rfl HAGa.out (LiesAt.of_block (setRow_heap _ _ _ _ _ _ HZ.out))) rfl ?_
          refine ⟨a, p, by rw [HRF.out]; rfl, ?_, HU.out.setRow (.inl (Nat.le_refl _)) _⟩
          exact fun h => by rw [HRF.out] at h; cases h
        · -- op 11
          have hak : actP 11 tl = (decide (tl.length = 2) && (intP (wd tl 0) && (unhexS (wd tl 1)).isSome)) := rfl
          have hrf : r = false := by
            rw [HR.out, readQ_of _ (by decide)]
            rw [hak, decide_eq_false (by omega)]; rfl
          have HRF := Lib.hid hrf; clear hrf
          clear hak
          have bz : ((tl.length : Int) != 2) = true := by rw [bne_iff_ne]; omega
          go_upto_region 40 with fail
          obtain ⟨a, ha⟩ : ∃ a : ActL, a = { ActL.zero with op := 11 } := ⟨_, rfl⟩
          obtain ⟨p, hp⟩ : ∃ p : ActP, p = p0 := ⟨_, rfl⟩
          have HTF : Hid (wr.heap[tb]? = some (.cells (actCells a p).toArray 29 (0, 0))) := Lib.hid (by rw [ha, hp]; exact HT.out)
          have HAA := Lib.hid ha; have HPP := Lib.hid hp
          clear ha hp
          have HLD := Lib.hid (LiesAt.of_block HTF.out)
          have HAGa := Lib.hid (show aggOf Tryd.prog 29 (actCells a p).length = true from aggAct a p); have HCa := Lib.hid (actCells_all a p)
          go_wp2_with first
            | refine wpList_load_lies _ rfl 29 (.tmp 4) rfl tb 0 (actCells a p) rfl HAGa.out HLD.out ?_
            | refine wpList_store_agg _ rfl 29 (.tmp 2) (.tmp 132) rfl w.heap.size (actCells a p).toArray (actCells ActL.zero p0).toArray 29 rfl rfl HAGa.out HZ.out rfl HCa.out ?_
          refine bodyPost_ret (v := .tuple #[.agg (actCells a p).toArray, .bool false]) (run_results_cell_tmp _ Tryd.results52 (b := w.heap.size) (o := 0) rfl rfl HAGa.out (LiesAt.of_block (setRow_heap _ _ _ _ _ _ HZ.out))) rfl ?_
          refine ⟨a, p, by rw [HRF.out]; rfl, ?_, HU.out.setRow (.inl (Nat.le_refl _)) _⟩
          exact fun h => by rw [HRF.out] at h; cases h
        · -- op 12
          have hak : actP 12 tl = (decide (tl.length = 1) && intP (wd tl 0)) := rfl
          have hrf : r = false := by
            rw [HR.out, readQ_of _ (by decide)]
            rw [hak, decide_eq_false (by omega)]; rfl
          have HRF := Lib.hid hrf; clear hrf
          clear hak
          have bz : ((tl.length : Int) != 1) = true := by rw [bne_iff_ne]; omega
          go_upto_region 24 with fail
          obtain ⟨a, ha⟩ : ∃ a : ActL, a = { ActL.zero with op := 12 } := ⟨_, rfl⟩
          obtain ⟨p, hp⟩ : ∃ p : ActP, p = p0 := ⟨_, rfl⟩
          have HTF : Hid (wr.heap[tb]? = some (.cells (actCells a p).toArray 29 (0, 0))) := Lib.hid (by rw [ha, hp]; exact HT.out)
          have HAA := Lib.hid ha; have HPP := Lib.hid hp
          clear ha hp
          have HLD := Lib.hid (LiesAt.of_block HTF.out)
          have HAGa := Lib.hid (show aggOf Tryd.prog 29 (actCells a p).length = true from aggAct a p); have HCa := Lib.hid (actCells_all a p)
          go_wp2_with first
            | refine wpList_load_lies _ rfl 29 (.tmp 4) rfl tb 0 (actCells a p) rfl HAGa.out HLD.out ?_
            | refine wpList_store_agg _ rfl 29 (.tmp 2) (.tmp 69) rfl w.heap.size (actCells a p).toArray (actCells ActL.zero p0).toArray 29 rfl rfl HAGa.out HZ.out rfl HCa.out ?_
          refine bodyPost_ret (v := .tuple #[.agg (actCells a p).toArray, .bool false]) (run_results_cell_tmp _ Tryd.results52 (b := w.heap.size) (o := 0) rfl rfl HAGa.out (LiesAt.of_block (setRow_heap _ _ _ _ _ _ HZ.out))) rfl ?_
          refine ⟨a, p, by rw [HRF.out]; rfl, ?_, HU.out.setRow (.inl (Nat.le_refl _)) _⟩
          exact fun h => by rw [HRF.out] at h; cases h
        · -- op 13
          have hak : actP 13 tl = (decide (tl.length = 1) && intP (wd tl 0)) := rfl
          have hrf : r = false := by
            rw [HR.out, readQ_of _ (by decide)]
            rw [hak, decide_eq_false (by omega)]; rfl
          have HRF := Lib.hid hrf; clear hrf
          clear hak
          have bz : ((tl.length : Int) != 1) = true := by rw [bne_iff_ne]; omega
          go_upto_region 24 with fail
          obtain ⟨a, ha⟩ : ∃ a : ActL, a = { ActL.zero with op := 13 } := ⟨_, rfl⟩
          obtain ⟨p, hp⟩ : ∃ p : ActP, p = p0 := ⟨_, rfl⟩
          have HTF : Hid (wr.heap[tb]? = some (.cells (actCells a p).toArray 29 (0, 0))) := Lib.hid (by rw [ha, hp]; exact HT.out)
          have HAA := Lib.hid ha; have HPP := Lib.hid hp
          clear ha hp
          have HLD := Lib.hid (LiesAt.of_block HTF.out)
          have HAGa := Lib.hid (show aggOf Tryd.prog 29 (actCells a p).length = true from aggAct a p); have HCa := Lib.hid (actCells_all a p)
          go_wp2_with first
            | refine wpList_load_lies _ rfl 29 (.tmp 4) rfl tb 0 (actCells a p) rfl HAGa.out HLD.out ?_
            | refine wpList_store_agg _ rfl 29 (.tmp 2) (.tmp 69) rfl w.heap.size (actCells a p).toArray (actCells ActL.zero p0).toArray 29 rfl rfl HAGa.out HZ.out rfl HCa.out ?_
          refine bodyPost_ret (v := .tuple #[.agg (actCells a p).toArray, .bool false]) (run_results_cell_tmp _ Tryd.results52 (b := w.heap.size) (o := 0) rfl rfl HAGa.out (LiesAt.of_block (setRow_heap _ _ _ _ _ _ HZ.out))) rfl ?_
          refine ⟨a, p, by rw [HRF.out]; rfl, ?_, HU.out.setRow (.inl (Nat.le_refl _)) _⟩
          exact fun h => by rw [HRF.out] at h; cases h
        · -- op 14
          have hak : actP 14 tl = (decide (tl.length = 2) && tl.all intP) := rfl
          have hrf : r = false := by
            rw [HR.out, readQ_of _ (by decide)]
            rw [hak, decide_eq_false (by omega)]; rfl
          have HRF := Lib.hid hrf; clear hrf
          clear hak
          have bz : ((tl.length : Int) != 2) = true := by rw [bne_iff_ne]; omega
          go_upto_region 46 with fail
          obtain ⟨a, ha⟩ : ∃ a : ActL, a = { ActL.zero with op := 14 } := ⟨_, rfl⟩
          obtain ⟨p, hp⟩ : ∃ p : ActP, p = p0 := ⟨_, rfl⟩
          have HTF : Hid (wr.heap[tb]? = some (.cells (actCells a p).toArray 29 (0, 0))) := Lib.hid (by rw [ha, hp]; exact HT.out)
          have HAA := Lib.hid ha; have HPP := Lib.hid hp
          clear ha hp
          have HLD := Lib.hid (LiesAt.of_block HTF.out)
          have HAGa := Lib.hid (show aggOf Tryd.prog 29 (actCells a p).length = true from aggAct a p); have HCa := Lib.hid (actCells_all a p)
          go_wp2_with first
            | refine wpList_load_lies _ rfl 29 (.tmp 4) rfl tb 0 (actCells a p) rfl HAGa.out HLD.out ?_
            | refine wpList_store_agg _ rfl 29 (.tmp 2) (.tmp 160) rfl w.heap.size (actCells a p).toArray (actCells ActL.zero p0).toArray 29 rfl rfl HAGa.out HZ.out rfl HCa.out ?_
          refine bodyPost_ret (v := .tuple #[.agg (actCells a p).toArray, .bool false]) (run_results_cell_tmp _ Tryd.results52 (b := w.heap.size) (o := 0) rfl rfl HAGa.out (LiesAt.of_block (setRow_heap _ _ _ _ _ _ HZ.out))) rfl ?_
          refine ⟨a, p, by rw [HRF.out]; rfl, ?_, HU.out.setRow (.inl (Nat.le_refl _)) _⟩
          exact fun h => by rw [HRF.out] at h; cases h
      · have hcl := hcm
        clear hcl
        rcases (show op = 0 ∨ op = 1 ∨ op = 2 ∨ op = 3 ∨ op = 4 ∨ op = 5 ∨ op = 6 ∨ op = 7 ∨ op = 8 ∨ op = 9 ∨ op = 10 ∨ op = 11 ∨ op = 12 ∨ op = 13 ∨ op = 14 by omega) with rfl | rfl | rfl | rfl | rfl | rfl | rfl | rfl | rfl | rfl | rfl | rfl | rfl | rfl | rfl
        · -- op 0
          have hrf : r = false := by rw [HR.out]; rfl
          have HRF := Lib.hid hrf; clear hrf
          go_upto_region 51 with fail
          obtain ⟨a, ha⟩ : ∃ a : ActL, a = { ActL.zero with op := 0 } := ⟨_, rfl⟩
          obtain ⟨p, hp⟩ : ∃ p : ActP, p = p0 := ⟨_, rfl⟩
          have HTF : Hid (wr.heap[tb]? = some (.cells (actCells a p).toArray 29 (0, 0))) := Lib.hid (by rw [ha, hp]; exact HT.out)
          have HAA := Lib.hid ha; have HPP := Lib.hid hp
          clear ha hp
          have HLD := Lib.hid (LiesAt.of_block HTF.out)
          have HAGa := Lib.hid (show aggOf Tryd.prog 29 (actCells a p).length = true from aggAct a p); have HCa := Lib.hid (actCells_all a p)
          go_wp2_with first
            | refine wpList_load_lies _ rfl 29 (.tmp 4) rfl tb 0 (actCells a p) rfl HAGa.out HLD.out ?_
            | refine wpList_store_agg _ rfl 29 (.tmp 2) (.tmp 177) rfl w.heap.size (actCells a p).toArray (actCells ActL.zero p0).toArray 29 rfl rfl HAGa.out HZ.out rfl HCa.out ?_
          refine bodyPost_ret (v := .tuple #[.agg (actCells a p).toArray, .bool false]) (run_results_cell_tmp _ Tryd.results52 (b := w.heap.size) (o := 0) rfl rfl HAGa.out (LiesAt.of_block (setRow_heap _ _ _ _ _ _ HZ.out))) rfl ?_
          refine ⟨a, p, by rw [HRF.out]; rfl, ?_, HU.out.setRow (.inl (Nat.le_refl _)) _⟩
          exact fun h => by rw [HRF.out] at h; cases h
        · -- op 1
          by_cases htl : tl = []
          · have HTL := Lib.hid htl
            have hc8 : tl.length = 0 := by rw [htl]; rfl
            clear htl
            have hrt : r = true := by rw [HR.out, readQ_of _ (by decide)]; unfold actP; rw [if_pos (by decide), decide_eq_true HTL.out]
            have HRT := Lib.hid hrt; clear hrt
            have bz : ((tl.length : Int) == 0) = true := by rw [hc8]; rfl
            go_upto_region 51 with fail
            obtain ⟨a, ha⟩ : ∃ a : ActL, a = { ActL.zero with op := 1 } := ⟨_, rfl⟩
            obtain ⟨p, hp⟩ : ∃ p : ActP, p = p0 := ⟨_, rfl⟩
            have HTF : Hid (wr.heap[tb]? = some (.cells (actCells a p).toArray 29 (0, 0))) := Lib.hid (by rw [ha, hp]; exact HT.out)
            have HAA := Lib.hid ha; have HPP := Lib.hid hp
            clear ha hp
            have HLD := Lib.hid (LiesAt.of_block HTF.out)
            have HAGa := Lib.hid (show aggOf Tryd.prog 29 (actCells a p).length = true from aggAct a p); have HCa := Lib.hid (actCells_all a p)
            go_wp2_with first
              | refine wpList_load_lies _ rfl 29 (.tmp 4) rfl tb 0 (actCells a p) rfl HAGa.out HLD.out ?_
              | refine wpList_store_agg _ rfl 29 (.tmp 2) (.tmp 177) rfl w.heap.size (actCells a p).toArray (actCells ActL.zero p0).toArray 29 rfl rfl HAGa.out HZ.out rfl HCa.out ?_
            refine bodyPost_ret (v := .tuple #[.agg (actCells a p).toArray, .bool true]) (run_results_cell_tmp _ Tryd.results52 (b := w.heap.size) (o := 0) rfl rfl HAGa.out (LiesAt.of_block (setRow_heap _ _ _ _ _ _ HZ.out))) rfl ?_
            refine ⟨a, p, by rw [HRT.out]; rfl, ?_, HU.out.setRow (.inl (Nat.le_refl _)) _⟩
            intro h
            rw [HAA.out, HPP.out]
            refine ⟨?_, ActAt.zero _ _, by simp [usedB, ActL.zero, ReqL.zero]⟩
            simp [parseS]
          · have htp : 1 ≤ tl.length := List.length_pos_iff.2 htl
            have hrf : r = false := by
              rw [HR.out, readQ_of _ (by decide)]
              unfold actP
              rw [if_pos (by decide), decide_eq_false htl]
            have HRF := Lib.hid hrf; clear hrf
            have bz : ((tl.length : Int) == 0) = false := by rw [beq_eq_false_iff_ne]; omega
            go_upto_region 51 with fail
            obtain ⟨a, ha⟩ : ∃ a : ActL, a = { ActL.zero with op := 1 } := ⟨_, rfl⟩
            obtain ⟨p, hp⟩ : ∃ p : ActP, p = p0 := ⟨_, rfl⟩
            have HTF : Hid (wr.heap[tb]? = some (.cells (actCells a p).toArray 29 (0, 0))) := Lib.hid (by rw [ha, hp]; exact HT.out)
            have HAA := Lib.hid ha; have HPP := Lib.hid hp
            clear ha hp
            have HLD := Lib.hid (LiesAt.of_block HTF.out)
            have HAGa := Lib.hid (show aggOf Tryd.prog 29 (actCells a p).length = true from aggAct a p); have HCa := Lib.hid (actCells_all a p)
            go_wp2_with first
              | refine wpList_load_lies _ rfl 29 (.tmp 4) rfl tb 0 (actCells a p) rfl HAGa.out HLD.out ?_
              | refine wpList_store_agg _ rfl 29 (.tmp 2) (.tmp 177) rfl w.heap.size (actCells a p).toArray (actCells ActL.zero p0).toArray 29 rfl rfl HAGa.out HZ.out rfl HCa.out ?_
            refine bodyPost_ret (v := .tuple #[.agg (actCells a p).toArray, .bool false]) (run_results_cell_tmp _ Tryd.results52 (b := w.heap.size) (o := 0) rfl rfl HAGa.out (LiesAt.of_block (setRow_heap _ _ _ _ _ _ HZ.out))) rfl ?_
            refine ⟨a, p, by rw [HRF.out]; rfl, ?_, HU.out.setRow (.inl (Nat.le_refl _)) _⟩
            exact fun h => by rw [HRF.out] at h; cases h
        · -- op 2
          have hQ : ∀ A' n c', StrsAt wr A' tl → n = tl.length → Calls Tryd.prog 69 #[.slice A' n c'] wr fun e w' => ∃ B d l, e = .returned (.tuple #[.slice B l.length d, .bool r]) ∧ (r = true → l = tl.map intS) ∧ IntsAt w' B l ∧ (∀ ab ao, B = some ⟨ab, ao, none⟩ → wr.heap.size ≤ ab) ∧ Upd [] wr w' := fun A' n c' hA' hn => by
            subst hn
            have q := ref_ints (c := c') hA' HL.out
            have e : r = tl.all intP := by rw [HR.out, readQ_of _ (by decide)]; rfl
            rw [← e] at q
            exact q
          have HQ := Lib.hid hQ; clear hQ
          go_wp2_with fail
          refine (HQ.out _ _ _ ((StrsAt.tail HA.out).upd0 HU.out) (by first | rfl | omega)).mono ?_
          rintro e w5 ⟨B5, d5, l5, rfl, hl5, hi5, hf5, hu5⟩
          have ht5 := (hu5.block tb (Array.getElem?_eq_some_iff.1 HT.out).1 (by simp)).trans HT.out
          have HZ5 := Lib.hid ((hu5.block w.heap.size (Array.getElem?_eq_some_iff.1 HZ.out).1 (by simp)).trans HZ.out)
          have c3 := cell_of (i := 3) ht5 rfl
          have f3 : w5.frozen? ⟨tb, 3, none⟩ = false := free_of ht5
          have HT5 := Lib.hid ht5; have HU5 := Lib.hid (HU.out.trans hu5 (by simp)); have HL5 := Lib.hid hl5; have HI5 := Lib.hid hi5; have HF5 := Lib.hid hf5
          have HS5 := Lib.hid HU.out.size
          clear ht5 hu5 hl5 hi5 hf5
          go_upto_region 51 with fail
          obtain ⟨w6, hw6⟩ : ∃ w6, w6 = w5.setCell ⟨tb, 3, none⟩ (.slice B5 l5.length d5) := ⟨_, rfl⟩
          rw [← hw6]
          have HT6 := Lib.hid (show w6.heap[tb]? = some (.cells (actCells { ActL.zero with op := 2, ids := l5 } { p0 with ai := B5, ci := d5 }).toArray 29 (0, 0)) by rw [hw6]; exact (heap_setCell_self (i := 3) HT5.out _).trans rfl)
          have HZ6 := Lib.hid (show w6.heap[w.heap.size]? = some (.cells (actCells ActL.zero p0).toArray 29 (0, 0)) by rw [hw6]; exact (heap_setCell_ne _ (show tb ≠ w.heap.size by omega)).trans HZ5.out)
          have HU6 := Lib.hid (show Upd [] w w6 by rw [hw6]; exact HU5.out.setCell (.inl (show w.heap.size ≤ tb by omega)) _)
          have HU56 := Lib.hid (show Upd [tb] w5 w6 by rw [hw6]; exact (Upd.refl [tb] w5).setCell (.inr (by simp)) _)
          have htl5 : tb < wr.heap.size := (Array.getElem?_eq_some_iff.1 HT.out).1
          clear hw6 c3 f3
          obtain ⟨a, ha⟩ : ∃ a : ActL, a = { ActL.zero with op := 2, ids := l5 } := ⟨_, rfl⟩
          obtain ⟨p, hp⟩ : ∃ p : ActP, p = { p0 with ai := B5, ci := d5 } := ⟨_, rfl⟩
          have HTF : Hid (w6.heap[tb]? = some (.cells (actCells a p).toArray 29 (0, 0))) := Lib.hid (by rw [ha, hp]; exact HT6.out)
          have HAA := Lib.hid ha; have HPP := Lib.hid hp
          clear ha hp
          have HLD := Lib.hid (LiesAt.of_block HTF.out)
          have HAGa := Lib.hid (show aggOf Tryd.prog 29 (actCells a p).length = true from aggAct a p); have HCa := Lib.hid (actCells_all a p)
          go_wp2_with first
            | refine wpList_load_lies _ rfl 29 (.tmp 4) rfl tb 0 (actCells a p) rfl HAGa.out HLD.out ?_
            | refine wpList_store_agg _ rfl 29 (.tmp 2) (.tmp 177) rfl w.heap.size (actCells a p).toArray (actCells ActL.zero p0).toArray 29 rfl rfl HAGa.out HZ6.out rfl HCa.out ?_
          refine bodyPost_ret (v := .tuple #[.agg (actCells a p).toArray, .bool r]) (run_results_cell_tmp _ Tryd.results52 (b := w.heap.size) (o := 0) rfl rfl HAGa.out (LiesAt.of_block (setRow_heap _ _ _ _ _ _ HZ6.out))) rfl ?_
          refine ⟨a, p, rfl, ?_, HU6.out.setRow (.inl (Nat.le_refl _)) _⟩
          intro h
          rw [HAA.out, HPP.out]
          refine ⟨by rw [HL5.out h]; simp [parseS], ⟨(HI5.out.upd (F := [tb, w.heap.size]) ((HU56.out.weaken (by simp)).setRow (.inr (by simp)) _) (fun bb bo e => by have := HF5.out bb bo e; have := HS5.out; simp; omega)), HdrsAt.nil _ _, BytesAt.nil _ _, Nat.le_refl _, HdrsAt.nil _ _⟩, fun k hk => ?_⟩
          exact used_ints HI5.out (fun ab ao e => by have := HF5.out ab ao e; have := HS5.out; omega) k (by simpa [usedB, ActL.zero, ReqL.zero] using hk)
        · -- op 3
          have hQ : ∀ A' n c', StrsAt wr A' tl → n = tl.length → tl.length ≤ c' → Calls Tryd.prog 70 #[.slice A' n c'] wr fun e w' => ∃ r0 B d, e = .returned (.tuple #[.agg (reqC r0 B d).toArray, .bool r]) ∧ (r = true → r0 = reqS tl) ∧ HdrsAt w' B r0.headers ∧ (∀ ab ao, B = some ⟨ab, ao, none⟩ → wr.heap.size ≤ ab) ∧ Upd [] wr w' := fun A' n c' hA' hn hcc => by
            subst hn
            have q := ref_request (c := c') hA' hcc HL.out
            have e : r = reqQ tl := by rw [HR.out, readQ_of _ (by decide)]; rfl
            rw [← e] at q
            exact q
          have HQ := Lib.hid hQ; clear hQ
          go_wp2_with fail
          refine (HQ.out _ _ _ ((StrsAt.tail HA.out).upd0 HU.out) (by first | rfl | omega) (by omega)).mono ?_
          rintro e w5 ⟨r5, B5, d5, rfl, hl5, hi5, hf5, hu5⟩
          have HT5 := Lib.hid ((hu5.block tb (Array.getElem?_eq_some_iff.1 HT.out).1 (by simp)).trans HT.out)
          have HZ5 := Lib.hid ((hu5.block w.heap.size (Array.getElem?_eq_some_iff.1 HZ.out).1 (by simp)).trans HZ.out)
          have HU5 := Lib.hid (HU.out.trans hu5 (by simp)); have HL5 := Lib.hid hl5; have HI5 := Lib.hid hi5; have HF5 := Lib.hid hf5
          have HS5 := Lib.hid HU.out.size
          have HR1 := Lib.hid (reqC_one r5 B5 d5)
          clear hu5 hl5 hi5 hf5
          go_upto_region 51 with (refine wpList_store_part _ rfl 27 (.tmp 58) (.tmp 56) rfl tb 8 (reqC r5 B5 d5).toArray (actCells { ActL.zero with op := 3 } p0).toArray 29 rfl rfl aggReq HT5.out (Nat.le_refl 18) HR1.out ?_)
          obtain ⟨w6, hw6⟩ : ∃ w6, w6 = w5.setRow tb (List.take 8 (actCells { ActL.zero with op := 3 } p0) ++ (reqC r5 B5 d5 ++ List.drop (8 + (reqC r5 B5 d5).length) (actCells { ActL.zero with op := 3 } p0))).toArray := ⟨_, rfl⟩
          rw [← hw6]
          have HT6 := Lib.hid (show w6.heap[tb]? = some (.cells (actCells { ActL.zero with op := 3, req := r5 } { p0 with ar := B5, cr := d5 }).toArray 29 (0, 0)) by rw [hw6]; exact (setRow_heap _ _ _ _ _ _ HT5.out).trans rfl)
          have HU6 := Lib.hid (show Upd [] w w6 by rw [hw6]; exact HU5.out.setRow (.inl (show w.heap.size ≤ tb by omega)) _)
          have HU56 := Lib.hid (show Upd [tb] w5 w6 by rw [hw6]; exact (Upd.refl [tb] w5).setRow (.inr (by simp)) _)
          have HZ6 := Lib.hid (show w6.heap[w.heap.size]? = some (.cells (actCells ActL.zero p0).toArray 29 (0, 0)) from (HU56.out.block w.heap.size (Array.getElem?_eq_some_iff.1 HZ5.out).1 (by simp; omega)).trans HZ5.out)
          have htl5 : tb < wr.heap.size := (Array.getElem?_eq_some_iff.1 HT.out).1
          clear hw6
          obtain ⟨a, ha⟩ : ∃ a : ActL, a = { ActL.zero with op := 3, req := r5 } := ⟨_, rfl⟩
          obtain ⟨p, hp⟩ : ∃ p : ActP, p = { p0 with ar := B5, cr := d5 } := ⟨_, rfl⟩
          have HTF : Hid (w6.heap[tb]? = some (.cells (actCells a p).toArray 29 (0, 0))) := Lib.hid (by rw [ha, hp]; exact HT6.out)
          have HAA := Lib.hid ha; have HPP := Lib.hid hp
          clear ha hp
          have HLD := Lib.hid (LiesAt.of_block HTF.out)
          have HAGa := Lib.hid (show aggOf Tryd.prog 29 (actCells a p).length = true from aggAct a p); have HCa := Lib.hid (actCells_all a p)
          go_wp2_with first
            | refine wpList_load_lies _ rfl 29 (.tmp 4) rfl tb 0 (actCells a p) rfl HAGa.out HLD.out ?_
            | refine wpList_store_agg _ rfl 29 (.tmp 2) (.tmp 177) rfl w.heap.size (actCells a p).toArray (actCells ActL.zero p0).toArray 29 rfl rfl HAGa.out HZ6.out rfl HCa.out ?_
          refine bodyPost_ret (v := .tuple #[.agg (actCells a p).toArray, .bool r]) (run_results_cell_tmp _ Tryd.results52 (b := w.heap.size) (o := 0) rfl rfl HAGa.out (LiesAt.of_block (setRow_heap _ _ _ _ _ _ HZ6.out))) rfl ?_
          refine ⟨a, p, rfl, ?_, HU6.out.setRow (.inl (Nat.le_refl _)) _⟩
          intro h
          rw [HAA.out, HPP.out]
          refine ⟨by rw [HL5.out h]; simp [parseS], ⟨IntsAt.nil _ _, HdrsAt.nil _ _, BytesAt.nil _ _, Nat.le_refl _, (HI5.out.upd (F := [tb, w.heap.size]) ((HU56.out.weaken (by simp)).setRow (.inr (by simp)) _) (fun bb bo e => by have := HF5.out bb bo e; have := HS5.out; simp; omega))⟩, fun k hk => ?_⟩
          exact used_hdrs HI5.out (fun ab ao e => by have := HF5.out ab ao e; have := HS5.out; omega) k (by simpa [usedB, ActL.zero] using hk)
        · -- op 4
          have hak : actP 4 tl = (decide (tl.length = 1) && intP (wd tl 0)) := rfl
          by_cases hlen : tl.length = 1
          case neg =>
            have hrf : r = false := by
              rw [HR.out, readQ_of _ (by decide)]
              rw [hak, decide_eq_false (by omega)]; rfl
            have HRF := Lib.hid hrf; clear hrf
            clear hak
            have bz : ((tl.length : Int) != 1) = true := by rw [bne_iff_ne]; omega
            go_upto_region 24 with fail
            obtain ⟨a, ha⟩ : ∃ a : ActL, a = { ActL.zero with op := 4 } := ⟨_, rfl⟩
            obtain ⟨p, hp⟩ : ∃ p : ActP, p = p0 := ⟨_, rfl⟩
            have HTF : Hid (wr.heap[tb]? = some (.cells (actCells a p).toArray 29 (0, 0))) := Lib.hid (by rw [ha, hp]; exact HT.out)
            have HAA := Lib.hid ha; have HPP := Lib.hid hp
            clear ha hp
            have HLD := Lib.hid (LiesAt.of_block HTF.out)
            have HAGa := Lib.hid (show aggOf Tryd.prog 29 (actCells a p).length = true from aggAct a p); have HCa := Lib.hid (actCells_all a p)
            go_wp2_with first
              | refine wpList_load_lies _ rfl 29 (.tmp 4) rfl tb 0 (actCells a p) rfl HAGa.out HLD.out ?_
              | refine wpList_store_agg _ rfl 29 (.tmp 2) (.tmp 69) rfl w.heap.size (actCells a p).toArray (actCells ActL.zero p0).toArray 29 rfl rfl HAGa.out HZ.out rfl HCa.out ?_
            refine bodyPost_ret (v := .tuple #[.agg (actCells a p).toArray, .bool false]) (run_results_cell_tmp _ Tryd.results52 (b := w.heap.size) (o := 0) rfl rfl HAGa.out (LiesAt.of_block (setRow_heap _ _ _ _ _ _ HZ.out))) rfl ?_
            refine ⟨a, p, by rw [HRF.out]; rfl, ?_, HU.out.setRow (.inl (Nat.le_refl _)) _⟩
            exact fun h => by rw [HRF.out] at h; cases h
          case pos =>
          have bz : ((tl.length : Int) != 1) = false := by rw [hlen]; rfl
          obtain ⟨y, hy⟩ : ∃ y, y = tl[0]'(by omega) := ⟨_, rfl⟩
          have hw0 : wd tl 0 = y := by unfold wd; rw [List.getD_eq_getElem?_getD, List.getElem?_eq_getElem (by omega), hy]; rfl
          have hyl := HL.out.2 y (by rw [hy]; exact List.getElem_mem _)
          rw [hw0, hlen] at hak
          obtain ⟨ab', ao', e1, hcy0⟩ := HA.out 1 y (by rw [hy]; simp [hlen])
          injection e1 with e1; injection e1 with e1 e2 _; subst e1 e2
          have hcy : wr.cell? ⟨ab, ao + 1, none⟩ = some (.string ⟨y.toArray⟩) := (World.cell?_of_block (HU.out.block ab hab (by simp))).trans hcy0
          clear hy hcy0
          have q := ref_int y wr hyl
          have hf := int_facts y
          have hrr : intP y = r := by rw [HR.out, readQ_of _ (by decide), hak]; simp
          obtain ⟨v, hv⟩ : ∃ v : Int, v = ((countS y 9223372036854775807).1 : Int) := ⟨_, rfl⟩
          rw [hf.1, hrr, ← hv] at q
          rw [hrr, ← hv] at hf
          have HV := Lib.hid (show r = true → v = intS y from hf.2)
          clear hf
          have Q := Lib.hid q; have HW0 := Lib.hid hw0
          clear q hrr hv hw0 hak 
          go_wp2_with fail
          refine Q.out.mono ?_
          rintro e wt ⟨rfl, hwt⟩
          rw [hwt]; clear hwt wt Q hcy
          have ht5 := HT.out
          have c1 := cell_of (i := 1) ht5 rfl
          have f1 : wr.frozen? ⟨tb, 1, none⟩ = false := free_of ht5
          clear ht5
          go_upto_region 51 with fail
          obtain ⟨w6, hw6⟩ : ∃ w6, w6 = wr.setCell ⟨tb, 1, none⟩ (.int .i64 v) := ⟨_, rfl⟩
          rw [← hw6]
          have HT6 := Lib.hid (show w6.heap[tb]? = some (.cells (actCells { ActL.zero with op := 4, id := v } p0).toArray 29 (0, 0)) by rw [hw6]; exact (heap_setCell_self (i := 1) HT.out _).trans rfl)
          have HZ6 := Lib.hid (show w6.heap[w.heap.size]? = some (.cells (actCells ActL.zero p0).toArray 29 (0, 0)) by rw [hw6]; exact (heap_setCell_ne _ (show tb ≠ w.heap.size by omega)).trans HZ.out)
          have HU6 := Lib.hid (show Upd [] w w6 by rw [hw6]; exact HU.out.setCell (.inl (show w.heap.size ≤ tb by omega)) _)
          clear hw6 c1 f1
          obtain ⟨a, ha⟩ : ∃ a : ActL, a = { ActL.zero with op := 4, id := v } := ⟨_, rfl⟩
          obtain ⟨p, hp⟩ : ∃ p : ActP, p = p0 := ⟨_, rfl⟩
          have HTF : Hid (w6.heap[tb]? = some (.cells (actCells a p).toArray 29 (0, 0))) := Lib.hid (by rw [ha, hp]; exact HT6.out)
          have HAA := Lib.hid ha; have HPP := Lib.hid hp
          clear ha hp
          have HLD := Lib.hid (LiesAt.of_block HTF.out)
          have HAGa := Lib.hid (show aggOf Tryd.prog 29 (actCells a p).length = true from aggAct a p); have HCa := Lib.hid (actCells_all a p)
          go_wp2_with first
            | refine wpList_load_lies _ rfl 29 (.tmp 4) rfl tb 0 (actCells a p) rfl HAGa.out HLD.out ?_
            | refine wpList_store_agg _ rfl 29 (.tmp 2) (.tmp 177) rfl w.heap.size (actCells a p).toArray (actCells ActL.zero p0).toArray 29 rfl rfl HAGa.out HZ6.out rfl HCa.out ?_
          refine bodyPost_ret (v := .tuple #[.agg (actCells a p).toArray, .bool r]) (run_results_cell_tmp _ Tryd.results52 (b := w.heap.size) (o := 0) rfl rfl HAGa.out (LiesAt.of_block (setRow_heap _ _ _ _ _ _ HZ6.out))) rfl ?_
          refine ⟨a, p, rfl, ?_, HU6.out.setRow (.inl (Nat.le_refl _)) _⟩
          intro h
          rw [HAA.out, HPP.out]
          refine ⟨by rw [HV.out h, ← HW0.out]; simp [parseS], ⟨IntsAt.nil _ _, HdrsAt.nil _ _, BytesAt.nil _ _, Nat.le_refl _, HdrsAt.nil _ _⟩, by simp [usedB, ActL.zero, ReqL.zero]⟩
        · -- op 5
          have hak : actP 5 tl = (decide (tl.length = 1) && intP (wd tl 0)) := rfl
          by_cases hlen : tl.length = 1
          case neg =>
            have hrf : r = false := by
              rw [HR.out, readQ_of _ (by decide)]
              rw [hak, decide_eq_false (by omega)]; rfl
            have HRF := Lib.hid hrf; clear hrf
            clear hak
            have bz : ((tl.length : Int) != 1) = true := by rw [bne_iff_ne]; omega
            go_upto_region 24 with fail
            obtain ⟨a, ha⟩ : ∃ a : ActL, a = { ActL.zero with op := 5 } := ⟨_, rfl⟩
            obtain ⟨p, hp⟩ : ∃ p : ActP, p = p0 := ⟨_, rfl⟩
            have HTF : Hid (wr.heap[tb]? = some (.cells (actCells a p).toArray 29 (0, 0))) := Lib.hid (by rw [ha, hp]; exact HT.out)
            have HAA := Lib.hid ha; have HPP := Lib.hid hp
            clear ha hp
            have HLD := Lib.hid (LiesAt.of_block HTF.out)
            have HAGa := Lib.hid (show aggOf Tryd.prog 29 (actCells a p).length = true from aggAct a p); have HCa := Lib.hid (actCells_all a p)
            go_wp2_with first
              | refine wpList_load_lies _ rfl 29 (.tmp 4) rfl tb 0 (actCells a p) rfl HAGa.out HLD.out ?_
              | refine wpList_store_agg _ rfl 29 (.tmp 2) (.tmp 69) rfl w.heap.size (actCells a p).toArray (actCells ActL.zero p0).toArray 29 rfl rfl HAGa.out HZ.out rfl HCa.out ?_
            refine bodyPost_ret (v := .tuple #[.agg (actCells a p).toArray, .bool false]) (run_results_cell_tmp _ Tryd.results52 (b := w.heap.size) (o := 0) rfl rfl HAGa.out (LiesAt.of_block (setRow_heap _ _ _ _ _ _ HZ.out))) rfl ?_
            refine ⟨a, p, by rw [HRF.out]; rfl, ?_, HU.out.setRow (.inl (Nat.le_refl _)) _⟩
            exact fun h => by rw [HRF.out] at h; cases h
          case pos =>
          have bz : ((tl.length : Int) != 1) = false := by rw [hlen]; rfl
          obtain ⟨y, hy⟩ : ∃ y, y = tl[0]'(by omega) := ⟨_, rfl⟩
          have hw0 : wd tl 0 = y := by unfold wd; rw [List.getD_eq_getElem?_getD, List.getElem?_eq_getElem (by omega), hy]; rfl
          have hyl := HL.out.2 y (by rw [hy]; exact List.getElem_mem _)
          rw [hw0, hlen] at hak
          obtain ⟨ab', ao', e1, hcy0⟩ := HA.out 1 y (by rw [hy]; simp [hlen])
          injection e1 with e1; injection e1 with e1 e2 _; subst e1 e2
          have hcy : wr.cell? ⟨ab, ao + 1, none⟩ = some (.string ⟨y.toArray⟩) := (World.cell?_of_block (HU.out.block ab hab (by simp))).trans hcy0
          clear hy hcy0
          have q := ref_int y wr hyl
          have hf := int_facts y
          have hrr : intP y = r := by rw [HR.out, readQ_of _ (by decide), hak]; simp
          obtain ⟨v, hv⟩ : ∃ v : Int, v = ((countS y 9223372036854775807).1 : Int) := ⟨_, rfl⟩
          rw [hf.1, hrr, ← hv] at q
          rw [hrr, ← hv] at hf
          have HV := Lib.hid (show r = true → v = intS y from hf.2)
          clear hf
          have Q := Lib.hid q; have HW0 := Lib.hid hw0
          clear q hrr hv hw0 hak 
          go_wp2_with fail
          refine Q.out.mono ?_
          rintro e wt ⟨rfl, hwt⟩
          rw [hwt]; clear hwt wt Q hcy
          have ht5 := HT.out
          have c1 := cell_of (i := 1) ht5 rfl
          have f1 : wr.frozen? ⟨tb, 1, none⟩ = false := free_of ht5
          clear ht5
          go_upto_region 51 with fail
          obtain ⟨w6, hw6⟩ : ∃ w6, w6 = wr.setCell ⟨tb, 1, none⟩ (.int .i64 v) := ⟨_, rfl⟩
          rw [← hw6]
          have HT6 := Lib.hid (show w6.heap[tb]? = some (.cells (actCells { ActL.zero with op := 5, id := v } p0).toArray 29 (0, 0)) by rw [hw6]; exact (heap_setCell_self (i := 1) HT.out _).trans rfl)
          have HZ6 := Lib.hid (show w6.heap[w.heap.size]? = some (.cells (actCells ActL.zero p0).toArray 29 (0, 0)) by rw [hw6]; exact (heap_setCell_ne _ (show tb ≠ w.heap.size by omega)).trans HZ.out)
          have HU6 := Lib.hid (show Upd [] w w6 by rw [hw6]; exact HU.out.setCell (.inl (show w.heap.size ≤ tb by omega)) _)
          clear hw6 c1 f1
          obtain ⟨a, ha⟩ : ∃ a : ActL, a = { ActL.zero with op := 5, id := v } := ⟨_, rfl⟩
          obtain ⟨p, hp⟩ : ∃ p : ActP, p = p0 := ⟨_, rfl⟩
          have HTF : Hid (w6.heap[tb]? = some (.cells (actCells a p).toArray 29 (0, 0))) := Lib.hid (by rw [ha, hp]; exact HT6.out)
          have HAA := Lib.hid ha; have HPP := Lib.hid hp
          clear ha hp
          have HLD := Lib.hid (LiesAt.of_block HTF.out)
          have HAGa := Lib.hid (show aggOf Tryd.prog 29 (actCells a p).length = true from aggAct a p); have HCa := Lib.hid (actCells_all a p)
          go_wp2_with first
            | refine wpList_load_lies _ rfl 29 (.tmp 4) rfl tb 0 (actCells a p) rfl HAGa.out HLD.out ?_
            | refine wpList_store_agg _ rfl 29 (.tmp 2) (.tmp 177) rfl w.heap.size (actCells a p).toArray (actCells ActL.zero p0).toArray 29 rfl rfl HAGa.out HZ6.out rfl HCa.out ?_
          refine bodyPost_ret (v := .tuple #[.agg (actCells a p).toArray, .bool r]) (run_results_cell_tmp _ Tryd.results52 (b := w.heap.size) (o := 0) rfl rfl HAGa.out (LiesAt.of_block (setRow_heap _ _ _ _ _ _ HZ6.out))) rfl ?_
          refine ⟨a, p, rfl, ?_, HU6.out.setRow (.inl (Nat.le_refl _)) _⟩
          intro h
          rw [HAA.out, HPP.out]
          refine ⟨by rw [HV.out h, ← HW0.out]; simp [parseS], ⟨IntsAt.nil _ _, HdrsAt.nil _ _, BytesAt.nil _ _, Nat.le_refl _, HdrsAt.nil _ _⟩, by simp [usedB, ActL.zero, ReqL.zero]⟩
        · -- op 6
          have hak : actP 6 tl = (decide (tl.length = 1) && intP (wd tl 0)) := rfl
          by_cases hlen : tl.length = 1
          case neg =>
            have hrf : r = false := by
              rw [HR.out, readQ_of _ (by decide)]
              rw [hak, decide_eq_false (by omega)]; rfl
            have HRF := Lib.hid hrf; clear hrf
            clear hak
            have bz : ((tl.length : Int) != 1) = true := by rw [bne_iff_ne]; omega
            go_upto_region 24 with fail
            obtain ⟨a, ha⟩ : ∃ a : ActL, a = { ActL.zero with op := 6 } := ⟨_, rfl⟩
            obtain ⟨p, hp⟩ : ∃ p : ActP, p = p0 := ⟨_, rfl⟩
            have HTF : Hid (wr.heap[tb]? = some (.cells (actCells a p).toArray 29 (0, 0))) := Lib.hid (by rw [ha, hp]; exact HT.out)
            have HAA := Lib.hid ha; have HPP := Lib.hid hp
            clear ha hp
            have HLD := Lib.hid (LiesAt.of_block HTF.out)
            have HAGa := Lib.hid (show aggOf Tryd.prog 29 (actCells a p).length = true from aggAct a p); have HCa := Lib.hid (actCells_all a p)
            go_wp2_with first
              | refine wpList_load_lies _ rfl 29 (.tmp 4) rfl tb 0 (actCells a p) rfl HAGa.out HLD.out ?_
              | refine wpList_store_agg _ rfl 29 (.tmp 2) (.tmp 69) rfl w.heap.size (actCells a p).toArray (actCells ActL.zero p0).toArray 29 rfl rfl HAGa.out HZ.out rfl HCa.out ?_
            refine bodyPost_ret (v := .tuple #[.agg (actCells a p).toArray, .bool false]) (run_results_cell_tmp _ Tryd.results52 (b := w.heap.size) (o := 0) rfl rfl HAGa.out (LiesAt.of_block (setRow_heap _ _ _ _ _ _ HZ.out))) rfl ?_
            refine ⟨a, p, by rw [HRF.out]; rfl, ?_, HU.out.setRow (.inl (Nat.le_refl _)) _⟩
            exact fun h => by rw [HRF.out] at h; cases h
          case pos =>
          have bz : ((tl.length : Int) != 1) = false := by rw [hlen]; rfl
          obtain ⟨y, hy⟩ : ∃ y, y = tl[0]'(by omega) := ⟨_, rfl⟩
          have hw0 : wd tl 0 = y := by unfold wd; rw [List.getD_eq_getElem?_getD, List.getElem?_eq_getElem (by omega), hy]; rfl
          have hyl := HL.out.2 y (by rw [hy]; exact List.getElem_mem _)
          rw [hw0, hlen] at hak
          obtain ⟨ab', ao', e1, hcy0⟩ := HA.out 1 y (by rw [hy]; simp [hlen])
          injection e1 with e1; injection e1 with e1 e2 _; subst e1 e2
          have hcy : wr.cell? ⟨ab, ao + 1, none⟩ = some (.string ⟨y.toArray⟩) := (World.cell?_of_block (HU.out.block ab hab (by simp))).trans hcy0
          clear hy hcy0
          have q := ref_int y wr hyl
          have hf := int_facts y
          have hrr : intP y = r := by rw [HR.out, readQ_of _ (by decide), hak]; simp
          obtain ⟨v, hv⟩ : ∃ v : Int, v = ((countS y 9223372036854775807).1 : Int) := ⟨_, rfl⟩
          rw [hf.1, hrr, ← hv] at q
          rw [hrr, ← hv] at hf
          have HV := Lib.hid (show r = true → v = intS y from hf.2)
          clear hf
          have Q := Lib.hid q; have HW0 := Lib.hid hw0
          clear q hrr hv hw0 hak 
          go_wp2_with fail
          refine Q.out.mono ?_
          rintro e wt ⟨rfl, hwt⟩
          rw [hwt]; clear hwt wt Q hcy
          have ht5 := HT.out
          have c1 := cell_of (i := 1) ht5 rfl
          have f1 : wr.frozen? ⟨tb, 1, none⟩ = false := free_of ht5
          clear ht5
          go_upto_region 51 with fail
          obtain ⟨w6, hw6⟩ : ∃ w6, w6 = wr.setCell ⟨tb, 1, none⟩ (.int .i64 v) := ⟨_, rfl⟩
          rw [← hw6]
          have HT6 := Lib.hid (show w6.heap[tb]? = some (.cells (actCells { ActL.zero with op := 6, id := v } p0).toArray 29 (0, 0)) by rw [hw6]; exact (heap_setCell_self (i := 1) HT.out _).trans rfl)
          have HZ6 := Lib.hid (show w6.heap[w.heap.size]? = some (.cells (actCells ActL.zero p0).toArray 29 (0, 0)) by rw [hw6]; exact (heap_setCell_ne _ (show tb ≠ w.heap.size by omega)).trans HZ.out)
          have HU6 := Lib.hid (show Upd [] w w6 by rw [hw6]; exact HU.out.setCell (.inl (show w.heap.size ≤ tb by omega)) _)
          clear hw6 c1 f1
          obtain ⟨a, ha⟩ : ∃ a : ActL, a = { ActL.zero with op := 6, id := v } := ⟨_, rfl⟩
          obtain ⟨p, hp⟩ : ∃ p : ActP, p = p0 := ⟨_, rfl⟩
          have HTF : Hid (w6.heap[tb]? = some (.cells (actCells a p).toArray 29 (0, 0))) := Lib.hid (by rw [ha, hp]; exact HT6.out)
          have HAA := Lib.hid ha; have HPP := Lib.hid hp
          clear ha hp
          have HLD := Lib.hid (LiesAt.of_block HTF.out)
          have HAGa := Lib.hid (show aggOf Tryd.prog 29 (actCells a p).length = true from aggAct a p); have HCa := Lib.hid (actCells_all a p)
          go_wp2_with first
            | refine wpList_load_lies _ rfl 29 (.tmp 4) rfl tb 0 (actCells a p) rfl HAGa.out HLD.out ?_
            | refine wpList_store_agg _ rfl 29 (.tmp 2) (.tmp 177) rfl w.heap.size (actCells a p).toArray (actCells ActL.zero p0).toArray 29 rfl rfl HAGa.out HZ6.out rfl HCa.out ?_
          refine bodyPost_ret (v := .tuple #[.agg (actCells a p).toArray, .bool r]) (run_results_cell_tmp _ Tryd.results52 (b := w.heap.size) (o := 0) rfl rfl HAGa.out (LiesAt.of_block (setRow_heap _ _ _ _ _ _ HZ6.out))) rfl ?_
          refine ⟨a, p, rfl, ?_, HU6.out.setRow (.inl (Nat.le_refl _)) _⟩
          intro h
          rw [HAA.out, HPP.out]
          refine ⟨by rw [HV.out h, ← HW0.out]; simp [parseS], ⟨IntsAt.nil _ _, HdrsAt.nil _ _, BytesAt.nil _ _, Nat.le_refl _, HdrsAt.nil _ _⟩, by simp [usedB, ActL.zero, ReqL.zero]⟩
        · -- op 7
          have hak : actP 7 tl = (decide (tl.length = 1) && intP (wd tl 0)) := rfl
          by_cases hlen : tl.length = 1
          case neg =>
            have hrf : r = false := by
              rw [HR.out, readQ_of _ (by decide)]
              rw [hak, decide_eq_false (by omega)]; rfl
            have HRF := Lib.hid hrf; clear hrf
            clear hak
            have bz : ((tl.length : Int) != 1) = true := by rw [bne_iff_ne]; omega
            go_upto_region 24 with fail
            obtain ⟨a, ha⟩ : ∃ a : ActL, a = { ActL.zero with op := 7 } := ⟨_, rfl⟩
            obtain ⟨p, hp⟩ : ∃ p : ActP, p = p0 := ⟨_, rfl⟩
            have HTF : Hid (wr.heap[tb]? = some (.cells (actCells a p).toArray 29 (0, 0))) := Lib.hid (by rw [ha, hp]; exact HT.out)
            have HAA := Lib.hid ha; have HPP := Lib.hid hp
            clear ha hp
            have HLD := Lib.hid (LiesAt.of_block HTF.out)
            have HAGa := Lib.hid (show aggOf Tryd.prog 29 (actCells a p).length = true from aggAct a p); have HCa := Lib.hid (actCells_all a p)
            go_wp2_with first
              | refine wpList_load_lies _ rfl 29 (.tmp 4) rfl tb 0 (actCells a p) rfl HAGa.out HLD.out ?_
              | refine wpList_store_agg _ rfl 29 (.tmp 2) (.tmp 69) rfl w.heap.size (actCells a p).toArray (actCells ActL.zero p0).toArray 29 rfl rfl HAGa.out HZ.out rfl HCa.out ?_
            refine bodyPost_ret (v := .tuple #[.agg (actCells a p).toArray, .bool false]) (run_results_cell_tmp _ Tryd.results52 (b := w.heap.size) (o := 0) rfl rfl HAGa.out (LiesAt.of_block (setRow_heap _ _ _ _ _ _ HZ.out))) rfl ?_
            refine ⟨a, p, by rw [HRF.out]; rfl, ?_, HU.out.setRow (.inl (Nat.le_refl _)) _⟩
            exact fun h => by rw [HRF.out] at h; cases h
          case pos =>
          have bz : ((tl.length : Int) != 1) = false := by rw [hlen]; rfl
          obtain ⟨y, hy⟩ : ∃ y, y = tl[0]'(by omega) := ⟨_, rfl⟩
          have hw0 : wd tl 0 = y := by unfold wd; rw [List.getD_eq_getElem?_getD, List.getElem?_eq_getElem (by omega), hy]; rfl
          have hyl := HL.out.2 y (by rw [hy]; exact List.getElem_mem _)
          rw [hw0, hlen] at hak
          obtain ⟨ab', ao', e1, hcy0⟩ := HA.out 1 y (by rw [hy]; simp [hlen])
          injection e1 with e1; injection e1 with e1 e2 _; subst e1 e2
          have hcy : wr.cell? ⟨ab, ao + 1, none⟩ = some (.string ⟨y.toArray⟩) := (World.cell?_of_block (HU.out.block ab hab (by simp))).trans hcy0
          clear hy hcy0
          have q := ref_int y wr hyl
          have hf := int_facts y
          have hrr : intP y = r := by rw [HR.out, readQ_of _ (by decide), hak]; simp
          obtain ⟨v, hv⟩ : ∃ v : Int, v = ((countS y 9223372036854775807).1 : Int) := ⟨_, rfl⟩
          rw [hf.1, hrr, ← hv] at q
          rw [hrr, ← hv] at hf
          have HV := Lib.hid (show r = true → v = intS y from hf.2)
          clear hf
          have Q := Lib.hid q; have HW0 := Lib.hid hw0
          clear q hrr hv hw0 hak 
          go_wp2_with fail
          refine Q.out.mono ?_
          rintro e wt ⟨rfl, hwt⟩
          rw [hwt]; clear hwt wt Q hcy
          have ht5 := HT.out
          have c1 := cell_of (i := 1) ht5 rfl
          have f1 : wr.frozen? ⟨tb, 1, none⟩ = false := free_of ht5
          clear ht5
          go_upto_region 51 with fail
          obtain ⟨w6, hw6⟩ : ∃ w6, w6 = wr.setCell ⟨tb, 1, none⟩ (.int .i64 v) := ⟨_, rfl⟩
          rw [← hw6]
          have HT6 := Lib.hid (show w6.heap[tb]? = some (.cells (actCells { ActL.zero with op := 7, id := v } p0).toArray 29 (0, 0)) by rw [hw6]; exact (heap_setCell_self (i := 1) HT.out _).trans rfl)
          have HZ6 := Lib.hid (show w6.heap[w.heap.size]? = some (.cells (actCells ActL.zero p0).toArray 29 (0, 0)) by rw [hw6]; exact (heap_setCell_ne _ (show tb ≠ w.heap.size by omega)).trans HZ.out)
          have HU6 := Lib.hid (show Upd [] w w6 by rw [hw6]; exact HU.out.setCell (.inl (show w.heap.size ≤ tb by omega)) _)
          clear hw6 c1 f1
          obtain ⟨a, ha⟩ : ∃ a : ActL, a = { ActL.zero with op := 7, id := v } := ⟨_, rfl⟩
          obtain ⟨p, hp⟩ : ∃ p : ActP, p = p0 := ⟨_, rfl⟩
          have HTF : Hid (w6.heap[tb]? = some (.cells (actCells a p).toArray 29 (0, 0))) := Lib.hid (by rw [ha, hp]; exact HT6.out)
          have HAA := Lib.hid ha; have HPP := Lib.hid hp
          clear ha hp
          have HLD := Lib.hid (LiesAt.of_block HTF.out)
          have HAGa := Lib.hid (show aggOf Tryd.prog 29 (actCells a p).length = true from aggAct a p); have HCa := Lib.hid (actCells_all a p)
          go_wp2_with first
            | refine wpList_load_lies _ rfl 29 (.tmp 4) rfl tb 0 (actCells a p) rfl HAGa.out HLD.out ?_
            | refine wpList_store_agg _ rfl 29 (.tmp 2) (.tmp 177) rfl w.heap.size (actCells a p).toArray (actCells ActL.zero p0).toArray 29 rfl rfl HAGa.out HZ6.out rfl HCa.out ?_
          refine bodyPost_ret (v := .tuple #[.agg (actCells a p).toArray, .bool r]) (run_results_cell_tmp _ Tryd.results52 (b := w.heap.size) (o := 0) rfl rfl HAGa.out (LiesAt.of_block (setRow_heap _ _ _ _ _ _ HZ6.out))) rfl ?_
          refine ⟨a, p, rfl, ?_, HU6.out.setRow (.inl (Nat.le_refl _)) _⟩
          intro h
          rw [HAA.out, HPP.out]
          refine ⟨by rw [HV.out h, ← HW0.out]; simp [parseS], ⟨IntsAt.nil _ _, HdrsAt.nil _ _, BytesAt.nil _ _, Nat.le_refl _, HdrsAt.nil _ _⟩, by simp [usedB, ActL.zero, ReqL.zero]⟩
        · -- op 8
          have hak : actP 8 tl = (decide (tl.length = 1) && (countS (wd tl 0) 18446744073709551615).2) := rfl
          by_cases hlen : tl.length = 1
          case neg =>
            have hrf : r = false := by
              rw [HR.out, readQ_of _ (by decide)]
              rw [hak, decide_eq_false (by omega)]; rfl
            have HRF := Lib.hid hrf; clear hrf
            clear hak
            have bz : ((tl.length : Int) != 1) = true := by rw [bne_iff_ne]; omega
            go_upto_region 28 with fail
            obtain ⟨a, ha⟩ : ∃ a : ActL, a = { ActL.zero with op := 8 } := ⟨_, rfl⟩
            obtain ⟨p, hp⟩ : ∃ p : ActP, p = p0 := ⟨_, rfl⟩
            have HTF : Hid (wr.heap[tb]? = some (.cells (actCells a p).toArray 29 (0, 0))) := Lib.hid (by rw [ha, hp]; exact HT.out)
            have HAA := Lib.hid ha; have HPP := Lib.hid hp
            clear ha hp
            have HLD := Lib.hid (LiesAt.of_block HTF.out)
            have HAGa := Lib.hid (show aggOf Tryd.prog 29 (actCells a p).length = true from aggAct a p); have HCa := Lib.hid (actCells_all a p)
            go_wp2_with first
              | refine wpList_load_lies _ rfl 29 (.tmp 4) rfl tb 0 (actCells a p) rfl HAGa.out HLD.out ?_
              | refine wpList_store_agg _ rfl 29 (.tmp 2) (.tmp 83) rfl w.heap.size (actCells a p).toArray (actCells ActL.zero p0).toArray 29 rfl rfl HAGa.out HZ.out rfl HCa.out ?_
            refine bodyPost_ret (v := .tuple #[.agg (actCells a p).toArray, .bool false]) (run_results_cell_tmp _ Tryd.results52 (b := w.heap.size) (o := 0) rfl rfl HAGa.out (LiesAt.of_block (setRow_heap _ _ _ _ _ _ HZ.out))) rfl ?_
            refine ⟨a, p, by rw [HRF.out]; rfl, ?_, HU.out.setRow (.inl (Nat.le_refl _)) _⟩
            exact fun h => by rw [HRF.out] at h; cases h
          case pos =>
          have bz : ((tl.length : Int) != 1) = false := by rw [hlen]; rfl
          obtain ⟨y, hy⟩ : ∃ y, y = tl[0]'(by omega) := ⟨_, rfl⟩
          have hw0 : wd tl 0 = y := by unfold wd; rw [List.getD_eq_getElem?_getD, List.getElem?_eq_getElem (by omega), hy]; rfl
          have hyl := HL.out.2 y (by rw [hy]; exact List.getElem_mem _)
          rw [hw0, hlen] at hak
          obtain ⟨ab', ao', e1, hcy0⟩ := HA.out 1 y (by rw [hy]; simp [hlen])
          injection e1 with e1; injection e1 with e1 e2 _; subst e1 e2
          have hcy : wr.cell? ⟨ab, ao + 1, none⟩ = some (.string ⟨y.toArray⟩) := (World.cell?_of_block (HU.out.block ab hab (by simp))).trans hcy0
          clear hy hcy0
          have q := ref_count y 18446744073709551615 wr hyl (by omega)
          have hrr : (countS y 18446744073709551615).2 = r := by rw [HR.out, readQ_of _ (by decide), hak]; simp
          have hvv := (numR_eq y).2
          obtain ⟨v, hv⟩ : ∃ v : Int, v = ((countS y 18446744073709551615).1 : Int) := ⟨_, rfl⟩
          rw [hrr, ← hv] at q
          rw [hrr] at hvv
          have HV := Lib.hid (show r = true → v = ((digitsS y).1 : Int) from fun h => by rw [hv, hvv h])
          have Q := Lib.hid q; have HW0 := Lib.hid hw0
          clear q hrr hv hw0 hak hvv
          go_wp2_with fail
          refine Q.out.mono ?_
          rintro e wt ⟨rfl, hwt⟩
          rw [hwt]; clear hwt wt Q hcy
          have ht5 := HT.out
          have c1 := cell_of (i := 4) ht5 rfl
          have f1 : wr.frozen? ⟨tb, 4, none⟩ = false := free_of ht5
          clear ht5
          go_upto_region 51 with fail
          obtain ⟨w6, hw6⟩ : ∃ w6, w6 = wr.setCell ⟨tb, 4, none⟩ (.int .u64 v) := ⟨_, rfl⟩
          rw [← hw6]
          have HT6 := Lib.hid (show w6.heap[tb]? = some (.cells (actCells { ActL.zero with op := 8, time := v } p0).toArray 29 (0, 0)) by rw [hw6]; exact (heap_setCell_self (i := 4) HT.out _).trans rfl)
          have HZ6 := Lib.hid (show w6.heap[w.heap.size]? = some (.cells (actCells ActL.zero p0).toArray 29 (0, 0)) by rw [hw6]; exact (heap_setCell_ne _ (show tb ≠ w.heap.size by omega)).trans HZ.out)
          have HU6 := Lib.hid (show Upd [] w w6 by rw [hw6]; exact HU.out.setCell (.inl (show w.heap.size ≤ tb by omega)) _)
          clear hw6 c1 f1
          obtain ⟨a, ha⟩ : ∃ a : ActL, a = { ActL.zero with op := 8, time := v } := ⟨_, rfl⟩
          obtain ⟨p, hp⟩ : ∃ p : ActP, p = p0 := ⟨_, rfl⟩
          have HTF : Hid (w6.heap[tb]? = some (.cells (actCells a p).toArray 29 (0, 0))) := Lib.hid (by rw [ha, hp]; exact HT6.out)
          have HAA := Lib.hid ha; have HPP := Lib.hid hp
          clear ha hp
          have HLD := Lib.hid (LiesAt.of_block HTF.out)
          have HAGa := Lib.hid (show aggOf Tryd.prog 29 (actCells a p).length = true from aggAct a p); have HCa := Lib.hid (actCells_all a p)
          go_wp2_with first
            | refine wpList_load_lies _ rfl 29 (.tmp 4) rfl tb 0 (actCells a p) rfl HAGa.out HLD.out ?_
            | refine wpList_store_agg _ rfl 29 (.tmp 2) (.tmp 177) rfl w.heap.size (actCells a p).toArray (actCells ActL.zero p0).toArray 29 rfl rfl HAGa.out HZ6.out rfl HCa.out ?_
          refine bodyPost_ret (v := .tuple #[.agg (actCells a p).toArray, .bool r]) (run_results_cell_tmp _ Tryd.results52 (b := w.heap.size) (o := 0) rfl rfl HAGa.out (LiesAt.of_block (setRow_heap _ _ _ _ _ _ HZ6.out))) rfl ?_
          refine ⟨a, p, rfl, ?_, HU6.out.setRow (.inl (Nat.le_refl _)) _⟩
          intro h
          rw [HAA.out, HPP.out]
          refine ⟨by rw [HV.out h, ← HW0.out]; simp [parseS], ⟨IntsAt.nil _ _, HdrsAt.nil _ _, BytesAt.nil _ _, Nat.le_refl _, HdrsAt.nil _ _⟩, by simp [usedB, ActL.zero, ReqL.zero]⟩
        · -- op 9
          by_cases htl : tl = []
          · have HTL := Lib.hid htl
            have hc8 : tl.length = 0 := by rw [htl]; rfl
            clear htl
            have hrt : r = true := by rw [HR.out, readQ_of _ (by decide)]; unfold actP; rw [if_pos (by decide), decide_eq_true HTL.out]
            have HRT := Lib.hid hrt; clear hrt
            have bz : ((tl.length : Int) == 0) = true := by rw [hc8]; rfl
            go_upto_region 51 with fail
            obtain ⟨a, ha⟩ : ∃ a : ActL, a = { ActL.zero with op := 9 } := ⟨_, rfl⟩
            obtain ⟨p, hp⟩ : ∃ p : ActP, p = p0 := ⟨_, rfl⟩
            have HTF : Hid (wr.heap[tb]? = some (.cells (actCells a p).toArray 29 (0, 0))) := Lib.hid (by rw [ha, hp]; exact HT.out)
            have HAA := Lib.hid ha; have HPP := Lib.hid hp
            clear ha hp
            have HLD := Lib.hid (LiesAt.of_block HTF.out)
            have HAGa := Lib.hid (show aggOf Tryd.prog 29 (actCells a p).length = true from aggAct a p); have HCa := Lib.hid (actCells_all a p)
            go_wp2_with first
              | refine wpList_load_lies _ rfl 29 (.tmp 4) rfl tb 0 (actCells a p) rfl HAGa.out HLD.out ?_
              | refine wpList_store_agg _ rfl 29 (.tmp 2) (.tmp 177) rfl w.heap.size (actCells a p).toArray (actCells ActL.zero p0).toArray 29 rfl rfl HAGa.out HZ.out rfl HCa.out ?_
            refine bodyPost_ret (v := .tuple #[.agg (actCells a p).toArray, .bool true]) (run_results_cell_tmp _ Tryd.results52 (b := w.heap.size) (o := 0) rfl rfl HAGa.out (LiesAt.of_block (setRow_heap _ _ _ _ _ _ HZ.out))) rfl ?_
            refine ⟨a, p, by rw [HRT.out]; rfl, ?_, HU.out.setRow (.inl (Nat.le_refl _)) _⟩
            intro h
            rw [HAA.out, HPP.out]
            refine ⟨?_, ActAt.zero _ _, by simp [usedB, ActL.zero, ReqL.zero]⟩
            simp [parseS]
          · have htp : 1 ≤ tl.length := List.length_pos_iff.2 htl
            have hrf : r = false := by
              rw [HR.out, readQ_of _ (by decide)]
              unfold actP
              rw [if_pos (by decide), decide_eq_false htl]
            have HRF := Lib.hid hrf; clear hrf
            have bz : ((tl.length : Int) == 0) = false := by rw [beq_eq_false_iff_ne]; omega
            go_upto_region 51 with fail
            obtain ⟨a, ha⟩ : ∃ a : ActL, a = { ActL.zero with op := 9 } := ⟨_, rfl⟩
            obtain ⟨p, hp⟩ : ∃ p : ActP, p = p0 := ⟨_, rfl⟩
            have HTF : Hid (wr.heap[tb]? = some (.cells (actCells a p).toArray 29 (0, 0))) := Lib.hid (by rw [ha, hp]; exact HT.out)
            have HAA := Lib.hid ha; have HPP := Lib.hid hp
            clear ha hp
            have HLD := Lib.hid (LiesAt.of_block HTF.out)
            have HAGa := Lib.hid (show aggOf Tryd.prog 29 (actCells a p).length = true from aggAct a p); have HCa := Lib.hid (actCells_all a p)
            go_wp2_with first
              | refine wpList_load_lies _ rfl 29 (.tmp 4) rfl tb 0 (actCells a p) rfl HAGa.out HLD.out ?_
              | refine wpList_store_agg _ rfl 29 (.tmp 2) (.tmp 177) rfl w.heap.size (actCells a p).toArray (actCells ActL.zero p0).toArray 29 rfl rfl HAGa.out HZ.out rfl HCa.out ?_
            refine bodyPost_ret (v := .tuple #[.agg (actCells a p).toArray, .bool false]) (run_results_cell_tmp _ Tryd.results52 (b := w.heap.size) (o := 0) rfl rfl HAGa.out (LiesAt.of_block (setRow_heap _ _ _ _ _ _ HZ.out))) rfl ?_
            refine ⟨a, p, by rw [HRF.out]; rfl, ?_, HU.out.setRow (.inl (Nat.le_refl _)) _⟩
            exact fun h => by rw [HRF.out] at h; cases h
        · -- op 10
          have hak : actP 10 tl = (decide (2 ≤ tl.length) && ((tl.take 2).all intP && (tl.drop 2).all hdrP)) := rfl
          by_cases hlen : 2 ≤ tl.length
          case neg =>
            have hrf : r = false := by
              rw [HR.out, readQ_of _ (by decide)]
              rw [hak, decide_eq_false (by omega)]; rfl
            have HRF := Lib.hid hrf; clear hrf
            clear hak
            have bz : (tl.length : Int) < 2 := by omega
            go_upto_region 32 with fail
            obtain ⟨a, ha⟩ : ∃ a : ActL, a = { ActL.zero with op := 10 } := ⟨_, rfl⟩
            obtain ⟨p, hp⟩ : ∃ p : ActP, p = p0 := ⟨_, rfl⟩
            have HTF : Hid (wr.heap[tb]? = some (.cells (actCells a p).toArray 29 (0, 0))) := Lib.hid (by rw [ha, hp]; exact HT.out)
            have HAA := Lib.hid ha; have HPP := Lib.hid hp
            clear ha hp
            have HLD := Lib.hid (LiesAt.of_block HTF.out)
            have HAGa := Lib.hid (show aggOf Tryd.prog 29 (actCells a p).length = true from aggAct a p); have HCa := Lib.hid (actCells_all a p)
            go_wp2_with first
              | refine wpList_load_lies _ rfl 29 (.tmp 4) rfl tb 0 (actCells a p) rfl HAGa.out HLD.out ?_
              | refine wpList_store_agg _ rfl 29 (.tmp 2) (.tmp 97) rfl w.heap.size (actCells a p).toArray (actCells ActL.zero p0).toArray 29 rfl rfl HAGa.out HZ.out rfl HCa.out ?_
            refine bodyPost_ret (v := .tuple #[.agg (actCells a p).toArray, .bool false]) (run_results_cell_tmp _ Tryd.results52 (b := w.heap.size) (o := 0) rfl rfl HAGa.out (LiesAt.of_block (setRow_heap _ _ _ _ _ _ HZ.out))) rfl ?_
            refine ⟨a, p, by rw [HRF.out]; rfl, ?_, HU.out.setRow (.inl (Nat.le_refl _)) _⟩
            exact fun h => by rw [HRF.out] at h; cases h
          case pos =>
          have bz : ¬ ((tl.length : Int) < 2) := by omega
          have hcc : 2 ≤ c - 1 := by omega
          obtain ⟨y0, y1, hyy⟩ : ∃ y0 y1, tl.take 2 = [y0, y1] := by
            match tl, hlen with
            | y0 :: y1 :: r, _ => exact ⟨y0, y1, rfl⟩
          have HYY := Lib.hid hyy
          have hw01 : wd tl 0 = y0 ∧ wd tl 1 = y1 := by
            match tl, hyy with
            | z0 :: z1 :: r, hyy =>
              simp only [List.take_succ_cons, List.take_zero, List.cons.injEq, and_true] at hyy
              exact hyy
          have HW01 := Lib.hid hw01
          obtain ⟨p2, hp2⟩ : ∃ b, b = (tl.take 2).all intP := ⟨_, rfl⟩
          obtain ⟨p9, hp9⟩ : ∃ b, b = (tl.drop 2).all hdrP := ⟨_, rfl⟩
          have hrr : r = (p2 && p9) := by rw [HR.out, readQ_of _ (by decide), hak, decide_eq_true hlen, ← hp2, ← hp9]; rfl
          have HRR := Lib.hid hrr; have HP9 := Lib.hid hp9
          have q := ref_ints (c := c - 1) (((StrsAt.tail HA.out).upd0 HU.out).take 2) (HL.out.take 2)
          rw [← hp2, show (tl.take 2).length = 2 by rw [List.length_take]; omega] at q
          have Q := Lib.hid q
          clear hak hyy hw01 hp2 hp9 hrr q
          go_wp2_with fail
          refine Q.out.mono ?_
          rintro e w3 ⟨B3, d3, l3, rfl, hl3, hi3, hf3, hu3⟩
          have ht3 := (hu3.block tb (Array.getElem?_eq_some_iff.1 HT.out).1 (by simp)).trans HT.out
          have HZ3 := Lib.hid ((hu3.block w.heap.size (Array.getElem?_eq_some_iff.1 HZ.out).1 (by simp)).trans HZ.out)
          have HT3 := Lib.hid ht3; have HU3 := Lib.hid (HU.out.trans hu3 (by simp)); have HL3 := Lib.hid hl3; have HI3 := Lib.hid hi3; have HF3 := Lib.hid hf3
          have htl5 : tb < wr.heap.size := (Array.getElem?_eq_some_iff.1 HT.out).1
          have hs3 := hu3.size
          clear hl3 hi3 hf3 ht3 hu3 Q
          have hQ9 : ∀ A' c', StrsAt w3 A' (tl.drop 2) → Calls Tryd.prog 73 #[.slice A' (tl.length - 2) c'] w3 fun e w' => ∃ B d l, e = .returned (.tuple #[.slice B l.length d, .bool p9]) ∧ (p9 = true → l = (tl.drop 2).map hdrS) ∧ HdrsAt w' B l ∧ (∀ ab ao, B = some ⟨ab, ao, none⟩ → w3.heap.size ≤ ab) ∧ Upd [] w3 w' := fun A' c' hA' => by
            have q := ref_got (c := c') hA' (HL.out.drop 2)
            rw [List.length_drop, ← HP9.out] at q
            exact q
          have HQ9 := Lib.hid hQ9
          clear hQ9
          go_wp2_with fail
          all_goals
            refine (HQ9.out _ _ (by first | exact ((StrsAt.tail HA.out).upd0 HU3.out).drop 2 | (rw [List.drop_eq_nil_of_le (by omega)]; intro j z hj; cases hj))).mono ?_
            rintro e w5 ⟨B5, d5, l5, rfl, hl5, hh5, hf5, hu5⟩
            have ht5 := (hu5.block tb (Array.getElem?_eq_some_iff.1 HT3.out).1 (by simp)).trans HT3.out
            have HZ5 := Lib.hid ((hu5.block w.heap.size (Array.getElem?_eq_some_iff.1 HZ3.out).1 (by simp)).trans HZ3.out)
            have HT5 := Lib.hid ht5; have HU5 := Lib.hid (HU3.out.trans hu5 (by simp)); have HL5 := Lib.hid hl5; have HH5 := Lib.hid hh5; have HF5 := Lib.hid hf5
            have HI5 := Lib.hid (HI3.out.upd hu5 (by simp))
            clear hl5 hh5 hf5 hu5 ht5
            by_cases hall : p2 = true ∧ p9 = true
            case neg =>
              have hrf : r = false := by
                rw [HRR.out]
                revert hall
                cases p2 <;> cases p9 <;> simp
              have HRF := Lib.hid hrf; clear hrf
              cases p2 with
              | false =>
                go_upto_region 36 with fail
                obtain ⟨a, ha⟩ : ∃ a : ActL, a = { ActL.zero with op := 10 } := ⟨_, rfl⟩
                obtain ⟨p, hp⟩ : ∃ p : ActP, p = p0 := ⟨_, rfl⟩
                have HTF : Hid (w5.heap[tb]? = some (.cells (actCells a p).toArray 29 (0, 0))) := Lib.hid (by rw [ha, hp]; exact HT5.out)
                have HAA := Lib.hid ha; have HPP := Lib.hid hp
                clear ha hp
                have HLD := Lib.hid (LiesAt.of_block HTF.out)
                have HAGa := Lib.hid (show aggOf Tryd.prog 29 (actCells a p).length = true from aggAct a p); have HCa := Lib.hid (actCells_all a p)
                go_wp2_with first
                  | refine wpList_load_lies _ rfl 29 (.tmp 4) rfl tb 0 (actCells a p) rfl HAGa.out HLD.out ?_
                  | refine wpList_store_agg _ rfl 29 (.tmp 2) (.tmp 116) rfl w.heap.size (actCells a p).toArray (actCells ActL.zero p0).toArray 29 rfl rfl HAGa.out HZ5.out rfl HCa.out ?_
                refine bodyPost_ret (v := .tuple #[.agg (actCells a p).toArray, .bool false]) (run_results_cell_tmp _ Tryd.results52 (b := w.heap.size) (o := 0) rfl rfl HAGa.out (LiesAt.of_block (setRow_heap _ _ _ _ _ _ HZ5.out))) rfl ?_
                refine ⟨a, p, by rw [HRF.out]; rfl, ?_, HU5.out.setRow (.inl (Nat.le_refl _)) _⟩
                exact fun h => by rw [HRF.out] at h; cases h
              | true =>
              cases p9 with
              | false =>
                go_upto_region 36 with fail
                obtain ⟨a, ha⟩ : ∃ a : ActL, a = { ActL.zero with op := 10 } := ⟨_, rfl⟩
                obtain ⟨p, hp⟩ : ∃ p : ActP, p = p0 := ⟨_, rfl⟩
                have HTF : Hid (w5.heap[tb]? = some (.cells (actCells a p).toArray 29 (0, 0))) := Lib.hid (by rw [ha, hp]; exact HT5.out)
                have HAA := Lib.hid ha; have HPP := Lib.hid hp
                clear ha hp
                have HLD := Lib.hid (LiesAt.of_block HTF.out)
                have HAGa := Lib.hid (show aggOf Tryd.prog 29 (actCells a p).length = true from aggAct a p); have HCa := Lib.hid (actCells_all a p)
                go_wp2_with first
                  | refine wpList_load_lies _ rfl 29 (.tmp 4) rfl tb 0 (actCells a p) rfl HAGa.out HLD.out ?_
                  | refine wpList_store_agg _ rfl 29 (.tmp 2) (.tmp 116) rfl w.heap.size (actCells a p).toArray (actCells ActL.zero p0).toArray 29 rfl rfl HAGa.out HZ5.out rfl HCa.out ?_
                refine bodyPost_ret (v := .tuple #[.agg (actCells a p).toArray, .bool false]) (run_results_cell_tmp _ Tryd.results52 (b := w.heap.size) (o := 0) rfl rfl HAGa.out (LiesAt.of_block (setRow_heap _ _ _ _ _ _ HZ5.out))) rfl ?_
                refine ⟨a, p, by rw [HRF.out]; rfl, ?_, HU5.out.setRow (.inl (Nat.le_refl _)) _⟩
                exact fun h => by rw [HRF.out] at h; cases h
              | true => exact absurd ⟨rfl, rfl⟩ hall
            case pos =>
            obtain ⟨rfl, rfl⟩ := hall
            have HRT := Lib.hid (show r = true by rw [HRR.out]; rfl)
            have hl3 := HL3.out rfl
            rw [HYY.out] at hl3
            simp only [List.map_cons, List.map_nil] at hl3
            subst hl3
            obtain ⟨bi, bo, eB, m0⟩ := HI5.out 0 (intS y0) rfl
            obtain ⟨bi', bo', eB', m1⟩ := HI5.out 1 (intS y1) rfl
            subst eB
            injection eB' with eB'; injection eB' with e1 e2 _; subst e1 e2
            rw [Nat.add_zero] at m0
            have hbi := HF3.out _ _ rfl
            obtain ⟨z0, hz0⟩ : ∃ z, z = intS y0 := ⟨_, rfl⟩
            obtain ⟨z1, hz1⟩ : ∃ z, z = intS y1 := ⟨_, rfl⟩
            rw [← hz0] at m0 ⊢
            rw [← hz1] at m1 ⊢
            have HZZ := Lib.hid (show z0 = intS y0 ∧ z1 = intS y1 from ⟨hz0, hz1⟩)
            clear hz0 hz1
            go_upto_region 37 with fail
            have ht5 := HT5.out
            have c1 := cell_of (i := 1) ht5 rfl
            have f1 : w5.frozen? ⟨tb, 1, none⟩ = false := free_of ht5
            clear ht5
            refine wp_region_proc [(0, 0), (1, 0), (2, 0), (3, 0), (4, 0), (5, 0), (6, 0), (7, 0), (8, 1), (9, 0), (10, 1), (11, 0), (12, 2)] (fun W => W.cell? ⟨bi, bo, none⟩ = some (.int .i64 z0) ∧ W.cell? ⟨bi, bo + 1, none⟩ = some (.int .i64 z1)) (by kernel_rfl) (by kernel_rfl) (fun c a w t v h => by cases t <;> exact h) ⟨m0, m1⟩ ?_
            repeat
              (first
                | (apply proc_held
                   case ho => simp only [List.getElem?_toArray, List.getElem?_cons_succ, List.getElem?_cons_zero]; rfl
                   case hg => rfl
                   case hv => intro W hW; (try dsimp only at hW); go_simp; rfl
                   case ha => go_simp; rfl)
                | (apply proc_held_on
                   case ho => simp only [List.getElem?_toArray, List.getElem?_cons_succ, List.getElem?_cons_zero]; rfl
                   case hg => rfl
                   case hv => intro W hW; (try dsimp only at hW); go_simp; rfl
                   case ha => go_simp; rfl)
                | (apply proc_off
                   case ho => simp only [List.getElem?_toArray, List.getElem?_cons_succ, List.getElem?_cons_zero]; rfl
                   case hg => rfl
                   case ha => go_simp; rfl))
            apply proc_eff
            case ho => simp only [List.getElem?_toArray, List.getElem?_cons_succ, List.getElem?_cons_zero]; rfl
            simp only [World.drew_eq]
            go_wp2_with fail
            obtain ⟨w6, hw6⟩ : ∃ w6, w6 = (w5.setCell ⟨tb, 1, none⟩ (.int .i64 z0)).drew := ⟨_, rfl⟩
            rw [← hw6]
            have ht6 : w6.heap[tb]? = some (.cells (actCells { ActL.zero with op := 10, id := z0 } p0).toArray 29 (0, 0)) := by rw [hw6]; exact (heap_setCell_self (i := 1) (w := w5) HT5.out _).trans rfl
            have hu56 : Upd [tb] w5 w6 := by rw [hw6]; exact ((Upd.refl [tb] w5).setCell (.inr (by simp)) _).drewN 1
            have n0 := (World.cell?_of_block (hu56.block bi (World.block_lt_of_cell? _ _ m0) (by simp; omega))).trans m0
            have n1 := (World.cell?_of_block (hu56.block bi (World.block_lt_of_cell? _ _ m1) (by simp; omega))).trans m1
            have c5 := cell_of (i := 5) ht6 rfl
            have f5 : w6.frozen? ⟨tb, 5, none⟩ = false := free_of ht6
            have HT6 := Lib.hid ht6
            have HU56 := Lib.hid hu56
            clear c1 f1 hw6 ht6 m0 m1 hu56
            refine ⟨_, fun _ h => h, ⟨n0, n1⟩, ?_⟩
            repeat
              (first
                | (apply proc_held
                   case ho => simp only [List.getElem?_toArray, List.getElem?_cons_succ, List.getElem?_cons_zero]; rfl
                   case hg => rfl
                   case hv => intro W hW; (try dsimp only at hW); go_simp; rfl
                   case ha => go_simp; rfl)
                | (apply proc_held_on
                   case ho => simp only [List.getElem?_toArray, List.getElem?_cons_succ, List.getElem?_cons_zero]; rfl
                   case hg => rfl
                   case hv => intro W hW; (try dsimp only at hW); go_simp; rfl
                   case ha => go_simp; rfl)
                | (apply proc_off
                   case ho => simp only [List.getElem?_toArray, List.getElem?_cons_succ, List.getElem?_cons_zero]; rfl
                   case hg => rfl
                   case ha => go_simp; rfl))
            apply proc_eff
            case ho => simp only [List.getElem?_toArray, List.getElem?_cons_succ, List.getElem?_cons_zero]; rfl
            go_wp2_with fail
            obtain ⟨w7, hw7⟩ : ∃ w7, w7 = w6.setCell ⟨tb, 5, none⟩ (.int .i64 z1) := ⟨_, rfl⟩
            rw [← hw7]
            have ht7 : w7.heap[tb]? = some (.cells (actCells { ActL.zero with op := 10, id := z0, status := z1 } p0).toArray 29 (0, 0)) := by rw [hw7]; exact (heap_setCell_self (i := 5) (w := w6) HT6.out _).trans rfl
            have hu67 : Upd [tb] w6 w7 := by rw [hw7]; exact (Upd.refl [tb] w6).setCell (.inr (by simp)) _
            have k0 := (World.cell?_of_block (hu67.block bi (World.block_lt_of_cell? _ _ n0) (by simp; omega))).trans n0
            have k1 := (World.cell?_of_block (hu67.block bi (World.block_lt_of_cell? _ _ n1) (by simp; omega))).trans n1
            have c6 := cell_of (i := 6) ht7 rfl
            have f6 : w7.frozen? ⟨tb, 6, none⟩ = false := free_of ht7
            have HT7 := Lib.hid ht7
            have HU57 := Lib.hid (HU56.out.trans hu67 (by simp))
            clear c5 f5 hw7 ht7 n0 n1 hu67
            refine ⟨_, fun _ h => h, ⟨k0, k1⟩, ?_⟩
            repeat
              (first
                | (apply proc_held
                   case ho => simp only [List.getElem?_toArray, List.getElem?_cons_succ, List.getElem?_cons_zero]; rfl
                   case hg => rfl
                   case hv => intro W hW; (try dsimp only at hW); go_simp; rfl
                   case ha => go_simp; rfl)
                | (apply proc_held_on
                   case ho => simp only [List.getElem?_toArray, List.getElem?_cons_succ, List.getElem?_cons_zero]; rfl
                   case hg => rfl
                   case hv => intro W hW; (try dsimp only at hW); go_simp; rfl
                   case ha => go_simp; rfl)
                | (apply proc_off
                   case ho => simp only [List.getElem?_toArray, List.getElem?_cons_succ, List.getElem?_cons_zero]; rfl
                   case hg => rfl
                   case ha => go_simp; rfl))
            apply proc_last
            case ho => simp only [List.getElem?_toArray, List.getElem?_cons_succ, List.getElem?_cons_zero]; rfl
            go_wp2_with fail
            refine ⟨fun _ => True, trivial, ?_⟩
            refine proc_nil ?_
            go_upto_region 51 with fail
            obtain ⟨w8, hw8⟩ : ∃ w8, w8 = w7.setCell ⟨tb, 6, none⟩ (.slice B5 l5.length d5) := ⟨_, rfl⟩
            rw [← hw8]
            have HT8 := Lib.hid (show w8.heap[tb]? = some (.cells (actCells { ActL.zero with op := 10, id := z0, status := z1, headers := l5 } { p0 with ah := B5, ch := d5 }).toArray 29 (0, 0)) by rw [hw8]; exact (heap_setCell_self (i := 6) HT7.out _).trans rfl)
            have HU58 := Lib.hid (show Upd [tb] w5 w8 by rw [hw8]; exact HU57.out.setCell (.inr (by simp)) _)
            have HZ8 := Lib.hid (show w8.heap[w.heap.size]? = some (.cells (actCells ActL.zero p0).toArray 29 (0, 0)) from (HU58.out.block w.heap.size (Array.getElem?_eq_some_iff.1 HZ5.out).1 (by simp; omega)).trans HZ5.out)
            have HU8 := Lib.hid (show Upd [] w w8 from HU5.out.trans HU58.out (by simp; omega))
            clear hw8 c6 f6 k0 k1
            obtain ⟨a, ha⟩ : ∃ a : ActL, a = { ActL.zero with op := 10, id := z0, status := z1, headers := l5 } := ⟨_, rfl⟩
            obtain ⟨p, hp⟩ : ∃ p : ActP, p = { p0 with ah := B5, ch := d5 } := ⟨_, rfl⟩
            have HTF : Hid (w8.heap[tb]? = some (.cells (actCells a p).toArray 29 (0, 0))) := Lib.hid (by rw [ha, hp]; exact HT8.out)
            have HAA := Lib.hid ha; have HPP := Lib.hid hp
            clear ha hp
            have HLD := Lib.hid (LiesAt.of_block HTF.out)
            have HAGa := Lib.hid (show aggOf Tryd.prog 29 (actCells a p).length = true from aggAct a p); have HCa := Lib.hid (actCells_all a p)
            go_wp2_with first
              | refine wpList_load_lies _ rfl 29 (.tmp 4) rfl tb 0 (actCells a p) rfl HAGa.out HLD.out ?_
              | refine wpList_store_agg _ rfl 29 (.tmp 2) (.tmp 177) rfl w.heap.size (actCells a p).toArray (actCells ActL.zero p0).toArray 29 rfl rfl HAGa.out HZ8.out rfl HCa.out ?_
            refine bodyPost_ret (v := .tuple #[.agg (actCells a p).toArray, .bool true]) (run_results_cell_tmp _ Tryd.results52 (b := w.heap.size) (o := 0) rfl rfl HAGa.out (LiesAt.of_block (setRow_heap _ _ _ _ _ _ HZ8.out))) rfl ?_
            refine ⟨a, p, by rw [HRT.out]; rfl, ?_, HU8.out.setRow (.inl (Nat.le_refl _)) _⟩
            intro h
            rw [HAA.out, HPP.out]
            refine ⟨by rw [HZZ.out.1, HZZ.out.2, HL5.out trivial, ← HW01.out.1, ← HW01.out.2]; rfl, ⟨IntsAt.nil _ _, (HH5.out.upd (F := [tb, w.heap.size]) ((HU58.out.weaken (by simp)).setRow (.inr (by simp)) _) (fun bb bo e => by have := HF5.out bb bo e; simp; omega)), BytesAt.nil _ _, Nat.le_refl _, HdrsAt.nil _ _⟩, fun k hk => ?_⟩
            exact used_hdrs HH5.out (fun ab ao e => by have := HF5.out ab ao e; omega) k (by simpa [usedB, ActL.zero, ReqL.zero] using hk)
        · -- op 11
          have hak : actP 11 tl = (decide (tl.length = 2) && (intP (wd tl 0) && (unhexS (wd tl 1)).isSome)) := rfl
          by_cases hlen : tl.length = 2
          case neg =>
            have hrf : r = false := by
              rw [HR.out, readQ_of _ (by decide)]
              rw [hak, decide_eq_false (by omega)]; rfl
            have HRF := Lib.hid hrf; clear hrf
            clear hak
            have bz : ((tl.length : Int) != 2) = true := by rw [bne_iff_ne]; omega
            go_upto_region 40 with fail
            obtain ⟨a, ha⟩ : ∃ a : ActL, a = { ActL.zero with op := 11 } := ⟨_, rfl⟩
            obtain ⟨p, hp⟩ : ∃ p : ActP, p = p0 := ⟨_, rfl⟩
            have HTF : Hid (wr.heap[tb]? = some (.cells (actCells a p).toArray 29 (0, 0))) := Lib.hid (by rw [ha, hp]; exact HT.out)
            have HAA := Lib.hid ha; have HPP := Lib.hid hp
            clear ha hp
            have HLD := Lib.hid (LiesAt.of_block HTF.out)
            have HAGa := Lib.hid (show aggOf Tryd.prog 29 (actCells a p).length = true from aggAct a p); have HCa := Lib.hid (actCells_all a p)
            go_wp2_with first
              | refine wpList_load_lies _ rfl 29 (.tmp 4) rfl tb 0 (actCells a p) rfl HAGa.out HLD.out ?_
              | refine wpList_store_agg _ rfl 29 (.tmp 2) (.tmp 132) rfl w.heap.size (actCells a p).toArray (actCells ActL.zero p0).toArray 29 rfl rfl HAGa.out HZ.out rfl HCa.out ?_
            refine bodyPost_ret (v := .tuple #[.agg (actCells a p).toArray, .bool false]) (run_results_cell_tmp _ Tryd.results52 (b := w.heap.size) (o := 0) rfl rfl HAGa.out (LiesAt.of_block (setRow_heap _ _ _ _ _ _ HZ.out))) rfl ?_
            refine ⟨a, p, by rw [HRF.out]; rfl, ?_, HU.out.setRow (.inl (Nat.le_refl _)) _⟩
            exact fun h => by rw [HRF.out] at h; cases h
          case pos =>
          have bz : ((tl.length : Int) != 2) = false := by rw [hlen]; rfl
          obtain ⟨y0, y1, hyy⟩ : ∃ y0 y1, tl = [y0, y1] := by
            match tl, hlen with
            | [y0, y1], _ => exact ⟨y0, y1, rfl⟩
          have hyl0 := HL.out.2 y0 (by rw [hyy]; simp)
          have hyl1 := HL.out.2 y1 (by rw [hyy]; simp)
          have HYY := Lib.hid hyy
          obtain ⟨ab', ao', e1, hcy0⟩ := HA.out 1 y0 (by rw [hyy]; rfl)
          injection e1 with e1; injection e1 with e1 e2 _; subst e1 e2
          obtain ⟨ab', ao', e1, hcy1⟩ := HA.out 2 y1 (by rw [hyy]; rfl)
          injection e1 with e1; injection e1 with e1 e2 _; subst e1 e2
          clear hyy
          rw [HYY.out] at hak
          have hrr : r = (intP y0 && (unhexS y1).isSome) := by rw [HR.out, readQ_of _ (by decide), HYY.out, hak]; rfl
          have hcy : wr.cell? ⟨ab, ao + 1, none⟩ = some (.string ⟨y0.toArray⟩) := (World.cell?_of_block (HU.out.block ab hab (by simp))).trans hcy0
          have hcz : wr.cell? ⟨ab, ao + 1 + 1, none⟩ = some (.string ⟨y1.toArray⟩) := (World.cell?_of_block (HU.out.block ab hab (by simp))).trans hcy1
          have q := ref_int y0 wr hyl0
          have hf := int_facts y0
          obtain ⟨v, hv⟩ : ∃ v : Int, v = ((countS y0 9223372036854775807).1 : Int) := ⟨_, rfl⟩
          obtain ⟨pi, hpi⟩ : ∃ b, b = intP y0 := ⟨_, rfl⟩
          obtain ⟨pb, hpb⟩ : ∃ b, b = (unhexS y1).isSome := ⟨_, rfl⟩
          obtain ⟨bs, hbs⟩ : ∃ b, b = (unhexS y1).getD [] := ⟨_, rfl⟩
          rw [hf.1, ← hpi, ← hv] at q
          rw [← hpi, ← hv] at hf
          rw [← hpi, ← hpb] at hrr
          have q2 := ref_bytes wr y1 hyl1
          rw [← hpb, ← hbs] at q2
          have Q := Lib.hid q; have Q2 := Lib.hid q2; have HV := Lib.hid hf.2; have HBS := Lib.hid hbs; have HRR := Lib.hid hrr
          clear hf q q2 hv hpi hpb hbs hak hrr hcy0 hcy1
          go_wp2_with fail
          refine Q.out.mono ?_
          rintro e wt ⟨rfl, hwt⟩
          rw [hwt]; clear hwt wt Q hcy
          go_wp2_with fail
          refine Q2.out.mono ?_
          rintro e w5 ⟨v5, rfl, hv5, hvo, hu5⟩
          obtain ⟨A7, c7, rfl, hcap, hbt⟩ := hv5
          have ht5 := (hu5.block tb (Array.getElem?_eq_some_iff.1 HT.out).1 (by simp)).trans HT.out
          have HZ5 := Lib.hid ((hu5.block w.heap.size (Array.getElem?_eq_some_iff.1 HZ.out).1 (by simp)).trans HZ.out)
          have HU5 := Lib.hid (HU.out.trans hu5 (by simp)); have HBT := Lib.hid hbt; have HVO := Lib.hid hvo; have HCAP := Lib.hid hcap
          have HS5 := Lib.hid HU.out.size
          have htl5 : tb < wr.heap.size := (Array.getElem?_eq_some_iff.1 HT.out).1
          have c1 := cell_of (i := 1) ht5 rfl
          have f1 : w5.frozen? ⟨tb, 1, none⟩ = false := free_of ht5
          have HT5 := Lib.hid ht5
          have ht51 := heap_setCell_self (i := 1) ht5 (.int .i64 v)
          have c7' := cell_of (i := 7) ht51 rfl
          have f7 : (w5.setCell ⟨tb, 1, none⟩ (.int .i64 v)).frozen? ⟨tb, 7, none⟩ = false := free_of ht51
          clear ht5 hu5 hbt hvo hcap hcz Q2 ht51
          have HRB := Lib.hid (⟨pi, rfl⟩ : ∃ b, b = pi)
          cases pi with
          | false =>
            have hrf : r = false := by rw [HRR.out]; rfl
            have HRF := Lib.hid hrf; clear hrf
            go_upto_region 51 with fail
            obtain ⟨w6, hw6⟩ : ∃ w6, w6 = (w5.setCell ⟨tb, 1, none⟩ (.int .i64 v)).setCell ⟨tb, 7, none⟩ (.slice A7 bs.length c7) := ⟨_, rfl⟩
            rw [← hw6]
            have HT6 := Lib.hid (show w6.heap[tb]? = some (.cells (actCells { ActL.zero with op := 11, id := v, bytes := bs } { p0 with ab := A7, cb := c7 }).toArray 29 (0, 0)) by rw [hw6]; exact (heap_setCell_self (i := 7) (heap_setCell_self (i := 1) HT5.out _) _).trans rfl)
            have HU6 := Lib.hid (show Upd [] w w6 by rw [hw6]; exact (HU5.out.setCell (.inl (show w.heap.size ≤ tb by omega)) _).setCell (.inl (show w.heap.size ≤ tb by omega)) _)
            have HU56 := Lib.hid (show Upd [tb] w5 w6 by rw [hw6]; exact ((Upd.refl [tb] w5).setCell (.inr (by simp)) _).setCell (.inr (by simp)) _)
            have HZ6 := Lib.hid (show w6.heap[w.heap.size]? = some (.cells (actCells ActL.zero p0).toArray 29 (0, 0)) from (HU56.out.block w.heap.size (Array.getElem?_eq_some_iff.1 HZ5.out).1 (by simp; omega)).trans HZ5.out)
            clear hw6 c1 f1 c7' f7

            obtain ⟨a, ha⟩ : ∃ a : ActL, a = { ActL.zero with op := 11, id := v, bytes := bs } := ⟨_, rfl⟩
            obtain ⟨p, hp⟩ : ∃ p : ActP, p = { p0 with ab := A7, cb := c7 } := ⟨_, rfl⟩
            have HTF : Hid (w6.heap[tb]? = some (.cells (actCells a p).toArray 29 (0, 0))) := Lib.hid (by rw [ha, hp]; exact HT6.out)
            have HAA := Lib.hid ha; have HPP := Lib.hid hp
            clear ha hp
            have HLD := Lib.hid (LiesAt.of_block HTF.out)
            have HAGa := Lib.hid (show aggOf Tryd.prog 29 (actCells a p).length = true from aggAct a p); have HCa := Lib.hid (actCells_all a p)
            go_wp2_with first
              | refine wpList_load_lies _ rfl 29 (.tmp 4) rfl tb 0 (actCells a p) rfl HAGa.out HLD.out ?_
              | refine wpList_store_agg _ rfl 29 (.tmp 2) (.tmp 177) rfl w.heap.size (actCells a p).toArray (actCells ActL.zero p0).toArray 29 rfl rfl HAGa.out HZ6.out rfl HCa.out ?_
            refine bodyPost_ret (v := .tuple #[.agg (actCells a p).toArray, .bool false]) (run_results_cell_tmp _ Tryd.results52 (b := w.heap.size) (o := 0) rfl rfl HAGa.out (LiesAt.of_block (setRow_heap _ _ _ _ _ _ HZ6.out))) rfl ?_
            refine ⟨a, p, by rw [HRF.out]; rfl, ?_, HU6.out.setRow (.inl (Nat.le_refl _)) _⟩
            exact fun h => by rw [HRF.out] at h; cases h
          | true =>
            have hpr : pb = r := by rw [HRR.out]; rfl
            subst hpr
            go_upto_region 51 with fail
            obtain ⟨w6, hw6⟩ : ∃ w6, w6 = (w5.setCell ⟨tb, 1, none⟩ (.int .i64 v)).setCell ⟨tb, 7, none⟩ (.slice A7 bs.length c7) := ⟨_, rfl⟩
            rw [← hw6]
            have HT6 := Lib.hid (show w6.heap[tb]? = some (.cells (actCells { ActL.zero with op := 11, id := v, bytes := bs } { p0 with ab := A7, cb := c7 }).toArray 29 (0, 0)) by rw [hw6]; exact (heap_setCell_self (i := 7) (heap_setCell_self (i := 1) HT5.out _) _).trans rfl)
            have HU6 := Lib.hid (show Upd [] w w6 by rw [hw6]; exact (HU5.out.setCell (.inl (show w.heap.size ≤ tb by omega)) _).setCell (.inl (show w.heap.size ≤ tb by omega)) _)
            have HU56 := Lib.hid (show Upd [tb] w5 w6 by rw [hw6]; exact ((Upd.refl [tb] w5).setCell (.inr (by simp)) _).setCell (.inr (by simp)) _)
            have HZ6 := Lib.hid (show w6.heap[w.heap.size]? = some (.cells (actCells ActL.zero p0).toArray 29 (0, 0)) from (HU56.out.block w.heap.size (Array.getElem?_eq_some_iff.1 HZ5.out).1 (by simp; omega)).trans HZ5.out)
            clear hw6 c1 f1 c7' f7

            obtain ⟨a, ha⟩ : ∃ a : ActL, a = { ActL.zero with op := 11, id := v, bytes := bs } := ⟨_, rfl⟩
            obtain ⟨p, hp⟩ : ∃ p : ActP, p = { p0 with ab := A7, cb := c7 } := ⟨_, rfl⟩
            have HTF : Hid (w6.heap[tb]? = some (.cells (actCells a p).toArray 29 (0, 0))) := Lib.hid (by rw [ha, hp]; exact HT6.out)
            have HAA := Lib.hid ha; have HPP := Lib.hid hp
            clear ha hp
            have HLD := Lib.hid (LiesAt.of_block HTF.out)
            have HAGa := Lib.hid (show aggOf Tryd.prog 29 (actCells a p).length = true from aggAct a p); have HCa := Lib.hid (actCells_all a p)
            go_wp2_with first
              | refine wpList_load_lies _ rfl 29 (.tmp 4) rfl tb 0 (actCells a p) rfl HAGa.out HLD.out ?_
              | refine wpList_store_agg _ rfl 29 (.tmp 2) (.tmp 177) rfl w.heap.size (actCells a p).toArray (actCells ActL.zero p0).toArray 29 rfl rfl HAGa.out HZ6.out rfl HCa.out ?_
            refine bodyPost_ret (v := .tuple #[.agg (actCells a p).toArray, .bool pb]) (run_results_cell_tmp _ Tryd.results52 (b := w.heap.size) (o := 0) rfl rfl HAGa.out (LiesAt.of_block (setRow_heap _ _ _ _ _ _ HZ6.out))) rfl ?_
            refine ⟨a, p, rfl, ?_, HU6.out.setRow (.inl (Nat.le_refl _)) _⟩
            intro h
            rw [HAA.out, HPP.out]
            refine ⟨by rw [HV.out trivial, HBS.out, HYY.out]; rfl, ⟨IntsAt.nil _ _, HdrsAt.nil _ _, (HBT.out.upd (F := [tb, w.heap.size]) ((HU56.out.weaken (by simp)).setRow (.inr (by simp)) _) (fun bb bo e => by have := HVO.out bb (by rw [e]; rfl); have := HS5.out; simp; omega)), HCAP.out, HdrsAt.nil _ _⟩, fun k hk => ?_⟩
            have hk2 : k ∈ (if bs = [] then [] else (A7.map (·.block)).toList) := by simpa [usedB, ActL.zero, ReqL.zero] using hk
            cases bs with
            | nil => simp at hk2
            | cons z bs =>
              obtain ⟨bb, bo, e, _⟩ := HBT.out 0 z rfl
              rw [if_neg (by simp), e] at hk2
              obtain rfl : k = bb := by simpa using hk2
              have := HVO.out k (by rw [e]; rfl); have := HS5.out; omega
        · -- op 12
          have hak : actP 12 tl = (decide (tl.length = 1) && intP (wd tl 0)) := rfl
          by_cases hlen : tl.length = 1
          case neg =>
            have hrf : r = false := by
              rw [HR.out, readQ_of _ (by decide)]
              rw [hak, decide_eq_false (by omega)]; rfl
            have HRF := Lib.hid hrf; clear hrf
            clear hak
            have bz : ((tl.length : Int) != 1) = true := by rw [bne_iff_ne]; omega
            go_upto_region 24 with fail
            obtain ⟨a, ha⟩ : ∃ a : ActL, a = { ActL.zero with op := 12 } := ⟨_, rfl⟩
            obtain ⟨p, hp⟩ : ∃ p : ActP, p = p0 := ⟨_, rfl⟩
            have HTF : Hid (wr.heap[tb]? = some (.cells (actCells a p).toArray 29 (0, 0))) := Lib.hid (by rw [ha, hp]; exact HT.out)
            have HAA := Lib.hid ha; have HPP := Lib.hid hp
            clear ha hp
            have HLD := Lib.hid (LiesAt.of_block HTF.out)
            have HAGa := Lib.hid (show aggOf Tryd.prog 29 (actCells a p).length = true from aggAct a p); have HCa := Lib.hid (actCells_all a p)
            go_wp2_with first
              | refine wpList_load_lies _ rfl 29 (.tmp 4) rfl tb 0 (actCells a p) rfl HAGa.out HLD.out ?_
              | refine wpList_store_agg _ rfl 29 (.tmp 2) (.tmp 69) rfl w.heap.size (actCells a p).toArray (actCells ActL.zero p0).toArray 29 rfl rfl HAGa.out HZ.out rfl HCa.out ?_
            refine bodyPost_ret (v := .tuple #[.agg (actCells a p).toArray, .bool false]) (run_results_cell_tmp _ Tryd.results52 (b := w.heap.size) (o := 0) rfl rfl HAGa.out (LiesAt.of_block (setRow_heap _ _ _ _ _ _ HZ.out))) rfl ?_
            refine ⟨a, p, by rw [HRF.out]; rfl, ?_, HU.out.setRow (.inl (Nat.le_refl _)) _⟩
            exact fun h => by rw [HRF.out] at h; cases h
          case pos =>
          have bz : ((tl.length : Int) != 1) = false := by rw [hlen]; rfl
          obtain ⟨y, hy⟩ : ∃ y, y = tl[0]'(by omega) := ⟨_, rfl⟩
          have hw0 : wd tl 0 = y := by unfold wd; rw [List.getD_eq_getElem?_getD, List.getElem?_eq_getElem (by omega), hy]; rfl
          have hyl := HL.out.2 y (by rw [hy]; exact List.getElem_mem _)
          rw [hw0, hlen] at hak
          obtain ⟨ab', ao', e1, hcy0⟩ := HA.out 1 y (by rw [hy]; simp [hlen])
          injection e1 with e1; injection e1 with e1 e2 _; subst e1 e2
          have hcy : wr.cell? ⟨ab, ao + 1, none⟩ = some (.string ⟨y.toArray⟩) := (World.cell?_of_block (HU.out.block ab hab (by simp))).trans hcy0
          clear hy hcy0
          have q := ref_int y wr hyl
          have hf := int_facts y
          have hrr : intP y = r := by rw [HR.out, readQ_of _ (by decide), hak]; simp
          obtain ⟨v, hv⟩ : ∃ v : Int, v = ((countS y 9223372036854775807).1 : Int) := ⟨_, rfl⟩
          rw [hf.1, hrr, ← hv] at q
          rw [hrr, ← hv] at hf
          have HV := Lib.hid (show r = true → v = intS y from hf.2)
          clear hf
          have Q := Lib.hid q; have HW0 := Lib.hid hw0
          clear q hrr hv hw0 hak 
          go_wp2_with fail
          refine Q.out.mono ?_
          rintro e wt ⟨rfl, hwt⟩
          rw [hwt]; clear hwt wt Q hcy
          have ht5 := HT.out
          have c1 := cell_of (i := 1) ht5 rfl
          have f1 : wr.frozen? ⟨tb, 1, none⟩ = false := free_of ht5
          clear ht5
          go_upto_region 51 with fail
          obtain ⟨w6, hw6⟩ : ∃ w6, w6 = wr.setCell ⟨tb, 1, none⟩ (.int .i64 v) := ⟨_, rfl⟩
          rw [← hw6]
          have HT6 := Lib.hid (show w6.heap[tb]? = some (.cells (actCells { ActL.zero with op := 12, id := v } p0).toArray 29 (0, 0)) by rw [hw6]; exact (heap_setCell_self (i := 1) HT.out _).trans rfl)
          have HZ6 := Lib.hid (show w6.heap[w.heap.size]? = some (.cells (actCells ActL.zero p0).toArray 29 (0, 0)) by rw [hw6]; exact (heap_setCell_ne _ (show tb ≠ w.heap.size by omega)).trans HZ.out)
          have HU6 := Lib.hid (show Upd [] w w6 by rw [hw6]; exact HU.out.setCell (.inl (show w.heap.size ≤ tb by omega)) _)
          clear hw6 c1 f1
          obtain ⟨a, ha⟩ : ∃ a : ActL, a = { ActL.zero with op := 12, id := v } := ⟨_, rfl⟩
          obtain ⟨p, hp⟩ : ∃ p : ActP, p = p0 := ⟨_, rfl⟩
          have HTF : Hid (w6.heap[tb]? = some (.cells (actCells a p).toArray 29 (0, 0))) := Lib.hid (by rw [ha, hp]; exact HT6.out)
          have HAA := Lib.hid ha; have HPP := Lib.hid hp
          clear ha hp
          have HLD := Lib.hid (LiesAt.of_block HTF.out)
          have HAGa := Lib.hid (show aggOf Tryd.prog 29 (actCells a p).length = true from aggAct a p); have HCa := Lib.hid (actCells_all a p)
          go_wp2_with first
            | refine wpList_load_lies _ rfl 29 (.tmp 4) rfl tb 0 (actCells a p) rfl HAGa.out HLD.out ?_
            | refine wpList_store_agg _ rfl 29 (.tmp 2) (.tmp 177) rfl w.heap.size (actCells a p).toArray (actCells ActL.zero p0).toArray 29 rfl rfl HAGa.out HZ6.out rfl HCa.out ?_
          refine bodyPost_ret (v := .tuple #[.agg (actCells a p).toArray, .bool r]) (run_results_cell_tmp _ Tryd.results52 (b := w.heap.size) (o := 0) rfl rfl HAGa.out (LiesAt.of_block (setRow_heap _ _ _ _ _ _ HZ6.out))) rfl ?_
          refine ⟨a, p, rfl, ?_, HU6.out.setRow (.inl (Nat.le_refl _)) _⟩
          intro h
          rw [HAA.out, HPP.out]
          refine ⟨by rw [HV.out h, ← HW0.out]; simp [parseS], ⟨IntsAt.nil _ _, HdrsAt.nil _ _, BytesAt.nil _ _, Nat.le_refl _, HdrsAt.nil _ _⟩, by simp [usedB, ActL.zero, ReqL.zero]⟩
        · -- op 13
          have hak : actP 13 tl = (decide (tl.length = 1) && intP (wd tl 0)) := rfl
          by_cases hlen : tl.length = 1
          case neg =>
            have hrf : r = false := by
              rw [HR.out, readQ_of _ (by decide)]
              rw [hak, decide_eq_false (by omega)]; rfl
            have HRF := Lib.hid hrf; clear hrf
            clear hak
            have bz : ((tl.length : Int) != 1) = true := by rw [bne_iff_ne]; omega
            go_upto_region 24 with fail
            obtain ⟨a, ha⟩ : ∃ a : ActL, a = { ActL.zero with op := 13 } := ⟨_, rfl⟩
            obtain ⟨p, hp⟩ : ∃ p : ActP, p = p0 := ⟨_, rfl⟩
            have HTF : Hid (wr.heap[tb]? = some (.cells (actCells a p).toArray 29 (0, 0))) := Lib.hid (by rw [ha, hp]; exact HT.out)
            have HAA := Lib.hid ha; have HPP := Lib.hid hp
            clear ha hp
            have HLD := Lib.hid (LiesAt.of_block HTF.out)
            have HAGa := Lib.hid (show aggOf Tryd.prog 29 (actCells a p).length = true from aggAct a p); have HCa := Lib.hid (actCells_all a p)
            go_wp2_with first
              | refine wpList_load_lies _ rfl 29 (.tmp 4) rfl tb 0 (actCells a p) rfl HAGa.out HLD.out ?_
              | refine wpList_store_agg _ rfl 29 (.tmp 2) (.tmp 69) rfl w.heap.size (actCells a p).toArray (actCells ActL.zero p0).toArray 29 rfl rfl HAGa.out HZ.out rfl HCa.out ?_
            refine bodyPost_ret (v := .tuple #[.agg (actCells a p).toArray, .bool false]) (run_results_cell_tmp _ Tryd.results52 (b := w.heap.size) (o := 0) rfl rfl HAGa.out (LiesAt.of_block (setRow_heap _ _ _ _ _ _ HZ.out))) rfl ?_
            refine ⟨a, p, by rw [HRF.out]; rfl, ?_, HU.out.setRow (.inl (Nat.le_refl _)) _⟩
            exact fun h => by rw [HRF.out] at h; cases h
          case pos =>
          have bz : ((tl.length : Int) != 1) = false := by rw [hlen]; rfl
          obtain ⟨y, hy⟩ : ∃ y, y = tl[0]'(by omega) := ⟨_, rfl⟩
          have hw0 : wd tl 0 = y := by unfold wd; rw [List.getD_eq_getElem?_getD, List.getElem?_eq_getElem (by omega), hy]; rfl
          have hyl := HL.out.2 y (by rw [hy]; exact List.getElem_mem _)
          rw [hw0, hlen] at hak
          obtain ⟨ab', ao', e1, hcy0⟩ := HA.out 1 y (by rw [hy]; simp [hlen])
          injection e1 with e1; injection e1 with e1 e2 _; subst e1 e2
          have hcy : wr.cell? ⟨ab, ao + 1, none⟩ = some (.string ⟨y.toArray⟩) := (World.cell?_of_block (HU.out.block ab hab (by simp))).trans hcy0
          clear hy hcy0
          have q := ref_int y wr hyl
          have hf := int_facts y
          have hrr : intP y = r := by rw [HR.out, readQ_of _ (by decide), hak]; simp
          obtain ⟨v, hv⟩ : ∃ v : Int, v = ((countS y 9223372036854775807).1 : Int) := ⟨_, rfl⟩
          rw [hf.1, hrr, ← hv] at q
          rw [hrr, ← hv] at hf
          have HV := Lib.hid (show r = true → v = intS y from hf.2)
          clear hf
          have Q := Lib.hid q; have HW0 := Lib.hid hw0
          clear q hrr hv hw0 hak 
          go_wp2_with fail
          refine Q.out.mono ?_
          rintro e wt ⟨rfl, hwt⟩
          rw [hwt]; clear hwt wt Q hcy
          have ht5 := HT.out
          have c1 := cell_of (i := 1) ht5 rfl
          have f1 : wr.frozen? ⟨tb, 1, none⟩ = false := free_of ht5
          clear ht5
          go_upto_region 51 with fail
          obtain ⟨w6, hw6⟩ : ∃ w6, w6 = wr.setCell ⟨tb, 1, none⟩ (.int .i64 v) := ⟨_, rfl⟩
          rw [← hw6]
          have HT6 := Lib.hid (show w6.heap[tb]? = some (.cells (actCells { ActL.zero with op := 13, id := v } p0).toArray 29 (0, 0)) by rw [hw6]; exact (heap_setCell_self (i := 1) HT.out _).trans rfl)
          have HZ6 := Lib.hid (show w6.heap[w.heap.size]? = some (.cells (actCells ActL.zero p0).toArray 29 (0, 0)) by rw [hw6]; exact (heap_setCell_ne _ (show tb ≠ w.heap.size by omega)).trans HZ.out)
          have HU6 := Lib.hid (show Upd [] w w6 by rw [hw6]; exact HU.out.setCell (.inl (show w.heap.size ≤ tb by omega)) _)
          clear hw6 c1 f1
          obtain ⟨a, ha⟩ : ∃ a : ActL, a = { ActL.zero with op := 13, id := v } := ⟨_, rfl⟩
          obtain ⟨p, hp⟩ : ∃ p : ActP, p = p0 := ⟨_, rfl⟩
          have HTF : Hid (w6.heap[tb]? = some (.cells (actCells a p).toArray 29 (0, 0))) := Lib.hid (by rw [ha, hp]; exact HT6.out)
          have HAA := Lib.hid ha; have HPP := Lib.hid hp
          clear ha hp
          have HLD := Lib.hid (LiesAt.of_block HTF.out)
          have HAGa := Lib.hid (show aggOf Tryd.prog 29 (actCells a p).length = true from aggAct a p); have HCa := Lib.hid (actCells_all a p)
          go_wp2_with first
            | refine wpList_load_lies _ rfl 29 (.tmp 4) rfl tb 0 (actCells a p) rfl HAGa.out HLD.out ?_
            | refine wpList_store_agg _ rfl 29 (.tmp 2) (.tmp 177) rfl w.heap.size (actCells a p).toArray (actCells ActL.zero p0).toArray 29 rfl rfl HAGa.out HZ6.out rfl HCa.out ?_
          refine bodyPost_ret (v := .tuple #[.agg (actCells a p).toArray, .bool r]) (run_results_cell_tmp _ Tryd.results52 (b := w.heap.size) (o := 0) rfl rfl HAGa.out (LiesAt.of_block (setRow_heap _ _ _ _ _ _ HZ6.out))) rfl ?_
          refine ⟨a, p, rfl, ?_, HU6.out.setRow (.inl (Nat.le_refl _)) _⟩
          intro h
          rw [HAA.out, HPP.out]
          refine ⟨by rw [HV.out h, ← HW0.out]; simp [parseS], ⟨IntsAt.nil _ _, HdrsAt.nil _ _, BytesAt.nil _ _, Nat.le_refl _, HdrsAt.nil _ _⟩, by simp [usedB, ActL.zero, ReqL.zero]⟩
        · -- op 14
          have hak : actP 14 tl = (decide (tl.length = 2) && tl.all intP) := rfl
          by_cases hlen : tl.length = 2
          case neg =>
            have hrf : r = false := by
              rw [HR.out, readQ_of _ (by decide)]
              rw [hak, decide_eq_false (by omega)]; rfl
            have HRF := Lib.hid hrf; clear hrf
            clear hak
            have bz : ((tl.length : Int) != 2) = true := by rw [bne_iff_ne]; omega
            go_upto_region 46 with fail
            obtain ⟨a, ha⟩ : ∃ a : ActL, a = { ActL.zero with op := 14 } := ⟨_, rfl⟩
            obtain ⟨p, hp⟩ : ∃ p : ActP, p = p0 := ⟨_, rfl⟩
            have HTF : Hid (wr.heap[tb]? = some (.cells (actCells a p).toArray 29 (0, 0))) := Lib.hid (by rw [ha, hp]; exact HT.out)
            have HAA := Lib.hid ha; have HPP := Lib.hid hp
            clear ha hp
            have HLD := Lib.hid (LiesAt.of_block HTF.out)
            have HAGa := Lib.hid (show aggOf Tryd.prog 29 (actCells a p).length = true from aggAct a p); have HCa := Lib.hid (actCells_all a p)
            go_wp2_with first
              | refine wpList_load_lies _ rfl 29 (.tmp 4) rfl tb 0 (actCells a p) rfl HAGa.out HLD.out ?_
              | refine wpList_store_agg _ rfl 29 (.tmp 2) (.tmp 160) rfl w.heap.size (actCells a p).toArray (actCells ActL.zero p0).toArray 29 rfl rfl HAGa.out HZ.out rfl HCa.out ?_
            refine bodyPost_ret (v := .tuple #[.agg (actCells a p).toArray, .bool false]) (run_results_cell_tmp _ Tryd.results52 (b := w.heap.size) (o := 0) rfl rfl HAGa.out (LiesAt.of_block (setRow_heap _ _ _ _ _ _ HZ.out))) rfl ?_
            refine ⟨a, p, by rw [HRF.out]; rfl, ?_, HU.out.setRow (.inl (Nat.le_refl _)) _⟩
            exact fun h => by rw [HRF.out] at h; cases h
          case pos =>
          have bz : ((tl.length : Int) != 2) = false := by rw [hlen]; rfl
          obtain ⟨y0, y1, hyy⟩ : ∃ y0 y1, tl = [y0, y1] := by
            match tl, hlen with
            | [y0, y1], _ => exact ⟨y0, y1, rfl⟩
          have hyl0 := HL.out.2 y0 (by rw [hyy]; simp)
          have hyl1 := HL.out.2 y1 (by rw [hyy]; simp)
          have HYY := Lib.hid hyy
          obtain ⟨ab', ao', e1, hcy0⟩ := HA.out 1 y0 (by rw [hyy]; rfl)
          injection e1 with e1; injection e1 with e1 e2 _; subst e1 e2
          obtain ⟨ab', ao', e1, hcy1⟩ := HA.out 2 y1 (by rw [hyy]; rfl)
          injection e1 with e1; injection e1 with e1 e2 _; subst e1 e2
          clear hyy
          have hrr : tl.all intP = r := by rw [HR.out, readQ_of _ (by decide), hak, hlen]; simp
          have hQ : ∀ A' n c', StrsAt wr A' tl → n = tl.length → Calls Tryd.prog 69 #[.slice A' n c'] wr fun e w' => ∃ B d l, e = .returned (.tuple #[.slice B l.length d, .bool r]) ∧ (r = true → l = tl.map intS) ∧ IntsAt w' B l ∧ (∀ ab ao, B = some ⟨ab, ao, none⟩ → wr.heap.size ≤ ab) ∧ Upd [] wr w' := fun A' n c' hA' hn => by
            subst hn
            have q := ref_ints (c := c') hA' HL.out
            rw [hrr] at q
            exact q
          have HQ := Lib.hid hQ; clear hQ hrr hak hcy0 hcy1
          go_wp2_with fail
          refine (HQ.out _ _ _ ((StrsAt.tail HA.out).upd0 HU.out) (by first | rfl | omega)).mono ?_
          rintro e w5 ⟨B5, d5, l5, rfl, hl5, hi5, hf5, hu5⟩
          have ht5 := (hu5.block tb (Array.getElem?_eq_some_iff.1 HT.out).1 (by simp)).trans HT.out
          have HZ5 := Lib.hid ((hu5.block w.heap.size (Array.getElem?_eq_some_iff.1 HZ.out).1 (by simp)).trans HZ.out)
          have HT5 := Lib.hid ht5; have HU5 := Lib.hid (HU.out.trans hu5 (by simp)); have HL5 := Lib.hid hl5; have HI5 := Lib.hid hi5; have HF5 := Lib.hid hf5
          have htl5 : tb < wr.heap.size := (Array.getElem?_eq_some_iff.1 HT.out).1
          clear hu5 hl5 hi5 hf5 HQ ht5
          cases r with
          | false =>
            have HRF := Lib.hid (rfl : false = false)
            go_upto_region 49 with fail
            obtain ⟨a, ha⟩ : ∃ a : ActL, a = { ActL.zero with op := 14 } := ⟨_, rfl⟩
            obtain ⟨p, hp⟩ : ∃ p : ActP, p = p0 := ⟨_, rfl⟩
            have HTF : Hid (w5.heap[tb]? = some (.cells (actCells a p).toArray 29 (0, 0))) := Lib.hid (by rw [ha, hp]; exact HT5.out)
            have HAA := Lib.hid ha; have HPP := Lib.hid hp
            clear ha hp
            have HLD := Lib.hid (LiesAt.of_block HTF.out)
            have HAGa := Lib.hid (show aggOf Tryd.prog 29 (actCells a p).length = true from aggAct a p); have HCa := Lib.hid (actCells_all a p)
            go_wp2_with first
              | refine wpList_load_lies _ rfl 29 (.tmp 4) rfl tb 0 (actCells a p) rfl HAGa.out HLD.out ?_
              | refine wpList_store_agg _ rfl 29 (.tmp 2) (.tmp 168) rfl w.heap.size (actCells a p).toArray (actCells ActL.zero p0).toArray 29 rfl rfl HAGa.out HZ5.out rfl HCa.out ?_
            refine bodyPost_ret (v := .tuple #[.agg (actCells a p).toArray, .bool false]) (run_results_cell_tmp _ Tryd.results52 (b := w.heap.size) (o := 0) rfl rfl HAGa.out (LiesAt.of_block (setRow_heap _ _ _ _ _ _ HZ5.out))) rfl ?_
            refine ⟨a, p, rfl, ?_, HU5.out.setRow (.inl (Nat.le_refl _)) _⟩
            exact fun h => by cases h
          | true =>
          have hl5 := HL5.out rfl
          rw [HYY.out] at hl5
          simp only [List.map_cons, List.map_nil] at hl5
          subst hl5
          obtain ⟨bi, bo, eB, m0⟩ := HI5.out 0 (intS y0) rfl
          obtain ⟨bi', bo', eB', m1⟩ := HI5.out 1 (intS y1) rfl
          subst eB
          injection eB' with eB'; injection eB' with e1 e2 _; subst e1 e2
          rw [Nat.add_zero] at m0
          have hbi := HF5.out _ _ rfl
          obtain ⟨z0, hz0⟩ : ∃ z, z = intS y0 := ⟨_, rfl⟩
          obtain ⟨z1, hz1⟩ : ∃ z, z = intS y1 := ⟨_, rfl⟩
          rw [← hz0] at m0 ⊢
          rw [← hz1] at m1 ⊢
          have HZZ := Lib.hid (show z0 = intS y0 ∧ z1 = intS y1 from ⟨hz0, hz1⟩)
          clear hz0 hz1
          go_upto_region 50 with fail
          have ht5 := HT5.out
          have c1 := cell_of (i := 1) ht5 rfl
          have f1 : w5.frozen? ⟨tb, 1, none⟩ = false := free_of ht5
          clear ht5
          refine wp_region_proc [(0, 0), (1, 0), (2, 0), (3, 0), (4, 0), (5, 0), (6, 0), (7, 1), (8, 0), (9, 2)] (fun W => W.cell? ⟨bi, bo, none⟩ = some (.int .i64 z0) ∧ W.cell? ⟨bi, bo + 1, none⟩ = some (.int .i64 z1)) (by kernel_rfl) (by kernel_rfl) (fun c a w t v h => by cases t <;> exact h) ⟨m0, m1⟩ ?_
          repeat
            (first
              | (apply proc_held
                 case ho => simp only [List.getElem?_toArray, List.getElem?_cons_succ, List.getElem?_cons_zero]; rfl
                 case hg => rfl
                 case hv => intro W hW; (try dsimp only at hW); go_simp; rfl
                 case ha => go_simp; rfl)
              | (apply proc_held_on
                 case ho => simp only [List.getElem?_toArray, List.getElem?_cons_succ, List.getElem?_cons_zero]; rfl
                 case hg => rfl
                 case hv => intro W hW; (try dsimp only at hW); go_simp; rfl
                 case ha => go_simp; rfl)
              | (apply proc_off
                 case ho => simp only [List.getElem?_toArray, List.getElem?_cons_succ, List.getElem?_cons_zero]; rfl
                 case hg => rfl
                 case ha => go_simp; rfl))
          apply proc_eff
          case ho => simp only [List.getElem?_toArray, List.getElem?_cons_succ, List.getElem?_cons_zero]; rfl
          simp only [World.drew_eq]
          go_wp2_with fail
          have n0 := (World.cell?_of_block (a := ⟨bi, bo, none⟩) (heap_setCell_ne (w := w5.drew) (a := ⟨tb, 1, none⟩) (b := bi) (.int .i64 z0) (show tb ≠ bi by omega))).trans m0
          have n1 := (World.cell?_of_block (a := ⟨bi, bo + 1, none⟩) (heap_setCell_ne (w := w5.drew) (a := ⟨tb, 1, none⟩) (b := bi) (.int .i64 z0) (show tb ≠ bi by omega))).trans m1
          refine ⟨_, fun _ h => h, ⟨n0, n1⟩, ?_⟩
          repeat
            (first
              | (apply proc_held
                 case ho => simp only [List.getElem?_toArray, List.getElem?_cons_succ, List.getElem?_cons_zero]; rfl
                 case hg => rfl
                 case hv => intro W hW; (try dsimp only at hW); go_simp; rfl
                 case ha => go_simp; rfl)
              | (apply proc_held_on
                 case ho => simp only [List.getElem?_toArray, List.getElem?_cons_succ, List.getElem?_cons_zero]; rfl
                 case hg => rfl
                 case hv => intro W hW; (try dsimp only at hW); go_simp; rfl
                 case ha => go_simp; rfl)
              | (apply proc_off
                 case ho => simp only [List.getElem?_toArray, List.getElem?_cons_succ, List.getElem?_cons_zero]; rfl
                 case hg => rfl
                 case ha => go_simp; rfl))
          apply proc_last
          case ho => simp only [List.getElem?_toArray, List.getElem?_cons_succ, List.getElem?_cons_zero]; rfl
          obtain ⟨w6, hw6⟩ : ∃ w6, w6 = (w5.setCell ⟨tb, 1, none⟩ (.int .i64 z0)).drew := ⟨_, rfl⟩
          rw [← hw6]
          have ht6 : w6.heap[tb]? = some (.cells (actCells { ActL.zero with op := 14, id := z0 } p0).toArray 29 (0, 0)) := by rw [hw6]; exact (heap_setCell_self (i := 1) (w := w5) HT5.out _).trans rfl
          have HU6 := Lib.hid (show Upd [] w w6 by rw [hw6]; exact (HU5.out.setCell (.inl (show w.heap.size ≤ tb by omega)) _).drewN 1)
          have HZ6 := Lib.hid (show w6.heap[w.heap.size]? = some (.cells (actCells ActL.zero p0).toArray 29 (0, 0)) by rw [hw6]; exact (heap_setCell_ne (w := w5) _ (show tb ≠ w.heap.size by omega)).trans HZ5.out)
          have c2 := cell_of (i := 2) ht6 rfl
          have f2 : w6.frozen? ⟨tb, 2, none⟩ = false := free_of ht6
          have HT6 := Lib.hid ht6
          clear c1 f1 m0 m1 n0 n1 hw6 ht6
          go_wp2_with fail
          refine ⟨fun _ => True, trivial, ?_⟩
          refine proc_nil ?_
          go_upto_region 51 with fail
          obtain ⟨w7, hw7⟩ : ∃ w7, w7 = w6.setCell ⟨tb, 2, none⟩ (.int .i64 z1) := ⟨_, rfl⟩
          rw [← hw7]
          have HT7 := Lib.hid (show w7.heap[tb]? = some (.cells (actCells { ActL.zero with op := 14, id := z0, n := z1 } p0).toArray 29 (0, 0)) by rw [hw7]; exact (heap_setCell_self (i := 2) HT6.out _).trans rfl)
          have HU7 := Lib.hid (show Upd [] w w7 by rw [hw7]; exact HU6.out.setCell (.inl (show w.heap.size ≤ tb by omega)) _)
          have HZ7 := Lib.hid (show w7.heap[w.heap.size]? = some (.cells (actCells ActL.zero p0).toArray 29 (0, 0)) by rw [hw7]; exact (heap_setCell_ne _ (show tb ≠ w.heap.size by omega)).trans HZ6.out)
          have HRT := Lib.hid (rfl : true = true)
          clear hw7 c2 f2
          obtain ⟨a, ha⟩ : ∃ a : ActL, a = { ActL.zero with op := 14, id := z0, n := z1 } := ⟨_, rfl⟩
          obtain ⟨p, hp⟩ : ∃ p : ActP, p = p0 := ⟨_, rfl⟩
          have HTF : Hid (w7.heap[tb]? = some (.cells (actCells a p).toArray 29 (0, 0))) := Lib.hid (by rw [ha, hp]; exact HT7.out)
          have HAA := Lib.hid ha; have HPP := Lib.hid hp
          clear ha hp
          have HLD := Lib.hid (LiesAt.of_block HTF.out)
          have HAGa := Lib.hid (show aggOf Tryd.prog 29 (actCells a p).length = true from aggAct a p); have HCa := Lib.hid (actCells_all a p)
          go_wp2_with first
            | refine wpList_load_lies _ rfl 29 (.tmp 4) rfl tb 0 (actCells a p) rfl HAGa.out HLD.out ?_
            | refine wpList_store_agg _ rfl 29 (.tmp 2) (.tmp 177) rfl w.heap.size (actCells a p).toArray (actCells ActL.zero p0).toArray 29 rfl rfl HAGa.out HZ7.out rfl HCa.out ?_
          refine bodyPost_ret (v := .tuple #[.agg (actCells a p).toArray, .bool true]) (run_results_cell_tmp _ Tryd.results52 (b := w.heap.size) (o := 0) rfl rfl HAGa.out (LiesAt.of_block (setRow_heap _ _ _ _ _ _ HZ7.out))) rfl ?_
          refine ⟨a, p, rfl, ?_, HU7.out.setRow (.inl (Nat.le_refl _)) _⟩
          intro h
          rw [HAA.out, HPP.out]
          refine ⟨by rw [HZZ.out.1, HZZ.out.2, HYY.out]; rfl, ⟨IntsAt.nil _ _, HdrsAt.nil _ _, BytesAt.nil _ _, Nat.le_refl _, HdrsAt.nil _ _⟩, by simp [usedB, ActL.zero, ReqL.zero]⟩
end Go.Proofs.YtajoldboafkpdaaDoor
