-- The walk of the law RingPlays.
import Derived.Test.YtmcbllpkgeihgaaRingAwake
import Derived.Test.YtmcbllpkgeihgaaRefRing
import Derived.Test.YtmcbllpkgeihgaaLow
import Derived.Test.YtmcbllpkgeihgaaOpen
namespace Go.Proofs.Ytmcbllpkgeihgaa
open Go.RowKit Go.Lk
set_option linter.unusedVariables false
set_option linter.unusedSimpArgs false
/-- A deed: three cells. -/
def DeedR (w : World) (cs : List Value) (x : Int × Int × List UInt8) : Prop := ∃ v, cs = [.int .i64 x.1, .int .i64 x.2.1, v] ∧ BytesV w v x.2.2
set_option maxHeartbeats 1600000 in
set_option maxRecDepth 100000 in
theorem walk_RingPlays (w : World) (size : Int) (_ : (Lit.int .i64 size).wf = true) (vl : Value) (ls : List (Int × Int × List UInt8)) (hl : SliceR w 3 (DeedR w) vl ls) :
    Calls Try.prog 4 #[.int .i64 size, vl] w fun e w' => e = .returned (.bool true) ∧ Below w.heap.size w w' := by
  obtain ⟨Al, cl, rfl, _⟩ := hl.form
  by_cases hc : 100 < ls.length
  · go_enter Try.func4, Try.ntmps4
    go_wp2_with (go_at_call 14; refine (awake10 _).mono ?_; rintro e w' ⟨rfl, hu⟩)
    go_ret
    exact ⟨rfl, hu.below (by simp)⟩
  obtain ⟨S, hS⟩ : ∃ S, S = (max 1 (min size 4096)).toNat := ⟨_, rfl⟩
  have hS' : S = (min (max size 1) 4096).toNat := by omega
  have HS := Lib.hid hS; have HS' := Lib.hid hS'; clear hS hS'
  go_enter Try.func4, Try.ntmps4
  go_wp2_with fail
  refine (Ring_new_any _ size S HS.out).mono ?_
  rintro e w1 ⟨b, rb, rfl, hr1, hu1, g1, g2⟩
  go_wp2_with fail
  refine (rring_new _ size S HS'.out).mono ?_
  rintro e w2 ⟨m, rfl, hm2, hu2, g3⟩
  have hr2 := hr1.upd hu2 (by simp) (by simp)
  have lt1 := hr1.lt
  have hmb : m ≠ b ∧ m ≠ rb ∧ w.heap.size ≤ m := by have := hu1.size; omega
  have U2 := hu1.trans hu2 (by simp)
  have hS1 := hr1.one
  have hS2 := hr1.S_le
  have HR := Lib.hid hr2; have HM := Lib.hid hm2; have HU := Lib.hid U2
  clear hr1 hu1 hm2 hu2 hr2 U2 g3
  go_wp2_with fail
  go_loopw [7] (fun v7 wr => ∃ (k : Nat) (q : List UInt8) (v : Value), k ≤ ls.length ∧ v7 = .int .i64 k ∧ Ring wr b rb S q ∧ RRing wr m S v q ∧ (∀ j, v.ownBlock = some j → j ≠ b ∧ j ≠ rb) ∧ Upd [] w wr) (fun v7 _ => ls.length - (intOf v7).toNat)
  case atStart => exact ⟨0, [], _, by omega, rfl, HR.out, HM.out, by simp [Value.ownBlock], HU.out⟩
  case round =>
    obtain ⟨k, q, v, hk, rfl, hr, hm, hv, hu⟩ := hrel
    by_cases hlt : k < ls.length
    · obtain ⟨A', c', e1, _, hp⟩ := hl
      injection e1 with e1 _ e2
      subst e1 e2
      obtain ⟨ab, ao, rfl, cs, hcs, hcell, x2, rfl, hby⟩ := hp k ls[k] (by simp [hlt])
      generalize ls[k] = xk at *
      obtain ⟨op, n, bs⟩ := xk
      obtain ⟨A, c, rfl, hbc, hby⟩ := hby
      try dsimp only at hcell hby hbc
      have hc0 := hcell 0 _ rfl
      have hc1 := hcell 1 _ rfl
      have hc2 := hcell 2 _ rfl
      have g0 : wr.cell? ⟨ab, ao + k * 3, none⟩ = some (.int .i64 op) := (World.cell?_of_block (hu.block ab (World.block_lt_of_cell? _ _ hc0) (by simp))).trans hc0
      have g1' : wr.cell? ⟨ab, ao + k * 3 + 1, none⟩ = some (.int .i64 n) := (World.cell?_of_block (hu.block ab (World.block_lt_of_cell? _ _ hc1) (by simp))).trans (by rw [Nat.add_assoc]; exact hc1)
      have g2' : wr.cell? ⟨ab, ao + k * 3 + 2, none⟩ = some (.slice A bs.length c) := (World.cell?_of_block (hu.block ab (World.block_lt_of_cell? _ _ hc2) (by simp))).trans (by rw [Nat.add_assoc]; exact hc2)
      have HR := Lib.hid hr; have HM := Lib.hid hm; have HU := Lib.hid hu; have HV := Lib.hid hv; have HB := Lib.hid hby
      clear hr hm hu hv hby hc0 hc1 hc2 hcell hp
      by_cases h300 : 300 < bs.length
      · go_wp2_with (go_at_call 14; refine (awake10 _).mono ?_; rintro e w' ⟨rfl, hu⟩)
        go_ret
        exact ⟨rfl, ((HU.out.alloc _).trans hu (by simp)).below (by simp)⟩
      go_wp2_with fail
      refine (Low_any op 3 (by omega) (by omega) _).mono ?_
      rintro e w' ⟨rfl, rfl⟩
      have hd := low_lt op 3 (by omega)
      generalize low op 3 = d at *
      have lt1 := HR.out.lt
      have hmlt := lt_of_block HM.out.hb
      have hr0 := HR.out.upd ((Upd.refl [] wr).alloc (.cells #[.int .i64 op, .int .i64 n, .slice A bs.length c] 37)) (by simp) (by simp)
      have HR0 := Lib.hid hr0; clear hr0
      have hm0 : RRing (wr.alloc (.cells #[.int .i64 op, .int .i64 n, .slice A bs.length c] 37)) m S v q := HM.out.upd ((Upd.refl [] wr).alloc _) (by simp) (by simp)
      have HM0 := Lib.hid hm0; clear hm0
      rcases (show d = 0 ∨ d = 1 ∨ d = 2 by omega) with rfl | rfl | rfl
      · go_wp2_with fail
        refine wp_region_proc [(0, 0), (1, 0), (2, 0), (4, 0), (5, 0), (6, 0), (3, 1), (7, 2), (8, 0), (9, 0)] (fun W => W.cell? ⟨wr.heap.size, 2, none⟩ = some (.slice A bs.length c)) (by kernel_rfl) (by kernel_rfl) (fun c a w t v h => by cases t <;> exact h) (cell_of (w := wr.alloc (.cells #[.int .i64 op, .int .i64 n, .slice A bs.length c] 37)) (i := 2) (heap_alloc_self _) rfl) ?_
        repeat
          (first
            | (apply proc_held
               case ho => simp only [List.getElem?_toArray, List.getElem?_cons_succ, List.getElem?_cons_zero]; rfl
               case hg => rfl
               case hv => intro W hW; (try dsimp only at hW); go_simp; rfl
               case ha => go_simp; rfl)
            | (apply proc_held_on
               case ho => simp only [List.getElem?_toArray, List.getElem?_cons_succ, List.getElem?_cons_zero]; rfl
               case hg => rfl
               case hv => intro W hW; (try dsimp only at hW); go_simp; rfl
               case ha => go_simp; rfl))
        apply proc_eff
        case ho => simp only [List.getElem?_toArray, List.getElem?_cons_succ, List.getElem?_cons_zero]; rfl
        simp only [World.drew_eq]
        go_wp2_with fail
        refine (Ring_put (HR0.out.drewN 1) A bs c ((HB.out.upd0 HU.out).upd0 (((Upd.refl [] wr).alloc _).drew)) (fun ab ao h0 e => by have := HB.out.lt h0 ab ao e; omega) (by omega)).mono ?_
        rintro e w2 ⟨rfl, hr2, hu2⟩
        have hm2 := HM0.out.upd (F := [b, rb]) ((Upd.refl _ _).drew.trans hu2 (by simp)) (by simp; omega) (fun j hj => by have := HV.out j hj; simp; omega)
        have hU2 := ((HU.out.alloc (.cells #[.int .i64 op, .int .i64 n, .slice A bs.length c] 37)).drew).trans hu2 (by simp; omega)
        have hx2 : w2.cell? ⟨wr.heap.size, 2, none⟩ = some (.slice A bs.length c) := (World.cell?_of_block (hu2.block wr.heap.size (by simp) (by simp; omega))).trans (cell_of (w := (wr.alloc (.cells #[.int .i64 op, .int .i64 n, .slice A bs.length c] 37)).drew) (i := 2) (heap_alloc_self _) rfl)
        obtain ⟨n2, hn2⟩ : ∃ n2, n2 = min bs.length (S - q.length) := ⟨_, rfl⟩
        rw [← hn2]
        have htk : bs.take (S - q.length) = bs.take n2 := by rw [hn2]; rw [Nat.min_comm, ← List.take_eq_take_min]
        rw [htk] at hr2
        have HR2 := Lib.hid hr2; have HM2 := Lib.hid hm2; have HU2 := Lib.hid hU2; have HN2 := Lib.hid hn2; have Hx2 := Lib.hid hx2
        have hqS := HR0.out.le
        clear hr2 hm2 hu2 hU2 hn2 htk hx2
        go_wp2_with fail
        refine ⟨_, fun _ h => h, Hx2.out, ?_⟩
        apply proc_last
        case ho => simp only [List.getElem?_toArray, List.getElem?_cons_succ, List.getElem?_cons_zero]; rfl
        go_wp2_with fail
        refine (rring_put _ m S _ q HM2.out hqS hS2 A bs c hbc (HB.out.upd0 HU2.out) (by omega) n2 HN2.out).mono ?_
        rintro e w3 ⟨rfl, ⟨v3, hm3, hv3⟩, hu3⟩
        have hr3 := HR2.out.upd hu3 (by simp; omega) (by simp; omega)
        have HR3 := Lib.hid hr3; have HM3 := Lib.hid hm3; have HU3 := Lib.hid (HU2.out.trans hu3 (by simp; omega))
        have lt2 := HR2.out.lt
        have HV3 : Hid (∀ j, v3.ownBlock = some j → j ≠ b ∧ j ≠ rb) := Lib.hid (fun j hj => by have := hv3 j hj; omega)
        clear hr3 hm3 hu3 hv3
        obtain ⟨q3, hq3⟩ : ∃ q3 : List UInt8, q3 = q ++ bs.take n2 := ⟨_, rfl⟩
        rw [← hq3] at HR3 HM3
        clear hq3
        go_wp2_with fail
        refine ⟨fun _ => True, trivial, ?_⟩
        repeat
          (first
            | (apply proc_held
               case ho => simp only [List.getElem?_toArray, List.getElem?_cons_succ, List.getElem?_cons_zero]; rfl
               case hg => rfl
               case hv => intro W hW; (try dsimp only at hW); go_simp; rfl
               case ha => go_simp; rfl)
            | (apply proc_held_on
               case ho => simp only [List.getElem?_toArray, List.getElem?_cons_succ, List.getElem?_cons_zero]; rfl
               case hg => rfl
               case hv => intro W hW; (try dsimp only at hW); go_simp; rfl
               case ha => go_simp; rfl))
        refine proc_nil ?_
        go_wp2_with fail
        obtain ⟨A3, c3, rfl, hc3, hb3⟩ := HM3.out.by_
        have k1 : w3.cell? ⟨m, 1, none⟩ = some (.slice A3 q3.length c3) := cell_of (i := 1) HM3.out.hb rfl
        have k0 : w3.cell? ⟨m, 0, none⟩ = some (.int .i64 (S : Int)) := cell_of (i := 0) HM3.out.hb rfl
        have ks := (show BytesV w3.drew (.slice A3 q3.length c3) q3 from ⟨A3, c3, rfl, hc3, hb3⟩).str (P := Try.prog) 28 9 5 Try.underlying28 Try.underlying5 Try.underlying9
        have q3S := HR3.out.le
        clear hc3 hb3
        go_wp2_with fail
        refine wp_region_proc [(0, 0), (1, 0), (2, 0), (3, 0), (6, 0), (7, 0), (8, 0), (9, 0), (10, 0), (4, 1), (5, 0), (11, 0), (12, 0), (13, 0), (14, 0), (16, 0), (17, 0), (18, 0), (19, 0), (20, 0), (15, 1), (21, 0), (22, 0), (23, 0), (24, 0), (26, 0), (27, 0), (28, 0), (29, 0), (30, 0), (31, 0), (32, 0), (33, 0), (34, 0), (35, 0), (25, 1), (36, 0), (37, 0)] (fun W => W.cell? ⟨m, 1, none⟩ = some (.slice A3 q3.length c3) ∧ W.cell? ⟨m, 0, none⟩ = some (.int .i64 (S : Int)) ∧ (convert 28 9 (.slice A3 q3.length c3)).run Try.prog W = .ok (.string ⟨q3.toArray⟩) W) (by kernel_rfl) (by kernel_rfl) (fun c a w t v h => by cases t <;> exact h) ⟨k1, k0, ks⟩ ?_
        clear k1 k0 ks
        apply proc_held
        case ho => simp only [List.getElem?_toArray, List.getElem?_cons_succ, List.getElem?_cons_zero]; rfl
        case hg => rfl
        case hv => intro W hW; (try dsimp only at hW); go_simp; rfl
        case ha => go_simp; rfl
        repeat
          (first
            | (apply proc_held
               case ho => simp only [List.getElem?_toArray, List.getElem?_cons_succ, List.getElem?_cons_zero]; rfl
               case hg => rfl
               case hv => intro W hW; (try dsimp only at hW); go_simp; rfl
               case ha => go_simp; rfl)
            | (apply proc_held_on
               case ho => simp only [List.getElem?_toArray, List.getElem?_cons_succ, List.getElem?_cons_zero]; rfl
               case hg => rfl
               case hv => intro W hW; (try dsimp only at hW); go_simp; rfl
               case ha => go_simp; rfl))
        apply proc_eff
        case ho => simp only [List.getElem?_toArray, List.getElem?_cons_succ, List.getElem?_cons_zero]; rfl
        simp only [World.drew_eq]
        go_wp2_with fail
        refine (Ring_peek (HR3.out.drewN 1)).mono ?_
        rintro e w4 ⟨vp, rfl, hvp, hu4⟩
        have HR4 := Lib.hid ((HR3.out.drewN 1).upd hu4 (by simp) (by simp))
        have HM4 := Lib.hid (HM3.out.upd (F := []) ((Upd.refl _ _).drew.trans hu4 (by simp)) (by simp) (by simp))
        have HU4 := Lib.hid ((HU3.out.drew).trans hu4 (by simp))
        have k1 : w4.cell? ⟨m, 1, none⟩ = some (.slice A3 q3.length c3) := cell_of (i := 1) HM4.out.hb rfl
        have k0 : w4.cell? ⟨m, 0, none⟩ = some (.int .i64 (S : Int)) := cell_of (i := 0) HM4.out.hb rfl
        have ks := HM4.out.by_.str (P := Try.prog) 28 9 5 Try.underlying28 Try.underlying5 Try.underlying9
        have kp := (bytes_of_own hvp).str (P := Try.prog) 28 9 5 Try.underlying28 Try.underlying5 Try.underlying9
        go_wp2_with fail
        refine ⟨fun W => (W.cell? ⟨m, 1, none⟩ = some (.slice A3 q3.length c3) ∧ W.cell? ⟨m, 0, none⟩ = some (.int .i64 (S : Int)) ∧ (convert 28 9 (.slice A3 q3.length c3)).run Try.prog W = .ok (.string ⟨q3.toArray⟩) W) ∧ (convert 28 9 vp).run Try.prog W = .ok (.string ⟨q3.toArray⟩) W, fun _ h => h.1, ⟨⟨k1, k0, ks⟩, kp⟩, ?_⟩
        have HP := Lib.hid (bytes_of_own hvp)
        have sw : IntKind.i64.wrap ((S : Int) - (q3.length : Int)) = (S : Int) - (q3.length : Int) := IntWalk.i64_in _ (by omega)
        clear k1 k0 ks kp hu4 hvp
        repeat
          (first
            | (apply proc_held
               case ho => simp only [List.getElem?_toArray, List.getElem?_cons_succ, List.getElem?_cons_zero]; rfl
               case hg => rfl
               case hv => intro W hW; (try dsimp only at hW); go_simp; rfl
               case ha => go_simp; rfl)
            | (apply proc_held_on
               case ho => simp only [List.getElem?_toArray, List.getElem?_cons_succ, List.getElem?_cons_zero]; rfl
               case hg => rfl
               case hv => intro W hW; (try dsimp only at hW); go_simp; rfl
               case ha => go_simp; rfl))
        apply proc_eff
        case ho => simp only [List.getElem?_toArray, List.getElem?_cons_succ, List.getElem?_cons_zero]; rfl
        go_wp2_with fail
        refine (Ring_len HR4.out).mono ?_
        rintro e w5 ⟨rfl, rfl⟩
        go_wp2_with fail
        refine ⟨_, fun _ h => h, ⟨⟨cell_of (i := 1) HM4.out.hb rfl, cell_of (i := 0) HM4.out.hb rfl, HM4.out.by_.str (P := Try.prog) 28 9 5 Try.underlying28 Try.underlying5 Try.underlying9⟩, HP.out.str (P := Try.prog) 28 9 5 Try.underlying28 Try.underlying5 Try.underlying9⟩, ?_⟩
        repeat
          (first
            | (apply proc_held
               case ho => simp only [List.getElem?_toArray, List.getElem?_cons_succ, List.getElem?_cons_zero]; rfl
               case hg => rfl
               case hv => intro W hW; (try dsimp only at hW); go_simp; rfl
               case ha => go_simp; rfl)
            | (apply proc_held_on
               case ho => simp only [List.getElem?_toArray, List.getElem?_cons_succ, List.getElem?_cons_zero]; rfl
               case hg => rfl
               case hv => intro W hW; (try dsimp only at hW); go_simp; rfl
               case ha => go_simp; rfl))
        apply proc_eff
        case ho => simp only [List.getElem?_toArray, List.getElem?_cons_succ, List.getElem?_cons_zero]; rfl
        go_wp2_with fail
        refine (Ring_room HR4.out).mono ?_
        rintro e w5 ⟨rfl, j5, rfl⟩
        go_wp2_with fail
        refine ⟨_, fun _ h => h, ⟨⟨cell_of (w := w4.drewN j5) (i := 1) HM4.out.hb rfl, cell_of (w := w4.drewN j5) (i := 0) HM4.out.hb rfl, (HM4.out.by_.drewN j5).str (P := Try.prog) 28 9 5 Try.underlying28 Try.underlying5 Try.underlying9⟩, (HP.out.drewN j5).str (P := Try.prog) 28 9 5 Try.underlying28 Try.underlying5 Try.underlying9⟩, ?_⟩
        repeat
          (first
            | (apply proc_held
               case ho => simp only [List.getElem?_toArray, List.getElem?_cons_succ, List.getElem?_cons_zero]; rfl
               case hg => rfl
               case hv => intro W hW; (try dsimp only at hW); go_simp; rfl
               case ha => go_simp; rfl)
            | (apply proc_held_on
               case ho => simp only [List.getElem?_toArray, List.getElem?_cons_succ, List.getElem?_cons_zero]; rfl
               case hg => rfl
               case hv => intro W hW; (try dsimp only at hW); go_simp; rfl
               case ha => go_simp; rfl))
        refine proc_nil ?_
        go_wp2
        exact ⟨⟨k + 1, q3, _, by omega, by go_num, HR4.out.drewN _, HM4.out.drewN _, HV3.out, HU4.out.drewN _⟩, by simp [intOf]; omega⟩
      · go_wp2_with fail
        refine wp_region_proc [(0, 0), (1, 0), (2, 0), (5, 0), (6, 0), (7, 0), (3, 1), (4, 0), (8, 1), (9, 0), (10, 0), (11, 0)] (fun W => W.cell? ⟨wr.heap.size, 1, none⟩ = some (.int .i64 n)) (by kernel_rfl) (by kernel_rfl) (fun c a w t v h => by cases t <;> exact h) (cell_of (w := wr.alloc (.cells #[.int .i64 op, .int .i64 n, .slice A bs.length c] 37)) (i := 1) (heap_alloc_self _) rfl) ?_
        repeat
          (first
            | (apply proc_held
               case ho => simp only [List.getElem?_toArray, List.getElem?_cons_succ, List.getElem?_cons_zero]; rfl
               case hg => rfl
               case hv => intro W hW; (try dsimp only at hW); go_simp; rfl
               case ha => go_simp; rfl)
            | (apply proc_held_on
               case ho => simp only [List.getElem?_toArray, List.getElem?_cons_succ, List.getElem?_cons_zero]; rfl
               case hg => rfl
               case hv => intro W hW; (try dsimp only at hW); go_simp; rfl
               case ha => go_simp; rfl))
        apply proc_eff
        case ho => simp only [List.getElem?_toArray, List.getElem?_cons_succ, List.getElem?_cons_zero]; rfl
        simp only [World.drew_eq]
        go_wp2_with fail
        refine (Ring_take (HR0.out.drewN 1) n).mono ?_
        rintro e w2 ⟨va, rfl, hva, hr2, hu2⟩
        have hm2 := HM0.out.upd (F := [b]) ((Upd.refl _ _).drew.trans hu2 (by simp)) (by simp; omega) (fun j hj => by have := HV.out j hj; simp; omega)
        have hU2 := ((HU.out.alloc (.cells #[.int .i64 op, .int .i64 n, .slice A bs.length c] 37)).drew).trans hu2 (by simp; omega)
        have hx2 : w2.cell? ⟨wr.heap.size, 1, none⟩ = some (.int .i64 n) := (World.cell?_of_block (hu2.block wr.heap.size (by simp) (by simp; omega))).trans (cell_of (w := (wr.alloc (.cells #[.int .i64 op, .int .i64 n, .slice A bs.length c] 37)).drew) (i := 1) (heap_alloc_self _) rfl)
        have hqS := HR0.out.le
        obtain ⟨n2, hn2⟩ : ∃ n2, n2 = min n.toNat q.length := ⟨_, rfl⟩
        have htk : q.take n.toNat = q.take n2 := by rw [hn2]; rw [← List.take_eq_take_min]
        have hdr : q.drop n.toNat = q.drop n2 := by
          rw [hn2]
          rcases Nat.le_total n.toNat q.length with h | h
          · rw [Nat.min_eq_left h]
          · rw [Nat.min_eq_right h, List.drop_eq_nil_of_le (Nat.le_refl _), List.drop_eq_nil_of_le h]
        rw [htk] at hva
        rw [hdr] at hr2
        have hval := own_lt hva
        have hvge := own_ge hva
        have HR2 := Lib.hid hr2; have HM2 := Lib.hid hm2; have HU2 := Lib.hid hU2; have HN2 := Lib.hid hn2; have Hx2 := Lib.hid hx2; have HA2 := Lib.hid (bytes_of_own hva)
        have HVL := Lib.hid hval; have HVG := Lib.hid hvge
        clear hr2 hm2 hu2 hU2 hn2 htk hdr hx2 hva hval hvge
        go_wp2_with fail
        refine ⟨fun W => W.cell? ⟨wr.heap.size, 1, none⟩ = some (.int .i64 n) ∧ (convert 28 9 va).run Try.prog W = .ok (.string ⟨(q.take n2).toArray⟩) W, fun _ h => h.1, ⟨Hx2.out, HA2.out.str (P := Try.prog) 28 9 5 Try.underlying28 Try.underlying5 Try.underlying9⟩, ?_⟩
        repeat
          (first
            | (apply proc_held
               case ho => simp only [List.getElem?_toArray, List.getElem?_cons_succ, List.getElem?_cons_zero]; rfl
               case hg => rfl
               case hv => intro W hW; (try dsimp only at hW); go_simp; rfl
               case ha => go_simp; rfl)
            | (apply proc_held_on
               case ho => simp only [List.getElem?_toArray, List.getElem?_cons_succ, List.getElem?_cons_zero]; rfl
               case hg => rfl
               case hv => intro W hW; (try dsimp only at hW); go_simp; rfl
               case ha => go_simp; rfl))
        apply proc_eff
        case ho => simp only [List.getElem?_toArray, List.getElem?_cons_succ, List.getElem?_cons_zero]; rfl
        go_wp2_with fail
        refine (rring_take _ m S _ q HM2.out (by omega) n n2 HN2.out).mono ?_
        rintro e w3 ⟨vb, rfl, hvb, hvbg, ⟨v3, hm3, hv3⟩, hu3⟩
        have hr3 := HR2.out.upd hu3 (by simp; omega) (by simp; omega)
        have HR3 := Lib.hid hr3; have HM3 := Lib.hid hm3; have HU3 := Lib.hid (HU2.out.trans hu3 (by simp; omega))
        have lt2 := HR2.out.lt
        have HV3 : Hid (∀ j, v3.ownBlock = some j → j ≠ b ∧ j ≠ rb) := Lib.hid (fun j hj => by have := hv3 j hj; omega)
        have hx3 : w3.cell? ⟨wr.heap.size, 1, none⟩ = some (.int .i64 n) := (World.cell?_of_block (hu3.block wr.heap.size (World.block_lt_of_cell? _ _ Hx2.out) (by simp; omega))).trans Hx2.out
        have hA3 := HA2.out.upd hu3 (fun j hj => by have h9 : (wr.alloc (.cells #[.int .i64 op, .int .i64 n, .slice A bs.length c] 37)).heap.size ≤ j := HVG.out j hj; rw [World.size_alloc] at h9; simp; omega)
        have Hx3 := Lib.hid hx3; have HA3 := Lib.hid hA3; have HB3 := Lib.hid hvb
        clear hr3 hm3 hu3 hv3 hx3 hA3 hvb hvbg
        go_wp2_with fail
        refine ⟨fun W => (W.cell? ⟨wr.heap.size, 1, none⟩ = some (.int .i64 n) ∧ (convert 28 9 va).run Try.prog W = .ok (.string ⟨(q.take n2).toArray⟩) W) ∧ (convert 28 9 vb).run Try.prog W = .ok (.string ⟨(q.take n2).toArray⟩) W, fun _ h => h.1, ⟨⟨Hx3.out, HA3.out.str (P := Try.prog) 28 9 5 Try.underlying28 Try.underlying5 Try.underlying9⟩, HB3.out.str (P := Try.prog) 28 9 5 Try.underlying28 Try.underlying5 Try.underlying9⟩, ?_⟩
        obtain ⟨q3, hq3⟩ : ∃ q3 : List UInt8, q3 = q.drop n2 := ⟨_, rfl⟩
        rw [← hq3] at HR3 HM3
        clear hq3
        repeat
          (first
            | (apply proc_held
               case ho => simp only [List.getElem?_toArray, List.getElem?_cons_succ, List.getElem?_cons_zero]; rfl
               case hg => rfl
               case hv => intro W hW; (try dsimp only at hW); go_simp; rfl
               case ha => go_simp; rfl)
            | (apply proc_held_on
               case ho => simp only [List.getElem?_toArray, List.getElem?_cons_succ, List.getElem?_cons_zero]; rfl
               case hg => rfl
               case hv => intro W hW; (try dsimp only at hW); go_simp; rfl
               case ha => go_simp; rfl))
        refine proc_nil ?_
        go_wp2_with fail
        obtain ⟨A3, c3, rfl, hc3, hb3⟩ := HM3.out.by_
        have k1 : w3.cell? ⟨m, 1, none⟩ = some (.slice A3 q3.length c3) := cell_of (i := 1) HM3.out.hb rfl
        have k0 : w3.cell? ⟨m, 0, none⟩ = some (.int .i64 (S : Int)) := cell_of (i := 0) HM3.out.hb rfl
        have ks := (show BytesV w3.drew (.slice A3 q3.length c3) q3 from ⟨A3, c3, rfl, hc3, hb3⟩).str (P := Try.prog) 28 9 5 Try.underlying28 Try.underlying5 Try.underlying9
        have q3S := HR3.out.le
        clear hc3 hb3
        go_wp2_with fail
        refine wp_region_proc [(0, 0), (1, 0), (2, 0), (3, 0), (6, 0), (7, 0), (8, 0), (9, 0), (10, 0), (4, 1), (5, 0), (11, 0), (12, 0), (13, 0), (14, 0), (16, 0), (17, 0), (18, 0), (19, 0), (20, 0), (15, 1), (21, 0), (22, 0), (23, 0), (24, 0), (26, 0), (27, 0), (28, 0), (29, 0), (30, 0), (31, 0), (32, 0), (33, 0), (34, 0), (35, 0), (25, 1), (36, 0), (37, 0)] (fun W => W.cell? ⟨m, 1, none⟩ = some (.slice A3 q3.length c3) ∧ W.cell? ⟨m, 0, none⟩ = some (.int .i64 (S : Int)) ∧ (convert 28 9 (.slice A3 q3.length c3)).run Try.prog W = .ok (.string ⟨q3.toArray⟩) W) (by kernel_rfl) (by kernel_rfl) (fun c a w t v h => by cases t <;> exact h) ⟨k1, k0, ks⟩ ?_
        clear k1 k0 ks
        apply proc_held
        case ho => simp only [List.getElem?_toArray, List.getElem?_cons_succ, List.getElem?_cons_zero]; rfl
        case hg => rfl
        case hv => intro W hW; (try dsimp only at hW); go_simp; rfl
        case ha => go_simp; rfl
        repeat
          (first
            | (apply proc_held
               case ho => simp only [List.getElem?_toArray, List.getElem?_cons_succ, List.getElem?_cons_zero]; rfl
               case hg => rfl
               case hv => intro W hW; (try dsimp only at hW); go_simp; rfl
               case ha => go_simp; rfl)
            | (apply proc_held_on
               case ho => simp only [List.getElem?_toArray, List.getElem?_cons_succ, List.getElem?_cons_zero]; rfl
               case hg => rfl
               case hv => intro W hW; (try dsimp only at hW); go_simp; rfl
               case ha => go_simp; rfl))
        apply proc_eff
        case ho => simp only [List.getElem?_toArray, List.getElem?_cons_succ, List.getElem?_cons_zero]; rfl
        simp only [World.drew_eq]
        go_wp2_with fail
        refine (Ring_peek (HR3.out.drewN 1)).mono ?_
        rintro e w4 ⟨vp, rfl, hvp, hu4⟩
        have HR4 := Lib.hid ((HR3.out.drewN 1).upd hu4 (by simp) (by simp))
        have HM4 := Lib.hid (HM3.out.upd (F := []) ((Upd.refl _ _).drew.trans hu4 (by simp)) (by simp) (by simp))
        have HU4 := Lib.hid ((HU3.out.drew).trans hu4 (by simp))
        have k1 : w4.cell? ⟨m, 1, none⟩ = some (.slice A3 q3.length c3) := cell_of (i := 1) HM4.out.hb rfl
        have k0 : w4.cell? ⟨m, 0, none⟩ = some (.int .i64 (S : Int)) := cell_of (i := 0) HM4.out.hb rfl
        have ks := HM4.out.by_.str (P := Try.prog) 28 9 5 Try.underlying28 Try.underlying5 Try.underlying9
        have kp := (bytes_of_own hvp).str (P := Try.prog) 28 9 5 Try.underlying28 Try.underlying5 Try.underlying9
        go_wp2_with fail
        refine ⟨fun W => (W.cell? ⟨m, 1, none⟩ = some (.slice A3 q3.length c3) ∧ W.cell? ⟨m, 0, none⟩ = some (.int .i64 (S : Int)) ∧ (convert 28 9 (.slice A3 q3.length c3)).run Try.prog W = .ok (.string ⟨q3.toArray⟩) W) ∧ (convert 28 9 vp).run Try.prog W = .ok (.string ⟨q3.toArray⟩) W, fun _ h => h.1, ⟨⟨k1, k0, ks⟩, kp⟩, ?_⟩
        have HP := Lib.hid (bytes_of_own hvp)
        have sw : IntKind.i64.wrap ((S : Int) - (q3.length : Int)) = (S : Int) - (q3.length : Int) := IntWalk.i64_in _ (by omega)
        clear k1 k0 ks kp hu4 hvp
        repeat
          (first
            | (apply proc_held
               case ho => simp only [List.getElem?_toArray, List.getElem?_cons_succ, List.getElem?_cons_zero]; rfl
               case hg => rfl
               case hv => intro W hW; (try dsimp only at hW); go_simp; rfl
               case ha => go_simp; rfl)
            | (apply proc_held_on
               case ho => simp only [List.getElem?_toArray, List.getElem?_cons_succ, List.getElem?_cons_zero]; rfl
               case hg => rfl
               case hv => intro W hW; (try dsimp only at hW); go_simp; rfl
               case ha => go_simp; rfl))
        apply proc_eff
        case ho => simp only [List.getElem?_toArray, List.getElem?_cons_succ, List.getElem?_cons_zero]; rfl
        go_wp2_with fail
        refine (Ring_len HR4.out).mono ?_
        rintro e w5 ⟨rfl, rfl⟩
        go_wp2_with fail
        refine ⟨_, fun _ h => h, ⟨⟨cell_of (i := 1) HM4.out.hb rfl, cell_of (i := 0) HM4.out.hb rfl, HM4.out.by_.str (P := Try.prog) 28 9 5 Try.underlying28 Try.underlying5 Try.underlying9⟩, HP.out.str (P := Try.prog) 28 9 5 Try.underlying28 Try.underlying5 Try.underlying9⟩, ?_⟩
        repeat
          (first
            | (apply proc_held
               case ho => simp only [List.getElem?_toArray, List.getElem?_cons_succ, List.getElem?_cons_zero]; rfl
               case hg => rfl
               case hv => intro W hW; (try dsimp only at hW); go_simp; rfl
               case ha => go_simp; rfl)
            | (apply proc_held_on
               case ho => simp only [List.getElem?_toArray, List.getElem?_cons_succ, List.getElem?_cons_zero]; rfl
               case hg => rfl
               case hv => intro W hW; (try dsimp only at hW); go_simp; rfl
               case ha => go_simp; rfl))
        apply proc_eff
        case ho => simp only [List.getElem?_toArray, List.getElem?_cons_succ, List.getElem?_cons_zero]; rfl
        go_wp2_with fail
        refine (Ring_room HR4.out).mono ?_
        rintro e w5 ⟨rfl, j5, rfl⟩
        go_wp2_with fail
        refine ⟨_, fun _ h => h, ⟨⟨cell_of (w := w4.drewN j5) (i := 1) HM4.out.hb rfl, cell_of (w := w4.drewN j5) (i := 0) HM4.out.hb rfl, (HM4.out.by_.drewN j5).str (P := Try.prog) 28 9 5 Try.underlying28 Try.underlying5 Try.underlying9⟩, (HP.out.drewN j5).str (P := Try.prog) 28 9 5 Try.underlying28 Try.underlying5 Try.underlying9⟩, ?_⟩
        repeat
          (first
            | (apply proc_held
               case ho => simp only [List.getElem?_toArray, List.getElem?_cons_succ, List.getElem?_cons_zero]; rfl
               case hg => rfl
               case hv => intro W hW; (try dsimp only at hW); go_simp; rfl
               case ha => go_simp; rfl)
            | (apply proc_held_on
               case ho => simp only [List.getElem?_toArray, List.getElem?_cons_succ, List.getElem?_cons_zero]; rfl
               case hg => rfl
               case hv => intro W hW; (try dsimp only at hW); go_simp; rfl
               case ha => go_simp; rfl))
        refine proc_nil ?_
        go_wp2
        exact ⟨⟨k + 1, q3, _, by omega, by go_num, HR4.out.drewN _, HM4.out.drewN _, HV3.out, HU4.out.drewN _⟩, by simp [intOf]; omega⟩
      · go_wp2_with fail
        refine (Ring_clear HR0.out).mono ?_
        rintro e w2 ⟨rfl, hr2, hu2⟩
        have hm2 := HM0.out.upd hu2 (by simp; omega) (fun j hj => by have := HV.out j hj; simp; omega)
        have HR2 := Lib.hid hr2; have HM2 := Lib.hid hm2; have HU2 := Lib.hid (((HU.out.alloc _).trans hu2 (by simp; omega)))
        clear hr2 hm2 hu2
        go_wp2_with fail
        refine (rring_clear _ m S _ q HM2.out).mono ?_
        rintro e w3 ⟨rfl, hm3, hu3⟩
        have hr3 := HR2.out.upd hu3 (by simp; omega) (by simp; omega)
        have HR3 := Lib.hid hr3; have HM3 := Lib.hid hm3; have HU3 := Lib.hid (HU2.out.trans hu3 (by simp; omega))
        have HV3 : Hid (∀ j, (Value.slice none 0 0).ownBlock = some j → j ≠ b ∧ j ≠ rb) := Lib.hid (by simp [Value.ownBlock])
        clear hr3 hm3 hu3
        obtain ⟨q3, hq3⟩ : ∃ q3 : List UInt8, q3 = [] := ⟨_, rfl⟩
        rw [← hq3] at HR3 HM3
        clear hq3
        generalize Value.slice none 0 0 = v3 at HM3 HV3
        obtain ⟨A3, c3, rfl, hc3, hb3⟩ := HM3.out.by_
        have k1 : w3.cell? ⟨m, 1, none⟩ = some (.slice A3 q3.length c3) := cell_of (i := 1) HM3.out.hb rfl
        have k0 : w3.cell? ⟨m, 0, none⟩ = some (.int .i64 (S : Int)) := cell_of (i := 0) HM3.out.hb rfl
        have ks := (show BytesV w3.drew (.slice A3 q3.length c3) q3 from ⟨A3, c3, rfl, hc3, hb3⟩).str (P := Try.prog) 28 9 5 Try.underlying28 Try.underlying5 Try.underlying9
        have q3S := HR3.out.le
        clear hc3 hb3
        go_wp2_with fail
        refine wp_region_proc [(0, 0), (1, 0), (2, 0), (3, 0), (6, 0), (7, 0), (8, 0), (9, 0), (10, 0), (4, 1), (5, 0), (11, 0), (12, 0), (13, 0), (14, 0), (16, 0), (17, 0), (18, 0), (19, 0), (20, 0), (15, 1), (21, 0), (22, 0), (23, 0), (24, 0), (26, 0), (27, 0), (28, 0), (29, 0), (30, 0), (31, 0), (32, 0), (33, 0), (34, 0), (35, 0), (25, 1), (36, 0), (37, 0)] (fun W => W.cell? ⟨m, 1, none⟩ = some (.slice A3 q3.length c3) ∧ W.cell? ⟨m, 0, none⟩ = some (.int .i64 (S : Int)) ∧ (convert 28 9 (.slice A3 q3.length c3)).run Try.prog W = .ok (.string ⟨q3.toArray⟩) W) (by kernel_rfl) (by kernel_rfl) (fun c a w t v h => by cases t <;> exact h) ⟨k1, k0, ks⟩ ?_
        clear k1 k0 ks
        apply proc_held
        case ho => simp only [List.getElem?_toArray, List.getElem?_cons_succ, List.getElem?_cons_zero]; rfl
        case hg => rfl
        case hv => intro W hW; (try dsimp only at hW); go_simp; rfl
        case ha => go_simp; rfl
        repeat
          (first
            | (apply proc_held
               case ho => simp only [List.getElem?_toArray, List.getElem?_cons_succ, List.getElem?_cons_zero]; rfl
               case hg => rfl
               case hv => intro W hW; (try dsimp only at hW); go_simp; rfl
               case ha => go_simp; rfl)
            | (apply proc_held_on
               case ho => simp only [List.getElem?_toArray, List.getElem?_cons_succ, List.getElem?_cons_zero]; rfl
               case hg => rfl
               case hv => intro W hW; (try dsimp only at hW); go_simp; rfl
               case ha => go_simp; rfl))
        apply proc_eff
        case ho => simp only [List.getElem?_toArray, List.getElem?_cons_succ, List.getElem?_cons_zero]; rfl
        simp only [World.drew_eq]
        go_wp2_with fail
        refine (Ring_peek (HR3.out.drewN 1)).mono ?_
        rintro e w4 ⟨vp, rfl, hvp, hu4⟩
        have HR4 := Lib.hid ((HR3.out.drewN 1).upd hu4 (by simp) (by simp))
        have HM4 := Lib.hid (HM3.out.upd (F := []) ((Upd.refl _ _).drew.trans hu4 (by simp)) (by simp) (by simp))
        have HU4 := Lib.hid ((HU3.out.drew).trans hu4 (by simp))
        have k1 : w4.cell? ⟨m, 1, none⟩ = some (.slice A3 q3.length c3) := cell_of (i := 1) HM4.out.hb rfl
        have k0 : w4.cell? ⟨m, 0, none⟩ = some (.int .i64 (S : Int)) := cell_of (i := 0) HM4.out.hb rfl
        have ks := HM4.out.by_.str (P := Try.prog) 28 9 5 Try.underlying28 Try.underlying5 Try.underlying9
        have kp := (bytes_of_own hvp).str (P := Try.prog) 28 9 5 Try.underlying28 Try.underlying5 Try.underlying9
        go_wp2_with fail
        refine ⟨fun W => (W.cell? ⟨m, 1, none⟩ = some (.slice A3 q3.length c3) ∧ W.cell? ⟨m, 0, none⟩ = some (.int .i64 (S : Int)) ∧ (convert 28 9 (.slice A3 q3.length c3)).run Try.prog W = .ok (.string ⟨q3.toArray⟩) W) ∧ (convert 28 9 vp).run Try.prog W = .ok (.string ⟨q3.toArray⟩) W, fun _ h => h.1, ⟨⟨k1, k0, ks⟩, kp⟩, ?_⟩
        have HP := Lib.hid (bytes_of_own hvp)
        have sw : IntKind.i64.wrap ((S : Int) - (q3.length : Int)) = (S : Int) - (q3.length : Int) := IntWalk.i64_in _ (by omega)
        clear k1 k0 ks kp hu4 hvp
        repeat
          (first
            | (apply proc_held
               case ho => simp only [List.getElem?_toArray, List.getElem?_cons_succ, List.getElem?_cons_zero]; rfl
               case hg => rfl
               case hv => intro W hW; (try dsimp only at hW); go_simp; rfl
               case ha => go_simp; rfl)
            | (apply proc_held_on
               case ho => simp only [List.getElem?_toArray, List.getElem?_cons_succ, List.getElem?_cons_zero]; rfl
               case hg => rfl
               case hv => intro W hW; (try dsimp only at hW); go_simp; rfl
               case ha => go_simp; rfl))
        apply proc_eff
        case ho => simp only [List.getElem?_toArray, List.getElem?_cons_succ, List.getElem?_cons_zero]; rfl
        go_wp2_with fail
        refine (Ring_len HR4.out).mono ?_
        rintro e w5 ⟨rfl, rfl⟩
        go_wp2_with fail
        refine ⟨_, fun _ h => h, ⟨⟨cell_of (i := 1) HM4.out.hb rfl, cell_of (i := 0) HM4.out.hb rfl, HM4.out.by_.str (P := Try.prog) 28 9 5 Try.underlying28 Try.underlying5 Try.underlying9⟩, HP.out.str (P := Try.prog) 28 9 5 Try.underlying28 Try.underlying5 Try.underlying9⟩, ?_⟩
        repeat
          (first
            | (apply proc_held
               case ho => simp only [List.getElem?_toArray, List.getElem?_cons_succ, List.getElem?_cons_zero]; rfl
               case hg => rfl
               case hv => intro W hW; (try dsimp only at hW); go_simp; rfl
               case ha => go_simp; rfl)
            | (apply proc_held_on
               case ho => simp only [List.getElem?_toArray, List.getElem?_cons_succ, List.getElem?_cons_zero]; rfl
               case hg => rfl
               case hv => intro W hW; (try dsimp only at hW); go_simp; rfl
               case ha => go_simp; rfl))
        apply proc_eff
        case ho => simp only [List.getElem?_toArray, List.getElem?_cons_succ, List.getElem?_cons_zero]; rfl
        go_wp2_with fail
        refine (Ring_room HR4.out).mono ?_
        rintro e w5 ⟨rfl, j5, rfl⟩
        go_wp2_with fail
        refine ⟨_, fun _ h => h, ⟨⟨cell_of (w := w4.drewN j5) (i := 1) HM4.out.hb rfl, cell_of (w := w4.drewN j5) (i := 0) HM4.out.hb rfl, (HM4.out.by_.drewN j5).str (P := Try.prog) 28 9 5 Try.underlying28 Try.underlying5 Try.underlying9⟩, (HP.out.drewN j5).str (P := Try.prog) 28 9 5 Try.underlying28 Try.underlying5 Try.underlying9⟩, ?_⟩
        repeat
          (first
            | (apply proc_held
               case ho => simp only [List.getElem?_toArray, List.getElem?_cons_succ, List.getElem?_cons_zero]; rfl
               case hg => rfl
               case hv => intro W hW; (try dsimp only at hW); go_simp; rfl
               case ha => go_simp; rfl)
            | (apply proc_held_on
               case ho => simp only [List.getElem?_toArray, List.getElem?_cons_succ, List.getElem?_cons_zero]; rfl
               case hg => rfl
               case hv => intro W hW; (try dsimp only at hW); go_simp; rfl
               case ha => go_simp; rfl))
        refine proc_nil ?_
        go_wp2
        exact ⟨⟨k + 1, q3, _, by omega, by go_num, HR4.out.drewN _, HM4.out.drewN _, HV3.out, HU4.out.drewN _⟩, by simp [intOf]; omega⟩
    · obtain rfl : k = ls.length := by omega
      have HU := Lib.hid hu
      clear hr hm hv hu
      go_wp2_with (go_at_call 14; refine (awake10 _).mono ?_; rintro e w' ⟨rfl, hu⟩)
      go_ret
      exact ⟨rfl, (HU.out.trans hu (by simp)).below (by simp)⟩
end Go.Proofs.Ytmcbllpkgeihgaa
