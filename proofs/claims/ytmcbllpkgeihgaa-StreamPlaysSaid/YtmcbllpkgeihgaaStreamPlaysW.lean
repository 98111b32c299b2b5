-- The walk of the law StreamPlays.
import Derived.Test.YtmcbllpkgeihgaaStreamAwake
import Derived.Test.YtmcbllpkgeihgaaStreamStop
import Derived.Test.YtmcbllpkgeihgaaRefStream
import Derived.Test.YtmcbllpkgeihgaaLow
import Derived.Test.YtmcbllpkgeihgaaOpen
import Derived.Deep.CutBlock
namespace Go.Proofs.Ytmcbllpkgeihgaa
open Go.RowKit Go.Lk
set_option linter.unusedVariables false
set_option linter.unusedSimpArgs false
/-- A deed: three cells. -/
def SDeedR (w : World) (cs : List Value) (x : Int × Int × List UInt8) : Prop := ∃ v, cs = [.int .i64 x.1, .int .i64 x.2.1, v] ∧ (Lit.int .i64 x.2.1).wf = true ∧ BytesV w v x.2.2
/-- The stream and its reference, alike. -/
structure SP (w0 wr : World) (sb b rb m H L : Nat) (st : Int) (p : Bool) (once : Int) (q : List UInt8) (v : Value) : Prop where
  s : Strm wr sb b rb H L st p once q
  m : RStrm wr m H L st p v q
  o : (once = 0 ∧ st ≠ 3) ∨ (once = 1 ∧ st = 3)
  f : ∀ j, v.ownBlock = some j → j ≠ sb ∧ j ≠ b ∧ j ≠ rb
  u : Upd [] w0 wr
theorem SP.upd0 {w0 wr w' : World} {sb b rb m H L : Nat} {st : Int} {p : Bool} {once : Int} {q : List UInt8} {v : Value} (h : SP w0 wr sb b rb m H L st p once q v) (hu : Upd [] wr w') : SP w0 w' sb b rb m H L st p once q v :=
  ⟨h.s.upd hu (by simp) (by simp) (by simp), h.m.upd hu (by simp) (by simp), h.o, h.f, h.u.trans hu (by simp)⟩
set_option maxHeartbeats 3200000 in
set_option maxRecDepth 100000 in
theorem walk_StreamPlays (w : World) (high : Int) (wh : (Lit.int .i64 high).wf = true) (lowi : Int) (wl : (Lit.int .i64 lowi).wf = true) (vl : Value) (ls : List (Int × Int × List UInt8)) (hl : SliceR w 3 (SDeedR w) vl ls) :
    Calls Try.prog 12 #[.int .i64 high, .int .i64 lowi, vl] w fun e w' => e = .returned (.bool true) ∧ Below w.heap.size w w' := by
  obtain ⟨Al, cl, rfl, _⟩ := hl.form
  by_cases hc : 100 < ls.length
  · go_enter Try.func12, Try.ntmps12
    go_wp2_with (go_at_call 32; refine (awake11 _).mono ?_; rintro e w' ⟨rfl, hu⟩)
    go_ret
    exact ⟨rfl, hu.below (by simp)⟩
  obtain ⟨H, hH⟩ : ∃ H, H = (max 1 (min high 1024)).toNat := ⟨_, rfl⟩
  obtain ⟨L, hL⟩ : ∃ L, L = (max 0 (min lowi (H - 1))).toNat := ⟨_, rfl⟩
  have HH := Lib.hid hH; have HL := Lib.hid hL; have WH := Lib.hid wh; have WL := Lib.hid wl; clear hH hL wh wl
  go_enter Try.func12, Try.ntmps12
  go_wp2_with fail
  refine (strm_new _ high lowi H L HH.out HL.out).mono ?_
  rintro e w1 ⟨sb, b, rb, rfl, hs1, hu1, g1, g2, g3⟩
  have S1 := Lib.hid hs1; have U1 := Lib.hid hu1; clear hs1 hu1
  go_wp2_with fail
  refine (rstrm_new _ high lowi H L HH.out HL.out WH.out WL.out).mono ?_
  rintro e w2 ⟨m, rfl, hm2, hu2, g4⟩
  have hne : m ≠ sb ∧ m ≠ b ∧ m ≠ rb ∧ w.heap.size ≤ m := by
    have := U1.out.size; have := lt_of_block S1.out.hb; have := S1.out.ring.lt; omega
  have P2 : Hid (SP w w2 sb b rb m H L 1 false 0 [] (.slice none 0 0)) := Lib.hid ⟨S1.out.upd hu2 (by simp) (by simp) (by simp), hm2, .inl ⟨rfl, by omega⟩, fun j hj => by simp [Value.ownBlock] at hj, U1.out.trans hu2 (by simp)⟩
  clear S1 U1 hm2 hu2 g4
  go_wp2_with fail
  go_loopw [9] (fun v9 wr => ∃ (k : Nat) (st : Int) (p : Bool) (once : Int) (q : List UInt8) (v : Value), k ≤ ls.length ∧ v9 = .int .i64 k ∧ SP w wr sb b rb m H L st p once q v) (fun v9 _ => ls.length - (intOf v9).toNat)
  case atStart => exact ⟨0, 1, false, 0, [], _, by omega, rfl, P2.out⟩
  case round =>
    obtain ⟨k, st, p, once, q, v, hk, rfl, hp⟩ := hrel
    have HP := Lib.hid hp; clear hp P2
    by_cases hlt : k < ls.length
    · obtain ⟨A', c', e1, _, hp⟩ := hl
      injection e1 with e1 _ e2
      subst e1 e2
      obtain ⟨ab, ao, rfl, cs, hcs, hcell, x2, rfl, hnw, hby⟩ := hp k ls[k] (by simp [hlt])
      generalize ls[k] = xk at *
      obtain ⟨op, n, bs⟩ := xk
      obtain ⟨A, c, rfl, hbc, hby⟩ := hby
      try dsimp only at hcell hby hbc hnw
      have hc0 := hcell 0 _ rfl
      have hc1 := hcell 1 _ rfl
      have hc2 := hcell 2 _ rfl
      have hu := HP.out.u
      have g0 : wr.cell? ⟨ab, ao + k * 3, none⟩ = some (.int .i64 op) := (World.cell?_of_block (hu.block ab (World.block_lt_of_cell? _ _ hc0) (by simp))).trans hc0
      have g1' : wr.cell? ⟨ab, ao + k * 3 + 1, none⟩ = some (.int .i64 n) := (World.cell?_of_block (hu.block ab (World.block_lt_of_cell? _ _ hc1) (by simp))).trans (by rw [Nat.add_assoc]; exact hc1)
      have g2' : wr.cell? ⟨ab, ao + k * 3 + 2, none⟩ = some (.slice A bs.length c) := (World.cell?_of_block (hu.block ab (World.block_lt_of_cell? _ _ hc2) (by simp))).trans (by rw [Nat.add_assoc]; exact hc2)
      have HB := Lib.hid hby; have HN := Lib.hid hnw
      clear hu hby hc0 hc1 hc2 hcell hp hnw
      by_cases h100 : 100 < bs.length
      · go_wp2_with (go_at_call 32; refine (awake11 _).mono ?_; rintro e w' ⟨rfl, hu⟩)
        go_ret
        exact ⟨rfl, ((HP.out.u.alloc _).trans hu (by simp)).below (by simp)⟩
      go_wp2_with fail
      refine (Low_any op 5 (by omega) (by omega) _).mono ?_
      rintro e w' ⟨rfl, rfl⟩
      have hd := low_lt op 5 (by omega)
      generalize low op 5 = d at *
      have hxs : Hid (∃ x, x = wr.heap.size ∧ (wr.alloc (.cells #[.int .i64 op, .int .i64 n, .slice A bs.length c] 60)).heap[x]? = some (.cells #[.int .i64 op, .int .i64 n, .slice A bs.length c] 60 (0, 0))) := Lib.hid ⟨_, rfl, heap_alloc_self _⟩
      have HP0 : Hid (SP w (wr.alloc (.cells #[.int .i64 op, .int .i64 n, .slice A bs.length c] 60)) sb b rb m H L st p once q v) := Lib.hid (HP.out.upd0 ((Upd.refl [] wr).alloc _))
      have HB0 : Hid (BytesAt (wr.alloc (.cells #[.int .i64 op, .int .i64 n, .slice A bs.length c] 60)) A bs) := Lib.hid (HB.out.upd0 (HP0.out.u))
      have hlts := lt_of_block HP.out.s.hb
      have hltr := HP.out.s.ring.lt
      have hltm := lt_of_block HP.out.m.hb
      have hvw : Hid (∀ j, v.ownBlock = some j → j ≠ m) := Lib.hid HP.out.m.ne
      obtain ⟨x, hx, hxb⟩ := hxs.out
      rw [← hx] 
      generalize wr.alloc (.cells #[.int .i64 op, .int .i64 n, .slice A bs.length c] 60) = wx at *
      have hxne : x ≠ sb ∧ x ≠ b ∧ x ≠ rb ∧ x ≠ m := by omega
      have HXB := Lib.hid hxb; have HX := Lib.hid hx
      have HBL : Hid (∀ ab ao, bs ≠ [] → A = some ⟨ab, ao, none⟩ → ab ≠ sb ∧ ab ≠ b ∧ ab ≠ rb ∧ ab ≠ m) := Lib.hid (fun ab ao h0 e => by have := HB.out.lt h0 ab ao e; omega)
      clear hxb hx hxs HP HB hlts hltr hltm g0 g1' g2'
      have hlts := lt_of_block HP0.out.s.hb
      have hltr := HP0.out.s.ring.lt
      have hltm := lt_of_block HP0.out.m.hb
      have hltx := lt_of_block HXB.out
      have hqle := HP0.out.s.ring.le
      have hH2 := HP0.out.s.h2
      go_upto_block 2 with fail
      go_cut [11] from 24 to 115 (fun v11 wz => v11 = .bool true ∧ ∃ (st : Int) (p : Bool) (once : Int) (q : List UInt8) (v : Value), SP w wz sb b rb m H L st p once q v)
      case first =>
        rcases (show (d = 0 ∨ d = 1) ∨ d = 2 ∨ d = 3 ∨ d = 4 by omega) with hd01 | rfl | rfl | rfl
        · by_cases hy : st = 1 ∧ 1 ≤ bs.length ∧ bs.length ≤ 64 ∧ p = false
          · obtain ⟨rfl, hy1, hy2, rfl⟩ := hy
            obtain rfl : once = 0 := by rcases HP0.out.o with h | h <;> omega
            rcases hd01 with rfl | rfl
            all_goals (
              go_wp2_with fail
              refine wp_region_proc [(0, 0), (1, 0), (2, 0), (4, 0), (5, 0), (6, 0), (3, 1), (7, 2), (8, 0), (9, 0)] (fun W => W.cell? ⟨x, 2, none⟩ = some (.slice A bs.length c)) (by kernel_rfl) (by kernel_rfl) (fun c a w t v h => by cases t <;> exact h) (cell_of (i := 2) HXB.out rfl) ?_
              repeat
                (first
                  | (apply proc_held
                     case ho => simp only [List.getElem?_toArray, List.getElem?_cons_succ, List.getElem?_cons_zero]; rfl
                     case hg => rfl
                     case hv => intro W hW; (try dsimp only at hW); go_simp; rfl
                     case ha => go_simp; rfl)
                  | (apply proc_held_on
                     case ho => simp only [List.getElem?_toArray, List.getElem?_cons_succ, List.getElem?_cons_zero]; rfl
                     case hg => rfl
                     case hv => intro W hW; (try dsimp only at hW); go_simp; rfl
                     case ha => go_simp; rfl)
                  | (apply proc_off
                     case ho => simp only [List.getElem?_toArray, List.getElem?_cons_succ, List.getElem?_cons_zero]; rfl
                     case hg => rfl
                     case ha => go_simp; rfl))
              apply proc_eff
              case ho => simp only [List.getElem?_toArray, List.getElem?_cons_succ, List.getElem?_cons_zero]; rfl
              simp only [World.drew_eq]
              go_wp2_with fail
              refine (strm_chunk (HP0.out.s.drewN 1) A bs c hy1 hy2 (HB0.out.upd0 ((Upd.refl [] _).drewN 1)) (fun ab ao h0 e => (HBL.out ab ao h0 e).2.2.1)).mono ?_
              rintro e w2 ⟨rfl, hs2, hu2⟩
              have hm2 := (HP0.out.m.drewN 1).upd hu2 (by simp; omega) (fun j hj => by have := HP0.out.f j hj; simp; omega)
              have HS2 := Lib.hid hs2; have HM2 := Lib.hid hm2
              have HU2 := Lib.hid ((HP0.out.u.drewN 1).trans hu2 (by simp; omega))
              have hB2 : BytesAt w2 A bs := by
                by_cases h0 : bs = []
                · subst h0; exact BytesAt.nil _ _
                · exact (HB0.out.upd0 ((Upd.refl [] _).drewN 1)).upd hu2 (fun ab ao e => by have := HBL.out ab ao h0 e; simp; omega)
              have HB2 := Lib.hid hB2
              have hx2 : w2.cell? ⟨x, 2, none⟩ = some (.slice A bs.length c) := cell_of (i := 2) ((hu2.block x hltx (by simp; omega)).trans HXB.out) rfl
              clear hs2 hm2 hu2 hB2
              go_wp2_with fail
              refine ⟨_, fun _ h => h, hx2, ?_⟩
              apply proc_last
              case ho => simp only [List.getElem?_toArray, List.getElem?_cons_succ, List.getElem?_cons_zero]; rfl
              go_wp2_with fail
              refine (rstrm_chunk HM2.out (by omega) (by omega) A bs c hy1 hy2 hbc HB2.out _ rfl).mono ?_
              rintro e w3 ⟨rfl, ⟨v3, hm3, hv3⟩, hu3⟩
              have l1 := lt_of_block HS2.out.hb
              have l2 := HS2.out.ring.lt
              have HP3 : Hid (SP w w3 sb b rb m H L 1 (decide (H ≤ q.length + bs.length)) 0 (q ++ bs) v3) := Lib.hid ⟨HS2.out.upd hu3 (by simp; omega) (by simp; omega) (by simp; omega), hm3, .inl ⟨rfl, by omega⟩, fun j hj => by have := hv3 j hj; omega, HU2.out.trans hu3 (by simp; omega)⟩
              clear hm3 hu3 hv3 HS2 HM2 HU2 HB2 hx2
              go_wp2_with fail
              refine ⟨fun _ => True, trivial, ?_⟩
              repeat
                (first
                  | (apply proc_held
                     case ho => simp only [List.getElem?_toArray, List.getElem?_cons_succ, List.getElem?_cons_zero]; rfl
                     case hg => rfl
                     case hv => intro W hW; (try dsimp only at hW); go_simp; rfl
                     case ha => go_simp; rfl)
                  | (apply proc_held_on
                     case ho => simp only [List.getElem?_toArray, List.getElem?_cons_succ, List.getElem?_cons_zero]; rfl
                     case hg => rfl
                     case hv => intro W hW; (try dsimp only at hW); go_simp; rfl
                     case ha => go_simp; rfl)
                  | (apply proc_off
                     case ho => simp only [List.getElem?_toArray, List.getElem?_cons_succ, List.getElem?_cons_zero]; rfl
                     case hg => rfl
                     case ha => go_simp; rfl))
              refine proc_nil ?_
              go_wp2_with fail
              go_meet
              case rel => exact ⟨by simp, _, _, _, _, _, HP3.out⟩)
          · have hno : st ≠ 1 ∨ bs.length = 0 ∨ 64 < bs.length ∨ p = true := by
              by_cases h1 : st = 1
              · by_cases h2 : p = true
                · exact .inr (.inr (.inr h2))
                · have h3 : p = false := by simpa using h2
                  by_cases h4 : bs.length = 0
                  · exact .inr (.inl h4)
                  · exact .inr (.inr (.inl (by
                      have : ¬ bs.length ≤ 64 := fun h => hy ⟨h1, by omega, h, h3⟩
                      omega)))
              · exact .inl h1
            clear hy
            have HNO := Lib.hid hno; clear hno
            rcases hd01 with rfl | rfl
            all_goals (
              go_wp2_with fail
              refine wp_region_proc [(0, 0), (1, 0), (2, 0), (4, 0), (5, 0), (6, 0), (3, 1), (7, 2), (8, 0), (9, 0)] (fun W => W.cell? ⟨x, 2, none⟩ = some (.slice A bs.length c)) (by kernel_rfl) (by kernel_rfl) (fun c a w t v h => by cases t <;> exact h) (cell_of (i := 2) HXB.out rfl) ?_
              repeat
                (first
                  | (apply proc_held
                     case ho => simp only [List.getElem?_toArray, List.getElem?_cons_succ, List.getElem?_cons_zero]; rfl
                     case hg => rfl
                     case hv => intro W hW; (try dsimp only at hW); go_simp; rfl
                     case ha => go_simp; rfl)
                  | (apply proc_held_on
                     case ho => simp only [List.getElem?_toArray, List.getElem?_cons_succ, List.getElem?_cons_zero]; rfl
                     case hg => rfl
                     case hv => intro W hW; (try dsimp only at hW); go_simp; rfl
                     case ha => go_simp; rfl)
                  | (apply proc_off
                     case ho => simp only [List.getElem?_toArray, List.getElem?_cons_succ, List.getElem?_cons_zero]; rfl
                     case hg => rfl
                     case ha => go_simp; rfl))
              apply proc_eff
              case ho => simp only [List.getElem?_toArray, List.getElem?_cons_succ, List.getElem?_cons_zero]; rfl
              simp only [World.drew_eq]
              go_wp2_with fail
              refine (strm_chunk_no (HP0.out.s.drewN 1) A bs.length c HNO.out (by omega)).mono ?_
              rintro e w2 ⟨rfl, rfl⟩
              obtain ⟨er, her⟩ : ∃ er : Int, er = (if st ≠ 1 then 12 else if bs.length = 0 ∨ 64 < bs.length then 4 else 10) := ⟨_, rfl⟩
              have HER := Lib.hid her
              rw [← her]
              clear her
              have hx2 : (wx.drewN 1).cell? ⟨x, 2, none⟩ = some (.slice A bs.length c) := cell_of (w := wx.drewN 1) (i := 2) HXB.out rfl
              go_wp2_with fail
              refine ⟨_, fun _ h => h, hx2, ?_⟩
              apply proc_last
              case ho => simp only [List.getElem?_toArray, List.getElem?_cons_succ, List.getElem?_cons_zero]; rfl
              go_wp2_with fail
              refine (rstrm_chunk_no (HP0.out.m.drewN 1) A bs.length c HNO.out (by omega)).mono ?_
              rintro e w3 ⟨rfl, rfl⟩
              rw [← HER.out]
              go_wp2_with fail
              refine ⟨fun _ => True, trivial, ?_⟩
              repeat
                (first
                  | (apply proc_held
                     case ho => simp only [List.getElem?_toArray, List.getElem?_cons_succ, List.getElem?_cons_zero]; rfl
                     case hg => rfl
                     case hv => intro W hW; (try dsimp only at hW); go_simp; rfl
                     case ha => go_simp; rfl)
                  | (apply proc_held_on
                     case ho => simp only [List.getElem?_toArray, List.getElem?_cons_succ, List.getElem?_cons_zero]; rfl
                     case hg => rfl
                     case hv => intro W hW; (try dsimp only at hW); go_simp; rfl
                     case ha => go_simp; rfl)
                  | (apply proc_off
                     case ho => simp only [List.getElem?_toArray, List.getElem?_cons_succ, List.getElem?_cons_zero]; rfl
                     case hg => rfl
                     case ha => go_simp; rfl))
              refine proc_nil ?_
              go_wp2_with fail
              go_meet
              case rel => exact ⟨by simp, _, _, _, _, _, HP0.out.upd0 ((Upd.refl [] _).drewN 1)⟩)
        · have hx1 : wx.cell? ⟨x, 1, none⟩ = some (.int .i64 n) := cell_of (i := 1) HXB.out rfl
          go_wp2_with fail
          refine wp_region_proc [(0, 0), (1, 0), (2, 0), (5, 0), (6, 0), (7, 0), (3, 1), (4, 0), (8, 1), (9, 0), (10, 0), (11, 0)] (fun W => W.cell? ⟨x, 1, none⟩ = some (.int .i64 n)) (by kernel_rfl) (by kernel_rfl) (fun c a w t v h => by cases t <;> exact h) hx1 ?_
          repeat
            (first
              | (apply proc_held
                 case ho => simp only [List.getElem?_toArray, List.getElem?_cons_succ, List.getElem?_cons_zero]; rfl
                 case hg => rfl
                 case hv => intro W hW; (try dsimp only at hW); go_simp; rfl
                 case ha => go_simp; rfl)
              | (apply proc_held_on
                 case ho => simp only [List.getElem?_toArray, List.getElem?_cons_succ, List.getElem?_cons_zero]; rfl
                 case hg => rfl
                 case hv => intro W hW; (try dsimp only at hW); go_simp; rfl
                 case ha => go_simp; rfl)
              | (apply proc_off
                 case ho => simp only [List.getElem?_toArray, List.getElem?_cons_succ, List.getElem?_cons_zero]; rfl
                 case hg => rfl
                 case ha => go_simp; rfl))
          apply proc_eff
          case ho => simp only [List.getElem?_toArray, List.getElem?_cons_succ, List.getElem?_cons_zero]; rfl
          simp only [World.drew_eq]
          go_wp2_with fail
          refine (strm_read (HP0.out.s.drewN 1) n).mono ?_
          rintro e w2 ⟨va, rfl, hva, hvg, hs2, hu2⟩
          obtain ⟨n2, hn2⟩ : ∃ n2, n2 = min n.toNat q.length := ⟨_, rfl⟩
          have htk : q.take n.toNat = q.take n2 := by rw [hn2]; rw [← List.take_eq_take_min]
          have hdr : q.drop n.toNat = q.drop n2 := by
            rw [hn2]
            rcases Nat.le_total n.toNat q.length with h | h
            · rw [Nat.min_eq_left h]
            · rw [Nat.min_eq_right h, List.drop_eq_nil_of_le (Nat.le_refl _), List.drop_eq_nil_of_le h]
          rw [htk] at hva
          rw [hdr] at hs2
          have hdl : (q.drop n2).length = q.length - n2 := List.length_drop
          rw [hdl] at hs2
          have hm2 := (HP0.out.m.drewN 1).upd hu2 (by simp; omega) (fun j hj => by have := HP0.out.f j hj; simp; omega)
          have HS2 := Lib.hid hs2; have HM2 := Lib.hid hm2; have HN2 := Lib.hid hn2; have HA2 := Lib.hid hva; have HG2 := Lib.hid hvg
          have HU2 := Lib.hid ((HP0.out.u.drewN 1).trans hu2 (by simp; omega))
          have hx2 : w2.cell? ⟨x, 1, none⟩ = some (.int .i64 n) := cell_of (i := 1) ((hu2.block x hltx (by simp; omega)).trans HXB.out) rfl
          have HX2 := Lib.hid hx2
          clear hs2 hm2 hu2 hn2 hva hvg htk hdr hdl hx2 hx1
          go_wp2_with fail
          refine ⟨fun W => W.cell? ⟨x, 1, none⟩ = some (.int .i64 n) ∧ (convert 28 9 va).run Try.prog W = .ok (.string ⟨(q.take n2).toArray⟩) W, fun _ h => h.1, ⟨HX2.out, HA2.out.str (P := Try.prog) 28 9 5 Try.underlying28 Try.underlying5 Try.underlying9⟩, ?_⟩
          repeat
            (first
              | (apply proc_held
                 case ho => simp only [List.getElem?_toArray, List.getElem?_cons_succ, List.getElem?_cons_zero]; rfl
                 case hg => rfl
                 case hv => intro W hW; (try dsimp only at hW); go_simp; rfl
                 case ha => go_simp; rfl)
              | (apply proc_held_on
                 case ho => simp only [List.getElem?_toArray, List.getElem?_cons_succ, List.getElem?_cons_zero]; rfl
                 case hg => rfl
                 case hv => intro W hW; (try dsimp only at hW); go_simp; rfl
                 case ha => go_simp; rfl)
              | (apply proc_off
                 case ho => simp only [List.getElem?_toArray, List.getElem?_cons_succ, List.getElem?_cons_zero]; rfl
                 case hg => rfl
                 case ha => go_simp; rfl))
          apply proc_eff
          case ho => simp only [List.getElem?_toArray, List.getElem?_cons_succ, List.getElem?_cons_zero]; rfl
          go_wp2_with fail
          refine (rstrm_read HM2.out (by omega) (by have := HS2.out.h3; omega) n HN.out n2 HN2.out _ rfl).mono ?_
          rintro e w3 ⟨vb, rfl, hvb, hvbg, ⟨v3, hm3, hv3⟩, hu3⟩
          have l1 := lt_of_block HS2.out.hb
          have l2 := HS2.out.ring.lt
          have l3 := lt_of_block HM2.out.hb
          have HP3 : Hid (SP w w3 sb b rb m H L st (p && decide (L < q.length - n2)) once (q.drop n2) v3) := Lib.hid ⟨HS2.out.upd hu3 (by simp; omega) (by simp; omega) (by simp; omega), hm3, HP0.out.o, fun j hj => by have := hv3 j hj; omega, HU2.out.trans hu3 (by simp; omega)⟩
          have hx3 : w3.cell? ⟨x, 1, none⟩ = some (.int .i64 n) := (World.cell?_of_block (hu3.block x (World.block_lt_of_cell? _ _ HX2.out) (by simp; omega))).trans HX2.out
          have hA3 := HA2.out.upd hu3 (fun j hj => by have := HG2.out j hj; simp at this ⊢; omega)
          have HX3 := Lib.hid hx3; have HA3 := Lib.hid hA3; have HB3 := Lib.hid hvb
          clear hm3 hu3 hv3 hx3 hA3 hvb hvbg HS2 HM2 HU2 HA2
          go_wp2_with fail
          refine ⟨fun W => (W.cell? ⟨x, 1, none⟩ = some (.int .i64 n) ∧ (convert 28 9 va).run Try.prog W = .ok (.string ⟨(q.take n2).toArray⟩) W) ∧ (convert 28 9 vb).run Try.prog W = .ok (.string ⟨(q.take n2).toArray⟩) W, fun _ h => h.1, ⟨⟨HX3.out, HA3.out.str (P := Try.prog) 28 9 5 Try.underlying28 Try.underlying5 Try.underlying9⟩, HB3.out.str (P := Try.prog) 28 9 5 Try.underlying28 Try.underlying5 Try.underlying9⟩, ?_⟩
          repeat
            (first
              | (apply proc_held
                 case ho => simp only [List.getElem?_toArray, List.getElem?_cons_succ, List.getElem?_cons_zero]; rfl
                 case hg => rfl
                 case hv => intro W hW; (try dsimp only at hW); go_simp; rfl
                 case ha => go_simp; rfl)
              | (apply proc_held_on
                 case ho => simp only [List.getElem?_toArray, List.getElem?_cons_succ, List.getElem?_cons_zero]; rfl
                 case hg => rfl
                 case hv => intro W hW; (try dsimp only at hW); go_simp; rfl
                 case ha => go_simp; rfl)
              | (apply proc_off
                 case ho => simp only [List.getElem?_toArray, List.getElem?_cons_succ, List.getElem?_cons_zero]; rfl
                 case hg => rfl
                 case ha => go_simp; rfl))
          refine proc_nil ?_
          go_wp2_with fail
          go_meet
          case rel => exact ⟨by simp, _, _, _, _, _, HP3.out⟩
        · go_wp2_with fail
          refine (strm_end HP0.out.s).mono ?_
          rintro e w2 ⟨rfl, hs2, hu2⟩
          have hm2 := HP0.out.m.upd hu2 (by simp; omega) (fun j hj => by have := HP0.out.f j hj; simp; omega)
          have HS2 := Lib.hid hs2; have HM2 := Lib.hid hm2
          have HU2 := Lib.hid (HP0.out.u.trans hu2 (by simp; omega))
          clear hs2 hm2 hu2
          obtain ⟨er, her⟩ : ∃ er : Int, er = (if st = 1 then 0 else 12) := ⟨_, rfl⟩
          have HER := Lib.hid her
          rw [← her]
          clear her
          go_wp2_with fail
          refine (rstrm_end HM2.out).mono ?_
          rintro e w3 ⟨rfl, hm3, hu3⟩
          rw [← HER.out]
          have HP3 : Hid (SP w w3 sb b rb m H L (if st = 1 then 2 else st) (if st = 1 then false else p) once q v) := Lib.hid ⟨HS2.out.upd hu3 (by simp; omega) (by simp; omega) (by simp; omega), hm3, by rcases HP0.out.o with h | h <;> split <;> omega, HP0.out.f, HU2.out.trans hu3 (by simp; omega)⟩
          clear hm3 hu3
          go_wp2_with fail
          go_meet
          case rel => exact ⟨by simp, _, _, _, _, _, HP3.out⟩
        · rcases HP0.out.o with ⟨ho1, ho2⟩ | ⟨ho1, ho2⟩
          · subst ho1
            have HO := Lib.hid ho2; clear ho2
            go_wp2_with fail
            refine (strm_stop HP0.out.s).mono ?_
            rintro e w2 ⟨rfl, hs2, hu2⟩
            have hm2 := HP0.out.m.upd hu2 (by simp; omega) (fun j hj => by have := HP0.out.f j hj; simp; omega)
            have HS2 := Lib.hid hs2; have HM2 := Lib.hid hm2
            have HU2 := Lib.hid (HP0.out.u.trans hu2 (by simp; omega))
            clear hs2 hm2 hu2
            go_wp2_with fail
            refine (rstrm_stop HM2.out HO.out).mono ?_
            rintro e w3 ⟨rfl, hm3, hu3⟩
            have HP3 : Hid (SP w w3 sb b rb m H L 3 false 1 [] (.slice none 0 0)) := Lib.hid ⟨HS2.out.upd hu3 (by simp; omega) (by simp; omega) (by simp; omega), hm3, .inr ⟨rfl, rfl⟩, fun j hj => by simp [Value.ownBlock] at hj, HU2.out.trans hu3 (by simp; omega)⟩
            clear hm3 hu3
            go_wp2_with fail
            go_meet
            case rel => exact ⟨by simp, _, _, _, _, _, HP3.out⟩
          · subst ho1; subst ho2
            go_wp2_with fail
            refine (strm_stop_again HP0.out.s).mono ?_
            rintro e w2 ⟨rfl, hs2, hu2⟩
            have HP2 := Lib.hid (HP0.out.upd0 hu2)
            clear hs2 hu2
            go_wp2_with fail
            refine (rstrm_stop_again HP2.out.m).mono ?_
            rintro e w3 ⟨rfl, rfl⟩
            go_wp2_with fail
            go_meet
            case rel => exact ⟨by simp, _, _, _, _, _, HP2.out⟩
      case rest =>
        obtain ⟨rfl, st, p, once, q, v, hp⟩ := hcut
        have HP := Lib.hid hp; clear hp HP0
        obtain ⟨Av, cv, rfl, _⟩ := HP.out.m.by_
        obtain ⟨c0, c1, c2, c3, c4, _⟩ := HP.out.m.cells
        have hst := HP.out.s.st
        have hqle := HP.out.s.ring.le
        have hH2 := HP.out.s.h2
        have HC : Hid (wc.cell? ⟨m, 2, none⟩ = some (.int .i64 st) ∧ wc.cell? ⟨m, 3, none⟩ = some (.slice Av q.length cv) ∧ wc.cell? ⟨m, 4, none⟩ = some (.bool p)) := Lib.hid ⟨c2, c3, c4⟩
        clear c0 c1 c2 c3 c4
        obtain ⟨ov, hov⟩ : ∃ ov, ov = decide (st = 3 ∨ st = 2 ∧ q = []) := ⟨_, rfl⟩
        have HO := Lib.hid hov; clear hov
        go_wp2_with fail
        refine wp_region_proc [(0, 0), (1, 0), (2, 0), (3, 0), (5, 0), (6, 0), (7, 0), (8, 0), (4, 1), (9, 0), (10, 0), (11, 0), (12, 0), (14, 0), (15, 0), (16, 0), (17, 0), (18, 0), (13, 1), (19, 0), (20, 0), (21, 0), (22, 0), (24, 0), (25, 0), (26, 0), (27, 0), (23, 1), (28, 0), (29, 0), (30, 0), (31, 0), (33, 0), (32, 1), (34, 2), (35, 0), (36, 0)] (fun W => W.cell? ⟨m, 2, none⟩ = some (.int .i64 st) ∧ W.cell? ⟨m, 3, none⟩ = some (.slice Av q.length cv) ∧ W.cell? ⟨m, 4, none⟩ = some (.bool p)) (by kernel_rfl) (by kernel_rfl) (fun c a w t v h => by cases t <;> exact h) HC.out ?_
        repeat
          (first
            | (apply proc_held
               case ho => simp only [List.getElem?_toArray, List.getElem?_cons_succ, List.getElem?_cons_zero]; rfl
               case hg => rfl
               case hv => intro W hW; (try dsimp only at hW); go_simp; rfl
               case ha => go_simp; rfl)
            | (apply proc_held_on
               case ho => simp only [List.getElem?_toArray, List.getElem?_cons_succ, List.getElem?_cons_zero]; rfl
               case hg => rfl
               case hv => intro W hW; (try dsimp only at hW); go_simp; rfl
               case ha => go_simp; rfl)
            | (apply proc_off
               case ho => simp only [List.getElem?_toArray, List.getElem?_cons_succ, List.getElem?_cons_zero]; rfl
               case hg => rfl
               case ha => go_simp; rfl))
        apply proc_eff
        case ho => simp only [List.getElem?_toArray, List.getElem?_cons_succ, List.getElem?_cons_zero]; rfl
        simp only [World.drew_eq]
        go_wp2_with fail
        refine (strm_state (HP.out.s.drewN 1)).mono ?_
        rintro e w2 ⟨rfl, rfl⟩
        go_wp2_with fail
        refine ⟨_, fun _ h => h, HC.out, ?_⟩
        repeat
          (first
            | (apply proc_held
               case ho => simp only [List.getElem?_toArray, List.getElem?_cons_succ, List.getElem?_cons_zero]; rfl
               case hg => rfl
               case hv => intro W hW; (try dsimp only at hW); go_simp; rfl
               case ha => go_simp; rfl)
            | (apply proc_held_on
               case ho => simp only [List.getElem?_toArray, List.getElem?_cons_succ, List.getElem?_cons_zero]; rfl
               case hg => rfl
               case hv => intro W hW; (try dsimp only at hW); go_simp; rfl
               case ha => go_simp; rfl)
            | (apply proc_off
               case ho => simp only [List.getElem?_toArray, List.getElem?_cons_succ, List.getElem?_cons_zero]; rfl
               case hg => rfl
               case ha => go_simp; rfl))
        apply proc_eff
        case ho => simp only [List.getElem?_toArray, List.getElem?_cons_succ, List.getElem?_cons_zero]; rfl
        go_wp2_with fail
        refine (strm_len (HP.out.s.drewN 1)).mono ?_
        rintro e w2 ⟨rfl, rfl⟩
        go_wp2_with fail
        refine ⟨_, fun _ h => h, HC.out, ?_⟩
        repeat
          (first
            | (apply proc_held
               case ho => simp only [List.getElem?_toArray, List.getElem?_cons_succ, List.getElem?_cons_zero]; rfl
               case hg => rfl
               case hv => intro W hW; (try dsimp only at hW); go_simp; rfl
               case ha => go_simp; rfl)
            | (apply proc_held_on
               case ho => simp only [List.getElem?_toArray, List.getElem?_cons_succ, List.getElem?_cons_zero]; rfl
               case hg => rfl
               case hv => intro W hW; (try dsimp only at hW); go_simp; rfl
               case ha => go_simp; rfl)
            | (apply proc_off
               case ho => simp only [List.getElem?_toArray, List.getElem?_cons_succ, List.getElem?_cons_zero]; rfl
               case hg => rfl
               case ha => go_simp; rfl))
        apply proc_eff
        case ho => simp only [List.getElem?_toArray, List.getElem?_cons_succ, List.getElem?_cons_zero]; rfl
        go_wp2_with fail
        refine (strm_paused (HP.out.s.drewN 1)).mono ?_
        rintro e w2 ⟨rfl, rfl⟩
        go_wp2_with fail
        refine ⟨_, fun _ h => h, HC.out, ?_⟩
        repeat
          (first
            | (apply proc_held
               case ho => simp only [List.getElem?_toArray, List.getElem?_cons_succ, List.getElem?_cons_zero]; rfl
               case hg => rfl
               case hv => intro W hW; (try dsimp only at hW); go_simp; rfl
               case ha => go_simp; rfl)
            | (apply proc_held_on
               case ho => simp only [List.getElem?_toArray, List.getElem?_cons_succ, List.getElem?_cons_zero]; rfl
               case hg => rfl
               case hv => intro W hW; (try dsimp only at hW); go_simp; rfl
               case ha => go_simp; rfl)
            | (apply proc_off
               case ho => simp only [List.getElem?_toArray, List.getElem?_cons_succ, List.getElem?_cons_zero]; rfl
               case hg => rfl
               case ha => go_simp; rfl))
        apply proc_eff
        case ho => simp only [List.getElem?_toArray, List.getElem?_cons_succ, List.getElem?_cons_zero]; rfl
        go_wp2_with fail
        refine (strm_over (HP.out.s.drewN 1)).mono ?_
        rintro e w2 ⟨rfl, rfl⟩
        rw [← HO.out]
        go_wp2_with fail
        refine ⟨_, fun _ h => h, HC.out, ?_⟩
        repeat
          (first
            | (apply proc_held
               case ho => simp only [List.getElem?_toArray, List.getElem?_cons_succ, List.getElem?_cons_zero]; rfl
               case hg => rfl
               case hv => intro W hW; (try dsimp only at hW); go_simp; rfl
               case ha => go_simp; rfl)
            | (apply proc_held_on
               case ho => simp only [List.getElem?_toArray, List.getElem?_cons_succ, List.getElem?_cons_zero]; rfl
               case hg => rfl
               case hv => intro W hW; (try dsimp only at hW); go_simp; rfl
               case ha => go_simp; rfl)
            | (apply proc_off
               case ho => simp only [List.getElem?_toArray, List.getElem?_cons_succ, List.getElem?_cons_zero]; rfl
               case hg => rfl
               case ha => go_simp; rfl))
        apply proc_last
        case ho => simp only [List.getElem?_toArray, List.getElem?_cons_succ, List.getElem?_cons_zero]; rfl
        go_wp2_with fail
        refine (rstrm_over (HP.out.m.drewN 1) hst (by omega)).mono ?_
        rintro e w2 ⟨rfl, rfl⟩
        rw [← HO.out]
        go_wp2_with fail
        refine ⟨fun _ => True, trivial, ?_⟩
        repeat
          (first
            | (apply proc_held
               case ho => simp only [List.getElem?_toArray, List.getElem?_cons_succ, List.getElem?_cons_zero]; rfl
               case hg => rfl
               case hv => intro W hW; (try dsimp only at hW); go_simp; rfl
               case ha => go_simp; rfl)
            | (apply proc_held_on
               case ho => simp only [List.getElem?_toArray, List.getElem?_cons_succ, List.getElem?_cons_zero]; rfl
               case hg => rfl
               case hv => intro W hW; (try dsimp only at hW); go_simp; rfl
               case ha => go_simp; rfl)
            | (apply proc_off
               case ho => simp only [List.getElem?_toArray, List.getElem?_cons_succ, List.getElem?_cons_zero]; rfl
               case hg => rfl
               case ha => go_simp; rfl))
        refine proc_nil ?_
        go_wp2_with fail
        go_roundw
        case rel => exact ⟨k + 1, st, p, once, q, _, by omega, by go_num, HP.out.upd0 ((Upd.refl [] _).drewN 1)⟩
        case measure => simp [intOf]; omega
    · obtain rfl : k = ls.length := by omega
      go_wp2_with (go_at_call 32; refine (awake11 _).mono ?_; rintro e w' ⟨rfl, hu⟩)
      go_ret
      exact ⟨rfl, (HP.out.u.trans hu (by simp)).below (by simp)⟩
end Go.Proofs.Ytmcbllpkgeihgaa
