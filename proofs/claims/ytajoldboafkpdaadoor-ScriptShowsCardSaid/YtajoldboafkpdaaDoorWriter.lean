-- script.writer: contracts of num, ints.
import Derived.Test.YtajoldboafkpdaaDoorFmtU
import Derived.Test.YtajoldboafkpdaaDoorActs
import Derived.Test.YtajoldboafkpdaaDoorProc
import Derived.Test.YtajoldboafkpdaaDoorInfoS
import Derived.Test.YtajoldboafkpdaaDoorAgg
import Derived.Test.YtajoldboafkpdaaDoorEnv
namespace Go.Proofs.YtajoldboafkpdaaDoor
set_option linter.unusedSimpArgs false
set_option linter.unusedVariables false
open Go.RowKit Go.Lk
def strV (x : Bs) : Value := .string ⟨x.toArray⟩
/-- A writer at block wb: its words are the program's own row v. -/
structure WrAt (w : World) (base wb : Nat) (v : Value) (ws : List Bs) (bad : Bool) : Prop where
  hb : w.heap[wb]? = some (.cells #[v, .bool bad] 71 (0, 0))
  own : w.ownsRow base 9 1 v ws.length (ws.map strV)
structure WrStep (w w' : World) (base wb : Nat) (v v' : Value) (ws' : List Bs) (bad' : Bool) : Prop where
  at_ : WrAt w' base wb v' ws' bad'
  upd : Upd (wb :: v.ownBlock.toList) w w'
  own : ∀ k, v'.ownBlock = some k → v.ownBlock = some k ∨ w.heap.size ≤ k
theorem WrAt.ne {w : World} {base wb : Nat} {v : Value} {ws : List Bs} {bad : Bool} (h : WrAt w base wb v ws bad) (k : Nat) (hk : v.ownBlock = some k) : k ≠ wb := by
  rintro rfl
  rcases h.own.2 with ⟨rfl, _⟩ | ⟨g, cap, cur, rfl, _, hg, _⟩
  · cases hk
  · simp only [Value.ownBlock, Option.some.injEq] at hk
    subst hk
    rw [h.hb] at hg
    injection hg with hg
    injection hg with _ ht
    revert ht; decide
theorem WrAt.step {w : World} {base wb : Nat} {v : Value} {ws : List Bs} {bad : Bool} (h : WrAt w base wb v ws bad) : WrStep w w base wb v v ws bad := ⟨h, Upd.refl _ _, fun k hk => .inl hk⟩
theorem WrStep.trans {w w1 w2 : World} {base wb : Nat} {v v1 v2 : Value} {ws1 ws2 : List Bs} {b1 b2 : Bool} (h : WrStep w w1 base wb v v1 ws1 b1) (k : WrStep w1 w2 base wb v1 v2 ws2 b2) : WrStep w w2 base wb v v2 ws2 b2 where
  at_ := k.at_
  upd := h.upd.trans k.upd (fun x hx => by
    rcases List.mem_cons.1 hx with rfl | hx
    · exact .inr (by simp)
    · rcases h.own x (by simpa using hx) with h1 | h1
      · exact .inr (by simp [h1])
      · exact .inl h1)
  own := fun x hx => by
    rcases k.own x hx with h1 | h1
    · exact h.own x h1
    · exact .inr (Nat.le_trans h.upd.size h1)
theorem WrAt.upd {w w1 : World} {base wb : Nat} {v : Value} {ws : List Bs} {bad : Bool} {F : List Nat} (h : WrAt w base wb v ws bad) (hu : Upd F w w1) (h1 : wb ∉ F) (h2 : ∀ k, v.ownBlock = some k → k ∉ F) : WrAt w1 base wb v ws bad where
  hb := (hu.block wb (Array.getElem?_eq_some_iff.1 h.hb).1 h1).trans h.hb
  own := own_upd h.own hu h2
/-- One step that leaves all else (draws, new blocks), and then an append and a store: as a step. -/
theorem WrAt.push {w w1 w2 : World} {base wb : Nat} {v v2 : Value} {ws : List Bs} {bad : Bool} (x : Bs) (h : WrAt w base wb v ws bad) (hu : Upd [] w w1) (hown : w2.ownsRow base 9 1 v2 (ws.length + 1) (ws.map strV ++ [strV x])) (hg : w1.grownBy w2 v.ownBlock) (hat : v2.ownBlock = v.ownBlock ∨ v2.ownBlock = some w1.heap.size) :
    WrStep w (w2.setCell ⟨wb, 0, none⟩ v2) base wb v v2 (ws ++ [x]) bad := by
  have hlt := (Array.getElem?_eq_some_iff.1 h.hb).1
  have u2 : Upd v.ownBlock.toList w w2 := (hu.weaken (by simp)).grown hg (fun k hk => .inr (by simp [hk]))
  have hb2 := (u2.block wb hlt (fun hm => h.ne wb (by simpa using hm) rfl)).trans h.hb
  have hsz := hu.size
  have hb3 := (heap_setCell_self hb2 v2 (i := 0)).trans rfl
  refine ⟨⟨hb3, ?_⟩, ?_, ?_⟩
  · have h3 : w2.ownsRow base 9 1 v2 (ws ++ [x]).length ((ws ++ [x]).map strV) := by simpa using hown
    refine own_upd h3 ((Upd.refl [wb] w2).setCell (.inr (by simp)) v2) (fun k hk => ?_)
    rcases hat with e | e
    · rw [e] at hk
      have := h.ne k hk
      simpa using this
    · rw [e] at hk
      injection hk with hk
      simp; omega
  · exact (u2.weaken (G := wb :: v.ownBlock.toList) (fun x hx => .inr (by simp at hx ⊢; exact .inr hx))).setCell (.inr (by simp)) v2
  · intro k hk
    rcases hat with e | e
    · exact .inl (e ▸ hk)
    · rw [e] at hk
      injection hk with hk
      exact .inr (by omega)
theorem WrAt.setBad {w : World} {base wb : Nat} {v : Value} {ws : List Bs} {bad : Bool} (h : WrAt w base wb v ws bad) (b : Bool) : WrStep w (w.setCell ⟨wb, 1, none⟩ (.bool b)) base wb v v ws b where
  at_ := {
    hb := (heap_setCell_self h.hb (.bool b) (i := 1)).trans rfl
    own := own_upd h.own ((Upd.refl [wb] w).setCell (.inr (by simp)) (.bool b)) (fun k hk => by have := h.ne k hk; simpa using this) }
  upd := (Upd.refl _ w).setCell (.inr (by simp)) _
  own := fun k hk => .inl hk
theorem WrAt.slice {w : World} {base wb : Nat} {v : Value} {ws : List Bs} {bad : Bool} (h : WrAt w base wb v ws bad) : ∃ A c, v = .slice A ws.length c := own_slice h.own
set_option maxRecDepth 100000 in
set_option maxHeartbeats 1600000 in
theorem writer_num {w : World} {base wb : Nat} {v : Value} {ws : List Bs} {bad : Bool} (h : WrAt w base wb v ws bad) (hE : Env w) (hb : base ≤ w.heap.size) (hl : ws.length ≤ 1000000) (n : Nat) (hn : n < 18446744073709551616) :
    Calls Tryd.prog 41 #[.pointer (some ⟨wb, 0, none⟩), .int .u64 n] w fun e w' => e = .returned (.tuple #[]) ∧ ∃ v', WrStep w w' base wb v v' (ws ++ [Lib.decDigits n]) bad := by
  obtain ⟨i0, hi, hz0, hz1, hz2⟩ := info_parts Tryd.infoString
  obtain ⟨A, c, rfl⟩ := h.slice
  have c0 := cell_of (i := 0) h.hb rfl
  have f0 : w.frozen? ⟨wb, 0, none⟩ = false := free_of h.hb
  simp only [List.getElem_toArray, List.getElem_cons_zero] at c0
  have HH := Lib.hid h; have HE := Lib.hid hE; clear h hE
  go_enter Tryd.func41, Tryd.ntmps41
  go_wp2_with fail
  refine wp_region_proc [(0, 0), (1, 0), (2, 0), (3, 0), (4, 0), (5, 0), (6, 1), (7, 1), (8, 1), (9, 0), (10, 0), (11, 2)] (fun W => W.cell? ⟨wb, 0, none⟩ = some (.slice A ws.length c)) (by kernel_rfl) (by kernel_rfl) (fun c a w t v h => by cases t <;> exact h) c0 ?_
  repeat
    (first
      | (apply proc_held
         case ho => simp only [List.getElem?_toArray, List.getElem?_cons_succ, List.getElem?_cons_zero]; rfl
         case hg => rfl
         case hv => intro W hW; (try dsimp only at hW); go_simp; rfl
         case ha => go_simp; rfl)
      | (apply proc_held_on
         case ho => simp only [List.getElem?_toArray, List.getElem?_cons_succ, List.getElem?_cons_zero]; rfl
         case hg => rfl
         case hv => intro W hW; (try dsimp only at hW); go_simp; rfl
         case ha => go_simp; rfl)
      | (apply proc_off
         case ho => simp only [List.getElem?_toArray, List.getElem?_cons_succ, List.getElem?_cons_zero]; rfl
         case hg => rfl
         case ha => go_simp; rfl))
  apply proc_eff
  case ho => simp only [List.getElem?_toArray, List.getElem?_cons_succ, List.getElem?_cons_zero]; rfl
  simp only [World.drew_eq]
  go_wp2_with fail
  refine (strconv_formatUint (HE.out.upd0 ((Upd.refl [] w).drewN 1)) n hn).mono ?_
  rintro e w1 ⟨rfl, hu1⟩
  have U1 := Lib.hid (((Upd.refl [] w).drewN 1).trans hu1 (by simp)); clear hu1
  have H1 := Lib.hid (HH.out.upd U1.out (by simp) (by simp))
  have c1 : w1.cell? ⟨wb, 0, none⟩ = some (.slice A ws.length c) := cell_of (i := 0) H1.out.hb rfl
  go_wp2_with fail
  refine ⟨_, fun _ h => h, c1, ?_⟩
  apply proc_eff
  case ho => simp only [List.getElem?_toArray, List.getElem?_cons_succ, List.getElem?_cons_zero]; rfl
  go_wp2_with fail
  have U2 := Lib.hid (U1.out.alloc (.cells #[strV (Lib.decDigits n)] 9))
  have H2 := Lib.hid (HH.out.upd U2.out (by simp) (by simp))
  have c2 : (w1.alloc (.cells #[strV (Lib.decDigits n)] 9)).cell? ⟨wb, 0, none⟩ = some (.slice A ws.length c) := cell_of (i := 0) H2.out.hb rfl
  refine ⟨_, fun _ h => h, c2, ?_⟩
  apply proc_eff
  case ho => simp only [List.getElem?_toArray, List.getElem?_cons_succ, List.getElem?_cons_zero]; rfl
  refine wpList_append_src _ rfl (.tmp 8) (.tmp 11) 58 rfl base 9 i0 (.string ⟨#[]⟩) 1 16 Tryd.underlying58 hi hz0 hz1 hz2 rfl (by decide) (.slice A ws.length c) ws.length (ws.map strV) rfl H2.out.own (some ⟨w1.heap.size, 0, none⟩) 1 1 [strV (Lib.decDigits n)] rfl (by simp) (cellsAt_new _ _ _) (by simp [strV, Value.oneCell']) (by unfold maxLen; omega) (by omega) (Nat.le_trans hb U2.out.size) ?_
  intro v3 w3 hown3 hg3 hat3
  have hp := HH.out.push (Lib.decDigits n) U2.out hown3 hg3 hat3
  obtain ⟨A3, c3, rfl⟩ := own_slice hown3
  have hb3 := ((Upd.refl (Value.slice A ws.length c).ownBlock.toList _).grown hg3 (fun k hk => .inr (by simp [hk]))).block wb (Array.getElem?_eq_some_iff.1 H2.out.hb).1 (fun hm => H2.out.ne wb (by simpa using hm) rfl) |>.trans H2.out.hb
  have c3 := cell_of (i := 0) hb3 rfl
  have f3 : w3.frozen? ⟨wb, 0, none⟩ = false := free_of hb3
  simp only [List.getElem_toArray, List.getElem_cons_zero] at c3
  have HP := Lib.hid hp; clear hp hown3 hg3 hat3 hb3
  go_wp2_with fail
  refine ⟨_, fun _ h => h, c3, ?_⟩
  repeat
    (first
      | (apply proc_held
         case ho => simp only [List.getElem?_toArray, List.getElem?_cons_succ, List.getElem?_cons_zero]; rfl
         case hg => rfl
         case hv => intro W hW; (try dsimp only at hW); go_simp; rfl
         case ha => go_simp; rfl)
      | (apply proc_held_on
         case ho => simp only [List.getElem?_toArray, List.getElem?_cons_succ, List.getElem?_cons_zero]; rfl
         case hg => rfl
         case hv => intro W hW; (try dsimp only at hW); go_simp; rfl
         case ha => go_simp; rfl)
      | (apply proc_off
         case ho => simp only [List.getElem?_toArray, List.getElem?_cons_succ, List.getElem?_cons_zero]; rfl
         case hg => rfl
         case ha => go_simp; rfl))
  apply proc_last
  case ho => simp only [List.getElem?_toArray, List.getElem?_cons_succ, List.getElem?_cons_zero]; rfl
  go_wp2_with fail
  refine ⟨fun _ => True, trivial, ?_⟩
  refine proc_nil ?_
  go_wp2_with fail
  go_end0
  exact ⟨rfl, _, HP.out⟩
end Go.Proofs.YtajoldboafkpdaaDoor
