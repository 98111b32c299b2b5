import Derived.Test.YtmcbllpkgeihgaaBase
import Derived.Test.YtmcbllpkgeihgaaMix
import Derived.Test.YtmcbllpkgeihgaaProg
import Derived.Test.YtmcbllpkgeihgaaInfo
import Derived.Outline
namespace Go.Proofs.Ytmcbllpkgeihgaa
open Go.RowKit Go.Lk
structure RingRep (w : World) (b rb S : Nat) (room : List UInt8) (head : Nat) (n : Nat) : Prop where
  hb : w.heap[b]? = some (.cells #[.slice (some ⟨rb, 0, none⟩) S S, .int .i64 (head : Int), .int .i64 (n : Int)] 66 (0, 0))
  hrb : w.heap[rb]? = some (.cells (room.map B).toArray 5 (0, 0))
  ne : b ≠ rb
theorem RingRep.drew {w : World} {b rb S : Nat} {room : List UInt8} {head n : Nat} (h : RingRep w b rb S room head n) (k : Nat) : RingRep (w.drewN k) b rb S room head n := ⟨h.hb, h.hrb, h.ne⟩
theorem RingRep.cells {w : World} {b rb S : Nat} {room : List UInt8} {head n : Nat} (h : RingRep w b rb S room head n) :
    w.cell? ⟨b, 0, none⟩ = some (.slice (some ⟨rb, 0, none⟩) S S) ∧ w.cell? ⟨b, 1, none⟩ = some (.int .i64 (head : Int)) ∧ w.cell? ⟨b, 2, none⟩ = some (.int .i64 (n : Int)) ∧
    w.frozen? ⟨b, 1, none⟩ = false ∧ w.frozen? ⟨b, 2, none⟩ = false :=
  ⟨cell_of (i := 0) h.hb rfl, cell_of (i := 1) h.hb rfl, cell_of (i := 2) h.hb rfl, free_of h.hb, free_of h.hb⟩
theorem ring_room (w : World) (b rb S : Nat) (room : List UInt8) (head n : Nat) (h : RingRep w b rb S room head n) (hS : S ≤ 4096) (hn : n ≤ S) :
    Calls Try.prog 18 #[.pointer (some ⟨b, 0, none⟩)] w fun e w' => e = .returned (.int .i64 ((S : Int) - n)) ∧ ∃ k, w' = w.drewN k := by
  obtain ⟨c0, c1, c2, f1, f2⟩ := h.cells
  clear h
  go_enter Try.func18, Try.ntmps18
  go_wp2
  go_quiet (fail)
  go_wp2
  go_ret
  exact ⟨rfl, _, rfl⟩
theorem ring_len (w : World) (b rb S : Nat) (room : List UInt8) (head n : Nat) (h : RingRep w b rb S room head n) :
    Calls Try.prog 20 #[.pointer (some ⟨b, 0, none⟩)] w fun e w' => e = .returned (.int .i64 n) ∧ w = w' := by
  obtain ⟨c0, c1, c2, f1, f2⟩ := h.cells
  clear h
  go_enter Try.func20, Try.ntmps20
  go_wp2
  go_ret
  exact ⟨rfl, rfl⟩
theorem ring_clear (w : World) (b rb S : Nat) (room : List UInt8) (head n : Nat) (h : RingRep w b rb S room head n) :
    Calls Try.prog 24 #[.pointer (some ⟨b, 0, none⟩)] w fun e w' => e = .returned (.int .i64 n) ∧ RingRep w' b rb S room 0 0 ∧ Upd [b] w w' := by
  obtain ⟨c0, c1, c2, f1, f2⟩ := h.cells
  go_enter Try.func24, Try.ntmps24
  go_wp2
  go_ret
  refine ⟨rfl, ⟨?_, ?_, h.ne⟩, ?_⟩
  · rw [heap_setCell_self (heap_setCell_self h.hb _)]; rfl
  · rw [heap_setCell_ne _ h.ne, heap_setCell_ne _ h.ne]; exact h.hrb
  · exact ((Upd.refl _ _).setCell (.inr (by simp)) _).setCell (.inr (by simp)) _
theorem madeCells_bytes (n : Nat) : madeCells #[.int .u8 0] n = (List.map B (List.replicate n 0)).toArray := by
  apply Array.ext
  · simp [madeCells]
  · intro i h1 h2
    have e : i % 1 = 0 := Nat.mod_one i
    simp [madeCells, B, e]
set_option maxRecDepth 100000 in
theorem ring_new (w : World) (sz : Int) (size : Nat) (hsize : size = (max 1 (min sz 4096)).toNat) :
    Calls Try.prog 15 #[.int .i64 sz] w fun e w' => ∃ b rb, e = .returned (.pointer (some ⟨b, 0, none⟩)) ∧ RingRep w' b rb size (List.replicate size 0) 0 0 ∧ Upd [] w w' ∧ w.heap.size ≤ b ∧ w.heap.size ≤ rb ∧ b < w'.heap.size ∧ rb < w'.heap.size := by
  have h1 : 1 ≤ size := by omega
  have h2 : size ≤ 4096 := by omega
  obtain ⟨i0, hi, hz0, hz1, hz2⟩ := info_parts Try.info5
  have hmk := run_make (P := Try.prog) w 28 5 i0 (.int .u8 0) Try.underlying28 hi hz0 .i64 .i64 size size (by omega) (by omega) (by rw [hz2]; omega) (by omega)
  obtain ⟨x, hx⟩ : ∃ x, x = (if (4096 : Int) < sz then 4096 else sz) := ⟨_, rfl⟩
  have e2 : (if (1 : Int) < x then x else 1) = size := by rw [hx]; (repeat' split) <;> omega
  have e1 := hx.symm
  clear hx hsize
  go_enter Try.func15, Try.ntmps15
  go_wp2
  go_ret
  have hrb : ((w.alloc (.cells (madeCells #[.int .u8 0] size) 5)).alloc (.cells #[.slice (some ⟨w.heap.size, 0, none⟩) size size, .int .i64 0, .int .i64 0] 66)).heap[w.heap.size]? = some (.cells (madeCells #[.int .u8 0] size) 5 (0, 0)) := by
    rw [heap_alloc_lt _ (by simp), heap_alloc_self]
  have hb := heap_alloc_self (w := w.alloc (.cells (madeCells #[.int .u8 0] size) 5)) (.cells #[.slice (some ⟨w.heap.size, 0, none⟩) size size, .int .i64 0, .int .i64 0] 66 (0, 0))
  rw [World.size_alloc] at hb
  refine ⟨w.heap.size + 1, w.heap.size, rfl, ⟨hb, ?_, by omega⟩, ((Upd.refl _ _).alloc _).alloc _, by omega, by omega, by simp, by simp; omega⟩
  rw [hrb]
  rw [madeCells_bytes]
def putK (room : List UInt8) (at_ : Nat) (bs : List UInt8) : Nat → List UInt8
  | 0 => room
  | k + 1 => (putK room at_ bs k).set ((at_ + k) % room.length) (bs.getD k 0)
theorem putK_length (room : List UInt8) (at_ : Nat) (bs : List UInt8) (k : Nat) : (putK room at_ bs k).length = room.length := by
  induction k with
  | zero => rfl
  | succ k ih => simp [putK, ih]
set_option maxHeartbeats 400000 in
set_option maxRecDepth 100000 in
theorem ring_put (w : World) (b rb S : Nat) (room : List UInt8) (head n : Nat) (h : RingRep w b rb S room head n) (hS : S ≤ 4096) (hS1 : 1 ≤ S) (hn : n ≤ S) (hh : head < S) (hl : room.length = S)
    (A : Option Addr) (bs : List UInt8) (c : Nat) (hbs : BytesAt w A bs) (hA : ∀ ab ao, bs ≠ [] → A = some ⟨ab, ao, none⟩ → ab ≠ rb) (hlen : bs.length ≤ 100000) :
    Calls Try.prog 17 #[.pointer (some ⟨b, 0, none⟩), .slice A bs.length c] w fun e w' => e = .returned (.int .i64 (min bs.length (S - n) : Nat)) ∧
      RingRep w' b rb S (putK room (head + n) bs (min bs.length (S - n))) head (n + min bs.length (S - n)) ∧ Upd [b, rb] w w' := by
  obtain ⟨c0, c1, c2, f1, f2⟩ := h.cells
  obtain ⟨m, hm⟩ : ∃ m, m = min bs.length (S - n) := ⟨_, rfl⟩
  rw [← hm]
  have e2 : (if (S : Int) - n < (bs.length : Int) then (S : Int) - n else (bs.length : Int)) = m := by split <;> omega
  have Hm := Lib.hid hm; clear hm
  go_enter Try.func17, Try.ntmps17
  go_wp2
  go_quiet (fail)
  go_wp2
  go_loopw [6, 23] (fun _ i wr => ∃ k : Nat, k ≤ m ∧ i = .int .i64 k ∧ wr.heap[b]? = w.heap[b]? ∧ wr.heap[rb]? = some (.cells ((putK room (head + n) bs k).map B).toArray 5 (0, 0)) ∧ Upd [b, rb] w wr) (fun _ i _ => m - (intOf i).toNat)
  case atStart => exact ⟨0, by omega, rfl, rfl, h.hrb, (Upd.refl _ _).drewN _⟩
  case round =>
    obtain ⟨k, hk, rfl, hwb, hwr, hu⟩ := hrel
    have g0 := cell_of (i := 0) (hwb.trans h.hb) rfl
    have g1 := cell_of (i := 1) (hwb.trans h.hb) rfl
    have g2 := cell_of (i := 2) (hwb.trans h.hb) rfl
    clear c0 c1 c2 f1 f2
    by_cases hlt : k < m
    · have hkb : k < bs.length := by have := Hm.out; omega
      obtain ⟨ab, ao, rfl, hcx⟩ := hbs k bs[k] (by simp [hkb])
      have hne := hA ab ao (by rintro rfl; simp at hkb) rfl
      have hcx' : wr.cell? ⟨ab, ao + k, none⟩ = some (B bs[k]) := by
        by_cases hab : ab = b
        · subst hab; rw [World.cell?, hwb]; exact hcx
        · have := hu.block ab (World.block_lt_of_cell? _ _ hcx) (by simp [hab, hne])
          rw [World.cell?, this]; exact hcx
      unfold B at hcx'
      obtain ⟨p, hp⟩ : ∃ p, p = (head + n + k) % S := ⟨_, rfl⟩
      have hpS : p < S := by rw [hp]; exact Nat.mod_lt _ (by omega)
      have s1 : IntKind.i64.wrap ((head : Int) + n) = (head : Int) + n := IntWalk.i64_in _ (by omega)
      have s2 : IntKind.i64.wrap ((head : Int) + n + k) = (head : Int) + n + k := IntWalk.i64_in _ (by have := Hm.out; omega)
      have s3 : ((head : Int) + n + k).tmod S = p := by rw [hp, Int.tmod_eq_emod_of_nonneg (by omega)]; push_cast; rfl
      have gp : wr.cell? ⟨rb, p, none⟩ = some (B ((putK room (head + n) bs k).getD p 0)) := cell_of hwr (by simp [putK_length, hl, hpS])
      have fp : wr.frozen? ⟨rb, p, none⟩ = false := free_of hwr
      have z1 : ¬ (S : Int) = 0 := by omega
      have z2 : ¬ S = 0 := by omega
      have Hp := Lib.hid hp; clear hp
      have Hwr := Lib.hid hwr; have Hwb := Lib.hid hwb; have Hu := Lib.hid hu; clear hwr hwb hu hcx
      go_wp2
      go_still_tail 26, (by kernel_rfl)
      simp only [World.drew_eq]
      clear s1 s2 s3
      go_wp2
      go_roundw
      case rel =>
        refine ⟨k + 1, by omega, by go_num, ?_, ?_, ?_⟩
        · simp only [heap_drew]; rw [heap_setCell_ne _ (Ne.symm h.ne)]; exact Hwb.out
        · simp only [heap_drew]; rw [heap_setCell_self Hwr.out]; simp [putK, hl, Hp.out, hkb, Nat.add_assoc, B]
        · exact ((Hu.out).setCell (.inr (by simp)) _).drew
      case measure => simp [intOf]; omega
    · have gf : wr.frozen? ⟨b, 2, none⟩ = false := free_of (hwb.trans h.hb)
      obtain rfl : k = m := by omega
      have Hwr := Lib.hid hwr; have Hwb := Lib.hid hwb; have Hu := Lib.hid hu; clear hwr hwb hu
      go_wp2
      go_ret
      refine ⟨rfl, ⟨?_, ?_, h.ne⟩, ?_⟩
      · rw [heap_setCell_self (Hwb.out.trans h.hb)]; simp
      · rw [heap_setCell_ne _ h.ne]; exact Hwr.out
      · exact Hu.out.setCell (.inr (by simp)) _

def look (room : List UInt8) (head : Nat) (k : Nat) : List UInt8 := (List.range k).map fun i => room.getD ((head + i) % room.length) 0
theorem look_succ (room : List UInt8) (head k : Nat) : look room head (k + 1) = look room head k ++ [room.getD ((head + k) % room.length) 0] := by simp [look, List.range_succ]
theorem look_length (room : List UInt8) (head k : Nat) : (look room head k).length = k := by simp [look]
set_option maxHeartbeats 400000 in
set_option maxRecDepth 100000 in
theorem ring_look (w : World) (b rb S : Nat) (room : List UInt8) (head n : Nat) (h : RingRep w b rb S room head n) (hS : S ≤ 4096) (hS1 : 1 ≤ S) (hh : head < S) (hl : room.length = S) (m : Nat) (hm : m ≤ S) :
    Calls Try.prog 55 #[.pointer (some ⟨b, 0, none⟩), .int .i64 m] w fun e w' => ∃ v, e = .returned v ∧ w'.ownsRow w.heap.size 5 1 v m ((look room head m).map B) ∧ Upd [] w w' := by
  obtain ⟨c0, c1, c2, f1, f2⟩ := h.cells
  obtain ⟨i0, hi, hz0, hz1, hz2⟩ := info_parts Try.info5
  go_enter Try.func55, Try.ntmps55
  go_wp2
  go_loopw [5, 6, 8] (fun v _ i wr => ∃ k : Nat, k ≤ m ∧ i = .int .i64 k ∧ wr.ownsRow w.heap.size 5 1 v k ((look room head k).map B) ∧ Upd [] w wr) (fun _ _ i _ => m - (intOf i).toNat)
  case atStart => exact ⟨0, by omega, rfl, World.ownsRow_nil w _ 5 1, (Upd.refl _ _)⟩
  case round =>
    obtain ⟨k, hk, rfl, hown, hu⟩ := hrel
    by_cases hlt : k < m
    · have g0 : wr.cell? ⟨b, 0, none⟩ = _ := (World.cell?_of_block (hu.block b (World.block_lt_of_cell? _ _ c0) (by simp))).trans c0
      have g1 : wr.cell? ⟨b, 1, none⟩ = _ := (World.cell?_of_block (hu.block b (World.block_lt_of_cell? _ _ c0) (by simp))).trans c1
      obtain ⟨p, hp⟩ : ∃ p, p = (head + k) % S := ⟨_, rfl⟩
      have hpS : p < S := by rw [hp]; exact Nat.mod_lt _ (by omega)
      have s2 : IntKind.i64.wrap ((head : Int) + k) = (head : Int) + k := IntWalk.i64_in _ (by omega)
      have s3 : ((head : Int) + k).tmod S = p := by rw [hp, Int.tmod_eq_emod_of_nonneg (by omega)]; push_cast; rfl
      have hpl : p < room.length := by omega
      have cp : w.cell? ⟨rb, p, none⟩ = some (B room[p]) := cell_of h.hrb (by simp [hpl])
      have gp : wr.cell? ⟨rb, p, none⟩ = _ := (World.cell?_of_block (hu.block rb (World.block_lt_of_cell? _ _ cp) (by simp))).trans cp
      have z1 : ¬ (S : Int) = 0 := by omega
      have z2 : ¬ S = 0 := by omega
      have Hp := Lib.hid hp; have Hu := Lib.hid hu; have Hn := Lib.hid hown; clear hp hu cp c0 c1 c2 f1 f2 hown
      unfold B at gp
      go_wp2
      refine wp_region_mix [(true, 19), (false, 3)] (by kernel_rfl) (by kernel_rfl) (fun c a w t v h => by cases t <;> exact h) ?_
      simp only [wpSegs, List.take_succ_cons, List.take_zero, List.drop_succ_cons, List.drop_zero]
      repeat still_step
      refine wpStill_nil ?_
      simp only [World.drew_eq]
      clear s2 s3
      go_wp2_with (at_builtin; refine wpList_append_own _ rfl (.tmp 11) (.tmp 30) 28 rfl w.heap.size 5 i0 (.int .u8 0) 1 1 Try.underlying28 hi hz0 hz1 hz2 rfl (by decide) _ k ((look room head k).map B) rfl (Hn.out.drew.alloc _) ⟨wr.heap.size, 0, none⟩ 1 1 [.int .u8 (room[p].toNat : Int)] rfl rfl ?c1 ?c2 ?c3 ?c4 ?c5 ?_)
      case c1 => exact cell_one_new _ _ _
      case c2 => simp [Value.oneCell']
      case c3 => unfold maxLen; omega
      case c4 => omega
      case c5 => have := Hu.out.size; simp; omega
      intro v' w1 hown' hgrow _
      go_wp2
      go_roundw
      case rel =>
        refine ⟨k + 1, by omega, by go_num, ?_, ?_⟩
        · rw [look_succ, List.map_append]; rw [← hl] at Hp; rw [← Hp.out]; simpa [B, hpl] using hown'
        · exact ((Hu.out.alloc _).drew).grown hgrow fun k hk => .inl (own_ge Hn.out k hk)
      case measure => simp [intOf]; omega
    · obtain rfl : k = m := by omega
      have Hu := Lib.hid hu; have Hn := Lib.hid hown; clear hu hown
      go_wp2
      go_ret
      exact ⟨_, rfl, Hn.out, Hu.out⟩
theorem RingRep.upd {w w' : World} {b rb S : Nat} {room : List UInt8} {head n : Nat} {F : List Nat} (h : RingRep w b rb S room head n) (hu : Upd F w w') (h1 : b ∉ F) (h2 : rb ∉ F) : RingRep w' b rb S room head n :=
  ⟨(hu.block b (lt_of_block h.hb) h1).trans h.hb, (hu.block rb (lt_of_block h.hrb) h2).trans h.hrb, h.ne⟩
set_option maxHeartbeats 400000 in
set_option maxRecDepth 100000 in
theorem ring_peek (w : World) (b rb S : Nat) (room : List UInt8) (head n : Nat) (h : RingRep w b rb S room head n) (hS : S ≤ 4096) (hS1 : 1 ≤ S) (hh : head < S) (hl : room.length = S) (hn : n ≤ S) :
    Calls Try.prog 26 #[.pointer (some ⟨b, 0, none⟩)] w fun e w' => ∃ v, e = .returned v ∧ w'.ownsRow w.heap.size 5 1 v n ((look room head n).map B) ∧ Upd [] w w' := by
  obtain ⟨c0, c1, c2, f1, f2⟩ := h.cells
  go_enter Try.func26, Try.ntmps26
  go_wp2_with (go_at_call 55; refine (ring_look _ b rb S room head n h hS hS1 hh hl n hn).mono ?_; rintro e w' ⟨v, rfl, hown, hu⟩)
  go_ret
  exact ⟨_, rfl, hown, hu⟩
set_option maxHeartbeats 400000 in
set_option maxRecDepth 100000 in
theorem ring_take (w : World) (b rb S : Nat) (room : List UInt8) (head n : Nat) (h : RingRep w b rb S room head n) (hS : S ≤ 4096) (hS1 : 1 ≤ S) (hh : head < S) (hl : room.length = S) (hn : n ≤ S) (t : Int) (m p : Nat) (hm : m = min t.toNat n) (hp : p = (head + m) % S) :
    Calls Try.prog 19 #[.pointer (some ⟨b, 0, none⟩), .int .i64 t] w fun e w' => ∃ v, e = .returned v ∧ w'.ownsRow w.heap.size 5 1 v m ((look room head m).map B) ∧
      RingRep w' b rb S room p (n - m) ∧ Upd [b] w w' := by
  obtain ⟨c0, c1, c2, f1, f2⟩ := h.cells
  have hmn : m ≤ n := by omega
  obtain ⟨x, hx⟩ : ∃ x, x = (if (n : Int) < t then (n : Int) else t) := ⟨_, rfl⟩
  have e2 : (if (0 : Int) < x then x else 0) = m := by rw [hx]; (repeat' split) <;> omega
  have e1 := hx.symm
  have Hm := Lib.hid hm
  have Hp := Lib.hid hp; clear hm hp hx
  go_enter Try.func19, Try.ntmps19
  go_wp2_with (go_at_call 55; refine (ring_look _ b rb S room head n h hS hS1 hh hl m (by omega)).mono ?_; rintro e w' ⟨v, rfl, hown, hu⟩)
  have h' := h.upd hu (by simp) (by simp)
  obtain ⟨d0, d1, d2, f1', f2'⟩ := h'.cells
  have s2 : IntKind.i64.wrap ((head : Int) + m) = (head : Int) + m := IntWalk.i64_in _ (by omega)
  have s3 : ((head : Int) + m).tmod S = p := by rw [Hp.out, Int.tmod_eq_emod_of_nonneg (by omega)]; push_cast; rfl
  have z1 : ¬ (S : Int) = 0 := by omega
  have z2 : ¬ S = 0 := by omega
  have Hu := Lib.hid hu; have Hn := Lib.hid hown; clear hu hown c0 c1 c2 f1 f2
  go_still_tail 15, (by kernel_rfl)
  simp only [World.drew_eq]
  clear s2 s3
  go_wp2
  go_ret
  refine ⟨v, rfl, ?_, ⟨?_, ?_, h.ne⟩, ?_⟩
  · refine own_upd (F := [b]) Hn.out ?_ (fun k hk => ?_)
    · exact (((Upd.refl _ _).setCell (.inr (by simp)) _).setCell (.inr (by simp)) _).drew
    · have := own_ge Hn.out k hk
      have := lt_of_block h.hb
      simp; omega
  · simp only [heap_drew]; rw [heap_setCell_self (heap_setCell_self h'.hb _)]
    have : ((n - m : Nat) : Int) = (n : Int) - m := by omega
    simp [this]
  · simp only [heap_drew]; rw [heap_setCell_ne _ h.ne, heap_setCell_ne _ h.ne]; exact h'.hrb
  · have hu2 : Upd [b] w w' := (Upd.refl _ _).trans Hu.out (by simp)
    exact ((hu2.setCell (.inr (by simp)) _).setCell (.inr (by simp)) _).drew
/-! The ring as a list of bytes. -/
theorem mod2 {a S : Nat} (h : a < 2 * S) : a % S = if a < S then a else a - S := by
  split
  · rename_i h'; exact Nat.mod_eq_of_lt h'
  · rw [Nat.mod_eq_sub_mod (by omega), Nat.mod_eq_of_lt (by omega)]
theorem look_set (l : List UInt8) (head n p : Nat) (x : UInt8) (hh : head < l.length) (hn : n < l.length) (hp : p = (head + n) % l.length) :
    look (l.set p x) head (n + 1) = look l head n ++ [x] := by
  have hpl : p < l.length := by rw [hp]; exact Nat.mod_lt _ (by omega)
  rw [look_succ]
  congr 1
  · unfold look
    apply List.map_congr_left
    intro i hi
    have hi' : i < n := by simpa using hi
    have h1 := mod2 (a := head + i) (S := l.length) (by omega)
    have h2 := mod2 (a := head + n) (S := l.length) (by omega)
    have hne : p ≠ (head + i) % l.length := by rw [hp, h1, h2]; split <;> split <;> omega
    simp [List.getElem?_set_ne hne]
  · simp [← hp, hpl]
theorem look_put (room : List UInt8) (head n : Nat) (bs : List UInt8) (k : Nat) (hh : head < room.length) (hk : n + k ≤ room.length) (hb : k ≤ bs.length) :
    look (putK room (head + n) bs k) head (n + k) = look room head n ++ bs.take k := by
  induction k with
  | zero => simp [putK]
  | succ k ih =>
    have hs := look_set (putK room (head + n) bs k) head (n + k) ((head + n + k) % room.length) (bs.getD k 0) (by rw [putK_length]; exact hh) (by rw [putK_length]; omega) (by rw [putK_length, Nat.add_assoc])
    rw [show n + (k + 1) = n + k + 1 by omega, putK, hs, ih (by omega) (by omega)]
    have hkb : k < bs.length := by omega
    rw [List.append_assoc, List.take_succ_eq_append_getElem hkb]
    simp [hkb]
theorem look_take (room : List UInt8) (head n m : Nat) (h : m ≤ n) : look room head m = (look room head n).take m := by
  unfold look
  rw [← List.map_take, List.take_range, Nat.min_eq_left h]
theorem look_drop (room : List UInt8) (head n m : Nat) : look room ((head + m) % room.length) (n - m) = (look room head n).drop m := by
  apply List.ext_getElem
  · simp [look]
  · intro i h1 h2
    simp only [look, List.length_map, List.length_range] at h1
    simp only [look, List.getElem_map, List.getElem_range, List.getElem_drop]
    rw [Nat.mod_add_mod, Nat.add_assoc]
structure Ring (w : World) (b rb S : Nat) (q : List UInt8) : Prop where
  rep : ∃ room head, RingRep w b rb S room head q.length ∧ room.length = S ∧ head < S ∧ look room head q.length = q
  le : q.length ≤ S
  one : 1 ≤ S
  S_le : S ≤ 4096
theorem Ring.upd {w w' : World} {b rb S : Nat} {q : List UInt8} {F : List Nat} (h : Ring w b rb S q) (hu : Upd F w w') (h1 : b ∉ F) (h2 : rb ∉ F) : Ring w' b rb S q := by
  obtain ⟨⟨room, head, hr, x⟩, h3, h4, h5⟩ := h
  exact ⟨⟨room, head, hr.upd hu h1 h2, x⟩, h3, h4, h5⟩
theorem Ring.drewN {w : World} {b rb S : Nat} {q : List UInt8} (h : Ring w b rb S q) (k : Nat) : Ring (w.drewN k) b rb S q := by
  obtain ⟨⟨room, head, hr, x⟩, h3, h4, h5⟩ := h
  exact ⟨⟨room, head, hr.drew k, x⟩, h3, h4, h5⟩
theorem Ring.lt {w : World} {b rb S : Nat} {q : List UInt8} (h : Ring w b rb S q) : b < w.heap.size ∧ rb < w.heap.size := by
  obtain ⟨⟨room, head, hr, x⟩, h3, h4, h5⟩ := h
  exact ⟨lt_of_block hr.hb, lt_of_block hr.hrb⟩
theorem Ring_room {w : World} {b rb S : Nat} {q : List UInt8} (h : Ring w b rb S q) :
    Calls Try.prog 18 #[.pointer (some ⟨b, 0, none⟩)] w fun e w' => e = .returned (.int .i64 ((S : Int) - q.length)) ∧ ∃ k, w' = w.drewN k := by
  obtain ⟨⟨room, head, hr, h0, h1, h2⟩, h3, h4, h5⟩ := h
  exact ring_room w b rb S room head _ hr h5 h3
theorem Ring_len {w : World} {b rb S : Nat} {q : List UInt8} (h : Ring w b rb S q) :
    Calls Try.prog 20 #[.pointer (some ⟨b, 0, none⟩)] w fun e w' => e = .returned (.int .i64 q.length) ∧ w = w' := by
  obtain ⟨⟨room, head, hr, h0, h1, h2⟩, h3, h4, h5⟩ := h
  exact ring_len w b rb S room head _ hr
theorem Ring_clear {w : World} {b rb S : Nat} {q : List UInt8} (h : Ring w b rb S q) :
    Calls Try.prog 24 #[.pointer (some ⟨b, 0, none⟩)] w fun e w' => e = .returned (.int .i64 q.length) ∧ Ring w' b rb S [] ∧ Upd [b] w w' := by
  obtain ⟨⟨room, head, hr, h0, h1, h2⟩, h3, h4, h5⟩ := h
  refine (ring_clear w b rb S room head _ hr).mono ?_
  rintro e w' ⟨rfl, hr', hu⟩
  exact ⟨rfl, ⟨⟨room, 0, hr', h0, by omega, rfl⟩, by simp, h4, h5⟩, hu⟩
theorem Ring_new_any (w : World) (sz : Int) (size : Nat) (hsize : size = (max 1 (min sz 4096)).toNat) :
    Calls Try.prog 15 #[.int .i64 sz] w fun e w' => ∃ b rb, e = .returned (.pointer (some ⟨b, 0, none⟩)) ∧ Ring w' b rb size [] ∧ Upd [] w w' ∧ w.heap.size ≤ b ∧ w.heap.size ≤ rb := by
  refine (ring_new w sz size hsize).mono ?_
  rintro e w' ⟨b, rb, rfl, hr, hu, g1, g2, g3, g4⟩
  exact ⟨b, rb, rfl, ⟨⟨_, 0, hr, by simp, by omega, rfl⟩, by simp, by omega, by omega⟩, hu, g1, g2⟩
theorem Ring_new (w : World) (size : Nat) (h1 : 1 ≤ size) (h2 : size ≤ 4096) :
    Calls Try.prog 15 #[.int .i64 size] w fun e w' => ∃ b rb, e = .returned (.pointer (some ⟨b, 0, none⟩)) ∧ Ring w' b rb size [] ∧ Upd [] w w' ∧ w.heap.size ≤ b ∧ w.heap.size ≤ rb :=
  Ring_new_any w size size (by omega)
theorem Ring_put {w : World} {b rb S : Nat} {q : List UInt8} (h : Ring w b rb S q) (A : Option Addr) (bs : List UInt8) (c : Nat) (hbs : BytesAt w A bs) (hA : ∀ ab ao, bs ≠ [] → A = some ⟨ab, ao, none⟩ → ab ≠ rb) (hlen : bs.length ≤ 100000) :
    Calls Try.prog 17 #[.pointer (some ⟨b, 0, none⟩), .slice A bs.length c] w fun e w' => e = .returned (.int .i64 (min bs.length (S - q.length) : Nat)) ∧
      Ring w' b rb S (q ++ bs.take (S - q.length)) ∧ Upd [b, rb] w w' := by
  obtain ⟨⟨room, head, hr, h0, h1, h2⟩, h3, h4, h5⟩ := h
  refine (ring_put w b rb S room head _ hr h5 h4 h3 h1 h0 A bs c hbs hA hlen).mono ?_
  rintro e w' ⟨rfl, hr', hu⟩
  refine ⟨rfl, ⟨⟨putK room (head + q.length) bs (min bs.length (S - q.length)), head, ?_, by rw [putK_length]; exact h0, h1, ?_⟩, ?_, h4, h5⟩, hu⟩
  · rw [show (q ++ bs.take (S - q.length)).length = q.length + min bs.length (S - q.length) by simp; omega]; exact hr'
  · rw [show (q ++ bs.take (S - q.length)).length = q.length + min bs.length (S - q.length) by simp; omega]
    rw [look_put _ _ _ _ _ (by omega) (by omega) (by omega), h2]
    congr 1
    rw [Nat.min_comm, ← List.take_eq_take_min]
  · simp; omega
theorem Ring_peek {w : World} {b rb S : Nat} {q : List UInt8} (h : Ring w b rb S q) :
    Calls Try.prog 26 #[.pointer (some ⟨b, 0, none⟩)] w fun e w' => ∃ v, e = .returned v ∧ w'.ownsRow w.heap.size 5 1 v q.length (q.map B) ∧ Upd [] w w' := by
  obtain ⟨⟨room, head, hr, h0, h1, h2⟩, h3, h4, h5⟩ := h
  refine (ring_peek w b rb S room head _ hr h5 h4 h1 h0 h3).mono ?_
  rintro e w' ⟨v, rfl, ho, hu⟩
  exact ⟨v, rfl, by rw [h2] at ho; exact ho, hu⟩
theorem Ring_take {w : World} {b rb S : Nat} {q : List UInt8} (h : Ring w b rb S q) (t : Int) :
    Calls Try.prog 19 #[.pointer (some ⟨b, 0, none⟩), .int .i64 t] w fun e w' => ∃ v, e = .returned v ∧ w'.ownsRow w.heap.size 5 1 v (min t.toNat q.length) ((q.take t.toNat).map B) ∧
      Ring w' b rb S (q.drop t.toNat) ∧ Upd [b] w w' := by
  obtain ⟨⟨room, head, hr, h0, h1, h2⟩, h3, h4, h5⟩ := h
  refine (ring_take w b rb S room head _ hr h5 h4 h1 h0 h3 t _ _ rfl rfl).mono ?_
  rintro e w' ⟨v, rfl, ho, hr', hu⟩
  have e1 : q.take (min t.toNat q.length) = q.take t.toNat := by rw [← List.take_eq_take_min]
  have e2 : q.drop (min t.toNat q.length) = q.drop t.toNat := by
    rcases Nat.le_total t.toNat q.length with h | h
    · rw [Nat.min_eq_left h]
    · rw [Nat.min_eq_right h, List.drop_eq_nil_of_le (Nat.le_refl _), List.drop_eq_nil_of_le h]
  refine ⟨v, rfl, ?_, ⟨⟨room, (head + min t.toNat q.length) % S, ?_, h0, Nat.mod_lt _ (by omega), ?_⟩, by simp; omega, h4, h5⟩, hu⟩
  · rw [look_take _ _ q.length _ (Nat.min_le_right _ _), h2, e1] at ho; exact ho
  · rw [show (q.drop t.toNat).length = q.length - min t.toNat q.length by simp; omega]; exact hr'
  · rw [show (q.drop t.toNat).length = q.length - min t.toNat q.length by simp; omega]
    have := look_drop room head q.length (min t.toNat q.length)
    rw [h0, h2, e2] at this
    exact this
end Go.Proofs.Ytmcbllpkgeihgaa
