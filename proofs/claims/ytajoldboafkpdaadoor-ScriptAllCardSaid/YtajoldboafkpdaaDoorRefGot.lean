-- lockkeeperref27.ints: contract.
-- lockkeeperref27.got: contract.
import Derived.Test.YtajoldboafkpdaaDoorParseEq
import Derived.Test.YtajoldboafkpdaaDoorReader
import Derived.Test.YtajoldboafkpdaaDoorRefCount
import Derived.Test.YtajoldboafkpdaaDoorApp
import Derived.Test.YtajoldboafkpdaaDoorScSplit
import Derived.Test.YtajoldboafkpdaaDoorRefTok
namespace Go.Proofs.YtajoldboafkpdaaDoor
set_option linter.unusedSimpArgs false
set_option linter.unusedVariables false
open Go.RowKit Go.Lk
theorem int_facts (x : Bs) : (countS x 9223372036854775807).2 = intP x ∧ (intP x = true → ((countS x 9223372036854775807).1 : Int) = intS x) := by
  have h := intR_eq x
  unfold intR at h
  unfold intP
  split at h
  · rename_i hc
    split at h
    · rename_i hp
      injection h with h
      exact ⟨by rw [hc, hp], fun _ => h⟩
    · cases h
  · rename_i hc
    split at h
    · cases h
    · rename_i hp
      refine ⟨?_, fun hh => absurd hh hp⟩
      rw [Bool.not_eq_true] at hc hp
      rw [hc, hp]
theorem own_ints {w : World} {base n c : Nat} {A : Option Addr} {l : List Int} (h : w.ownsRow base 3 1 (.slice A n c) n (l.map (Value.int .i64))) : IntsAt w A l := fun j x hj => by
  obtain ⟨g, cap, hv, _, hc⟩ := own_cell h j (.int .i64 x) (by rw [List.getElem?_map, hj]; rfl)
  injection hv with hA _ _
  exact ⟨g, 0, hA, by rw [Nat.zero_add]; exact hc⟩
set_option maxRecDepth 100000 in
set_option maxHeartbeats 1600000 in
theorem ref_ints {w : World} {A : Option Addr} {c : Nat} {ws : List Bs} (hA : StrsAt w A ws) (hl : RdLim ws) :
    Calls Tryd.prog 69 #[.slice A ws.length c] w fun e w' => ∃ B d l, e = .returned (.tuple #[.slice B l.length d, .bool (ws.all intP)]) ∧ (ws.all intP = true → l = ws.map intS) ∧ IntsAt w' B l ∧ (∀ ab ao, B = some ⟨ab, ao, none⟩ → w.heap.size ≤ ab) ∧ Upd [] w w' := by
  obtain ⟨i0, hi, hz0, hz1, hz2⟩ := info_parts Tryd.infoInt
  have HA := Lib.hid hA; have HL := Lib.hid hl; clear hA
  obtain ⟨r, hr⟩ : ∃ r, r = ws.all intP := ⟨_, rfl⟩
  have HR := Lib.hid hr
  rw [← hr]
  clear hr
  go_enter Tryd.func69, Tryd.ntmps69
  go_wp2_with fail
  go_loopw [4, 5] (fun v4 v5 wr => ∃ (k : Nat) (l : List Int), k ≤ ws.length ∧ v5 = .int .i64 k ∧ l = (ws.take k).map intS ∧ l.length = k ∧ wr.ownsRow w.heap.size 3 1 v4 l.length (l.map (Value.int .i64)) ∧ (ws.take k).all intP = true ∧ Upd [] w wr) (fun _ v5 _ => ws.length - (intOf v5).toNat)
  case atStart => exact ⟨0, [], by omega, rfl, rfl, rfl, World.ownsRow_nil _ _ _ _, rfl, Upd.refl _ _⟩
  case round =>
    obtain ⟨k, l, hk, rfl, hle, hll, hown, hall, hu⟩ := hrel
    subst hll
    have HLE := Lib.hid hle; clear hle
    have HO := Lib.hid hown; have HU := Lib.hid hu; have HP := Lib.hid hall; clear hown hu hall
    obtain ⟨A3, c3, rfl⟩ := own_slice HO.out
    have hlim := hl.1
    by_cases hlt : l.length < ws.length
    · obtain ⟨x, hx⟩ : ∃ x, x = ws[l.length] := ⟨_, rfl⟩
      obtain ⟨ab, ao, hAe, hc0⟩ := HA.out l.length x (by simp [hx, hlt])
      subst hAe
      have hcx : wr.cell? ⟨ab, ao + l.length, none⟩ = some (.string ⟨x.toArray⟩) := (World.cell?_of_block (HU.out.block ab (World.block_lt_of_cell? _ _ hc0) (by simp))).trans hc0
      have htk : ws.take (l.length + 1) = ws.take l.length ++ [x] := by rw [List.take_succ_eq_append_getElem hlt, hx]
      have hmem : x ∈ ws := by rw [hx]; exact List.getElem_mem hlt
      have q := ref_int x wr (HL.out.2 x hmem)
      have hf := int_facts x
      rw [hf.1] at q
      cases hp : intP x with
      | false =>
        have hrf : r = false := by
          rw [HR.out, Bool.eq_false_iff]
          intro h
          have := (List.all_eq_true.1 h) x hmem
          rw [hp] at this; cases this
        rw [hp] at q
        have Q := Lib.hid q; have HRF := Lib.hid hrf
        clear q hrf hf hp hx hmem htk hc0
        go_wp2_with fail
        refine Q.out.mono ?_
        rintro e wt ⟨rfl, hwt⟩
        rw [hwt]; clear hwt wt Q
        go_wp2_with fail
        go_ret2
        refine ⟨none, 0, [], by rw [HRF.out]; rfl, (fun h => by rw [HRF.out] at h; cases h), (fun j x hj => by cases hj), (fun ab ao e => by cases e), HU.out⟩
      | true =>
        rw [hp, hf.2 hp] at q
        have hall : (ws.take (l.length + 1)).all intP = true := by rw [htk, List.all_append, HP.out]; simp [hp]
        obtain ⟨y, hy⟩ : ∃ y, y = intS x := ⟨_, rfl⟩
        rw [← hy] at q
        have hmap : l ++ [y] = (ws.take (l.length + 1)).map intS := by rw [htk, hy, HLE.out]; simp
        have Q := Lib.hid q; have HALL := Lib.hid hall; have HMAP := Lib.hid hmap
        clear q hall hmap hf hp hx hmem htk hc0 hy
        go_wp2_with fail
        refine Q.out.mono ?_
        rintro e wt ⟨rfl, hwt⟩
        rw [hwt]; clear hwt wt Q
        go_wp2_with (at_builtin; go_loud (refine wpList_append_src _ rfl (.tmp 24) (.tmp 26) 22 rfl w.heap.size 3 i0 (.int .i64 0) 1 8 Tryd.underlying22 hi hz0 hz1 hz2 rfl (by decide) (.slice A3 l.length c3) l.length (l.map (Value.int .i64)) rfl ?q1 (some ⟨wr.heap.size, 0, none⟩) 1 1 [.int .i64 y] rfl (by simp) (cellsAt_new _ _ _) (by simp [Value.oneCell']) ?q3 ?q4 ?q5 ?q6))
        case q1 => exact own_upd HO.out ((Upd.refl [] wr).alloc _) (by simp)
        case q3 => unfold maxLen; omega
        case q4 => omega
        case q5 => have := HU.out.size; simp; omega
        intro v6 w6 hown6 hg6 hat6
        have HO6 := Lib.hid (show w6.ownsRow w.heap.size 3 1 v6 (l ++ [y]).length ((l ++ [y]).map (Value.int .i64)) by simpa using hown6)
        have HU6 := Lib.hid (show Upd [] w w6 from (HU.out.alloc _).grown hg6 (fun k hk => .inl (Go.Lk.own_ge HO.out k hk)))
        clear hown6 hg6 hat6
        go_wp2_with fail
        exact ⟨⟨l.length + 1, l ++ [y], by omega, by go_num, HMAP.out, by simp, HO6.out, HALL.out, HU6.out⟩, by simp [intOf]; omega⟩
    · have hkl : l.length = ws.length := by omega
      have hrt : r = true := by rw [HR.out]; have := HP.out; rw [hkl, List.take_length] at this; exact this
      have hmp : ws.take l.length = ws := by rw [hkl, List.take_length]
      have hlw : l = ws.map intS := by rw [HLE.out, hmp]
      have HRT := Lib.hid hrt; have HLW := Lib.hid hlw
      clear hrt hmp hkl hlw
      go_wp2_with fail
      go_ret2
      refine ⟨A3, c3, l, ?_, fun _ => HLW.out, own_ints HO.out, fun ab ao e => ?_, HU.out⟩
      · rw [HRT.out]; rfl
      · subst e; exact Go.Lk.own_ge HO.out ab rfl
end Go.Proofs.YtajoldboafkpdaaDoor
namespace Go.Proofs.YtajoldboafkpdaaDoor
set_option linter.unusedSimpArgs false
set_option linter.unusedVariables false
open Go.RowKit Go.Lk
theorem hdr_facts (x : Bs) : ((61 : UInt8) ∉ x → hdrP x = false) ∧ (∀ p q, x = p ++ 61 :: q → (61 : UInt8) ∉ p → hdrP x = (tokenS p && (unhexS q).isSome) ∧ hdrS x = (p, (unhexS q).getD [])) := by
  have h := hdrR_eq x
  have hc : hdrP x = (hdrR x).isSome := by
    rw [h]; unfold hdrP
    cases hh : (tokenS (hdrS x).1 && decide (hdrW (hdrS x) = x)) <;> simp [hh]
  constructor
  · intro hn
    rw [hc]; unfold hdrR
    rw [if_neg (fun hh => hn hh.1)]; rfl
  · rintro p q rfl hp
    have hcut := Go.Lk.cut_mid 61 p q hp
    refine ⟨?_, by unfold hdrS; rw [hcut]⟩
    rw [hc]; unfold hdrR
    rw [hcut]
    simp only [List.mem_append, List.mem_cons, true_or, or_true, true_and]
    cases tokenS p <;> cases unhexS q <;> simp
theorem hdrCells_at : ∀ (l : List (Bs × Bs)) (j : Nat) (h : Bs × Bs), l[j]? = some h → (hdrCells l)[j * 2]? = some (strV h.1) ∧ (hdrCells l)[j * 2 + 1]? = some (strV h.2)
  | [], j, h, e => by cases e
  | y :: l, 0, h, e => by obtain rfl : y = h := by simpa using e
                          exact ⟨rfl, rfl⟩
  | y :: l, j + 1, h, e => by
    have := hdrCells_at l j h (by simpa using e)
    have e2 : (j + 1) * 2 = j * 2 + 1 + 1 := by omega
    rw [e2]
    exact this
theorem own_hdrs {w : World} {base n c : Nat} {A : Option Addr} {l : List (Bs × Bs)} (h : w.ownsRow base 100 2 (.slice A n c) n (hdrCells l)) : HdrsAt w A l := fun j x hj => by
  obtain ⟨h1, h2⟩ := hdrCells_at l j x hj
  obtain ⟨g, cap, hv, _, hc⟩ := own_cell h _ _ h1
  obtain ⟨g', cap', hv', _, hc'⟩ := own_cell h _ _ h2
  injection hv with hA _ _
  subst hA
  injection hv' with hA' _ _
  injection hA' with hA'
  injection hA' with hA' _ _
  subst hA'
  exact ⟨g, 0, rfl, by rw [Nat.zero_add]; exact hc, by rw [Nat.zero_add]; exact hc'⟩
set_option maxRecDepth 100000 in
set_option maxHeartbeats 1600000 in
theorem ref_got {w : World} {A : Option Addr} {c : Nat} {ws : List Bs} (hA : StrsAt w A ws) (hl : RdLim ws) :
    Calls Tryd.prog 73 #[.slice A ws.length c] w fun e w' => ∃ B d l, e = .returned (.tuple #[.slice B l.length d, .bool (ws.all hdrP)]) ∧ (ws.all hdrP = true → l = ws.map hdrS) ∧ HdrsAt w' B l ∧ (∀ ab ao, B = some ⟨ab, ao, none⟩ → w.heap.size ≤ ab) ∧ Upd [] w w' := by
  obtain ⟨i0, hi, hz0, hz1, hz2⟩ := info_parts Tryd.infoHeader
  have HA := Lib.hid hA; have HL := Lib.hid hl; clear hA
  obtain ⟨r, hr⟩ : ∃ r, r = ws.all hdrP := ⟨_, rfl⟩
  have HR := Lib.hid hr
  rw [← hr]
  clear hr
  go_enter Tryd.func73, Tryd.ntmps73
  go_wp2_with fail
  go_loopw [4, 5] (fun v4 v5 wr => ∃ (l : List (Bs × Bs)), l.length ≤ ws.length ∧ v5 = .int .i64 l.length ∧ l = (ws.take l.length).map hdrS ∧ wr.ownsRow w.heap.size 100 2 v4 l.length (hdrCells l) ∧ (ws.take l.length).all hdrP = true ∧ Upd [] w wr) (fun _ v5 _ => ws.length - (intOf v5).toNat)
  case atStart => exact ⟨[], by simp, rfl, rfl, World.ownsRow_nil _ _ _ _, rfl, Upd.refl _ _⟩
  case round =>
    obtain ⟨l, hk, rfl, hle, hown, hall, hu⟩ := hrel
    have HLE := Lib.hid hle; clear hle
    have HO := Lib.hid hown; have HU := Lib.hid hu; have HP := Lib.hid hall; clear hown hu hall
    obtain ⟨A3, c3, rfl⟩ := own_slice HO.out
    have hlim := hl.1
    by_cases hlt : l.length < ws.length
    · obtain ⟨x, hx⟩ : ∃ x, x = ws[l.length] := ⟨_, rfl⟩
      obtain ⟨ab, ao, hAe, hc0⟩ := HA.out l.length x (by simp [hx, hlt])
      subst hAe
      have hcx : wr.cell? ⟨ab, ao + l.length, none⟩ = some (.string ⟨x.toArray⟩) := (World.cell?_of_block (HU.out.block ab (World.block_lt_of_cell? _ _ hc0) (by simp))).trans hc0
      have htk : ws.take (l.length + 1) = ws.take l.length ++ [x] := by rw [List.take_succ_eq_append_getElem hlt, hx]
      have hmem : x ∈ ws := by rw [hx]; exact List.getElem_mem hlt
      have hxl := HL.out.2 x hmem
      have hbad : hdrP x = false → r = false := fun hp => by
        rw [HR.out, Bool.eq_false_iff]
        intro h
        have := (List.all_eq_true.1 h) x hmem
        rw [hp] at this; cases this
      have HBAD := Lib.hid hbad; have HTK := Lib.hid htk; have HC0 := Lib.hid hc0
      clear hbad htk hmem hx hc0
      go_wp2_with fail
      go_loopw [6] (fun v6 wr2 => ∃ (k : Nat), k ≤ x.length ∧ v6 = .int .i64 k ∧ (61 : UInt8) ∉ x.take k ∧ wr2 = wr) (fun v6 _ => x.length - (intOf v6).toNat)
      case atStart => exact ⟨0, by omega, rfl, by simp, rfl⟩
      case round =>
        obtain ⟨k, hkx, rfl, hno, rfl⟩ := hrel
        have HNO := Lib.hid hno; clear hno
        by_cases hkl : k < x.length
        · have hg := get_list x k hkl
          obtain ⟨y, hy⟩ : ∃ y, y = x[k] := ⟨_, rfl⟩
          rw [← hy] at hg
          by_cases h61 : y = 61
          · have hb : ((y.toNat : Int) != 61) = false := by rw [h61]; rfl
            obtain ⟨p, hp⟩ : ∃ p, p = x.take k := ⟨_, rfl⟩
            obtain ⟨q, hq⟩ : ∃ q, q = x.drop (k + 1) := ⟨_, rfl⟩
            have hxe : x = p ++ 61 :: q := by
              rw [hp, hq, ← h61, hy, ← List.drop_eq_getElem_cons hkl, List.take_append_drop]
            obtain ⟨f1, f2⟩ := (hdr_facts x).2 p q hxe (by rw [hp]; exact HNO.out)
            have he1 : ByteArray.extract ⟨x.toArray⟩ 0 k = ⟨p.toArray⟩ := by rw [Lib.extract_eq, hp]; simp
            have he2 : ByteArray.extract ⟨x.toArray⟩ (k + 1) x.length = ⟨q.toArray⟩ := by
              rw [Lib.extract_eq, hq]
              show (⟨((x.drop (k + 1)).take (x.length - (k + 1))).toArray⟩ : ByteArray) = _
              rw [List.take_of_length_le (by rw [List.length_drop]; omega)]
            have hpl : p.length ≤ x.length := by rw [hp, List.length_take]; omega
            have hql : q.length ≤ x.length := by rw [hq, List.length_drop]; omega
            have F1 := Lib.hid f1; have F2 := Lib.hid f2
            clear f1 f2 hxe hp hq hy h61
            have hkn : ((k : Int) == (x.length : Int)) = false := by rw [beq_eq_false_iff_ne]; omega
            have q1 := ref_token p wr (by omega)
            obtain ⟨tk, htk⟩ : ∃ tk, tk = tokenS p := ⟨_, rfl⟩
            rw [← htk] at q1
            have HT2 := Lib.hid htk; have Q1 := Lib.hid q1
            clear htk q1
            go_wp2_with fail
            refine Q1.out.mono ?_
            rintro e wt ⟨rfl, hwt⟩
            rw [hwt]; clear hwt wt Q1
            cases tk with
            | false =>
              have hrf : r = false := HBAD.out (by rw [F1.out, ← HT2.out]; rfl)
              have HRF := Lib.hid hrf; clear hrf
              go_wp2_with fail
              go_ret2
              refine ⟨none, 0, [], by rw [HRF.out]; rfl, (fun h => by rw [HRF.out] at h; cases h), (fun j x hj => by cases hj), (fun ab ao e => by cases e), HU.out⟩
            | true =>
            have q2 := ref_bytes wr q (by omega)
            obtain ⟨b, hb2⟩ : ∃ b, b = (unhexS q).getD [] := ⟨_, rfl⟩
            obtain ⟨ok, hok⟩ : ∃ ok, ok = (unhexS q).isSome := ⟨_, rfl⟩
            rw [← hb2, ← hok] at q2
            have HB2 := Lib.hid hb2; have HOK := Lib.hid hok; have Q2 := Lib.hid q2
            clear hb2 hok q2
            go_wp2_with fail
            refine Q2.out.mono ?_
            rintro e w3 ⟨v, rfl, hv, hvo, hu3⟩
            have HV := Lib.hid hv; have HU3 := Lib.hid (HU.out.trans hu3 (by simp)); have HU23 := Lib.hid hu3
            clear hv hvo hu3 Q2
            cases ok with
            | false =>
              have hrf : r = false := HBAD.out (by rw [F1.out, ← HOK.out]; simp)
              have HRF := Lib.hid hrf; clear hrf
              go_wp2_with fail
              go_ret2
              refine ⟨none, 0, [], by rw [HRF.out]; rfl, (fun h => by rw [HRF.out] at h; cases h), (fun j x hj => by cases hj), (fun ab ao e => by cases e), HU3.out⟩
            | true =>
            have hpx : hdrP x = true := by rw [F1.out, ← HT2.out, ← HOK.out]; rfl
            have hdx : hdrS x = (p, b) := by rw [F2.out, ← HB2.out]
            have hall : (ws.take (l.length + 1)).all hdrP = true := by rw [HTK.out, List.all_append, HP.out]; simp [hpx]
            have hmap : l ++ [(p, b)] = (ws.take (l.length + 1)).map hdrS := by rw [HTK.out, List.map_append, ← HLE.out]; simp [hdx]
            have HALL := Lib.hid hall; have HMAP := Lib.hid hmap
            clear hpx hdx hall hmap hcx
            have hcx3 : w3.cell? ⟨ab, ao + l.length, none⟩ = some (.string ⟨x.toArray⟩) := (World.cell?_of_block (HU3.out.block ab (World.block_lt_of_cell? _ _ HC0.out) (by simp))).trans HC0.out
            go_wp2_with fail
            refine wp_region_proc [(0, 0), (1, 0), (2, 0), (3, 0), (4, 0), (5, 0), (6, 0), (7, 0), (8, 0), (9, 0), (10, 1), (11, 2), (12, 0)] (fun W => W.cell? ⟨ab, ao + l.length, none⟩ = some (.string ⟨x.toArray⟩) ∧ BytesV W v b) (by kernel_rfl) (by kernel_rfl) (fun c a w t v h => by cases t <;> exact h) ⟨hcx3, HV.out⟩ ?_
            repeat
              (first
                | (apply proc_held
                   case ho => simp only [List.getElem?_toArray, List.getElem?_cons_succ, List.getElem?_cons_zero]; rfl
                   case hg => rfl
                   case hv => intro W hW; (try dsimp only at hW); go_simp; rfl
                   case ha => go_simp; rfl)
                | (apply proc_held_on
                   case ho => simp only [List.getElem?_toArray, List.getElem?_cons_succ, List.getElem?_cons_zero]; rfl
                   case hg => rfl
                   case hv => intro W hW; (try dsimp only at hW); go_simp; rfl
                   case ha => go_simp; rfl)
                | (apply proc_off
                   case ho => simp only [List.getElem?_toArray, List.getElem?_cons_succ, List.getElem?_cons_zero]; rfl
                   case hg => rfl
                   case ha => go_simp; rfl))
            apply proc_held (v := .string ⟨b.toArray⟩)
            case ho => simp only [List.getElem?_toArray, List.getElem?_cons_succ, List.getElem?_cons_zero]; rfl
            case hg => rfl
            case hv =>
              intro W hW
              have hs := hW.2.str (P := Tryd.prog) 25 9 5 Tryd.underlying25 Tryd.underlying5 Tryd.underlying9
              clear hW
              go_simp
            case ha => go_simp; rfl
            repeat
              (first
                | (apply proc_held
                   case ho => simp only [List.getElem?_toArray, List.getElem?_cons_succ, List.getElem?_cons_zero]; rfl
                   case hg => rfl
                   case hv => intro W hW; (try dsimp only at hW); go_simp; rfl
                   case ha => go_simp; rfl)
                | (apply proc_held_on
                   case ho => simp only [List.getElem?_toArray, List.getElem?_cons_succ, List.getElem?_cons_zero]; rfl
                   case hg => rfl
                   case hv => intro W hW; (try dsimp only at hW); go_simp; rfl
                   case ha => go_simp; rfl)
                | (apply proc_off
                   case ho => simp only [List.getElem?_toArray, List.getElem?_cons_succ, List.getElem?_cons_zero]; rfl
                   case hg => rfl
                   case ha => go_simp; rfl))
            apply proc_eff
            case ho => simp only [List.getElem?_toArray, List.getElem?_cons_succ, List.getElem?_cons_zero]; rfl
            simp only [World.drew_eq]
            go_wp2_with fail
            obtain ⟨w4, hw4⟩ : ∃ w4, w4 = (w3.alloc (.cells #[.string ⟨p.toArray⟩, .string ⟨b.toArray⟩] 100)).drew := ⟨_, rfl⟩
            have hu34 : Upd [] w3 w4 := by rw [hw4]; exact ((Upd.refl [] w3).alloc _).drew
            have hb4 : w4.heap[w3.heap.size]? = some (.cells #[.string ⟨p.toArray⟩, .string ⟨b.toArray⟩] 100) := by rw [hw4]; exact heap_alloc_self _
            rw [← hw4]
            have hcx4 := (World.cell?_of_block (hu34.block ab (World.block_lt_of_cell? _ _ hcx3) (by simp))).trans hcx3
            have hv4 : BytesV w4 v b := by
              obtain ⟨A5, c5, rfl, h1, h2⟩ := HV.out
              exact ⟨A5, c5, rfl, h1, h2.upd0 hu34⟩
            have HB4 := Lib.hid hb4; have HU34 := Lib.hid hu34
            have hs3 : w3.heap.size < w4.heap.size := (Array.getElem?_eq_some_iff.1 hb4).1
            clear hw4 hu34 hb4
            refine ⟨_, fun _ h => h, ⟨hcx4, hv4⟩, ?_⟩
            apply proc_last
            case ho => simp only [List.getElem?_toArray, List.getElem?_cons_succ, List.getElem?_cons_zero]; rfl
            go_wp2_with (at_builtin; refine wpList_append_src _ rfl (.tmp 63) (.tmp 73) 24 rfl w.heap.size 100 i0 (.agg #[.string ⟨#[]⟩, .string ⟨#[]⟩]) 2 32 Tryd.underlying24 hi hz0 hz1 hz2 rfl (by decide) (.slice A3 l.length c3) l.length (hdrCells l) rfl ?q1 (some ⟨w3.heap.size, 0, none⟩) 1 1 [.string ⟨p.toArray⟩, .string ⟨b.toArray⟩] rfl rfl ?q2 (by simp [Value.oneCell']) ?q3 ?q4 ?q5 ?q6)
            case q1 => exact own_upd HO.out (HU23.out.trans HU34.out (by simp)) (by simp)
            case q2 =>
              intro j u hj
              refine ⟨_, rfl, ?_⟩
              rw [Go.Lk.add_plain, Nat.zero_add]
              exact cell_of (i := j) HB4.out (by simpa using hj)
            case q3 => unfold maxLen; omega
            case q4 => omega
            case q5 => have := HU3.out.size; omega
            intro v6 w6 hown6 hg6 hat6
            have HO6 := Lib.hid (show w6.ownsRow w.heap.size 100 2 v6 (l ++ [(p, b)]).length (hdrCells (l ++ [(p, b)])) by rw [hdrCells_append, List.length_append]; exact hown6)
            have HU6 := Lib.hid (show Upd [] w w6 from (HU3.out.trans HU34.out (by simp)).grown hg6 (fun k hk => .inl (Go.Lk.own_ge HO.out k hk)))
            clear hown6 hg6 hat6
            go_wp2_with fail
            refine ⟨fun _ => True, trivial, ?_⟩
            repeat
              (first
                | (apply proc_held
                   case ho => simp only [List.getElem?_toArray, List.getElem?_cons_succ, List.getElem?_cons_zero]; rfl
                   case hg => rfl
                   case hv => intro W hW; (try dsimp only at hW); go_simp; rfl
                   case ha => go_simp; rfl)
                | (apply proc_held_on
                   case ho => simp only [List.getElem?_toArray, List.getElem?_cons_succ, List.getElem?_cons_zero]; rfl
                   case hg => rfl
                   case hv => intro W hW; (try dsimp only at hW); go_simp; rfl
                   case ha => go_simp; rfl)
                | (apply proc_off
                   case ho => simp only [List.getElem?_toArray, List.getElem?_cons_succ, List.getElem?_cons_zero]; rfl
                   case hg => rfl
                   case ha => go_simp; rfl))
            refine proc_nil ?_
            go_wp2_with fail
            exact ⟨⟨l ++ [(p, b)], by simp; omega, by rw [List.length_append]; go_num, by rw [List.length_append]; exact HMAP.out, HO6.out, by rw [List.length_append]; exact HALL.out, HU6.out⟩, by simp [intOf]; omega⟩
          · have hb : ((y.toNat : Int) != 61) = true := by
              rw [bne_iff_ne]
              intro h
              apply h61
              apply UInt8.toNat_inj.1
              show y.toNat = 61
              omega
            have hno : (61 : UInt8) ∉ x.take (k + 1) := by
              rw [List.take_succ_eq_append_getElem hkl, ← hy, List.mem_append, List.mem_singleton]
              rintro (h | h)
              · exact HNO.out h
              · exact h61 h.symm
            have HNO2 := Lib.hid hno
            clear hno hy
            go_wp2_with fail
            exact ⟨⟨k + 1, by omega, by go_num, HNO2.out, by trivial⟩, by simp [intOf]; omega⟩
        · have hkx2 : k = x.length := by omega
          have hrf : r = false := HBAD.out ((hdr_facts x).1 (by have := HNO.out; rw [hkx2, List.take_length] at this; exact this))
          have HRF := Lib.hid hrf; clear hrf
          subst hkx2
          go_wp2_with fail
          go_ret2
          refine ⟨none, 0, [], by rw [HRF.out]; rfl, (fun h => by rw [HRF.out] at h; cases h), (fun j x hj => by cases hj), (fun ab ao e => by cases e), HU.out⟩
    · have hkl : l.length = ws.length := by omega
      have hrt : r = true := by rw [HR.out]; have := HP.out; rw [hkl, List.take_length] at this; exact this
      have hmp : ws.take l.length = ws := by rw [hkl, List.take_length]
      have hlw : l = ws.map hdrS := by rw [← hmp]; exact HLE.out
      have HRT := Lib.hid hrt; have HLW := Lib.hid hlw
      clear hrt hmp hkl hlw
      go_wp2_with fail
      go_ret2
      refine ⟨A3, c3, l, ?_, fun _ => HLW.out, own_hdrs HO.out, fun ab ao e => ?_, HU.out⟩
      · rw [HRT.out]; rfl
      · subst e; exact Go.Lk.own_ge HO.out ab rfl
end Go.Proofs.YtajoldboafkpdaaDoor
