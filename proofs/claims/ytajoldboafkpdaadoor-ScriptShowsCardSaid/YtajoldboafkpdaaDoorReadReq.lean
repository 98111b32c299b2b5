-- script.reader.request: contract.
import Derived.Test.YtajoldboafkpdaaDoorReadHdr
import Derived.Test.YtajoldboafkpdaaDoorAgg
namespace Go.Proofs.YtajoldboafkpdaaDoor
set_option linter.unusedSimpArgs false
set_option linter.unusedVariables false
open Go.RowKit Go.Lk
def Rd (w : World) (rb tb : Nat) (ws : List Bs) : Prop := ∃ A c, RdAt w rb tb A c ws
theorem Rd.upd {w w1 : World} {rb tb : Nat} {ws : List Bs} {F : List Nat} (h : Rd w rb tb ws) (hu : Upd F w w1) (h1 : rb ∉ F) (h2 : tb ∉ F) : Rd w1 rb tb ws := by
  obtain ⟨A, c, h⟩ := h
  exact ⟨A, c, h.upd hu h1 h2⟩
theorem Rd.lt {w : World} {rb tb : Nat} {ws : List Bs} (h : Rd w rb tb ws) : rb < w.heap.size := by
  obtain ⟨A, c, h⟩ := h
  exact (Array.getElem?_eq_some_iff.1 h.hb).1
theorem drop_getD (ws : List Bs) (i : Nat) : (ws.drop i).getD 0 [] = wd ws i := by simp [wd, List.getD]
/-- What a reader's words are at most. -/
def RdLim (ws : List Bs) : Prop := ws.length ≤ 1000000 ∧ ∀ x ∈ ws, x.length ≤ 1000000
theorem RdLim.drop {ws : List Bs} (h : RdLim ws) (i : Nat) : (ws.drop i).length ≤ 1000000 ∧ ∀ x ∈ ws.drop i, x.length ≤ 1000000 :=
  ⟨by rw [List.length_drop]; have := h.1; omega, fun x hx => h.2 x (List.mem_of_mem_drop hx)⟩
theorem wd_len {ws : List Bs} (h : RdLim ws) (i : Nat) : (wd ws i).length ≤ 1000000 := by
  unfold wd
  rw [List.getD_eq_getElem?_getD]
  cases hi : ws[i]? with
  | none => simp
  | some x => exact h.2 x (List.mem_of_getElem? hi)
theorem word_at {w : World} {rb tb : Nat} {ws : List Bs} (i : Nat) (h : Rd w rb tb (ws.drop i)) (hl : RdLim ws) :
    Calls Tryd.prog 37 #[.pointer (some ⟨rb, 0, none⟩)] w fun e w' => e = .returned (.string ⟨(wd ws i).toArray⟩) ∧ Rd w' rb tb (ws.drop (i + 1)) ∧ Upd [rb] w w' := by
  obtain ⟨A, c, h⟩ := h
  refine (reader_word h (hl.drop i).1).mono ?_
  rintro e w' ⟨rfl, h2, h3⟩
  rw [drop_getD, List.drop_drop] at *
  exact ⟨rfl, h2, h3⟩
theorem int_at {w : World} {rb tb : Nat} {ws : List Bs} (i : Nat) (h : Rd w rb tb (ws.drop i)) (hl : RdLim ws) :
    Calls Tryd.prog 33 #[.pointer (some ⟨rb, 0, none⟩)] w fun e w' => e = .returned (.int .i64 (intS (wd ws i))) ∧ Rd w' rb tb (ws.drop (i + 1)) ∧ Upd [rb] w w' := by
  obtain ⟨A, c, h⟩ := h
  refine (reader_int h (hl.drop i).1 (hl.drop i).2).mono ?_
  rintro e w' ⟨rfl, h2, h3⟩
  rw [drop_getD, List.drop_drop] at *
  exact ⟨rfl, h2, h3⟩
theorem num_at {w : World} {rb tb : Nat} {ws : List Bs} (i : Nat) (h : Rd w rb tb (ws.drop i)) (hl : RdLim ws) :
    Calls Tryd.prog 35 #[.pointer (some ⟨rb, 0, none⟩)] w fun e w' => e = .returned (.int .u64 ((digitsS (wd ws i)).1 : Int)) ∧ Rd w' rb tb (ws.drop (i + 1)) ∧ Upd [rb] w w' := by
  obtain ⟨A, c, h⟩ := h
  refine (reader_num h (hl.drop i).1 (hl.drop i).2).mono ?_
  rintro e w' ⟨rfl, h2, h3⟩
  rw [drop_getD, List.drop_drop] at *
  exact ⟨rfl, h2, h3⟩
theorem headers_at {w : World} {rb tb : Nat} {ws : List Bs} (i : Nat) (h : Rd w rb tb (ws.drop i)) (hl : RdLim ws) (hE : Env w) (hrb : gfree rb) (htb : tb < w.heap.size) :
    Calls Tryd.prog 36 #[.pointer (some ⟨rb, 0, none⟩)] w fun e w' => ∃ v, e = .returned v ∧ w'.ownsRow w.heap.size 100 2 v (ws.drop i).length (hdrCells ((ws.drop i).map hdrS)) ∧ Upd [rb] w w' := by
  obtain ⟨A, c, h⟩ := h
  exact reader_headers h (hl.drop i).1 (hl.drop i).2 hE hrb htb
set_option maxRecDepth 100000 in
set_option maxHeartbeats 1600000 in
theorem reader_request {w : World} {rb tb : Nat} {ws : List Bs} (h : Rd w rb tb ws) (hl : RdLim ws) (hE : Env w) (hrb : gfree rb) (htb : tb < w.heap.size) :
    Calls Tryd.prog 34 #[.pointer (some ⟨rb, 0, none⟩)] w fun e w' => ∃ vh, e = .returned (reqV (reqS ws) vh) ∧ w'.ownsRow w.heap.size 100 2 vh (reqS ws).headers.length (hdrCells (reqS ws).headers) ∧ Upd [rb] w w' := by
  have h0 : Rd w rb tb (ws.drop 0) := h
  have hlt := h.lt
  have HH := Lib.hid h0; have HE := Lib.hid hE; clear h h0 hE
  obtain ⟨r, hr⟩ : ∃ r, r = reqS ws := ⟨_, rfl⟩
  have HR := Lib.hid hr
  rw [← hr]
  clear hr
  go_enter Tryd.func34, Tryd.ntmps34
  go_wp2_with fail
  obtain ⟨wa, hwa⟩ : ∃ x, x = w.alloc (.cells #[.string ⟨#[]⟩, .string ⟨#[]⟩, .string ⟨#[]⟩, .int .i64 0, .bool false, .slice none 0 0, .int .i64 0, .int .u64 0, .int .i64 0, .int .i64 0] 27) := ⟨_, rfl⟩
  rw [← hwa]
  have haa := heap_alloc_self (w := w) (.cells #[.string ⟨#[]⟩, .string ⟨#[]⟩, .string ⟨#[]⟩, .int .i64 0, .bool false, .slice none 0 0, .int .i64 0, .int .u64 0, .int .i64 0, .int .i64 0] 27)
  rw [← hwa] at haa
  have hua : Upd [] w wa := by rw [hwa]; exact (Upd.refl [] w).alloc _
  have hsa : wa.heap.size = w.heap.size + 1 := by rw [hwa]; simp
  have HAA := Lib.hid haa; have HUA := Lib.hid hua; clear haa hua hwa
  refine (word_at 0 (HH.out.upd HUA.out (by simp) (by simp)) hl).mono ?_
  rintro e w1 ⟨rfl, hr1, u1⟩
  have H1 := Lib.hid hr1; have U1 := Lib.hid u1; clear hr1 u1
  go_wp2_with fail
  refine (word_at 1 H1.out hl).mono ?_
  rintro e w2 ⟨rfl, hr1, u1⟩
  have H2 := Lib.hid hr1; have U2 := Lib.hid (U1.out.trans u1 (by simp)); clear hr1 u1
  go_wp2_with fail
  refine (word_at 2 H2.out hl).mono ?_
  rintro e w3 ⟨rfl, hr1, u1⟩
  have H3 := Lib.hid hr1; have U3 := Lib.hid (U2.out.trans u1 (by simp)); clear hr1 u1
  go_wp2_with fail
  refine (int_at 3 H3.out hl).mono ?_
  rintro e w4 ⟨rfl, hr1, u1⟩
  have H4 := Lib.hid hr1; have U4 := Lib.hid (U3.out.trans u1 (by simp)); clear hr1 u1
  go_wp2_with fail
  generalize hb3 : w4.heap.size = b3
  have hb3' : rb ≠ b3 := by have := U4.out.size; omega
  have htb3 : tb ≠ b3 := by have := U4.out.size; omega
  have h4h := heap_alloc_self (w := w4) (.cells #[.string ⟨(wd ws 0).toArray⟩, .string ⟨(wd ws 1).toArray⟩, .string ⟨(wd ws 2).toArray⟩, .int .i64 (intS (wd ws 3)), .bool false, .slice none 0 0, .int .i64 0, .int .u64 0, .int .i64 0, .int .i64 0] 27)
  rw [hb3] at h4h
  have H4h := Lib.hid h4h; have HB3 := Lib.hid hb3; clear h4h hb3
  refine (word_at 4 (H4.out.upd ((Upd.refl [] w4).alloc _) (by simp) (by simp)) hl).mono ?_
  rintro e w5 ⟨rfl, hr1, u1⟩
  have h5h := (u1.block b3 (Array.getElem?_eq_some_iff.1 H4h.out).1 (by simp; omega)).trans H4h.out
  have H5 := Lib.hid hr1; have U5 := Lib.hid ((U4.out.alloc _).trans u1 (by simp)); clear hr1 u1
  have c4 := cell_of (i := 4) h5h rfl
  have f4 : w5.frozen? ⟨b3, 4, none⟩ = false := free_of h5h
  have H5h := Lib.hid h5h; clear h5h
  simp only [List.getElem_toArray, List.getElem_cons_succ, List.getElem_cons_zero] at c4
  go_wp2_with fail
  have hb3w : wa.heap.size ≤ b3 := by rw [← HB3.out]; exact U4.out.size
  have h5s := (heap_setCell_self H5h.out (.bool (wd ws 4 == [49])) (i := 4)).trans rfl
  have U5' := Lib.hid (U5.out.setCell (p := ⟨b3, 4, none⟩) (.inl hb3w) (.bool (wd ws 4 == [49])))
  have R5 := Lib.hid (H5.out.upd ((Upd.refl [b3] w5).setCell (p := ⟨b3, 4, none⟩) (.inr (by simp)) (.bool (wd ws 4 == [49]))) (by simp; omega) (by simp; omega))
  have H5s := Lib.hid h5s; clear h5s c4 f4
  refine (int_at 5 R5.out hl).mono ?_
  rintro e w6 ⟨rfl, hr1, u1⟩
  have H6 := Lib.hid hr1; have V6 := Lib.hid u1; clear hr1 u1
  go_wp2_with fail
  refine (num_at 6 H6.out hl).mono ?_
  rintro e w7 ⟨rfl, hr1, u1⟩
  have H7 := Lib.hid hr1; have V7 := Lib.hid (V6.out.trans u1 (by simp)); clear hr1 u1
  go_wp2_with fail
  refine (int_at 7 H7.out hl).mono ?_
  rintro e w8 ⟨rfl, hr1, u1⟩
  have H8 := Lib.hid hr1; have V8 := Lib.hid (V7.out.trans u1 (by simp)); clear hr1 u1
  go_wp2_with fail
  refine (int_at 8 H8.out hl).mono ?_
  rintro e w9 ⟨rfl, hr1, u1⟩
  have H9 := Lib.hid hr1; have V9 := Lib.hid (V8.out.trans u1 (by simp)); clear hr1 u1
  have h9h := (V9.out.block b3 (Array.getElem?_eq_some_iff.1 H5s.out).1 (by simp; omega)).trans H5s.out
  have c6 := cell_of (i := 6) h9h rfl
  have f6 : w9.frozen? ⟨b3, 6, none⟩ = false := free_of h9h
  have c7 := cell_of (i := 7) h9h rfl
  have f7 : w9.frozen? ⟨b3, 7, none⟩ = false := free_of h9h
  have c8 := cell_of (i := 8) h9h rfl
  have f8 : w9.frozen? ⟨b3, 8, none⟩ = false := free_of h9h
  have c9 := cell_of (i := 9) h9h rfl
  have f9 : w9.frozen? ⟨b3, 9, none⟩ = false := free_of h9h
  have H9h := Lib.hid h9h; clear h9h
  go_wp2_with fail
  have uS := ((((Upd.refl [b3] w9).setCell (p := ⟨b3, 6, none⟩) (.inr (by simp)) (.int .i64 (intS (wd ws 5)))).setCell (p := ⟨b3, 7, none⟩) (.inr (by simp)) (.int .u64 ((digitsS (wd ws 6)).1 : Int))).setCell (p := ⟨b3, 8, none⟩) (.inr (by simp)) (.int .i64 (intS (wd ws 7)))).setCell (p := ⟨b3, 9, none⟩) (.inr (by simp)) (.int .i64 (intS (wd ws 8)))
  have hS := heap_setCell_self (i := 9) (heap_setCell_self (i := 8) (heap_setCell_self (i := 7) (heap_setCell_self (i := 6) H9h.out (.int .i64 (intS (wd ws 5)))) (.int .u64 ((digitsS (wd ws 6)).1 : Int))) (.int .i64 (intS (wd ws 7)))) (.int .i64 (intS (wd ws 8)))
  have US := Lib.hid ((U5'.out.trans V9.out (by simp)).trans uS (by simp; omega))
  have R9 := Lib.hid (H9.out.upd uS (by simp; omega) (by simp; omega))
  have HS := Lib.hid hS; clear hS uS c6 f6 c7 f7 c8 f8 c9 f9
  have htb9 := US.out.size
  refine (headers_at 9 R9.out hl ((HE.out.upd0 HUA.out).upd US.out (by simpa using hrb)) hrb (by omega)).mono ?_
  rintro e w10 ⟨v, rfl, hown, u10⟩
  have h10 := (u10.block b3 (Array.getElem?_eq_some_iff.1 HS.out).1 (by simp; omega)).trans HS.out
  have U10 := Lib.hid (US.out.trans u10 (by simp)); clear u10
  have haa := (U10.out.block w.heap.size (by omega) (by simp; omega)).trans HAA.out
  obtain ⟨Av, cv, rfl⟩ := own_slice hown
  have HO := Lib.hid hown; clear hown
  have c5 := cell_of (i := 5) h10 rfl
  have f5 : w10.frozen? ⟨b3, 5, none⟩ = false := free_of h10
  have h10b := (heap_setCell_self h10 (.slice Av (ws.drop 9).length cv) (i := 5)).trans rfl
  have U11 := Lib.hid ((Upd.refl [b3] w10).setCell (p := ⟨b3, 5, none⟩) (.inr (by simp)) (.slice Av (ws.drop 9).length cv))
  have hab := (U11.out.block w.heap.size (Array.getElem?_eq_some_iff.1 haa).1 (by simp; omega)).trans haa
  rw [List.length_drop] at h10b hab
  have HB := Lib.hid h10b; have HAB := Lib.hid hab; clear h10b hab haa
  have H10 := Lib.hid h10; clear h10
  have hag : aggOf Tryd.prog 27 10 = true := by kernel_rfl
  have hLb : LiesAt (w10.setCell ⟨b3, 5, none⟩ (.slice Av (ws.length - 9) cv)) b3 0 [.string ⟨(wd ws 0).toArray⟩, .string ⟨(wd ws 1).toArray⟩, .string ⟨(wd ws 2).toArray⟩, .int .i64 (intS (wd ws 3)), .bool (wd ws 4 == [49]), .slice Av (ws.length - 9) cv, .int .i64 (intS (wd ws 5)), .int .u64 ((digitsS (wd ws 6)).1 : Int), .int .i64 (intS (wd ws 7)), .int .i64 (intS (wd ws 8))] := LiesAt.of_block HB.out
  have hsr : ∃ T0, (w10.setCell ⟨b3, 5, none⟩ (.slice Av (ws.length - 9) cv)).heap[w.heap.size]? = some (.cells #[.string ⟨#[]⟩, .string ⟨#[]⟩, .string ⟨#[]⟩, .int .i64 0, .bool false, .slice none 0 0, .int .i64 0, .int .u64 0, .int .i64 0, .int .i64 0] T0 (0, 0)) := ⟨_, HAB.out⟩
  obtain ⟨T0, hsr⟩ := hsr
  have hcs1 : ∃ cs : List Value, cs = [.string ⟨(wd ws 0).toArray⟩, .string ⟨(wd ws 1).toArray⟩, .string ⟨(wd ws 2).toArray⟩, .int .i64 (intS (wd ws 3)), .bool (wd ws 4 == [49]), .slice Av (ws.length - 9) cv, .int .i64 (intS (wd ws 5)), .int .u64 ((digitsS (wd ws 6)).1 : Int), .int .i64 (intS (wd ws 7)), .int .i64 (intS (wd ws 8))] := ⟨_, rfl⟩
  obtain ⟨cs, hcs⟩ := hcs1
  rw [← hcs] at hLb
  have hcn : cs.length = 10 := by rw [hcs]; rfl
  have hc1 : ∀ v ∈ cs, v.oneCell' = true := by rw [hcs]; simp [Value.oneCell']
  have hst := run_storeCells_all (P := Tryd.prog) _ hsr (by rw [hcn]; rfl) hc1
  have hcm : aggOf Tryd.prog 27 cs.length = true := by rw [hcn]; exact hag
  have HCS := Lib.hid hcs; have HSR := Lib.hid hsr; have HLB := Lib.hid hLb; have HCM := Lib.hid hcm
  clear hcs hLb hsr hag hc1 hcm
  go_wp2_with (refine wpList_load_lies _ rfl 27 (.tmp 3) rfl b3 0 cs rfl HCM.out HLB.out ?_)
  refine bodyPost_ret (v := .agg cs.toArray) ?_ rfl ?_
  · refine run_results_cell _ Tryd.results34 (b := w.heap.size) (o := 0) rfl HCM.out (LiesAt.of_block (setRow_heap _ _ _ _ _ _ HSR.out))
  have hb4 : (wd ws 4 == [49]) = decide (wd ws 4 = [49]) := by rw [Bool.eq_iff_iff]; simp
  have hr : r = reqS ws := HR.out
  have hown : w10.ownsRow w.heap.size 100 2 (.slice Av (ws.length - 9) cv) r.headers.length (hdrCells r.headers) := by
    rw [hr]
    have hs9 : w.heap.size ≤ (((((w9.setCell ⟨b3, 6, none⟩ (.int .i64 (intS (wd ws 5)))).setCell ⟨b3, 7, none⟩ (.int .u64 ((digitsS (wd ws 6)).1 : Int))).setCell ⟨b3, 8, none⟩ (.int .i64 (intS (wd ws 7)))).setCell ⟨b3, 9, none⟩ (.int .i64 (intS (wd ws 8))))).heap.size := by omega
    have h := own_weaken HO.out hs9
    rw [List.length_drop] at h
    show w10.ownsRow w.heap.size 100 2 (.slice Av (ws.length - 9) cv) ((ws.drop 9).map hdrS).length (hdrCells ((ws.drop 9).map hdrS))
    rw [List.length_map, List.length_drop]
    exact h
  refine ⟨.slice Av (ws.length - 9) cv, ?_, ?_, ?_⟩
  · rw [HCS.out, hr]
    simp only [reqV, reqS, hb4]
  · refine own_upd hown (((Upd.refl [w.heap.size, b3] w10).setCell (.inr (by simp)) _).setRow (.inr (by simp)) _) (fun k hk => ?_)
    have h1 := own_ge HO.out k (by rw [List.length_drop]; exact hk)
    simp only [World.size_setCell] at h1
    have h2 := (Array.getElem?_eq_some_iff.1 H9h.out).1
    simp; omega
  · have U12 : Upd [rb] w w10 := HUA.out.trans_of U10.out
    exact (U12.setCell (.inl (by simp; omega)) _).setRow (.inl (Nat.le_refl _)) _
end Go.Proofs.YtajoldboafkpdaaDoor
