-- lockkeeperlaw10.awake answers true.
import Derived.Test.YtmcbllpkgeihgaaRing
namespace Go.Proofs.Ytmcbllpkgeihgaa
open Go.RowKit Go.Lk
set_option maxHeartbeats 400000 in
set_option maxRecDepth 100000 in
theorem awake10 (w : World) :
    Calls Try.prog 14 #[] w fun e w' => e = .returned (.bool true) ∧ Upd [] w w' := by
  go_enter Try.func14, Try.ntmps14
  go_wp2_with fail
  refine (Ring_new w 3 (by omega) (by omega)).mono ?_
  rintro e w1 ⟨b, rb, rfl, hr, hu, g1, g2⟩
  go_wp2_with fail
  have lt1 := hr.lt
  refine (Ring_put (hr.upd ((Upd.refl [] _).alloc _) (by simp) (by simp)) _ [1, 2, 3, 4] 4 (bytesAt_new _ _ [1, 2, 3, 4] _) (fun ab ao _ e => by injection e with e; injection e with e; omega) (by simp)).mono ?_
  rintro e w2 ⟨rfl, hr2, hu2⟩
  simp at hr2
  have U2 : Upd [] w w2 := ((hu.alloc _).trans hu2 (by simp; omega))
  go_wp2_with fail
  refine (Ring_take hr2 2).mono ?_
  rintro e w3 ⟨va, rfl, hva, hr3, hu3⟩
  simp at hr3 hva
  have U3 : Upd [] w w3 := U2.trans hu3 (by simp; omega)
  have lt2 := hr2.lt
  go_wp2_with fail
  refine (Ring_put (hr3.upd ((Upd.refl [] _).alloc _) (by simp) (by simp)) _ [5] 1 (bytesAt_new _ _ [5] _) (fun ab ao _ e => by have := hr3.lt; injection e with e; injection e with e; omega) (by simp)).mono ?_
  rintro e w4 ⟨rfl, hr4, hu4⟩
  simp at hr4
  have U4 : Upd [] w w4 := (U3.alloc _).trans hu4 (by simp; omega)
  have hs1 := ((bytes_of_own (bs := [1, 2]) hva).upd (((Upd.refl [b, rb] _).alloc _).trans hu4 (by simp)) (own_notin hva (by simp; omega))).str 28 9 5 Try.underlying28 Try.underlying5 Try.underlying9
  clear hva
  have H4 := Lib.hid hr4; have HU4 := Lib.hid U4
  clear hr hu hr2 hu2 hr3 hu3 hu4 U2 U3 U4 lt2 hr4
  go_wp2_with fail
  refine (Ring_peek H4.out).mono ?_
  rintro e w5 ⟨vp, rfl, hvp, hu5⟩
  have H5 := Lib.hid (H4.out.upd hu5 (by simp) (by simp))
  have U5 := Lib.hid (HU4.out.trans hu5 (by simp))
  have hs2 := (bytes_of_own (bs := [3, 5]) hvp).str 28 9 5 Try.underlying28 Try.underlying5 Try.underlying9
  clear hvp hu5
  go_wp2_with fail
  refine (Ring_len H5.out).mono ?_
  rintro e w5 ⟨rfl, rfl⟩
  go_wp2_with fail
  refine (Ring_room H5.out).mono ?_
  rintro e w6 ⟨rfl, k, rfl⟩
  go_wp2_with fail
  go_ret
  exact ⟨rfl, U5.out.drewN k⟩
end Go.Proofs.Ytmcbllpkgeihgaa
