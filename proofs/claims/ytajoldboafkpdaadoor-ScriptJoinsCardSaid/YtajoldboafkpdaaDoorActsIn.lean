-- Acts that came in.
import Derived.Test.YtajoldboafkpdaaDoorOpenAct
import Derived.Test.YtajoldboafkpdaaDoorGreat
import Derived.Test.YtajoldboafkpdaaDoorOpen
namespace Go.Proofs.YtajoldboafkpdaaDoor
set_option linter.unusedSimpArgs false
set_option linter.unusedVariables false
open Go.RowKit Go.Lk
set_option maxRecDepth 100000 in
theorem great_acts_long {w : World} {A : Option Addr} {c n : Nat} (m : Int) (hm : (n : Int) > m) :
    Calls Tryd.prog 9 #[.slice A n c, .int .i64 m] w fun e w' => e = .returned (.bool true) ∧ Upd [] w w' := by
  go_enter Tryd.func9, Tryd.ntmps9
  go_wp2
  go_ret
  exact ⟨rfl, Upd.refl _ _⟩
/-- A slice of acts that came in. -/
def ActsR (W : World) (v : Value) (al : List (ActL × ActP)) : Prop := SliceR W 18 (fun cs (x : ActL × ActP) => cs = actCells x.1 x.2 ∧ ActAt W x.1 x.2 ∧ ActWf x.1) v al
theorem open_acts {H : Type} {enc : TypeId × Value → H} {w : World} {spare : Nat → Bool} {held : Bool} {fuel : Nat} {cs : List Value} {x : DataW H × List MemPlace} (h : DataW.trod enc Tryd.prog w 0 spare held fuel 31 cs = some x) : ∃ v l, cs = [v] ∧ ActsR w v l :=
  open_sliceR Tryd.underlying31 18 (by kernel_rfl) (by omega) (fun n cs' d hd => by obtain ⟨a, p, h1, h2, h3⟩ := open_act hd; exact ⟨(a, p), h1, h2, h3⟩) h
theorem ActsR.acts {W : World} {v : Value} {al : List (ActL × ActP)} (h : ActsR W v al) : ∃ A c, v = .slice A al.length c ∧ al.length ≤ c ∧ ActsAt W A al ∧ ∀ x ∈ al, ActWf x.1 := by
  obtain ⟨A, c, rfl, hlc, hp⟩ := h
  refine ⟨A, c, rfl, hlc, fun j x hj => ?_, fun x hx => ?_⟩
  · obtain ⟨ab, ao, rfl, cs, _, hc, rfl, ha, _⟩ := hp j x hj
    exact ⟨ab, ao, rfl, fun i u hi => by have := hc i u hi; rw [← Nat.add_assoc] at this; exact this, ha⟩
  · obtain ⟨j, hj⟩ := List.getElem?_of_mem hx
    obtain ⟨ab, ao, _, cs, _, _, _, _, hw⟩ := hp j x hj
    exact hw
end Go.Proofs.YtajoldboafkpdaaDoor
