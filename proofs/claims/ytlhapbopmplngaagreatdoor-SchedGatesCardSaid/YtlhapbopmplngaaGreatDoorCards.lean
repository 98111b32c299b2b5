/-
  DERIVED. GIVEN WITH THE SEED: THE CARDS: each row of YtlhapbopmplngaaGreatDoorRows.lean that lists a variable, with what it lists TIED to the program's text (the seventh form; the later family's looks); each row that meets fmt, with fmt's text TOLD by the authors' own Lean function (tested against real Go, not proved from fmt's source: count such statements apart). THE CARD IS WHAT COUNTS. Prove the row's statement (the work); the ties are given (YtlhapbopmplngaaGreatDoorTie.lean); close each card by the builder's one call (the guide's Derived/Test/ToyasCard.lean, 'card_holds'). Laid BY PROGRAM, IN A SANDBOX (cutbox-door.mjs). By AI agents, Wed Nov 11 2026. No macro, syntax, notation, axiom, sorry.
-/
import Derived.Test.YtlhapbopmplngaaGreatDoorRows
import GoSem.ClaimSeven
namespace Go.Proofs.YtlhapbopmplngaaGreatDoor
namespace Rows

/-- THE TIED CARD OF 'lockkeeperlaw26.SchedGates'. -/
def schedGatesCard : Claim7 := { stood := { row := schedGatesRow, standIns := [], harness := (true, "da4e2abc49104af11b3a95ad683b58b2d8ec950a5e6aafde95d7f2cbf9a4ef86"), looks := false }, kinds := [], alts := [], laidByText := true, laidKinds := [.data, .data, .data, .data, .pinned], laidTests := true, laidLooks := .later }
def SchedGatesCardSaid : Prop := Claim7.holds Tryz.pinned (.plain (OpenSpec.ofChange schedGatesSpec)) schedGatesCard

/-- THE TIED CARD OF 'lockkeeperlaw26.SchedTimes'. -/
def schedTimesCard : Claim7 := { stood := { row := schedTimesRow, standIns := [], harness := (true, "da4e2abc49104af11b3a95ad683b58b2d8ec950a5e6aafde95d7f2cbf9a4ef86"), looks := false }, kinds := [], alts := [], laidByText := true, laidKinds := [.data, .data, .data, .data, .pinned], laidTests := true, laidLooks := .later }
def SchedTimesCardSaid : Prop := Claim7.holds Tryz.pinned (.plain (OpenSpec.ofChange schedTimesSpec)) schedTimesCard

/-- THE TIED CARD OF 'lockkeeperlaw26.SchedBodies'. -/
def schedBodiesCard : Claim7 := { stood := { row := schedBodiesRow, standIns := [], harness := (true, "da4e2abc49104af11b3a95ad683b58b2d8ec950a5e6aafde95d7f2cbf9a4ef86"), looks := false }, kinds := [], alts := [], laidByText := true, laidKinds := [.data, .data, .data, .data, .pinned], laidTests := true, laidLooks := .later }
def SchedBodiesCardSaid : Prop := Claim7.holds Tryz.pinned (.plain (OpenSpec.ofChange schedBodiesSpec)) schedBodiesCard

/-- THE TIED CARD OF 'lockkeeperlaw26.SchedShares'. -/
def schedSharesCard : Claim7 := { stood := { row := schedSharesRow, standIns := [], harness := (true, "da4e2abc49104af11b3a95ad683b58b2d8ec950a5e6aafde95d7f2cbf9a4ef86"), looks := false }, kinds := [], alts := [], laidByText := true, laidKinds := [.data, .data, .data, .data, .pinned], laidTests := true, laidLooks := .later }
def SchedSharesCardSaid : Prop := Claim7.holds Tryz.pinned (.plain (OpenSpec.ofChange schedSharesSpec)) schedSharesCard

/-- THE TIED CARD OF 'lockkeeperlaw26.SchedCreds'. -/
def schedCredsCard : Claim7 := { stood := { row := schedCredsRow, standIns := [], harness := (true, "da4e2abc49104af11b3a95ad683b58b2d8ec950a5e6aafde95d7f2cbf9a4ef86"), looks := false }, kinds := [], alts := [], laidByText := true, laidKinds := [.data, .data, .data, .data, .pinned], laidTests := true, laidLooks := .later }
def SchedCredsCardSaid : Prop := Claim7.holds Tryz.pinned (.plain (OpenSpec.ofChange schedCredsSpec)) schedCredsCard

/-- THE TIED CARD OF 'lockkeeperlaw26.SchedStatuses'. -/
def schedStatusesCard : Claim7 := { stood := { row := schedStatusesRow, standIns := [], harness := (true, "da4e2abc49104af11b3a95ad683b58b2d8ec950a5e6aafde95d7f2cbf9a4ef86"), looks := false }, kinds := [], alts := [], laidByText := true, laidKinds := [.data, .data, .data, .data, .pinned], laidTests := true, laidLooks := .later }
def SchedStatusesCardSaid : Prop := Claim7.holds Tryz.pinned (.plain (OpenSpec.ofChange schedStatusesSpec)) schedStatusesCard

/-- THE SECOND FORM's CARD OF 'lockkeeperlaw26.SchedGates'. -/
def schedGatesUptoCard : Claim7 := { stood := { row := schedGatesUptoRow, standIns := [], harness := (true, "da4e2abc49104af11b3a95ad683b58b2d8ec950a5e6aafde95d7f2cbf9a4ef86"), looks := false }, kinds := [], alts := [], laidByText := true, laidKinds := [.data, .data, .data, .data, .pinned], laidTests := true, laidLooks := .later }
def SchedGatesUptoCardSaid : Prop := Claim7.holds Tryz.pinned (.plain (OpenSpec.upto schedGatesSpec)) schedGatesUptoCard

/-- THE SECOND FORM's CARD OF 'lockkeeperlaw26.SchedTimes'. -/
def schedTimesUptoCard : Claim7 := { stood := { row := schedTimesUptoRow, standIns := [], harness := (true, "da4e2abc49104af11b3a95ad683b58b2d8ec950a5e6aafde95d7f2cbf9a4ef86"), looks := false }, kinds := [], alts := [], laidByText := true, laidKinds := [.data, .data, .data, .data, .pinned], laidTests := true, laidLooks := .later }
def SchedTimesUptoCardSaid : Prop := Claim7.holds Tryz.pinned (.plain (OpenSpec.upto schedTimesSpec)) schedTimesUptoCard

/-- THE SECOND FORM's CARD OF 'lockkeeperlaw26.SchedBodies'. -/
def schedBodiesUptoCard : Claim7 := { stood := { row := schedBodiesUptoRow, standIns := [], harness := (true, "da4e2abc49104af11b3a95ad683b58b2d8ec950a5e6aafde95d7f2cbf9a4ef86"), looks := false }, kinds := [], alts := [], laidByText := true, laidKinds := [.data, .data, .data, .data, .pinned], laidTests := true, laidLooks := .later }
def SchedBodiesUptoCardSaid : Prop := Claim7.holds Tryz.pinned (.plain (OpenSpec.upto schedBodiesSpec)) schedBodiesUptoCard

/-- THE SECOND FORM's CARD OF 'lockkeeperlaw26.SchedShares'. -/
def schedSharesUptoCard : Claim7 := { stood := { row := schedSharesUptoRow, standIns := [], harness := (true, "da4e2abc49104af11b3a95ad683b58b2d8ec950a5e6aafde95d7f2cbf9a4ef86"), looks := false }, kinds := [], alts := [], laidByText := true, laidKinds := [.data, .data, .data, .data, .pinned], laidTests := true, laidLooks := .later }
def SchedSharesUptoCardSaid : Prop := Claim7.holds Tryz.pinned (.plain (OpenSpec.upto schedSharesSpec)) schedSharesUptoCard

/-- THE SECOND FORM's CARD OF 'lockkeeperlaw26.SchedCreds'. -/
def schedCredsUptoCard : Claim7 := { stood := { row := schedCredsUptoRow, standIns := [], harness := (true, "da4e2abc49104af11b3a95ad683b58b2d8ec950a5e6aafde95d7f2cbf9a4ef86"), looks := false }, kinds := [], alts := [], laidByText := true, laidKinds := [.data, .data, .data, .data, .pinned], laidTests := true, laidLooks := .later }
def SchedCredsUptoCardSaid : Prop := Claim7.holds Tryz.pinned (.plain (OpenSpec.upto schedCredsSpec)) schedCredsUptoCard

/-- THE SECOND FORM's CARD OF 'lockkeeperlaw26.SchedStatuses'. -/
def schedStatusesUptoCard : Claim7 := { stood := { row := schedStatusesUptoRow, standIns := [], harness := (true, "da4e2abc49104af11b3a95ad683b58b2d8ec950a5e6aafde95d7f2cbf9a4ef86"), looks := false }, kinds := [], alts := [], laidByText := true, laidKinds := [.data, .data, .data, .data, .pinned], laidTests := true, laidLooks := .later }
def SchedStatusesUptoCardSaid : Prop := Claim7.holds Tryz.pinned (.plain (OpenSpec.upto schedStatusesSpec)) schedStatusesUptoCard
end Rows
end Go.Proofs.YtlhapbopmplngaaGreatDoor
