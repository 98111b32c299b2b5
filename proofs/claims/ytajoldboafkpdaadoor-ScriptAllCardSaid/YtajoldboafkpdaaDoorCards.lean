/-
  DERIVED. GIVEN WITH THE SEED: THE CARDS: each row of YtajoldboafkpdaaDoorRows.lean that lists a variable, with what it lists TIED to the program's text (the seventh form; the later family's looks); each row that meets fmt, with fmt's text TOLD by the authors' own Lean function (tested against real Go, not proved from fmt's source: count such statements apart). THE CARD IS WHAT COUNTS. Prove the row's statement (the work); the ties are given (YtajoldboafkpdaaDoorTie.lean); close each card by the builder's one call (the guide's Derived/Test/ToyasCard.lean, 'card_holds'). Laid BY PROGRAM, IN A SANDBOX (cutbox-door.mjs). By AI agents, Wed Nov 11 2026. No macro, syntax, notation, axiom, sorry.
-/
import Derived.Test.YtajoldboafkpdaaDoorRows
import GoSem.ClaimSeven
namespace Go.Proofs.YtajoldboafkpdaaDoor
namespace Rows

/-- THE TIED CARD OF 'lockkeeperlaw27.ScriptBack'. -/
def scriptBackCard : Claim7 := { stood := { row := scriptBackRow, standIns := [], harness := (true, "270b77f880fe8dabbbbb461d86e416c44ee241dbac71ff402e6e6372799f64b0"), looks := false }, kinds := [], alts := [], laidByText := true, laidKinds := [.data, .data, .data, .data, .pinned], laidTests := true, laidLooks := .later }
def ScriptBackCardSaid : Prop := Claim7.holds Tryd.pinned (.plain (OpenSpec.ofChange scriptBackSpec)) scriptBackCard

/-- THE TIED CARD OF 'lockkeeperlaw27.ScriptHex'. -/
def scriptHexCard : Claim7 := { stood := { row := scriptHexRow, standIns := [], harness := (true, "270b77f880fe8dabbbbb461d86e416c44ee241dbac71ff402e6e6372799f64b0"), looks := false }, kinds := [], alts := [], laidByText := true, laidKinds := [.data, .data, .data, .data, .pinned], laidTests := true, laidLooks := .later }
def ScriptHexCardSaid : Prop := Claim7.holds Tryd.pinned (.plain (OpenSpec.ofChange scriptHexSpec)) scriptHexCard

/-- THE TIED CARD OF 'lockkeeperlaw27.ScriptShows'. -/
def scriptShowsCard : Claim7 := { stood := { row := scriptShowsRow, standIns := [], harness := (true, "270b77f880fe8dabbbbb461d86e416c44ee241dbac71ff402e6e6372799f64b0"), looks := false }, kinds := [], alts := [], laidByText := true, laidKinds := [.data, .data, .data, .data, .pinned], laidTests := true, laidLooks := .later }
def ScriptShowsCardSaid : Prop := Claim7.holds Tryd.pinned (.plain (OpenSpec.ofChange scriptShowsSpec)) scriptShowsCard

/-- THE TIED CARD OF 'lockkeeperlaw27.ScriptAll'. -/
def scriptAllCard : Claim7 := { stood := { row := scriptAllRow, standIns := [], harness := (true, "270b77f880fe8dabbbbb461d86e416c44ee241dbac71ff402e6e6372799f64b0"), looks := false }, kinds := [], alts := [], laidByText := true, laidKinds := [.data, .data, .data, .data, .pinned], laidTests := true, laidLooks := .later }
def ScriptAllCardSaid : Prop := Claim7.holds Tryd.pinned (.plain (OpenSpec.ofChange scriptAllSpec)) scriptAllCard

/-- THE TIED CARD OF 'lockkeeperlaw27.ScriptLines'. -/
def scriptLinesCard : Claim7 := { stood := { row := scriptLinesRow, standIns := [], harness := (true, "270b77f880fe8dabbbbb461d86e416c44ee241dbac71ff402e6e6372799f64b0"), looks := false }, kinds := [], alts := [], laidByText := true, laidKinds := [.data, .data, .data, .data, .pinned], laidTests := true, laidLooks := .later }
def ScriptLinesCardSaid : Prop := Claim7.holds Tryd.pinned (.plain (OpenSpec.ofChange scriptLinesSpec)) scriptLinesCard

/-- THE TIED CARD OF 'lockkeeperlaw27.ScriptJoins'. -/
def scriptJoinsCard : Claim7 := { stood := { row := scriptJoinsRow, standIns := [], harness := (true, "270b77f880fe8dabbbbb461d86e416c44ee241dbac71ff402e6e6372799f64b0"), looks := false }, kinds := [], alts := [], laidByText := true, laidKinds := [.data, .data, .data, .data, .pinned], laidTests := true, laidLooks := .later }
def ScriptJoinsCardSaid : Prop := Claim7.holds Tryd.pinned (.plain (OpenSpec.ofChange scriptJoinsSpec)) scriptJoinsCard

/-- THE SECOND FORM's CARD OF 'lockkeeperlaw27.ScriptBack'. -/
def scriptBackUptoCard : Claim7 := { stood := { row := scriptBackUptoRow, standIns := [], harness := (true, "270b77f880fe8dabbbbb461d86e416c44ee241dbac71ff402e6e6372799f64b0"), looks := false }, kinds := [], alts := [], laidByText := true, laidKinds := [.data, .data, .data, .data, .pinned], laidTests := true, laidLooks := .later }
def ScriptBackUptoCardSaid : Prop := Claim7.holds Tryd.pinned (.plain (OpenSpec.upto scriptBackSpec)) scriptBackUptoCard

/-- THE SECOND FORM's CARD OF 'lockkeeperlaw27.ScriptHex'. -/
def scriptHexUptoCard : Claim7 := { stood := { row := scriptHexUptoRow, standIns := [], harness := (true, "270b77f880fe8dabbbbb461d86e416c44ee241dbac71ff402e6e6372799f64b0"), looks := false }, kinds := [], alts := [], laidByText := true, laidKinds := [.data, .data, .data, .data, .pinned], laidTests := true, laidLooks := .later }
def ScriptHexUptoCardSaid : Prop := Claim7.holds Tryd.pinned (.plain (OpenSpec.upto scriptHexSpec)) scriptHexUptoCard

/-- THE SECOND FORM's CARD OF 'lockkeeperlaw27.ScriptShows'. -/
def scriptShowsUptoCard : Claim7 := { stood := { row := scriptShowsUptoRow, standIns := [], harness := (true, "270b77f880fe8dabbbbb461d86e416c44ee241dbac71ff402e6e6372799f64b0"), looks := false }, kinds := [], alts := [], laidByText := true, laidKinds := [.data, .data, .data, .data, .pinned], laidTests := true, laidLooks := .later }
def ScriptShowsUptoCardSaid : Prop := Claim7.holds Tryd.pinned (.plain (OpenSpec.upto scriptShowsSpec)) scriptShowsUptoCard

/-- THE SECOND FORM's CARD OF 'lockkeeperlaw27.ScriptAll'. -/
def scriptAllUptoCard : Claim7 := { stood := { row := scriptAllUptoRow, standIns := [], harness := (true, "270b77f880fe8dabbbbb461d86e416c44ee241dbac71ff402e6e6372799f64b0"), looks := false }, kinds := [], alts := [], laidByText := true, laidKinds := [.data, .data, .data, .data, .pinned], laidTests := true, laidLooks := .later }
def ScriptAllUptoCardSaid : Prop := Claim7.holds Tryd.pinned (.plain (OpenSpec.upto scriptAllSpec)) scriptAllUptoCard

/-- THE SECOND FORM's CARD OF 'lockkeeperlaw27.ScriptLines'. -/
def scriptLinesUptoCard : Claim7 := { stood := { row := scriptLinesUptoRow, standIns := [], harness := (true, "270b77f880fe8dabbbbb461d86e416c44ee241dbac71ff402e6e6372799f64b0"), looks := false }, kinds := [], alts := [], laidByText := true, laidKinds := [.data, .data, .data, .data, .pinned], laidTests := true, laidLooks := .later }
def ScriptLinesUptoCardSaid : Prop := Claim7.holds Tryd.pinned (.plain (OpenSpec.upto scriptLinesSpec)) scriptLinesUptoCard

/-- THE SECOND FORM's CARD OF 'lockkeeperlaw27.ScriptJoins'. -/
def scriptJoinsUptoCard : Claim7 := { stood := { row := scriptJoinsUptoRow, standIns := [], harness := (true, "270b77f880fe8dabbbbb461d86e416c44ee241dbac71ff402e6e6372799f64b0"), looks := false }, kinds := [], alts := [], laidByText := true, laidKinds := [.data, .data, .data, .data, .pinned], laidTests := true, laidLooks := .later }
def ScriptJoinsUptoCardSaid : Prop := Claim7.holds Tryd.pinned (.plain (OpenSpec.upto scriptJoinsSpec)) scriptJoinsUptoCard
end Rows
end Go.Proofs.YtajoldboafkpdaaDoor
