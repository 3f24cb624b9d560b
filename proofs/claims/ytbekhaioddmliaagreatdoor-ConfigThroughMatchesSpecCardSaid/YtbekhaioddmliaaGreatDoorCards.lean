/-
  DERIVED. GIVEN WITH THE SEED: THE CARDS: each row of YtbekhaioddmliaaGreatDoorRows.lean that lists a variable, with what it lists TIED to the program's text (the seventh form; the later family's looks); each row that meets fmt, with fmt's text TOLD by the authors' own Lean function (tested against real Go, not proved from fmt's source: count such statements apart). THE CARD IS WHAT COUNTS. Prove the row's statement (the work); the ties are given (YtbekhaioddmliaaGreatDoorTie.lean); close each card by the builder's one call (the guide's Derived/Test/ToyasCard.lean, 'card_holds'). Laid BY PROGRAM, IN A SANDBOX (cutbox-door.mjs). By AI agents, Wed Nov 11 2026. No macro, syntax, notation, axiom, sorry.
-/
import Derived.Test.YtbekhaioddmliaaGreatDoorRows
import GoSem.ClaimSeven
namespace Go.Proofs.YtbekhaioddmliaaGreatDoor
namespace Rows

/-- THE TIED CARD OF 'smithyardlaw3.ConfigChosenMatchesSpec'. -/
def configChosenMatchesSpecCard : Claim7 := { stood := { row := configChosenMatchesSpecRow, standIns := [], harness := (true, "15ab6b78a964046000c6eb307ce66eefe82c74ab356ce9b4a59f573dff7ee347"), looks := false }, kinds := [], alts := [], laidByText := true, laidKinds := [.data, .pinned], laidTests := true, laidLooks := .later }
def ConfigChosenMatchesSpecCardSaid : Prop := Claim7.holds Tryz.pinned (.plain (OpenSpec.ofChange configChosenMatchesSpecSpec)) configChosenMatchesSpecCard

/-- THE TIED CARD OF 'smithyardlaw3.ConfigThroughMatchesSpec'. -/
def configThroughMatchesSpecCard : Claim7 := { stood := { row := configThroughMatchesSpecRow, standIns := [], harness := (true, "15ab6b78a964046000c6eb307ce66eefe82c74ab356ce9b4a59f573dff7ee347"), looks := false }, kinds := [], alts := [], laidByText := true, laidKinds := [.data, .pinned], laidTests := true, laidLooks := .later }
def ConfigThroughMatchesSpecCardSaid : Prop := Claim7.holds Tryz.pinned (.plain (OpenSpec.ofChange configThroughMatchesSpecSpec)) configThroughMatchesSpecCard

/-- THE TIED CARD OF 'smithyardlaw3.ConfigThenIsBoth'. -/
def configThenIsBothCard : Claim7 := { stood := { row := configThenIsBothRow, standIns := [], harness := (true, "15ab6b78a964046000c6eb307ce66eefe82c74ab356ce9b4a59f573dff7ee347"), looks := false }, kinds := [], alts := [], laidByText := true, laidKinds := [.data, .pinned], laidTests := true, laidLooks := .later }
def ConfigThenIsBothCardSaid : Prop := Claim7.holds Tryz.pinned (.plain (OpenSpec.ofChange configThenIsBothSpec)) configThenIsBothCard

/-- THE TIED CARD OF 'smithyardlaw3.ConfigPlainMatchesSpec'. -/
def configPlainMatchesSpecCard : Claim7 := { stood := { row := configPlainMatchesSpecRow, standIns := [], harness := (true, "15ab6b78a964046000c6eb307ce66eefe82c74ab356ce9b4a59f573dff7ee347"), looks := false }, kinds := [], alts := [], laidByText := true, laidKinds := [.data, .pinned], laidTests := true, laidLooks := .later }
def ConfigPlainMatchesSpecCardSaid : Prop := Claim7.holds Tryz.pinned (.plain (OpenSpec.ofChange configPlainMatchesSpecSpec)) configPlainMatchesSpecCard

/-- THE TIED CARD OF 'smithyardlaw3.ConfigDependsIsEnough'. -/
def configDependsIsEnoughCard : Claim7 := { stood := { row := configDependsIsEnoughRow, standIns := [], harness := (true, "15ab6b78a964046000c6eb307ce66eefe82c74ab356ce9b4a59f573dff7ee347"), looks := false }, kinds := [], alts := [], laidByText := true, laidKinds := [.data, .pinned], laidTests := true, laidLooks := .later }
def ConfigDependsIsEnoughCardSaid : Prop := Claim7.holds Tryz.pinned (.plain (OpenSpec.ofChange configDependsIsEnoughSpec)) configDependsIsEnoughCard

/-- THE SECOND FORM's CARD OF 'smithyardlaw3.ConfigChosenMatchesSpec'. -/
def configChosenMatchesSpecUptoCard : Claim7 := { stood := { row := configChosenMatchesSpecUptoRow, standIns := [], harness := (true, "15ab6b78a964046000c6eb307ce66eefe82c74ab356ce9b4a59f573dff7ee347"), looks := false }, kinds := [], alts := [], laidByText := true, laidKinds := [.data, .pinned], laidTests := true, laidLooks := .later }
def ConfigChosenMatchesSpecUptoCardSaid : Prop := Claim7.holds Tryz.pinned (.plain (OpenSpec.upto configChosenMatchesSpecSpec)) configChosenMatchesSpecUptoCard

/-- THE SECOND FORM's CARD OF 'smithyardlaw3.ConfigThroughMatchesSpec'. -/
def configThroughMatchesSpecUptoCard : Claim7 := { stood := { row := configThroughMatchesSpecUptoRow, standIns := [], harness := (true, "15ab6b78a964046000c6eb307ce66eefe82c74ab356ce9b4a59f573dff7ee347"), looks := false }, kinds := [], alts := [], laidByText := true, laidKinds := [.data, .pinned], laidTests := true, laidLooks := .later }
def ConfigThroughMatchesSpecUptoCardSaid : Prop := Claim7.holds Tryz.pinned (.plain (OpenSpec.upto configThroughMatchesSpecSpec)) configThroughMatchesSpecUptoCard

/-- THE SECOND FORM's CARD OF 'smithyardlaw3.ConfigThenIsBoth'. -/
def configThenIsBothUptoCard : Claim7 := { stood := { row := configThenIsBothUptoRow, standIns := [], harness := (true, "15ab6b78a964046000c6eb307ce66eefe82c74ab356ce9b4a59f573dff7ee347"), looks := false }, kinds := [], alts := [], laidByText := true, laidKinds := [.data, .pinned], laidTests := true, laidLooks := .later }
def ConfigThenIsBothUptoCardSaid : Prop := Claim7.holds Tryz.pinned (.plain (OpenSpec.upto configThenIsBothSpec)) configThenIsBothUptoCard

/-- THE SECOND FORM's CARD OF 'smithyardlaw3.ConfigPlainMatchesSpec'. -/
def configPlainMatchesSpecUptoCard : Claim7 := { stood := { row := configPlainMatchesSpecUptoRow, standIns := [], harness := (true, "15ab6b78a964046000c6eb307ce66eefe82c74ab356ce9b4a59f573dff7ee347"), looks := false }, kinds := [], alts := [], laidByText := true, laidKinds := [.data, .pinned], laidTests := true, laidLooks := .later }
def ConfigPlainMatchesSpecUptoCardSaid : Prop := Claim7.holds Tryz.pinned (.plain (OpenSpec.upto configPlainMatchesSpecSpec)) configPlainMatchesSpecUptoCard

/-- THE SECOND FORM's CARD OF 'smithyardlaw3.ConfigDependsIsEnough'. -/
def configDependsIsEnoughUptoCard : Claim7 := { stood := { row := configDependsIsEnoughUptoRow, standIns := [], harness := (true, "15ab6b78a964046000c6eb307ce66eefe82c74ab356ce9b4a59f573dff7ee347"), looks := false }, kinds := [], alts := [], laidByText := true, laidKinds := [.data, .pinned], laidTests := true, laidLooks := .later }
def ConfigDependsIsEnoughUptoCardSaid : Prop := Claim7.holds Tryz.pinned (.plain (OpenSpec.upto configDependsIsEnoughSpec)) configDependsIsEnoughUptoCard
end Rows
end Go.Proofs.YtbekhaioddmliaaGreatDoor
