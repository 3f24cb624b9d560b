/-
  DERIVED. GIVEN WITH THE SEED: THE CARDS: each row of YtolpmfhiegpohaaGreatDoorRows.lean that lists a variable, with what it lists TIED to the program's text (the seventh form; the later family's looks); each row that meets fmt, with fmt's text TOLD by the authors' own Lean function (tested against real Go, not proved from fmt's source: count such statements apart). THE CARD IS WHAT COUNTS. Prove the row's statement (the work); the ties are given (YtolpmfhiegpohaaGreatDoorTie.lean); close each card by the builder's one call (the guide's Derived/Test/ToyasCard.lean, 'card_holds'). Laid BY PROGRAM, IN A SANDBOX (cutbox-door.mjs). By AI agents, Wed Nov 11 2026. No macro, syntax, notation, axiom, sorry.
-/
import Derived.Test.YtolpmfhiegpohaaGreatDoorRows
import GoSem.ClaimSeven
namespace Go.Proofs.YtolpmfhiegpohaaGreatDoor
namespace Rows

/-- THE TIED CARD OF 'smithyardlaw2.ScriptBlanksDoNotMatter'. -/
def scriptBlanksDoNotMatterCard : Claim7 := { stood := { row := scriptBlanksDoNotMatterRow, standIns := [], harness := (true, "2b5c82967cc62b4dde3981448f31fc4af8c9ca4f540f1c4766176ad5254946c9"), looks := true }, kinds := [], alts := [], laidByText := true, laidKinds := [.data, .pinned], laidTests := true, laidLooks := .later }
def ScriptBlanksDoNotMatterCardSaid : Prop := Claim7.holds Tryz.pinned (.plain (OpenSpec.ofChange scriptBlanksDoNotMatterSpec)) scriptBlanksDoNotMatterCard

/-- THE TIED CARD OF 'smithyardlaw2.ScriptParsesMatchSpec'. -/
def scriptParsesMatchSpecCard : Claim7 := { stood := { row := scriptParsesMatchSpecRow, standIns := [], harness := (true, "2b5c82967cc62b4dde3981448f31fc4af8c9ca4f540f1c4766176ad5254946c9"), looks := true }, kinds := [], alts := [], laidByText := true, laidKinds := [.data, .data, .data, .data, .sentinel, .sentinel, .pinned], laidTests := true, laidLooks := .later }
def ScriptParsesMatchSpecCardSaid : Prop := Claim7.holds Tryz.pinned (.plain (OpenSpec.ofChange scriptParsesMatchSpecSpec)) scriptParsesMatchSpecCard

/-- THE TIED CARD OF 'smithyardlaw2.ScriptPrintsComeBack'. -/
def scriptPrintsComeBackCard : Claim7 := { stood := { row := scriptPrintsComeBackRow, standIns := [], harness := (true, "2b5c82967cc62b4dde3981448f31fc4af8c9ca4f540f1c4766176ad5254946c9"), looks := true }, kinds := [], alts := [], laidByText := true, laidKinds := [.data, .data, .data, .data, .pinned], laidTests := true, laidLooks := .later }
def ScriptPrintsComeBackCardSaid : Prop := Claim7.holds Tryz.pinned (.plain (OpenSpec.ofChange scriptPrintsComeBackSpec)) scriptPrintsComeBackCard

/-- THE TIED CARD OF 'smithyardlaw2.ScriptParsesComeBack'. -/
def scriptParsesComeBackCard : Claim7 := { stood := { row := scriptParsesComeBackRow, standIns := [], harness := (true, "2b5c82967cc62b4dde3981448f31fc4af8c9ca4f540f1c4766176ad5254946c9"), looks := true }, kinds := [], alts := [], laidByText := true, laidKinds := [.data, .data, .data, .data, .pinned], laidTests := true, laidLooks := .later }
def ScriptParsesComeBackCardSaid : Prop := Claim7.holds Tryz.pinned (.plain (OpenSpec.ofChange scriptParsesComeBackSpec)) scriptParsesComeBackCard

/-- THE SECOND FORM's CARD OF 'smithyardlaw2.ScriptBlanksDoNotMatter'. -/
def scriptBlanksDoNotMatterUptoCard : Claim7 := { stood := { row := scriptBlanksDoNotMatterUptoRow, standIns := [], harness := (true, "2b5c82967cc62b4dde3981448f31fc4af8c9ca4f540f1c4766176ad5254946c9"), looks := true }, kinds := [], alts := [], laidByText := true, laidKinds := [.data, .pinned], laidTests := true, laidLooks := .later }
def ScriptBlanksDoNotMatterUptoCardSaid : Prop := Claim7.holds Tryz.pinned (.plain (OpenSpec.upto scriptBlanksDoNotMatterSpec)) scriptBlanksDoNotMatterUptoCard

/-- THE SECOND FORM's CARD OF 'smithyardlaw2.ScriptParsesMatchSpec'. -/
def scriptParsesMatchSpecUptoCard : Claim7 := { stood := { row := scriptParsesMatchSpecUptoRow, standIns := [], harness := (true, "2b5c82967cc62b4dde3981448f31fc4af8c9ca4f540f1c4766176ad5254946c9"), looks := true }, kinds := [], alts := [], laidByText := true, laidKinds := [.data, .data, .data, .data, .sentinel, .sentinel, .pinned], laidTests := true, laidLooks := .later }
def ScriptParsesMatchSpecUptoCardSaid : Prop := Claim7.holds Tryz.pinned (.plain (OpenSpec.upto scriptParsesMatchSpecSpec)) scriptParsesMatchSpecUptoCard

/-- THE SECOND FORM's CARD OF 'smithyardlaw2.ScriptPrintsComeBack'. -/
def scriptPrintsComeBackUptoCard : Claim7 := { stood := { row := scriptPrintsComeBackUptoRow, standIns := [], harness := (true, "2b5c82967cc62b4dde3981448f31fc4af8c9ca4f540f1c4766176ad5254946c9"), looks := true }, kinds := [], alts := [], laidByText := true, laidKinds := [.data, .data, .data, .data, .pinned], laidTests := true, laidLooks := .later }
def ScriptPrintsComeBackUptoCardSaid : Prop := Claim7.holds Tryz.pinned (.plain (OpenSpec.upto scriptPrintsComeBackSpec)) scriptPrintsComeBackUptoCard

/-- THE SECOND FORM's CARD OF 'smithyardlaw2.ScriptParsesComeBack'. -/
def scriptParsesComeBackUptoCard : Claim7 := { stood := { row := scriptParsesComeBackUptoRow, standIns := [], harness := (true, "2b5c82967cc62b4dde3981448f31fc4af8c9ca4f540f1c4766176ad5254946c9"), looks := true }, kinds := [], alts := [], laidByText := true, laidKinds := [.data, .data, .data, .data, .pinned], laidTests := true, laidLooks := .later }
def ScriptParsesComeBackUptoCardSaid : Prop := Claim7.holds Tryz.pinned (.plain (OpenSpec.upto scriptParsesComeBackSpec)) scriptParsesComeBackUptoCard
end Rows
end Go.Proofs.YtolpmfhiegpohaaGreatDoor
