/-
  DERIVED. GIVEN WITH THE SEED: THE CARDS: each row of YtahjncefiegflaaGreatDoorRows.lean that lists a variable, with what it lists TIED to the program's text (the seventh form; the later family's looks); each row that meets fmt, with fmt's text TOLD by the authors' own Lean function (tested against real Go, not proved from fmt's source: count such statements apart). THE CARD IS WHAT COUNTS. Prove the row's statement (the work); the ties are given (YtahjncefiegflaaGreatDoorTie.lean); close each card by the builder's one call (the guide's Derived/Test/ToyasCard.lean, 'card_holds'). Laid BY PROGRAM, IN A SANDBOX (cutbox-door.mjs). By AI agents, Wed Nov 11 2026. No macro, syntax, notation, axiom, sorry.
-/
import Derived.Test.YtahjncefiegflaaGreatDoorRows
import GoSem.ClaimSeven
namespace Go.Proofs.YtahjncefiegflaaGreatDoor
namespace Rows

/-- THE TIED CARD OF 'smithyardlaw2.ScriptAddGoesOn'. -/
def scriptAddGoesOnCard : Claim7 := { stood := { row := scriptAddGoesOnRow, standIns := [], harness := (true, "060089c116d75c20fcd6b1987840ddbb5dd7249b362bacad42539fbbf2df92b2"), looks := true }, kinds := [], alts := [], laidByText := true, laidKinds := [.data, .pinned], laidTests := true, laidLooks := .later }
def ScriptAddGoesOnCardSaid : Prop := Claim7.holds Tryz.pinned (.plain (OpenSpec.ofChange scriptAddGoesOnSpec)) scriptAddGoesOnCard

/-- THE TIED CARD OF 'smithyardlaw2.ScriptValuesMatchSpec'. -/
def scriptValuesMatchSpecCard : Claim7 := { stood := { row := scriptValuesMatchSpecRow, standIns := [], harness := (true, "060089c116d75c20fcd6b1987840ddbb5dd7249b362bacad42539fbbf2df92b2"), looks := true }, kinds := [], alts := [], laidByText := true, laidKinds := [.data, .pinned], laidTests := true, laidLooks := .later }
def ScriptValuesMatchSpecCardSaid : Prop := Claim7.holds Tryz.pinned (.plain (OpenSpec.ofChange scriptValuesMatchSpecSpec)) scriptValuesMatchSpecCard

/-- THE TIED CARD OF 'smithyardlaw2.ScriptPackagesMatchSpec'. -/
def scriptPackagesMatchSpecCard : Claim7 := { stood := { row := scriptPackagesMatchSpecRow, standIns := [], harness := (true, "060089c116d75c20fcd6b1987840ddbb5dd7249b362bacad42539fbbf2df92b2"), looks := true }, kinds := [], alts := [], laidByText := true, laidKinds := [.data, .pinned], laidTests := true, laidLooks := .later }
def ScriptPackagesMatchSpecCardSaid : Prop := Claim7.holds Tryz.pinned (.plain (OpenSpec.ofChange scriptPackagesMatchSpecSpec)) scriptPackagesMatchSpecCard

/-- THE TIED CARD OF 'smithyardlaw2.ScriptLabelsMatchSpec'. -/
def scriptLabelsMatchSpecCard : Claim7 := { stood := { row := scriptLabelsMatchSpecRow, standIns := [], harness := (true, "060089c116d75c20fcd6b1987840ddbb5dd7249b362bacad42539fbbf2df92b2"), looks := true }, kinds := [], alts := [], laidByText := true, laidKinds := [.data, .pinned], laidTests := true, laidLooks := .later }
def ScriptLabelsMatchSpecCardSaid : Prop := Claim7.holds Tryz.pinned (.plain (OpenSpec.ofChange scriptLabelsMatchSpecSpec)) scriptLabelsMatchSpecCard

/-- THE TIED CARD OF 'smithyardlaw2.ScriptLabelsComeBack'. -/
def scriptLabelsComeBackCard : Claim7 := { stood := { row := scriptLabelsComeBackRow, standIns := [], harness := (true, "060089c116d75c20fcd6b1987840ddbb5dd7249b362bacad42539fbbf2df92b2"), looks := true }, kinds := [], alts := [], laidByText := true, laidKinds := [.data, .pinned], laidTests := true, laidLooks := .later }
def ScriptLabelsComeBackCardSaid : Prop := Claim7.holds Tryz.pinned (.plain (OpenSpec.ofChange scriptLabelsComeBackSpec)) scriptLabelsComeBackCard

/-- THE TIED CARD OF 'smithyardlaw2.ScriptDiffersMatchSpec'. -/
def scriptDiffersMatchSpecCard : Claim7 := { stood := { row := scriptDiffersMatchSpecRow, standIns := [], harness := (true, "060089c116d75c20fcd6b1987840ddbb5dd7249b362bacad42539fbbf2df92b2"), looks := true }, kinds := [], alts := [], laidByText := true, laidKinds := [.data, .pinned], laidTests := true, laidLooks := .later }
def ScriptDiffersMatchSpecCardSaid : Prop := Claim7.holds Tryz.pinned (.plain (OpenSpec.ofChange scriptDiffersMatchSpecSpec)) scriptDiffersMatchSpecCard

/-- THE TIED CARD OF 'smithyardlaw2.ScriptTokensMatchSpec'. -/
def scriptTokensMatchSpecCard : Claim7 := { stood := { row := scriptTokensMatchSpecRow, standIns := [], harness := (true, "060089c116d75c20fcd6b1987840ddbb5dd7249b362bacad42539fbbf2df92b2"), looks := true }, kinds := [], alts := [], laidByText := true, laidKinds := [.data, .data, .data, .data, .sentinel, .sentinel, .pinned], laidTests := true, laidLooks := .later }
def ScriptTokensMatchSpecCardSaid : Prop := Claim7.holds Tryz.pinned (.plain (OpenSpec.ofChange scriptTokensMatchSpecSpec)) scriptTokensMatchSpecCard

/-- THE SECOND FORM's CARD OF 'smithyardlaw2.ScriptAddGoesOn'. -/
def scriptAddGoesOnUptoCard : Claim7 := { stood := { row := scriptAddGoesOnUptoRow, standIns := [], harness := (true, "060089c116d75c20fcd6b1987840ddbb5dd7249b362bacad42539fbbf2df92b2"), looks := true }, kinds := [], alts := [], laidByText := true, laidKinds := [.data, .pinned], laidTests := true, laidLooks := .later }
def ScriptAddGoesOnUptoCardSaid : Prop := Claim7.holds Tryz.pinned (.plain (OpenSpec.upto scriptAddGoesOnSpec)) scriptAddGoesOnUptoCard

/-- THE SECOND FORM's CARD OF 'smithyardlaw2.ScriptValuesMatchSpec'. -/
def scriptValuesMatchSpecUptoCard : Claim7 := { stood := { row := scriptValuesMatchSpecUptoRow, standIns := [], harness := (true, "060089c116d75c20fcd6b1987840ddbb5dd7249b362bacad42539fbbf2df92b2"), looks := true }, kinds := [], alts := [], laidByText := true, laidKinds := [.data, .pinned], laidTests := true, laidLooks := .later }
def ScriptValuesMatchSpecUptoCardSaid : Prop := Claim7.holds Tryz.pinned (.plain (OpenSpec.upto scriptValuesMatchSpecSpec)) scriptValuesMatchSpecUptoCard

/-- THE SECOND FORM's CARD OF 'smithyardlaw2.ScriptPackagesMatchSpec'. -/
def scriptPackagesMatchSpecUptoCard : Claim7 := { stood := { row := scriptPackagesMatchSpecUptoRow, standIns := [], harness := (true, "060089c116d75c20fcd6b1987840ddbb5dd7249b362bacad42539fbbf2df92b2"), looks := true }, kinds := [], alts := [], laidByText := true, laidKinds := [.data, .pinned], laidTests := true, laidLooks := .later }
def ScriptPackagesMatchSpecUptoCardSaid : Prop := Claim7.holds Tryz.pinned (.plain (OpenSpec.upto scriptPackagesMatchSpecSpec)) scriptPackagesMatchSpecUptoCard

/-- THE SECOND FORM's CARD OF 'smithyardlaw2.ScriptLabelsMatchSpec'. -/
def scriptLabelsMatchSpecUptoCard : Claim7 := { stood := { row := scriptLabelsMatchSpecUptoRow, standIns := [], harness := (true, "060089c116d75c20fcd6b1987840ddbb5dd7249b362bacad42539fbbf2df92b2"), looks := true }, kinds := [], alts := [], laidByText := true, laidKinds := [.data, .pinned], laidTests := true, laidLooks := .later }
def ScriptLabelsMatchSpecUptoCardSaid : Prop := Claim7.holds Tryz.pinned (.plain (OpenSpec.upto scriptLabelsMatchSpecSpec)) scriptLabelsMatchSpecUptoCard

/-- THE SECOND FORM's CARD OF 'smithyardlaw2.ScriptLabelsComeBack'. -/
def scriptLabelsComeBackUptoCard : Claim7 := { stood := { row := scriptLabelsComeBackUptoRow, standIns := [], harness := (true, "060089c116d75c20fcd6b1987840ddbb5dd7249b362bacad42539fbbf2df92b2"), looks := true }, kinds := [], alts := [], laidByText := true, laidKinds := [.data, .pinned], laidTests := true, laidLooks := .later }
def ScriptLabelsComeBackUptoCardSaid : Prop := Claim7.holds Tryz.pinned (.plain (OpenSpec.upto scriptLabelsComeBackSpec)) scriptLabelsComeBackUptoCard

/-- THE SECOND FORM's CARD OF 'smithyardlaw2.ScriptDiffersMatchSpec'. -/
def scriptDiffersMatchSpecUptoCard : Claim7 := { stood := { row := scriptDiffersMatchSpecUptoRow, standIns := [], harness := (true, "060089c116d75c20fcd6b1987840ddbb5dd7249b362bacad42539fbbf2df92b2"), looks := true }, kinds := [], alts := [], laidByText := true, laidKinds := [.data, .pinned], laidTests := true, laidLooks := .later }
def ScriptDiffersMatchSpecUptoCardSaid : Prop := Claim7.holds Tryz.pinned (.plain (OpenSpec.upto scriptDiffersMatchSpecSpec)) scriptDiffersMatchSpecUptoCard

/-- THE SECOND FORM's CARD OF 'smithyardlaw2.ScriptTokensMatchSpec'. -/
def scriptTokensMatchSpecUptoCard : Claim7 := { stood := { row := scriptTokensMatchSpecUptoRow, standIns := [], harness := (true, "060089c116d75c20fcd6b1987840ddbb5dd7249b362bacad42539fbbf2df92b2"), looks := true }, kinds := [], alts := [], laidByText := true, laidKinds := [.data, .data, .data, .data, .sentinel, .sentinel, .pinned], laidTests := true, laidLooks := .later }
def ScriptTokensMatchSpecUptoCardSaid : Prop := Claim7.holds Tryz.pinned (.plain (OpenSpec.upto scriptTokensMatchSpecSpec)) scriptTokensMatchSpecUptoCard
end Rows
end Go.Proofs.YtahjncefiegflaaGreatDoor
