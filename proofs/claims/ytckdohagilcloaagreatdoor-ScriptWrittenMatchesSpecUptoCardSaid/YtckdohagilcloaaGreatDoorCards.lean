/-
  DERIVED. GIVEN WITH THE SEED: THE CARDS: each row of YtckdohagilcloaaGreatDoorRows.lean that lists a variable, with what it lists TIED to the program's text (the seventh form; the later family's looks); each row that meets fmt, with fmt's text TOLD by the authors' own Lean function (tested against real Go, not proved from fmt's source: count such statements apart). THE CARD IS WHAT COUNTS. Prove the row's statement (the work); the ties are given (YtckdohagilcloaaGreatDoorTie.lean); close each card by the builder's one call (the guide's Derived/Test/ToyasCard.lean, 'card_holds'). Laid BY PROGRAM, IN A SANDBOX (cutbox-door.mjs). By AI agents, Wed Nov 11 2026. No macro, syntax, notation, axiom, sorry.
-/
import Derived.Test.YtckdohagilcloaaGreatDoorRows
import GoSem.ClaimSeven
namespace Go.Proofs.YtckdohagilcloaaGreatDoor
namespace Rows

/-- THE TIED CARD OF 'smithyardlaw2.ScriptWrittenMatchesSpec'. -/
def scriptWrittenMatchesSpecCard : Claim7 := { stood := { row := scriptWrittenMatchesSpecRow, standIns := [], harness := (true, "7c1a02dccefc7bee49b65d5855b223d69c7424876926af64ed03192f91f02d74"), looks := true }, kinds := [], alts := [], laidByText := true, laidKinds := [.data, .data, .data, .data, .pinned], laidTests := true, laidLooks := .later }
def ScriptWrittenMatchesSpecCardSaid : Prop := Claim7.holds Tryz.pinned (.plain (OpenSpec.ofChange scriptWrittenMatchesSpecSpec)) scriptWrittenMatchesSpecCard

/-- THE SECOND FORM's CARD OF 'smithyardlaw2.ScriptWrittenMatchesSpec'. -/
def scriptWrittenMatchesSpecUptoCard : Claim7 := { stood := { row := scriptWrittenMatchesSpecUptoRow, standIns := [], harness := (true, "7c1a02dccefc7bee49b65d5855b223d69c7424876926af64ed03192f91f02d74"), looks := true }, kinds := [], alts := [], laidByText := true, laidKinds := [.data, .data, .data, .data, .pinned], laidTests := true, laidLooks := .later }
def ScriptWrittenMatchesSpecUptoCardSaid : Prop := Claim7.holds Tryz.pinned (.plain (OpenSpec.upto scriptWrittenMatchesSpecSpec)) scriptWrittenMatchesSpecUptoCard
end Rows
end Go.Proofs.YtckdohagilcloaaGreatDoor
