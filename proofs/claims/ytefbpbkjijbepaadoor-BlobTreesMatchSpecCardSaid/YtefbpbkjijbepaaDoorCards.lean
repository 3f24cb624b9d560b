/-
  DERIVED. GIVEN WITH THE SEED: THE CARDS: each row of YtefbpbkjijbepaaDoorRows.lean that lists a variable, with what it lists TIED to the program's text (the seventh form; the later family's looks); each row that meets fmt, with fmt's text TOLD by the authors' own Lean function (tested against real Go, not proved from fmt's source: count such statements apart). THE CARD IS WHAT COUNTS. Prove the row's statement (the work); the ties are given (YtefbpbkjijbepaaDoorTie.lean); close each card by the builder's one call (the guide's Derived/Test/ToyasCard.lean, 'card_holds'). Laid BY PROGRAM, IN A SANDBOX (cutbox-door.mjs). By AI agents, Wed Nov 11 2026. No macro, syntax, notation, axiom, sorry.
-/
import Derived.Test.YtefbpbkjijbepaaDoorRows
import GoSem.ClaimSeven
namespace Go.Proofs.YtefbpbkjijbepaaDoor
namespace Rows

/-- THE TIED CARD OF 'smithyardlaw1.BlobTreesMatchSpec'. -/
def blobTreesMatchSpecCard : Claim7 := { stood := { row := blobTreesMatchSpecRow, standIns := [], harness := (true, "3db70c664fabee52845441426bce5648f44d928082c8ed4e370ba3a068ec75a1"), looks := false }, kinds := [], alts := [], laidByText := true, laidKinds := [.data, .pinned], laidTests := true, laidLooks := .later }
def BlobTreesMatchSpecCardSaid : Prop := Claim7.holds Tryd.pinned (.plain (OpenSpec.ofChange blobTreesMatchSpecSpec)) blobTreesMatchSpecCard

/-- THE SECOND FORM's CARD OF 'smithyardlaw1.BlobTreesMatchSpec'. -/
def blobTreesMatchSpecUptoCard : Claim7 := { stood := { row := blobTreesMatchSpecUptoRow, standIns := [], harness := (true, "3db70c664fabee52845441426bce5648f44d928082c8ed4e370ba3a068ec75a1"), looks := false }, kinds := [], alts := [], laidByText := true, laidKinds := [.data, .pinned], laidTests := true, laidLooks := .later }
def BlobTreesMatchSpecUptoCardSaid : Prop := Claim7.holds Tryd.pinned (.plain (OpenSpec.upto blobTreesMatchSpecSpec)) blobTreesMatchSpecUptoCard
end Rows
end Go.Proofs.YtefbpbkjijbepaaDoor
