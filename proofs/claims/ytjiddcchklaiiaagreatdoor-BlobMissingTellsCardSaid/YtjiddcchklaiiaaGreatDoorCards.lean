/-
  DERIVED. GIVEN WITH THE SEED: THE CARDS: each row of YtjiddcchklaiiaaGreatDoorRows.lean that lists a variable, with what it lists TIED to the program's text (the seventh form; the later family's looks); each row that meets fmt, with fmt's text TOLD by the authors' own Lean function (tested against real Go, not proved from fmt's source: count such statements apart). THE CARD IS WHAT COUNTS. Prove the row's statement (the work); the ties are given (YtjiddcchklaiiaaGreatDoorTie.lean); close each card by the builder's one call (the guide's Derived/Test/ToyasCard.lean, 'card_holds'). Laid BY PROGRAM, IN A SANDBOX (cutbox-door.mjs). By AI agents, Wed Nov 11 2026. No macro, syntax, notation, axiom, sorry.
-/
import Derived.Test.YtjiddcchklaiiaaGreatDoorRows
import GoSem.ClaimSeven
namespace Go.Proofs.YtjiddcchklaiiaaGreatDoor
namespace Rows

/-- THE TIED CARD OF 'smithyardlaw1.BlobTreesComeBack'. -/
def blobTreesComeBackCard : Claim7 := { stood := { row := blobTreesComeBackRow, standIns := [], harness := (true, "5d99ad0ff1ef8f591c5b41c915f4391dd7f5892521cac7a9c8a2a67ce02c2a91"), looks := false }, kinds := [], alts := [], laidByText := true, laidKinds := [.data, .pinned], laidTests := true, laidLooks := .later }
def BlobTreesComeBackCardSaid : Prop := Claim7.holds Tryz.pinned (.plain (OpenSpec.ofChange blobTreesComeBackSpec)) blobTreesComeBackCard

/-- THE TIED CARD OF 'smithyardlaw1.BlobMissingTells'. -/
def blobMissingTellsCard : Claim7 := { stood := { row := blobMissingTellsRow, standIns := [], harness := (true, "5d99ad0ff1ef8f591c5b41c915f4391dd7f5892521cac7a9c8a2a67ce02c2a91"), looks := false }, kinds := [], alts := [], laidByText := true, laidKinds := [.data, .pinned], laidTests := true, laidLooks := .later }
def BlobMissingTellsCardSaid : Prop := Claim7.holds Tryz.pinned (.plain (OpenSpec.ofChange blobMissingTellsSpec)) blobMissingTellsCard

/-- THE SECOND FORM's CARD OF 'smithyardlaw1.BlobTreesComeBack'. -/
def blobTreesComeBackUptoCard : Claim7 := { stood := { row := blobTreesComeBackUptoRow, standIns := [], harness := (true, "5d99ad0ff1ef8f591c5b41c915f4391dd7f5892521cac7a9c8a2a67ce02c2a91"), looks := false }, kinds := [], alts := [], laidByText := true, laidKinds := [.data, .pinned], laidTests := true, laidLooks := .later }
def BlobTreesComeBackUptoCardSaid : Prop := Claim7.holds Tryz.pinned (.plain (OpenSpec.upto blobTreesComeBackSpec)) blobTreesComeBackUptoCard

/-- THE SECOND FORM's CARD OF 'smithyardlaw1.BlobMissingTells'. -/
def blobMissingTellsUptoCard : Claim7 := { stood := { row := blobMissingTellsUptoRow, standIns := [], harness := (true, "5d99ad0ff1ef8f591c5b41c915f4391dd7f5892521cac7a9c8a2a67ce02c2a91"), looks := false }, kinds := [], alts := [], laidByText := true, laidKinds := [.data, .pinned], laidTests := true, laidLooks := .later }
def BlobMissingTellsUptoCardSaid : Prop := Claim7.holds Tryz.pinned (.plain (OpenSpec.upto blobMissingTellsSpec)) blobMissingTellsUptoCard
end Rows
end Go.Proofs.YtjiddcchklaiiaaGreatDoor
