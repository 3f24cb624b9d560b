/-
  DERIVED. GIVEN WITH THE SEED: THE CARDS: each row of YthlkidohpiebiaaDoorRows.lean that lists a variable, with what it lists TIED to the program's text (the seventh form; the later family's looks); each row that meets fmt, with fmt's text TOLD by the authors' own Lean function (tested against real Go, not proved from fmt's source: count such statements apart). THE CARD IS WHAT COUNTS. Prove the row's statement (the work); the ties are given (YthlkidohpiebiaaDoorTie.lean); close each card by the builder's one call (the guide's Derived/Test/ToyasCard.lean, 'card_holds'). Laid BY PROGRAM, IN A SANDBOX (cutbox-door.mjs). By AI agents, Wed Nov 11 2026. No macro, syntax, notation, axiom, sorry.
-/
import Derived.Test.YthlkidohpiebiaaDoorRows
import GoSem.ClaimSeven
namespace Go.Proofs.YthlkidohpiebiaaDoor
namespace Rows

/-- THE TIED CARD OF 'smithyardlaw1.BlobPatternsMatchSpec'. -/
def blobPatternsMatchSpecCard : Claim7 := { stood := { row := blobPatternsMatchSpecRow, standIns := [], harness := (true, "e39b76409e9fde82924390eedf520e42e49a72b767e911837a618296f401baff"), looks := false }, kinds := [], alts := [], laidByText := true, laidKinds := [.data, .pinned], laidTests := true, laidLooks := .later }
def BlobPatternsMatchSpecCardSaid : Prop := Claim7.holds Tryd.pinned (.plain (OpenSpec.ofChange blobPatternsMatchSpecSpec)) blobPatternsMatchSpecCard

/-- THE TIED CARD OF 'smithyardlaw1.BlobSelectsFit'. -/
def blobSelectsFitCard : Claim7 := { stood := { row := blobSelectsFitRow, standIns := [], harness := (true, "e39b76409e9fde82924390eedf520e42e49a72b767e911837a618296f401baff"), looks := false }, kinds := [], alts := [], laidByText := true, laidKinds := [.data, .pinned], laidTests := true, laidLooks := .later }
def BlobSelectsFitCardSaid : Prop := Claim7.holds Tryd.pinned (.plain (OpenSpec.ofChange blobSelectsFitSpec)) blobSelectsFitCard

/-- THE TIED CARD OF 'smithyardlaw1.BlobSelectsMatchSpec'. -/
def blobSelectsMatchSpecCard : Claim7 := { stood := { row := blobSelectsMatchSpecRow, standIns := [], harness := (true, "e39b76409e9fde82924390eedf520e42e49a72b767e911837a618296f401baff"), looks := false }, kinds := [], alts := [], laidByText := true, laidKinds := [.data, .pinned], laidTests := true, laidLooks := .later }
def BlobSelectsMatchSpecCardSaid : Prop := Claim7.holds Tryd.pinned (.plain (OpenSpec.ofChange blobSelectsMatchSpecSpec)) blobSelectsMatchSpecCard

/-- THE TIED CARD OF 'smithyardlaw1.BlobChangesTurn'. -/
def blobChangesTurnCard : Claim7 := { stood := { row := blobChangesTurnRow, standIns := [], harness := (true, "e39b76409e9fde82924390eedf520e42e49a72b767e911837a618296f401baff"), looks := false }, kinds := [], alts := [], laidByText := true, laidKinds := [.data, .pinned], laidTests := true, laidLooks := .later }
def BlobChangesTurnCardSaid : Prop := Claim7.holds Tryd.pinned (.plain (OpenSpec.ofChange blobChangesTurnSpec)) blobChangesTurnCard

/-- THE TIED CARD OF 'smithyardlaw1.BlobChangesMatchSpec'. -/
def blobChangesMatchSpecCard : Claim7 := { stood := { row := blobChangesMatchSpecRow, standIns := [], harness := (true, "e39b76409e9fde82924390eedf520e42e49a72b767e911837a618296f401baff"), looks := false }, kinds := [], alts := [], laidByText := true, laidKinds := [.data, .pinned], laidTests := true, laidLooks := .later }
def BlobChangesMatchSpecCardSaid : Prop := Claim7.holds Tryd.pinned (.plain (OpenSpec.ofChange blobChangesMatchSpecSpec)) blobChangesMatchSpecCard

/-- THE TIED CARD OF 'smithyardlaw1.BlobPartsMatchSpec'. -/
def blobPartsMatchSpecCard : Claim7 := { stood := { row := blobPartsMatchSpecRow, standIns := [], harness := (true, "e39b76409e9fde82924390eedf520e42e49a72b767e911837a618296f401baff"), looks := false }, kinds := [], alts := [], laidByText := true, laidKinds := [.data, .pinned], laidTests := true, laidLooks := .later }
def BlobPartsMatchSpecCardSaid : Prop := Claim7.holds Tryd.pinned (.plain (OpenSpec.ofChange blobPartsMatchSpecSpec)) blobPartsMatchSpecCard

/-- THE TIED CARD OF 'smithyardlaw1.BlobPutIsThere'. -/
def blobPutIsThereCard : Claim7 := { stood := { row := blobPutIsThereRow, standIns := [], harness := (true, "e39b76409e9fde82924390eedf520e42e49a72b767e911837a618296f401baff"), looks := false }, kinds := [], alts := [], laidByText := true, laidKinds := [.data, .pinned], laidTests := true, laidLooks := .later }
def BlobPutIsThereCardSaid : Prop := Claim7.holds Tryd.pinned (.plain (OpenSpec.ofChange blobPutIsThereSpec)) blobPutIsThereCard

/-- THE TIED CARD OF 'smithyardlaw1.BlobMergesEasy'. -/
def blobMergesEasyCard : Claim7 := { stood := { row := blobMergesEasyRow, standIns := [], harness := (true, "e39b76409e9fde82924390eedf520e42e49a72b767e911837a618296f401baff"), looks := false }, kinds := [], alts := [], laidByText := true, laidKinds := [.data, .pinned], laidTests := true, laidLooks := .later }
def BlobMergesEasyCardSaid : Prop := Claim7.holds Tryd.pinned (.plain (OpenSpec.ofChange blobMergesEasySpec)) blobMergesEasyCard

/-- THE TIED CARD OF 'smithyardlaw1.BlobMergesEven'. -/
def blobMergesEvenCard : Claim7 := { stood := { row := blobMergesEvenRow, standIns := [], harness := (true, "e39b76409e9fde82924390eedf520e42e49a72b767e911837a618296f401baff"), looks := false }, kinds := [], alts := [], laidByText := true, laidKinds := [.data, .pinned], laidTests := true, laidLooks := .later }
def BlobMergesEvenCardSaid : Prop := Claim7.holds Tryd.pinned (.plain (OpenSpec.ofChange blobMergesEvenSpec)) blobMergesEvenCard

/-- THE TIED CARD OF 'smithyardlaw1.BlobMergesMatchSpec'. -/
def blobMergesMatchSpecCard : Claim7 := { stood := { row := blobMergesMatchSpecRow, standIns := [], harness := (true, "e39b76409e9fde82924390eedf520e42e49a72b767e911837a618296f401baff"), looks := false }, kinds := [], alts := [], laidByText := true, laidKinds := [.data, .pinned], laidTests := true, laidLooks := .later }
def BlobMergesMatchSpecCardSaid : Prop := Claim7.holds Tryd.pinned (.plain (OpenSpec.ofChange blobMergesMatchSpecSpec)) blobMergesMatchSpecCard

/-- THE TIED CARD OF 'smithyardlaw1.BlobTreesMatchSpec'. -/
def blobTreesMatchSpecCard : Claim7 := { stood := { row := blobTreesMatchSpecRow, standIns := [], harness := (true, "e39b76409e9fde82924390eedf520e42e49a72b767e911837a618296f401baff"), looks := false }, kinds := [], alts := [], laidByText := true, laidKinds := [.data, .pinned], laidTests := true, laidLooks := .later }
def BlobTreesMatchSpecCardSaid : Prop := Claim7.holds Tryd.pinned (.plain (OpenSpec.ofChange blobTreesMatchSpecSpec)) blobTreesMatchSpecCard

/-- THE SECOND FORM's CARD OF 'smithyardlaw1.BlobPatternsMatchSpec'. -/
def blobPatternsMatchSpecUptoCard : Claim7 := { stood := { row := blobPatternsMatchSpecUptoRow, standIns := [], harness := (true, "e39b76409e9fde82924390eedf520e42e49a72b767e911837a618296f401baff"), looks := false }, kinds := [], alts := [], laidByText := true, laidKinds := [.data, .pinned], laidTests := true, laidLooks := .later }
def BlobPatternsMatchSpecUptoCardSaid : Prop := Claim7.holds Tryd.pinned (.plain (OpenSpec.upto blobPatternsMatchSpecSpec)) blobPatternsMatchSpecUptoCard

/-- THE SECOND FORM's CARD OF 'smithyardlaw1.BlobSelectsFit'. -/
def blobSelectsFitUptoCard : Claim7 := { stood := { row := blobSelectsFitUptoRow, standIns := [], harness := (true, "e39b76409e9fde82924390eedf520e42e49a72b767e911837a618296f401baff"), looks := false }, kinds := [], alts := [], laidByText := true, laidKinds := [.data, .pinned], laidTests := true, laidLooks := .later }
def BlobSelectsFitUptoCardSaid : Prop := Claim7.holds Tryd.pinned (.plain (OpenSpec.upto blobSelectsFitSpec)) blobSelectsFitUptoCard

/-- THE SECOND FORM's CARD OF 'smithyardlaw1.BlobSelectsMatchSpec'. -/
def blobSelectsMatchSpecUptoCard : Claim7 := { stood := { row := blobSelectsMatchSpecUptoRow, standIns := [], harness := (true, "e39b76409e9fde82924390eedf520e42e49a72b767e911837a618296f401baff"), looks := false }, kinds := [], alts := [], laidByText := true, laidKinds := [.data, .pinned], laidTests := true, laidLooks := .later }
def BlobSelectsMatchSpecUptoCardSaid : Prop := Claim7.holds Tryd.pinned (.plain (OpenSpec.upto blobSelectsMatchSpecSpec)) blobSelectsMatchSpecUptoCard

/-- THE SECOND FORM's CARD OF 'smithyardlaw1.BlobChangesTurn'. -/
def blobChangesTurnUptoCard : Claim7 := { stood := { row := blobChangesTurnUptoRow, standIns := [], harness := (true, "e39b76409e9fde82924390eedf520e42e49a72b767e911837a618296f401baff"), looks := false }, kinds := [], alts := [], laidByText := true, laidKinds := [.data, .pinned], laidTests := true, laidLooks := .later }
def BlobChangesTurnUptoCardSaid : Prop := Claim7.holds Tryd.pinned (.plain (OpenSpec.upto blobChangesTurnSpec)) blobChangesTurnUptoCard

/-- THE SECOND FORM's CARD OF 'smithyardlaw1.BlobChangesMatchSpec'. -/
def blobChangesMatchSpecUptoCard : Claim7 := { stood := { row := blobChangesMatchSpecUptoRow, standIns := [], harness := (true, "e39b76409e9fde82924390eedf520e42e49a72b767e911837a618296f401baff"), looks := false }, kinds := [], alts := [], laidByText := true, laidKinds := [.data, .pinned], laidTests := true, laidLooks := .later }
def BlobChangesMatchSpecUptoCardSaid : Prop := Claim7.holds Tryd.pinned (.plain (OpenSpec.upto blobChangesMatchSpecSpec)) blobChangesMatchSpecUptoCard

/-- THE SECOND FORM's CARD OF 'smithyardlaw1.BlobPartsMatchSpec'. -/
def blobPartsMatchSpecUptoCard : Claim7 := { stood := { row := blobPartsMatchSpecUptoRow, standIns := [], harness := (true, "e39b76409e9fde82924390eedf520e42e49a72b767e911837a618296f401baff"), looks := false }, kinds := [], alts := [], laidByText := true, laidKinds := [.data, .pinned], laidTests := true, laidLooks := .later }
def BlobPartsMatchSpecUptoCardSaid : Prop := Claim7.holds Tryd.pinned (.plain (OpenSpec.upto blobPartsMatchSpecSpec)) blobPartsMatchSpecUptoCard

/-- THE SECOND FORM's CARD OF 'smithyardlaw1.BlobPutIsThere'. -/
def blobPutIsThereUptoCard : Claim7 := { stood := { row := blobPutIsThereUptoRow, standIns := [], harness := (true, "e39b76409e9fde82924390eedf520e42e49a72b767e911837a618296f401baff"), looks := false }, kinds := [], alts := [], laidByText := true, laidKinds := [.data, .pinned], laidTests := true, laidLooks := .later }
def BlobPutIsThereUptoCardSaid : Prop := Claim7.holds Tryd.pinned (.plain (OpenSpec.upto blobPutIsThereSpec)) blobPutIsThereUptoCard

/-- THE SECOND FORM's CARD OF 'smithyardlaw1.BlobMergesEasy'. -/
def blobMergesEasyUptoCard : Claim7 := { stood := { row := blobMergesEasyUptoRow, standIns := [], harness := (true, "e39b76409e9fde82924390eedf520e42e49a72b767e911837a618296f401baff"), looks := false }, kinds := [], alts := [], laidByText := true, laidKinds := [.data, .pinned], laidTests := true, laidLooks := .later }
def BlobMergesEasyUptoCardSaid : Prop := Claim7.holds Tryd.pinned (.plain (OpenSpec.upto blobMergesEasySpec)) blobMergesEasyUptoCard

/-- THE SECOND FORM's CARD OF 'smithyardlaw1.BlobMergesEven'. -/
def blobMergesEvenUptoCard : Claim7 := { stood := { row := blobMergesEvenUptoRow, standIns := [], harness := (true, "e39b76409e9fde82924390eedf520e42e49a72b767e911837a618296f401baff"), looks := false }, kinds := [], alts := [], laidByText := true, laidKinds := [.data, .pinned], laidTests := true, laidLooks := .later }
def BlobMergesEvenUptoCardSaid : Prop := Claim7.holds Tryd.pinned (.plain (OpenSpec.upto blobMergesEvenSpec)) blobMergesEvenUptoCard

/-- THE SECOND FORM's CARD OF 'smithyardlaw1.BlobMergesMatchSpec'. -/
def blobMergesMatchSpecUptoCard : Claim7 := { stood := { row := blobMergesMatchSpecUptoRow, standIns := [], harness := (true, "e39b76409e9fde82924390eedf520e42e49a72b767e911837a618296f401baff"), looks := false }, kinds := [], alts := [], laidByText := true, laidKinds := [.data, .pinned], laidTests := true, laidLooks := .later }
def BlobMergesMatchSpecUptoCardSaid : Prop := Claim7.holds Tryd.pinned (.plain (OpenSpec.upto blobMergesMatchSpecSpec)) blobMergesMatchSpecUptoCard

/-- THE SECOND FORM's CARD OF 'smithyardlaw1.BlobTreesMatchSpec'. -/
def blobTreesMatchSpecUptoCard : Claim7 := { stood := { row := blobTreesMatchSpecUptoRow, standIns := [], harness := (true, "e39b76409e9fde82924390eedf520e42e49a72b767e911837a618296f401baff"), looks := false }, kinds := [], alts := [], laidByText := true, laidKinds := [.data, .pinned], laidTests := true, laidLooks := .later }
def BlobTreesMatchSpecUptoCardSaid : Prop := Claim7.holds Tryd.pinned (.plain (OpenSpec.upto blobTreesMatchSpecSpec)) blobTreesMatchSpecUptoCard
end Rows
end Go.Proofs.YthlkidohpiebiaaDoor
