/-
  NARROWER THAN 'FOR EVERY INPUT', by the rows' own cells (each row's printed sentence says how): BlobPatternsMatchSpec: laid · BlobSelectsFit: laid · BlobSelectsMatchSpec: laid · BlobChangesTurn: laid · BlobChangesMatchSpec: laid · BlobPartsMatchSpec: laid · BlobPutIsThere: laid · BlobMergesEasy: laid · BlobMergesEven: laid · BlobMergesMatchSpec: laid · BlobTreesMatchSpec: laid.
  DERIVED. THE GIVEN ROWS OF THIS SEAT. 11 by the template 'for every input the law returns true; each argument reads behind the call as it read before'; 0 by the template 'total and deterministic' (their statements: YthlkidohpiebiaaDoorTotals.lean).
  GIVEN WITH THE SEED: the statements are not yours to turn. If you find one false, say at which input.
  Laid BY PROGRAM, IN A SANDBOX (cutbox-rows.mjs): the forced cells as the released guide's own fill.sh prints them over the translation 6974bc29cd4cd0b4… (all of the seat's roots in one cut). By AI agents, Wed Nov 11 2026. No macro, syntax, notation, axiom, sorry.
-/
import Derived.Test.YthlkidohpiebiaaDoorChecked
import GoSem.PinnedTables
import GoSem.Claim
import GoSem.ClaimJoined
import GoSem.ClaimMapViews
import Derived.JoinedTies
import Derived.KernelRfl
namespace Go.Proofs.YthlkidohpiebiaaDoor
/- THE CELL 'sum', in the pinned program and in every row, IS THE sha256 OF THE DUMP (.gsa) THAT YthlkidohpiebiaaDoorProg.lean LOADS. Nothing in Lean hashes anything: it is a label: what it is worth is what the hold of that sum in a sandbox is worth. -/
noncomputable def Tryd.pinned : Pinned := { name := "ythlkidohpiebiaadoor", sum := "6974bc29cd4cd0b444eaddae92330a7852c470f08661bb9166818ee4c1d22823", checked := Tryd.checked }
namespace Rows
def none {H : Type} : Left H := { results := [], args := [] }

/- WHAT THE LISTED PACKAGE-LEVEL VARIABLES READ AS WHEN THE CALL BEGINS. Each datum BY PROGRAM (the guide's laid-datum.mjs) off the statement by which the dump's own 'gosem.cut.vars' lays the variable. In a bare row this is a premise. The card (YthlkidohpiebiaaDoorCards.lean) ties it to the program's text. -/
def laid_unicode_utf8_acceptRanges {H : Type} : DataW H := .agg [.agg [.lit (.int .u8 128), .lit (.int .u8 191)], .agg [.lit (.int .u8 160), .lit (.int .u8 191)], .agg [.lit (.int .u8 128), .lit (.int .u8 159)], .agg [.lit (.int .u8 144), .lit (.int .u8 191)], .agg [.lit (.int .u8 128), .lit (.int .u8 143)], .agg [.lit (.int .u8 0), .lit (.int .u8 0)], .agg [.lit (.int .u8 0), .lit (.int .u8 0)], .agg [.lit (.int .u8 0), .lit (.int .u8 0)], .agg [.lit (.int .u8 0), .lit (.int .u8 0)], .agg [.lit (.int .u8 0), .lit (.int .u8 0)], .agg [.lit (.int .u8 0), .lit (.int .u8 0)], .agg [.lit (.int .u8 0), .lit (.int .u8 0)], .agg [.lit (.int .u8 0), .lit (.int .u8 0)], .agg [.lit (.int .u8 0), .lit (.int .u8 0)], .agg [.lit (.int .u8 0), .lit (.int .u8 0)], .agg [.lit (.int .u8 0), .lit (.int .u8 0)]]
/-- One of Go's own tables, pinned by name: the form's constant. -/
def laid_unicode_utf8_first : DataW Unit := Go.Pinned.utf8First

/-- 'smithyardlaw1.BlobPatternsMatchSpec': WHATEVER THE INPUT: true; the input reads as it did. -/
def blobPatternsMatchSpecSpec : ChangeSpec := { name := "blobPatternsMatchSpec", fn := fun _ => fun
  | [d1, d2] => { results := [.lit (.bool true)], args := [d1, d2] }
  | _ => none }
def blobPatternsMatchSpecRow : OpenClaim := { program := "ythlkidohpiebiaadoor", sum := "6974bc29cd4cd0b444eaddae92330a7852c470f08661bb9166818ee4c1d22823", func := "smithyard/smithyardlaw1.BlobPatternsMatchSpec", spec := "blobPatternsMatchSpec", inPlace := ["internal/bytealg.CountString", "internal/bytealg.IndexByteString", "internal/bytealg.IndexString"], unfollowed := true, recurses := true, named := ["unicode/utf8.first", "unicode/utf8.acceptRanges", "internal/bytealg.MaxLen"], apart := false, laid := [("unicode/utf8.acceptRanges", laid_unicode_utf8_acceptRanges), ("unicode/utf8.first", laid_unicode_utf8_first)] }
def BlobPatternsMatchSpecSaid : Prop := blobPatternsMatchSpecRow.holds Tryd.pinned (OpenSpec.ofChange blobPatternsMatchSpecSpec)

/-- ITS FALSE NEIGHBOUR: 'it returns false'. Refute it at one input. -/
def blobPatternsMatchSpecWrong : ChangeSpec := { name := "blobPatternsMatchSpec", fn := fun _ => fun
  | [d1, d2] => { results := [.lit (.bool false)], args := [d1, d2] }
  | _ => none }
def BlobPatternsMatchSpecWrongFalsely : Prop := blobPatternsMatchSpecRow.holds Tryd.pinned (OpenSpec.ofChange blobPatternsMatchSpecWrong)

/-- 'smithyardlaw1.BlobSelectsFit': WHATEVER THE INPUT: true; the input reads as it did. -/
def blobSelectsFitSpec : ChangeSpec := { name := "blobSelectsFit", fn := fun _ => fun
  | [d1, d2] => { results := [.lit (.bool true)], args := [d1, d2] }
  | _ => none }
def blobSelectsFitRow : OpenClaim := { program := "ythlkidohpiebiaadoor", sum := "6974bc29cd4cd0b444eaddae92330a7852c470f08661bb9166818ee4c1d22823", func := "smithyard/smithyardlaw1.BlobSelectsFit", spec := "blobSelectsFit", inPlace := ["internal/bytealg.CountString", "internal/bytealg.IndexByteString", "internal/bytealg.IndexString"], unfollowed := true, recurses := true, named := ["unicode/utf8.first", "unicode/utf8.acceptRanges", "internal/bytealg.MaxLen"], apart := false, laid := [("unicode/utf8.acceptRanges", laid_unicode_utf8_acceptRanges), ("unicode/utf8.first", laid_unicode_utf8_first)] }
def BlobSelectsFitSaid : Prop := blobSelectsFitRow.holds Tryd.pinned (OpenSpec.ofChange blobSelectsFitSpec)

/-- ITS FALSE NEIGHBOUR: 'it returns false'. Refute it at one input. -/
def blobSelectsFitWrong : ChangeSpec := { name := "blobSelectsFit", fn := fun _ => fun
  | [d1, d2] => { results := [.lit (.bool false)], args := [d1, d2] }
  | _ => none }
def BlobSelectsFitWrongFalsely : Prop := blobSelectsFitRow.holds Tryd.pinned (OpenSpec.ofChange blobSelectsFitWrong)

/-- 'smithyardlaw1.BlobSelectsMatchSpec': WHATEVER THE INPUT: true; the input reads as it did. -/
def blobSelectsMatchSpecSpec : ChangeSpec := { name := "blobSelectsMatchSpec", fn := fun _ => fun
  | [d1, d2, d3] => { results := [.lit (.bool true)], args := [d1, d2, d3] }
  | _ => none }
def blobSelectsMatchSpecRow : OpenClaim := { program := "ythlkidohpiebiaadoor", sum := "6974bc29cd4cd0b444eaddae92330a7852c470f08661bb9166818ee4c1d22823", func := "smithyard/smithyardlaw1.BlobSelectsMatchSpec", spec := "blobSelectsMatchSpec", inPlace := ["internal/bytealg.CountString", "internal/bytealg.IndexByteString", "internal/bytealg.IndexString"], unfollowed := true, recurses := true, named := ["unicode/utf8.first", "unicode/utf8.acceptRanges", "internal/bytealg.MaxLen"], apart := false, laid := [("unicode/utf8.acceptRanges", laid_unicode_utf8_acceptRanges), ("unicode/utf8.first", laid_unicode_utf8_first)] }
def BlobSelectsMatchSpecSaid : Prop := blobSelectsMatchSpecRow.holds Tryd.pinned (OpenSpec.ofChange blobSelectsMatchSpecSpec)

/-- ITS FALSE NEIGHBOUR: 'it returns false'. Refute it at one input. -/
def blobSelectsMatchSpecWrong : ChangeSpec := { name := "blobSelectsMatchSpec", fn := fun _ => fun
  | [d1, d2, d3] => { results := [.lit (.bool false)], args := [d1, d2, d3] }
  | _ => none }
def BlobSelectsMatchSpecWrongFalsely : Prop := blobSelectsMatchSpecRow.holds Tryd.pinned (OpenSpec.ofChange blobSelectsMatchSpecWrong)

/-- 'smithyardlaw1.BlobChangesTurn': WHATEVER THE INPUT: true; the input reads as it did. -/
def blobChangesTurnSpec : ChangeSpec := { name := "blobChangesTurn", fn := fun _ => fun
  | [d1, d2] => { results := [.lit (.bool true)], args := [d1, d2] }
  | _ => none }
def blobChangesTurnRow : OpenClaim := { program := "ythlkidohpiebiaadoor", sum := "6974bc29cd4cd0b444eaddae92330a7852c470f08661bb9166818ee4c1d22823", func := "smithyard/smithyardlaw1.BlobChangesTurn", spec := "blobChangesTurn", inPlace := ["internal/bytealg.CountString", "internal/bytealg.IndexByteString", "internal/bytealg.IndexString"], unfollowed := true, recurses := true, named := ["unicode/utf8.first", "unicode/utf8.acceptRanges", "internal/bytealg.MaxLen"], apart := false, laid := [("unicode/utf8.acceptRanges", laid_unicode_utf8_acceptRanges), ("unicode/utf8.first", laid_unicode_utf8_first)] }
def BlobChangesTurnSaid : Prop := blobChangesTurnRow.holds Tryd.pinned (OpenSpec.ofChange blobChangesTurnSpec)

/-- ITS FALSE NEIGHBOUR: 'it returns false'. Refute it at one input. -/
def blobChangesTurnWrong : ChangeSpec := { name := "blobChangesTurn", fn := fun _ => fun
  | [d1, d2] => { results := [.lit (.bool false)], args := [d1, d2] }
  | _ => none }
def BlobChangesTurnWrongFalsely : Prop := blobChangesTurnRow.holds Tryd.pinned (OpenSpec.ofChange blobChangesTurnWrong)

/-- 'smithyardlaw1.BlobChangesMatchSpec': WHATEVER THE INPUT: true; the input reads as it did. -/
def blobChangesMatchSpecSpec : ChangeSpec := { name := "blobChangesMatchSpec", fn := fun _ => fun
  | [d1, d2] => { results := [.lit (.bool true)], args := [d1, d2] }
  | _ => none }
def blobChangesMatchSpecRow : OpenClaim := { program := "ythlkidohpiebiaadoor", sum := "6974bc29cd4cd0b444eaddae92330a7852c470f08661bb9166818ee4c1d22823", func := "smithyard/smithyardlaw1.BlobChangesMatchSpec", spec := "blobChangesMatchSpec", inPlace := ["internal/bytealg.CountString", "internal/bytealg.IndexByteString", "internal/bytealg.IndexString"], unfollowed := true, recurses := true, named := ["unicode/utf8.first", "unicode/utf8.acceptRanges", "internal/bytealg.MaxLen"], apart := false, laid := [("unicode/utf8.acceptRanges", laid_unicode_utf8_acceptRanges), ("unicode/utf8.first", laid_unicode_utf8_first)] }
def BlobChangesMatchSpecSaid : Prop := blobChangesMatchSpecRow.holds Tryd.pinned (OpenSpec.ofChange blobChangesMatchSpecSpec)

/-- ITS FALSE NEIGHBOUR: 'it returns false'. Refute it at one input. -/
def blobChangesMatchSpecWrong : ChangeSpec := { name := "blobChangesMatchSpec", fn := fun _ => fun
  | [d1, d2] => { results := [.lit (.bool false)], args := [d1, d2] }
  | _ => none }
def BlobChangesMatchSpecWrongFalsely : Prop := blobChangesMatchSpecRow.holds Tryd.pinned (OpenSpec.ofChange blobChangesMatchSpecWrong)

/-- 'smithyardlaw1.BlobPartsMatchSpec': WHATEVER THE INPUT: true; the input reads as it did. -/
def blobPartsMatchSpecSpec : ChangeSpec := { name := "blobPartsMatchSpec", fn := fun _ => fun
  | [d1, d2, d3] => { results := [.lit (.bool true)], args := [d1, d2, d3] }
  | _ => none }
def blobPartsMatchSpecRow : OpenClaim := { program := "ythlkidohpiebiaadoor", sum := "6974bc29cd4cd0b444eaddae92330a7852c470f08661bb9166818ee4c1d22823", func := "smithyard/smithyardlaw1.BlobPartsMatchSpec", spec := "blobPartsMatchSpec", inPlace := ["internal/bytealg.CountString", "internal/bytealg.IndexByteString", "internal/bytealg.IndexString", "internal/bytealg.abigen_runtime_cmpstring"], unfollowed := true, recurses := true, named := ["unicode/utf8.first", "unicode/utf8.acceptRanges", "internal/bytealg.MaxLen"], apart := false, laid := [("unicode/utf8.acceptRanges", laid_unicode_utf8_acceptRanges), ("unicode/utf8.first", laid_unicode_utf8_first)] }
def BlobPartsMatchSpecSaid : Prop := blobPartsMatchSpecRow.holds Tryd.pinned (OpenSpec.ofChange blobPartsMatchSpecSpec)

/-- ITS FALSE NEIGHBOUR: 'it returns false'. Refute it at one input. -/
def blobPartsMatchSpecWrong : ChangeSpec := { name := "blobPartsMatchSpec", fn := fun _ => fun
  | [d1, d2, d3] => { results := [.lit (.bool false)], args := [d1, d2, d3] }
  | _ => none }
def BlobPartsMatchSpecWrongFalsely : Prop := blobPartsMatchSpecRow.holds Tryd.pinned (OpenSpec.ofChange blobPartsMatchSpecWrong)

/-- 'smithyardlaw1.BlobPutIsThere': WHATEVER THE INPUT: true; the input reads as it did. -/
def blobPutIsThereSpec : ChangeSpec := { name := "blobPutIsThere", fn := fun _ => fun
  | [d1, d2, d3] => { results := [.lit (.bool true)], args := [d1, d2, d3] }
  | _ => none }
def blobPutIsThereRow : OpenClaim := { program := "ythlkidohpiebiaadoor", sum := "6974bc29cd4cd0b444eaddae92330a7852c470f08661bb9166818ee4c1d22823", func := "smithyard/smithyardlaw1.BlobPutIsThere", spec := "blobPutIsThere", inPlace := ["internal/bytealg.CountString", "internal/bytealg.IndexByteString", "internal/bytealg.IndexString", "internal/bytealg.abigen_runtime_cmpstring"], unfollowed := true, recurses := true, named := ["unicode/utf8.first", "unicode/utf8.acceptRanges", "internal/bytealg.MaxLen"], apart := false, laid := [("unicode/utf8.acceptRanges", laid_unicode_utf8_acceptRanges), ("unicode/utf8.first", laid_unicode_utf8_first)] }
def BlobPutIsThereSaid : Prop := blobPutIsThereRow.holds Tryd.pinned (OpenSpec.ofChange blobPutIsThereSpec)

/-- ITS FALSE NEIGHBOUR: 'it returns false'. Refute it at one input. -/
def blobPutIsThereWrong : ChangeSpec := { name := "blobPutIsThere", fn := fun _ => fun
  | [d1, d2, d3] => { results := [.lit (.bool false)], args := [d1, d2, d3] }
  | _ => none }
def BlobPutIsThereWrongFalsely : Prop := blobPutIsThereRow.holds Tryd.pinned (OpenSpec.ofChange blobPutIsThereWrong)

/-- 'smithyardlaw1.BlobMergesEasy': WHATEVER THE INPUT: true; the input reads as it did. -/
def blobMergesEasySpec : ChangeSpec := { name := "blobMergesEasy", fn := fun _ => fun
  | [d1, d2] => { results := [.lit (.bool true)], args := [d1, d2] }
  | _ => none }
def blobMergesEasyRow : OpenClaim := { program := "ythlkidohpiebiaadoor", sum := "6974bc29cd4cd0b444eaddae92330a7852c470f08661bb9166818ee4c1d22823", func := "smithyard/smithyardlaw1.BlobMergesEasy", spec := "blobMergesEasy", inPlace := ["internal/bytealg.CountString", "internal/bytealg.IndexByteString", "internal/bytealg.IndexString"], unfollowed := true, recurses := true, named := ["unicode/utf8.first", "unicode/utf8.acceptRanges", "internal/bytealg.MaxLen"], apart := false, laid := [("unicode/utf8.acceptRanges", laid_unicode_utf8_acceptRanges), ("unicode/utf8.first", laid_unicode_utf8_first)] }
def BlobMergesEasySaid : Prop := blobMergesEasyRow.holds Tryd.pinned (OpenSpec.ofChange blobMergesEasySpec)

/-- ITS FALSE NEIGHBOUR: 'it returns false'. Refute it at one input. -/
def blobMergesEasyWrong : ChangeSpec := { name := "blobMergesEasy", fn := fun _ => fun
  | [d1, d2] => { results := [.lit (.bool false)], args := [d1, d2] }
  | _ => none }
def BlobMergesEasyWrongFalsely : Prop := blobMergesEasyRow.holds Tryd.pinned (OpenSpec.ofChange blobMergesEasyWrong)

/-- 'smithyardlaw1.BlobMergesEven': WHATEVER THE INPUT: true; the input reads as it did. -/
def blobMergesEvenSpec : ChangeSpec := { name := "blobMergesEven", fn := fun _ => fun
  | [d1, d2, d3] => { results := [.lit (.bool true)], args := [d1, d2, d3] }
  | _ => none }
def blobMergesEvenRow : OpenClaim := { program := "ythlkidohpiebiaadoor", sum := "6974bc29cd4cd0b444eaddae92330a7852c470f08661bb9166818ee4c1d22823", func := "smithyard/smithyardlaw1.BlobMergesEven", spec := "blobMergesEven", inPlace := ["internal/bytealg.CountString", "internal/bytealg.IndexByteString", "internal/bytealg.IndexString"], unfollowed := true, recurses := true, named := ["unicode/utf8.first", "unicode/utf8.acceptRanges", "internal/bytealg.MaxLen"], apart := false, laid := [("unicode/utf8.acceptRanges", laid_unicode_utf8_acceptRanges), ("unicode/utf8.first", laid_unicode_utf8_first)] }
def BlobMergesEvenSaid : Prop := blobMergesEvenRow.holds Tryd.pinned (OpenSpec.ofChange blobMergesEvenSpec)

/-- ITS FALSE NEIGHBOUR: 'it returns false'. Refute it at one input. -/
def blobMergesEvenWrong : ChangeSpec := { name := "blobMergesEven", fn := fun _ => fun
  | [d1, d2, d3] => { results := [.lit (.bool false)], args := [d1, d2, d3] }
  | _ => none }
def BlobMergesEvenWrongFalsely : Prop := blobMergesEvenRow.holds Tryd.pinned (OpenSpec.ofChange blobMergesEvenWrong)

/-- 'smithyardlaw1.BlobMergesMatchSpec': WHATEVER THE INPUT: true; the input reads as it did. -/
def blobMergesMatchSpecSpec : ChangeSpec := { name := "blobMergesMatchSpec", fn := fun _ => fun
  | [d1, d2, d3] => { results := [.lit (.bool true)], args := [d1, d2, d3] }
  | _ => none }
def blobMergesMatchSpecRow : OpenClaim := { program := "ythlkidohpiebiaadoor", sum := "6974bc29cd4cd0b444eaddae92330a7852c470f08661bb9166818ee4c1d22823", func := "smithyard/smithyardlaw1.BlobMergesMatchSpec", spec := "blobMergesMatchSpec", inPlace := ["internal/bytealg.CountString", "internal/bytealg.IndexByteString", "internal/bytealg.IndexString"], unfollowed := true, recurses := true, named := ["unicode/utf8.first", "unicode/utf8.acceptRanges", "internal/bytealg.MaxLen"], apart := false, laid := [("unicode/utf8.acceptRanges", laid_unicode_utf8_acceptRanges), ("unicode/utf8.first", laid_unicode_utf8_first)] }
def BlobMergesMatchSpecSaid : Prop := blobMergesMatchSpecRow.holds Tryd.pinned (OpenSpec.ofChange blobMergesMatchSpecSpec)

/-- ITS FALSE NEIGHBOUR: 'it returns false'. Refute it at one input. -/
def blobMergesMatchSpecWrong : ChangeSpec := { name := "blobMergesMatchSpec", fn := fun _ => fun
  | [d1, d2, d3] => { results := [.lit (.bool false)], args := [d1, d2, d3] }
  | _ => none }
def BlobMergesMatchSpecWrongFalsely : Prop := blobMergesMatchSpecRow.holds Tryd.pinned (OpenSpec.ofChange blobMergesMatchSpecWrong)

/-- 'smithyardlaw1.BlobTreesMatchSpec': WHATEVER THE INPUT: true; the input reads as it did. -/
def blobTreesMatchSpecSpec : ChangeSpec := { name := "blobTreesMatchSpec", fn := fun _ => fun
  | [d] => { results := [.lit (.bool true)], args := [d] }
  | _ => none }
def blobTreesMatchSpecRow : OpenClaim := { program := "ythlkidohpiebiaadoor", sum := "6974bc29cd4cd0b444eaddae92330a7852c470f08661bb9166818ee4c1d22823", func := "smithyard/smithyardlaw1.BlobTreesMatchSpec", spec := "blobTreesMatchSpec", inPlace := ["internal/bytealg.CountString", "internal/bytealg.IndexByteString", "internal/bytealg.IndexString", "internal/bytealg.abigen_runtime_cmpstring"], unfollowed := true, recurses := true, named := ["unicode/utf8.first", "unicode/utf8.acceptRanges", "internal/bytealg.MaxLen"], apart := false, laid := [("unicode/utf8.acceptRanges", laid_unicode_utf8_acceptRanges), ("unicode/utf8.first", laid_unicode_utf8_first)] }
def BlobTreesMatchSpecSaid : Prop := blobTreesMatchSpecRow.holds Tryd.pinned (OpenSpec.ofChange blobTreesMatchSpecSpec)

/-- ITS FALSE NEIGHBOUR: 'it returns false'. Refute it at one input. -/
def blobTreesMatchSpecWrong : ChangeSpec := { name := "blobTreesMatchSpec", fn := fun _ => fun
  | [d] => { results := [.lit (.bool false)], args := [d] }
  | _ => none }
def BlobTreesMatchSpecWrongFalsely : Prop := blobTreesMatchSpecRow.holds Tryd.pinned (OpenSpec.ofChange blobTreesMatchSpecWrong)

/- THE SECOND FORM. 'bulk': how many values and letters a reading holds, each counted each time it is reached (what is shared counts as often as it is met; a slice's spare places count too). A statement '..UptoSaid' is the law's where the arguments, and the package variables that the reading takes, are together of bulk at most 1048576: NARROWER than '..Said'. Prove '..Said' where nothing that the law and all that it calls make is longer than what came in: it says more and counts as full. Else prove '..UptoSaid'. A law counts once. -/
mutual
def uptoBulk {H : Type} : DataW H → Nat
  | .lit (.string bytes) => bytes.length + 1
  | .lit _ => 1
  | .nil => 1
  | .ptr d => uptoBulk d + 1
  | .slice elems spare => uptoBulkAll elems + uptoBulkAll spare + 1
  | .agg parts => uptoBulkAll parts + 1
  | .iface _ d => uptoBulk d + 1
  | .map entries => uptoBulkEntries entries + 1
  | .held _ => 1
def uptoBulkAll {H : Type} : List (DataW H) → Nat
  | [] => 0
  | d :: r => uptoBulk d + uptoBulkAll r
def uptoBulkEntries {H : Type} : List (Lit × DataW H) → Nat
  | [] => 0
  | x :: r => uptoBulkEntry x + uptoBulkEntries r
def uptoBulkEntry {H : Type} : Lit × DataW H → Nat
  | (.string bytes, d) => bytes.length + uptoBulk d + 1
  | (_, d) => uptoBulk d + 1
 end
def uptoSmall : (H : Type) → List (DataW H) → Bool := fun _ ds => decide (uptoBulkAll ds ≤ 1048576)
def OpenSpec.upto (s : _root_.Go.ChangeSpec) : _root_.Go.OpenSpec := { _root_.Go.OpenSpec.ofChange s with cond := some uptoSmall }

/-- 'smithyardlaw1.BlobPatternsMatchSpec', WHERE WHAT IT READS IS OF BULK AT MOST 1048576: true; the input reads as it did. -/
def blobPatternsMatchSpecUptoRow : OpenClaim := { program := "ythlkidohpiebiaadoor", sum := "6974bc29cd4cd0b444eaddae92330a7852c470f08661bb9166818ee4c1d22823", func := "smithyard/smithyardlaw1.BlobPatternsMatchSpec", spec := "blobPatternsMatchSpec", inPlace := ["internal/bytealg.CountString", "internal/bytealg.IndexByteString", "internal/bytealg.IndexString"], unfollowed := true, recurses := true, named := ["unicode/utf8.first", "unicode/utf8.acceptRanges", "internal/bytealg.MaxLen"], apart := false, laid := [("unicode/utf8.acceptRanges", laid_unicode_utf8_acceptRanges), ("unicode/utf8.first", laid_unicode_utf8_first)], narrowed := true }
def BlobPatternsMatchSpecUptoSaid : Prop := blobPatternsMatchSpecUptoRow.holds Tryd.pinned (OpenSpec.upto blobPatternsMatchSpecSpec)

/-- 'smithyardlaw1.BlobSelectsFit', WHERE WHAT IT READS IS OF BULK AT MOST 1048576: true; the input reads as it did. -/
def blobSelectsFitUptoRow : OpenClaim := { program := "ythlkidohpiebiaadoor", sum := "6974bc29cd4cd0b444eaddae92330a7852c470f08661bb9166818ee4c1d22823", func := "smithyard/smithyardlaw1.BlobSelectsFit", spec := "blobSelectsFit", inPlace := ["internal/bytealg.CountString", "internal/bytealg.IndexByteString", "internal/bytealg.IndexString"], unfollowed := true, recurses := true, named := ["unicode/utf8.first", "unicode/utf8.acceptRanges", "internal/bytealg.MaxLen"], apart := false, laid := [("unicode/utf8.acceptRanges", laid_unicode_utf8_acceptRanges), ("unicode/utf8.first", laid_unicode_utf8_first)], narrowed := true }
def BlobSelectsFitUptoSaid : Prop := blobSelectsFitUptoRow.holds Tryd.pinned (OpenSpec.upto blobSelectsFitSpec)

/-- 'smithyardlaw1.BlobSelectsMatchSpec', WHERE WHAT IT READS IS OF BULK AT MOST 1048576: true; the input reads as it did. -/
def blobSelectsMatchSpecUptoRow : OpenClaim := { program := "ythlkidohpiebiaadoor", sum := "6974bc29cd4cd0b444eaddae92330a7852c470f08661bb9166818ee4c1d22823", func := "smithyard/smithyardlaw1.BlobSelectsMatchSpec", spec := "blobSelectsMatchSpec", inPlace := ["internal/bytealg.CountString", "internal/bytealg.IndexByteString", "internal/bytealg.IndexString"], unfollowed := true, recurses := true, named := ["unicode/utf8.first", "unicode/utf8.acceptRanges", "internal/bytealg.MaxLen"], apart := false, laid := [("unicode/utf8.acceptRanges", laid_unicode_utf8_acceptRanges), ("unicode/utf8.first", laid_unicode_utf8_first)], narrowed := true }
def BlobSelectsMatchSpecUptoSaid : Prop := blobSelectsMatchSpecUptoRow.holds Tryd.pinned (OpenSpec.upto blobSelectsMatchSpecSpec)

/-- 'smithyardlaw1.BlobChangesTurn', WHERE WHAT IT READS IS OF BULK AT MOST 1048576: true; the input reads as it did. -/
def blobChangesTurnUptoRow : OpenClaim := { program := "ythlkidohpiebiaadoor", sum := "6974bc29cd4cd0b444eaddae92330a7852c470f08661bb9166818ee4c1d22823", func := "smithyard/smithyardlaw1.BlobChangesTurn", spec := "blobChangesTurn", inPlace := ["internal/bytealg.CountString", "internal/bytealg.IndexByteString", "internal/bytealg.IndexString"], unfollowed := true, recurses := true, named := ["unicode/utf8.first", "unicode/utf8.acceptRanges", "internal/bytealg.MaxLen"], apart := false, laid := [("unicode/utf8.acceptRanges", laid_unicode_utf8_acceptRanges), ("unicode/utf8.first", laid_unicode_utf8_first)], narrowed := true }
def BlobChangesTurnUptoSaid : Prop := blobChangesTurnUptoRow.holds Tryd.pinned (OpenSpec.upto blobChangesTurnSpec)

/-- 'smithyardlaw1.BlobChangesMatchSpec', WHERE WHAT IT READS IS OF BULK AT MOST 1048576: true; the input reads as it did. -/
def blobChangesMatchSpecUptoRow : OpenClaim := { program := "ythlkidohpiebiaadoor", sum := "6974bc29cd4cd0b444eaddae92330a7852c470f08661bb9166818ee4c1d22823", func := "smithyard/smithyardlaw1.BlobChangesMatchSpec", spec := "blobChangesMatchSpec", inPlace := ["internal/bytealg.CountString", "internal/bytealg.IndexByteString", "internal/bytealg.IndexString"], unfollowed := true, recurses := true, named := ["unicode/utf8.first", "unicode/utf8.acceptRanges", "internal/bytealg.MaxLen"], apart := false, laid := [("unicode/utf8.acceptRanges", laid_unicode_utf8_acceptRanges), ("unicode/utf8.first", laid_unicode_utf8_first)], narrowed := true }
def BlobChangesMatchSpecUptoSaid : Prop := blobChangesMatchSpecUptoRow.holds Tryd.pinned (OpenSpec.upto blobChangesMatchSpecSpec)

/-- 'smithyardlaw1.BlobPartsMatchSpec', WHERE WHAT IT READS IS OF BULK AT MOST 1048576: true; the input reads as it did. -/
def blobPartsMatchSpecUptoRow : OpenClaim := { program := "ythlkidohpiebiaadoor", sum := "6974bc29cd4cd0b444eaddae92330a7852c470f08661bb9166818ee4c1d22823", func := "smithyard/smithyardlaw1.BlobPartsMatchSpec", spec := "blobPartsMatchSpec", inPlace := ["internal/bytealg.CountString", "internal/bytealg.IndexByteString", "internal/bytealg.IndexString", "internal/bytealg.abigen_runtime_cmpstring"], unfollowed := true, recurses := true, named := ["unicode/utf8.first", "unicode/utf8.acceptRanges", "internal/bytealg.MaxLen"], apart := false, laid := [("unicode/utf8.acceptRanges", laid_unicode_utf8_acceptRanges), ("unicode/utf8.first", laid_unicode_utf8_first)], narrowed := true }
def BlobPartsMatchSpecUptoSaid : Prop := blobPartsMatchSpecUptoRow.holds Tryd.pinned (OpenSpec.upto blobPartsMatchSpecSpec)

/-- 'smithyardlaw1.BlobPutIsThere', WHERE WHAT IT READS IS OF BULK AT MOST 1048576: true; the input reads as it did. -/
def blobPutIsThereUptoRow : OpenClaim := { program := "ythlkidohpiebiaadoor", sum := "6974bc29cd4cd0b444eaddae92330a7852c470f08661bb9166818ee4c1d22823", func := "smithyard/smithyardlaw1.BlobPutIsThere", spec := "blobPutIsThere", inPlace := ["internal/bytealg.CountString", "internal/bytealg.IndexByteString", "internal/bytealg.IndexString", "internal/bytealg.abigen_runtime_cmpstring"], unfollowed := true, recurses := true, named := ["unicode/utf8.first", "unicode/utf8.acceptRanges", "internal/bytealg.MaxLen"], apart := false, laid := [("unicode/utf8.acceptRanges", laid_unicode_utf8_acceptRanges), ("unicode/utf8.first", laid_unicode_utf8_first)], narrowed := true }
def BlobPutIsThereUptoSaid : Prop := blobPutIsThereUptoRow.holds Tryd.pinned (OpenSpec.upto blobPutIsThereSpec)

/-- 'smithyardlaw1.BlobMergesEasy', WHERE WHAT IT READS IS OF BULK AT MOST 1048576: true; the input reads as it did. -/
def blobMergesEasyUptoRow : OpenClaim := { program := "ythlkidohpiebiaadoor", sum := "6974bc29cd4cd0b444eaddae92330a7852c470f08661bb9166818ee4c1d22823", func := "smithyard/smithyardlaw1.BlobMergesEasy", spec := "blobMergesEasy", inPlace := ["internal/bytealg.CountString", "internal/bytealg.IndexByteString", "internal/bytealg.IndexString"], unfollowed := true, recurses := true, named := ["unicode/utf8.first", "unicode/utf8.acceptRanges", "internal/bytealg.MaxLen"], apart := false, laid := [("unicode/utf8.acceptRanges", laid_unicode_utf8_acceptRanges), ("unicode/utf8.first", laid_unicode_utf8_first)], narrowed := true }
def BlobMergesEasyUptoSaid : Prop := blobMergesEasyUptoRow.holds Tryd.pinned (OpenSpec.upto blobMergesEasySpec)

/-- 'smithyardlaw1.BlobMergesEven', WHERE WHAT IT READS IS OF BULK AT MOST 1048576: true; the input reads as it did. -/
def blobMergesEvenUptoRow : OpenClaim := { program := "ythlkidohpiebiaadoor", sum := "6974bc29cd4cd0b444eaddae92330a7852c470f08661bb9166818ee4c1d22823", func := "smithyard/smithyardlaw1.BlobMergesEven", spec := "blobMergesEven", inPlace := ["internal/bytealg.CountString", "internal/bytealg.IndexByteString", "internal/bytealg.IndexString"], unfollowed := true, recurses := true, named := ["unicode/utf8.first", "unicode/utf8.acceptRanges", "internal/bytealg.MaxLen"], apart := false, laid := [("unicode/utf8.acceptRanges", laid_unicode_utf8_acceptRanges), ("unicode/utf8.first", laid_unicode_utf8_first)], narrowed := true }
def BlobMergesEvenUptoSaid : Prop := blobMergesEvenUptoRow.holds Tryd.pinned (OpenSpec.upto blobMergesEvenSpec)

/-- 'smithyardlaw1.BlobMergesMatchSpec', WHERE WHAT IT READS IS OF BULK AT MOST 1048576: true; the input reads as it did. -/
def blobMergesMatchSpecUptoRow : OpenClaim := { program := "ythlkidohpiebiaadoor", sum := "6974bc29cd4cd0b444eaddae92330a7852c470f08661bb9166818ee4c1d22823", func := "smithyard/smithyardlaw1.BlobMergesMatchSpec", spec := "blobMergesMatchSpec", inPlace := ["internal/bytealg.CountString", "internal/bytealg.IndexByteString", "internal/bytealg.IndexString"], unfollowed := true, recurses := true, named := ["unicode/utf8.first", "unicode/utf8.acceptRanges", "internal/bytealg.MaxLen"], apart := false, laid := [("unicode/utf8.acceptRanges", laid_unicode_utf8_acceptRanges), ("unicode/utf8.first", laid_unicode_utf8_first)], narrowed := true }
def BlobMergesMatchSpecUptoSaid : Prop := blobMergesMatchSpecUptoRow.holds Tryd.pinned (OpenSpec.upto blobMergesMatchSpecSpec)

/-- 'smithyardlaw1.BlobTreesMatchSpec', WHERE WHAT IT READS IS OF BULK AT MOST 1048576: true; the input reads as it did. -/
def blobTreesMatchSpecUptoRow : OpenClaim := { program := "ythlkidohpiebiaadoor", sum := "6974bc29cd4cd0b444eaddae92330a7852c470f08661bb9166818ee4c1d22823", func := "smithyard/smithyardlaw1.BlobTreesMatchSpec", spec := "blobTreesMatchSpec", inPlace := ["internal/bytealg.CountString", "internal/bytealg.IndexByteString", "internal/bytealg.IndexString", "internal/bytealg.abigen_runtime_cmpstring"], unfollowed := true, recurses := true, named := ["unicode/utf8.first", "unicode/utf8.acceptRanges", "internal/bytealg.MaxLen"], apart := false, laid := [("unicode/utf8.acceptRanges", laid_unicode_utf8_acceptRanges), ("unicode/utf8.first", laid_unicode_utf8_first)], narrowed := true }
def BlobTreesMatchSpecUptoSaid : Prop := blobTreesMatchSpecUptoRow.holds Tryd.pinned (OpenSpec.upto blobTreesMatchSpecSpec)

end Rows
end Go.Proofs.YthlkidohpiebiaaDoor
