/-
  NARROWER THAN 'FOR EVERY INPUT', by the rows' own cells (each row's printed sentence says how): ConfigChecksMatchSpec: laid · ConfigHoldsMatchesSpec: laid · ConfigToolsMatchSpec: laid · ConfigToolsFewerKinds: laid · ConfigTextsMatchSpec: laid · ConfigReadsMatchSpec: laid · ConfigWithMatchesSpec: laid · ConfigAllMatchesSpec: laid · ConfigAllHasOnly: laid · ConfigChosenIsOne: loops, laid · ConfigChosenThenAdd: loops, laid.
  DERIVED. THE GIVEN ROWS OF THIS SEAT. 11 by the template 'for every input the law returns true; each argument reads behind the call as it read before'; 0 by the template 'total and deterministic' (their statements: YtbekhaioddmliaaDoorTotals.lean).
  GIVEN WITH THE SEED: the statements are not yours to turn. If you find one false, say at which input.
  Laid BY PROGRAM, IN A SANDBOX (cutbox-rows.mjs): the forced cells as the released guide's own fill.sh prints them over the translation 6ca3bb2c8d7c1d86… (all of the seat's roots in one cut). By AI agents, Wed Nov 11 2026. No macro, syntax, notation, axiom, sorry.
-/
import Derived.Test.YtbekhaioddmliaaDoorChecked
import GoSem.PinnedTables
import GoSem.Claim
import GoSem.ClaimJoined
import GoSem.ClaimMapViews
import Derived.JoinedTies
import Derived.KernelRfl
namespace Go.Proofs.YtbekhaioddmliaaDoor
/- THE CELL 'sum', in the pinned program and in every row, IS THE sha256 OF THE DUMP (.gsa) THAT YtbekhaioddmliaaDoorProg.lean LOADS. Nothing in Lean hashes anything: it is a label: what it is worth is what the hold of that sum in a sandbox is worth. -/
noncomputable def Tryd.pinned : Pinned := { name := "ytbekhaioddmliaadoor", sum := "6ca3bb2c8d7c1d8611b51cae7c76af361f3b46e89f806975a34ef82c013df172", checked := Tryd.checked }
namespace Rows
def none {H : Type} : Left H := { results := [], args := [] }

/- WHAT THE LISTED PACKAGE-LEVEL VARIABLES READ AS WHEN THE CALL BEGINS. Each datum BY PROGRAM (the guide's laid-datum.mjs) off the statement by which the dump's own 'gosem.cut.vars' lays the variable. In a bare row this is a premise. The card (YtbekhaioddmliaaDoorCards.lean) ties it to the program's text. -/
def laid_unicode_utf8_acceptRanges {H : Type} : DataW H := .agg [.agg [.lit (.int .u8 128), .lit (.int .u8 191)], .agg [.lit (.int .u8 160), .lit (.int .u8 191)], .agg [.lit (.int .u8 128), .lit (.int .u8 159)], .agg [.lit (.int .u8 144), .lit (.int .u8 191)], .agg [.lit (.int .u8 128), .lit (.int .u8 143)], .agg [.lit (.int .u8 0), .lit (.int .u8 0)], .agg [.lit (.int .u8 0), .lit (.int .u8 0)], .agg [.lit (.int .u8 0), .lit (.int .u8 0)], .agg [.lit (.int .u8 0), .lit (.int .u8 0)], .agg [.lit (.int .u8 0), .lit (.int .u8 0)], .agg [.lit (.int .u8 0), .lit (.int .u8 0)], .agg [.lit (.int .u8 0), .lit (.int .u8 0)], .agg [.lit (.int .u8 0), .lit (.int .u8 0)], .agg [.lit (.int .u8 0), .lit (.int .u8 0)], .agg [.lit (.int .u8 0), .lit (.int .u8 0)], .agg [.lit (.int .u8 0), .lit (.int .u8 0)]]
/-- One of Go's own tables, pinned by name: the form's constant. -/
def laid_unicode_utf8_first : DataW Unit := Go.Pinned.utf8First

/-- 'smithyardlaw3.ConfigChecksMatchSpec': WHATEVER THE INPUT: true; the input reads as it did. -/
def configChecksMatchSpecSpec : ChangeSpec := { name := "configChecksMatchSpec", fn := fun _ => fun
  | [d1, d2, d3] => { results := [.lit (.bool true)], args := [d1, d2, d3] }
  | _ => none }
def configChecksMatchSpecRow : OpenClaim := { program := "ytbekhaioddmliaadoor", sum := "6ca3bb2c8d7c1d8611b51cae7c76af361f3b46e89f806975a34ef82c013df172", func := "smithyard/smithyardlaw3.ConfigChecksMatchSpec", spec := "configChecksMatchSpec", inPlace := ["internal/bytealg.IndexByteString", "internal/bytealg.IndexString", "internal/abi.NoEscape", "internal/bytealg.MakeNoZero"], unfollowed := true, recurses := true, named := ["unicode/utf8.first", "unicode/utf8.acceptRanges", "internal/bytealg.MaxLen"], apart := false, laid := [("unicode/utf8.acceptRanges", laid_unicode_utf8_acceptRanges), ("unicode/utf8.first", laid_unicode_utf8_first)] }
def ConfigChecksMatchSpecSaid : Prop := configChecksMatchSpecRow.holds Tryd.pinned (OpenSpec.ofChange configChecksMatchSpecSpec)

/-- ITS FALSE NEIGHBOUR: 'it returns false'. Refute it at one input. -/
def configChecksMatchSpecWrong : ChangeSpec := { name := "configChecksMatchSpec", fn := fun _ => fun
  | [d1, d2, d3] => { results := [.lit (.bool false)], args := [d1, d2, d3] }
  | _ => none }
def ConfigChecksMatchSpecWrongFalsely : Prop := configChecksMatchSpecRow.holds Tryd.pinned (OpenSpec.ofChange configChecksMatchSpecWrong)

/-- 'smithyardlaw3.ConfigHoldsMatchesSpec': WHATEVER THE INPUT: true; the input reads as it did. -/
def configHoldsMatchesSpecSpec : ChangeSpec := { name := "configHoldsMatchesSpec", fn := fun _ => fun
  | [d1, d2, d3, d4] => { results := [.lit (.bool true)], args := [d1, d2, d3, d4] }
  | _ => none }
def configHoldsMatchesSpecRow : OpenClaim := { program := "ytbekhaioddmliaadoor", sum := "6ca3bb2c8d7c1d8611b51cae7c76af361f3b46e89f806975a34ef82c013df172", func := "smithyard/smithyardlaw3.ConfigHoldsMatchesSpec", spec := "configHoldsMatchesSpec", inPlace := ["internal/bytealg.IndexByteString", "internal/bytealg.IndexString", "internal/abi.NoEscape", "internal/bytealg.MakeNoZero"], unfollowed := true, recurses := true, named := ["unicode/utf8.first", "unicode/utf8.acceptRanges", "internal/bytealg.MaxLen"], apart := false, laid := [("unicode/utf8.acceptRanges", laid_unicode_utf8_acceptRanges), ("unicode/utf8.first", laid_unicode_utf8_first)] }
def ConfigHoldsMatchesSpecSaid : Prop := configHoldsMatchesSpecRow.holds Tryd.pinned (OpenSpec.ofChange configHoldsMatchesSpecSpec)

/-- ITS FALSE NEIGHBOUR: 'it returns false'. Refute it at one input. -/
def configHoldsMatchesSpecWrong : ChangeSpec := { name := "configHoldsMatchesSpec", fn := fun _ => fun
  | [d1, d2, d3, d4] => { results := [.lit (.bool false)], args := [d1, d2, d3, d4] }
  | _ => none }
def ConfigHoldsMatchesSpecWrongFalsely : Prop := configHoldsMatchesSpecRow.holds Tryd.pinned (OpenSpec.ofChange configHoldsMatchesSpecWrong)

/-- 'smithyardlaw3.ConfigToolsMatchSpec': WHATEVER THE INPUT: true; the input reads as it did. -/
def configToolsMatchSpecSpec : ChangeSpec := { name := "configToolsMatchSpec", fn := fun _ => fun
  | [d1, d2, d3] => { results := [.lit (.bool true)], args := [d1, d2, d3] }
  | _ => none }
def configToolsMatchSpecRow : OpenClaim := { program := "ytbekhaioddmliaadoor", sum := "6ca3bb2c8d7c1d8611b51cae7c76af361f3b46e89f806975a34ef82c013df172", func := "smithyard/smithyardlaw3.ConfigToolsMatchSpec", spec := "configToolsMatchSpec", inPlace := ["internal/bytealg.IndexByteString", "internal/bytealg.IndexString", "internal/abi.NoEscape", "internal/bytealg.MakeNoZero"], unfollowed := true, recurses := true, named := ["unicode/utf8.first", "unicode/utf8.acceptRanges", "internal/bytealg.MaxLen"], apart := false, laid := [("unicode/utf8.acceptRanges", laid_unicode_utf8_acceptRanges), ("unicode/utf8.first", laid_unicode_utf8_first)] }
def ConfigToolsMatchSpecSaid : Prop := configToolsMatchSpecRow.holds Tryd.pinned (OpenSpec.ofChange configToolsMatchSpecSpec)

/-- ITS FALSE NEIGHBOUR: 'it returns false'. Refute it at one input. -/
def configToolsMatchSpecWrong : ChangeSpec := { name := "configToolsMatchSpec", fn := fun _ => fun
  | [d1, d2, d3] => { results := [.lit (.bool false)], args := [d1, d2, d3] }
  | _ => none }
def ConfigToolsMatchSpecWrongFalsely : Prop := configToolsMatchSpecRow.holds Tryd.pinned (OpenSpec.ofChange configToolsMatchSpecWrong)

/-- 'smithyardlaw3.ConfigToolsFewerKinds': WHATEVER THE INPUT: true; the input reads as it did. -/
def configToolsFewerKindsSpec : ChangeSpec := { name := "configToolsFewerKinds", fn := fun _ => fun
  | [d1, d2, d3, d4] => { results := [.lit (.bool true)], args := [d1, d2, d3, d4] }
  | _ => none }
def configToolsFewerKindsRow : OpenClaim := { program := "ytbekhaioddmliaadoor", sum := "6ca3bb2c8d7c1d8611b51cae7c76af361f3b46e89f806975a34ef82c013df172", func := "smithyard/smithyardlaw3.ConfigToolsFewerKinds", spec := "configToolsFewerKinds", inPlace := ["internal/bytealg.IndexByteString", "internal/bytealg.IndexString", "internal/abi.NoEscape", "internal/bytealg.MakeNoZero"], unfollowed := true, recurses := true, named := ["unicode/utf8.first", "unicode/utf8.acceptRanges", "internal/bytealg.MaxLen"], apart := false, laid := [("unicode/utf8.acceptRanges", laid_unicode_utf8_acceptRanges), ("unicode/utf8.first", laid_unicode_utf8_first)] }
def ConfigToolsFewerKindsSaid : Prop := configToolsFewerKindsRow.holds Tryd.pinned (OpenSpec.ofChange configToolsFewerKindsSpec)

/-- ITS FALSE NEIGHBOUR: 'it returns false'. Refute it at one input. -/
def configToolsFewerKindsWrong : ChangeSpec := { name := "configToolsFewerKinds", fn := fun _ => fun
  | [d1, d2, d3, d4] => { results := [.lit (.bool false)], args := [d1, d2, d3, d4] }
  | _ => none }
def ConfigToolsFewerKindsWrongFalsely : Prop := configToolsFewerKindsRow.holds Tryd.pinned (OpenSpec.ofChange configToolsFewerKindsWrong)

/-- 'smithyardlaw3.ConfigTextsMatchSpec': WHATEVER THE INPUT: true; the input reads as it did. -/
def configTextsMatchSpecSpec : ChangeSpec := { name := "configTextsMatchSpec", fn := fun _ => fun
  | [d1, d2] => { results := [.lit (.bool true)], args := [d1, d2] }
  | _ => none }
def configTextsMatchSpecRow : OpenClaim := { program := "ytbekhaioddmliaadoor", sum := "6ca3bb2c8d7c1d8611b51cae7c76af361f3b46e89f806975a34ef82c013df172", func := "smithyard/smithyardlaw3.ConfigTextsMatchSpec", spec := "configTextsMatchSpec", inPlace := ["internal/bytealg.IndexByteString", "internal/bytealg.IndexString", "internal/abi.NoEscape", "internal/bytealg.MakeNoZero", "internal/bytealg.CountString"], unfollowed := true, recurses := true, named := ["unicode/utf8.first", "unicode/utf8.acceptRanges", "internal/bytealg.MaxLen"], apart := false, laid := [("unicode/utf8.acceptRanges", laid_unicode_utf8_acceptRanges), ("unicode/utf8.first", laid_unicode_utf8_first)] }
def ConfigTextsMatchSpecSaid : Prop := configTextsMatchSpecRow.holds Tryd.pinned (OpenSpec.ofChange configTextsMatchSpecSpec)

/-- ITS FALSE NEIGHBOUR: 'it returns false'. Refute it at one input. -/
def configTextsMatchSpecWrong : ChangeSpec := { name := "configTextsMatchSpec", fn := fun _ => fun
  | [d1, d2] => { results := [.lit (.bool false)], args := [d1, d2] }
  | _ => none }
def ConfigTextsMatchSpecWrongFalsely : Prop := configTextsMatchSpecRow.holds Tryd.pinned (OpenSpec.ofChange configTextsMatchSpecWrong)

/-- 'smithyardlaw3.ConfigReadsMatchSpec': WHATEVER THE INPUT: true; the input reads as it did. -/
def configReadsMatchSpecSpec : ChangeSpec := { name := "configReadsMatchSpec", fn := fun _ => fun
  | [d1, d2] => { results := [.lit (.bool true)], args := [d1, d2] }
  | _ => none }
def configReadsMatchSpecRow : OpenClaim := { program := "ytbekhaioddmliaadoor", sum := "6ca3bb2c8d7c1d8611b51cae7c76af361f3b46e89f806975a34ef82c013df172", func := "smithyard/smithyardlaw3.ConfigReadsMatchSpec", spec := "configReadsMatchSpec", inPlace := ["internal/bytealg.IndexByteString", "internal/bytealg.IndexString", "internal/bytealg.CountString", "internal/abi.NoEscape", "internal/bytealg.MakeNoZero"], unfollowed := true, recurses := true, named := ["unicode/utf8.first", "unicode/utf8.acceptRanges", "internal/bytealg.MaxLen"], apart := false, laid := [("unicode/utf8.acceptRanges", laid_unicode_utf8_acceptRanges), ("unicode/utf8.first", laid_unicode_utf8_first)] }
def ConfigReadsMatchSpecSaid : Prop := configReadsMatchSpecRow.holds Tryd.pinned (OpenSpec.ofChange configReadsMatchSpecSpec)

/-- ITS FALSE NEIGHBOUR: 'it returns false'. Refute it at one input. -/
def configReadsMatchSpecWrong : ChangeSpec := { name := "configReadsMatchSpec", fn := fun _ => fun
  | [d1, d2] => { results := [.lit (.bool false)], args := [d1, d2] }
  | _ => none }
def ConfigReadsMatchSpecWrongFalsely : Prop := configReadsMatchSpecRow.holds Tryd.pinned (OpenSpec.ofChange configReadsMatchSpecWrong)

/-- 'smithyardlaw3.ConfigWithMatchesSpec': WHATEVER THE INPUT: true; the input reads as it did. -/
def configWithMatchesSpecSpec : ChangeSpec := { name := "configWithMatchesSpec", fn := fun _ => fun
  | [d1, d2, d3, d4] => { results := [.lit (.bool true)], args := [d1, d2, d3, d4] }
  | _ => none }
def configWithMatchesSpecRow : OpenClaim := { program := "ytbekhaioddmliaadoor", sum := "6ca3bb2c8d7c1d8611b51cae7c76af361f3b46e89f806975a34ef82c013df172", func := "smithyard/smithyardlaw3.ConfigWithMatchesSpec", spec := "configWithMatchesSpec", inPlace := ["internal/bytealg.IndexByteString", "internal/bytealg.IndexString", "internal/bytealg.abigen_runtime_cmpstring", "slices.overlaps[smithyard/api.Pair]", "internal/abi.NoEscape", "internal/bytealg.MakeNoZero"], unfollowed := true, recurses := true, named := ["unicode/utf8.first", "unicode/utf8.acceptRanges", "internal/bytealg.MaxLen"], apart := false, laid := [("unicode/utf8.acceptRanges", laid_unicode_utf8_acceptRanges), ("unicode/utf8.first", laid_unicode_utf8_first)] }
def ConfigWithMatchesSpecSaid : Prop := configWithMatchesSpecRow.holds Tryd.pinned (OpenSpec.ofChange configWithMatchesSpecSpec)

/-- ITS FALSE NEIGHBOUR: 'it returns false'. Refute it at one input. -/
def configWithMatchesSpecWrong : ChangeSpec := { name := "configWithMatchesSpec", fn := fun _ => fun
  | [d1, d2, d3, d4] => { results := [.lit (.bool false)], args := [d1, d2, d3, d4] }
  | _ => none }
def ConfigWithMatchesSpecWrongFalsely : Prop := configWithMatchesSpecRow.holds Tryd.pinned (OpenSpec.ofChange configWithMatchesSpecWrong)

/-- 'smithyardlaw3.ConfigAllMatchesSpec': WHATEVER THE INPUT: true; the input reads as it did. -/
def configAllMatchesSpecSpec : ChangeSpec := { name := "configAllMatchesSpec", fn := fun _ => fun
  | [d1, d2, d3] => { results := [.lit (.bool true)], args := [d1, d2, d3] }
  | _ => none }
def configAllMatchesSpecRow : OpenClaim := { program := "ytbekhaioddmliaadoor", sum := "6ca3bb2c8d7c1d8611b51cae7c76af361f3b46e89f806975a34ef82c013df172", func := "smithyard/smithyardlaw3.ConfigAllMatchesSpec", spec := "configAllMatchesSpec", inPlace := ["internal/bytealg.IndexByteString", "internal/bytealg.IndexString", "internal/bytealg.abigen_runtime_cmpstring", "slices.overlaps[smithyard/api.Pair]", "internal/abi.NoEscape", "internal/bytealg.MakeNoZero"], unfollowed := true, recurses := true, named := ["unicode/utf8.first", "unicode/utf8.acceptRanges", "internal/bytealg.MaxLen"], apart := false, laid := [("unicode/utf8.acceptRanges", laid_unicode_utf8_acceptRanges), ("unicode/utf8.first", laid_unicode_utf8_first)] }
def ConfigAllMatchesSpecSaid : Prop := configAllMatchesSpecRow.holds Tryd.pinned (OpenSpec.ofChange configAllMatchesSpecSpec)

/-- ITS FALSE NEIGHBOUR: 'it returns false'. Refute it at one input. -/
def configAllMatchesSpecWrong : ChangeSpec := { name := "configAllMatchesSpec", fn := fun _ => fun
  | [d1, d2, d3] => { results := [.lit (.bool false)], args := [d1, d2, d3] }
  | _ => none }
def ConfigAllMatchesSpecWrongFalsely : Prop := configAllMatchesSpecRow.holds Tryd.pinned (OpenSpec.ofChange configAllMatchesSpecWrong)

/-- 'smithyardlaw3.ConfigAllHasOnly': WHATEVER THE INPUT: true; the input reads as it did. -/
def configAllHasOnlySpec : ChangeSpec := { name := "configAllHasOnly", fn := fun _ => fun
  | [d1, d2, d3] => { results := [.lit (.bool true)], args := [d1, d2, d3] }
  | _ => none }
def configAllHasOnlyRow : OpenClaim := { program := "ytbekhaioddmliaadoor", sum := "6ca3bb2c8d7c1d8611b51cae7c76af361f3b46e89f806975a34ef82c013df172", func := "smithyard/smithyardlaw3.ConfigAllHasOnly", spec := "configAllHasOnly", inPlace := ["internal/bytealg.IndexByteString", "internal/bytealg.IndexString", "internal/bytealg.abigen_runtime_cmpstring", "slices.overlaps[smithyard/api.Pair]", "internal/abi.NoEscape", "internal/bytealg.MakeNoZero"], unfollowed := true, recurses := true, named := ["unicode/utf8.first", "unicode/utf8.acceptRanges", "internal/bytealg.MaxLen"], apart := false, laid := [("unicode/utf8.acceptRanges", laid_unicode_utf8_acceptRanges), ("unicode/utf8.first", laid_unicode_utf8_first)] }
def ConfigAllHasOnlySaid : Prop := configAllHasOnlyRow.holds Tryd.pinned (OpenSpec.ofChange configAllHasOnlySpec)

/-- ITS FALSE NEIGHBOUR: 'it returns false'. Refute it at one input. -/
def configAllHasOnlyWrong : ChangeSpec := { name := "configAllHasOnly", fn := fun _ => fun
  | [d1, d2, d3] => { results := [.lit (.bool false)], args := [d1, d2, d3] }
  | _ => none }
def ConfigAllHasOnlyWrongFalsely : Prop := configAllHasOnlyRow.holds Tryd.pinned (OpenSpec.ofChange configAllHasOnlyWrong)

/-- 'smithyardlaw3.ConfigChosenIsOne': WHATEVER THE INPUT: true; the input reads as it did. -/
def configChosenIsOneSpec : ChangeSpec := { name := "configChosenIsOne", fn := fun _ => fun
  | [d1, d2, d3, d4] => { results := [.lit (.bool true)], args := [d1, d2, d3, d4] }
  | _ => none }
def configChosenIsOneRow : OpenClaim := { program := "ytbekhaioddmliaadoor", sum := "6ca3bb2c8d7c1d8611b51cae7c76af361f3b46e89f806975a34ef82c013df172", func := "smithyard/smithyardlaw3.ConfigChosenIsOne", spec := "configChosenIsOne", inPlace := ["internal/bytealg.IndexByteString", "internal/bytealg.IndexString", "internal/abi.NoEscape", "internal/bytealg.MakeNoZero"], unfollowed := true, recurses := true, named := ["unicode/utf8.first", "unicode/utf8.acceptRanges", "internal/bytealg.MaxLen"], loops := true, apart := false, laid := [("unicode/utf8.acceptRanges", laid_unicode_utf8_acceptRanges), ("unicode/utf8.first", laid_unicode_utf8_first)] }
def ConfigChosenIsOneSaid : Prop := configChosenIsOneRow.holds Tryd.pinned (OpenSpec.ofChange configChosenIsOneSpec)

/-- ITS FALSE NEIGHBOUR: 'it returns false'. Refute it at one input. -/
def configChosenIsOneWrong : ChangeSpec := { name := "configChosenIsOne", fn := fun _ => fun
  | [d1, d2, d3, d4] => { results := [.lit (.bool false)], args := [d1, d2, d3, d4] }
  | _ => none }
def ConfigChosenIsOneWrongFalsely : Prop := configChosenIsOneRow.holds Tryd.pinned (OpenSpec.ofChange configChosenIsOneWrong)

/-- 'smithyardlaw3.ConfigChosenThenAdd': WHATEVER THE INPUT: true; the input reads as it did. -/
def configChosenThenAddSpec : ChangeSpec := { name := "configChosenThenAdd", fn := fun _ => fun
  | [d1, d2, d3, d4, d5] => { results := [.lit (.bool true)], args := [d1, d2, d3, d4, d5] }
  | _ => none }
def configChosenThenAddRow : OpenClaim := { program := "ytbekhaioddmliaadoor", sum := "6ca3bb2c8d7c1d8611b51cae7c76af361f3b46e89f806975a34ef82c013df172", func := "smithyard/smithyardlaw3.ConfigChosenThenAdd", spec := "configChosenThenAdd", inPlace := ["internal/bytealg.IndexByteString", "internal/bytealg.IndexString", "internal/abi.NoEscape", "internal/bytealg.MakeNoZero"], unfollowed := true, recurses := true, named := ["unicode/utf8.first", "unicode/utf8.acceptRanges", "internal/bytealg.MaxLen"], loops := true, apart := false, laid := [("unicode/utf8.acceptRanges", laid_unicode_utf8_acceptRanges), ("unicode/utf8.first", laid_unicode_utf8_first)] }
def ConfigChosenThenAddSaid : Prop := configChosenThenAddRow.holds Tryd.pinned (OpenSpec.ofChange configChosenThenAddSpec)

/-- ITS FALSE NEIGHBOUR: 'it returns false'. Refute it at one input. -/
def configChosenThenAddWrong : ChangeSpec := { name := "configChosenThenAdd", fn := fun _ => fun
  | [d1, d2, d3, d4, d5] => { results := [.lit (.bool false)], args := [d1, d2, d3, d4, d5] }
  | _ => none }
def ConfigChosenThenAddWrongFalsely : Prop := configChosenThenAddRow.holds Tryd.pinned (OpenSpec.ofChange configChosenThenAddWrong)

/- THE SECOND FORM. 'bulk': how many values and letters a reading holds, each counted each time it is reached (what is shared counts as often as it is met; a slice's spare places count too). A statement '..UptoSaid' is the law's where the arguments, and the package variables that the reading takes, are together of bulk at most 1048576: NARROWER than '..Said'. Prove '..Said' where nothing that the law and all that it calls make is longer than what came in: it says more and counts as full. Else prove '..UptoSaid'. A law counts once. -/
mutual
def uptoBulk {H : Type} : DataW H → Nat
  | .lit (.string bytes) => bytes.length + 1
  | .lit _ => 1
  | .nil => 1
  | .ptr d => uptoBulk d + 1
  | .slice elems spare => uptoBulkAll elems + uptoBulkAll spare + 1
  | .agg parts => uptoBulkAll parts + 1
  | .iface _ d => uptoBulk d + 1
  | .map entries => uptoBulkEntries entries + 1
  | .held _ => 1
def uptoBulkAll {H : Type} : List (DataW H) → Nat
  | [] => 0
  | d :: r => uptoBulk d + uptoBulkAll r
def uptoBulkEntries {H : Type} : List (Lit × DataW H) → Nat
  | [] => 0
  | x :: r => uptoBulkEntry x + uptoBulkEntries r
def uptoBulkEntry {H : Type} : Lit × DataW H → Nat
  | (.string bytes, d) => bytes.length + uptoBulk d + 1
  | (_, d) => uptoBulk d + 1
 end
def uptoSmall : (H : Type) → List (DataW H) → Bool := fun _ ds => decide (uptoBulkAll ds ≤ 1048576)
def OpenSpec.upto (s : _root_.Go.ChangeSpec) : _root_.Go.OpenSpec := { _root_.Go.OpenSpec.ofChange s with cond := some uptoSmall }

/-- 'smithyardlaw3.ConfigChecksMatchSpec', WHERE WHAT IT READS IS OF BULK AT MOST 1048576: true; the input reads as it did. -/
def configChecksMatchSpecUptoRow : OpenClaim := { program := "ytbekhaioddmliaadoor", sum := "6ca3bb2c8d7c1d8611b51cae7c76af361f3b46e89f806975a34ef82c013df172", func := "smithyard/smithyardlaw3.ConfigChecksMatchSpec", spec := "configChecksMatchSpec", inPlace := ["internal/bytealg.IndexByteString", "internal/bytealg.IndexString", "internal/abi.NoEscape", "internal/bytealg.MakeNoZero"], unfollowed := true, recurses := true, named := ["unicode/utf8.first", "unicode/utf8.acceptRanges", "internal/bytealg.MaxLen"], apart := false, laid := [("unicode/utf8.acceptRanges", laid_unicode_utf8_acceptRanges), ("unicode/utf8.first", laid_unicode_utf8_first)], narrowed := true }
def ConfigChecksMatchSpecUptoSaid : Prop := configChecksMatchSpecUptoRow.holds Tryd.pinned (OpenSpec.upto configChecksMatchSpecSpec)

/-- 'smithyardlaw3.ConfigHoldsMatchesSpec', WHERE WHAT IT READS IS OF BULK AT MOST 1048576: true; the input reads as it did. -/
def configHoldsMatchesSpecUptoRow : OpenClaim := { program := "ytbekhaioddmliaadoor", sum := "6ca3bb2c8d7c1d8611b51cae7c76af361f3b46e89f806975a34ef82c013df172", func := "smithyard/smithyardlaw3.ConfigHoldsMatchesSpec", spec := "configHoldsMatchesSpec", inPlace := ["internal/bytealg.IndexByteString", "internal/bytealg.IndexString", "internal/abi.NoEscape", "internal/bytealg.MakeNoZero"], unfollowed := true, recurses := true, named := ["unicode/utf8.first", "unicode/utf8.acceptRanges", "internal/bytealg.MaxLen"], apart := false, laid := [("unicode/utf8.acceptRanges", laid_unicode_utf8_acceptRanges), ("unicode/utf8.first", laid_unicode_utf8_first)], narrowed := true }
def ConfigHoldsMatchesSpecUptoSaid : Prop := configHoldsMatchesSpecUptoRow.holds Tryd.pinned (OpenSpec.upto configHoldsMatchesSpecSpec)

/-- 'smithyardlaw3.ConfigToolsMatchSpec', WHERE WHAT IT READS IS OF BULK AT MOST 1048576: true; the input reads as it did. -/
def configToolsMatchSpecUptoRow : OpenClaim := { program := "ytbekhaioddmliaadoor", sum := "6ca3bb2c8d7c1d8611b51cae7c76af361f3b46e89f806975a34ef82c013df172", func := "smithyard/smithyardlaw3.ConfigToolsMatchSpec", spec := "configToolsMatchSpec", inPlace := ["internal/bytealg.IndexByteString", "internal/bytealg.IndexString", "internal/abi.NoEscape", "internal/bytealg.MakeNoZero"], unfollowed := true, recurses := true, named := ["unicode/utf8.first", "unicode/utf8.acceptRanges", "internal/bytealg.MaxLen"], apart := false, laid := [("unicode/utf8.acceptRanges", laid_unicode_utf8_acceptRanges), ("unicode/utf8.first", laid_unicode_utf8_first)], narrowed := true }
def ConfigToolsMatchSpecUptoSaid : Prop := configToolsMatchSpecUptoRow.holds Tryd.pinned (OpenSpec.upto configToolsMatchSpecSpec)

/-- 'smithyardlaw3.ConfigToolsFewerKinds', WHERE WHAT IT READS IS OF BULK AT MOST 1048576: true; the input reads as it did. -/
def configToolsFewerKindsUptoRow : OpenClaim := { program := "ytbekhaioddmliaadoor", sum := "6ca3bb2c8d7c1d8611b51cae7c76af361f3b46e89f806975a34ef82c013df172", func := "smithyard/smithyardlaw3.ConfigToolsFewerKinds", spec := "configToolsFewerKinds", inPlace := ["internal/bytealg.IndexByteString", "internal/bytealg.IndexString", "internal/abi.NoEscape", "internal/bytealg.MakeNoZero"], unfollowed := true, recurses := true, named := ["unicode/utf8.first", "unicode/utf8.acceptRanges", "internal/bytealg.MaxLen"], apart := false, laid := [("unicode/utf8.acceptRanges", laid_unicode_utf8_acceptRanges), ("unicode/utf8.first", laid_unicode_utf8_first)], narrowed := true }
def ConfigToolsFewerKindsUptoSaid : Prop := configToolsFewerKindsUptoRow.holds Tryd.pinned (OpenSpec.upto configToolsFewerKindsSpec)

/-- 'smithyardlaw3.ConfigTextsMatchSpec', WHERE WHAT IT READS IS OF BULK AT MOST 1048576: true; the input reads as it did. -/
def configTextsMatchSpecUptoRow : OpenClaim := { program := "ytbekhaioddmliaadoor", sum := "6ca3bb2c8d7c1d8611b51cae7c76af361f3b46e89f806975a34ef82c013df172", func := "smithyard/smithyardlaw3.ConfigTextsMatchSpec", spec := "configTextsMatchSpec", inPlace := ["internal/bytealg.IndexByteString", "internal/bytealg.IndexString", "internal/abi.NoEscape", "internal/bytealg.MakeNoZero", "internal/bytealg.CountString"], unfollowed := true, recurses := true, named := ["unicode/utf8.first", "unicode/utf8.acceptRanges", "internal/bytealg.MaxLen"], apart := false, laid := [("unicode/utf8.acceptRanges", laid_unicode_utf8_acceptRanges), ("unicode/utf8.first", laid_unicode_utf8_first)], narrowed := true }
def ConfigTextsMatchSpecUptoSaid : Prop := configTextsMatchSpecUptoRow.holds Tryd.pinned (OpenSpec.upto configTextsMatchSpecSpec)

/-- 'smithyardlaw3.ConfigReadsMatchSpec', WHERE WHAT IT READS IS OF BULK AT MOST 1048576: true; the input reads as it did. -/
def configReadsMatchSpecUptoRow : OpenClaim := { program := "ytbekhaioddmliaadoor", sum := "6ca3bb2c8d7c1d8611b51cae7c76af361f3b46e89f806975a34ef82c013df172", func := "smithyard/smithyardlaw3.ConfigReadsMatchSpec", spec := "configReadsMatchSpec", inPlace := ["internal/bytealg.IndexByteString", "internal/bytealg.IndexString", "internal/bytealg.CountString", "internal/abi.NoEscape", "internal/bytealg.MakeNoZero"], unfollowed := true, recurses := true, named := ["unicode/utf8.first", "unicode/utf8.acceptRanges", "internal/bytealg.MaxLen"], apart := false, laid := [("unicode/utf8.acceptRanges", laid_unicode_utf8_acceptRanges), ("unicode/utf8.first", laid_unicode_utf8_first)], narrowed := true }
def ConfigReadsMatchSpecUptoSaid : Prop := configReadsMatchSpecUptoRow.holds Tryd.pinned (OpenSpec.upto configReadsMatchSpecSpec)

/-- 'smithyardlaw3.ConfigWithMatchesSpec', WHERE WHAT IT READS IS OF BULK AT MOST 1048576: true; the input reads as it did. -/
def configWithMatchesSpecUptoRow : OpenClaim := { program := "ytbekhaioddmliaadoor", sum := "6ca3bb2c8d7c1d8611b51cae7c76af361f3b46e89f806975a34ef82c013df172", func := "smithyard/smithyardlaw3.ConfigWithMatchesSpec", spec := "configWithMatchesSpec", inPlace := ["internal/bytealg.IndexByteString", "internal/bytealg.IndexString", "internal/bytealg.abigen_runtime_cmpstring", "slices.overlaps[smithyard/api.Pair]", "internal/abi.NoEscape", "internal/bytealg.MakeNoZero"], unfollowed := true, recurses := true, named := ["unicode/utf8.first", "unicode/utf8.acceptRanges", "internal/bytealg.MaxLen"], apart := false, laid := [("unicode/utf8.acceptRanges", laid_unicode_utf8_acceptRanges), ("unicode/utf8.first", laid_unicode_utf8_first)], narrowed := true }
def ConfigWithMatchesSpecUptoSaid : Prop := configWithMatchesSpecUptoRow.holds Tryd.pinned (OpenSpec.upto configWithMatchesSpecSpec)

/-- 'smithyardlaw3.ConfigAllMatchesSpec', WHERE WHAT IT READS IS OF BULK AT MOST 1048576: true; the input reads as it did. -/
def configAllMatchesSpecUptoRow : OpenClaim := { program := "ytbekhaioddmliaadoor", sum := "6ca3bb2c8d7c1d8611b51cae7c76af361f3b46e89f806975a34ef82c013df172", func := "smithyard/smithyardlaw3.ConfigAllMatchesSpec", spec := "configAllMatchesSpec", inPlace := ["internal/bytealg.IndexByteString", "internal/bytealg.IndexString", "internal/bytealg.abigen_runtime_cmpstring", "slices.overlaps[smithyard/api.Pair]", "internal/abi.NoEscape", "internal/bytealg.MakeNoZero"], unfollowed := true, recurses := true, named := ["unicode/utf8.first", "unicode/utf8.acceptRanges", "internal/bytealg.MaxLen"], apart := false, laid := [("unicode/utf8.acceptRanges", laid_unicode_utf8_acceptRanges), ("unicode/utf8.first", laid_unicode_utf8_first)], narrowed := true }
def ConfigAllMatchesSpecUptoSaid : Prop := configAllMatchesSpecUptoRow.holds Tryd.pinned (OpenSpec.upto configAllMatchesSpecSpec)

/-- 'smithyardlaw3.ConfigAllHasOnly', WHERE WHAT IT READS IS OF BULK AT MOST 1048576: true; the input reads as it did. -/
def configAllHasOnlyUptoRow : OpenClaim := { program := "ytbekhaioddmliaadoor", sum := "6ca3bb2c8d7c1d8611b51cae7c76af361f3b46e89f806975a34ef82c013df172", func := "smithyard/smithyardlaw3.ConfigAllHasOnly", spec := "configAllHasOnly", inPlace := ["internal/bytealg.IndexByteString", "internal/bytealg.IndexString", "internal/bytealg.abigen_runtime_cmpstring", "slices.overlaps[smithyard/api.Pair]", "internal/abi.NoEscape", "internal/bytealg.MakeNoZero"], unfollowed := true, recurses := true, named := ["unicode/utf8.first", "unicode/utf8.acceptRanges", "internal/bytealg.MaxLen"], apart := false, laid := [("unicode/utf8.acceptRanges", laid_unicode_utf8_acceptRanges), ("unicode/utf8.first", laid_unicode_utf8_first)], narrowed := true }
def ConfigAllHasOnlyUptoSaid : Prop := configAllHasOnlyUptoRow.holds Tryd.pinned (OpenSpec.upto configAllHasOnlySpec)

/-- 'smithyardlaw3.ConfigChosenIsOne', WHERE WHAT IT READS IS OF BULK AT MOST 1048576: true; the input reads as it did. -/
def configChosenIsOneUptoRow : OpenClaim := { program := "ytbekhaioddmliaadoor", sum := "6ca3bb2c8d7c1d8611b51cae7c76af361f3b46e89f806975a34ef82c013df172", func := "smithyard/smithyardlaw3.ConfigChosenIsOne", spec := "configChosenIsOne", inPlace := ["internal/bytealg.IndexByteString", "internal/bytealg.IndexString", "internal/abi.NoEscape", "internal/bytealg.MakeNoZero"], unfollowed := true, recurses := true, named := ["unicode/utf8.first", "unicode/utf8.acceptRanges", "internal/bytealg.MaxLen"], loops := true, apart := false, laid := [("unicode/utf8.acceptRanges", laid_unicode_utf8_acceptRanges), ("unicode/utf8.first", laid_unicode_utf8_first)], narrowed := true }
def ConfigChosenIsOneUptoSaid : Prop := configChosenIsOneUptoRow.holds Tryd.pinned (OpenSpec.upto configChosenIsOneSpec)

/-- 'smithyardlaw3.ConfigChosenThenAdd', WHERE WHAT IT READS IS OF BULK AT MOST 1048576: true; the input reads as it did. -/
def configChosenThenAddUptoRow : OpenClaim := { program := "ytbekhaioddmliaadoor", sum := "6ca3bb2c8d7c1d8611b51cae7c76af361f3b46e89f806975a34ef82c013df172", func := "smithyard/smithyardlaw3.ConfigChosenThenAdd", spec := "configChosenThenAdd", inPlace := ["internal/bytealg.IndexByteString", "internal/bytealg.IndexString", "internal/abi.NoEscape", "internal/bytealg.MakeNoZero"], unfollowed := true, recurses := true, named := ["unicode/utf8.first", "unicode/utf8.acceptRanges", "internal/bytealg.MaxLen"], loops := true, apart := false, laid := [("unicode/utf8.acceptRanges", laid_unicode_utf8_acceptRanges), ("unicode/utf8.first", laid_unicode_utf8_first)], narrowed := true }
def ConfigChosenThenAddUptoSaid : Prop := configChosenThenAddUptoRow.holds Tryd.pinned (OpenSpec.upto configChosenThenAddSpec)

end Rows
end Go.Proofs.YtbekhaioddmliaaDoor
