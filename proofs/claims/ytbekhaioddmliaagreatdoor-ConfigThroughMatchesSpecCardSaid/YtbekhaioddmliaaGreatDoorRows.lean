/-
  NARROWER THAN 'FOR EVERY INPUT', by the rows' own cells (each row's printed sentence says how): ConfigChosenMatchesSpec: loops, laid · ConfigThroughMatchesSpec: laid · ConfigThenIsBoth: laid · ConfigPlainMatchesSpec: loops, laid · ConfigDependsIsEnough: loops, laid.
  DERIVED. THE GIVEN ROWS OF THIS SEAT. 5 by the template 'for every input the law returns true; each argument reads behind the call as it read before'; 0 by the template 'total and deterministic' (their statements: YtbekhaioddmliaaGreatDoorTotals.lean).
  GIVEN WITH THE SEED: the statements are not yours to turn. If you find one false, say at which input.
  Laid BY PROGRAM, IN A SANDBOX (cutbox-rows.mjs): the forced cells as the released guide's own fill.sh prints them over the translation 3230ce12de4f562a… (all of the seat's roots in one cut). By AI agents, Wed Nov 11 2026. No macro, syntax, notation, axiom, sorry.
-/
import Derived.Test.YtbekhaioddmliaaGreatDoorChecked
import GoSem.PinnedTables
import GoSem.Claim
import GoSem.ClaimJoined
import GoSem.ClaimMapViews
import Derived.JoinedTies
import Derived.KernelRfl
namespace Go.Proofs.YtbekhaioddmliaaGreatDoor
/- THE CELL 'sum', in the pinned program and in every row, IS THE sha256 OF THE DUMP (.gsa) THAT YtbekhaioddmliaaGreatDoorProg.lean LOADS. Nothing in Lean hashes anything: it is a label: what it is worth is what the hold of that sum in a sandbox is worth. -/
noncomputable def Tryz.pinned : Pinned := { name := "ytbekhaioddmliaagreatdoor", sum := "3230ce12de4f562abbc78293f951b4eeb23f4301f175dd36047375b04ed5a3cd", checked := Tryz.checked }
namespace Rows
def none {H : Type} : Left H := { results := [], args := [] }

/- WHAT THE LISTED PACKAGE-LEVEL VARIABLES READ AS WHEN THE CALL BEGINS. Each datum BY PROGRAM (the guide's laid-datum.mjs) off the statement by which the dump's own 'gosem.cut.vars' lays the variable. In a bare row this is a premise. The card (YtbekhaioddmliaaGreatDoorCards.lean) ties it to the program's text. -/
def laid_unicode_utf8_acceptRanges {H : Type} : DataW H := .agg [.agg [.lit (.int .u8 128), .lit (.int .u8 191)], .agg [.lit (.int .u8 160), .lit (.int .u8 191)], .agg [.lit (.int .u8 128), .lit (.int .u8 159)], .agg [.lit (.int .u8 144), .lit (.int .u8 191)], .agg [.lit (.int .u8 128), .lit (.int .u8 143)], .agg [.lit (.int .u8 0), .lit (.int .u8 0)], .agg [.lit (.int .u8 0), .lit (.int .u8 0)], .agg [.lit (.int .u8 0), .lit (.int .u8 0)], .agg [.lit (.int .u8 0), .lit (.int .u8 0)], .agg [.lit (.int .u8 0), .lit (.int .u8 0)], .agg [.lit (.int .u8 0), .lit (.int .u8 0)], .agg [.lit (.int .u8 0), .lit (.int .u8 0)], .agg [.lit (.int .u8 0), .lit (.int .u8 0)], .agg [.lit (.int .u8 0), .lit (.int .u8 0)], .agg [.lit (.int .u8 0), .lit (.int .u8 0)], .agg [.lit (.int .u8 0), .lit (.int .u8 0)]]
/-- One of Go's own tables, pinned by name: the form's constant. -/
def laid_unicode_utf8_first : DataW Unit := Go.Pinned.utf8First

/-- 'smithyardlaw3.ConfigChosenMatchesSpec': WHATEVER THE INPUT: true; the input reads as it did. -/
def configChosenMatchesSpecSpec : ChangeSpec := { name := "configChosenMatchesSpec", fn := fun _ => fun
  | [d1, d2, d3, d4] => { results := [.lit (.bool true)], args := [d1, d2, d3, d4] }
  | _ => none }
def configChosenMatchesSpecRow : OpenClaim := { program := "ytbekhaioddmliaagreatdoor", sum := "3230ce12de4f562abbc78293f951b4eeb23f4301f175dd36047375b04ed5a3cd", func := "smithyard/smithyardlaw3.ConfigChosenMatchesSpec", spec := "configChosenMatchesSpec", inPlace := ["internal/bytealg.IndexByteString", "internal/bytealg.IndexString", "internal/abi.NoEscape", "internal/bytealg.MakeNoZero"], unfollowed := true, recurses := true, named := ["unicode/utf8.first", "unicode/utf8.acceptRanges", "internal/bytealg.MaxLen"], loops := true, apart := false, laid := [("unicode/utf8.acceptRanges", laid_unicode_utf8_acceptRanges), ("unicode/utf8.first", laid_unicode_utf8_first)] }
def ConfigChosenMatchesSpecSaid : Prop := configChosenMatchesSpecRow.holds Tryz.pinned (OpenSpec.ofChange configChosenMatchesSpecSpec)

/-- ITS FALSE NEIGHBOUR: 'it returns false'. Refute it at one input. -/
def configChosenMatchesSpecWrong : ChangeSpec := { name := "configChosenMatchesSpec", fn := fun _ => fun
  | [d1, d2, d3, d4] => { results := [.lit (.bool false)], args := [d1, d2, d3, d4] }
  | _ => none }
def ConfigChosenMatchesSpecWrongFalsely : Prop := configChosenMatchesSpecRow.holds Tryz.pinned (OpenSpec.ofChange configChosenMatchesSpecWrong)

/-- 'smithyardlaw3.ConfigThroughMatchesSpec': WHATEVER THE INPUT: true; the input reads as it did. -/
def configThroughMatchesSpecSpec : ChangeSpec := { name := "configThroughMatchesSpec", fn := fun _ => fun
  | [d1, d2, d3, d4] => { results := [.lit (.bool true)], args := [d1, d2, d3, d4] }
  | _ => none }
def configThroughMatchesSpecRow : OpenClaim := { program := "ytbekhaioddmliaagreatdoor", sum := "3230ce12de4f562abbc78293f951b4eeb23f4301f175dd36047375b04ed5a3cd", func := "smithyard/smithyardlaw3.ConfigThroughMatchesSpec", spec := "configThroughMatchesSpec", inPlace := ["internal/bytealg.IndexByteString", "internal/bytealg.IndexString", "internal/bytealg.abigen_runtime_cmpstring", "slices.overlaps[smithyard/api.Pair]", "internal/abi.NoEscape", "internal/bytealg.MakeNoZero"], unfollowed := true, recurses := true, named := ["unicode/utf8.first", "unicode/utf8.acceptRanges", "internal/bytealg.MaxLen"], apart := false, laid := [("unicode/utf8.acceptRanges", laid_unicode_utf8_acceptRanges), ("unicode/utf8.first", laid_unicode_utf8_first)] }
def ConfigThroughMatchesSpecSaid : Prop := configThroughMatchesSpecRow.holds Tryz.pinned (OpenSpec.ofChange configThroughMatchesSpecSpec)

/-- ITS FALSE NEIGHBOUR: 'it returns false'. Refute it at one input. -/
def configThroughMatchesSpecWrong : ChangeSpec := { name := "configThroughMatchesSpec", fn := fun _ => fun
  | [d1, d2, d3, d4] => { results := [.lit (.bool false)], args := [d1, d2, d3, d4] }
  | _ => none }
def ConfigThroughMatchesSpecWrongFalsely : Prop := configThroughMatchesSpecRow.holds Tryz.pinned (OpenSpec.ofChange configThroughMatchesSpecWrong)

/-- 'smithyardlaw3.ConfigThenIsBoth': WHATEVER THE INPUT: true; the input reads as it did. -/
def configThenIsBothSpec : ChangeSpec := { name := "configThenIsBoth", fn := fun _ => fun
  | [d1, d2, d3, d4] => { results := [.lit (.bool true)], args := [d1, d2, d3, d4] }
  | _ => none }
def configThenIsBothRow : OpenClaim := { program := "ytbekhaioddmliaagreatdoor", sum := "3230ce12de4f562abbc78293f951b4eeb23f4301f175dd36047375b04ed5a3cd", func := "smithyard/smithyardlaw3.ConfigThenIsBoth", spec := "configThenIsBoth", inPlace := ["internal/bytealg.IndexByteString", "internal/bytealg.IndexString", "internal/abi.NoEscape", "internal/bytealg.MakeNoZero", "internal/bytealg.abigen_runtime_cmpstring", "slices.overlaps[smithyard/api.Pair]"], unfollowed := true, recurses := true, named := ["unicode/utf8.first", "unicode/utf8.acceptRanges", "internal/bytealg.MaxLen"], apart := false, laid := [("unicode/utf8.acceptRanges", laid_unicode_utf8_acceptRanges), ("unicode/utf8.first", laid_unicode_utf8_first)] }
def ConfigThenIsBothSaid : Prop := configThenIsBothRow.holds Tryz.pinned (OpenSpec.ofChange configThenIsBothSpec)

/-- ITS FALSE NEIGHBOUR: 'it returns false'. Refute it at one input. -/
def configThenIsBothWrong : ChangeSpec := { name := "configThenIsBoth", fn := fun _ => fun
  | [d1, d2, d3, d4] => { results := [.lit (.bool false)], args := [d1, d2, d3, d4] }
  | _ => none }
def ConfigThenIsBothWrongFalsely : Prop := configThenIsBothRow.holds Tryz.pinned (OpenSpec.ofChange configThenIsBothWrong)

/-- 'smithyardlaw3.ConfigPlainMatchesSpec': WHATEVER THE INPUT: true; the input reads as it did. -/
def configPlainMatchesSpecSpec : ChangeSpec := { name := "configPlainMatchesSpec", fn := fun _ => fun
  | [d1, d2, d3, d4] => { results := [.lit (.bool true)], args := [d1, d2, d3, d4] }
  | _ => none }
def configPlainMatchesSpecRow : OpenClaim := { program := "ytbekhaioddmliaagreatdoor", sum := "3230ce12de4f562abbc78293f951b4eeb23f4301f175dd36047375b04ed5a3cd", func := "smithyard/smithyardlaw3.ConfigPlainMatchesSpec", spec := "configPlainMatchesSpec", inPlace := ["internal/bytealg.IndexByteString", "internal/bytealg.IndexString", "internal/bytealg.CountString", "internal/abi.NoEscape", "internal/bytealg.MakeNoZero"], unfollowed := true, recurses := true, named := ["unicode/utf8.first", "unicode/utf8.acceptRanges", "internal/bytealg.MaxLen"], loops := true, apart := false, laid := [("unicode/utf8.acceptRanges", laid_unicode_utf8_acceptRanges), ("unicode/utf8.first", laid_unicode_utf8_first)] }
def ConfigPlainMatchesSpecSaid : Prop := configPlainMatchesSpecRow.holds Tryz.pinned (OpenSpec.ofChange configPlainMatchesSpecSpec)

/-- ITS FALSE NEIGHBOUR: 'it returns false'. Refute it at one input. -/
def configPlainMatchesSpecWrong : ChangeSpec := { name := "configPlainMatchesSpec", fn := fun _ => fun
  | [d1, d2, d3, d4] => { results := [.lit (.bool false)], args := [d1, d2, d3, d4] }
  | _ => none }
def ConfigPlainMatchesSpecWrongFalsely : Prop := configPlainMatchesSpecRow.holds Tryz.pinned (OpenSpec.ofChange configPlainMatchesSpecWrong)

/-- 'smithyardlaw3.ConfigDependsIsEnough': WHATEVER THE INPUT: true; the input reads as it did. -/
def configDependsIsEnoughSpec : ChangeSpec := { name := "configDependsIsEnough", fn := fun _ => fun
  | [d1, d2, d3, d4, d5] => { results := [.lit (.bool true)], args := [d1, d2, d3, d4, d5] }
  | _ => none }
def configDependsIsEnoughRow : OpenClaim := { program := "ytbekhaioddmliaagreatdoor", sum := "3230ce12de4f562abbc78293f951b4eeb23f4301f175dd36047375b04ed5a3cd", func := "smithyard/smithyardlaw3.ConfigDependsIsEnough", spec := "configDependsIsEnough", inPlace := ["internal/bytealg.IndexByteString", "internal/bytealg.IndexString", "internal/bytealg.CountString", "internal/abi.NoEscape", "internal/bytealg.MakeNoZero", "internal/bytealg.abigen_runtime_cmpstring", "slices.overlaps[smithyard/api.Pair]"], unfollowed := true, recurses := true, named := ["unicode/utf8.first", "unicode/utf8.acceptRanges", "internal/bytealg.MaxLen"], loops := true, apart := false, laid := [("unicode/utf8.acceptRanges", laid_unicode_utf8_acceptRanges), ("unicode/utf8.first", laid_unicode_utf8_first)] }
def ConfigDependsIsEnoughSaid : Prop := configDependsIsEnoughRow.holds Tryz.pinned (OpenSpec.ofChange configDependsIsEnoughSpec)

/-- ITS FALSE NEIGHBOUR: 'it returns false'. Refute it at one input. -/
def configDependsIsEnoughWrong : ChangeSpec := { name := "configDependsIsEnough", fn := fun _ => fun
  | [d1, d2, d3, d4, d5] => { results := [.lit (.bool false)], args := [d1, d2, d3, d4, d5] }
  | _ => none }
def ConfigDependsIsEnoughWrongFalsely : Prop := configDependsIsEnoughRow.holds Tryz.pinned (OpenSpec.ofChange configDependsIsEnoughWrong)

/- THE SECOND FORM. 'bulk': how many values and letters a reading holds, each counted each time it is reached (what is shared counts as often as it is met; a slice's spare places count too). A statement '..UptoSaid' is the law's where the arguments, and the package variables that the reading takes, are together of bulk at most 1048576: NARROWER than '..Said'. Prove '..Said' where nothing that the law and all that it calls make is longer than what came in: it says more and counts as full. Else prove '..UptoSaid'. A law counts once. -/
mutual
def uptoBulk {H : Type} : DataW H → Nat
  | .lit (.string bytes) => bytes.length + 1
  | .lit _ => 1
  | .nil => 1
  | .ptr d => uptoBulk d + 1
  | .slice elems spare => uptoBulkAll elems + uptoBulkAll spare + 1
  | .agg parts => uptoBulkAll parts + 1
  | .iface _ d => uptoBulk d + 1
  | .map entries => uptoBulkEntries entries + 1
  | .held _ => 1
def uptoBulkAll {H : Type} : List (DataW H) → Nat
  | [] => 0
  | d :: r => uptoBulk d + uptoBulkAll r
def uptoBulkEntries {H : Type} : List (Lit × DataW H) → Nat
  | [] => 0
  | x :: r => uptoBulkEntry x + uptoBulkEntries r
def uptoBulkEntry {H : Type} : Lit × DataW H → Nat
  | (.string bytes, d) => bytes.length + uptoBulk d + 1
  | (_, d) => uptoBulk d + 1
 end
def uptoSmall : (H : Type) → List (DataW H) → Bool := fun _ ds => decide (uptoBulkAll ds ≤ 1048576)
def OpenSpec.upto (s : _root_.Go.ChangeSpec) : _root_.Go.OpenSpec := { _root_.Go.OpenSpec.ofChange s with cond := some uptoSmall }

/-- 'smithyardlaw3.ConfigChosenMatchesSpec', WHERE WHAT IT READS IS OF BULK AT MOST 1048576: true; the input reads as it did. -/
def configChosenMatchesSpecUptoRow : OpenClaim := { program := "ytbekhaioddmliaagreatdoor", sum := "3230ce12de4f562abbc78293f951b4eeb23f4301f175dd36047375b04ed5a3cd", func := "smithyard/smithyardlaw3.ConfigChosenMatchesSpec", spec := "configChosenMatchesSpec", inPlace := ["internal/bytealg.IndexByteString", "internal/bytealg.IndexString", "internal/abi.NoEscape", "internal/bytealg.MakeNoZero"], unfollowed := true, recurses := true, named := ["unicode/utf8.first", "unicode/utf8.acceptRanges", "internal/bytealg.MaxLen"], loops := true, apart := false, laid := [("unicode/utf8.acceptRanges", laid_unicode_utf8_acceptRanges), ("unicode/utf8.first", laid_unicode_utf8_first)], narrowed := true }
def ConfigChosenMatchesSpecUptoSaid : Prop := configChosenMatchesSpecUptoRow.holds Tryz.pinned (OpenSpec.upto configChosenMatchesSpecSpec)

/-- 'smithyardlaw3.ConfigThroughMatchesSpec', WHERE WHAT IT READS IS OF BULK AT MOST 1048576: true; the input reads as it did. -/
def configThroughMatchesSpecUptoRow : OpenClaim := { program := "ytbekhaioddmliaagreatdoor", sum := "3230ce12de4f562abbc78293f951b4eeb23f4301f175dd36047375b04ed5a3cd", func := "smithyard/smithyardlaw3.ConfigThroughMatchesSpec", spec := "configThroughMatchesSpec", inPlace := ["internal/bytealg.IndexByteString", "internal/bytealg.IndexString", "internal/bytealg.abigen_runtime_cmpstring", "slices.overlaps[smithyard/api.Pair]", "internal/abi.NoEscape", "internal/bytealg.MakeNoZero"], unfollowed := true, recurses := true, named := ["unicode/utf8.first", "unicode/utf8.acceptRanges", "internal/bytealg.MaxLen"], apart := false, laid := [("unicode/utf8.acceptRanges", laid_unicode_utf8_acceptRanges), ("unicode/utf8.first", laid_unicode_utf8_first)], narrowed := true }
def ConfigThroughMatchesSpecUptoSaid : Prop := configThroughMatchesSpecUptoRow.holds Tryz.pinned (OpenSpec.upto configThroughMatchesSpecSpec)

/-- 'smithyardlaw3.ConfigThenIsBoth', WHERE WHAT IT READS IS OF BULK AT MOST 1048576: true; the input reads as it did. -/
def configThenIsBothUptoRow : OpenClaim := { program := "ytbekhaioddmliaagreatdoor", sum := "3230ce12de4f562abbc78293f951b4eeb23f4301f175dd36047375b04ed5a3cd", func := "smithyard/smithyardlaw3.ConfigThenIsBoth", spec := "configThenIsBoth", inPlace := ["internal/bytealg.IndexByteString", "internal/bytealg.IndexString", "internal/abi.NoEscape", "internal/bytealg.MakeNoZero", "internal/bytealg.abigen_runtime_cmpstring", "slices.overlaps[smithyard/api.Pair]"], unfollowed := true, recurses := true, named := ["unicode/utf8.first", "unicode/utf8.acceptRanges", "internal/bytealg.MaxLen"], apart := false, laid := [("unicode/utf8.acceptRanges", laid_unicode_utf8_acceptRanges), ("unicode/utf8.first", laid_unicode_utf8_first)], narrowed := true }
def ConfigThenIsBothUptoSaid : Prop := configThenIsBothUptoRow.holds Tryz.pinned (OpenSpec.upto configThenIsBothSpec)

/-- 'smithyardlaw3.ConfigPlainMatchesSpec', WHERE WHAT IT READS IS OF BULK AT MOST 1048576: true; the input reads as it did. -/
def configPlainMatchesSpecUptoRow : OpenClaim := { program := "ytbekhaioddmliaagreatdoor", sum := "3230ce12de4f562abbc78293f951b4eeb23f4301f175dd36047375b04ed5a3cd", func := "smithyard/smithyardlaw3.ConfigPlainMatchesSpec", spec := "configPlainMatchesSpec", inPlace := ["internal/bytealg.IndexByteString", "internal/bytealg.IndexString", "internal/bytealg.CountString", "internal/abi.NoEscape", "internal/bytealg.MakeNoZero"], unfollowed := true, recurses := true, named := ["unicode/utf8.first", "unicode/utf8.acceptRanges", "internal/bytealg.MaxLen"], loops := true, apart := false, laid := [("unicode/utf8.acceptRanges", laid_unicode_utf8_acceptRanges), ("unicode/utf8.first", laid_unicode_utf8_first)], narrowed := true }
def ConfigPlainMatchesSpecUptoSaid : Prop := configPlainMatchesSpecUptoRow.holds Tryz.pinned (OpenSpec.upto configPlainMatchesSpecSpec)

/-- 'smithyardlaw3.ConfigDependsIsEnough', WHERE WHAT IT READS IS OF BULK AT MOST 1048576: true; the input reads as it did. -/
def configDependsIsEnoughUptoRow : OpenClaim := { program := "ytbekhaioddmliaagreatdoor", sum := "3230ce12de4f562abbc78293f951b4eeb23f4301f175dd36047375b04ed5a3cd", func := "smithyard/smithyardlaw3.ConfigDependsIsEnough", spec := "configDependsIsEnough", inPlace := ["internal/bytealg.IndexByteString", "internal/bytealg.IndexString", "internal/bytealg.CountString", "internal/abi.NoEscape", "internal/bytealg.MakeNoZero", "internal/bytealg.abigen_runtime_cmpstring", "slices.overlaps[smithyard/api.Pair]"], unfollowed := true, recurses := true, named := ["unicode/utf8.first", "unicode/utf8.acceptRanges", "internal/bytealg.MaxLen"], loops := true, apart := false, laid := [("unicode/utf8.acceptRanges", laid_unicode_utf8_acceptRanges), ("unicode/utf8.first", laid_unicode_utf8_first)], narrowed := true }
def ConfigDependsIsEnoughUptoSaid : Prop := configDependsIsEnoughUptoRow.holds Tryz.pinned (OpenSpec.upto configDependsIsEnoughSpec)

end Rows
end Go.Proofs.YtbekhaioddmliaaGreatDoor
