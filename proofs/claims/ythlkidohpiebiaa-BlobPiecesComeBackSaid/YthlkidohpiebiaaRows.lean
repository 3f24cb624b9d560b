/-
  No cell of these rows narrows 'for every input' (looked for: loops, veiled, ifaces, maps, wideKeys, modest, calm, conditions, laid).
  DERIVED. THE GIVEN ROWS OF THIS SEAT. 5 by the template 'for every input the law returns true; each argument reads behind the call as it read before'; 0 by the template 'total and deterministic' (their statements: YthlkidohpiebiaaTotals.lean).
  GIVEN WITH THE SEED: the statements are not yours to turn. If you find one false, say at which input.
  Laid BY PROGRAM, IN A SANDBOX (cutbox-rows.mjs): the forced cells as the released guide's own fill.sh prints them over the translation 6d0c164c25122e53… (all of the seat's roots in one cut). By AI agents, Wed Nov 11 2026. No macro, syntax, notation, axiom, sorry.
-/
import Derived.Test.YthlkidohpiebiaaChecked
import GoSem.Claim
import GoSem.ClaimJoined
import GoSem.ClaimMapViews
import Derived.JoinedTies
import Derived.KernelRfl
namespace Go.Proofs.Ythlkidohpiebiaa
/- THE CELL 'sum', in the pinned program and in every row, IS THE sha256 OF THE DUMP (.gsa) THAT YthlkidohpiebiaaProg.lean LOADS. Nothing in Lean hashes anything: it is a label: what it is worth is what the hold of that sum in a sandbox is worth. -/
noncomputable def Try.pinned : Pinned := { name := "ythlkidohpiebiaa", sum := "6d0c164c25122e5348eca090a9ed2a48c4325194763e65f7934f1b58710afb27", checked := Try.checked }
namespace Rows
def none {H : Type} : Left H := { results := [], args := [] }

/-- 'smithyardlaw1.BlobDigestsMatchSpec': WHATEVER THE INPUT: true; the input reads as it did. -/
def blobDigestsMatchSpecSpec : ChangeSpec := { name := "blobDigestsMatchSpec", fn := fun _ => fun
  | [d] => { results := [.lit (.bool true)], args := [d] }
  | _ => none }
def blobDigestsMatchSpecRow : OpenClaim := { program := "ythlkidohpiebiaa", sum := "6d0c164c25122e5348eca090a9ed2a48c4325194763e65f7934f1b58710afb27", func := "smithyard/smithyardlaw1.BlobDigestsMatchSpec", spec := "blobDigestsMatchSpec", apart := false }
def BlobDigestsMatchSpecSaid : Prop := blobDigestsMatchSpecRow.holds Try.pinned (OpenSpec.ofChange blobDigestsMatchSpecSpec)

/-- ITS FALSE NEIGHBOUR: 'it returns false'. Refute it at one input. -/
def blobDigestsMatchSpecWrong : ChangeSpec := { name := "blobDigestsMatchSpec", fn := fun _ => fun
  | [d] => { results := [.lit (.bool false)], args := [d] }
  | _ => none }
def BlobDigestsMatchSpecWrongFalsely : Prop := blobDigestsMatchSpecRow.holds Try.pinned (OpenSpec.ofChange blobDigestsMatchSpecWrong)

/-- 'smithyardlaw1.BlobPiecesMatchSpec': WHATEVER THE INPUT: true; the input reads as it did. -/
def blobPiecesMatchSpecSpec : ChangeSpec := { name := "blobPiecesMatchSpec", fn := fun _ => fun
  | [d1, d2, d3, d4] => { results := [.lit (.bool true)], args := [d1, d2, d3, d4] }
  | _ => none }
def blobPiecesMatchSpecRow : OpenClaim := { program := "ythlkidohpiebiaa", sum := "6d0c164c25122e5348eca090a9ed2a48c4325194763e65f7934f1b58710afb27", func := "smithyard/smithyardlaw1.BlobPiecesMatchSpec", spec := "blobPiecesMatchSpec", apart := false }
def BlobPiecesMatchSpecSaid : Prop := blobPiecesMatchSpecRow.holds Try.pinned (OpenSpec.ofChange blobPiecesMatchSpecSpec)

/-- ITS FALSE NEIGHBOUR: 'it returns false'. Refute it at one input. -/
def blobPiecesMatchSpecWrong : ChangeSpec := { name := "blobPiecesMatchSpec", fn := fun _ => fun
  | [d1, d2, d3, d4] => { results := [.lit (.bool false)], args := [d1, d2, d3, d4] }
  | _ => none }
def BlobPiecesMatchSpecWrongFalsely : Prop := blobPiecesMatchSpecRow.holds Try.pinned (OpenSpec.ofChange blobPiecesMatchSpecWrong)

/-- 'smithyardlaw1.BlobSharedIsAll': WHATEVER THE INPUT: true; the input reads as it did. -/
def blobSharedIsAllSpec : ChangeSpec := { name := "blobSharedIsAll", fn := fun _ => fun
  | [d1, d2, d3, d4, d5] => { results := [.lit (.bool true)], args := [d1, d2, d3, d4, d5] }
  | _ => none }
def blobSharedIsAllRow : OpenClaim := { program := "ythlkidohpiebiaa", sum := "6d0c164c25122e5348eca090a9ed2a48c4325194763e65f7934f1b58710afb27", func := "smithyard/smithyardlaw1.BlobSharedIsAll", spec := "blobSharedIsAll", apart := false }
def BlobSharedIsAllSaid : Prop := blobSharedIsAllRow.holds Try.pinned (OpenSpec.ofChange blobSharedIsAllSpec)

/-- ITS FALSE NEIGHBOUR: 'it returns false'. Refute it at one input. -/
def blobSharedIsAllWrong : ChangeSpec := { name := "blobSharedIsAll", fn := fun _ => fun
  | [d1, d2, d3, d4, d5] => { results := [.lit (.bool false)], args := [d1, d2, d3, d4, d5] }
  | _ => none }
def BlobSharedIsAllWrongFalsely : Prop := blobSharedIsAllRow.holds Try.pinned (OpenSpec.ofChange blobSharedIsAllWrong)

/-- 'smithyardlaw1.BlobPiecesComeBack': WHATEVER THE INPUT: true; the input reads as it did. -/
def blobPiecesComeBackSpec : ChangeSpec := { name := "blobPiecesComeBack", fn := fun _ => fun
  | [d1, d2, d3, d4, d5] => { results := [.lit (.bool true)], args := [d1, d2, d3, d4, d5] }
  | _ => none }
def blobPiecesComeBackRow : OpenClaim := { program := "ythlkidohpiebiaa", sum := "6d0c164c25122e5348eca090a9ed2a48c4325194763e65f7934f1b58710afb27", func := "smithyard/smithyardlaw1.BlobPiecesComeBack", spec := "blobPiecesComeBack", apart := false }
def BlobPiecesComeBackSaid : Prop := blobPiecesComeBackRow.holds Try.pinned (OpenSpec.ofChange blobPiecesComeBackSpec)

/-- ITS FALSE NEIGHBOUR: 'it returns false'. Refute it at one input. -/
def blobPiecesComeBackWrong : ChangeSpec := { name := "blobPiecesComeBack", fn := fun _ => fun
  | [d1, d2, d3, d4, d5] => { results := [.lit (.bool false)], args := [d1, d2, d3, d4, d5] }
  | _ => none }
def BlobPiecesComeBackWrongFalsely : Prop := blobPiecesComeBackRow.holds Try.pinned (OpenSpec.ofChange blobPiecesComeBackWrong)

/-- 'smithyardlaw1.BlobTogetherMatchSpec': WHATEVER THE INPUT: true; the input reads as it did. -/
def blobTogetherMatchSpecSpec : ChangeSpec := { name := "blobTogetherMatchSpec", fn := fun _ => fun
  | [d1, d2, d3, d4, d5, d6] => { results := [.lit (.bool true)], args := [d1, d2, d3, d4, d5, d6] }
  | _ => none }
def blobTogetherMatchSpecRow : OpenClaim := { program := "ythlkidohpiebiaa", sum := "6d0c164c25122e5348eca090a9ed2a48c4325194763e65f7934f1b58710afb27", func := "smithyard/smithyardlaw1.BlobTogetherMatchSpec", spec := "blobTogetherMatchSpec", apart := false }
def BlobTogetherMatchSpecSaid : Prop := blobTogetherMatchSpecRow.holds Try.pinned (OpenSpec.ofChange blobTogetherMatchSpecSpec)

/-- ITS FALSE NEIGHBOUR: 'it returns false'. Refute it at one input. -/
def blobTogetherMatchSpecWrong : ChangeSpec := { name := "blobTogetherMatchSpec", fn := fun _ => fun
  | [d1, d2, d3, d4, d5, d6] => { results := [.lit (.bool false)], args := [d1, d2, d3, d4, d5, d6] }
  | _ => none }
def BlobTogetherMatchSpecWrongFalsely : Prop := blobTogetherMatchSpecRow.holds Try.pinned (OpenSpec.ofChange blobTogetherMatchSpecWrong)

/- THE SECOND FORM. 'bulk': how many values and letters a reading holds, each counted each time it is reached (what is shared counts as often as it is met; a slice's spare places count too). A statement '..UptoSaid' is the law's where the arguments, and the package variables that the reading takes, are together of bulk at most 1048576: NARROWER than '..Said'. Prove '..Said' where nothing that the law and all that it calls make is longer than what came in: it says more and counts as full. Else prove '..UptoSaid'. A law counts once. -/
mutual
def uptoBulk {H : Type} : DataW H → Nat
  | .lit (.string bytes) => bytes.length + 1
  | .lit _ => 1
  | .nil => 1
  | .ptr d => uptoBulk d + 1
  | .slice elems spare => uptoBulkAll elems + uptoBulkAll spare + 1
  | .agg parts => uptoBulkAll parts + 1
  | .iface _ d => uptoBulk d + 1
  | .map entries => uptoBulkEntries entries + 1
  | .held _ => 1
def uptoBulkAll {H : Type} : List (DataW H) → Nat
  | [] => 0
  | d :: r => uptoBulk d + uptoBulkAll r
def uptoBulkEntries {H : Type} : List (Lit × DataW H) → Nat
  | [] => 0
  | x :: r => uptoBulkEntry x + uptoBulkEntries r
def uptoBulkEntry {H : Type} : Lit × DataW H → Nat
  | (.string bytes, d) => bytes.length + uptoBulk d + 1
  | (_, d) => uptoBulk d + 1
 end
def uptoSmall : (H : Type) → List (DataW H) → Bool := fun _ ds => decide (uptoBulkAll ds ≤ 1048576)
def OpenSpec.upto (s : _root_.Go.ChangeSpec) : _root_.Go.OpenSpec := { _root_.Go.OpenSpec.ofChange s with cond := some uptoSmall }

/-- 'smithyardlaw1.BlobDigestsMatchSpec', WHERE WHAT IT READS IS OF BULK AT MOST 1048576: true; the input reads as it did. -/
def blobDigestsMatchSpecUptoRow : OpenClaim := { program := "ythlkidohpiebiaa", sum := "6d0c164c25122e5348eca090a9ed2a48c4325194763e65f7934f1b58710afb27", func := "smithyard/smithyardlaw1.BlobDigestsMatchSpec", spec := "blobDigestsMatchSpec", apart := false, narrowed := true }
def BlobDigestsMatchSpecUptoSaid : Prop := blobDigestsMatchSpecUptoRow.holds Try.pinned (OpenSpec.upto blobDigestsMatchSpecSpec)

/-- 'smithyardlaw1.BlobPiecesMatchSpec', WHERE WHAT IT READS IS OF BULK AT MOST 1048576: true; the input reads as it did. -/
def blobPiecesMatchSpecUptoRow : OpenClaim := { program := "ythlkidohpiebiaa", sum := "6d0c164c25122e5348eca090a9ed2a48c4325194763e65f7934f1b58710afb27", func := "smithyard/smithyardlaw1.BlobPiecesMatchSpec", spec := "blobPiecesMatchSpec", apart := false, narrowed := true }
def BlobPiecesMatchSpecUptoSaid : Prop := blobPiecesMatchSpecUptoRow.holds Try.pinned (OpenSpec.upto blobPiecesMatchSpecSpec)

/-- 'smithyardlaw1.BlobSharedIsAll', WHERE WHAT IT READS IS OF BULK AT MOST 1048576: true; the input reads as it did. -/
def blobSharedIsAllUptoRow : OpenClaim := { program := "ythlkidohpiebiaa", sum := "6d0c164c25122e5348eca090a9ed2a48c4325194763e65f7934f1b58710afb27", func := "smithyard/smithyardlaw1.BlobSharedIsAll", spec := "blobSharedIsAll", apart := false, narrowed := true }
def BlobSharedIsAllUptoSaid : Prop := blobSharedIsAllUptoRow.holds Try.pinned (OpenSpec.upto blobSharedIsAllSpec)

/-- 'smithyardlaw1.BlobPiecesComeBack', WHERE WHAT IT READS IS OF BULK AT MOST 1048576: true; the input reads as it did. -/
def blobPiecesComeBackUptoRow : OpenClaim := { program := "ythlkidohpiebiaa", sum := "6d0c164c25122e5348eca090a9ed2a48c4325194763e65f7934f1b58710afb27", func := "smithyard/smithyardlaw1.BlobPiecesComeBack", spec := "blobPiecesComeBack", apart := false, narrowed := true }
def BlobPiecesComeBackUptoSaid : Prop := blobPiecesComeBackUptoRow.holds Try.pinned (OpenSpec.upto blobPiecesComeBackSpec)

/-- 'smithyardlaw1.BlobTogetherMatchSpec', WHERE WHAT IT READS IS OF BULK AT MOST 1048576: true; the input reads as it did. -/
def blobTogetherMatchSpecUptoRow : OpenClaim := { program := "ythlkidohpiebiaa", sum := "6d0c164c25122e5348eca090a9ed2a48c4325194763e65f7934f1b58710afb27", func := "smithyard/smithyardlaw1.BlobTogetherMatchSpec", spec := "blobTogetherMatchSpec", apart := false, narrowed := true }
def BlobTogetherMatchSpecUptoSaid : Prop := blobTogetherMatchSpecUptoRow.holds Try.pinned (OpenSpec.upto blobTogetherMatchSpecSpec)

end Rows
end Go.Proofs.Ythlkidohpiebiaa
