/- The walk of BlobPiecesMatchSpec. -/
import Derived.Test.YthlkidohpiebiaaPcsB
import Derived.Test.YthlkidohpiebiaaEqInt
import Derived.Test.YthlkidohpiebiaaAwake
namespace Go.Proofs.Ythlkidohpiebiaa
open Go Go.RowKit
theorem Vs.of_ics {w : World} {base : Nat} {e : TypeId} {v : Value} {l : List Nat} (h : w.ownsRow base e 1 v l.length (ics l)) : Vs w v (zcs (l.map fun n : Nat => (n : Int))) := by
  rw [← ics_zcs]; exact Vs.of_own h
theorem lawPieces_calls (v : Value) (b : List UInt8) (least bits most : Int) (w : World) (hv : Bs w v b) :
    Calls Try.prog 4 #[v, .int .i64 least, .int .i64 bits, .int .i64 most] w fun e w' => e = .returned (.bool true) ∧ Ext w w' := by
  go_enter Try.func4, Try.ntmps4
  go_wp2_with fail
  refine (blobPieces_calls v b least bits most w hv).mono ?_
  rintro e w1 ⟨u1, rfl, ho1, h1⟩
  go_wp2_with fail
  refine (refPieces_calls v b least bits most w1 (hv.ext h1)).mono ?_
  rintro e w2 ⟨u2, rfl, ho2, h2⟩
  go_wp2_with fail
  refine (equalInts_calls u1 u2 _ _ w2 (Vs.of_ics (h2.own ho1)) (Vs.of_ics ho2)).mono ?_
  rintro e w3 ⟨rfl, h3⟩
  go_wp2_with fail
  refine (awake_calls w3).mono ?_
  rintro e w4 ⟨rfl, h4⟩
  go_wp2_with fail
  go_ret
  exact ⟨rfl, ((h1.trans h2).trans h3).trans h4⟩
end Go.Proofs.Ythlkidohpiebiaa
