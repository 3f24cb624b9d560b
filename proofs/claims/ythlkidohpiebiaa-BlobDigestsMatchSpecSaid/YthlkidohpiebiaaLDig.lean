/- The statement BlobDigestsMatchSpec: for all bytes blob.Digest and smithyardref1.Digest return the same string. No condition. -/
import Derived.Test.YthlkidohpiebiaaRows
import Derived.Test.YthlkidohpiebiaaAwake
namespace Go.Proofs.Ythlkidohpiebiaa
open Go Go.RowKit
theorem lawDigests_calls (v : Value) (l : List UInt8) (w : World) (hv : Bs w v l) :
    Calls Try.prog 3 #[v] w fun e w' => e = .returned (.bool true) ∧ Ext w w' := by
  go_enter Try.func3, Try.ntmps3
  go_wp2_with fail
  refine (digest_calls v l w hv).mono ?_
  rintro e w1 ⟨rfl, h1⟩
  go_wp2_with fail
  refine (refDigest_calls v l w1 (hv.ext h1)).mono ?_
  rintro e w2 ⟨rfl, rfl⟩
  go_wp2_with fail
  refine (awake_calls w1).mono ?_
  rintro e w3 ⟨rfl, h3⟩
  go_wp2_with fail
  go_ret
  exact ⟨rfl, h1.trans h3⟩
end Go.Proofs.Ythlkidohpiebiaa
