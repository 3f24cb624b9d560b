/- The walk of BlobTogetherMatchSpec. -/
import Derived.Test.YthlkidohpiebiaaSharedB
import Derived.Test.YthlkidohpiebiaaTog
import Derived.Test.YthlkidohpiebiaaEqInt
import Derived.Test.YthlkidohpiebiaaAwake
namespace Go.Proofs.Ythlkidohpiebiaa
open Go Go.RowKit
theorem Bs.of_own {w : World} {base : Nat} {e : TypeId} {v : Value} {l : List UInt8} (h : w.ownsRow base e 1 v l.length (bcs l)) : Bs w v l := Bs.of_vs (Vs.of_own h)
set_option maxHeartbeats 1000000 in
theorem lawTogether_calls (t : Value) (L : List (List UInt8)) (u : Value) (a : List UInt8) (v : Value) (b : List UInt8) (least bits most : Int) (w : World) (hs : ∀ x ∈ L, x.length ≤ 140737488355328) (ht : BBs w t L) (hu : Bs w u a) (hv : Bs w v b) :
    Calls Try.prog 7 #[t, u, v, .int .i64 least, .int .i64 bits, .int .i64 most] w fun e w' => e = .returned (.bool true) ∧ Ext w w' := by
  go_enter Try.func7, Try.ntmps7
  go_wp2_with fail
  refine (blobTogether_calls t L w hs ht).mono ?_
  rintro e w1 ⟨u1, rfl, ho1, h1⟩
  go_wp2_with fail
  refine (refTogether_calls t L w1 hs (ht.ext h1)).mono ?_
  rintro e w2 ⟨u2, rfl, ho2, h2⟩
  have h12 := h1.trans h2
  go_wp2_with fail
  refine (blobShared_calls u v a b least bits most w2 (hu.ext h12) (hv.ext h12)).mono ?_
  rintro e w3 ⟨rfl, h3⟩
  have h13 := h12.trans h3
  go_wp2_with fail
  refine (refShared_calls u v a b least bits most w3 (hu.ext h13) (hv.ext h13)).mono ?_
  rintro e w4 ⟨rfl, h4⟩
  have h24 := h3.trans h4
  go_wp2_with fail
  refine (bytesEqual_calls u1 u2 _ _ w4 (Bs.of_own (h24.own (h2.own ho1))) (Bs.of_own (h24.own ho2))).mono ?_
  rintro e w5 ⟨rfl, rfl⟩
  go_wp2_with fail
  refine (awake_calls w4).mono ?_
  rintro e w6 ⟨rfl, h6⟩
  go_wp2_with fail
  go_ret
  exact ⟨rfl, (h13.trans h4).trans h6⟩
end Go.Proofs.Ythlkidohpiebiaa
