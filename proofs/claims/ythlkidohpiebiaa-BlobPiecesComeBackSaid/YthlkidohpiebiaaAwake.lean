/- smithyardlaw1.awake returns true. -/
import Derived.Test.YthlkidohpiebiaaDigB
namespace Go.Proofs.Ythlkidohpiebiaa
open Go Go.RowKit
theorem digest_nil : digest [] = [99, 98, 102, 50, 57, 99, 101, 52, 56, 52, 50, 50, 50, 51, 50, 53] := by decide +kernel
theorem awake_calls (w : World) : Calls Try.prog 10 #[] w fun e w' => e = .returned (.bool true) ∧ Ext w w' := by
  go_enter Try.func10, Try.ntmps10
  go_wp2_with fail
  refine (digest_calls _ [] w (Bs.nil w)).mono ?_
  rintro e w1 ⟨rfl, h1⟩
  rw [digest_nil]
  go_wp2_with fail
  go_ret
  exact ⟨rfl, h1⟩
end Go.Proofs.Ythlkidohpiebiaa
