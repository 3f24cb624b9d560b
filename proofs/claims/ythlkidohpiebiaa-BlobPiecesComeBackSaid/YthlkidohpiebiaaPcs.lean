/- blob.Pieces and smithyardref1.Pieces compute the same. -/
import Derived.Test.YthlkidohpiebiaaPof
namespace Go.Proofs.Ythlkidohpiebiaa
open Go Go.RowKit
/-- The error of numbers by which bytes are divided. -/
def cutFault (b : List UInt8) (least bits most : Int) : Nat :=
  if 2000000 < b.length then 2 else if 1 ≤ least ∧ least ≤ most ∧ 0 ≤ bits ∧ bits ≤ 20 ∧ 1 ≤ most ∧ most ≤ 100000 then 0 else 1
def piecesOf (b : List UInt8) (least bits most : Int) : List Nat × Nat :=
  if cutFault b least bits most = 0 then
    (if 20000 < (pieces b least.toNat bits.toNat most.toNat).length then ([], 2) else (pieces b least.toNat bits.toNat most.toNat, 0))
  else ([], cutFault b least bits most)
theorem cutFault_cases (b : List UInt8) (least bits most : Int) :
    (2000000 < b.length ∧ cutFault b least bits most = 2) ∨
    (b.length ≤ 2000000 ∧ ¬ (1 ≤ least ∧ least ≤ most ∧ 0 ≤ bits ∧ bits ≤ 20 ∧ 1 ≤ most ∧ most ≤ 100000) ∧ cutFault b least bits most = 1) ∨
    (b.length ≤ 2000000 ∧ (1 ≤ least ∧ least ≤ most ∧ 0 ≤ bits ∧ bits ≤ 20 ∧ 1 ≤ most ∧ most ≤ 100000) ∧ cutFault b least bits most = 0) := by
  unfold cutFault
  by_cases h1 : 2000000 < b.length
  · exact .inl ⟨h1, if_pos h1⟩
  · rw [if_neg h1]
    by_cases h2 : 1 ≤ least ∧ least ≤ most ∧ 0 ≤ bits ∧ bits ≤ 20 ∧ 1 ≤ most ∧ most ≤ 100000
    · exact .inr (.inr ⟨by omega, h2, if_pos h2⟩)
    · exact .inr (.inl ⟨by omega, h2, if_neg h2⟩)
theorem piecesOf_bad {b : List UInt8} {least bits most : Int} {n : Nat} (h : cutFault b least bits most = n + 1) : piecesOf b least bits most = ([], n + 1) := by
  unfold piecesOf; rw [if_neg (by omega), h]
theorem piecesOf_many {b : List UInt8} {least bits most : Nat} (h : cutFault b least bits most = 0) (h2 : 20000 < (pieces b least bits most).length) : piecesOf b least bits most = ([], 2) := by
  unfold piecesOf; rw [if_pos h]; simp only [Int.toNat_natCast]; rw [if_pos h2]
theorem piecesOf_good {b : List UInt8} {least bits most : Nat} (h : cutFault b least bits most = 0) (h2 : ¬ 20000 < (pieces b least bits most).length) : piecesOf b least bits most = (pieces b least bits most, 0) := by
  unfold piecesOf; rw [if_pos h]; simp only [Int.toNat_natCast]; rw [if_neg h2]
theorem within_calls (a b c : Int) (w : World) : Calls Try.prog 24 #[.int .i64 a, .int .i64 b, .int .i64 c] w fun e w' => e = .returned (.bool (decide (b ≤ a) && decide (a ≤ c))) ∧ w = w' := by
  go_enter Try.func24, Try.ntmps24
  go_wp2
  all_goals
    go_ret
    refine ⟨?_, rfl⟩
    have h : decide (b ≤ a) = true ∨ decide (b ≤ a) = false := by cases decide (b ≤ a) <;> simp
    rcases h with h | h <;> simp_all <;> omega
def inRange (b a c : Int) : Bool := decide (b ≤ a) && decide (a ≤ c)
theorem inRange_iff (b a c : Int) : inRange b a c = true ↔ b ≤ a ∧ a ≤ c := by simp [inRange]
theorem inRange_niff (b a c : Int) : inRange b a c = false ↔ ¬ (b ≤ a ∧ a ≤ c) := by rw [← inRange_iff, Bool.not_eq_true]
theorem within_yes (a b c : Int) (w : World) (h : inRange b a c = true) : Calls Try.prog 24 #[.int .i64 a, .int .i64 b, .int .i64 c] w fun e w' => e = .returned (.bool true) ∧ w = w' :=
  (within_calls a b c w).mono fun e w' ⟨h1, h2⟩ => ⟨by rw [h1]; exact congrArg (fun x => Ending.returned (.bool x)) h, h2⟩
theorem within_no (a b c : Int) (w : World) (h : inRange b a c = false) : Calls Try.prog 24 #[.int .i64 a, .int .i64 b, .int .i64 c] w fun e w' => e = .returned (.bool false) ∧ w = w' :=
  (within_calls a b c w).mono fun e w' ⟨h1, h2⟩ => ⟨by rw [h1]; exact congrArg (fun x => Ending.returned (.bool x)) h, h2⟩

set_option maxHeartbeats 1000000 in
theorem checkCut_calls (v : Value) (b : List UInt8) (least bits most : Int) (w : World) (hv : Bs w v b) :
    Calls Try.prog 20 #[v, .int .i64 least, .int .i64 bits, .int .i64 most] w fun e w' => e = .returned (.int .i64 (cutFault b least bits most)) ∧ w = w' := by
  obtain ⟨A, c, rfl, hlc, hcm, hR⟩ := hv
  unfold maxLen at hcm
  rcases cutFault_cases b least bits most with ⟨h1, hf⟩ | ⟨h1, hb, hf⟩ | ⟨h1, hb, hf⟩
  all_goals
    rw [hf]
    clear hf
  · go_enter Try.func20, Try.ntmps20
    go_wp2_with fail
    go_ret
    exact ⟨rfl, rfl⟩
  · have HB := Lib.hid hb
    clear hb
    go_enter Try.func20, Try.ntmps20
    rcases hx1 : inRange 1 least most with _ | _
    · go_wp2_with fail
      refine (within_no _ _ _ _ hx1).mono ?_
      clear hx1
      rintro e w1 ⟨rfl, rfl⟩
      go_wp2_with fail
      go_ret
      exact ⟨rfl, rfl⟩
    · rcases hx2 : inRange 0 bits 20 with _ | _
      · go_wp2_with fail
        refine (within_yes _ _ _ _ hx1).mono ?_
        clear hx1
        rintro e w1 ⟨rfl, rfl⟩
        go_wp2_with fail
        refine (within_no _ _ _ _ hx2).mono ?_
        clear hx2
        rintro e w1 ⟨rfl, rfl⟩
        go_wp2_with fail
        go_ret
        exact ⟨rfl, rfl⟩
      · rcases hx3 : inRange 1 most 100000 with _ | _
        · go_wp2_with fail
          refine (within_yes _ _ _ _ hx1).mono ?_
          clear hx1
          rintro e w1 ⟨rfl, rfl⟩
          go_wp2_with fail
          refine (within_yes _ _ _ _ hx2).mono ?_
          clear hx2
          rintro e w1 ⟨rfl, rfl⟩
          go_wp2_with fail
          refine (within_no _ _ _ _ hx3).mono ?_
          clear hx3
          rintro e w1 ⟨rfl, rfl⟩
          go_wp2_with fail
          go_ret
          exact ⟨rfl, rfl⟩
        · exact absurd ⟨((inRange_iff _ _ _).1 hx1).1, ((inRange_iff _ _ _).1 hx1).2, ((inRange_iff _ _ _).1 hx2).1, ((inRange_iff _ _ _).1 hx2).2, ((inRange_iff _ _ _).1 hx3).1, ((inRange_iff _ _ _).1 hx3).2⟩ HB.out
  · have hx1 := (inRange_iff 1 least most).2 ⟨hb.1, hb.2.1⟩
    have hx2 := (inRange_iff 0 bits 20).2 ⟨hb.2.2.1, hb.2.2.2.1⟩
    have hx3 := (inRange_iff 1 most 100000).2 hb.2.2.2.2
    clear hb
    go_enter Try.func20, Try.ntmps20
    go_wp2_with fail
    refine (within_yes _ _ _ _ hx1).mono ?_
    clear hx1
    rintro e w1 ⟨rfl, rfl⟩
    go_wp2_with fail
    refine (within_yes _ _ _ _ hx2).mono ?_
    clear hx2
    rintro e w1 ⟨rfl, rfl⟩
    go_wp2_with fail
    refine (within_yes _ _ _ _ hx3).mono ?_
    clear hx3
    rintro e w1 ⟨rfl, rfl⟩
    go_wp2_with fail
    go_ret
    exact ⟨rfl, rfl⟩
end Go.Proofs.Ythlkidohpiebiaa
