/- Plain: the number of the last sixteen bytes, rolled on and reckoned anew. No program is in sight here. -/
import Derived.Laws.BitsLemmas
namespace Go.Proofs.Ythlkidohpiebiaa
def rollStep (h : Nat) (c : UInt8) : Nat := (h * 31 + c.toNat) % 4294967296
def rollFrom (h : Nat) (l : List UInt8) : Nat := l.foldl rollStep h
def roll (l : List UInt8) : Nat := rollFrom 0 l
def win (b : List UInt8) (k : Nat) : List UInt8 := (b.take k).drop (k - 16)
def rolled (b : List UInt8) (k : Nat) : Nat := roll (win b k)
theorem rollStep_lt (h : Nat) (c : UInt8) : rollStep h c < 4294967296 := Nat.mod_lt _ (by decide)
theorem rollFrom_lt (l : List UInt8) : ∀ h, h < 4294967296 → rollFrom h l < 4294967296 := by
  induction l with
  | nil => exact fun h hh => hh
  | cons c l ih => exact fun h _ => ih _ (rollStep_lt h c)
theorem roll_lt (l : List UInt8) : roll l < 4294967296 := rollFrom_lt l 0 (by decide)
theorem rollFrom_snoc (h : Nat) (l : List UInt8) (c : UInt8) : rollFrom h (l ++ [c]) = rollStep (rollFrom h l) c := by simp [rollFrom]
theorem roll_snoc (l : List UInt8) (c : UInt8) : roll (l ++ [c]) = rollStep (roll l) c := rollFrom_snoc 0 l c
theorem rollFrom_mod (l : List UInt8) : ∀ h, rollFrom h l % 4294967296 = (h * 31 ^ l.length + roll l) % 4294967296 := by
  induction l with
  | nil => intro h; simp [rollFrom, roll]
  | cons c l ih =>
    intro h
    have h1 := ih (rollStep h c)
    have h2 := ih (rollStep 0 c)
    have e1 : rollFrom h (c :: l) = rollFrom (rollStep h c) l := rfl
    have e2 : roll (c :: l) = rollFrom (rollStep 0 c) l := rfl
    rw [e1, e2, h1]
    have e3 : rollFrom (rollStep 0 c) l % 4294967296 = rollFrom (rollStep 0 c) l := Nat.mod_eq_of_lt (rollFrom_lt l _ (rollStep_lt 0 c))
    rw [← e3, h2]
    unfold rollStep
    simp only [List.length_cons, Nat.zero_mul, Nat.zero_add]
    have m1 : ((h * 31 + c.toNat) % 4294967296 * 31 ^ l.length) % 4294967296 = ((h * 31 + c.toNat) * 31 ^ l.length) % 4294967296 := by rw [Nat.mul_mod, Nat.mod_mod, ← Nat.mul_mod]
    have m2 : (c.toNat % 4294967296 * 31 ^ l.length) % 4294967296 = (c.toNat * 31 ^ l.length) % 4294967296 := by rw [Nat.mul_mod, Nat.mod_mod, ← Nat.mul_mod]
    have m3 : (h * 31 + c.toNat) * 31 ^ l.length = h * 31 ^ (l.length + 1) + c.toNat * 31 ^ l.length := by
      rw [Nat.add_mul, Nat.pow_succ, Nat.mul_assoc, Nat.mul_comm 31]
    rw [m3] at m1
    generalize (h * 31 + c.toNat) % 4294967296 * 31 ^ l.length = a1 at *
    generalize c.toNat % 4294967296 * 31 ^ l.length = a2 at *
    generalize h * 31 ^ (l.length + 1) = a3 at *
    generalize c.toNat * 31 ^ l.length = a4 at *
    omega
theorem win_len (b : List UInt8) (k : Nat) (hk : k ≤ b.length) : (win b k).length = min k 16 := by
  simp [win]; omega
theorem win_succ_small (b : List UInt8) (k : Nat) (h16 : k < 16) (hk : k < b.length) : win b (k + 1) = win b k ++ [b[k]] := by
  unfold win
  rw [List.take_succ_eq_append_getElem hk, show k + 1 - 16 = 0 from by omega, show k - 16 = 0 from by omega]
  simp
theorem win_split (b : List UInt8) (k : Nat) (h16 : 16 ≤ k) (hk : k < b.length) : ∃ r : List UInt8, r.length = 15 ∧ win b k = b[k - 16]'(by omega) :: r ∧ win b (k + 1) = r ++ [b[k]] := by
  refine ⟨(b.take k).drop (k - 15), by simp; omega, ?_, ?_⟩
  · unfold win
    rw [List.drop_eq_getElem_cons (by simp; omega)]
    simp [show k - 16 + 1 = k - 15 from by omega]
  · unfold win
    rw [List.take_succ_eq_append_getElem hk, show k + 1 - 16 = k - 15 from by omega, List.drop_append_of_le_length (by simp; omega)]
/-- What blob.cut does with its number in a round. -/
theorem rolled_succ_small (b : List UInt8) (k : Nat) (h16 : k < 16) (hk : k < b.length) : rolled b (k + 1) = (31 * rolled b k % 4294967296 + b[k].toNat) % 4294967296 := by
  unfold rolled
  rw [win_succ_small b k h16 hk, roll_snoc]
  unfold rollStep
  rw [Nat.mul_comm, Nat.mod_add_mod]
theorem rolled_succ_big (b : List UInt8) (k : Nat) (h16 : 16 ≤ k) (hk : k < b.length) (p : Nat) (hp : p % 4294967296 = 31 ^ 15 % 4294967296) (g : Nat)
    (hg : (g + p * (b[k - 16]'(by omega)).toNat) % 4294967296 = rolled b k) : rolled b (k + 1) = (31 * g % 4294967296 + b[k].toNat) % 4294967296 := by
  obtain ⟨r, hr, h1, h2⟩ := win_split b k h16 hk
  unfold rolled at hg ⊢
  rw [h1] at hg
  rw [h2, roll_snoc]
  unfold rollStep
  generalize b[k - 16]'(by omega) = c at *
  have e : roll (c :: r) = rollFrom (rollStep 0 c) r := rfl
  have h3 := rollFrom_mod r (rollStep 0 c)
  rw [Nat.mod_eq_of_lt (rollFrom_lt r _ (rollStep_lt 0 c)), ← e, ← hg, hr] at h3
  have e2 : rollStep 0 c = c.toNat := by unfold rollStep; have := c.toNat_lt; omega
  rw [e2] at h3
  have h4 : (p * c.toNat) % 4294967296 = (c.toNat * 31 ^ 15) % 4294967296 := by rw [Nat.mul_mod, hp, ← Nat.mul_mod, Nat.mul_comm]
  have h5 : g % 4294967296 = roll r % 4294967296 := by omega
  rw [Nat.mod_add_mod, Nat.mul_comm 31 g]
  have h6 : (g * 31) % 4294967296 = (roll r * 31) % 4294967296 := by rw [Nat.mul_mod, h5, ← Nat.mul_mod]
  omega
end Go.Proofs.Ythlkidohpiebiaa
