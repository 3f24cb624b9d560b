/- Slices of slices: where they begin is kept behind a name. No program is in sight here. -/
import Derived.Test.YthlkidohpiebiaaBase2
namespace Go.Proofs.Ythlkidohpiebiaa
open Go Go.RowKit
/-- The address of 'x[l:]' where m is x's capacity and s an element's size. -/
def offA (a : Option Addr) (l m s : Nat) : Option Addr := if m = l then a else a.map (·.add (l * s))
@[go_sem] theorem offA_zero (a : Option Addr) (m s : Nat) : offA a 0 m s = a := by
  unfold offA
  split
  · rfl
  · rw [Nat.zero_mul]
    cases a with
    | none => rfl
    | some a => simp [Addr.add]
theorem sliced_off (a : Option Addr) (l h m s : Nat) : sliced a l h m s = .slice (offA a l m s) (h - l) (m - l) := rfl
section
variable {P : Program} (w : World) (t : TypeId) (a : Option Addr) (len cap : Nat) (ht : P.underlying t = some (.slice (P.elem t)))
include ht
@[go_sem high] theorem run_slice_lh_off (kl kh : IntKind) (l h : Int) (h0 : 0 ≤ l) (h1 : l ≤ h) (h2 : h ≤ cap) :
    (Instr.slice t (.slice a len cap) (some (.int kl l)) (some (.int kh h)) none).run P w =
      ((sizeOf (P.elem t)).run P w).andThen fun s w => .ok (.slice (offA a l.toNat cap s) (h.toNat - l.toNat) (cap - l.toNat)) w :=
  run_slice_lh w t a len cap ht kl kh l h h0 h1 h2
@[go_sem high] theorem run_slice_l_off (kl : IntKind) (l : Int) (h0 : 0 ≤ l) (h1 : l ≤ len) :
    (Instr.slice t (.slice a len cap) (some (.int kl l)) none none).run P w =
      ((sizeOf (P.elem t)).run P w).andThen fun s w => .ok (.slice (offA a l.toNat cap s) (len - l.toNat) (cap - l.toNat)) w :=
  run_slice_l w t a len cap ht kl l h0 h1
@[go_sem 200] theorem run_slice_any_off (lo hi mx : Option Value) :
    (Instr.slice t (.slice a len cap) lo hi mx).run P w =
      ((Instr.sliceBounds true len cap lo hi mx).run P w).andThen fun b w => ((sizeOf (P.elem t)).run P w).andThen fun s w => .ok (.slice (offA a b.1 b.2.2 s) (b.2.1 - b.1) (b.2.2 - b.1)) w :=
  run_slice_any w t a len cap ht lo hi mx
end
/-- What is read of a part of a row of one-cell elements. -/
theorem Row.off {w : World} {A : Option Addr} {xs : List Value} {c : Nat} (h : Row w A xs) (hc : xs.length ≤ c) (k : Nat) : Row w (offA A k c 1) (xs.drop k) := by
  unfold offA
  by_cases he : c = k
  · rw [List.drop_eq_nil_of_le (by omega)]; exact Row.nil _ _
  · rw [if_neg he, Nat.mul_one]; exact h.drop k
theorem Row.offs {w : World} {A : Option Addr} {xs : List Value} {c sz : Nat} (h : Row w A xs) (k : Nat) (hc : xs.length ≤ c * sz) : Row w (offA A k c sz) (xs.drop (k * sz)) := by
  unfold offA
  by_cases he : c = k
  · subst he; rw [List.drop_eq_nil_of_le hc]; exact Row.nil _ _
  · rw [if_neg he]; exact h.drop _
theorem Row.mid {w : World} {A : Option Addr} {xs : List Value} {c : Nat} (h : Row w A xs) (hc : xs.length ≤ c) (k n : Nat) : Row w (offA A k c 1) ((xs.drop k).take n) := (h.off hc k).take n
/-- 'b[n : n+m]'. -/
theorem Bs.mid {w : World} {A : Option Addr} {c n m : Nat} {l : List UInt8} (hr : Row w A (bcs l)) (hc : l.length ≤ c) (hm : c ≤ maxLen) (h : n + m ≤ l.length) : Bs w (.slice (offA A n c 1) m (c - n)) ((l.drop n).take m) := by
  have hlen : ((l.drop n).take m).length = m := by rw [List.length_take, List.length_drop]; omega
  refine ⟨_, c - n, by rw [hlen], by rw [hlen]; omega, by omega, ?_⟩
  have := hr.mid (c := c) (by rw [bcs_len]; exact hc) n m
  unfold bcs at this ⊢
  rw [List.map_take, List.map_drop]
  exact this
/-- 'b[:n:n]'. -/
theorem Bs.head {w : World} {A : Option Addr} {n : Nat} {l : List UInt8} (hr : Row w A (bcs l)) (hm : l.length ≤ maxLen) (h : n ≤ l.length) : Bs w (.slice A n n) (l.take n) := by
  have hlen : (l.take n).length = n := by rw [List.length_take]; omega
  refine ⟨A, n, by rw [hlen], by omega, by omega, ?_⟩
  unfold bcs
  rw [List.map_take]
  exact hr.take n
end Go.Proofs.Ythlkidohpiebiaa
