/- The package variable that is read on the way, and shared words. -/
import Derived.Test.YtbekhaioddmliaaDoorQBmL
namespace Go.Proofs.YtbekhaioddmliaaDoor
set_option linter.unusedVariables false
set_option linter.unusedSimpArgs false
open Go Go.RowKit
abbrev Str := List UInt8
theorem br_ite {R : Type} (c : Bool) (x y : R) : br c (some x) (some y) = some (if c = true then x else y) := by cases c <;> simp
/-- The one package variable that is read on the way (bytealg.MaxLen) holds some int. -/
def GW (w : World) : Prop := ∃ m : Int, w.cell? ⟨0, 0, none⟩ = some (.int .i64 m)
def B0G : Nat := 0 + 1
theorem GW_stable (w w' : World) (X : Nat → Prop) (h : GW w) (hX : ExtX X w w') (hB : ∀ b, X b → B0G ≤ b) : GW w' := by
  obtain ⟨m, h⟩ := h
  refine ⟨m, ?_⟩
  have hlt := World.block_lt_of_cell? w _ h
  rw [cell_of_block (hX.block _ hlt fun hx => absurd (hB _ hx) (by unfold B0G; exact Nat.not_succ_le_self _))]
  exact h
theorem GW_size {w : World} (h : GW w) : B0G ≤ w.heap.size := by
  obtain ⟨m, h⟩ := h
  exact World.block_lt_of_cell? w _ h
/-- Of a function nothing is said but where it has captured something. -/
abbrev noneAF (ts : List Sl) : AF := { ps := ts, bs := [], rs := [], cs := [], R := Unit, out := fun _ => ((), ()), f := fun _ _ => none }
theorem noneAF_sound {P : Program} {G : World → Prop} {B0 : Nat} {f : FuncId} (hcall : ∀ (args : Array Value) (w : World), (callFunc f args).run P w = .ok (.enter f args) w) (ts : List Sl) : Sound P G B0 f (noneAF ts) := ⟨hcall, fun _ _ _ _ _ _ _ _ _ _ h => by cases h⟩
theorem Sound.congr {P : Program} {G : World → Prop} {B0 : Nat} {f : FuncId} {ps bs rs cs} {R : Type} {out : R → SV rs × BV cs} {F F' : SV ps → BV bs → Option R} (h : Sound P G B0 f ⟨ps, bs, rs, cs, R, out, F⟩) (e : ∀ x y, F x y = F' x y) : Sound P G B0 f ⟨ps, bs, rs, cs, R, out, F'⟩ := by
  have : F = F' := funext fun x => funext fun y => e x y
  rw [← this]; exact h
end Go.Proofs.YtbekhaioddmliaaDoor
