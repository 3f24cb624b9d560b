/- How a contract of the kit is said of the machine. -/
import Derived.Test.YtbekhaioddmliaaDoorQBmX
import Derived.Test.YtbekhaioddmliaaDoorProg
import Derived.Test.YtbekhaioddmliaaDoorShelf
namespace Go.Proofs.YtbekhaioddmliaaDoor
set_option linter.unusedVariables false
set_option linter.unusedSimpArgs false
open Go Go.RowKit Go.Shelf
abbrev g0 : Gh := fun _ => none
theorem Sound.ofExt {P : Program} {G : World → Prop} {B0 : Nat} {f : FuncId} {ps rs : List Sl} {R : Type} {out : R → SV rs × BV []} {F : SV ps → BV [] → Option R}
    (hcall : ∀ (args : Array Value) (w : World), (callFunc f args).run P w = .ok (.enter f args) w)
    (h : ∀ (M : Nat → Nat → Prop) (w : World) (vs : List Value) (x : SV ps) (z : R), G w → (∀ b o, M b o → b < w.heap.size) → All2 (RepD0 M w g0) (lays id ps x) vs → F x () = some z →
      Calls P f vs.toArray w fun e w' => ∃ vs', e = .returned (rets vs') ∧ Ext w w' ∧ All2 (RepD0 M w' g0) (lays id rs (out z).1) vs') : Sound P G B0 f ⟨ps, [], rs, [], R, out, F⟩ := by
  refine ⟨hcall, fun M w g vs x y z hG hB hF hz => ?_⟩
  have hg : g = g0 := by
    funext r
    cases hr : g r with
    | none => rfl
    | some gx => exact absurd (hF.dom r gx hr) (Nat.not_lt_zero _)
  subst hg
  have hM : Mafter M g0 g0 = M := by
    funext b o
    refine propext ⟨fun h => ?_, fun h => .inl ⟨h, fun ⟨_, _, hx, _⟩ => by cases hx⟩⟩
    exact h.elim (fun h => h.1) fun ⟨_, _, hx, _⟩ => by cases hx
  refine (h M w vs x z hG hF.mlt hF.args hz).mono fun e w' hp => ?_
  obtain ⟨vs', he, hE, hA⟩ := hp
  refine ⟨vs', g0, he, ExtX.of_ext hE, ?_, ?_, fun _ _ h _ => (by cases h), fun b hb => .inl hb⟩
  · rw [hM]; exact Step.ext hE
  · rw [hM]
    exact { args := hA, res := fun r blk h => (by cases h), dom := fun r gx h => (by cases h), inj := fun _ _ _ _ _ h => (by cases h), low := fun _ _ _ h => (by cases h), chg := fun _ _ _ _ h => (by cases h), mlt := fun b o h => Nat.lt_of_lt_of_le (hF.mlt b o h) hE.size, row := fun _ _ _ h => (by cases h) }
section
variable {M : Nat → Nat → Prop} {w : World}
theorem RepV.str {x : Str} {v : Value} (h : RepV M w .str x v) : v = .string ⟨List.toArray x⟩ := by
  have := RepV.plain rfl h
  have := (show [v] = [.string ⟨List.toArray x⟩] from this)
  injection this
theorem RepV.u8 {x : UInt8} {v : Value} (h : RepV M w .u8 x v) : v = .int .u8 (UInt8.toNat x) := by
  have := RepV.plain rfl h
  have := (show [v] = [.int .u8 (UInt8.toNat x)] from this)
  injection this
theorem RepV.int {k : IntKind} {x : Int} {v : Value} (h : RepV M w (.int k) x v) : v = .int k x := by
  have := RepV.plain rfl h
  have := (show [v] = [.int k x] from this)
  injection this
theorem vStr (x : Str) : RepV M w .str x (.string ⟨List.toArray x⟩) := RepC.toV rfl rfl
/-- A slice of strings: where its cells lie. -/
theorem RepV.strs {xs : List Str} {v : Value} (h : RepV M w (.sl .str) xs v) : ∃ A c, v = .slice A xs.length c ∧ xs.length ≤ c ∧ c ≤ maxLen ∧ (xs ≠ [] → ∃ b o, A = some ⟨b, o, none⟩ ∧ ∀ j x, xs[j]? = some x → w.cell? ⟨b, o + j, none⟩ = some (.string ⟨x.toArray⟩)) := by
  obtain ⟨A, c, h1, h2, h3, h4⟩ := RepV.plain (t := .sl .str) rfl h
  injection h1 with h1
  refine ⟨A, c, h1, h2, h3, fun hx => ?_⟩
  have hat : ∀ i (h : i < xs.length), ∃ ad, A = some ad ∧ w.cell? (ad.add i) = some (.string ⟨xs[i].toArray⟩) := fun i hi => by
    obtain ⟨ad, es, a1, a2, a3⟩ := h4 i hi
    have a2' : es = [.string ⟨xs[i].toArray⟩] := a2
    subst a2'
    have := (a3 0 _ rfl).1
    have e : (ad.add (i * Ty.sz .str)).add 0 = ad.add i := by show Addr.add (Addr.add ad (i * 1)) 0 = _; rw [Nat.mul_one]; rfl
    rw [e] at this
    exact ⟨ad, a1, this⟩
  have hl : 0 < xs.length := by cases xs with
    | nil => exact absurd rfl hx
    | cons => exact Nat.succ_pos _
  obtain ⟨ad, a1, a2⟩ := hat 0 hl
  obtain ⟨b, o, sp⟩ := ad
  have hsp : sp = none := by
    cases sp with
    | none => rfl
    | some s =>
      have : w.cell? (⟨b, o, some s⟩ : Addr) = none := by
        unfold World.cell?
        split
        · rfl
        · rfl
      rw [show Addr.add ⟨b, o, some s⟩ 0 = ⟨b, o, some s⟩ from rfl, this] at a2
      cases a2
  subst hsp
  refine ⟨b, o, a1, fun j x hj => ?_⟩
  have hj' : j < xs.length := by
    rcases Nat.lt_or_ge j xs.length with h | h
    · exact h
    · rw [List.getElem?_eq_none h] at hj; cases hj
  obtain ⟨ad, b1, b2⟩ := hat j hj'
  rw [a1] at b1
  injection b1 with b1
  subst b1
  rw [List.getElem?_eq_getElem hj'] at hj
  injection hj with hj
  subst hj
  have e : Addr.add ⟨b, o, none⟩ j = ⟨b, o + j, none⟩ := by unfold Addr.add; split <;> simp_all
  rwa [e] at b2
end
end Go.Proofs.YtbekhaioddmliaaDoor
