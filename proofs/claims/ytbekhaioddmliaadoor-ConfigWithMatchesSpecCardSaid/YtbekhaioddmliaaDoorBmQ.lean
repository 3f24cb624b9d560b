/- More functions of Go's library, out of the kit's contracts. -/
import Derived.Test.YtbekhaioddmliaaDoorBmP
namespace Go.Proofs.YtbekhaioddmliaaDoor
set_option linter.unusedVariables false
set_option linter.unusedSimpArgs false
open Go Go.RowKit Go.Shelf
theorem sizeB (l : List UInt8) : (⟨l.toArray⟩ : ByteArray).size = l.length := rfl
def strings_IndexByte (s : Str) (c : UInt8) : Option Int := some (Lib.indexByte s c)
theorem strings_IndexByte_sound : Sound Tryd.prog GW B0G 176 ⟨[.v .str, .v .u8], [], [.v (.int .i64)], [], Int, fun z => ((z, ()), ()), fun x _ => strings_IndexByte x.1 x.2.1⟩ := by
  refine Sound.ofExt Tryd.call176 fun M w vs x z hG hM hA hz => ?_
  obtain ⟨a, b, u⟩ := x
  match vs, hA with
  | [v1, v2], hA =>
    obtain ⟨h1, h2, _⟩ := hA
    rw [RepV.str h1, RepV.u8 h2]
    have e : Lib.indexByte a b = z := Option.some.inj hz
    subst e
    refine (Tryd.strings_IndexByte ⟨a.toArray⟩ (UInt8.toNat b) w).mono fun e w' hp => ?_
    obtain ⟨rfl, rfl⟩ := hp
    refine ⟨[_], rfl, Ext.refl _, ?_, trivial⟩
    have e2 : ((UInt8.toNat b : Nat) : Int).toNat.toUInt8 = b := by simp
    rw [e2]
    exact vInt .i64 _
def strings_Compare (a b : Str) : Option Int := some (Lib.compareBytes a b)
theorem strings_Compare_sound : Sound Tryd.prog GW B0G 109 ⟨[.v .str, .v .str], [], [.v (.int .i64)], [], Int, fun z => ((z, ()), ()), fun x _ => strings_Compare x.1 x.2.1⟩ := by
  refine Sound.ofExt Tryd.call109 fun M w vs x z hG hM hA hz => ?_
  obtain ⟨a, b, u⟩ := x
  match vs, hA with
  | [v1, v2], hA =>
    obtain ⟨h1, h2, _⟩ := hA
    rw [RepV.str h1, RepV.str h2]
    have e : Lib.compareBytes a b = z := Option.some.inj hz
    subst e
    refine (Tryd.strings_Compare ⟨a.toArray⟩ ⟨b.toArray⟩ w).mono fun e w' hp => ?_
    obtain ⟨rfl, rfl⟩ := hp
    exact ⟨[_], rfl, Ext.refl _, vInt .i64 _, trivial⟩
/-- A fresh row of strings is a slice of strings. -/
theorem vStrs {M : Nat → Nat → Prop} {w w' : World} (hM : ∀ b o, M b o → b < w.heap.size) (xs : List Str) (hl : xs.length ≤ maxLen) (e : TypeId)
    (hw : w' = w.alloc (.cells (xs.map fun x => Value.string ⟨x.toArray⟩).toArray e)) : RepV M w' (.sl .str) xs (.slice (some ⟨w.heap.size, 0, none⟩) xs.length xs.length) := by
  subst hw
  refine RepC.toV rfl ⟨some ⟨w.heap.size, 0, none⟩, xs.length, rfl, Nat.le_refl _, hl, fun i hi => ⟨⟨w.heap.size, 0, none⟩, [.string ⟨xs[i].toArray⟩], rfl, rfl, fun j u hu => ?_⟩⟩
  cases j with
  | succ j => simp at hu
  | zero =>
    simp only [List.getElem?_cons_zero, Option.some.injEq] at hu
    subst hu
    have e2 : (((⟨w.heap.size, 0, none⟩ : Addr).add (i * Ty.sz .str)).add 0) = ⟨w.heap.size, i, none⟩ := by
      show Addr.add (Addr.add _ (i * 1)) 0 = _
      rw [Nat.mul_one]
      unfold Addr.add; split <;> simp_all
    rw [e2, World.cell?_alloc_new]
    refine ⟨?_, fun hM' => ?_⟩
    · simp [hi]
    · exact absurd (hM _ _ hM') (Nat.lt_irrefl _)
/-- The parts of a string between separators. -/
def splitS (a b : Str) : List Str := (Lib.splitB ⟨b.toArray⟩ 0 (Lib.countB ⟨a.toArray⟩ ⟨b.toArray⟩) ⟨a.toArray⟩).map fun x => x.data.toList
def strings_Split (a b : Str) : Option (List Str) := if a.length < 4294967281 ∧ 1 ≤ b.length ∧ (splitS a b).length = Lib.countB ⟨a.toArray⟩ ⟨b.toArray⟩ + 1 ∧ (splitS a b).length ≤ 4294967296 then some (splitS a b) else none
theorem strings_Split_sound : Sound Tryd.prog GW B0G 73 ⟨[.v .str, .v .str], [], [.v (.sl .str)], [], List Str, fun z => ((z, ()), ()), fun x _ => strings_Split x.1 x.2.1⟩ := by
  refine Sound.ofExt Tryd.call73 fun M w vs x z hG hM hA hz => ?_
  obtain ⟨a, b, u⟩ := x
  match vs, hA with
  | [v1, v2], hA =>
    obtain ⟨h1, h2, _⟩ := hA
    rw [RepV.str h1, RepV.str h2]
    change strings_Split a b = some z at hz
    unfold strings_Split at hz
    split at hz
    · rename_i hc
      injection hz with hz
      subst hz
      obtain ⟨m, hm⟩ := hG
      refine (Tryd.strings_Split ⟨a.toArray⟩ ⟨b.toArray⟩ m w hc.1 hm hc.2.1).mono fun e w' hp => ?_
      obtain ⟨rfl, hw⟩ := hp
      have hmap : (Lib.splitB ⟨b.toArray⟩ 0 (Lib.countB ⟨a.toArray⟩ ⟨b.toArray⟩) ⟨a.toArray⟩).map Value.string = (splitS a b).map fun x => Value.string ⟨x.toArray⟩ := by
        unfold splitS
        rw [List.map_map]
        rfl
      rw [hmap] at hw
      rw [← hc.2.2.1]
      exact ⟨[_], rfl, hw ▸ (Ext.refl w).alloc _, vStrs hM _ (Nat.le_trans hc.2.2.2 (by decide)) _ hw, trivial⟩
    · cases hz
def strings_Cut (a b : Str) : Option (Str × Str × Bool) := if a.length < 4294967281 then some (Lib.cut a b) else none
theorem strings_Cut_sound : Sound Tryd.prog GW B0G 74 ⟨[.v .str, .v .str], [], [.v .str, .v .str, .v .bool], [], Str × Str × Bool, fun z => ((z.1, z.2.1, z.2.2, ()), ()), fun x _ => strings_Cut x.1 x.2.1⟩ := by
  refine Sound.ofExt Tryd.call74 fun M w vs x z hG hM hA hz => ?_
  obtain ⟨a, b, u⟩ := x
  match vs, hA with
  | [v1, v2], hA =>
    obtain ⟨h1, h2, _⟩ := hA
    rw [RepV.str h1, RepV.str h2]
    change strings_Cut a b = some z at hz
    unfold strings_Cut at hz
    split at hz
    · rename_i hc
      injection hz with hz
      subst hz
      obtain ⟨m, hm⟩ := hG
      refine (Tryd.strings_Cut ⟨a.toArray⟩ ⟨b.toArray⟩ m w hc hm).mono fun e w' hp => ?_
      obtain ⟨rfl, n, rfl⟩ := hp
      exact ⟨[_, _, _], rfl, (Ext.refl w).drewN n, vStr _, vStr _, vBool _, trivial⟩
    · cases hz
end Go.Proofs.YtbekhaioddmliaaDoor
