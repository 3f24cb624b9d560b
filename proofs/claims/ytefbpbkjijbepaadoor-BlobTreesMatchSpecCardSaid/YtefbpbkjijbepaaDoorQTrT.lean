/-
  DERIVED: THE SHELF's CONTRACTS AT THIS DUMP, IN PLAIN WORDS (tools/lay-plain.mjs out of 'TrydShelf.lean', which tools/lay-shelf.mjs wrote): THE SAME DECLARATIONS UNDER THE SAME NAMES: 'import', 'namespace', 'open', 'def', 'theorem' AND NOTHING ELSE: no command of the shelf's: FOR A HAND-IN. Each laying: the table of numbers ('.._ren') and one theorem, a field a fact of the dump's own or the kernel's comparison; each contract: ONE APPLICATION.
-/
import Derived.Shelf.Small.Bits
import Derived.Shelf.Small.Strs
import Derived.Shelf.Utf8.RuneCount
import Derived.Shelf.Strconv.Itoa0
import Derived.Shelf.Strings.Search1
import Derived.Shelf.Strings.Search2
import Derived.Shelf.Strings.Search3
import Derived.Shelf.Strings.Cut
import Derived.Shelf.Strings.Count
import Derived.Shelf.LaysM
import Derived.Shelf.Strings.Shaped
import Derived.Shelf.Strings.Split
import Derived.Shelf.Strings.SplitShaped
import Derived.Shelf.Unicode.Decode
import Derived.Shelf.Strings.RuneCount
import Derived.Shelf.Strings.Explode
import Derived.Shelf.Unicode.DecodeSlow
import Derived.Shelf.Unicode.DecodeAny
import Derived.Test.YtefbpbkjijbepaaDoorProg
import Derived.Test.YtefbpbkjijbepaaDoorQBmX
import Derived.Test.YtefbpbkjijbepaaDoorQAsc
import Derived.WalkSpells
import Derived.WalkLawsBesides
import Derived.Outline
import Derived.IntWalk
namespace Go.Proofs
open Go.Shelf
def Tryd.lays106_ren : Go.Shelf.Ren := ⟨fun | 106 => 13 | 213 => 27 | 265 => 52 | n => n, fun | 9 => 9 | 3 => 3 | n => n, fun | n => n⟩
theorem Tryd.lays106 : Go.Proofs.Lays.n106 Tryd.prog Tryd.lays106_ren := {
  mixed := by kernel_rfl
  f106 := Tryd.func13.trans (congrArg some (by kernel_rfl))
  f213 := Tryd.func27.trans (congrArg some (by kernel_rfl))
  f265 := Tryd.func52.trans (congrArg some (by kernel_rfl))
  t3 := Tryd.underlying3
  a3 := Tryd.isAgg3
  z3 := Tryd.sizeOf3
  v3 := Tryd.zeroValue3
  t9 := Tryd.underlying9
  a9 := Tryd.isAgg9
  z9 := Tryd.sizeOf9
  v9 := Tryd.zeroValue9 }
open Go.RowKit in
/-- strings.Compare: "Compare returns an integer comparing two strings lexicographically. The result will be 0 if a == b, -1 if a < b, and +1 if a > b.": IT RETURNS 'Lib.compareBytes a b'; the world is as it was. (LAID: no walk: one application.) -/
theorem Tryd.strings_Compare (a b : ByteArray) (w : World) :
    Calls Tryd.prog 13 #[.string a, .string b] w fun e w' => e = .returned (.int .i64 (Lib.compareBytes a.data.toList b.data.toList)) ∧ w' = w := Any.strings_Compare Tryd.lays106 a b w
def Tryd.lays137_ren : Go.Shelf.Ren := ⟨fun | 137 => 68 | 217 => 77 | 266 => 83 | n => n, fun | 9 => 9 | 5 => 5 | 3 => 3 | n => n, fun | n => n⟩
theorem Tryd.lays137 : Go.Proofs.Lays.n137 Tryd.prog Tryd.lays137_ren := {
  mixed := by kernel_rfl
  f137 := Tryd.func68.trans (congrArg some (by kernel_rfl))
  f217 := Tryd.func77.trans (congrArg some (by kernel_rfl))
  f266 := Tryd.func83.trans (congrArg some (by kernel_rfl))
  t3 := Tryd.underlying3
  a3 := Tryd.isAgg3
  z3 := Tryd.sizeOf3
  v3 := Tryd.zeroValue3
  t5 := Tryd.underlying5
  a5 := Tryd.isAgg5
  z5 := Tryd.sizeOf5
  v5 := Tryd.zeroValue5
  t9 := Tryd.underlying9
  a9 := Tryd.isAgg9
  z9 := Tryd.sizeOf9
  v9 := Tryd.zeroValue9 }
open Go.RowKit in
/-- strings.IndexByte: "IndexByte returns the index of the first instance of c in s, or -1 if c is not present in s.": IT RETURNS 'Lib.indexByte s c'; the world is as it was. (LAID: no walk: one application.) -/
theorem Tryd.strings_IndexByte (s : ByteArray) (c : Int) (w : World) :
    Calls Tryd.prog 68 #[.string s, .int .u8 c] w fun e w' => e = .returned (.int .i64 (Lib.indexByte s.data.toList c.toNat.toUInt8)) ∧ w' = w := Any.strings_IndexByte Tryd.lays137 s c w
def Tryd.lays145_ren : Go.Shelf.Ren := ⟨fun | 145 => 38 | 220 => 57 | 219 => 69 | 217 => 77 | 225 => 78 | 224 => 79 | 267 => 80 | 266 => 83 | 314 => 84 | n => n, fun | 9 => 9 | 4 => 4 | 59 => 73 | 3 => 3 | 5 => 5 | 46 => 62 | 146 => 111 | 51 => 88 | n => n, fun | 1 => 0 | n => n⟩
theorem Tryd.lays145 : Go.Proofs.Lays.n145 Tryd.prog Tryd.lays145_ren := {
  mixed := by kernel_rfl
  f145 := Tryd.func38.trans (congrArg some (by kernel_rfl))
  f217 := Tryd.func77.trans (congrArg some (by kernel_rfl))
  f219 := Tryd.func69.trans (congrArg some (by kernel_rfl))
  f220 := Tryd.func57.trans (congrArg some (by kernel_rfl))
  f224 := Tryd.func79.trans (congrArg some (by kernel_rfl))
  f225 := Tryd.func78.trans (congrArg some (by kernel_rfl))
  f266 := Tryd.func83.trans (congrArg some (by kernel_rfl))
  f267 := Tryd.func80.trans (congrArg some (by kernel_rfl))
  f314 := Tryd.func84.trans (congrArg some (by kernel_rfl))
  t3 := Tryd.underlying3
  a3 := Tryd.isAgg3
  z3 := Tryd.sizeOf3
  v3 := Tryd.zeroValue3
  t4 := Tryd.underlying4
  a4 := Tryd.isAgg4
  z4 := Tryd.sizeOf4
  v4 := Tryd.zeroValue4
  t5 := Tryd.underlying5
  a5 := Tryd.isAgg5
  z5 := Tryd.sizeOf5
  v5 := Tryd.zeroValue5
  t9 := Tryd.underlying9
  a9 := Tryd.isAgg9
  z9 := Tryd.sizeOf9
  v9 := Tryd.zeroValue9
  t46 := Tryd.underlying62
  a46 := Tryd.isAgg62
  z46 := Tryd.sizeOf62
  v46 := Tryd.zeroValue62
  t51 := Tryd.underlying88
  a51 := Tryd.isAgg88
  z51 := Tryd.sizeOf88
  v51 := Tryd.zeroValue88
  t59 := Tryd.underlying73
  a59 := Tryd.isAgg73
  z59 := Tryd.sizeOf73
  v59 := Tryd.zeroValue73
  t146 := Tryd.underlying111
  a146 := Tryd.isAgg111
  z146 := Tryd.sizeOf111
  v146 := Tryd.zeroValue111
  g1 := by kernel_rfl }
open Go.RowKit Go.Lib in
/-- strings.Cut: "Cut slices s around the first instance of sep, returning the text before and after sep. The found result reports whether sep appears in s. If sep does not appear in s, cut returns s, "", false.": IT RETURNS 'Lib.cut s sep'; the world is as it was but for the count of draws. (LAID: no walk: one application.) -/
theorem Tryd.strings_Cut (s sep : ByteArray) (m : Int) (w : World) (hs : s.size < 4294967281) (hm : w.cell? ⟨0, 0, none⟩ = some (.int .i64 m)) :
    Calls Tryd.prog 38 #[.string s, .string sep] w fun e w' => e = .returned (.tuple #[.string ⟨(Lib.cut s.data.toList sep.data.toList).1.toArray⟩, .string ⟨(Lib.cut s.data.toList sep.data.toList).2.1.toArray⟩, .bool (Lib.cut s.data.toList sep.data.toList).2.2]) ∧ ∃ n, w' = w.drewN n := Any.strings_Cut Tryd.lays145 s sep m w hs hm
def Tryd.laysM143_ren : Go.Shelf.Ren := ⟨fun | 143 => 67 | 219 => 69 | 217 => 77 | 225 => 78 | 224 => 79 | 267 => 80 | 266 => 83 | 314 => 84 | n => n, fun | 9 => 9 | 3 => 3 | 4 => 4 | 5 => 5 | 46 => 62 | 146 => 111 | 51 => 88 | n => n, fun | 1 => 0 | n => n⟩
theorem Tryd.laysM143 : Go.Proofs.LaysM.n143 Tryd.prog Tryd.laysM143_ren := {
  mixed := by kernel_rfl
  f143 := Tryd.func67.trans (congrArg some (by kernel_rfl))
  f217 := Tryd.func77.trans (congrArg some (by kernel_rfl))
  f219 := Tryd.func69.trans (congrArg some (by kernel_rfl))
  f224 := Tryd.func79.trans (congrArg some (by kernel_rfl))
  f225 := Tryd.func78.trans (congrArg some (by kernel_rfl))
  f266 := Tryd.func83.trans (congrArg some (by kernel_rfl))
  f267 := Tryd.func80.trans (congrArg some (by kernel_rfl))
  f314 := Tryd.func84.trans (congrArg some (by kernel_rfl))
  t3 := Tryd.underlying3
  a3 := Tryd.isAgg3
  z3 := Tryd.sizeOf3
  v3 := Tryd.zeroValue3
  t4 := Tryd.underlying4
  a4 := Tryd.isAgg4
  z4 := Tryd.sizeOf4
  v4 := Tryd.zeroValue4
  t5 := Tryd.underlying5
  a5 := Tryd.isAgg5
  z5 := Tryd.sizeOf5
  v5 := Tryd.zeroValue5
  t9 := Tryd.underlying9
  a9 := Tryd.isAgg9
  z9 := Tryd.sizeOf9
  v9 := Tryd.zeroValue9
  t46 := Tryd.underlying62
  a46 := Tryd.isAgg62
  z46 := Tryd.sizeOf62
  v46 := Tryd.zeroValue62
  t51 := Tryd.underlying88
  a51 := Tryd.isAgg88
  z51 := Tryd.sizeOf88
  v51 := Tryd.zeroValue88
  t146 := Tryd.underlying111
  a146 := Tryd.isAgg111
  z146 := Tryd.sizeOf111
  v146 := Tryd.zeroValue111
  g1 := by kernel_rfl
  i3 := by kernel_rfl
  i4 := by kernel_rfl
  i5 := by kernel_rfl
  i9 := by kernel_rfl
  i46 := by kernel_rfl
  i51 := by kernel_rfl
  i146 := by kernel_rfl
  m1 := by kernel_rfl
  s1_3 := fun w h => Go.Proofs.cell_of_shapedOpen_int (zero := #[.int .i64 0]) (t := 3) h (of_decide_eq_true (by kernel_rfl)) (by kernel_rfl) rfl (by kernel_rfl) (by kernel_rfl) Tryd.underlying3 }
def Tryd.lays146_ren : Go.Shelf.Ren := ⟨fun | 146 => 33 | 221 => 54 | 268 => 65 | 138 => 66 | 143 => 67 | 195 => 74 | 197 => 75 | 218 => 76 | 219 => 69 | 260 => 82 | 217 => 77 | 225 => 78 | 224 => 79 | 267 => 80 | 266 => 83 | 314 => 84 | n => n, fun | 9 => 9 | 31 => 64 | 3 => 3 | 4 => 4 | 0 => 0 | 105 => 108 | 21 => 21 | 5 => 5 | 46 => 62 | 119 => 113 | 139 => 116 | 138 => 115 | 146 => 111 | 51 => 88 | n => n, fun | 1 => 0 | 3 => 1 | 4 => 2 | n => n⟩
theorem Tryd.lays146 : Go.Proofs.Lays.n146 Tryd.prog Tryd.lays146_ren := {
  mixed := by kernel_rfl
  f138 := Tryd.func66.trans (congrArg some (by kernel_rfl))
  f143 := Tryd.func67.trans (congrArg some (by kernel_rfl))
  f146 := Tryd.func33.trans (congrArg some (by kernel_rfl))
  f195 := Tryd.func74.trans (congrArg some (by kernel_rfl))
  f197 := Tryd.func75.trans (congrArg some (by kernel_rfl))
  f217 := Tryd.func77.trans (congrArg some (by kernel_rfl))
  f218 := Tryd.func76.trans (congrArg some (by kernel_rfl))
  f219 := Tryd.func69.trans (congrArg some (by kernel_rfl))
  f221 := Tryd.func54.trans (congrArg some (by kernel_rfl))
  f224 := Tryd.func79.trans (congrArg some (by kernel_rfl))
  f225 := Tryd.func78.trans (congrArg some (by kernel_rfl))
  f260 := Tryd.func82.trans (congrArg some (by kernel_rfl))
  f266 := Tryd.func83.trans (congrArg some (by kernel_rfl))
  f267 := Tryd.func80.trans (congrArg some (by kernel_rfl))
  f268 := Tryd.func65.trans (congrArg some (by kernel_rfl))
  f314 := Tryd.func84.trans (congrArg some (by kernel_rfl))
  t0 := Tryd.underlying0
  a0 := Tryd.isAgg0
  z0 := Tryd.sizeOf0
  v0 := Tryd.zeroValue0
  t3 := Tryd.underlying3
  a3 := Tryd.isAgg3
  z3 := Tryd.sizeOf3
  v3 := Tryd.zeroValue3
  t4 := Tryd.underlying4
  a4 := Tryd.isAgg4
  z4 := Tryd.sizeOf4
  v4 := Tryd.zeroValue4
  t5 := Tryd.underlying5
  a5 := Tryd.isAgg5
  z5 := Tryd.sizeOf5
  v5 := Tryd.zeroValue5
  t9 := Tryd.underlying9
  a9 := Tryd.isAgg9
  z9 := Tryd.sizeOf9
  v9 := Tryd.zeroValue9
  t21 := Tryd.underlying21
  a21 := Tryd.isAgg21
  z21 := Tryd.sizeOf21
  v21 := Tryd.zeroValue21
  t31 := Tryd.underlying64
  a31 := Tryd.isAgg64
  z31 := Tryd.sizeOf64
  v31 := Tryd.zeroValue64
  t46 := Tryd.underlying62
  a46 := Tryd.isAgg62
  z46 := Tryd.sizeOf62
  v46 := Tryd.zeroValue62
  t51 := Tryd.underlying88
  a51 := Tryd.isAgg88
  z51 := Tryd.sizeOf88
  v51 := Tryd.zeroValue88
  t105 := Tryd.underlying108
  a105 := Tryd.isAgg108
  z105 := Tryd.sizeOf108
  v105 := Tryd.zeroValue108
  t119 := Tryd.underlying113
  a119 := Tryd.isAgg113
  z119 := Tryd.sizeOf113
  t138 := Tryd.underlying115
  a138 := Tryd.isAgg115
  z138 := Tryd.sizeOf115
  v138 := Tryd.zeroValue115
  t139 := Tryd.underlying116
  a139 := Tryd.isAgg116
  z139 := Tryd.sizeOf116
  v139 := Tryd.zeroValue116
  t146 := Tryd.underlying111
  a146 := Tryd.isAgg111
  z146 := Tryd.sizeOf111
  v146 := Tryd.zeroValue111
  g1 := by kernel_rfl
  g3 := by kernel_rfl
  g4 := by kernel_rfl }
open Go.RowKit Go.Lib in
/-- strings.Split. (LAID: no walk: one application.) -/
theorem Tryd.strings_Split (s sep : ByteArray) (m : Int) (w : World) (hs : s.size < 4294967281) (hm : w.cell? ⟨0, 0, none⟩ = some (.int .i64 m)) (h1 : 1 ≤ sep.size) :
    Calls Tryd.prog 33 #[.string s, .string sep] w fun e w' =>
      e = .returned (.slice (some ⟨w.heap.size, 0, none⟩) (Lib.countB s sep + 1) (Lib.countB s sep + 1)) ∧ w' = w.alloc (.cells ((Lib.splitB sep 0 (Lib.countB s sep) s).map Value.string).toArray 9) := Any.strings_Split Tryd.lays146 (by kernel_rfl) s sep m w hs hm h1
end Go.Proofs


/- How a contract of the kit is said of the machine. -/
namespace Go.Proofs.YtefbpbkjijbepaaDoor
set_option linter.unusedVariables false
set_option linter.unusedSimpArgs false
open Go Go.RowKit Go.Shelf
abbrev g0 : Gh := fun _ => none
theorem Sound.ofExt {P : Program} {G : World → Prop} {B0 : Nat} {f : FuncId} {ps rs : List Sl} {R : Type} [BothC R] {out : R → SV rs × BV []} {F : SV ps → BV [] → Option R}
    (hcall : ∀ (args : Array Value) (w : World), (callFunc f args).run P w = .ok (.enter f args) w)
    (h : ∀ (M : Nat → Nat → Prop) (w : World) (vs : List Value) (x : SV ps) (z : R), G w → (∀ b o, M b o → b < w.heap.size) → All2 (RepD0 M w g0) (lays id ps x) vs → F x () = some z →
      Calls P f vs.toArray w fun e w' => ∃ vs', e = .returned (rets vs') ∧ Ext w w' ∧ All2 (RepD0 M w' g0) (lays id rs (out z).1) vs') : Sound P G B0 f ⟨ps, [], rs, [], R, out, F⟩ := by
  refine ⟨hcall, fun M w g vs x y z hG hB hF hz => ?_⟩
  have hg : g = g0 := by
    funext r
    cases hr : g r with
    | none => rfl
    | some gx => exact absurd (hF.dom r gx hr) (Nat.not_lt_zero _)
  subst hg
  have hM : Mafter M g0 g0 = M := by
    funext b o
    refine propext ⟨fun h => ?_, fun h => .inl ⟨h, fun ⟨_, _, hx, _⟩ => by cases hx⟩⟩
    exact h.elim (fun h => h.1) fun ⟨_, _, hx, _⟩ => by cases hx
  refine (h M w vs x z hG hF.mlt hF.args hz).mono fun e w' hp => ?_
  obtain ⟨vs', he, hE, hA⟩ := hp
  refine ⟨vs', g0, he, ExtX.of_ext hE, ?_, ?_, fun _ _ h => (by cases h), fun b hb => .inl hb⟩
  · rw [hM]; exact Step.ext hE
  · rw [hM]
    exact { args := hA, res := fun r blk h => (by cases h), dom := fun r gx h => (by cases h), inj := fun _ _ _ _ _ h => (by cases h), low := fun _ _ _ h => (by cases h), chg := fun _ _ _ _ h => (by cases h), mlt := fun b o h => Nat.lt_of_lt_of_le (hF.mlt b o h) hE.size, row := fun _ _ _ h => (by cases h) }
section
variable {M : Nat → Nat → Prop} {w : World}
theorem RepV.str {x : Str} {v : Value} (h : RepV M w .str x v) : v = .string ⟨List.toArray x⟩ := by
  have := RepV.plain rfl h
  have := (show [v] = [.string ⟨List.toArray x⟩] from this)
  injection this
theorem RepV.u8 {x : UInt8} {v : Value} (h : RepV M w .u8 x v) : v = .int .u8 (UInt8.toNat x) := by
  have := RepV.plain rfl h
  have := (show [v] = [.int .u8 (UInt8.toNat x)] from this)
  injection this
theorem RepV.int {k : IntKind} {x : Int} {v : Value} (h : RepV M w (.int k) x v) : v = .int k x := by
  have := RepV.plain rfl h
  have := (show [v] = [.int k x] from this)
  injection this
theorem vInt (k : IntKind) (x : Int) : RepV M w (.int k) x (.int k x) := RepC.toV rfl rfl
end
end Go.Proofs.YtefbpbkjijbepaaDoor


/- More functions of Go's library, out of the kit's contracts. -/
namespace Go.Proofs.YtefbpbkjijbepaaDoor
set_option linter.unusedVariables false
set_option linter.unusedSimpArgs false
open Go Go.RowKit Go.Shelf
def strings_IndexByte (s : Str) (c : UInt8) : Option Int := some (Lib.indexByte s c)
theorem strings_IndexByte_sound : Sound Tryd.prog GW B0G 68 ⟨[.v .str, .v .u8], [], [.v (.int .i64)], [], Int, fun z => ((z, ()), ()), fun x _ => strings_IndexByte x.1 x.2.1⟩ := by
  refine Sound.ofExt Tryd.call68 fun M w vs x z hG hM hA hz => ?_
  obtain ⟨a, b, u⟩ := x
  match vs, hA with
  | [v1, v2], hA =>
    obtain ⟨h1, h2, _⟩ := hA
    rw [RepV.str h1, RepV.u8 h2]
    have e : Lib.indexByte a b = z := Option.some.inj hz
    subst e
    refine (Tryd.strings_IndexByte ⟨a.toArray⟩ (UInt8.toNat b) w).mono fun e w' hp => ?_
    obtain ⟨rfl, rfl⟩ := hp
    refine ⟨[_], rfl, Ext.refl _, ?_, trivial⟩
    have e2 : ((UInt8.toNat b : Nat) : Int).toNat.toUInt8 = b := by simp
    rw [e2]
    exact vInt .i64 _
def strings_Compare (a b : Str) : Option Int := some (Lib.compareBytes a b)
theorem strings_Compare_sound : Sound Tryd.prog GW B0G 13 ⟨[.v .str, .v .str], [], [.v (.int .i64)], [], Int, fun z => ((z, ()), ()), fun x _ => strings_Compare x.1 x.2.1⟩ := by
  refine Sound.ofExt Tryd.call13 fun M w vs x z hG hM hA hz => ?_
  obtain ⟨a, b, u⟩ := x
  match vs, hA with
  | [v1, v2], hA =>
    obtain ⟨h1, h2, _⟩ := hA
    rw [RepV.str h1, RepV.str h2]
    have e : Lib.compareBytes a b = z := Option.some.inj hz
    subst e
    refine (Tryd.strings_Compare ⟨a.toArray⟩ ⟨b.toArray⟩ w).mono fun e w' hp => ?_
    obtain ⟨rfl, rfl⟩ := hp
    exact ⟨[_], rfl, Ext.refl _, vInt .i64 _, trivial⟩
/-- A fresh row of strings is a slice of strings. -/
theorem vStrs {M : Nat → Nat → Prop} {w w' : World} (hM : ∀ b o, M b o → b < w.heap.size) (xs : List Str) (hl : xs.length ≤ maxLen) (e : TypeId)
    (hw : w' = w.alloc (.cells (xs.map fun x => Value.string ⟨x.toArray⟩).toArray e)) : RepV M w' (.sl .str) xs (.slice (some ⟨w.heap.size, 0, none⟩) xs.length xs.length) := by
  subst hw
  refine RepC.toV rfl ⟨some ⟨w.heap.size, 0, none⟩, xs.length, rfl, Nat.le_refl _, hl, fun i hi => ⟨⟨w.heap.size, 0, none⟩, [.string ⟨xs[i].toArray⟩], rfl, rfl, fun j u hu => ?_⟩⟩
  cases j with
  | succ j => simp at hu
  | zero =>
    simp only [List.getElem?_cons_zero, Option.some.injEq] at hu
    subst hu
    have e2 : (((⟨w.heap.size, 0, none⟩ : Addr).add (i * Ty.sz .str)).add 0) = ⟨w.heap.size, i, none⟩ := by
      show Addr.add (Addr.add _ (i * 1)) 0 = _
      rw [Nat.mul_one]
      unfold Addr.add; split <;> simp_all
    rw [e2, World.cell?_alloc_new]
    refine ⟨?_, fun hM' => ?_⟩
    · simp [hi]
    · exact absurd (hM _ _ hM') (Nat.lt_irrefl _)
/-- The parts of a string between separators. -/
def splitS (a b : Str) : List Str := (Lib.splitB ⟨b.toArray⟩ 0 (Lib.countB ⟨a.toArray⟩ ⟨b.toArray⟩) ⟨a.toArray⟩).map fun x => x.data.toList
def strings_Split (a b : Str) : Option (List Str) := if a.length < 4294967281 ∧ 1 ≤ b.length ∧ (splitS a b).length = Lib.countB ⟨a.toArray⟩ ⟨b.toArray⟩ + 1 ∧ (splitS a b).length ≤ 4294967296 then some (splitS a b) else none
theorem strings_Split_sound : Sound Tryd.prog GW B0G 33 ⟨[.v .str, .v .str], [], [.v (.sl .str)], [], List Str, fun z => ((z, ()), ()), fun x _ => strings_Split x.1 x.2.1⟩ := by
  refine Sound.ofExt Tryd.call33 fun M w vs x z hG hM hA hz => ?_
  obtain ⟨a, b, u⟩ := x
  match vs, hA with
  | [v1, v2], hA =>
    obtain ⟨h1, h2, _⟩ := hA
    rw [RepV.str h1, RepV.str h2]
    change strings_Split a b = some z at hz
    unfold strings_Split at hz
    split at hz
    · rename_i hc
      injection hz with hz
      subst hz
      obtain ⟨m, hm⟩ := hG.len
      refine (Tryd.strings_Split ⟨a.toArray⟩ ⟨b.toArray⟩ m w hc.1 hm hc.2.1).mono fun e w' hp => ?_
      obtain ⟨rfl, hw⟩ := hp
      have hmap : (Lib.splitB ⟨b.toArray⟩ 0 (Lib.countB ⟨a.toArray⟩ ⟨b.toArray⟩) ⟨a.toArray⟩).map Value.string = (splitS a b).map fun x => Value.string ⟨x.toArray⟩ := by
        unfold splitS
        rw [List.map_map]
        rfl
      rw [hmap] at hw
      rw [← hc.2.2.1]
      exact ⟨[_], rfl, hw ▸ (Ext.refl w).alloc _, vStrs hM _ (Nat.le_trans hc.2.2.2 (by decide)) _ hw, trivial⟩
    · cases hz
def strings_Cut (a b : Str) : Option (Str × Str × Bool) := if a.length < 4294967281 then some (Lib.cut a b) else none
end Go.Proofs.YtefbpbkjijbepaaDoor



/- strings.Contains, out of the kit's contract. -/
namespace Go.Proofs.YtefbpbkjijbepaaDoor
set_option linter.unusedVariables false
set_option linter.unusedSimpArgs false
open Go Go.RowKit Go.Shelf
end Go.Proofs.YtefbpbkjijbepaaDoor



/- How a contract of a function that turns a row of its caller's is said of the machine. -/
namespace Go.Proofs.YtefbpbkjijbepaaDoor
set_option linter.unusedVariables false
set_option linter.unusedSimpArgs false
open Go Go.RowKit Go.Shelf
/-- The elements of a row, and where they lie. -/
def Els (M : Nat → Nat → Prop) (w : World) (t : Ty) (xs : List t.den) (cs : List Value) : Prop := ∀ i (h : i < xs.length), RepC M w t xs[i] ((cs.drop (i * t.sz)).take t.sz)
theorem own_lt {w : World} {base : Nat} {e : TypeId} {sz : Nat} {v : Value} {n : Nat} {cs : List Value} (h : w.ownsRow base e sz v n cs) {b : Nat} (hb : v.ownBlock = some b) : b < w.heap.size := by
  rcases h.2 with ⟨e1, _⟩ | ⟨g, cap, cur, e1, _, hg, _⟩
  · rw [e1] at hb; cases hb
  · rw [e1] at hb
    simp only [Value.ownBlock, Option.some.injEq] at hb
    subst hb
    exact lt_of_map hg
theorem ExtX.mono {X Y : Nat → Prop} {w w' : World} (h : ExtX X w w') (hX : ∀ k, X k → Y k) : ExtX Y w w' := ⟨h.os, h.tape, h.output, h.size, fun k hk hy => h.block k hk fun hx => hy (hX k hx)⟩
end Go.Proofs.YtefbpbkjijbepaaDoor


/- slices.Grow of the nil slice, as a meaning: an own row without elements. -/
namespace Go.Proofs.YtefbpbkjijbepaaDoor
set_option linter.unusedVariables false
set_option linter.unusedSimpArgs false
open Go Go.RowKit Go.Shelf
end Go.Proofs.YtefbpbkjijbepaaDoor


/- The types that the printed functions use, as the program has them. -/
namespace Go.Proofs.YtefbpbkjijbepaaDoor
open Go Go.RowKit
set_option maxRecDepth 100000
abbrev strings_Split_sg (f : SV [.v .str, .v .str] → BV [] → Option (List Str)) : AF := { ps := [.v .str, .v .str], bs := [], rs := [.v (.sl .str)], cs := [], R := List Str, out := fun z => ((z, ()), ()), f := f }
abbrev strings_IndexByte_sg (f : SV [.v .str, .v .u8] → BV [] → Option (Int)) : AF := { ps := [.v .str, .v .u8], bs := [], rs := [.v (.int .i64)], cs := [], R := Int, out := fun z => ((z, ()), ()), f := f }
abbrev strings_Compare_sg (f : SV [.v .str, .v .str] → BV [] → Option (Int)) : AF := { ps := [.v .str, .v .str], bs := [], rs := [.v (.int .i64)], cs := [], R := Int, out := fun z => ((z, ()), ()), f := f }
abbrev blob_nodes_sg (f : SV [.v (.sl (.pr .str (.pr .bool (.sl .u8))))] → BV [] → Option (List (Str × (Option (Str × Bool × List UInt8)) × List (Str × Bool × List UInt8)))) : AF := { ps := [.v (.sl (.pr .str (.pr .bool (.sl .u8))))], bs := [], rs := [.v (.sl (.pr .str (.pr (.np (.pr .str (.pr .bool (.sl .u8)))) (.sl (.pr .str (.pr .bool (.sl .u8)))))))], cs := [], R := List (Str × (Option (Str × Bool × List UInt8)) × List (Str × Bool × List UInt8)), out := fun z => ((z, ()), ()), f := f }
abbrev slices_SortFunc_object_sg (f : SV [.row 0, .v (.clo 12 .un)] → BV [.row 38 (.pr .str (.sl .u8)) true] → Option (List (Str × List UInt8))) : AF := { ps := [.row 0, .v (.clo 12 .un)], bs := [.row 38 (.pr .str (.sl .u8)) true], rs := [], cs := [.row 38 (.pr .str (.sl .u8)) true, .none], R := List (Str × List UInt8), out := fun z => ((), (z, (), ())), f := f }
abbrev ref1_names_sg (f : SV [.v (.sl (.pr .str (.pr .bool (.sl .u8))))] → BV [] → Option (List Str × List Int)) : AF := { ps := [.v (.sl (.pr .str (.pr .bool (.sl .u8))))], bs := [], rs := [.v (.sl .str), .v (.sl (.int .i64))], cs := [], R := List Str × List Int, out := fun z => ((z.1, z.2, ()), ()), f := f }
theorem tyOk_int : TyOk Tryd.prog 3 (.int .i64) := ⟨_, by kernel_rfl, Tryd.underlying3, rfl⟩
theorem tyOk_bool : TyOk Tryd.prog 4 .bool := ⟨_, by kernel_rfl, Tryd.underlying4, rfl⟩
theorem tyOk_uint8 : TyOk Tryd.prog 5 .u8 := ⟨_, by kernel_rfl, Tryd.underlying5, rfl⟩
theorem tyOk_string : TyOk Tryd.prog 9 .str := ⟨_, by kernel_rfl, Tryd.underlying9, rfl⟩
theorem tyOk_ABapiDFile : TyOk Tryd.prog 22 (.sl (.pr .str (.pr .bool (.sl .u8)))) := ⟨_, by kernel_rfl, Tryd.underlying22, rfl⟩
theorem tyOk_ABapiDObject : TyOk Tryd.prog 23 (.sl (.pr .str (.sl .u8))) := ⟨_, by kernel_rfl, Tryd.underlying23, rfl⟩
theorem tyOk_mapAstringBABuint8 : TyOk Tryd.prog 32 (.mp (.sl .u8)) := ⟨_, by kernel_rfl, Tryd.underlying32, rfl⟩
theorem tyOk_smithyardSblobDwriter : TyOk Tryd.prog 34 (.pr (.mp (.sl .u8)) .un) := ⟨_, by kernel_rfl, Tryd.underlying34, rfl⟩
theorem tyOk_ABuint8 : TyOk Tryd.prog 36 (.sl .u8) := ⟨_, by kernel_rfl, Tryd.underlying36, rfl⟩
theorem tyOk_smithyardSapiDObject : TyOk Tryd.prog 38 (.pr .str (.sl .u8)) := ⟨_, by kernel_rfl, Tryd.underlying38, rfl⟩
theorem tyOk_smithyardSsmithyardref1Dwriter : TyOk Tryd.prog 44 (.pr (.sl (.pr .str (.sl .u8))) .un) := ⟨_, by kernel_rfl, Tryd.underlying44, rfl⟩
theorem tyOk_mapAstringBbool : TyOk Tryd.prog 46 (.mp .bool) := ⟨_, by kernel_rfl, Tryd.underlying46, rfl⟩
theorem tyOk_smithyardSapiDFile : TyOk Tryd.prog 48 (.pr .str (.pr .bool (.sl .u8))) := ⟨_, by kernel_rfl, Tryd.underlying48, rfl⟩
theorem tyOk_ABblobDnode : TyOk Tryd.prog 54 (.sl (.pr .str (.pr (.np (.pr .str (.pr .bool (.sl .u8)))) (.sl (.pr .str (.pr .bool (.sl .u8))))))) := ⟨_, by kernel_rfl, Tryd.underlying54, rfl⟩
theorem tyOk_PapiDFile : TyOk Tryd.prog 57 (.np (.pr .str (.pr .bool (.sl .u8)))) := ⟨_, by kernel_rfl, Tryd.underlying57, rfl⟩
theorem tyOk_smithyardSblobDnode : TyOk Tryd.prog 59 (.pr .str (.pr (.np (.pr .str (.pr .bool (.sl .u8)))) (.sl (.pr .str (.pr .bool (.sl .u8)))))) := ⟨_, by kernel_rfl, Tryd.underlying59, rfl⟩
theorem tyOk_uint : TyOk Tryd.prog 62 (.int .u64) := ⟨_, by kernel_rfl, Tryd.underlying62, rfl⟩
theorem tyOk_ABstring : TyOk Tryd.prog 64 (.sl .str) := ⟨_, by kernel_rfl, Tryd.underlying64, rfl⟩
theorem tyOk_uint64 : TyOk Tryd.prog 72 (.int .u64) := ⟨_, by kernel_rfl, Tryd.underlying72, rfl⟩
def tyT : TypeId → Option Ty := fun T =>
  match T with
  | 3 => some (.int .i64)
  | 4 => some .bool
  | 5 => some .u8
  | 9 => some .str
  | 22 => some (.sl (.pr .str (.pr .bool (.sl .u8))))
  | 23 => some (.sl (.pr .str (.sl .u8)))
  | 32 => some (.mp (.sl .u8))
  | 34 => some (.pr (.mp (.sl .u8)) .un)
  | 36 => some (.sl .u8)
  | 38 => some (.pr .str (.sl .u8))
  | 44 => some (.pr (.sl (.pr .str (.sl .u8))) .un)
  | 46 => some (.mp .bool)
  | 48 => some (.pr .str (.pr .bool (.sl .u8)))
  | 54 => some (.sl (.pr .str (.pr (.np (.pr .str (.pr .bool (.sl .u8)))) (.sl (.pr .str (.pr .bool (.sl .u8)))))))
  | 57 => some (.np (.pr .str (.pr .bool (.sl .u8))))
  | 59 => some (.pr .str (.pr (.np (.pr .str (.pr .bool (.sl .u8)))) (.sl (.pr .str (.pr .bool (.sl .u8))))))
  | 62 => some (.int .u64)
  | 64 => some (.sl .str)
  | 72 => some (.int .u64)
  | _ => none
theorem tyT_ok : ∀ T t, tyT T = some t → TyOk Tryd.prog T t := by
  intro T t h
  unfold tyT at h
  split at h
  · cases h; exact tyOk_int
  · cases h; exact tyOk_bool
  · cases h; exact tyOk_uint8
  · cases h; exact tyOk_string
  · cases h; exact tyOk_ABapiDFile
  · cases h; exact tyOk_ABapiDObject
  · cases h; exact tyOk_mapAstringBABuint8
  · cases h; exact tyOk_smithyardSblobDwriter
  · cases h; exact tyOk_ABuint8
  · cases h; exact tyOk_smithyardSapiDObject
  · cases h; exact tyOk_smithyardSsmithyardref1Dwriter
  · cases h; exact tyOk_mapAstringBbool
  · cases h; exact tyOk_smithyardSapiDFile
  · cases h; exact tyOk_ABblobDnode
  · cases h; exact tyOk_PapiDFile
  · cases h; exact tyOk_smithyardSblobDnode
  · cases h; exact tyOk_uint
  · cases h; exact tyOk_ABstring
  · cases h; exact tyOk_uint64
  · cases h
def elT : TypeId → Option (TypeId × Ty) := fun T =>
  match T with
  | 22 => some (48, (.pr .str (.pr .bool (.sl .u8))))
  | 23 => some (38, (.pr .str (.sl .u8)))
  | 36 => some (5, .u8)
  | 54 => some (59, (.pr .str (.pr (.np (.pr .str (.pr .bool (.sl .u8)))) (.sl (.pr .str (.pr .bool (.sl .u8)))))))
  | 64 => some (9, .str)
  | _ => none
theorem elT_ok : ∀ T e t, elT T = some (e, t) → ElOk Tryd.prog T e t := by
  intro T e t h
  unfold elT at h
  split at h
  · cases h; exact ⟨tyOk_smithyardSapiDFile, 48, ElemT.mk_ Tryd.underlying22 (z := mkV (.pr .str (.pr .bool (.sl .u8))) (zeroC (.pr .str (.pr .bool (.sl .u8))))) (by kernel_rfl) rfl (by decide) (by decide), by decide⟩
  · cases h; exact ⟨tyOk_smithyardSapiDObject, 40, ElemT.mk_ Tryd.underlying23 (z := mkV (.pr .str (.sl .u8)) (zeroC (.pr .str (.sl .u8)))) (by kernel_rfl) rfl (by decide) (by decide), by decide⟩
  · cases h; exact ⟨tyOk_uint8, 1, ElemT.mk_ Tryd.underlying36 (z := mkV .u8 (zeroC .u8)) (by kernel_rfl) rfl (by decide) (by decide), by decide⟩
  · cases h; exact ⟨tyOk_smithyardSblobDnode, 48, ElemT.mk_ Tryd.underlying54 (z := mkV (.pr .str (.pr (.np (.pr .str (.pr .bool (.sl .u8)))) (.sl (.pr .str (.pr .bool (.sl .u8)))))) (zeroC (.pr .str (.pr (.np (.pr .str (.pr .bool (.sl .u8)))) (.sl (.pr .str (.pr .bool (.sl .u8)))))))) (by kernel_rfl) rfl (by decide) (by decide), by decide⟩
  · cases h; exact ⟨tyOk_string, 16, ElemT.mk_ Tryd.underlying64 (z := mkV .str (zeroC .str)) (by kernel_rfl) rfl (by decide) (by decide), by decide⟩
  · cases h
def fldT : TypeId → Nat → Option (Nat × Ty) := fun T f =>
  match T, f with
  | 34, 0 => some (0, (.mp (.sl .u8)))
  | 38, 0 => some (0, .str)
  | 38, 1 => some (1, (.sl .u8))
  | 44, 0 => some (0, (.sl (.pr .str (.sl .u8))))
  | 48, 0 => some (0, .str)
  | 48, 1 => some (1, .bool)
  | 48, 2 => some (2, (.sl .u8))
  | 59, 0 => some (0, .str)
  | 59, 1 => some (1, (.np (.pr .str (.pr .bool (.sl .u8)))))
  | 59, 2 => some (2, (.sl (.pr .str (.pr .bool (.sl .u8)))))
  | _, _ => none
theorem fldT_ok : ∀ T f off t, fldT T f = some (off, t) → FldOk Tryd.prog T f off t := by
  intro T f off t h
  unfold fldT at h
  split at h
  · cases h; exact ⟨_, _, Tryd.underlying34, rfl, rfl, tyOk_mapAstringBABuint8, by decide⟩
  · cases h; exact ⟨_, _, Tryd.underlying38, rfl, rfl, tyOk_string, by decide⟩
  · cases h; exact ⟨_, _, Tryd.underlying38, rfl, rfl, tyOk_ABuint8, by decide⟩
  · cases h; exact ⟨_, _, Tryd.underlying44, rfl, rfl, tyOk_ABapiDObject, by decide⟩
  · cases h; exact ⟨_, _, Tryd.underlying48, rfl, rfl, tyOk_string, by decide⟩
  · cases h; exact ⟨_, _, Tryd.underlying48, rfl, rfl, tyOk_bool, by decide⟩
  · cases h; exact ⟨_, _, Tryd.underlying48, rfl, rfl, tyOk_ABuint8, by decide⟩
  · cases h; exact ⟨_, _, Tryd.underlying59, rfl, rfl, tyOk_string, by decide⟩
  · cases h; exact ⟨_, _, Tryd.underlying59, rfl, rfl, tyOk_PapiDFile, by decide⟩
  · cases h; exact ⟨_, _, Tryd.underlying59, rfl, rfl, tyOk_ABapiDFile, by decide⟩
  · cases h
theorem mpT_ok : ∀ T e, tyT T = some (.mp e) → MpOk Tryd.prog T e := by
  intro T e h
  unfold tyT at h
  split at h
  · cases h
  · cases h
  · cases h
  · cases h
  · cases h
  · cases h
  · cases h; exact ⟨_, _, Tryd.underlying32, Tryd.underlying9, tyOk_ABuint8⟩
  · cases h
  · cases h
  · cases h
  · cases h
  · cases h; exact ⟨_, _, Tryd.underlying46, Tryd.underlying9, tyOk_bool⟩
  · cases h
  · cases h
  · cases h
  · cases h
  · cases h
  · cases h
  · cases h
  · cases h
theorem bldT_ok : ∀ T t, tyT T = some t → t.isAgg = true → ∃ fs places, Tryd.prog.underlying T = some (.struct fs) ∧ fs.toList.mapM (fun f => (Tryd.prog.info? f.type).map fun i => (f.offset, i.size)) = some places := by
  intro T t h ha
  unfold tyT at h
  split at h
  · cases h; cases ha
  · cases h; cases ha
  · cases h; cases ha
  · cases h; cases ha
  · cases h; cases ha
  · cases h; cases ha
  · cases h; cases ha
  · exact ⟨_, [(0, 1)], Tryd.underlying34, by kernel_rfl⟩
  · cases h; cases ha
  · exact ⟨_, [(0, 1), (1, 1)], Tryd.underlying38, by kernel_rfl⟩
  · exact ⟨_, [(0, 1)], Tryd.underlying44, by kernel_rfl⟩
  · cases h; cases ha
  · exact ⟨_, [(0, 1), (1, 1), (2, 1)], Tryd.underlying48, by kernel_rfl⟩
  · cases h; cases ha
  · cases h; cases ha
  · exact ⟨_, [(0, 1), (1, 1), (2, 1)], Tryd.underlying59, by kernel_rfl⟩
  · cases h; cases ha
  · cases h; cases ha
  · cases h; cases ha
  · cases h
theorem ptT_ok : ∀ T t, tyT T = some t → isPtr t = true → (Tryd.prog.info? (Tryd.prog.pointee T)).isSome = true := by
  intro T t h ha
  unfold tyT at h
  split at h
  · cases h; cases ha
  · cases h; cases ha
  · cases h; cases ha
  · cases h; cases ha
  · cases h; cases ha
  · cases h; cases ha
  · cases h; cases ha
  · cases h; cases ha
  · cases h; cases ha
  · cases h; cases ha
  · cases h; cases ha
  · cases h; cases ha
  · cases h; cases ha
  · cases h; cases ha
  · kernel_rfl
  · cases h; cases ha
  · cases h; cases ha
  · cases h; cases ha
  · cases h; cases ha
  · cases h
def cmpT : TypeId → Option Ty := fun T =>
  match T with
  | _ => none
theorem cmpT_ok : ∀ T t, cmpT T = some t → CmpOk Tryd.prog T t := by
  intro T t h
  unfold cmpT at h
  split at h
  · cases h
def bysT : TypeId → Option TypeId := fun T =>
  match T with
  | 36 => some 5
  | _ => none
theorem bysT_ok : ∀ T e, bysT T = some e → ∃ i, Tryd.prog.underlying T = some (.slice e) ∧ Tryd.prog.info? e = some i ∧ i.zero = some (.int .u8 0) ∧ i.size = 1 ∧ i.bytes = 1 := by
  intro T e h
  unfold bysT at h
  split at h
  · cases h; obtain ⟨i, a, b, c, d⟩ := info_parts (by kernel_rfl : (Tryd.prog.info? 5).map (fun i => (i.zero, i.size, i.bytes)) = some (some (.int .u8 0), 1, 1)); exact ⟨i, Tryd.underlying36, a, b, c, d⟩
  · cases h
def mkE (h : Nat → Hint) (fn : FuncId → Option Tmp → Option AF) (exq : Nat → Bool) (live : FuncId → Bool) : Env := { ty := tyT, el := elT, fld := fldT, cmp := cmpT, fn := fn, hint := h, exq := exq, live := live, raw := true, bys := bysT }
theorem mkE_ok (hh : Nat → Hint) (fn : FuncId → Option Tmp → Option AF) (exq : Nat → Bool) (live : FuncId → Bool) (h : ∀ f q F, fn f q = some F → Sound Tryd.prog GW B0G f F) : EnvOk Tryd.prog GW B0G (mkE hh fn exq live) :=
  { ty := tyT_ok, el := elT_ok, fld := fldT_ok, mp := mpT_ok, bld := bldT_ok, ptr := ptT_ok, cmp := cmpT_ok, fn := h, stable := GW_stable, mixed := by kernel_rfl, bys := bysT_ok }
end Go.Proofs.YtefbpbkjijbepaaDoor

