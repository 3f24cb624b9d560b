/-
  DERIVED: THE SHELF's CONTRACTS AT THIS DUMP, IN PLAIN WORDS (tools/lay-plain.mjs out of 'TrydShelf.lean', which tools/lay-shelf.mjs wrote): THE SAME DECLARATIONS UNDER THE SAME NAMES: 'import', 'namespace', 'open', 'def', 'theorem' AND NOTHING ELSE: no command of the shelf's: FOR A HAND-IN. Each laying: the table of numbers ('.._ren') and one theorem, a field a fact of the dump's own or the kernel's comparison; each contract: ONE APPLICATION.
-/
import Derived.Shelf.Small.Bits
import Derived.Shelf.Small.Strs
import Derived.Shelf.Utf8.RuneCount
import Derived.Shelf.Strconv.Itoa0
import Derived.Shelf.Strings.Search1
import Derived.Shelf.Strings.Search2
import Derived.Shelf.Strings.Search3
import Derived.Shelf.Strings.Cut
import Derived.Shelf.Strings.Count
import Derived.Shelf.LaysM
import Derived.Shelf.Strings.Shaped
import Derived.Shelf.Strings.Split
import Derived.Shelf.Strings.SplitShaped
import Derived.Shelf.Unicode.Decode
import Derived.Shelf.Strings.RuneCount
import Derived.Shelf.Strings.Explode
import Derived.Shelf.Unicode.DecodeSlow
import Derived.Shelf.Unicode.DecodeAny
import Derived.Shelf.Slices.Equal
import Derived.Ground.SlgmProg
import Derived.Shelf.SortM.Plain
import Derived.Shelf.SortM.SortNone
import Derived.Test.YthlkidohpiebiaaDoorProg
import Derived.Test.YthlkidohpiebiaaDoorQBmX
import Derived.Test.YthlkidohpiebiaaDoorQSlc
import Derived.WalkSpells
import Derived.WalkLawsBesides
import Derived.Outline
import Derived.IntWalk
namespace Go.Proofs
open Go.Shelf
def Tryd.lays106_ren : Go.Shelf.Ren := ⟨fun | 106 => 79 | 213 => 110 | 265 => 139 | n => n, fun | 9 => 9 | 3 => 3 | n => n, fun | n => n⟩
theorem Tryd.lays106 : Go.Proofs.Lays.n106 Tryd.prog Tryd.lays106_ren := {
  mixed := by kernel_rfl
  f106 := Tryd.func79.trans (congrArg some (by kernel_rfl))
  f213 := Tryd.func110.trans (congrArg some (by kernel_rfl))
  f265 := Tryd.func139.trans (congrArg some (by kernel_rfl))
  t3 := Tryd.underlying3
  a3 := Tryd.isAgg3
  z3 := Tryd.sizeOf3
  v3 := Tryd.zeroValue3
  t9 := Tryd.underlying9
  a9 := Tryd.isAgg9
  z9 := Tryd.sizeOf9
  v9 := Tryd.zeroValue9 }
open Go.RowKit in
/-- strings.Compare: "Compare returns an integer comparing two strings lexicographically. The result will be 0 if a == b, -1 if a < b, and +1 if a > b.": IT RETURNS 'Lib.compareBytes a b'; the world is as it was. (LAID: no walk: one application.) -/
theorem Tryd.strings_Compare (a b : ByteArray) (w : World) :
    Calls Tryd.prog 79 #[.string a, .string b] w fun e w' => e = .returned (.int .i64 (Lib.compareBytes a.data.toList b.data.toList)) ∧ w' = w := Any.strings_Compare Tryd.lays106 a b w
def Tryd.lays137_ren : Go.Shelf.Ren := ⟨fun | 137 => 90 | 217 => 122 | 266 => 146 | n => n, fun | 9 => 9 | 5 => 5 | 3 => 3 | n => n, fun | n => n⟩
theorem Tryd.lays137 : Go.Proofs.Lays.n137 Tryd.prog Tryd.lays137_ren := {
  mixed := by kernel_rfl
  f137 := Tryd.func90.trans (congrArg some (by kernel_rfl))
  f217 := Tryd.func122.trans (congrArg some (by kernel_rfl))
  f266 := Tryd.func146.trans (congrArg some (by kernel_rfl))
  t3 := Tryd.underlying3
  a3 := Tryd.isAgg3
  z3 := Tryd.sizeOf3
  v3 := Tryd.zeroValue3
  t5 := Tryd.underlying5
  a5 := Tryd.isAgg5
  z5 := Tryd.sizeOf5
  v5 := Tryd.zeroValue5
  t9 := Tryd.underlying9
  a9 := Tryd.isAgg9
  z9 := Tryd.sizeOf9
  v9 := Tryd.zeroValue9 }
open Go.RowKit in
/-- strings.IndexByte: "IndexByte returns the index of the first instance of c in s, or -1 if c is not present in s.": IT RETURNS 'Lib.indexByte s c'; the world is as it was. (LAID: no walk: one application.) -/
theorem Tryd.strings_IndexByte (s : ByteArray) (c : Int) (w : World) :
    Calls Tryd.prog 90 #[.string s, .int .u8 c] w fun e w' => e = .returned (.int .i64 (Lib.indexByte s.data.toList c.toNat.toUInt8)) ∧ w' = w := Any.strings_IndexByte Tryd.lays137 s c w
def Tryd.laysM143_ren : Go.Shelf.Ren := ⟨fun | 143 => 89 | 219 => 121 | 217 => 122 | 225 => 143 | 224 => 144 | 267 => 145 | 266 => 146 | 314 => 172 | n => n, fun | 9 => 9 | 3 => 3 | 4 => 4 | 5 => 5 | 46 => 113 | 146 => 179 | 51 => 156 | n => n, fun | 1 => 0 | n => n⟩
theorem Tryd.laysM143 : Go.Proofs.LaysM.n143 Tryd.prog Tryd.laysM143_ren := {
  mixed := by kernel_rfl
  f143 := Tryd.func89.trans (congrArg some (by kernel_rfl))
  f217 := Tryd.func122.trans (congrArg some (by kernel_rfl))
  f219 := Tryd.func121.trans (congrArg some (by kernel_rfl))
  f224 := Tryd.func144.trans (congrArg some (by kernel_rfl))
  f225 := Tryd.func143.trans (congrArg some (by kernel_rfl))
  f266 := Tryd.func146.trans (congrArg some (by kernel_rfl))
  f267 := Tryd.func145.trans (congrArg some (by kernel_rfl))
  f314 := Tryd.func172.trans (congrArg some (by kernel_rfl))
  t3 := Tryd.underlying3
  a3 := Tryd.isAgg3
  z3 := Tryd.sizeOf3
  v3 := Tryd.zeroValue3
  t4 := Tryd.underlying4
  a4 := Tryd.isAgg4
  z4 := Tryd.sizeOf4
  v4 := Tryd.zeroValue4
  t5 := Tryd.underlying5
  a5 := Tryd.isAgg5
  z5 := Tryd.sizeOf5
  v5 := Tryd.zeroValue5
  t9 := Tryd.underlying9
  a9 := Tryd.isAgg9
  z9 := Tryd.sizeOf9
  v9 := Tryd.zeroValue9
  t46 := Tryd.underlying113
  a46 := Tryd.isAgg113
  z46 := Tryd.sizeOf113
  v46 := Tryd.zeroValue113
  t51 := Tryd.underlying156
  a51 := Tryd.isAgg156
  z51 := Tryd.sizeOf156
  v51 := Tryd.zeroValue156
  t146 := Tryd.underlying179
  a146 := Tryd.isAgg179
  z146 := Tryd.sizeOf179
  v146 := Tryd.zeroValue179
  g1 := by kernel_rfl
  i3 := by kernel_rfl
  i4 := by kernel_rfl
  i5 := by kernel_rfl
  i9 := by kernel_rfl
  i46 := by kernel_rfl
  i51 := by kernel_rfl
  i146 := by kernel_rfl
  m1 := by kernel_rfl
  s1_3 := fun w h => Go.Proofs.cell_of_shapedOpen_int (zero := #[.int .i64 0]) (t := 3) h (of_decide_eq_true (by kernel_rfl)) (by kernel_rfl) rfl (by kernel_rfl) (by kernel_rfl) Tryd.underlying3 }
def Tryd.lays146_ren : Go.Shelf.Ren := ⟨fun | 146 => 42 | 221 => 88 | 268 => 119 | 138 => 120 | 143 => 89 | 195 => 140 | 197 => 141 | 218 => 142 | 219 => 121 | 260 => 171 | 217 => 122 | 225 => 143 | 224 => 144 | 267 => 145 | 266 => 146 | 314 => 172 | n => n, fun | 9 => 9 | 31 => 29 | 3 => 3 | 4 => 4 | 0 => 0 | 105 => 159 | 21 => 21 | 5 => 5 | 46 => 113 | 119 => 190 | 139 => 193 | 138 => 192 | 146 => 179 | 51 => 156 | n => n, fun | 1 => 0 | 3 => 1 | 4 => 2 | n => n⟩
theorem Tryd.lays146 : Go.Proofs.Lays.n146 Tryd.prog Tryd.lays146_ren := {
  mixed := by kernel_rfl
  f138 := Tryd.func120.trans (congrArg some (by kernel_rfl))
  f143 := Tryd.func89.trans (congrArg some (by kernel_rfl))
  f146 := Tryd.func42.trans (congrArg some (by kernel_rfl))
  f195 := Tryd.func140.trans (congrArg some (by kernel_rfl))
  f197 := Tryd.func141.trans (congrArg some (by kernel_rfl))
  f217 := Tryd.func122.trans (congrArg some (by kernel_rfl))
  f218 := Tryd.func142.trans (congrArg some (by kernel_rfl))
  f219 := Tryd.func121.trans (congrArg some (by kernel_rfl))
  f221 := Tryd.func88.trans (congrArg some (by kernel_rfl))
  f224 := Tryd.func144.trans (congrArg some (by kernel_rfl))
  f225 := Tryd.func143.trans (congrArg some (by kernel_rfl))
  f260 := Tryd.func171.trans (congrArg some (by kernel_rfl))
  f266 := Tryd.func146.trans (congrArg some (by kernel_rfl))
  f267 := Tryd.func145.trans (congrArg some (by kernel_rfl))
  f268 := Tryd.func119.trans (congrArg some (by kernel_rfl))
  f314 := Tryd.func172.trans (congrArg some (by kernel_rfl))
  t0 := Tryd.underlying0
  a0 := Tryd.isAgg0
  z0 := Tryd.sizeOf0
  v0 := Tryd.zeroValue0
  t3 := Tryd.underlying3
  a3 := Tryd.isAgg3
  z3 := Tryd.sizeOf3
  v3 := Tryd.zeroValue3
  t4 := Tryd.underlying4
  a4 := Tryd.isAgg4
  z4 := Tryd.sizeOf4
  v4 := Tryd.zeroValue4
  t5 := Tryd.underlying5
  a5 := Tryd.isAgg5
  z5 := Tryd.sizeOf5
  v5 := Tryd.zeroValue5
  t9 := Tryd.underlying9
  a9 := Tryd.isAgg9
  z9 := Tryd.sizeOf9
  v9 := Tryd.zeroValue9
  t21 := Tryd.underlying21
  a21 := Tryd.isAgg21
  z21 := Tryd.sizeOf21
  v21 := Tryd.zeroValue21
  t31 := Tryd.underlying29
  a31 := Tryd.isAgg29
  z31 := Tryd.sizeOf29
  v31 := Tryd.zeroValue29
  t46 := Tryd.underlying113
  a46 := Tryd.isAgg113
  z46 := Tryd.sizeOf113
  v46 := Tryd.zeroValue113
  t51 := Tryd.underlying156
  a51 := Tryd.isAgg156
  z51 := Tryd.sizeOf156
  v51 := Tryd.zeroValue156
  t105 := Tryd.underlying159
  a105 := Tryd.isAgg159
  z105 := Tryd.sizeOf159
  v105 := Tryd.zeroValue159
  t119 := Tryd.underlying190
  a119 := Tryd.isAgg190
  z119 := Tryd.sizeOf190
  t138 := Tryd.underlying192
  a138 := Tryd.isAgg192
  z138 := Tryd.sizeOf192
  v138 := Tryd.zeroValue192
  t139 := Tryd.underlying193
  a139 := Tryd.isAgg193
  z139 := Tryd.sizeOf193
  v139 := Tryd.zeroValue193
  t146 := Tryd.underlying179
  a146 := Tryd.isAgg179
  z146 := Tryd.sizeOf179
  v146 := Tryd.zeroValue179
  g1 := by kernel_rfl
  g3 := by kernel_rfl
  g4 := by kernel_rfl }
open Go.RowKit Go.Lib in
/-- strings.Split. (LAID: no walk: one application.) -/
theorem Tryd.strings_Split (s sep : ByteArray) (m : Int) (w : World) (hs : s.size < 4294967281) (hm : w.cell? ⟨0, 0, none⟩ = some (.int .i64 m)) (h1 : 1 ≤ sep.size) :
    Calls Tryd.prog 42 #[.string s, .string sep] w fun e w' =>
      e = .returned (.slice (some ⟨w.heap.size, 0, none⟩) (Lib.countB s sep + 1) (Lib.countB s sep + 1)) ∧ w' = w.alloc (.cells ((Lib.splitB sep 0 (Lib.countB s sep) s).map Value.string).toArray 9) := Any.strings_Split Tryd.lays146 (by kernel_rfl) s sep m w hs hm h1
end Go.Proofs


/- How a contract of the kit is said of the machine. -/
namespace Go.Proofs.YthlkidohpiebiaaDoor
set_option linter.unusedVariables false
set_option linter.unusedSimpArgs false
open Go Go.RowKit Go.Shelf
abbrev g0 : Gh := fun _ => none
theorem Sound.ofExt {P : Program} {G : World → Prop} {B0 : Nat} {f : FuncId} {ps rs : List Sl} {R : Type} {out : R → SV rs × BV []} {F : SV ps → BV [] → Option R}
    (hcall : ∀ (args : Array Value) (w : World), (callFunc f args).run P w = .ok (.enter f args) w)
    (h : ∀ (M : Nat → Nat → Prop) (w : World) (vs : List Value) (x : SV ps) (z : R), G w → (∀ b o, M b o → b < w.heap.size) → All2 (RepD0 M w g0) (lays id ps x) vs → F x () = some z →
      Calls P f vs.toArray w fun e w' => ∃ vs', e = .returned (rets vs') ∧ Ext w w' ∧ All2 (RepD0 M w' g0) (lays id rs (out z).1) vs') : Sound P G B0 f ⟨ps, [], rs, [], R, out, F⟩ := by
  refine ⟨hcall, fun M w g vs x y z hG hB hF hz => ?_⟩
  have hg : g = g0 := by
    funext r
    cases hr : g r with
    | none => rfl
    | some gx => exact absurd (hF.dom r gx hr) (Nat.not_lt_zero _)
  subst hg
  have hM : Mafter M g0 g0 = M := by
    funext b o
    refine propext ⟨fun h => ?_, fun h => .inl ⟨h, fun ⟨_, _, hx, _⟩ => by cases hx⟩⟩
    exact h.elim (fun h => h.1) fun ⟨_, _, hx, _⟩ => by cases hx
  refine (h M w vs x z hG hF.mlt hF.args hz).mono fun e w' hp => ?_
  obtain ⟨vs', he, hE, hA⟩ := hp
  refine ⟨vs', g0, he, ExtX.of_ext hE, ?_, ?_, fun _ _ h _ => (by cases h), fun b hb => .inl hb⟩
  · rw [hM]; exact Step.ext hE
  · rw [hM]
    exact { args := hA, res := fun r blk h => (by cases h), dom := fun r gx h => (by cases h), inj := fun _ _ _ _ _ h => (by cases h), low := fun _ _ _ h => (by cases h), chg := fun _ _ _ _ h => (by cases h), mlt := fun b o h => Nat.lt_of_lt_of_le (hF.mlt b o h) hE.size, row := fun _ _ _ h => (by cases h) }
section
variable {M : Nat → Nat → Prop} {w : World}
theorem RepV.str {x : Str} {v : Value} (h : RepV M w .str x v) : v = .string ⟨List.toArray x⟩ := by
  have := RepV.plain rfl h
  have := (show [v] = [.string ⟨List.toArray x⟩] from this)
  injection this
theorem RepV.u8 {x : UInt8} {v : Value} (h : RepV M w .u8 x v) : v = .int .u8 (UInt8.toNat x) := by
  have := RepV.plain rfl h
  have := (show [v] = [.int .u8 (UInt8.toNat x)] from this)
  injection this
theorem RepV.int {k : IntKind} {x : Int} {v : Value} (h : RepV M w (.int k) x v) : v = .int k x := by
  have := RepV.plain rfl h
  have := (show [v] = [.int k x] from this)
  injection this
theorem vInt (k : IntKind) (x : Int) : RepV M w (.int k) x (.int k x) := RepC.toV rfl rfl
end
end Go.Proofs.YthlkidohpiebiaaDoor


/- More functions of Go's library, out of the kit's contracts. -/
namespace Go.Proofs.YthlkidohpiebiaaDoor
set_option linter.unusedVariables false
set_option linter.unusedSimpArgs false
open Go Go.RowKit Go.Shelf
def strings_IndexByte (s : Str) (c : UInt8) : Option Int := some (Lib.indexByte s c)
theorem strings_IndexByte_sound : Sound Tryd.prog GW B0G 90 ⟨[.v .str, .v .u8], [], [.v (.int .i64)], [], Int, fun z => ((z, ()), ()), fun x _ => strings_IndexByte x.1 x.2.1⟩ := by
  refine Sound.ofExt Tryd.call90 fun M w vs x z hG hM hA hz => ?_
  obtain ⟨a, b, u⟩ := x
  match vs, hA with
  | [v1, v2], hA =>
    obtain ⟨h1, h2, _⟩ := hA
    rw [RepV.str h1, RepV.u8 h2]
    have e : Lib.indexByte a b = z := Option.some.inj hz
    subst e
    refine (Tryd.strings_IndexByte ⟨a.toArray⟩ (UInt8.toNat b) w).mono fun e w' hp => ?_
    obtain ⟨rfl, rfl⟩ := hp
    refine ⟨[_], rfl, Ext.refl _, ?_, trivial⟩
    have e2 : ((UInt8.toNat b : Nat) : Int).toNat.toUInt8 = b := by simp
    rw [e2]
    exact vInt .i64 _
def strings_Compare (a b : Str) : Option Int := some (Lib.compareBytes a b)
/-- A fresh row of strings is a slice of strings. -/
theorem vStrs {M : Nat → Nat → Prop} {w w' : World} (hM : ∀ b o, M b o → b < w.heap.size) (xs : List Str) (hl : xs.length ≤ maxLen) (e : TypeId)
    (hw : w' = w.alloc (.cells (xs.map fun x => Value.string ⟨x.toArray⟩).toArray e)) : RepV M w' (.sl .str) xs (.slice (some ⟨w.heap.size, 0, none⟩) xs.length xs.length) := by
  subst hw
  refine RepC.toV rfl ⟨some ⟨w.heap.size, 0, none⟩, xs.length, rfl, Nat.le_refl _, hl, fun i hi => ⟨⟨w.heap.size, 0, none⟩, [.string ⟨xs[i].toArray⟩], rfl, rfl, fun j u hu => ?_⟩⟩
  cases j with
  | succ j => simp at hu
  | zero =>
    simp only [List.getElem?_cons_zero, Option.some.injEq] at hu
    subst hu
    have e2 : (((⟨w.heap.size, 0, none⟩ : Addr).add (i * Ty.sz .str)).add 0) = ⟨w.heap.size, i, none⟩ := by
      show Addr.add (Addr.add _ (i * 1)) 0 = _
      rw [Nat.mul_one]
      unfold Addr.add; split <;> simp_all
    rw [e2, World.cell?_alloc_new]
    refine ⟨?_, fun hM' => ?_⟩
    · simp [hi]
    · exact absurd (hM _ _ hM') (Nat.lt_irrefl _)
/-- The parts of a string between separators. -/
def splitS (a b : Str) : List Str := (Lib.splitB ⟨b.toArray⟩ 0 (Lib.countB ⟨a.toArray⟩ ⟨b.toArray⟩) ⟨a.toArray⟩).map fun x => x.data.toList
def strings_Split (a b : Str) : Option (List Str) := if a.length < 4294967281 ∧ 1 ≤ b.length ∧ (splitS a b).length = Lib.countB ⟨a.toArray⟩ ⟨b.toArray⟩ + 1 ∧ (splitS a b).length ≤ 4294967296 then some (splitS a b) else none
theorem strings_Split_sound : Sound Tryd.prog GW B0G 42 ⟨[.v .str, .v .str], [], [.v (.sl .str)], [], List Str, fun z => ((z, ()), ()), fun x _ => strings_Split x.1 x.2.1⟩ := by
  refine Sound.ofExt Tryd.call42 fun M w vs x z hG hM hA hz => ?_
  obtain ⟨a, b, u⟩ := x
  match vs, hA with
  | [v1, v2], hA =>
    obtain ⟨h1, h2, _⟩ := hA
    rw [RepV.str h1, RepV.str h2]
    change strings_Split a b = some z at hz
    unfold strings_Split at hz
    split at hz
    · rename_i hc
      injection hz with hz
      subst hz
      obtain ⟨m, hm⟩ := hG
      refine (Tryd.strings_Split ⟨a.toArray⟩ ⟨b.toArray⟩ m w hc.1 hm hc.2.1).mono fun e w' hp => ?_
      obtain ⟨rfl, hw⟩ := hp
      have hmap : (Lib.splitB ⟨b.toArray⟩ 0 (Lib.countB ⟨a.toArray⟩ ⟨b.toArray⟩) ⟨a.toArray⟩).map Value.string = (splitS a b).map fun x => Value.string ⟨x.toArray⟩ := by
        unfold splitS
        rw [List.map_map]
        rfl
      rw [hmap] at hw
      rw [← hc.2.2.1]
      exact ⟨[_], rfl, hw ▸ (Ext.refl w).alloc _, vStrs hM _ (Nat.le_trans hc.2.2.2 (by decide)) _ hw, trivial⟩
    · cases hz
end Go.Proofs.YthlkidohpiebiaaDoor



/- strings.Contains, out of the kit's contract. -/
namespace Go.Proofs.YthlkidohpiebiaaDoor
set_option linter.unusedVariables false
set_option linter.unusedSimpArgs false
open Go Go.RowKit Go.Shelf
end Go.Proofs.YthlkidohpiebiaaDoor



/- How a contract of a function that turns a row of its caller's is said of the machine. -/
namespace Go.Proofs.YthlkidohpiebiaaDoor
set_option linter.unusedVariables false
set_option linter.unusedSimpArgs false
open Go Go.RowKit Go.Shelf
/-- The elements of a row, and where they lie. -/
def Els (M : Nat → Nat → Prop) (w : World) (t : Ty) (xs : List t.den) (cs : List Value) : Prop := ∀ i (h : i < xs.length), RepC M w t xs[i] ((cs.drop (i * t.sz)).take t.sz)
theorem own_lt {w : World} {base : Nat} {e : TypeId} {sz : Nat} {v : Value} {n : Nat} {cs : List Value} (h : w.ownsRow base e sz v n cs) {b : Nat} (hb : v.ownBlock = some b) : b < w.heap.size := by
  rcases h.2 with ⟨e1, _⟩ | ⟨g, cap, cur, e1, _, hg, _⟩
  · rw [e1] at hb; cases hb
  · rw [e1] at hb
    simp only [Value.ownBlock, Option.some.injEq] at hb
    subst hb
    exact lt_of_map hg
theorem ExtX.mono {X Y : Nat → Prop} {w w' : World} (h : ExtX X w w') (hX : ∀ k, X k → Y k) : ExtX Y w w' := ⟨h.os, h.tape, h.output, h.size, fun k hk hy => h.block k hk fun hx => hy (hX k hx)⟩
end Go.Proofs.YthlkidohpiebiaaDoor


/- slices.Grow of the nil slice, as a meaning: an own row without elements. -/
namespace Go.Proofs.YthlkidohpiebiaaDoor
set_option linter.unusedVariables false
set_option linter.unusedSimpArgs false
open Go Go.RowKit Go.Shelf
end Go.Proofs.YthlkidohpiebiaaDoor


/- The types that the printed functions use, as the program has them. -/
namespace Go.Proofs.YthlkidohpiebiaaDoor
open Go Go.RowKit
set_option maxRecDepth 100000
abbrev strings_Split_sg (f : SV [.v .str, .v .str] → BV [] → Option (List Str)) : AF := { ps := [.v .str, .v .str], bs := [], rs := [.v (.sl .str)], cs := [], R := List Str, out := fun z => ((z, ()), ()), f := f }
abbrev strings_IndexByte_sg (f : SV [.v .str, .v .u8] → BV [] → Option (Int)) : AF := { ps := [.v .str, .v .u8], bs := [], rs := [.v (.int .i64)], cs := [], R := Int, out := fun z => ((z, ()), ()), f := f }
abbrev slices_SortFunc_file_sg (f : SV [.row 0, .v (.clo 98 .un)] → BV [.row 34 (.pr .str (.pr .bool (.sl .u8))) true] → Option (List (Str × Bool × List UInt8))) : AF := { ps := [.row 0, .v (.clo 98 .un)], bs := [.row 34 (.pr .str (.pr .bool (.sl .u8))) true], rs := [], cs := [.row 34 (.pr .str (.pr .bool (.sl .u8))) true, .none], R := List (Str × Bool × List UInt8), out := fun z => ((), (z, (), ())), f := f }
theorem tyOk_int : TyOk Tryd.prog 3 (.int .i64) := ⟨_, by kernel_rfl, Tryd.underlying3, rfl⟩
theorem tyOk_bool : TyOk Tryd.prog 4 .bool := ⟨_, by kernel_rfl, Tryd.underlying4, rfl⟩
theorem tyOk_uint8 : TyOk Tryd.prog 5 .u8 := ⟨_, by kernel_rfl, Tryd.underlying5, rfl⟩
theorem tyOk_string : TyOk Tryd.prog 9 .str := ⟨_, by kernel_rfl, Tryd.underlying9, rfl⟩
theorem tyOk_ABapiDFile : TyOk Tryd.prog 28 (.sl (.pr .str (.pr .bool (.sl .u8)))) := ⟨_, by kernel_rfl, Tryd.underlying28, rfl⟩
theorem tyOk_ABstring : TyOk Tryd.prog 29 (.sl .str) := ⟨_, by kernel_rfl, Tryd.underlying29, rfl⟩
theorem tyOk_ABuint8 : TyOk Tryd.prog 32 (.sl .u8) := ⟨_, by kernel_rfl, Tryd.underlying32, rfl⟩
theorem tyOk_smithyardSapiDFile : TyOk Tryd.prog 34 (.pr .str (.pr .bool (.sl .u8))) := ⟨_, by kernel_rfl, Tryd.underlying34, rfl⟩
theorem tyOk_ABapiDTreeChange : TyOk Tryd.prog 38 (.sl (.pr .str (.int .i64))) := ⟨_, by kernel_rfl, Tryd.underlying38, rfl⟩
theorem tyOk_smithyardSapiDTreeChange : TyOk Tryd.prog 43 (.pr .str (.int .i64)) := ⟨_, by kernel_rfl, Tryd.underlying43, rfl⟩
theorem tyOk_mapAstringBapiDFile : TyOk Tryd.prog 66 (.mp (.pr .str (.pr .bool (.sl .u8)))) := ⟨_, by kernel_rfl, Tryd.underlying66, rfl⟩
theorem tyOk_ABABapiDFile : TyOk Tryd.prog 81 (.sl (.sl (.pr .str (.pr .bool (.sl .u8))))) := ⟨_, by kernel_rfl, Tryd.underlying81, rfl⟩
theorem tyOk_mapAstringBbool : TyOk Tryd.prog 82 (.mp .bool) := ⟨_, by kernel_rfl, Tryd.underlying82, rfl⟩
theorem tyOk_smithyardSblobDspot : TyOk Tryd.prog 84 (.pr (.pr .str (.pr .bool (.sl .u8))) .bool) := ⟨_, by kernel_rfl, Tryd.underlying84, rfl⟩
theorem tyOk_ABbool : TyOk Tryd.prog 109 (.sl .bool) := ⟨_, by kernel_rfl, Tryd.underlying109, rfl⟩
theorem tyOk_uint64 : TyOk Tryd.prog 112 (.int .u64) := ⟨_, by kernel_rfl, Tryd.underlying112, rfl⟩
theorem tyOk_ABABstring : TyOk Tryd.prog 114 (.sl (.sl .str)) := ⟨_, by kernel_rfl, Tryd.underlying114, rfl⟩
def tyT : TypeId → Option Ty := fun T =>
  match T with
  | 3 => some (.int .i64)
  | 4 => some .bool
  | 5 => some .u8
  | 9 => some .str
  | 28 => some (.sl (.pr .str (.pr .bool (.sl .u8))))
  | 29 => some (.sl .str)
  | 32 => some (.sl .u8)
  | 34 => some (.pr .str (.pr .bool (.sl .u8)))
  | 38 => some (.sl (.pr .str (.int .i64)))
  | 43 => some (.pr .str (.int .i64))
  | 66 => some (.mp (.pr .str (.pr .bool (.sl .u8))))
  | 81 => some (.sl (.sl (.pr .str (.pr .bool (.sl .u8)))))
  | 82 => some (.mp .bool)
  | 84 => some (.pr (.pr .str (.pr .bool (.sl .u8))) .bool)
  | 109 => some (.sl .bool)
  | 112 => some (.int .u64)
  | 114 => some (.sl (.sl .str))
  | _ => none
theorem tyT_ok : ∀ T t, tyT T = some t → TyOk Tryd.prog T t := by
  intro T t h
  unfold tyT at h
  split at h
  · cases h; exact tyOk_int
  · cases h; exact tyOk_bool
  · cases h; exact tyOk_uint8
  · cases h; exact tyOk_string
  · cases h; exact tyOk_ABapiDFile
  · cases h; exact tyOk_ABstring
  · cases h; exact tyOk_ABuint8
  · cases h; exact tyOk_smithyardSapiDFile
  · cases h; exact tyOk_ABapiDTreeChange
  · cases h; exact tyOk_smithyardSapiDTreeChange
  · cases h; exact tyOk_mapAstringBapiDFile
  · cases h; exact tyOk_ABABapiDFile
  · cases h; exact tyOk_mapAstringBbool
  · cases h; exact tyOk_smithyardSblobDspot
  · cases h; exact tyOk_ABbool
  · cases h; exact tyOk_uint64
  · cases h; exact tyOk_ABABstring
  · cases h
def elT : TypeId → Option (TypeId × Ty) := fun T =>
  match T with
  | 28 => some (34, (.pr .str (.pr .bool (.sl .u8))))
  | 29 => some (9, .str)
  | 32 => some (5, .u8)
  | 38 => some (43, (.pr .str (.int .i64)))
  | 81 => some (28, (.sl (.pr .str (.pr .bool (.sl .u8)))))
  | 109 => some (4, .bool)
  | 114 => some (29, (.sl .str))
  | _ => none
theorem elT_ok : ∀ T e t, elT T = some (e, t) → ElOk Tryd.prog T e t := by
  intro T e t h
  unfold elT at h
  split at h
  · cases h; exact ⟨tyOk_smithyardSapiDFile, 48, ElemT.mk_ Tryd.underlying28 (z := mkV (.pr .str (.pr .bool (.sl .u8))) (zeroC (.pr .str (.pr .bool (.sl .u8))))) (by kernel_rfl) rfl (by decide) (by decide), by decide⟩
  · cases h; exact ⟨tyOk_string, 16, ElemT.mk_ Tryd.underlying29 (z := mkV .str (zeroC .str)) (by kernel_rfl) rfl (by decide) (by decide), by decide⟩
  · cases h; exact ⟨tyOk_uint8, 1, ElemT.mk_ Tryd.underlying32 (z := mkV .u8 (zeroC .u8)) (by kernel_rfl) rfl (by decide) (by decide), by decide⟩
  · cases h; exact ⟨tyOk_smithyardSapiDTreeChange, 24, ElemT.mk_ Tryd.underlying38 (z := mkV (.pr .str (.int .i64)) (zeroC (.pr .str (.int .i64)))) (by kernel_rfl) rfl (by decide) (by decide), by decide⟩
  · cases h; exact ⟨tyOk_ABapiDFile, 24, ElemT.mk_ Tryd.underlying81 (z := mkV (.sl (.pr .str (.pr .bool (.sl .u8)))) (zeroC (.sl (.pr .str (.pr .bool (.sl .u8)))))) (by kernel_rfl) rfl (by decide) (by decide), by decide⟩
  · cases h; exact ⟨tyOk_bool, 1, ElemT.mk_ Tryd.underlying109 (z := mkV .bool (zeroC .bool)) (by kernel_rfl) rfl (by decide) (by decide), by decide⟩
  · cases h; exact ⟨tyOk_ABstring, 24, ElemT.mk_ Tryd.underlying114 (z := mkV (.sl .str) (zeroC (.sl .str))) (by kernel_rfl) rfl (by decide) (by decide), by decide⟩
  · cases h
def fldT : TypeId → Nat → Option (Nat × Ty) := fun T f =>
  match T, f with
  | 34, 0 => some (0, .str)
  | 34, 1 => some (1, .bool)
  | 34, 2 => some (2, (.sl .u8))
  | 43, 0 => some (0, .str)
  | 43, 1 => some (1, (.int .i64))
  | 84, 0 => some (0, (.pr .str (.pr .bool (.sl .u8))))
  | 84, 1 => some (3, .bool)
  | _, _ => none
theorem fldT_ok : ∀ T f off t, fldT T f = some (off, t) → FldOk Tryd.prog T f off t := by
  intro T f off t h
  unfold fldT at h
  split at h
  · cases h; exact ⟨_, _, Tryd.underlying34, rfl, rfl, tyOk_string, by decide⟩
  · cases h; exact ⟨_, _, Tryd.underlying34, rfl, rfl, tyOk_bool, by decide⟩
  · cases h; exact ⟨_, _, Tryd.underlying34, rfl, rfl, tyOk_ABuint8, by decide⟩
  · cases h; exact ⟨_, _, Tryd.underlying43, rfl, rfl, tyOk_string, by decide⟩
  · cases h; exact ⟨_, _, Tryd.underlying43, rfl, rfl, tyOk_int, by decide⟩
  · cases h; exact ⟨_, _, Tryd.underlying84, rfl, rfl, tyOk_smithyardSapiDFile, by decide⟩
  · cases h; exact ⟨_, _, Tryd.underlying84, rfl, rfl, tyOk_bool, by decide⟩
  · cases h
theorem mpT_ok : ∀ T e, tyT T = some (.mp e) → MpOk Tryd.prog T e := by
  intro T e h
  unfold tyT at h
  split at h
  · cases h
  · cases h
  · cases h
  · cases h
  · cases h
  · cases h
  · cases h
  · cases h
  · cases h
  · cases h
  · cases h; exact ⟨_, _, Tryd.underlying66, Tryd.underlying9, tyOk_smithyardSapiDFile⟩
  · cases h
  · cases h; exact ⟨_, _, Tryd.underlying82, Tryd.underlying9, tyOk_bool⟩
  · cases h
  · cases h
  · cases h
  · cases h
  · cases h
theorem bldT_ok : ∀ T t, tyT T = some t → t.isAgg = true → ∃ fs places, Tryd.prog.underlying T = some (.struct fs) ∧ fs.toList.mapM (fun f => (Tryd.prog.info? f.type).map fun i => (f.offset, i.size)) = some places := by
  intro T t h ha
  unfold tyT at h
  split at h
  · cases h; cases ha
  · cases h; cases ha
  · cases h; cases ha
  · cases h; cases ha
  · cases h; cases ha
  · cases h; cases ha
  · cases h; cases ha
  · exact ⟨_, [(0, 1), (1, 1), (2, 1)], Tryd.underlying34, by kernel_rfl⟩
  · cases h; cases ha
  · exact ⟨_, [(0, 1), (1, 1)], Tryd.underlying43, by kernel_rfl⟩
  · cases h; cases ha
  · cases h; cases ha
  · cases h; cases ha
  · exact ⟨_, [(0, 3), (3, 1)], Tryd.underlying84, by kernel_rfl⟩
  · cases h; cases ha
  · cases h; cases ha
  · cases h; cases ha
  · cases h
theorem cmpOk_smithyardSapiDTreeChange : CmpOk Tryd.prog 43 (.pr .str (.int .i64)) := CmpOk.flat rfl rfl Tryd.underlying43 (by kernel_rfl) (by kernel_rfl) (.cons rfl (by decide) (.str Tryd.underlying9) (.one rfl (by decide) (.int Tryd.underlying3)))
def cmpT : TypeId → Option Ty := fun T =>
  match T with
  | 43 => some (.pr .str (.int .i64))
  | _ => none
theorem cmpT_ok : ∀ T t, cmpT T = some t → CmpOk Tryd.prog T t := by
  intro T t h
  unfold cmpT at h
  split at h
  · cases h; exact cmpOk_smithyardSapiDTreeChange
  · cases h
def mkE (h : Nat → Hint) (fn : FuncId → Option Tmp → Option AF) (exq : Nat → Bool) (live : FuncId → Bool) : Env := { ty := tyT, el := elT, fld := fldT, cmp := cmpT, fn := fn, hint := h, exq := exq, live := live }
theorem mkE_ok (hh : Nat → Hint) (fn : FuncId → Option Tmp → Option AF) (exq : Nat → Bool) (live : FuncId → Bool) (h : ∀ f q F, fn f q = some F → Sound Tryd.prog GW B0G f F) : EnvOk Tryd.prog GW B0G (mkE hh fn exq live) :=
  { ty := tyT_ok, el := elT_ok, fld := fldT_ok, mp := mpT_ok, bld := bldT_ok, cmp := cmpT_ok, fn := h, stable := GW_stable, mixed := by kernel_rfl }
end Go.Proofs.YthlkidohpiebiaaDoor


/- What functions of the program compute, as plain functions (printed). -/
namespace Go.Proofs.YthlkidohpiebiaaDoor
open Go Go.RowKit
set_option maxRecDepth 100000
set_option linter.unusedVariables false
noncomputable section
def blob_inPart (_N : Nat) (x0 : UInt8) : Option Bool :=
  br (decide (x0 ≥ (97 : UInt8)))
    (br (decide (x0 ≤ (122 : UInt8)))
      (some true)
      (br (decide (x0 ≥ (65 : UInt8)))
        (br (decide (x0 ≤ (90 : UInt8)))
          (some true)
          (br (decide (x0 ≥ (48 : UInt8)))
            (br (decide (x0 ≤ (57 : UInt8)))
              (some true)
              (bnd (strings_IndexByte ([46, 95, 45, 43] : Str) x0) fun t27 =>
              some (decide (t27 ≥ (0 : Int)))))
            (bnd (strings_IndexByte ([46, 95, 45, 43] : Str) x0) fun t27_1 =>
            some (decide (t27_1 ≥ (0 : Int))))))
        (br (decide (x0 ≥ (48 : UInt8)))
          (br (decide (x0 ≤ (57 : UInt8)))
            (some true)
            (bnd (strings_IndexByte ([46, 95, 45, 43] : Str) x0) fun t27_2 =>
            some (decide (t27_2 ≥ (0 : Int)))))
          (bnd (strings_IndexByte ([46, 95, 45, 43] : Str) x0) fun t27_3 =>
          some (decide (t27_3 ≥ (0 : Int)))))))
    (br (decide (x0 ≥ (65 : UInt8)))
      (br (decide (x0 ≤ (90 : UInt8)))
        (some true)
        (br (decide (x0 ≥ (48 : UInt8)))
          (br (decide (x0 ≤ (57 : UInt8)))
            (some true)
            (bnd (strings_IndexByte ([46, 95, 45, 43] : Str) x0) fun t27_4 =>
            some (decide (t27_4 ≥ (0 : Int)))))
          (bnd (strings_IndexByte ([46, 95, 45, 43] : Str) x0) fun t27_5 =>
          some (decide (t27_5 ≥ (0 : Int))))))
      (br (decide (x0 ≥ (48 : UInt8)))
        (br (decide (x0 ≤ (57 : UInt8)))
          (some true)
          (bnd (strings_IndexByte ([46, 95, 45, 43] : Str) x0) fun t27_6 =>
          some (decide (t27_6 ≥ (0 : Int)))))
        (bnd (strings_IndexByte ([46, 95, 45, 43] : Str) x0) fun t27_7 =>
        some (decide (t27_7 ≥ (0 : Int))))))
abbrev blob_inPart_sg (f : SV [.v .u8] → BV [] → Option (Bool)) : AF := { ps := [.v .u8], bs := [], rs := [.v .bool], cs := [], R := Bool, out := fun z => ((z, ()), ()), f := f }
abbrev blob_inPart_pk : SV [.v .bool] → BV [] → Bool := fun x _ => x.1
def blob_inPart_fn (_N : Nat) : FuncId → Option Tmp → Option AF := fun f _ =>
  match f with
    | 90 => some (strings_IndexByte_sg fun x _ => strings_IndexByte x.1 x.2.1)
    | _ => none
theorem blob_inPart_fn_ok (N : Nat) : ∀ f q F, blob_inPart_fn N f q = some F → Sound Tryd.prog GW B0G f F := by
  intro f q F h
  unfold blob_inPart_fn at h
  split at h
  · cases h; exact strings_IndexByte_sound
  · cases h
def blob_inPart_h : Nat → Hint := fun i =>
  match i with
  | _ => ⟨[], [], [], [], [], []⟩
abbrev blob_inPart_E (N : Nat) : Env := mkE blob_inPart_h (blob_inPart_fn N) (fun _ => false) (fun _ => false)
noncomputable def blob_inPart_LP (N : Nat) : Nat → Code → St → (Ex → St → Option Bool) → Option Bool := fun i c =>
  match i with
  | i => fun st k => iter (blob_inPart_h i) (exec (blob_inPart_E N) N c i) N st k
theorem blob_inPart_core (N : Nat) (x : SV [.v .u8]) (y : BV []) : runL (blob_inPart_E N) Tryd.f44 (blob_inPart_sg fun x _ => blob_inPart N x.1) blob_inPart_pk (blob_inPart_LP N) x y = blob_inPart N x.1 := by kernel_rfl
theorem blob_inPart_sound (N : Nat) : Sound Tryd.prog GW B0G 44 (blob_inPart_sg fun x _ => blob_inPart N x.1) :=
  runD_sound (mkE_ok blob_inPart_h (blob_inPart_fn N) _ _ (blob_inPart_fn_ok N)) Tryd.func44 rfl Tryd.call44 (blob_inPart_sg fun x _ => blob_inPart N x.1) blob_inPart_pk (fun _ _ => rfl) N (fun x y _ h => ((runL_eq (blob_inPart_E N) N Tryd.f44 (blob_inPart_sg fun x _ => blob_inPart N x.1) blob_inPart_pk (blob_inPart_LP N) (show LoopsOk (blob_inPart_LP N) (blob_inPart_E N) N (resD (blob_inPart_E N) Tryd.f44 (blob_inPart_sg fun x _ => blob_inPart N x.1) blob_inPart_pk) [] from trivial) x y).trans (blob_inPart_core N x y)).trans h)
def blob_isPart_L0T (N : Nat) (x0 : Str) (c5 : Int) (k0 : Option Bool) (self : Int → Option Bool) (s6 : Int) : Option Bool :=
  br (decide (s6 < c5))
    (bnd (geti x0 s6) fun t11 =>
    bnd (blob_inPart N t11) fun t12 =>
    br (!t12)
      (some false)
      (self (IntKind.i64.wrap (s6 + (1 : Int)))))
    (k0)
def blob_isPart_L0 (N : Nat) (x0 : Str) (c5 : Int) (k0 : Option Bool) : Nat → Int → Option Bool
  | 0, _ => none
  | n + 1, s6 => blob_isPart_L0T N x0 c5 k0 (blob_isPart_L0 N x0 c5 k0 n) s6
def blob_isPart (N : Nat) (x0 : Str) : Option Bool :=
  blob_isPart_L0 N x0 (x0.length : Int) (br (!(x0 == ([] : Str)))
        (br (!(x0 == ([46] : Str)))
          (some (!(x0 == ([46, 46] : Str))))
          (some false))
        (some false)) N (0 : Int)
abbrev blob_isPart_sg (f : SV [.v .str] → BV [] → Option (Bool)) : AF := { ps := [.v .str], bs := [], rs := [.v .bool], cs := [], R := Bool, out := fun z => ((z, ()), ()), f := f }
abbrev blob_isPart_pk : SV [.v .bool] → BV [] → Bool := fun x _ => x.1
def blob_isPart_fn (N : Nat) : FuncId → Option Tmp → Option AF := fun f _ =>
  match f with
    | 44 => some (blob_inPart_sg fun x _ => blob_inPart N x.1)
    | _ => none
theorem blob_isPart_fn_ok (N : Nat) : ∀ f q F, blob_isPart_fn N f q = some F → Sound Tryd.prog GW B0G f F := by
  intro f q F h
  unfold blob_isPart_fn at h
  split at h
  · cases h; exact blob_inPart_sound N
  · cases h
def blob_isPart_h : Nat → Hint := fun i =>
  match i with
  | 0 => ⟨[], [0, 5, 6], [], [0], [], []⟩
  | _ => ⟨[], [], [], [], [], []⟩
abbrev blob_isPart_E (N : Nat) : Env := mkE blob_isPart_h (blob_isPart_fn N) (fun _ => false) (fun _ => false)
abbrev blob_isPart_L0_fs : List (Nat × Sl) := [(0, .v .str), (5, .v (.int .i64)), (6, .v (.int .i64))]
abbrev blob_isPart_L0_bs : List (Nat × Sb) := []
def blob_isPart_L0_hd (x0 : Str) (c5 : Int) (s6 : Int) : St := ⟨25, [(0, .v .str x0), (5, .v (.int .i64) c5), (6, .v (.int .i64) s6)], []⟩
def blob_isPart_L0_tl0 (x0 : Str) (_c5 : Int) : St := ⟨25, [(0, .v .str x0)], []⟩
def blob_isPart_L0_G (N : Nat) (x0 : Str) (c5 : Int) (s6 : Int) (k : Ex → St → Option Bool) : Option Bool :=
  blob_isPart_L0 N x0 c5 (k (.exit 0) (blob_isPart_L0_tl0 x0 c5)) N s6
abbrev blob_isPart_L0_F (N : Nat) : FV blob_isPart_L0_fs → HV blob_isPart_L0_bs → (Ex → St → Option Bool) → Option Bool := fun x _ k => blob_isPart_L0_G N x.1 x.2.1 x.2.2.1 k
noncomputable def blob_isPart_LP (N : Nat) : Nat → Code → St → (Ex → St → Option Bool) → Option Bool := fun i c =>
  match i with
  | 0 => (LPc 25 blob_isPart_L0_fs blob_isPart_L0_bs (blob_isPart_L0_F N) (fun st k => iter (blob_isPart_h 0) (exec (blob_isPart_E N) N c 0) N st k))
  | i => fun st k => iter (blob_isPart_h i) (exec (blob_isPart_E N) N c i) N st k
theorem blob_isPart_L0_step (N : Nat) (x0 : Str) (c5 : Int) (KX : Nat → St → Option Bool) (I : St → Option Bool) (s6 : Int) :
    execL (blob_isPart_LP N) (blob_isPart_E N) (cAt (bodyOf Tryd.f82) [true, false, true, false, false]) 0 (blob_isPart_L0_hd x0 c5 s6) (roundK (blob_isPart_h 0) I KX (resD (blob_isPart_E N) Tryd.f82 (blob_isPart_sg fun x _ => blob_isPart N x.1) blob_isPart_pk)) = blob_isPart_L0T N x0 c5 (KX 0 (blob_isPart_L0_tl0 x0 c5)) (fun s6 => I (blob_isPart_L0_hd x0 c5 s6)) s6 := by kernel_rfl
theorem blob_isPart_L0_ok (N : Nat) : ∀ x y k, (∀ st, k .ret st = (resD (blob_isPart_E N) Tryd.f82 (blob_isPart_sg fun x _ => blob_isPart N x.1) blob_isPart_pk) st) → iter (blob_isPart_h 0) (exec (blob_isPart_E N) N (cAt (bodyOf Tryd.f82) [true, false, true, false, false]) 0) N ⟨25, unF blob_isPart_L0_fs x, unH blob_isPart_L0_bs y⟩ k = blob_isPart_L0_F N x y k := fun x _ k hk =>
  iter_link (S := (Int) × Unit) (blob_isPart_h 0) _ (execL (blob_isPart_LP N) (blob_isPart_E N) (cAt (bodyOf Tryd.f82) [true, false, true, false, false]) 0) (resD (blob_isPart_E N) Tryd.f82 (blob_isPart_sg fun x _ => blob_isPart N x.1) blob_isPart_pk) (fun st k hk => execL_eq _ _ N _ (cAt (bodyOf Tryd.f82) [true, false, true, false, false]) 0 (show LoopsOk (blob_isPart_LP N) (blob_isPart_E N) N (resD (blob_isPart_E N) Tryd.f82 (blob_isPart_sg fun x _ => blob_isPart N x.1) blob_isPart_pk) [] from trivial) st k hk) (fun s => blob_isPart_L0_hd x.1 x.2.1 s.1) k hk
    (fun self s => blob_isPart_L0T N x.1 x.2.1 (k (.exit 0) (blob_isPart_L0_tl0 x.1 x.2.1)) (fun s6 => self (s6, ())) s.1) (fun n s => blob_isPart_L0 N x.1 x.2.1 (k (.exit 0) (blob_isPart_L0_tl0 x.1 x.2.1)) n s.1) (fun _ => rfl) (fun _ _ => rfl)
    (fun I s => blob_isPart_L0_step N x.1 x.2.1 (fun j => k (.exit j)) I s.1) N (x.2.2.1, ())
theorem blob_isPart_lp0 (N : Nat) : ∀ st k, (∀ st, k .ret st = (resD (blob_isPart_E N) Tryd.f82 (blob_isPart_sg fun x _ => blob_isPart N x.1) blob_isPart_pk) st) → blob_isPart_LP N 0 (cAt (bodyOf Tryd.f82) [true, false, true, false, false]) st k = iter (Env.hint (blob_isPart_E N) 0) (exec (blob_isPart_E N) N (cAt (bodyOf Tryd.f82) [true, false, true, false, false]) 0) N st k := fun st k hk => LPc_eq 25 blob_isPart_L0_fs blob_isPart_L0_bs _ _ (resD (blob_isPart_E N) Tryd.f82 (blob_isPart_sg fun x _ => blob_isPart N x.1) blob_isPart_pk) (blob_isPart_L0_ok N) _ st k hk (rfl)
theorem blob_isPart_core (N : Nat) (x : SV [.v .str]) (y : BV []) : runL (blob_isPart_E N) Tryd.f82 (blob_isPart_sg fun x _ => blob_isPart N x.1) blob_isPart_pk (blob_isPart_LP N) x y = blob_isPart N x.1 := by kernel_rfl
theorem blob_isPart_sound (N : Nat) : Sound Tryd.prog GW B0G 82 (blob_isPart_sg fun x _ => blob_isPart N x.1) :=
  runD_sound (mkE_ok blob_isPart_h (blob_isPart_fn N) _ _ (blob_isPart_fn_ok N)) Tryd.func82 rfl Tryd.call82 (blob_isPart_sg fun x _ => blob_isPart N x.1) blob_isPart_pk (fun _ _ => rfl) N (fun x y _ h => ((runL_eq (blob_isPart_E N) N Tryd.f82 (blob_isPart_sg fun x _ => blob_isPart N x.1) blob_isPart_pk (blob_isPart_LP N) (show LoopsOk (blob_isPart_LP N) (blob_isPart_E N) N (resD (blob_isPart_E N) Tryd.f82 (blob_isPart_sg fun x _ => blob_isPart N x.1) blob_isPart_pk) [(0, (cAt (bodyOf Tryd.f82) [true, false, true, false, false]))] from ⟨blob_isPart_lp0 N, trivial⟩) x y).trans (blob_isPart_core N x y)).trans h)
def blob_IsPath_L0T (N : Nat) (t14 : List Str) (c15 : Int) (k0 : Option Bool) (self : Int → Option Bool) (s16 : Int) : Option Bool :=
  br (decide (s16 < c15))
    (bnd (geti t14 s16) fun t18 =>
    bnd (blob_isPart N t18) fun t21 =>
    br (!t21)
      (some false)
      (self (IntKind.i64.wrap (s16 + (1 : Int)))))
    (k0)
def blob_IsPath_L0 (N : Nat) (t14 : List Str) (c15 : Int) (k0 : Option Bool) : Nat → Int → Option Bool
  | 0, _ => none
  | n + 1, s16 => blob_IsPath_L0T N t14 c15 k0 (blob_IsPath_L0 N t14 c15 k0 n) s16
def blob_IsPath (N : Nat) (x0 : Str) : Option Bool :=
  br (decide ((x0.length : Int) < (1 : Int)))
    (some false)
    (br (decide ((x0.length : Int) > (200 : Int)))
      (some false)
      (bnd (strings_Split x0 ([47] : Str)) fun t14 =>
      blob_IsPath_L0 N t14 (t14.length : Int) (some true) N (0 : Int)))
abbrev blob_IsPath_sg (f : SV [.v .str] → BV [] → Option (Bool)) : AF := { ps := [.v .str], bs := [], rs := [.v .bool], cs := [], R := Bool, out := fun z => ((z, ()), ()), f := f }
abbrev blob_IsPath_pk : SV [.v .bool] → BV [] → Bool := fun x _ => x.1
def blob_IsPath_fn (N : Nat) : FuncId → Option Tmp → Option AF := fun f _ =>
  match f with
    | 42 => some (strings_Split_sg fun x _ => strings_Split x.1 x.2.1)
    | 82 => some (blob_isPart_sg fun x _ => blob_isPart N x.1)
    | _ => none
theorem blob_IsPath_fn_ok (N : Nat) : ∀ f q F, blob_IsPath_fn N f q = some F → Sound Tryd.prog GW B0G f F := by
  intro f q F h
  unfold blob_IsPath_fn at h
  split at h
  · cases h; exact strings_Split_sound
  · cases h; exact blob_isPart_sound N
  · cases h
def blob_IsPath_h : Nat → Hint := fun i =>
  match i with
  | 0 => ⟨[], [14, 15, 16], [], [], [], []⟩
  | _ => ⟨[], [], [], [], [], []⟩
abbrev blob_IsPath_E (N : Nat) : Env := mkE blob_IsPath_h (blob_IsPath_fn N) (fun _ => false) (fun _ => false)
abbrev blob_IsPath_L0_fs : List (Nat × Sl) := [(14, .v (.sl .str)), (15, .v (.int .i64)), (16, .v (.int .i64))]
abbrev blob_IsPath_L0_bs : List (Nat × Sb) := []
def blob_IsPath_L0_hd (t14 : List Str) (c15 : Int) (s16 : Int) : St := ⟨24, [(14, .v (.sl .str) t14), (15, .v (.int .i64) c15), (16, .v (.int .i64) s16)], []⟩
def blob_IsPath_L0_tl0 (_t14 : List Str) (_c15 : Int) : St := ⟨24, [], []⟩
def blob_IsPath_L0_G (N : Nat) (t14 : List Str) (c15 : Int) (s16 : Int) (k : Ex → St → Option Bool) : Option Bool :=
  blob_IsPath_L0 N t14 c15 (k (.exit 0) (blob_IsPath_L0_tl0 t14 c15)) N s16
abbrev blob_IsPath_L0_F (N : Nat) : FV blob_IsPath_L0_fs → HV blob_IsPath_L0_bs → (Ex → St → Option Bool) → Option Bool := fun x _ k => blob_IsPath_L0_G N x.1 x.2.1 x.2.2.1 k
noncomputable def blob_IsPath_LP (N : Nat) : Nat → Code → St → (Ex → St → Option Bool) → Option Bool := fun i c =>
  match i with
  | 0 => (LPc 24 blob_IsPath_L0_fs blob_IsPath_L0_bs (blob_IsPath_L0_F N) (fun st k => iter (blob_IsPath_h 0) (exec (blob_IsPath_E N) N c 0) N st k))
  | i => fun st k => iter (blob_IsPath_h i) (exec (blob_IsPath_E N) N c i) N st k
theorem blob_IsPath_L0_step (N : Nat) (t14 : List Str) (c15 : Int) (KX : Nat → St → Option Bool) (I : St → Option Bool) (s16 : Int) :
    execL (blob_IsPath_LP N) (blob_IsPath_E N) (cAt (bodyOf Tryd.f38) [true, true, false, true, false, false]) 0 (blob_IsPath_L0_hd t14 c15 s16) (roundK (blob_IsPath_h 0) I KX (resD (blob_IsPath_E N) Tryd.f38 (blob_IsPath_sg fun x _ => blob_IsPath N x.1) blob_IsPath_pk)) = blob_IsPath_L0T N t14 c15 (KX 0 (blob_IsPath_L0_tl0 t14 c15)) (fun s16 => I (blob_IsPath_L0_hd t14 c15 s16)) s16 := by kernel_rfl
theorem blob_IsPath_L0_ok (N : Nat) : ∀ x y k, (∀ st, k .ret st = (resD (blob_IsPath_E N) Tryd.f38 (blob_IsPath_sg fun x _ => blob_IsPath N x.1) blob_IsPath_pk) st) → iter (blob_IsPath_h 0) (exec (blob_IsPath_E N) N (cAt (bodyOf Tryd.f38) [true, true, false, true, false, false]) 0) N ⟨24, unF blob_IsPath_L0_fs x, unH blob_IsPath_L0_bs y⟩ k = blob_IsPath_L0_F N x y k := fun x _ k hk =>
  iter_link (S := (Int) × Unit) (blob_IsPath_h 0) _ (execL (blob_IsPath_LP N) (blob_IsPath_E N) (cAt (bodyOf Tryd.f38) [true, true, false, true, false, false]) 0) (resD (blob_IsPath_E N) Tryd.f38 (blob_IsPath_sg fun x _ => blob_IsPath N x.1) blob_IsPath_pk) (fun st k hk => execL_eq _ _ N _ (cAt (bodyOf Tryd.f38) [true, true, false, true, false, false]) 0 (show LoopsOk (blob_IsPath_LP N) (blob_IsPath_E N) N (resD (blob_IsPath_E N) Tryd.f38 (blob_IsPath_sg fun x _ => blob_IsPath N x.1) blob_IsPath_pk) [] from trivial) st k hk) (fun s => blob_IsPath_L0_hd x.1 x.2.1 s.1) k hk
    (fun self s => blob_IsPath_L0T N x.1 x.2.1 (k (.exit 0) (blob_IsPath_L0_tl0 x.1 x.2.1)) (fun s16 => self (s16, ())) s.1) (fun n s => blob_IsPath_L0 N x.1 x.2.1 (k (.exit 0) (blob_IsPath_L0_tl0 x.1 x.2.1)) n s.1) (fun _ => rfl) (fun _ _ => rfl)
    (fun I s => blob_IsPath_L0_step N x.1 x.2.1 (fun j => k (.exit j)) I s.1) N (x.2.2.1, ())
theorem blob_IsPath_lp0 (N : Nat) : ∀ st k, (∀ st, k .ret st = (resD (blob_IsPath_E N) Tryd.f38 (blob_IsPath_sg fun x _ => blob_IsPath N x.1) blob_IsPath_pk) st) → blob_IsPath_LP N 0 (cAt (bodyOf Tryd.f38) [true, true, false, true, false, false]) st k = iter (Env.hint (blob_IsPath_E N) 0) (exec (blob_IsPath_E N) N (cAt (bodyOf Tryd.f38) [true, true, false, true, false, false]) 0) N st k := fun st k hk => LPc_eq 24 blob_IsPath_L0_fs blob_IsPath_L0_bs _ _ (resD (blob_IsPath_E N) Tryd.f38 (blob_IsPath_sg fun x _ => blob_IsPath N x.1) blob_IsPath_pk) (blob_IsPath_L0_ok N) _ st k hk (rfl)
theorem blob_IsPath_core (N : Nat) (x : SV [.v .str]) (y : BV []) : runL (blob_IsPath_E N) Tryd.f38 (blob_IsPath_sg fun x _ => blob_IsPath N x.1) blob_IsPath_pk (blob_IsPath_LP N) x y = blob_IsPath N x.1 := by kernel_rfl
theorem blob_IsPath_sound (N : Nat) : Sound Tryd.prog GW B0G 38 (blob_IsPath_sg fun x _ => blob_IsPath N x.1) :=
  runD_sound (mkE_ok blob_IsPath_h (blob_IsPath_fn N) _ _ (blob_IsPath_fn_ok N)) Tryd.func38 rfl Tryd.call38 (blob_IsPath_sg fun x _ => blob_IsPath N x.1) blob_IsPath_pk (fun _ _ => rfl) N (fun x y _ h => ((runL_eq (blob_IsPath_E N) N Tryd.f38 (blob_IsPath_sg fun x _ => blob_IsPath N x.1) blob_IsPath_pk (blob_IsPath_LP N) (show LoopsOk (blob_IsPath_LP N) (blob_IsPath_E N) N (resD (blob_IsPath_E N) Tryd.f38 (blob_IsPath_sg fun x _ => blob_IsPath N x.1) blob_IsPath_pk) [(0, (cAt (bodyOf Tryd.f38) [true, true, false, true, false, false]))] from ⟨blob_IsPath_lp0 N, trivial⟩) x y).trans (blob_IsPath_core N x y)).trans h)
def ref1_within (_N : Nat) (x0 : Int) (x1 : Int) (x2 : Int) : Option Bool :=
  br (decide (x0 ≥ x1))
    (some (decide (x0 ≤ x2)))
    (some false)
end
end Go.Proofs.YthlkidohpiebiaaDoor


/- What functions of the program compute, as plain functions (printed). -/
namespace Go.Proofs.YthlkidohpiebiaaDoor
open Go Go.RowKit
set_option maxRecDepth 100000
set_option linter.unusedVariables false
noncomputable section
def ref1_partByte (_N : Nat) (x0 : UInt8) : Option Bool :=
  br (decide (x0 ≥ (97 : UInt8)))
    (br (decide (x0 ≤ (122 : UInt8)))
      (some true)
      (br (decide (x0 ≥ (65 : UInt8)))
        (br (decide (x0 ≤ (90 : UInt8)))
          (some true)
          (br (decide (x0 ≥ (48 : UInt8)))
            (br (decide (x0 ≤ (57 : UInt8)))
              (some true)
              (br (x0 == (46 : UInt8))
                (some true)
                (br (x0 == (95 : UInt8))
                  (some true)
                  (br (x0 == (45 : UInt8))
                    (some true)
                    (some (x0 == (43 : UInt8)))))))
            (br (x0 == (46 : UInt8))
              (some true)
              (br (x0 == (95 : UInt8))
                (some true)
                (br (x0 == (45 : UInt8))
                  (some true)
                  (some (x0 == (43 : UInt8))))))))
        (br (decide (x0 ≥ (48 : UInt8)))
          (br (decide (x0 ≤ (57 : UInt8)))
            (some true)
            (br (x0 == (46 : UInt8))
              (some true)
              (br (x0 == (95 : UInt8))
                (some true)
                (br (x0 == (45 : UInt8))
                  (some true)
                  (some (x0 == (43 : UInt8)))))))
          (br (x0 == (46 : UInt8))
            (some true)
            (br (x0 == (95 : UInt8))
              (some true)
              (br (x0 == (45 : UInt8))
                (some true)
                (some (x0 == (43 : UInt8)))))))))
    (br (decide (x0 ≥ (65 : UInt8)))
      (br (decide (x0 ≤ (90 : UInt8)))
        (some true)
        (br (decide (x0 ≥ (48 : UInt8)))
          (br (decide (x0 ≤ (57 : UInt8)))
            (some true)
            (br (x0 == (46 : UInt8))
              (some true)
              (br (x0 == (95 : UInt8))
                (some true)
                (br (x0 == (45 : UInt8))
                  (some true)
                  (some (x0 == (43 : UInt8)))))))
          (br (x0 == (46 : UInt8))
            (some true)
            (br (x0 == (95 : UInt8))
              (some true)
              (br (x0 == (45 : UInt8))
                (some true)
                (some (x0 == (43 : UInt8))))))))
      (br (decide (x0 ≥ (48 : UInt8)))
        (br (decide (x0 ≤ (57 : UInt8)))
          (some true)
          (br (x0 == (46 : UInt8))
            (some true)
            (br (x0 == (95 : UInt8))
              (some true)
              (br (x0 == (45 : UInt8))
                (some true)
                (some (x0 == (43 : UInt8)))))))
        (br (x0 == (46 : UInt8))
          (some true)
          (br (x0 == (95 : UInt8))
            (some true)
            (br (x0 == (45 : UInt8))
              (some true)
              (some (x0 == (43 : UInt8))))))))
def ref1_isPart_L0T (N : Nat) (x0 : Str) (k0 : Option Bool) (self : Int → Option Bool) (s3 : Int) : Option Bool :=
  br (decide (s3 < (x0.length : Int)))
    (bnd (geti x0 s3) fun t12 =>
    bnd (ref1_partByte N t12) fun t13 =>
    br (!t13)
      (some false)
      (self (IntKind.i64.wrap (s3 + (1 : Int)))))
    (k0)
def ref1_isPart_L0 (N : Nat) (x0 : Str) (k0 : Option Bool) : Nat → Int → Option Bool
  | 0, _ => none
  | n + 1, s3 => ref1_isPart_L0T N x0 k0 (ref1_isPart_L0 N x0 k0 n) s3
def ref1_isPart (N : Nat) (x0 : Str) : Option Bool :=
  ref1_isPart_L0 N x0 (br (!(x0 == ([] : Str)))
        (br (!(x0 == ([46] : Str)))
          (some (!(x0 == ([46, 46] : Str))))
          (some false))
        (some false)) N (0 : Int)
def ref1_IsPath_L0T (N : Nat) (t10 : List Str) (k0 : Option Bool) (self : Int → Option Bool) (s4 : Int) : Option Bool :=
  br (decide (s4 < (t10.length : Int)))
    (bnd (geti t10 s4) fun t19 =>
    bnd (ref1_isPart N t19) fun t21 =>
    br (!t21)
      (some false)
      (self (IntKind.i64.wrap (s4 + (1 : Int)))))
    (k0)
def ref1_IsPath_L0 (N : Nat) (t10 : List Str) (k0 : Option Bool) : Nat → Int → Option Bool
  | 0, _ => none
  | n + 1, s4 => ref1_IsPath_L0T N t10 k0 (ref1_IsPath_L0 N t10 k0 n) s4
def ref1_IsPath (N : Nat) (x0 : Str) : Option Bool :=
  bnd (ref1_within N (x0.length : Int) (1 : Int) (200 : Int)) fun t7 =>
  br (!t7)
    (some false)
    (bnd (strings_Split x0 ([47] : Str)) fun t10 =>
    ref1_IsPath_L0 N t10 (some true) N (0 : Int))
def blob_Digest_L0T (_N : Nat) (x0 : List UInt8) (c9 : Int) (k0 : Int → Option Str) (self : Int → Int → Option Str) (s3 : Int) (s10 : Int) : Option Str :=
  br (decide (s10 < c9))
    (bnd (geti x0 s10) fun t12 =>
    self (IntKind.u64.wrap ((xorI .u64 s3 (IntKind.u64.wrap (UInt8.toNat t12 : Int))) * (1099511628211 : Int))) (IntKind.i64.wrap (s10 + (1 : Int))))
    (k0 s3)
def blob_Digest_L0 (N : Nat) (x0 : List UInt8) (c9 : Int) (k0 : Int → Option Str) : Nat → Int → Int → Option Str
  | 0, _, _ => none
  | n + 1, s3, s10 => blob_Digest_L0T N x0 c9 k0 (blob_Digest_L0 N x0 c9 k0 n) s3 s10
def blob_Digest_L1T (_N : Nat) (c22 : Int) (k2 : (List UInt8) → Option Str) (self : Int → Int → (List UInt8) → Option Str) (s3_1 : Int) (s23 : Int) (w1020 : List UInt8) : Option Str :=
  br (decide (s23 < c22))
    (bnd (geti ([48, 49, 50, 51, 52, 53, 54, 55, 56, 57, 97, 98, 99, 100, 101, 102] : Str) (andI .u64 s3_1 (15 : Int))) fun t31 =>
    br (decide (0 ≤ (IntKind.i64.wrap ((15 : Int) - s23)) ∧ (IntKind.i64.wrap ((15 : Int) - s23)) < (w1020.length : Int)))
      (bnd (geti w1020 (IntKind.i64.wrap ((15 : Int) - s23))) fun _ =>
      br (decide (0 ≤ (4 : Int)))
        (self (shrI .u64 s3_1 (4 : Int)) (IntKind.i64.wrap (s23 + (1 : Int))) (seti w1020 (IntKind.i64.wrap ((15 : Int) - s23)) t31))
        none)
      none)
    (k2 w1020)
def blob_Digest_L1 (N : Nat) (c22 : Int) (k2 : (List UInt8) → Option Str) : Nat → Int → Int → (List UInt8) → Option Str
  | 0, _, _, _ => none
  | n + 1, s3_1, s23, w1020 => blob_Digest_L1T N c22 k2 (blob_Digest_L1 N c22 k2 n) s3_1 s23 w1020
def blob_Digest (N : Nat) (x0 : List UInt8) : Option Str :=
  blob_Digest_L0 N x0 (x0.length : Int) (fun o0_3 =>
      br (decide (0 ≤ (16 : Int) ∧ (16 : Int) ≤ (16 : Int) ∧ (16 : Int) * (24 * Ty.sz .u8 : Nat) ≤ 140737488355328))
        (blob_Digest_L1 N ((mk0 (16 : Int) (zero .u8)).length : Int) (fun o1_w1020 =>
            some o1_w1020) N o0_3 (0 : Int) (mk0 (16 : Int) (zero .u8)))
        none) N (14695981039346656037 : Int) (0 : Int)
abbrev blob_Digest_sg (f : SV [.v (.sl .u8)] → BV [] → Option (Str)) : AF := { ps := [.v (.sl .u8)], bs := [], rs := [.v .str], cs := [], R := Str, out := fun z => ((z, ()), ()), f := f }
abbrev blob_Digest_pk : SV [.v .str] → BV [] → Str := fun x _ => x.1
def blob_Digest_fn (_N : Nat) : FuncId → Option Tmp → Option AF := fun f _ =>
  match f with
    | _ => none
theorem blob_Digest_fn_ok (N : Nat) : ∀ f q F, blob_Digest_fn N f q = some F → Sound Tryd.prog GW B0G f F := by
  intro f q F h
  unfold blob_Digest_fn at h
  split at h
  · cases h
def blob_Digest_h : Nat → Hint := fun i =>
  match i with
  | 0 => ⟨[], [3, 8, 9, 10], [], [3], [], []⟩
  | 2 => ⟨[], [3, 6, 22, 23], [1020], [6], [1020], []⟩
  | _ => ⟨[], [], [], [], [], []⟩
abbrev blob_Digest_E (N : Nat) : Env := mkE blob_Digest_h (blob_Digest_fn N) (fun i => match i with | 20 => true | _ => false) (fun _ => false)
abbrev blob_Digest_L0_fs : List (Nat × Sl) := [(3, .v (.int .u64)), (8, .v (.sl .u8)), (9, .v (.int .i64)), (10, .v (.int .i64))]
abbrev blob_Digest_L0_bs : List (Nat × Sb) := []
def blob_Digest_L0_hd (x0 : List UInt8) (c9 : Int) (s3 : Int) (s10 : Int) : St := ⟨38, [(3, .v (.int .u64) s3), (8, .v (.sl .u8) x0), (9, .v (.int .i64) c9), (10, .v (.int .i64) s10)], []⟩
def blob_Digest_L0_tl0 (_x0 : List UInt8) (_c9 : Int) (o0_3 : Int) : St := ⟨38, [(3, .v (.int .u64) o0_3)], []⟩
def blob_Digest_L0_G (N : Nat) (x0 : List UInt8) (c9 : Int) (s3 : Int) (s10 : Int) (k : Ex → St → Option Str) : Option Str :=
  blob_Digest_L0 N x0 c9 (fun o0_3 => k (.exit 0) (blob_Digest_L0_tl0 x0 c9 o0_3)) N s3 s10
abbrev blob_Digest_L0_F (N : Nat) : FV blob_Digest_L0_fs → HV blob_Digest_L0_bs → (Ex → St → Option Str) → Option Str := fun x _ k => blob_Digest_L0_G N x.2.1 x.2.2.1 x.1 x.2.2.2.1 k
abbrev blob_Digest_L1_fs : List (Nat × Sl) := [(3, .v (.int .u64)), (6, .row 1020), (22, .v (.int .i64)), (23, .v (.int .i64))]
abbrev blob_Digest_L1_bs : List (Nat × Sb) := [(1020, .row 5 .u8 true)]
def blob_Digest_L1_hd (c22 : Int) (s3_1 : Int) (s23 : Int) (w1020 : List UInt8) : St := ⟨38, [(3, .v (.int .u64) s3_1), (6, .row 1020), (22, .v (.int .i64) c22), (23, .v (.int .i64) s23)], [(1020, .row 5 .u8 true w1020)]⟩
def blob_Digest_L1_tl2 (_c22 : Int) (o1_w1020 : List UInt8) : St := ⟨38, [(6, .row 1020)], [(1020, .row 5 .u8 true o1_w1020)]⟩
def blob_Digest_L1_G (N : Nat) (c22 : Int) (s3_1 : Int) (s23 : Int) (w1020 : List UInt8) (k : Ex → St → Option Str) : Option Str :=
  blob_Digest_L1 N c22 (fun o1_w1020 => k (.exit 2) (blob_Digest_L1_tl2 c22 o1_w1020)) N s3_1 s23 w1020
abbrev blob_Digest_L1_F (N : Nat) : FV blob_Digest_L1_fs → HV blob_Digest_L1_bs → (Ex → St → Option Str) → Option Str := fun x y k => blob_Digest_L1_G N x.2.2.1 x.1 x.2.2.2.1 y.1 k
noncomputable def blob_Digest_LP (N : Nat) : Nat → Code → St → (Ex → St → Option Str) → Option Str := fun i c =>
  match i with
  | 0 => (LPc 38 blob_Digest_L0_fs blob_Digest_L0_bs (blob_Digest_L0_F N) (fun st k => iter (blob_Digest_h 0) (exec (blob_Digest_E N) N c 0) N st k))
  | 2 => (LPc 38 blob_Digest_L1_fs blob_Digest_L1_bs (blob_Digest_L1_F N) (fun st k => iter (blob_Digest_h 2) (exec (blob_Digest_E N) N c 2) N st k))
  | i => fun st k => iter (blob_Digest_h i) (exec (blob_Digest_E N) N c i) N st k
theorem blob_Digest_L1_step (N : Nat) (c22 : Int) (KX : Nat → St → Option Str) (I : St → Option Str) (s3_1 : Int) (s23 : Int) (w1020 : List UInt8) :
    execL (blob_Digest_LP N) (blob_Digest_E N) (cAt (bodyOf Tryd.f47) [true, true, true, true, false, true, false, false]) 2 (blob_Digest_L1_hd c22 s3_1 s23 w1020) (roundK (blob_Digest_h 2) I KX (resD (blob_Digest_E N) Tryd.f47 (blob_Digest_sg fun x _ => blob_Digest N x.1) blob_Digest_pk)) = blob_Digest_L1T N c22 (fun o1_w1020 => KX 2 (blob_Digest_L1_tl2 c22 o1_w1020)) (fun s3_1 s23 w1020 => I (blob_Digest_L1_hd c22 s3_1 s23 w1020)) s3_1 s23 w1020 := by kernel_rfl
theorem blob_Digest_L1_ok (N : Nat) : ∀ x y k, (∀ st, k .ret st = (resD (blob_Digest_E N) Tryd.f47 (blob_Digest_sg fun x _ => blob_Digest N x.1) blob_Digest_pk) st) → iter (blob_Digest_h 2) (exec (blob_Digest_E N) N (cAt (bodyOf Tryd.f47) [true, true, true, true, false, true, false, false]) 2) N ⟨38, unF blob_Digest_L1_fs x, unH blob_Digest_L1_bs y⟩ k = blob_Digest_L1_F N x y k := fun x y k hk =>
  iter_link (S := (Int) × (Int) × (List UInt8) × Unit) (blob_Digest_h 2) _ (execL (blob_Digest_LP N) (blob_Digest_E N) (cAt (bodyOf Tryd.f47) [true, true, true, true, false, true, false, false]) 2) (resD (blob_Digest_E N) Tryd.f47 (blob_Digest_sg fun x _ => blob_Digest N x.1) blob_Digest_pk) (fun st k hk => execL_eq _ _ N _ (cAt (bodyOf Tryd.f47) [true, true, true, true, false, true, false, false]) 2 (show LoopsOk (blob_Digest_LP N) (blob_Digest_E N) N (resD (blob_Digest_E N) Tryd.f47 (blob_Digest_sg fun x _ => blob_Digest N x.1) blob_Digest_pk) [] from trivial) st k hk) (fun s => blob_Digest_L1_hd x.2.2.1 s.1 s.2.1 s.2.2.1) k hk
    (fun self s => blob_Digest_L1T N x.2.2.1 (fun o1_w1020 => k (.exit 2) (blob_Digest_L1_tl2 x.2.2.1 o1_w1020)) (fun s3_1 s23 w1020 => self (s3_1, s23, w1020, ())) s.1 s.2.1 s.2.2.1) (fun n s => blob_Digest_L1 N x.2.2.1 (fun o1_w1020 => k (.exit 2) (blob_Digest_L1_tl2 x.2.2.1 o1_w1020)) n s.1 s.2.1 s.2.2.1) (fun _ => rfl) (fun _ _ => rfl)
    (fun I s => blob_Digest_L1_step N x.2.2.1 (fun j => k (.exit j)) I s.1 s.2.1 s.2.2.1) N (x.1, x.2.2.2.1, y.1, ())
theorem blob_Digest_lp2 (N : Nat) : ∀ st k, (∀ st, k .ret st = (resD (blob_Digest_E N) Tryd.f47 (blob_Digest_sg fun x _ => blob_Digest N x.1) blob_Digest_pk) st) → blob_Digest_LP N 2 (cAt (bodyOf Tryd.f47) [true, true, true, true, false, true, false, false]) st k = iter (Env.hint (blob_Digest_E N) 2) (exec (blob_Digest_E N) N (cAt (bodyOf Tryd.f47) [true, true, true, true, false, true, false, false]) 2) N st k := fun st k hk => LPc_eq 38 blob_Digest_L1_fs blob_Digest_L1_bs _ _ (resD (blob_Digest_E N) Tryd.f47 (blob_Digest_sg fun x _ => blob_Digest N x.1) blob_Digest_pk) (blob_Digest_L1_ok N) _ st k hk (rfl)
theorem blob_Digest_L0_step (N : Nat) (x0 : List UInt8) (c9 : Int) (KX : Nat → St → Option Str) (I : St → Option Str) (s3 : Int) (s10 : Int) :
    execL (blob_Digest_LP N) (blob_Digest_E N) (cAt (bodyOf Tryd.f47) [true, true, false, true, false, false]) 0 (blob_Digest_L0_hd x0 c9 s3 s10) (roundK (blob_Digest_h 0) I KX (resD (blob_Digest_E N) Tryd.f47 (blob_Digest_sg fun x _ => blob_Digest N x.1) blob_Digest_pk)) = blob_Digest_L0T N x0 c9 (fun o0_3 => KX 0 (blob_Digest_L0_tl0 x0 c9 o0_3)) (fun s3 s10 => I (blob_Digest_L0_hd x0 c9 s3 s10)) s3 s10 := by kernel_rfl
theorem blob_Digest_L0_ok (N : Nat) : ∀ x y k, (∀ st, k .ret st = (resD (blob_Digest_E N) Tryd.f47 (blob_Digest_sg fun x _ => blob_Digest N x.1) blob_Digest_pk) st) → iter (blob_Digest_h 0) (exec (blob_Digest_E N) N (cAt (bodyOf Tryd.f47) [true, true, false, true, false, false]) 0) N ⟨38, unF blob_Digest_L0_fs x, unH blob_Digest_L0_bs y⟩ k = blob_Digest_L0_F N x y k := fun x _ k hk =>
  iter_link (S := (Int) × (Int) × Unit) (blob_Digest_h 0) _ (execL (blob_Digest_LP N) (blob_Digest_E N) (cAt (bodyOf Tryd.f47) [true, true, false, true, false, false]) 0) (resD (blob_Digest_E N) Tryd.f47 (blob_Digest_sg fun x _ => blob_Digest N x.1) blob_Digest_pk) (fun st k hk => execL_eq _ _ N _ (cAt (bodyOf Tryd.f47) [true, true, false, true, false, false]) 0 (show LoopsOk (blob_Digest_LP N) (blob_Digest_E N) N (resD (blob_Digest_E N) Tryd.f47 (blob_Digest_sg fun x _ => blob_Digest N x.1) blob_Digest_pk) [] from trivial) st k hk) (fun s => blob_Digest_L0_hd x.2.1 x.2.2.1 s.1 s.2.1) k hk
    (fun self s => blob_Digest_L0T N x.2.1 x.2.2.1 (fun o0_3 => k (.exit 0) (blob_Digest_L0_tl0 x.2.1 x.2.2.1 o0_3)) (fun s3 s10 => self (s3, s10, ())) s.1 s.2.1) (fun n s => blob_Digest_L0 N x.2.1 x.2.2.1 (fun o0_3 => k (.exit 0) (blob_Digest_L0_tl0 x.2.1 x.2.2.1 o0_3)) n s.1 s.2.1) (fun _ => rfl) (fun _ _ => rfl)
    (fun I s => blob_Digest_L0_step N x.2.1 x.2.2.1 (fun j => k (.exit j)) I s.1 s.2.1) N (x.1, x.2.2.2.1, ())
theorem blob_Digest_lp0 (N : Nat) : ∀ st k, (∀ st, k .ret st = (resD (blob_Digest_E N) Tryd.f47 (blob_Digest_sg fun x _ => blob_Digest N x.1) blob_Digest_pk) st) → blob_Digest_LP N 0 (cAt (bodyOf Tryd.f47) [true, true, false, true, false, false]) st k = iter (Env.hint (blob_Digest_E N) 0) (exec (blob_Digest_E N) N (cAt (bodyOf Tryd.f47) [true, true, false, true, false, false]) 0) N st k := fun st k hk => LPc_eq 38 blob_Digest_L0_fs blob_Digest_L0_bs _ _ (resD (blob_Digest_E N) Tryd.f47 (blob_Digest_sg fun x _ => blob_Digest N x.1) blob_Digest_pk) (blob_Digest_L0_ok N) _ st k hk (rfl)
theorem blob_Digest_core (N : Nat) (x : SV [.v (.sl .u8)]) (y : BV []) : runL (blob_Digest_E N) Tryd.f47 (blob_Digest_sg fun x _ => blob_Digest N x.1) blob_Digest_pk (blob_Digest_LP N) x y = blob_Digest N x.1 := by kernel_rfl
theorem blob_Digest_sound (N : Nat) : Sound Tryd.prog GW B0G 47 (blob_Digest_sg fun x _ => blob_Digest N x.1) :=
  runD_sound (mkE_ok blob_Digest_h (blob_Digest_fn N) _ _ (blob_Digest_fn_ok N)) Tryd.func47 rfl Tryd.call47 (blob_Digest_sg fun x _ => blob_Digest N x.1) blob_Digest_pk (fun _ _ => rfl) N (fun x y _ h => ((runL_eq (blob_Digest_E N) N Tryd.f47 (blob_Digest_sg fun x _ => blob_Digest N x.1) blob_Digest_pk (blob_Digest_LP N) (show LoopsOk (blob_Digest_LP N) (blob_Digest_E N) N (resD (blob_Digest_E N) Tryd.f47 (blob_Digest_sg fun x _ => blob_Digest N x.1) blob_Digest_pk) [(0, (cAt (bodyOf Tryd.f47) [true, true, false, true, false, false])), (2, (cAt (bodyOf Tryd.f47) [true, true, true, true, false, true, false, false]))] from ⟨blob_Digest_lp0 N, blob_Digest_lp2 N, trivial⟩) x y).trans (blob_Digest_core N x y)).trans h)
def law1_awake (N : Nat) : Option Bool :=
  bnd (blob_Digest N ([] : List UInt8)) fun t1 =>
  some (t1 == ([99, 98, 102, 50, 57, 99, 101, 52, 56, 52, 50, 50, 50, 51, 50, 53] : Str))
abbrev law1_awake_sg (f : SV [] → BV [] → Option (Bool)) : AF := { ps := [], bs := [], rs := [.v .bool], cs := [], R := Bool, out := fun z => ((z, ()), ()), f := f }
abbrev law1_awake_pk : SV [.v .bool] → BV [] → Bool := fun x _ => x.1
def law1_awake_fn (N : Nat) : FuncId → Option Tmp → Option AF := fun f _ =>
  match f with
    | 47 => some (blob_Digest_sg fun x _ => blob_Digest N x.1)
    | _ => none
theorem law1_awake_fn_ok (N : Nat) : ∀ f q F, law1_awake_fn N f q = some F → Sound Tryd.prog GW B0G f F := by
  intro f q F h
  unfold law1_awake_fn at h
  split at h
  · cases h; exact blob_Digest_sound N
  · cases h
def law1_awake_h : Nat → Hint := fun i =>
  match i with
  | _ => ⟨[], [], [], [], [], []⟩
abbrev law1_awake_E (N : Nat) : Env := mkE law1_awake_h (law1_awake_fn N) (fun _ => false) (fun _ => false)
noncomputable def law1_awake_LP (N : Nat) : Nat → Code → St → (Ex → St → Option Bool) → Option Bool := fun i c =>
  match i with
  | i => fun st k => iter (law1_awake_h i) (exec (law1_awake_E N) N c i) N st k
theorem law1_awake_core (N : Nat) (x : SV []) (y : BV []) : runL (law1_awake_E N) Tryd.f18 (law1_awake_sg fun _ _ => law1_awake N) law1_awake_pk (law1_awake_LP N) x y = law1_awake N := by kernel_rfl
theorem law1_awake_sound (N : Nat) : Sound Tryd.prog GW B0G 18 (law1_awake_sg fun _ _ => law1_awake N) :=
  runD_sound (mkE_ok law1_awake_h (law1_awake_fn N) _ _ (law1_awake_fn_ok N)) Tryd.func18 rfl Tryd.call18 (law1_awake_sg fun _ _ => law1_awake N) law1_awake_pk (fun _ _ => rfl) N (fun x y _ h => ((runL_eq (law1_awake_E N) N Tryd.f18 (law1_awake_sg fun _ _ => law1_awake N) law1_awake_pk (law1_awake_LP N) (show LoopsOk (law1_awake_LP N) (law1_awake_E N) N (resD (law1_awake_E N) Tryd.f18 (law1_awake_sg fun _ _ => law1_awake N) law1_awake_pk) [] from trivial) x y).trans (law1_awake_core N x y)).trans h)
end
end Go.Proofs.YthlkidohpiebiaaDoor


/- What functions of the program compute, as plain functions (printed). -/
namespace Go.Proofs.YthlkidohpiebiaaDoor
open Go Go.RowKit
set_option maxRecDepth 100000
set_option linter.unusedVariables false
noncomputable section
def blob_clashes_L0T (_N : Nat) (x0 : List (Str × Bool)) (x1 : Str) (c7 : Int) (k0 : Option Bool) (self : Int → Option Bool) (s8 : Int) : Option Bool :=
  br (decide (s8 < c7))
    (bnd (geti x1 s8) fun t13 =>
    br (t13 == (47 : UInt8))
      (bnd (slc x1 (0 : Int) s8) fun t19 =>
      br ((mget x0 t19).getD (zero .bool))
        (some true)
        (self (IntKind.i64.wrap (s8 + (1 : Int)))))
      (self (IntKind.i64.wrap (s8 + (1 : Int)))))
    (k0)
def blob_clashes_L0 (N : Nat) (x0 : List (Str × Bool)) (x1 : Str) (c7 : Int) (k0 : Option Bool) : Nat → Int → Option Bool
  | 0, _ => none
  | n + 1, s8 => blob_clashes_L0T N x0 x1 c7 k0 (blob_clashes_L0 N x0 x1 c7 k0 n) s8
def blob_clashes (N : Nat) (x0 : List (Str × Bool)) (x1 : Str) : Option Bool :=
  blob_clashes_L0 N x0 x1 (x1.length : Int) (some false) N (0 : Int)
abbrev blob_clashes_sg (f : SV [.v (.mp .bool), .v .str] → BV [] → Option (Bool)) : AF := { ps := [.v (.mp .bool), .v .str], bs := [], rs := [.v .bool], cs := [], R := Bool, out := fun z => ((z, ()), ()), f := f }
abbrev blob_clashes_pk : SV [.v .bool] → BV [] → Bool := fun x _ => x.1
def blob_clashes_fn (_N : Nat) : FuncId → Option Tmp → Option AF := fun f _ =>
  match f with
    | _ => none
theorem blob_clashes_fn_ok (N : Nat) : ∀ f q F, blob_clashes_fn N f q = some F → Sound Tryd.prog GW B0G f F := by
  intro f q F h
  unfold blob_clashes_fn at h
  split at h
  · cases h
def blob_clashes_h : Nat → Hint := fun i =>
  match i with
  | 0 => ⟨[], [0, 1, 7, 8], [], [], [], []⟩
  | _ => ⟨[], [], [], [], [], []⟩
abbrev blob_clashes_E (N : Nat) : Env := mkE blob_clashes_h (blob_clashes_fn N) (fun _ => false) (fun _ => false)
abbrev blob_clashes_L0_fs : List (Nat × Sl) := [(0, .v (.mp .bool)), (1, .v .str), (7, .v (.int .i64)), (8, .v (.int .i64))]
abbrev blob_clashes_L0_bs : List (Nat × Sb) := []
def blob_clashes_L0_hd (x0 : List (Str × Bool)) (x1 : Str) (c7 : Int) (s8 : Int) : St := ⟨23, [(0, .v (.mp .bool) x0), (1, .v .str x1), (7, .v (.int .i64) c7), (8, .v (.int .i64) s8)], []⟩
def blob_clashes_L0_tl0 (_x0 : List (Str × Bool)) (_x1 : Str) (_c7 : Int) : St := ⟨23, [], []⟩
def blob_clashes_L0_G (N : Nat) (x0 : List (Str × Bool)) (x1 : Str) (c7 : Int) (s8 : Int) (k : Ex → St → Option Bool) : Option Bool :=
  blob_clashes_L0 N x0 x1 c7 (k (.exit 0) (blob_clashes_L0_tl0 x0 x1 c7)) N s8
abbrev blob_clashes_L0_F (N : Nat) : FV blob_clashes_L0_fs → HV blob_clashes_L0_bs → (Ex → St → Option Bool) → Option Bool := fun x _ k => blob_clashes_L0_G N x.1 x.2.1 x.2.2.1 x.2.2.2.1 k
noncomputable def blob_clashes_LP (N : Nat) : Nat → Code → St → (Ex → St → Option Bool) → Option Bool := fun i c =>
  match i with
  | 0 => (LPc 23 blob_clashes_L0_fs blob_clashes_L0_bs (blob_clashes_L0_F N) (fun st k => iter (blob_clashes_h 0) (exec (blob_clashes_E N) N c 0) N st k))
  | i => fun st k => iter (blob_clashes_h i) (exec (blob_clashes_E N) N c i) N st k
theorem blob_clashes_L0_step (N : Nat) (x0 : List (Str × Bool)) (x1 : Str) (c7 : Int) (KX : Nat → St → Option Bool) (I : St → Option Bool) (s8 : Int) :
    execL (blob_clashes_LP N) (blob_clashes_E N) (cAt (bodyOf Tryd.f70) [true, false, true, false, false]) 0 (blob_clashes_L0_hd x0 x1 c7 s8) (roundK (blob_clashes_h 0) I KX (resD (blob_clashes_E N) Tryd.f70 (blob_clashes_sg fun x _ => blob_clashes N x.1 x.2.1) blob_clashes_pk)) = blob_clashes_L0T N x0 x1 c7 (KX 0 (blob_clashes_L0_tl0 x0 x1 c7)) (fun s8 => I (blob_clashes_L0_hd x0 x1 c7 s8)) s8 := by kernel_rfl
theorem blob_clashes_L0_ok (N : Nat) : ∀ x y k, (∀ st, k .ret st = (resD (blob_clashes_E N) Tryd.f70 (blob_clashes_sg fun x _ => blob_clashes N x.1 x.2.1) blob_clashes_pk) st) → iter (blob_clashes_h 0) (exec (blob_clashes_E N) N (cAt (bodyOf Tryd.f70) [true, false, true, false, false]) 0) N ⟨23, unF blob_clashes_L0_fs x, unH blob_clashes_L0_bs y⟩ k = blob_clashes_L0_F N x y k := fun x _ k hk =>
  iter_link (S := (Int) × Unit) (blob_clashes_h 0) _ (execL (blob_clashes_LP N) (blob_clashes_E N) (cAt (bodyOf Tryd.f70) [true, false, true, false, false]) 0) (resD (blob_clashes_E N) Tryd.f70 (blob_clashes_sg fun x _ => blob_clashes N x.1 x.2.1) blob_clashes_pk) (fun st k hk => execL_eq _ _ N _ (cAt (bodyOf Tryd.f70) [true, false, true, false, false]) 0 (show LoopsOk (blob_clashes_LP N) (blob_clashes_E N) N (resD (blob_clashes_E N) Tryd.f70 (blob_clashes_sg fun x _ => blob_clashes N x.1 x.2.1) blob_clashes_pk) [] from trivial) st k hk) (fun s => blob_clashes_L0_hd x.1 x.2.1 x.2.2.1 s.1) k hk
    (fun self s => blob_clashes_L0T N x.1 x.2.1 x.2.2.1 (k (.exit 0) (blob_clashes_L0_tl0 x.1 x.2.1 x.2.2.1)) (fun s8 => self (s8, ())) s.1) (fun n s => blob_clashes_L0 N x.1 x.2.1 x.2.2.1 (k (.exit 0) (blob_clashes_L0_tl0 x.1 x.2.1 x.2.2.1)) n s.1) (fun _ => rfl) (fun _ _ => rfl)
    (fun I s => blob_clashes_L0_step N x.1 x.2.1 x.2.2.1 (fun j => k (.exit j)) I s.1) N (x.2.2.2.1, ())
theorem blob_clashes_lp0 (N : Nat) : ∀ st k, (∀ st, k .ret st = (resD (blob_clashes_E N) Tryd.f70 (blob_clashes_sg fun x _ => blob_clashes N x.1 x.2.1) blob_clashes_pk) st) → blob_clashes_LP N 0 (cAt (bodyOf Tryd.f70) [true, false, true, false, false]) st k = iter (Env.hint (blob_clashes_E N) 0) (exec (blob_clashes_E N) N (cAt (bodyOf Tryd.f70) [true, false, true, false, false]) 0) N st k := fun st k hk => LPc_eq 23 blob_clashes_L0_fs blob_clashes_L0_bs _ _ (resD (blob_clashes_E N) Tryd.f70 (blob_clashes_sg fun x _ => blob_clashes N x.1 x.2.1) blob_clashes_pk) (blob_clashes_L0_ok N) _ st k hk (rfl)
theorem blob_clashes_core (N : Nat) (x : SV [.v (.mp .bool), .v .str]) (y : BV []) : runL (blob_clashes_E N) Tryd.f70 (blob_clashes_sg fun x _ => blob_clashes N x.1 x.2.1) blob_clashes_pk (blob_clashes_LP N) x y = blob_clashes N x.1 x.2.1 := by kernel_rfl
theorem blob_clashes_sound (N : Nat) : Sound Tryd.prog GW B0G 70 (blob_clashes_sg fun x _ => blob_clashes N x.1 x.2.1) :=
  runD_sound (mkE_ok blob_clashes_h (blob_clashes_fn N) _ _ (blob_clashes_fn_ok N)) Tryd.func70 rfl Tryd.call70 (blob_clashes_sg fun x _ => blob_clashes N x.1 x.2.1) blob_clashes_pk (fun _ _ => rfl) N (fun x y _ h => ((runL_eq (blob_clashes_E N) N Tryd.f70 (blob_clashes_sg fun x _ => blob_clashes N x.1 x.2.1) blob_clashes_pk (blob_clashes_LP N) (show LoopsOk (blob_clashes_LP N) (blob_clashes_E N) N (resD (blob_clashes_E N) Tryd.f70 (blob_clashes_sg fun x _ => blob_clashes N x.1 x.2.1) blob_clashes_pk) [(0, (cAt (bodyOf Tryd.f70) [true, false, true, false, false]))] from ⟨blob_clashes_lp0 N, trivial⟩) x y).trans (blob_clashes_core N x y)).trans h)
def blob_CheckFiles_L0T (N : Nat) (x0 : List (Str × Bool × List UInt8)) (c13 : List (Str × Bool × List UInt8)) (c14 : Int) (k0 : Int → (List (Str × Bool)) → Option Int) (self : Int → Int → (List (Str × Bool)) → Option Int) (s3 : Int) (s15 : Int) (m1012 : List (Str × Bool)) : Option Int :=
  br (decide (s15 < c14))
    (bnd (geti c13 s15) fun t18 =>
    bnd (blob_IsPath N t18.1) fun t23 =>
    br (!t23)
      (some (3 : Int))
      (br (decide ((t18.2.2.length : Int) > (100000 : Int)))
        (some (2 : Int))
        (br (decide (s15 > (0 : Int)))
          (bnd (geti x0 (IntKind.i64.wrap (s15 - (1 : Int)))) fun t39 =>
          br (Op.bytesLess t18.1 t39.1 || t18.1 == t39.1)
            (some (8 : Int))
            (self (IntKind.i64.wrap (s3 + (t18.2.2.length : Int))) (IntKind.i64.wrap (s15 + (1 : Int))) (mset m1012 t18.1 true)))
          (self (IntKind.i64.wrap (s3 + (t18.2.2.length : Int))) (IntKind.i64.wrap (s15 + (1 : Int))) (mset m1012 t18.1 true)))))
    (k0 s3 m1012)
def blob_CheckFiles_L0 (N : Nat) (x0 : List (Str × Bool × List UInt8)) (c13 : List (Str × Bool × List UInt8)) (c14 : Int) (k0 : Int → (List (Str × Bool)) → Option Int) : Nat → Int → Int → (List (Str × Bool)) → Option Int
  | 0, _, _, _ => none
  | n + 1, s3, s15, m1012 => blob_CheckFiles_L0T N x0 c13 c14 k0 (blob_CheckFiles_L0 N x0 c13 c14 k0 n) s3 s15 m1012
def blob_CheckFiles_L1T (N : Nat) (x0 : List (Str × Bool × List UInt8)) (c54 : Int) (o0_m1012 : List (Str × Bool)) (k3 : Option Int) (self : Int → Option Int) (s55 : Int) : Option Int :=
  br (decide (s55 < c54))
    (bnd (geti x0 s55) fun t57 =>
    bnd (blob_clashes N o0_m1012 t57.1) fun t62 =>
    br (t62)
      (some (12 : Int))
      (self (IntKind.i64.wrap (s55 + (1 : Int)))))
    (k3)
def blob_CheckFiles_L1 (N : Nat) (x0 : List (Str × Bool × List UInt8)) (c54 : Int) (o0_m1012 : List (Str × Bool)) (k3 : Option Int) : Nat → Int → Option Int
  | 0, _ => none
  | n + 1, s55 => blob_CheckFiles_L1T N x0 c54 o0_m1012 k3 (blob_CheckFiles_L1 N x0 c54 o0_m1012 k3 n) s55
def blob_CheckFiles (N : Nat) (x0 : List (Str × Bool × List UInt8)) : Option Int :=
  br (decide ((x0.length : Int) > (1000 : Int)))
    (some (2 : Int))
    (blob_CheckFiles_L0 N x0 x0 (x0.length : Int) (fun o0_3 o0_m1012 =>
        blob_CheckFiles_L1 N x0 (x0.length : Int) o0_m1012 (br (decide (o0_3 > (2000000 : Int)))
              (some (2 : Int))
              (some (0 : Int))) N (0 : Int)) N (0 : Int) (0 : Int) ([] : List (Str × Bool)))
abbrev blob_CheckFiles_sg (f : SV [.v (.sl (.pr .str (.pr .bool (.sl .u8))))] → BV [] → Option (Int)) : AF := { ps := [.v (.sl (.pr .str (.pr .bool (.sl .u8))))], bs := [], rs := [.v (.int .i64)], cs := [], R := Int, out := fun z => ((z, ()), ()), f := f }
abbrev blob_CheckFiles_pk : SV [.v (.int .i64)] → BV [] → Int := fun x _ => x.1
def blob_CheckFiles_fn (N : Nat) : FuncId → Option Tmp → Option AF := fun f _ =>
  match f with
    | 38 => some (blob_IsPath_sg fun x _ => blob_IsPath N x.1)
    | 70 => some (blob_clashes_sg fun x _ => blob_clashes N x.1 x.2.1)
    | _ => none
theorem blob_CheckFiles_fn_ok (N : Nat) : ∀ f q F, blob_CheckFiles_fn N f q = some F → Sound Tryd.prog GW B0G f F := by
  intro f q F h
  unfold blob_CheckFiles_fn at h
  split at h
  · cases h; exact blob_IsPath_sound N
  · cases h; exact blob_clashes_sound N
  · cases h
def blob_CheckFiles_h : Nat → Hint := fun i =>
  match i with
  | 0 => ⟨[], [0, 3, 4, 13, 14, 15], [1012], [0, 3, 4], [1012], []⟩
  | 3 => ⟨[], [3, 4, 53, 54, 55], [1012], [3], [], []⟩
  | _ => ⟨[], [], [], [], [], []⟩
abbrev blob_CheckFiles_E (N : Nat) : Env := mkE blob_CheckFiles_h (blob_CheckFiles_fn N) (fun _ => false) (fun _ => false)
abbrev blob_CheckFiles_L0_fs : List (Nat × Sl) := [(0, .v (.sl (.pr .str (.pr .bool (.sl .u8))))), (3, .v (.int .i64)), (4, .mref 1012), (13, .v (.sl (.pr .str (.pr .bool (.sl .u8))))), (14, .v (.int .i64)), (15, .v (.int .i64))]
abbrev blob_CheckFiles_L0_bs : List (Nat × Sb) := [(1012, .map .bool)]
def blob_CheckFiles_L0_hd (x0 : List (Str × Bool × List UInt8)) (c13 : List (Str × Bool × List UInt8)) (c14 : Int) (s3 : Int) (s15 : Int) (m1012 : List (Str × Bool)) : St := ⟨66, [(0, .v (.sl (.pr .str (.pr .bool (.sl .u8)))) x0), (3, .v (.int .i64) s3), (4, .mref 1012), (13, .v (.sl (.pr .str (.pr .bool (.sl .u8)))) c13), (14, .v (.int .i64) c14), (15, .v (.int .i64) s15)], [(1012, .map .bool m1012)]⟩
def blob_CheckFiles_L0_tl0 (x0 : List (Str × Bool × List UInt8)) (_c13 : List (Str × Bool × List UInt8)) (_c14 : Int) (o0_3 : Int) (o0_m1012 : List (Str × Bool)) : St := ⟨66, [(0, .v (.sl (.pr .str (.pr .bool (.sl .u8)))) x0), (3, .v (.int .i64) o0_3), (4, .mref 1012)], [(1012, .map .bool o0_m1012)]⟩
def blob_CheckFiles_L0_G (N : Nat) (x0 : List (Str × Bool × List UInt8)) (c13 : List (Str × Bool × List UInt8)) (c14 : Int) (s3 : Int) (s15 : Int) (m1012 : List (Str × Bool)) (k : Ex → St → Option Int) : Option Int :=
  blob_CheckFiles_L0 N x0 c13 c14 (fun o0_3 o0_m1012 => k (.exit 0) (blob_CheckFiles_L0_tl0 x0 c13 c14 o0_3 o0_m1012)) N s3 s15 m1012
abbrev blob_CheckFiles_L0_F (N : Nat) : FV blob_CheckFiles_L0_fs → HV blob_CheckFiles_L0_bs → (Ex → St → Option Int) → Option Int := fun x y k => blob_CheckFiles_L0_G N x.1 x.2.2.2.1 x.2.2.2.2.1 x.2.1 x.2.2.2.2.2.1 y.1 k
abbrev blob_CheckFiles_L1_fs : List (Nat × Sl) := [(3, .v (.int .i64)), (4, .mref 1012), (53, .v (.sl (.pr .str (.pr .bool (.sl .u8))))), (54, .v (.int .i64)), (55, .v (.int .i64))]
abbrev blob_CheckFiles_L1_bs : List (Nat × Sb) := [(1012, .map .bool)]
def blob_CheckFiles_L1_hd (o0_3 : Int) (x0 : List (Str × Bool × List UInt8)) (c54 : Int) (o0_m1012 : List (Str × Bool)) (s55 : Int) : St := ⟨66, [(3, .v (.int .i64) o0_3), (4, .mref 1012), (53, .v (.sl (.pr .str (.pr .bool (.sl .u8)))) x0), (54, .v (.int .i64) c54), (55, .v (.int .i64) s55)], [(1012, .map .bool o0_m1012)]⟩
def blob_CheckFiles_L1_tl3 (o0_3 : Int) (_x0 : List (Str × Bool × List UInt8)) (_c54 : Int) (_o0_m1012 : List (Str × Bool)) : St := ⟨66, [(3, .v (.int .i64) o0_3)], []⟩
def blob_CheckFiles_L1_G (N : Nat) (o0_3 : Int) (x0 : List (Str × Bool × List UInt8)) (c54 : Int) (o0_m1012 : List (Str × Bool)) (s55 : Int) (k : Ex → St → Option Int) : Option Int :=
  blob_CheckFiles_L1 N x0 c54 o0_m1012 (k (.exit 3) (blob_CheckFiles_L1_tl3 o0_3 x0 c54 o0_m1012)) N s55
abbrev blob_CheckFiles_L1_F (N : Nat) : FV blob_CheckFiles_L1_fs → HV blob_CheckFiles_L1_bs → (Ex → St → Option Int) → Option Int := fun x y k => blob_CheckFiles_L1_G N x.1 x.2.2.1 x.2.2.2.1 y.1 x.2.2.2.2.1 k
noncomputable def blob_CheckFiles_LP (N : Nat) : Nat → Code → St → (Ex → St → Option Int) → Option Int := fun i c =>
  match i with
  | 0 => (LPc 66 blob_CheckFiles_L0_fs blob_CheckFiles_L0_bs (blob_CheckFiles_L0_F N) (fun st k => iter (blob_CheckFiles_h 0) (exec (blob_CheckFiles_E N) N c 0) N st k))
  | 3 => (LPc 66 blob_CheckFiles_L1_fs blob_CheckFiles_L1_bs (blob_CheckFiles_L1_F N) (fun st k => iter (blob_CheckFiles_h 3) (exec (blob_CheckFiles_E N) N c 3) N st k))
  | i => fun st k => iter (blob_CheckFiles_h i) (exec (blob_CheckFiles_E N) N c i) N st k
theorem blob_CheckFiles_L1_step (N : Nat) (o0_3 : Int) (x0 : List (Str × Bool × List UInt8)) (c54 : Int) (o0_m1012 : List (Str × Bool)) (KX : Nat → St → Option Int) (I : St → Option Int) (s55 : Int) :
    execL (blob_CheckFiles_LP N) (blob_CheckFiles_E N) (cAt (bodyOf Tryd.f35) [true, true, true, true, true, false, true, false, false]) 3 (blob_CheckFiles_L1_hd o0_3 x0 c54 o0_m1012 s55) (roundK (blob_CheckFiles_h 3) I KX (resD (blob_CheckFiles_E N) Tryd.f35 (blob_CheckFiles_sg fun x _ => blob_CheckFiles N x.1) blob_CheckFiles_pk)) = blob_CheckFiles_L1T N x0 c54 o0_m1012 (KX 3 (blob_CheckFiles_L1_tl3 o0_3 x0 c54 o0_m1012)) (fun s55 => I (blob_CheckFiles_L1_hd o0_3 x0 c54 o0_m1012 s55)) s55 := by kernel_rfl
theorem blob_CheckFiles_L1_ok (N : Nat) : ∀ x y k, (∀ st, k .ret st = (resD (blob_CheckFiles_E N) Tryd.f35 (blob_CheckFiles_sg fun x _ => blob_CheckFiles N x.1) blob_CheckFiles_pk) st) → iter (blob_CheckFiles_h 3) (exec (blob_CheckFiles_E N) N (cAt (bodyOf Tryd.f35) [true, true, true, true, true, false, true, false, false]) 3) N ⟨66, unF blob_CheckFiles_L1_fs x, unH blob_CheckFiles_L1_bs y⟩ k = blob_CheckFiles_L1_F N x y k := fun x y k hk =>
  iter_link (S := (Int) × Unit) (blob_CheckFiles_h 3) _ (execL (blob_CheckFiles_LP N) (blob_CheckFiles_E N) (cAt (bodyOf Tryd.f35) [true, true, true, true, true, false, true, false, false]) 3) (resD (blob_CheckFiles_E N) Tryd.f35 (blob_CheckFiles_sg fun x _ => blob_CheckFiles N x.1) blob_CheckFiles_pk) (fun st k hk => execL_eq _ _ N _ (cAt (bodyOf Tryd.f35) [true, true, true, true, true, false, true, false, false]) 3 (show LoopsOk (blob_CheckFiles_LP N) (blob_CheckFiles_E N) N (resD (blob_CheckFiles_E N) Tryd.f35 (blob_CheckFiles_sg fun x _ => blob_CheckFiles N x.1) blob_CheckFiles_pk) [] from trivial) st k hk) (fun s => blob_CheckFiles_L1_hd x.1 x.2.2.1 x.2.2.2.1 y.1 s.1) k hk
    (fun self s => blob_CheckFiles_L1T N x.2.2.1 x.2.2.2.1 y.1 (k (.exit 3) (blob_CheckFiles_L1_tl3 x.1 x.2.2.1 x.2.2.2.1 y.1)) (fun s55 => self (s55, ())) s.1) (fun n s => blob_CheckFiles_L1 N x.2.2.1 x.2.2.2.1 y.1 (k (.exit 3) (blob_CheckFiles_L1_tl3 x.1 x.2.2.1 x.2.2.2.1 y.1)) n s.1) (fun _ => rfl) (fun _ _ => rfl)
    (fun I s => blob_CheckFiles_L1_step N x.1 x.2.2.1 x.2.2.2.1 y.1 (fun j => k (.exit j)) I s.1) N (x.2.2.2.2.1, ())
theorem blob_CheckFiles_lp3 (N : Nat) : ∀ st k, (∀ st, k .ret st = (resD (blob_CheckFiles_E N) Tryd.f35 (blob_CheckFiles_sg fun x _ => blob_CheckFiles N x.1) blob_CheckFiles_pk) st) → blob_CheckFiles_LP N 3 (cAt (bodyOf Tryd.f35) [true, true, true, true, true, false, true, false, false]) st k = iter (Env.hint (blob_CheckFiles_E N) 3) (exec (blob_CheckFiles_E N) N (cAt (bodyOf Tryd.f35) [true, true, true, true, true, false, true, false, false]) 3) N st k := fun st k hk => LPc_eq 66 blob_CheckFiles_L1_fs blob_CheckFiles_L1_bs _ _ (resD (blob_CheckFiles_E N) Tryd.f35 (blob_CheckFiles_sg fun x _ => blob_CheckFiles N x.1) blob_CheckFiles_pk) (blob_CheckFiles_L1_ok N) _ st k hk (rfl)
theorem blob_CheckFiles_L0_step (N : Nat) (x0 : List (Str × Bool × List UInt8)) (c13 : List (Str × Bool × List UInt8)) (c14 : Int) (KX : Nat → St → Option Int) (I : St → Option Int) (s3 : Int) (s15 : Int) (m1012 : List (Str × Bool)) :
    execL (blob_CheckFiles_LP N) (blob_CheckFiles_E N) (cAt (bodyOf Tryd.f35) [true, true, true, true, false, true, false, false]) 0 (blob_CheckFiles_L0_hd x0 c13 c14 s3 s15 m1012) (roundK (blob_CheckFiles_h 0) I KX (resD (blob_CheckFiles_E N) Tryd.f35 (blob_CheckFiles_sg fun x _ => blob_CheckFiles N x.1) blob_CheckFiles_pk)) = blob_CheckFiles_L0T N x0 c13 c14 (fun o0_3 o0_m1012 => KX 0 (blob_CheckFiles_L0_tl0 x0 c13 c14 o0_3 o0_m1012)) (fun s3 s15 m1012 => I (blob_CheckFiles_L0_hd x0 c13 c14 s3 s15 m1012)) s3 s15 m1012 := by kernel_rfl
theorem blob_CheckFiles_L0_ok (N : Nat) : ∀ x y k, (∀ st, k .ret st = (resD (blob_CheckFiles_E N) Tryd.f35 (blob_CheckFiles_sg fun x _ => blob_CheckFiles N x.1) blob_CheckFiles_pk) st) → iter (blob_CheckFiles_h 0) (exec (blob_CheckFiles_E N) N (cAt (bodyOf Tryd.f35) [true, true, true, true, false, true, false, false]) 0) N ⟨66, unF blob_CheckFiles_L0_fs x, unH blob_CheckFiles_L0_bs y⟩ k = blob_CheckFiles_L0_F N x y k := fun x y k hk =>
  iter_link (S := (Int) × (Int) × (List (Str × Bool)) × Unit) (blob_CheckFiles_h 0) _ (execL (blob_CheckFiles_LP N) (blob_CheckFiles_E N) (cAt (bodyOf Tryd.f35) [true, true, true, true, false, true, false, false]) 0) (resD (blob_CheckFiles_E N) Tryd.f35 (blob_CheckFiles_sg fun x _ => blob_CheckFiles N x.1) blob_CheckFiles_pk) (fun st k hk => execL_eq _ _ N _ (cAt (bodyOf Tryd.f35) [true, true, true, true, false, true, false, false]) 0 (show LoopsOk (blob_CheckFiles_LP N) (blob_CheckFiles_E N) N (resD (blob_CheckFiles_E N) Tryd.f35 (blob_CheckFiles_sg fun x _ => blob_CheckFiles N x.1) blob_CheckFiles_pk) [] from trivial) st k hk) (fun s => blob_CheckFiles_L0_hd x.1 x.2.2.2.1 x.2.2.2.2.1 s.1 s.2.1 s.2.2.1) k hk
    (fun self s => blob_CheckFiles_L0T N x.1 x.2.2.2.1 x.2.2.2.2.1 (fun o0_3 o0_m1012 => k (.exit 0) (blob_CheckFiles_L0_tl0 x.1 x.2.2.2.1 x.2.2.2.2.1 o0_3 o0_m1012)) (fun s3 s15 m1012 => self (s3, s15, m1012, ())) s.1 s.2.1 s.2.2.1) (fun n s => blob_CheckFiles_L0 N x.1 x.2.2.2.1 x.2.2.2.2.1 (fun o0_3 o0_m1012 => k (.exit 0) (blob_CheckFiles_L0_tl0 x.1 x.2.2.2.1 x.2.2.2.2.1 o0_3 o0_m1012)) n s.1 s.2.1 s.2.2.1) (fun _ => rfl) (fun _ _ => rfl)
    (fun I s => blob_CheckFiles_L0_step N x.1 x.2.2.2.1 x.2.2.2.2.1 (fun j => k (.exit j)) I s.1 s.2.1 s.2.2.1) N (x.2.1, x.2.2.2.2.2.1, y.1, ())
theorem blob_CheckFiles_lp0 (N : Nat) : ∀ st k, (∀ st, k .ret st = (resD (blob_CheckFiles_E N) Tryd.f35 (blob_CheckFiles_sg fun x _ => blob_CheckFiles N x.1) blob_CheckFiles_pk) st) → blob_CheckFiles_LP N 0 (cAt (bodyOf Tryd.f35) [true, true, true, true, false, true, false, false]) st k = iter (Env.hint (blob_CheckFiles_E N) 0) (exec (blob_CheckFiles_E N) N (cAt (bodyOf Tryd.f35) [true, true, true, true, false, true, false, false]) 0) N st k := fun st k hk => LPc_eq 66 blob_CheckFiles_L0_fs blob_CheckFiles_L0_bs _ _ (resD (blob_CheckFiles_E N) Tryd.f35 (blob_CheckFiles_sg fun x _ => blob_CheckFiles N x.1) blob_CheckFiles_pk) (blob_CheckFiles_L0_ok N) _ st k hk (rfl)
theorem blob_CheckFiles_core (N : Nat) (x : SV [.v (.sl (.pr .str (.pr .bool (.sl .u8))))]) (y : BV []) : runL (blob_CheckFiles_E N) Tryd.f35 (blob_CheckFiles_sg fun x _ => blob_CheckFiles N x.1) blob_CheckFiles_pk (blob_CheckFiles_LP N) x y = blob_CheckFiles N x.1 := by kernel_rfl
theorem blob_CheckFiles_sound (N : Nat) : Sound Tryd.prog GW B0G 35 (blob_CheckFiles_sg fun x _ => blob_CheckFiles N x.1) :=
  runD_sound (mkE_ok blob_CheckFiles_h (blob_CheckFiles_fn N) _ _ (blob_CheckFiles_fn_ok N)) Tryd.func35 rfl Tryd.call35 (blob_CheckFiles_sg fun x _ => blob_CheckFiles N x.1) blob_CheckFiles_pk (fun _ _ => rfl) N (fun x y _ h => ((runL_eq (blob_CheckFiles_E N) N Tryd.f35 (blob_CheckFiles_sg fun x _ => blob_CheckFiles N x.1) blob_CheckFiles_pk (blob_CheckFiles_LP N) (show LoopsOk (blob_CheckFiles_LP N) (blob_CheckFiles_E N) N (resD (blob_CheckFiles_E N) Tryd.f35 (blob_CheckFiles_sg fun x _ => blob_CheckFiles N x.1) blob_CheckFiles_pk) [(0, (cAt (bodyOf Tryd.f35) [true, true, true, true, false, true, false, false])), (3, (cAt (bodyOf Tryd.f35) [true, true, true, true, true, false, true, false, false]))] from ⟨blob_CheckFiles_lp0 N, blob_CheckFiles_lp3 N, trivial⟩) x y).trans (blob_CheckFiles_core N x y)).trans h)
end
end Go.Proofs.YthlkidohpiebiaaDoor


/- A function that leaves all that its caller has as it is, and makes one thing anew. -/
namespace Go.Proofs.YthlkidohpiebiaaDoor
set_option linter.unusedVariables false
set_option linter.unusedSimpArgs false
open Go Go.RowKit Go.Shelf
end Go.Proofs.YthlkidohpiebiaaDoor


/- slices.Delete of strings, out of the kit's contract: it turns a row of its caller's. -/
namespace Go.Proofs.YthlkidohpiebiaaDoor
set_option linter.unusedVariables false
set_option linter.unusedSimpArgs false
open Go Go.RowKit Go.Shelf
end Go.Proofs.YthlkidohpiebiaaDoor


