/-
  DERIVED: THE SHELF's CONTRACTS AT THIS DUMP, IN PLAIN WORDS (tools/lay-plain.mjs out of 'TrydShelf.lean', which tools/lay-shelf.mjs wrote): THE SAME DECLARATIONS UNDER THE SAME NAMES: 'import', 'namespace', 'open', 'def', 'theorem' AND NOTHING ELSE: no command of the shelf's: FOR A HAND-IN. Each laying: the table of numbers ('.._ren') and one theorem, a field a fact of the dump's own or the kernel's comparison; each contract: ONE APPLICATION.
-/
import Derived.Shelf.Small.Bits
import Derived.Shelf.Small.Strs
import Derived.Shelf.Utf8.RuneCount
import Derived.Shelf.Strconv.Itoa0
import Derived.Shelf.Strings.Search1
import Derived.Shelf.Strings.Search2
import Derived.Shelf.Strings.Search3
import Derived.Shelf.Strings.Cut
import Derived.Shelf.Strings.Count
import Derived.Shelf.LaysM
import Derived.Shelf.Strings.Shaped
import Derived.Shelf.Strings.Split
import Derived.Shelf.Strings.SplitShaped
import Derived.Shelf.Unicode.Decode
import Derived.Shelf.Strings.RuneCount
import Derived.Shelf.Strings.Explode
import Derived.Shelf.Unicode.DecodeSlow
import Derived.Shelf.Unicode.DecodeAny
import Derived.Shelf.Slices.Equal
import Derived.Ground.SlgmProg
import Derived.Shelf.SortM.Plain
import Derived.Shelf.SortM.SortNone
import Derived.Test.YthlkidohpiebiaaDoorProg
import Derived.Test.YthlkidohpiebiaaDoorQBmX
import Derived.Test.YthlkidohpiebiaaDoorQAsc
import Derived.WalkSpells
import Derived.WalkLawsBesides
import Derived.Outline
import Derived.IntWalk
namespace Go.Proofs
open Go.Shelf
def Tryd.lays137_ren : Go.Shelf.Ren := ⟨fun | 137 => 90 | 217 => 122 | 266 => 146 | n => n, fun | 9 => 9 | 5 => 5 | 3 => 3 | n => n, fun | n => n⟩
theorem Tryd.lays137 : Go.Proofs.Lays.n137 Tryd.prog Tryd.lays137_ren := {
  mixed := by kernel_rfl
  f137 := Tryd.func90.trans (congrArg some (by kernel_rfl))
  f217 := Tryd.func122.trans (congrArg some (by kernel_rfl))
  f266 := Tryd.func146.trans (congrArg some (by kernel_rfl))
  t3 := Tryd.underlying3
  a3 := Tryd.isAgg3
  z3 := Tryd.sizeOf3
  v3 := Tryd.zeroValue3
  t5 := Tryd.underlying5
  a5 := Tryd.isAgg5
  z5 := Tryd.sizeOf5
  v5 := Tryd.zeroValue5
  t9 := Tryd.underlying9
  a9 := Tryd.isAgg9
  z9 := Tryd.sizeOf9
  v9 := Tryd.zeroValue9 }
open Go.RowKit in
/-- strings.IndexByte: "IndexByte returns the index of the first instance of c in s, or -1 if c is not present in s.": IT RETURNS 'Lib.indexByte s c'; the world is as it was. (LAID: no walk: one application.) -/
theorem Tryd.strings_IndexByte (s : ByteArray) (c : Int) (w : World) :
    Calls Tryd.prog 90 #[.string s, .int .u8 c] w fun e w' => e = .returned (.int .i64 (Lib.indexByte s.data.toList c.toNat.toUInt8)) ∧ w' = w := Any.strings_IndexByte Tryd.lays137 s c w
def Tryd.lays144_ren : Go.Shelf.Ren := ⟨fun | 144 => 43 | 143 => 89 | 219 => 121 | 217 => 122 | 225 => 143 | 224 => 144 | 267 => 145 | 266 => 146 | 314 => 172 | n => n, fun | 9 => 9 | 4 => 4 | 3 => 3 | 5 => 5 | 46 => 113 | 146 => 179 | 51 => 156 | n => n, fun | 1 => 0 | n => n⟩
theorem Tryd.lays144 : Go.Proofs.Lays.n144 Tryd.prog Tryd.lays144_ren := {
  mixed := by kernel_rfl
  f143 := Tryd.func89.trans (congrArg some (by kernel_rfl))
  f144 := Tryd.func43.trans (congrArg some (by kernel_rfl))
  f217 := Tryd.func122.trans (congrArg some (by kernel_rfl))
  f219 := Tryd.func121.trans (congrArg some (by kernel_rfl))
  f224 := Tryd.func144.trans (congrArg some (by kernel_rfl))
  f225 := Tryd.func143.trans (congrArg some (by kernel_rfl))
  f266 := Tryd.func146.trans (congrArg some (by kernel_rfl))
  f267 := Tryd.func145.trans (congrArg some (by kernel_rfl))
  f314 := Tryd.func172.trans (congrArg some (by kernel_rfl))
  t3 := Tryd.underlying3
  a3 := Tryd.isAgg3
  z3 := Tryd.sizeOf3
  v3 := Tryd.zeroValue3
  t4 := Tryd.underlying4
  a4 := Tryd.isAgg4
  z4 := Tryd.sizeOf4
  v4 := Tryd.zeroValue4
  t5 := Tryd.underlying5
  a5 := Tryd.isAgg5
  z5 := Tryd.sizeOf5
  v5 := Tryd.zeroValue5
  t9 := Tryd.underlying9
  a9 := Tryd.isAgg9
  z9 := Tryd.sizeOf9
  v9 := Tryd.zeroValue9
  t46 := Tryd.underlying113
  a46 := Tryd.isAgg113
  z46 := Tryd.sizeOf113
  v46 := Tryd.zeroValue113
  t51 := Tryd.underlying156
  a51 := Tryd.isAgg156
  z51 := Tryd.sizeOf156
  v51 := Tryd.zeroValue156
  t146 := Tryd.underlying179
  a146 := Tryd.isAgg179
  z146 := Tryd.sizeOf179
  v146 := Tryd.zeroValue179
  g1 := by kernel_rfl }
open Go.RowKit Go.Lib in
/-- strings.Contains: "Contains reports whether substr is within s.": IT RETURNS 'Lib.contains s substr'; the world is as it was. (LAID: no walk: one application.) -/
theorem Tryd.strings_Contains (s sub : ByteArray) (m : Int) (w : World) (hs : s.size < 4294967281) (hm : w.cell? ⟨0, 0, none⟩ = some (.int .i64 m)) :
    Calls Tryd.prog 43 #[.string s, .string sub] w fun e w' => e = .returned (.bool (Lib.contains s.data.toList sub.data.toList)) ∧ w' = w := Any.strings_Contains Tryd.lays144 s sub m w hs hm
def Tryd.laysM143_ren : Go.Shelf.Ren := ⟨fun | 143 => 89 | 219 => 121 | 217 => 122 | 225 => 143 | 224 => 144 | 267 => 145 | 266 => 146 | 314 => 172 | n => n, fun | 9 => 9 | 3 => 3 | 4 => 4 | 5 => 5 | 46 => 113 | 146 => 179 | 51 => 156 | n => n, fun | 1 => 0 | n => n⟩
theorem Tryd.laysM143 : Go.Proofs.LaysM.n143 Tryd.prog Tryd.laysM143_ren := {
  mixed := by kernel_rfl
  f143 := Tryd.func89.trans (congrArg some (by kernel_rfl))
  f217 := Tryd.func122.trans (congrArg some (by kernel_rfl))
  f219 := Tryd.func121.trans (congrArg some (by kernel_rfl))
  f224 := Tryd.func144.trans (congrArg some (by kernel_rfl))
  f225 := Tryd.func143.trans (congrArg some (by kernel_rfl))
  f266 := Tryd.func146.trans (congrArg some (by kernel_rfl))
  f267 := Tryd.func145.trans (congrArg some (by kernel_rfl))
  f314 := Tryd.func172.trans (congrArg some (by kernel_rfl))
  t3 := Tryd.underlying3
  a3 := Tryd.isAgg3
  z3 := Tryd.sizeOf3
  v3 := Tryd.zeroValue3
  t4 := Tryd.underlying4
  a4 := Tryd.isAgg4
  z4 := Tryd.sizeOf4
  v4 := Tryd.zeroValue4
  t5 := Tryd.underlying5
  a5 := Tryd.isAgg5
  z5 := Tryd.sizeOf5
  v5 := Tryd.zeroValue5
  t9 := Tryd.underlying9
  a9 := Tryd.isAgg9
  z9 := Tryd.sizeOf9
  v9 := Tryd.zeroValue9
  t46 := Tryd.underlying113
  a46 := Tryd.isAgg113
  z46 := Tryd.sizeOf113
  v46 := Tryd.zeroValue113
  t51 := Tryd.underlying156
  a51 := Tryd.isAgg156
  z51 := Tryd.sizeOf156
  v51 := Tryd.zeroValue156
  t146 := Tryd.underlying179
  a146 := Tryd.isAgg179
  z146 := Tryd.sizeOf179
  v146 := Tryd.zeroValue179
  g1 := by kernel_rfl
  i3 := by kernel_rfl
  i4 := by kernel_rfl
  i5 := by kernel_rfl
  i9 := by kernel_rfl
  i46 := by kernel_rfl
  i51 := by kernel_rfl
  i146 := by kernel_rfl
  m1 := by kernel_rfl
  s1_3 := fun w h => Go.Proofs.cell_of_shapedOpen_int (zero := #[.int .i64 0]) (t := 3) h (of_decide_eq_true (by kernel_rfl)) (by kernel_rfl) rfl (by kernel_rfl) (by kernel_rfl) Tryd.underlying3 }
def Tryd.lays146_ren : Go.Shelf.Ren := ⟨fun | 146 => 42 | 221 => 88 | 268 => 119 | 138 => 120 | 143 => 89 | 195 => 140 | 197 => 141 | 218 => 142 | 219 => 121 | 260 => 171 | 217 => 122 | 225 => 143 | 224 => 144 | 267 => 145 | 266 => 146 | 314 => 172 | n => n, fun | 9 => 9 | 31 => 29 | 3 => 3 | 4 => 4 | 0 => 0 | 105 => 159 | 21 => 21 | 5 => 5 | 46 => 113 | 119 => 190 | 139 => 193 | 138 => 192 | 146 => 179 | 51 => 156 | n => n, fun | 1 => 0 | 3 => 1 | 4 => 2 | n => n⟩
theorem Tryd.lays146 : Go.Proofs.Lays.n146 Tryd.prog Tryd.lays146_ren := {
  mixed := by kernel_rfl
  f138 := Tryd.func120.trans (congrArg some (by kernel_rfl))
  f143 := Tryd.func89.trans (congrArg some (by kernel_rfl))
  f146 := Tryd.func42.trans (congrArg some (by kernel_rfl))
  f195 := Tryd.func140.trans (congrArg some (by kernel_rfl))
  f197 := Tryd.func141.trans (congrArg some (by kernel_rfl))
  f217 := Tryd.func122.trans (congrArg some (by kernel_rfl))
  f218 := Tryd.func142.trans (congrArg some (by kernel_rfl))
  f219 := Tryd.func121.trans (congrArg some (by kernel_rfl))
  f221 := Tryd.func88.trans (congrArg some (by kernel_rfl))
  f224 := Tryd.func144.trans (congrArg some (by kernel_rfl))
  f225 := Tryd.func143.trans (congrArg some (by kernel_rfl))
  f260 := Tryd.func171.trans (congrArg some (by kernel_rfl))
  f266 := Tryd.func146.trans (congrArg some (by kernel_rfl))
  f267 := Tryd.func145.trans (congrArg some (by kernel_rfl))
  f268 := Tryd.func119.trans (congrArg some (by kernel_rfl))
  f314 := Tryd.func172.trans (congrArg some (by kernel_rfl))
  t0 := Tryd.underlying0
  a0 := Tryd.isAgg0
  z0 := Tryd.sizeOf0
  v0 := Tryd.zeroValue0
  t3 := Tryd.underlying3
  a3 := Tryd.isAgg3
  z3 := Tryd.sizeOf3
  v3 := Tryd.zeroValue3
  t4 := Tryd.underlying4
  a4 := Tryd.isAgg4
  z4 := Tryd.sizeOf4
  v4 := Tryd.zeroValue4
  t5 := Tryd.underlying5
  a5 := Tryd.isAgg5
  z5 := Tryd.sizeOf5
  v5 := Tryd.zeroValue5
  t9 := Tryd.underlying9
  a9 := Tryd.isAgg9
  z9 := Tryd.sizeOf9
  v9 := Tryd.zeroValue9
  t21 := Tryd.underlying21
  a21 := Tryd.isAgg21
  z21 := Tryd.sizeOf21
  v21 := Tryd.zeroValue21
  t31 := Tryd.underlying29
  a31 := Tryd.isAgg29
  z31 := Tryd.sizeOf29
  v31 := Tryd.zeroValue29
  t46 := Tryd.underlying113
  a46 := Tryd.isAgg113
  z46 := Tryd.sizeOf113
  v46 := Tryd.zeroValue113
  t51 := Tryd.underlying156
  a51 := Tryd.isAgg156
  z51 := Tryd.sizeOf156
  v51 := Tryd.zeroValue156
  t105 := Tryd.underlying159
  a105 := Tryd.isAgg159
  z105 := Tryd.sizeOf159
  v105 := Tryd.zeroValue159
  t119 := Tryd.underlying190
  a119 := Tryd.isAgg190
  z119 := Tryd.sizeOf190
  t138 := Tryd.underlying192
  a138 := Tryd.isAgg192
  z138 := Tryd.sizeOf192
  v138 := Tryd.zeroValue192
  t139 := Tryd.underlying193
  a139 := Tryd.isAgg193
  z139 := Tryd.sizeOf193
  v139 := Tryd.zeroValue193
  t146 := Tryd.underlying179
  a146 := Tryd.isAgg179
  z146 := Tryd.sizeOf179
  v146 := Tryd.zeroValue179
  g1 := by kernel_rfl
  g3 := by kernel_rfl
  g4 := by kernel_rfl }
open Go.RowKit Go.Lib in
/-- strings.Split. (LAID: no walk: one application.) -/
theorem Tryd.strings_Split (s sep : ByteArray) (m : Int) (w : World) (hs : s.size < 4294967281) (hm : w.cell? ⟨0, 0, none⟩ = some (.int .i64 m)) (h1 : 1 ≤ sep.size) :
    Calls Tryd.prog 42 #[.string s, .string sep] w fun e w' =>
      e = .returned (.slice (some ⟨w.heap.size, 0, none⟩) (Lib.countB s sep + 1) (Lib.countB s sep + 1)) ∧ w' = w.alloc (.cells ((Lib.splitB sep 0 (Lib.countB s sep) s).map Value.string).toArray 9) := Any.strings_Split Tryd.lays146 (by kernel_rfl) s sep m w hs hm h1
end Go.Proofs


/- How a contract of the kit is said of the machine. -/
namespace Go.Proofs.YthlkidohpiebiaaDoor
set_option linter.unusedVariables false
set_option linter.unusedSimpArgs false
open Go Go.RowKit Go.Shelf
abbrev g0 : Gh := fun _ => none
theorem Sound.ofExt {P : Program} {G : World → Prop} {B0 : Nat} {f : FuncId} {ps rs : List Sl} {R : Type} {out : R → SV rs × BV []} {F : SV ps → BV [] → Option R}
    (hcall : ∀ (args : Array Value) (w : World), (callFunc f args).run P w = .ok (.enter f args) w)
    (h : ∀ (M : Nat → Nat → Prop) (w : World) (vs : List Value) (x : SV ps) (z : R), G w → (∀ b o, M b o → b < w.heap.size) → All2 (RepD0 M w g0) (lays id ps x) vs → F x () = some z →
      Calls P f vs.toArray w fun e w' => ∃ vs', e = .returned (rets vs') ∧ Ext w w' ∧ All2 (RepD0 M w' g0) (lays id rs (out z).1) vs') : Sound P G B0 f ⟨ps, [], rs, [], R, out, F⟩ := by
  refine ⟨hcall, fun M w g vs x y z hG hB hF hz => ?_⟩
  have hg : g = g0 := by
    funext r
    cases hr : g r with
    | none => rfl
    | some gx => exact absurd (hF.dom r gx hr) (Nat.not_lt_zero _)
  subst hg
  have hM : Mafter M g0 g0 = M := by
    funext b o
    refine propext ⟨fun h => ?_, fun h => .inl ⟨h, fun ⟨_, _, hx, _⟩ => by cases hx⟩⟩
    exact h.elim (fun h => h.1) fun ⟨_, _, hx, _⟩ => by cases hx
  refine (h M w vs x z hG hF.mlt hF.args hz).mono fun e w' hp => ?_
  obtain ⟨vs', he, hE, hA⟩ := hp
  refine ⟨vs', g0, he, ExtX.of_ext hE, ?_, ?_, fun _ _ h _ => (by cases h), fun b hb => .inl hb⟩
  · rw [hM]; exact Step.ext hE
  · rw [hM]
    exact { args := hA, res := fun r blk h => (by cases h), dom := fun r gx h => (by cases h), inj := fun _ _ _ _ _ h => (by cases h), low := fun _ _ _ h => (by cases h), chg := fun _ _ _ _ h => (by cases h), mlt := fun b o h => Nat.lt_of_lt_of_le (hF.mlt b o h) hE.size, row := fun _ _ _ h => (by cases h) }
section
variable {M : Nat → Nat → Prop} {w : World}
theorem RepV.str {x : Str} {v : Value} (h : RepV M w .str x v) : v = .string ⟨List.toArray x⟩ := by
  have := RepV.plain rfl h
  have := (show [v] = [.string ⟨List.toArray x⟩] from this)
  injection this
theorem RepV.u8 {x : UInt8} {v : Value} (h : RepV M w .u8 x v) : v = .int .u8 (UInt8.toNat x) := by
  have := RepV.plain rfl h
  have := (show [v] = [.int .u8 (UInt8.toNat x)] from this)
  injection this
theorem RepV.int {k : IntKind} {x : Int} {v : Value} (h : RepV M w (.int k) x v) : v = .int k x := by
  have := RepV.plain rfl h
  have := (show [v] = [.int k x] from this)
  injection this
theorem vInt (k : IntKind) (x : Int) : RepV M w (.int k) x (.int k x) := RepC.toV rfl rfl
theorem vBool (x : Bool) : RepV M w .bool x (.bool x) := RepC.toV rfl rfl
end
end Go.Proofs.YthlkidohpiebiaaDoor


/- More functions of Go's library, out of the kit's contracts. -/
namespace Go.Proofs.YthlkidohpiebiaaDoor
set_option linter.unusedVariables false
set_option linter.unusedSimpArgs false
open Go Go.RowKit Go.Shelf
def strings_IndexByte (s : Str) (c : UInt8) : Option Int := some (Lib.indexByte s c)
theorem strings_IndexByte_sound : Sound Tryd.prog GW B0G 90 ⟨[.v .str, .v .u8], [], [.v (.int .i64)], [], Int, fun z => ((z, ()), ()), fun x _ => strings_IndexByte x.1 x.2.1⟩ := by
  refine Sound.ofExt Tryd.call90 fun M w vs x z hG hM hA hz => ?_
  obtain ⟨a, b, u⟩ := x
  match vs, hA with
  | [v1, v2], hA =>
    obtain ⟨h1, h2, _⟩ := hA
    rw [RepV.str h1, RepV.u8 h2]
    have e : Lib.indexByte a b = z := Option.some.inj hz
    subst e
    refine (Tryd.strings_IndexByte ⟨a.toArray⟩ (UInt8.toNat b) w).mono fun e w' hp => ?_
    obtain ⟨rfl, rfl⟩ := hp
    refine ⟨[_], rfl, Ext.refl _, ?_, trivial⟩
    have e2 : ((UInt8.toNat b : Nat) : Int).toNat.toUInt8 = b := by simp
    rw [e2]
    exact vInt .i64 _
/-- A fresh row of strings is a slice of strings. -/
theorem vStrs {M : Nat → Nat → Prop} {w w' : World} (hM : ∀ b o, M b o → b < w.heap.size) (xs : List Str) (hl : xs.length ≤ maxLen) (e : TypeId)
    (hw : w' = w.alloc (.cells (xs.map fun x => Value.string ⟨x.toArray⟩).toArray e)) : RepV M w' (.sl .str) xs (.slice (some ⟨w.heap.size, 0, none⟩) xs.length xs.length) := by
  subst hw
  refine RepC.toV rfl ⟨some ⟨w.heap.size, 0, none⟩, xs.length, rfl, Nat.le_refl _, hl, fun i hi => ⟨⟨w.heap.size, 0, none⟩, [.string ⟨xs[i].toArray⟩], rfl, rfl, fun j u hu => ?_⟩⟩
  cases j with
  | succ j => simp at hu
  | zero =>
    simp only [List.getElem?_cons_zero, Option.some.injEq] at hu
    subst hu
    have e2 : (((⟨w.heap.size, 0, none⟩ : Addr).add (i * Ty.sz .str)).add 0) = ⟨w.heap.size, i, none⟩ := by
      show Addr.add (Addr.add _ (i * 1)) 0 = _
      rw [Nat.mul_one]
      unfold Addr.add; split <;> simp_all
    rw [e2, World.cell?_alloc_new]
    refine ⟨?_, fun hM' => ?_⟩
    · simp [hi]
    · exact absurd (hM _ _ hM') (Nat.lt_irrefl _)
/-- The parts of a string between separators. -/
def splitS (a b : Str) : List Str := (Lib.splitB ⟨b.toArray⟩ 0 (Lib.countB ⟨a.toArray⟩ ⟨b.toArray⟩) ⟨a.toArray⟩).map fun x => x.data.toList
def strings_Split (a b : Str) : Option (List Str) := if a.length < 4294967281 ∧ 1 ≤ b.length ∧ (splitS a b).length = Lib.countB ⟨a.toArray⟩ ⟨b.toArray⟩ + 1 ∧ (splitS a b).length ≤ 4294967296 then some (splitS a b) else none
theorem strings_Split_sound : Sound Tryd.prog GW B0G 42 ⟨[.v .str, .v .str], [], [.v (.sl .str)], [], List Str, fun z => ((z, ()), ()), fun x _ => strings_Split x.1 x.2.1⟩ := by
  refine Sound.ofExt Tryd.call42 fun M w vs x z hG hM hA hz => ?_
  obtain ⟨a, b, u⟩ := x
  match vs, hA with
  | [v1, v2], hA =>
    obtain ⟨h1, h2, _⟩ := hA
    rw [RepV.str h1, RepV.str h2]
    change strings_Split a b = some z at hz
    unfold strings_Split at hz
    split at hz
    · rename_i hc
      injection hz with hz
      subst hz
      obtain ⟨m, hm⟩ := hG
      refine (Tryd.strings_Split ⟨a.toArray⟩ ⟨b.toArray⟩ m w hc.1 hm hc.2.1).mono fun e w' hp => ?_
      obtain ⟨rfl, hw⟩ := hp
      have hmap : (Lib.splitB ⟨b.toArray⟩ 0 (Lib.countB ⟨a.toArray⟩ ⟨b.toArray⟩) ⟨a.toArray⟩).map Value.string = (splitS a b).map fun x => Value.string ⟨x.toArray⟩ := by
        unfold splitS
        rw [List.map_map]
        rfl
      rw [hmap] at hw
      rw [← hc.2.2.1]
      exact ⟨[_], rfl, hw ▸ (Ext.refl w).alloc _, vStrs hM _ (Nat.le_trans hc.2.2.2 (by decide)) _ hw, trivial⟩
    · cases hz
end Go.Proofs.YthlkidohpiebiaaDoor



/- strings.Contains, out of the kit's contract. -/
namespace Go.Proofs.YthlkidohpiebiaaDoor
set_option linter.unusedVariables false
set_option linter.unusedSimpArgs false
open Go Go.RowKit Go.Shelf
def strings_Contains (a b : Str) : Option Bool := if a.length < 4294967281 then some (Lib.contains a b) else none
theorem strings_Contains_sound : Sound Tryd.prog GW B0G 43 ⟨[.v .str, .v .str], [], [.v .bool], [], Bool, fun z => ((z, ()), ()), fun x _ => strings_Contains x.1 x.2.1⟩ := by
  refine Sound.ofExt Tryd.call43 fun M w vs x z hG hM hA hz => ?_
  obtain ⟨a, b, u⟩ := x
  match vs, hA with
  | [v1, v2], hA =>
    obtain ⟨h1, h2, _⟩ := hA
    rw [RepV.str h1, RepV.str h2]
    change strings_Contains a b = some z at hz
    unfold strings_Contains at hz
    split at hz
    · rename_i hs
      have e : Lib.contains a b = z := Option.some.inj hz
      subst e
      obtain ⟨m, hm⟩ := hG
      refine (Tryd.strings_Contains ⟨a.toArray⟩ ⟨b.toArray⟩ m w hs hm).mono fun e w' hp => ?_
      obtain ⟨rfl, rfl⟩ := hp
      exact ⟨[_], rfl, Ext.refl _, vBool _, trivial⟩
    · cases hz
end Go.Proofs.YthlkidohpiebiaaDoor



/- How a contract of a function that turns a row of its caller's is said of the machine. -/
namespace Go.Proofs.YthlkidohpiebiaaDoor
set_option linter.unusedVariables false
set_option linter.unusedSimpArgs false
open Go Go.RowKit Go.Shelf
/-- The elements of a row, and where they lie. -/
def Els (M : Nat → Nat → Prop) (w : World) (t : Ty) (xs : List t.den) (cs : List Value) : Prop := ∀ i (h : i < xs.length), RepC M w t xs[i] ((cs.drop (i * t.sz)).take t.sz)
theorem ExtX.mono {X Y : Nat → Prop} {w w' : World} (h : ExtX X w w') (hX : ∀ k, X k → Y k) : ExtX Y w w' := ⟨h.os, h.tape, h.output, h.size, fun k hk hy => h.block k hk fun hx => hy (hX k hx)⟩
end Go.Proofs.YthlkidohpiebiaaDoor


/- slices.Grow of the nil slice, as a meaning: an own row without elements. -/
namespace Go.Proofs.YthlkidohpiebiaaDoor
set_option linter.unusedVariables false
set_option linter.unusedSimpArgs false
open Go Go.RowKit Go.Shelf
def growF (t : Ty) (n : Int) : Option (List t.den) := if 0 ≤ n ∧ n * ((24 * t.sz : Nat) : Int) ≤ 140737488355328 then some [] else none
theorem own_base {w : World} {base : Nat} {e : TypeId} {sz : Nat} {v : Value} {n : Nat} {cs : List Value} (h : w.ownsRow base e sz v n cs) : w.ownsRow 0 e sz v n cs := by
  refine ⟨h.1, ?_⟩
  rcases h.2 with h0 | ⟨g, cap, cur, h1, _, h2⟩
  · exact .inl h0
  · exact .inr ⟨g, cap, cur, h1, Nat.zero_le _, h2⟩
/-- A function that lays a new row. -/
theorem Sound.ofNew {P : Program} {G : World → Prop} {B0 : Nat} {f : FuncId} {ps : List Sl} {e : TypeId} {t : Ty} {ex : Bool} {F : SV ps → Option (List t.den)}
    (hcall : ∀ (args : Array Value) (w : World), (callFunc f args).run P w = .ok (.enter f args) w) (hz : 0 < t.sz)
    (h : ∀ (M : Nat → Nat → Prop) (w : World) (vs : List Value) (x : SV ps) (zs : List t.den), G w → (∀ b o, M b o → b < w.heap.size) → All2 (RepD0 M w g0) (lays id ps x) vs → F x = some zs →
      Calls P f vs.toArray w fun en w' => ∃ u cs, en = .returned u ∧ w'.ownsRow w.heap.size e t.sz u zs.length cs ∧ Ext w w' ∧ ∀ M', Step M w M' w' → Els M' w' t zs cs) :
    Sound P G B0 f ⟨ps, [], [.row 0], [.row e t ex], List t.den, fun z => (((), ()), (z, ())), fun x _ => F x⟩ := by
  refine ⟨hcall, fun M w g vs x y z hG hB hF hz' => ?_⟩
  have hg : g = g0 := by
    funext r
    cases hr : g r with
    | none => rfl
    | some gx => exact absurd (hF.dom r gx hr) (Nat.not_lt_zero _)
  subst hg
  refine (h M w vs x z hG hF.mlt hF.args hz').mono fun en w' hp => ?_
  obtain ⟨u, cs, he, hown, hE, hels⟩ := hp
  obtain ⟨g', hgd⟩ : ∃ g' : Gh, g' = fun r => if r = 0 then some ⟨u.ownBlock, loOf t ex z.length, u⟩ else none := ⟨_, rfl⟩
  have hg0' : g' 0 = some ⟨u.ownBlock, loOf t ex z.length, u⟩ := by rw [hgd]; rfl
  have hgo : ∀ r gy, g' r = some gy → r = 0 ∧ gy = ⟨u.ownBlock, loOf t ex z.length, u⟩ := fun r gy hr => by
    rw [hgd] at hr
    by_cases h0 : r = 0
    · subst h0; simp at hr; exact ⟨rfl, hr.symm⟩
    · simp [h0] at hr
  have hblk : ∀ b, u.ownBlock = some b → w.heap.size ≤ b ∧ b < w'.heap.size := fun b hb => by
    rcases hown.2 with ⟨e1, _⟩ | ⟨gg, cap, cur, e1, h1, h2, _⟩
    · rw [e1] at hb; cases hb
    · rw [e1] at hb
      simp only [Value.ownBlock, Option.some.injEq] at hb
      subst hb
      exact ⟨h1, lt_of_map h2⟩
  have hM : ∀ b o, Mafter M g0 g' b o → M b o ∨ u.ownBlock = some b := fun b o hm => by
    rcases hm with ⟨hm, _⟩ | ⟨r, gy, hr, hb, _⟩
    · exact .inl hm
    · obtain ⟨_, rfl⟩ := hgo r gy hr; exact .inr hb
  have hstep : Step M w (Mafter M g0 g') w' := by
    have key : ∀ b o, b < w.heap.size → ¬ M b o → w'.heap[b]? = w.heap[b]? ∧ ¬ Mafter M g0 g' b o := fun b o hb hm => by
      refine ⟨hE.block b hb, fun hm' => ?_⟩
      rcases hM b o hm' with h1 | h1
      · exact hm h1
      · have := (hblk b h1).1; omega
    refine ⟨fun ad v hu hm => ?_, fun b es c hb hm => ?_⟩
    · obtain ⟨h1, h2⟩ := key ad.block ad.off (World.block_lt_of_cell? w _ hu) hm
      exact ⟨(cell_of_block h1).trans hu, h2⟩
    · obtain ⟨h1, h2⟩ := key b 0 (lt_of_map hb) hm
      exact ⟨h1.trans hb, h2⟩
  obtain ⟨A', c', hv', _⟩ := Row.of_own' hown
  have hrow : RepD0 (Mafter M g0 g') w' g' (.row 0) u := ⟨_, A', _, c', hg0', rfl, hv'⟩
  refine ⟨[u], g', he, ExtX.of_ext hE, hstep, ?_, fun r gy hr _ => (by cases hr), fun b hb => ?_⟩
  · exact {
      args := ⟨hrow, trivial⟩
      res := fun r blk hr => by
        cases r with
        | zero =>
          obtain rfl : Blk.row e t ex z = blk := Option.some.inj hr
          refine ⟨_, hg0', hz, cs, own_base hown, rfl, by cases ex <;> rfl, fun i hi => ?_⟩
          exact hels _ hstep i hi
        | succ r => cases hr
      dom := fun r gy hr => by obtain ⟨rfl, _⟩ := hgo r gy hr; exact Nat.zero_lt_one
      inj := fun r r' gy gy' b hr hr' _ _ => by obtain ⟨rfl, _⟩ := hgo r gy hr; obtain ⟨rfl, _⟩ := hgo r' gy' hr'; rfl
      low := fun r gy b hr hb => by
        obtain ⟨_, rfl⟩ := hgo r gy hr
        obtain ⟨h1, h2⟩ := hblk b hb
        exact ⟨Nat.le_trans hB h1, h2⟩
      chg := fun r gy b o hr hb => by
        obtain ⟨rfl, rfl⟩ := hgo r gy hr
        constructor
        · rintro (⟨h1, _⟩ | ⟨r', gy', h1, h2, h3⟩)
          · have := hF.mlt b o h1; have := (hblk b hb).1; omega
          · obtain ⟨_, rfl⟩ := hgo r' gy' h1; exact h3
        · exact fun hle => .inr ⟨0, _, hr, hb, hle⟩
      mlt := fun b o hm => by
        rcases hM b o hm with h1 | h1
        · exact Nat.lt_of_lt_of_le (hF.mlt b o h1) hE.size
        · exact (hblk b h1).2
      row := fun r gy b hr hb h0 es c hc => by
        obtain ⟨_, rfl⟩ := hgo r gy hr
        exact (own_row hown hb).2 es c hc }
  · obtain ⟨r, gy, hr, hb⟩ := hb
    obtain ⟨_, rfl⟩ := hgo r gy hr
    exact .inr (hblk b hb).1
theorem Sound.ofGrow {P : Program} {G : World → Prop} {B0 : Nat} {f : FuncId} {e : TypeId} {t : Ty}
    (hcall : ∀ (args : Array Value) (w : World), (callFunc f args).run P w = .ok (.enter f args) w) (hz : 0 < t.sz)
    (h : ∀ (n : Nat) (w : World), n * (24 * t.sz) ≤ 140737488355328 → Calls P f #[.slice none 0 0, .int .i64 n] w fun en w' => ∃ u, en = .returned u ∧ w'.ownsRow w.heap.size e t.sz u 0 [] ∧ Ext w w') :
    Sound P G B0 f ⟨[.nilS, .v .i64], [], [.row 0], [.row e t false], List t.den, fun z => (((), ()), (z, ())), fun x _ => growF t x.2.1⟩ := by
  refine Sound.ofNew (ps := [.nilS, .v .i64]) (ex := false) (F := fun x => growF t x.2.1) hcall hz fun M w vs x zs hG hM hA hz' => ?_
  obtain ⟨_, n, _⟩ := x
  match vs, hA with
  | [v0, v1], ⟨h0, h1, _⟩ =>
    have h0 : v0 = .slice none 0 0 := h0
    have h1 : v1 = .int .i64 n := RepV.int h1
    subst h0 h1
    change growF t n = some zs at hz'
    unfold growF at hz'
    split at hz'
    · rename_i hn
      cases hz'
      obtain ⟨hn1, hn2⟩ := hn
      obtain ⟨k, rfl⟩ : ∃ k : Nat, n = (k : Int) := ⟨Int.toNat n, (Int.toNat_of_nonneg hn1).symm⟩
      have hk : k * (24 * t.sz) ≤ 140737488355328 := Int.ofNat_le.1 (by rw [Int.natCast_mul]; exact hn2)
      refine (h k w hk).mono fun en w' hp => ?_
      obtain ⟨u, he, hown, hE⟩ := hp
      exact ⟨u, [], he, hown, hE, fun M' _ i hi => absurd hi (by simp)⟩
    · cases hz'
end Go.Proofs.YthlkidohpiebiaaDoor


/- The types that the printed functions use, as the program has them. -/
namespace Go.Proofs.YthlkidohpiebiaaDoor
open Go Go.RowKit
set_option maxRecDepth 100000
abbrev strings_Split_sg (f : SV [.v .str, .v .str] → BV [] → Option (List Str)) : AF := { ps := [.v .str, .v .str], bs := [], rs := [.v (.sl .str)], cs := [], R := List Str, out := fun z => ((z, ()), ()), f := f }
abbrev strings_IndexByte_sg (f : SV [.v .str, .v .u8] → BV [] → Option (Int)) : AF := { ps := [.v .str, .v .u8], bs := [], rs := [.v (.int .i64)], cs := [], R := Int, out := fun z => ((z, ()), ()), f := f }
abbrev strings_Contains_sg (f : SV [.v .str, .v .str] → BV [] → Option (Bool)) : AF := { ps := [.v .str, .v .str], bs := [], rs := [.v .bool], cs := [], R := Bool, out := fun z => ((z, ()), ()), f := f }
abbrev slices_Grow_string_sg (f : SV [.nilS, .v (.int .i64)] → BV [] → Option (List Str)) : AF := { ps := [.nilS, .v (.int .i64)], bs := [], rs := [.row 0], cs := [.row 9 .str false], R := List Str, out := fun z => (((), ()), (z, ())), f := f }
def slices_Grow_string (n : Int) : Option (List Str) := growF .str n
theorem slices_Grow_string_et : ElemT Tryd.prog 29 9 1 16 := ElemT.mk_ Tryd.underlying29 (z := mkV .str (zeroC .str)) (by kernel_rfl) rfl (by decide) (by decide)
set_option maxHeartbeats 400000 in
theorem slices_Grow_string_calls (n : Nat) (w : World) (hn : n * 24 ≤ 140737488355328) :
    Calls Tryd.prog 92 #[.slice none 0 0, .int .i64 n] w fun e w' => ∃ u, e = .returned u ∧ w'.ownsRow w.heap.size 9 1 u 0 [] ∧ Ext w w' := by
  rcases Nat.eq_zero_or_pos n with rfl | h0
  · go_enter Tryd.func92, Tryd.ntmps92
    go_wp2_with fail
    go_ret
    exact ⟨_, rfl, World.ownsRow_nil _ _ _ _, Ext.refl _⟩
  · go_enter Tryd.func92, Tryd.ntmps92
    go_wp2_with (at_builtin; refine wp_app_make (w0 := w) rfl slices_Grow_string_et Tryd.underlying3 rfl rfl rfl (Ext.refl _) h0 (by omega) ?_; intro cap w1 hc ho hE)
    go_ret
    exact ⟨_, rfl, ho, hE⟩
theorem slices_Grow_string_sound : Sound Tryd.prog GW B0G 92 (slices_Grow_string_sg fun x y => slices_Grow_string x.2.1) :=
  Sound.ofGrow Tryd.call92 (by decide) fun n w hn => slices_Grow_string_calls n w (by have : n * (24 * Ty.sz .str) = n * 24 := rfl; omega)
theorem tyOk_bool : TyOk Tryd.prog 4 .bool := ⟨_, by kernel_rfl, Tryd.underlying4, rfl⟩
theorem tyOk_uint8 : TyOk Tryd.prog 5 .u8 := ⟨_, by kernel_rfl, Tryd.underlying5, rfl⟩
theorem tyOk_string : TyOk Tryd.prog 9 .str := ⟨_, by kernel_rfl, Tryd.underlying9, rfl⟩
theorem tyOk_ABapiDFile : TyOk Tryd.prog 28 (.sl (.pr .str (.pr .bool (.sl .u8)))) := ⟨_, by kernel_rfl, Tryd.underlying28, rfl⟩
theorem tyOk_ABstring : TyOk Tryd.prog 29 (.sl .str) := ⟨_, by kernel_rfl, Tryd.underlying29, rfl⟩
theorem tyOk_ABuint8 : TyOk Tryd.prog 32 (.sl .u8) := ⟨_, by kernel_rfl, Tryd.underlying32, rfl⟩
theorem tyOk_smithyardSapiDFile : TyOk Tryd.prog 34 (.pr .str (.pr .bool (.sl .u8))) := ⟨_, by kernel_rfl, Tryd.underlying34, rfl⟩
theorem tyOk_mapAstringBbool : TyOk Tryd.prog 82 (.mp .bool) := ⟨_, by kernel_rfl, Tryd.underlying82, rfl⟩
theorem tyOk_ABbool : TyOk Tryd.prog 109 (.sl .bool) := ⟨_, by kernel_rfl, Tryd.underlying109, rfl⟩
theorem tyOk_uint64 : TyOk Tryd.prog 112 (.int .u64) := ⟨_, by kernel_rfl, Tryd.underlying112, rfl⟩
theorem tyOk_ABABstring : TyOk Tryd.prog 114 (.sl (.sl .str)) := ⟨_, by kernel_rfl, Tryd.underlying114, rfl⟩
def tyT : TypeId → Option Ty := fun T =>
  match T with
  | 4 => some .bool
  | 5 => some .u8
  | 9 => some .str
  | 28 => some (.sl (.pr .str (.pr .bool (.sl .u8))))
  | 29 => some (.sl .str)
  | 32 => some (.sl .u8)
  | 34 => some (.pr .str (.pr .bool (.sl .u8)))
  | 82 => some (.mp .bool)
  | 109 => some (.sl .bool)
  | 112 => some (.int .u64)
  | 114 => some (.sl (.sl .str))
  | _ => none
theorem tyT_ok : ∀ T t, tyT T = some t → TyOk Tryd.prog T t := by
  intro T t h
  unfold tyT at h
  split at h
  · cases h; exact tyOk_bool
  · cases h; exact tyOk_uint8
  · cases h; exact tyOk_string
  · cases h; exact tyOk_ABapiDFile
  · cases h; exact tyOk_ABstring
  · cases h; exact tyOk_ABuint8
  · cases h; exact tyOk_smithyardSapiDFile
  · cases h; exact tyOk_mapAstringBbool
  · cases h; exact tyOk_ABbool
  · cases h; exact tyOk_uint64
  · cases h; exact tyOk_ABABstring
  · cases h
def elT : TypeId → Option (TypeId × Ty) := fun T =>
  match T with
  | 28 => some (34, (.pr .str (.pr .bool (.sl .u8))))
  | 29 => some (9, .str)
  | 32 => some (5, .u8)
  | 109 => some (4, .bool)
  | 114 => some (29, (.sl .str))
  | _ => none
theorem elT_ok : ∀ T e t, elT T = some (e, t) → ElOk Tryd.prog T e t := by
  intro T e t h
  unfold elT at h
  split at h
  · cases h; exact ⟨tyOk_smithyardSapiDFile, 48, ElemT.mk_ Tryd.underlying28 (z := mkV (.pr .str (.pr .bool (.sl .u8))) (zeroC (.pr .str (.pr .bool (.sl .u8))))) (by kernel_rfl) rfl (by decide) (by decide), by decide⟩
  · cases h; exact ⟨tyOk_string, 16, ElemT.mk_ Tryd.underlying29 (z := mkV .str (zeroC .str)) (by kernel_rfl) rfl (by decide) (by decide), by decide⟩
  · cases h; exact ⟨tyOk_uint8, 1, ElemT.mk_ Tryd.underlying32 (z := mkV .u8 (zeroC .u8)) (by kernel_rfl) rfl (by decide) (by decide), by decide⟩
  · cases h; exact ⟨tyOk_bool, 1, ElemT.mk_ Tryd.underlying109 (z := mkV .bool (zeroC .bool)) (by kernel_rfl) rfl (by decide) (by decide), by decide⟩
  · cases h; exact ⟨tyOk_ABstring, 24, ElemT.mk_ Tryd.underlying114 (z := mkV (.sl .str) (zeroC (.sl .str))) (by kernel_rfl) rfl (by decide) (by decide), by decide⟩
  · cases h
def fldT : TypeId → Nat → Option (Nat × Ty) := fun T f =>
  match T, f with
  | 34, 0 => some (0, .str)
  | 34, 2 => some (2, (.sl .u8))
  | _, _ => none
theorem fldT_ok : ∀ T f off t, fldT T f = some (off, t) → FldOk Tryd.prog T f off t := by
  intro T f off t h
  unfold fldT at h
  split at h
  · cases h; exact ⟨_, _, Tryd.underlying34, rfl, rfl, tyOk_string, by decide⟩
  · cases h; exact ⟨_, _, Tryd.underlying34, rfl, rfl, tyOk_ABuint8, by decide⟩
  · cases h
theorem mpT_ok : ∀ T e, tyT T = some (.mp e) → MpOk Tryd.prog T e := by
  intro T e h
  unfold tyT at h
  split at h
  · cases h
  · cases h
  · cases h
  · cases h
  · cases h
  · cases h
  · cases h
  · cases h; exact ⟨_, _, Tryd.underlying82, Tryd.underlying9, tyOk_bool⟩
  · cases h
  · cases h
  · cases h
  · cases h
theorem bldT_ok : ∀ T t, tyT T = some t → t.isAgg = true → ∃ fs places, Tryd.prog.underlying T = some (.struct fs) ∧ fs.toList.mapM (fun f => (Tryd.prog.info? f.type).map fun i => (f.offset, i.size)) = some places := by
  intro T t h ha
  unfold tyT at h
  split at h
  · cases h; cases ha
  · cases h; cases ha
  · cases h; cases ha
  · cases h; cases ha
  · cases h; cases ha
  · cases h; cases ha
  · exact ⟨_, [(0, 1), (1, 1), (2, 1)], Tryd.underlying34, by kernel_rfl⟩
  · cases h; cases ha
  · cases h; cases ha
  · cases h; cases ha
  · cases h; cases ha
  · cases h
def cmpT : TypeId → Option Ty := fun T =>
  match T with
  | _ => none
theorem cmpT_ok : ∀ T t, cmpT T = some t → CmpOk Tryd.prog T t := by
  intro T t h
  unfold cmpT at h
  split at h
  · cases h
def mkE (h : Nat → Hint) (fn : FuncId → Option Tmp → Option AF) (exq : Nat → Bool) (live : FuncId → Bool) : Env := { ty := tyT, el := elT, fld := fldT, cmp := cmpT, fn := fn, hint := h, exq := exq, live := live }
theorem mkE_ok (hh : Nat → Hint) (fn : FuncId → Option Tmp → Option AF) (exq : Nat → Bool) (live : FuncId → Bool) (h : ∀ f q F, fn f q = some F → Sound Tryd.prog GW B0G f F) : EnvOk Tryd.prog GW B0G (mkE hh fn exq live) :=
  { ty := tyT_ok, el := elT_ok, fld := fldT_ok, mp := mpT_ok, bld := bldT_ok, cmp := cmpT_ok, fn := h, stable := GW_stable, mixed := by kernel_rfl }
end Go.Proofs.YthlkidohpiebiaaDoor

