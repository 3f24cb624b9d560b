/-
  DERIVED: THE SHELF's CONTRACTS AT THIS DUMP, IN PLAIN WORDS (tools/lay-plain.mjs out of 'TryzShelf.lean', which tools/lay-shelf.mjs wrote): THE SAME DECLARATIONS UNDER THE SAME NAMES: 'import', 'namespace', 'open', 'def', 'theorem' AND NOTHING ELSE: no command of the shelf's: FOR A HAND-IN. Each laying: the table of numbers ('.._ren') and one theorem, a field a fact of the dump's own or the kernel's comparison; each contract: ONE APPLICATION.
-/
import Derived.Shelf.Strings.Builder1
import Derived.Shelf.Strings.Builder2
import Derived.Shelf.Strings.OnBuilder
import Derived.Shelf.Strings.Trim
import Derived.Shelf.Small.Utf8
import Derived.Shelf.Small.Bits
import Derived.Shelf.Small.Strs
import Derived.Shelf.Utf8.RuneCount
import Derived.Shelf.Strconv.Itoa0
import Derived.Shelf.Strings.Search1
import Derived.Shelf.Strings.Search2
import Derived.Shelf.Strings.Search3
import Derived.Shelf.Strings.Count
import Derived.Shelf.LaysM
import Derived.Shelf.Strings.Shaped
import Derived.Shelf.GgClosure.StringsIndexFunc
import Derived.Ground.GgwProg
import Derived.Shelf.GgClosure.StringsIndexFuncTop
import Derived.Shelf.Strings.Split
import Derived.Shelf.Strings.SplitShaped
import Derived.Shelf.Unicode.Decode
import Derived.Shelf.Strings.Runes
import Derived.Shelf.Strings.RuneCount
import Derived.Shelf.Strings.AsciiSet
import Derived.Shelf.Strings.Explode
import Derived.Shelf.Unicode.DecodeSlow
import Derived.Shelf.Unicode.DecodeAny
import Derived.Shelf.Unicode.DecodeLast
import Derived.Shelf.Strings.FuncGrows
import Derived.Shelf.Slices.Turned
import Derived.Shelf.Slices.Equal
import Derived.Ground.Names2Prog
import Derived.Shelf.Slices.Clone
import Derived.Shelf.Slices.CompactS
import Derived.Shelf.Slices.Cells
import Derived.Ground.SlgnProg
import Derived.Shelf.SlicesE.Clone
import Derived.Test.YtbekhaioddmliaaGreatDoorProg
import Derived.Test.YtbekhaioddmliaaGreatDoorQBmX
import Derived.Shelf.Strings.SlTrimAscii
import Derived.Shelf.Spec.SlicesInsert
import Derived.Lib.AppendZerosOnto
import Derived.Test.YtbekhaioddmliaaGreatDoorQSlc
import Derived.WalkSpells
import Derived.WalkLawsBesides
import Derived.Outline
import Derived.IntWalk
namespace Go.Proofs
open Go.Shelf
def Tryz.lays156_ren : Go.Shelf.Ren := ⟨fun | 156 => 93 | 165 => 140 | 166 => 141 | 169 => 142 | 240 => 186 | 241 => 187 | 276 => 208 | 277 => 209 | n => n, fun | 31 => 29 | 9 => 9 | 3 => 3 | 4 => 4 | 0 => 0 | 20 => 20 | 72 => 167 | 76 => 171 | 70 => 164 | 37 => 165 | 75 => 170 | 127 => 210 | 164 => 226 | 5 => 5 | 80 => 173 | n => n, fun | n => n⟩
theorem Tryz.lays156 : Go.Proofs.Lays.n156 Tryz.prog Tryz.lays156_ren := {
  mixed := by kernel_rfl
  f156 := Tryz.func93.trans (congrArg some (by kernel_rfl))
  f165 := Tryz.func140.trans (congrArg some (by kernel_rfl))
  f166 := Tryz.func141.trans (congrArg some (by kernel_rfl))
  f169 := Tryz.func142.trans (congrArg some (by kernel_rfl))
  f240 := Tryz.func186.trans (congrArg some (by kernel_rfl))
  f241 := Tryz.func187.trans (congrArg some (by kernel_rfl))
  f276 := Tryz.func208.trans (congrArg some (by kernel_rfl))
  f277 := Tryz.func209.trans (congrArg some (by kernel_rfl))
  t0 := Tryz.underlying0
  a0 := Tryz.isAgg0
  z0 := Tryz.sizeOf0
  v0 := Tryz.zeroValue0
  t3 := Tryz.underlying3
  a3 := Tryz.isAgg3
  z3 := Tryz.sizeOf3
  v3 := Tryz.zeroValue3
  t4 := Tryz.underlying4
  a4 := Tryz.isAgg4
  z4 := Tryz.sizeOf4
  v4 := Tryz.zeroValue4
  t9 := Tryz.underlying9
  a9 := Tryz.isAgg9
  z9 := Tryz.sizeOf9
  v9 := Tryz.zeroValue9
  t20 := Tryz.underlying20
  a20 := Tryz.isAgg20
  z20 := Tryz.sizeOf20
  v20 := Tryz.zeroValue20
  t31 := Tryz.underlying29
  a31 := Tryz.isAgg29
  z31 := Tryz.sizeOf29
  v31 := Tryz.zeroValue29
  t37 := Tryz.underlying165
  a37 := Tryz.isAgg165
  z37 := Tryz.sizeOf165
  v37 := Tryz.zeroValue165
  t70 := Tryz.underlying164
  a70 := Tryz.isAgg164
  z70 := Tryz.sizeOf164
  v70 := Tryz.zeroValue164
  t72 := Tryz.underlying167
  a72 := Tryz.isAgg167
  z72 := Tryz.sizeOf167
  v72 := Tryz.zeroValue167
  t75 := Tryz.underlying170
  a75 := Tryz.isAgg170
  z75 := Tryz.sizeOf170
  v75 := Tryz.zeroValue170
  t76 := Tryz.underlying171
  a76 := Tryz.isAgg171
  z76 := Tryz.sizeOf171
  v76 := Tryz.zeroValue171
  t127 := Tryz.underlying210
  a127 := Tryz.isAgg210
  z127 := Tryz.sizeOf210
  v127 := Tryz.zeroValue210
  t164 := Tryz.underlying226
  a164 := Tryz.isAgg226
  z164 := Tryz.sizeOf226
  v164 := Tryz.zeroValue226 }
theorem Tryz.Builder_Extra_156 : Builder.Extra Tryz.prog Tryz.lays156_ren := {
  sizeBuilder := by kernel_rfl
  liesBuilder := by kernel_rfl
  t5 := Tryz.underlying5
  a5 := Tryz.isAgg5
  z5 := Tryz.sizeOf5
  v5 := Tryz.zeroValue5
  infoByte := by kernel_rfl
  cellsByte := by kernel_rfl
  sizeByte := by kernel_rfl
  neB5 := by decide }
open Go.RowKit in
/-- No element: the empty string; the world is as it was. (Whatever the slice's address and capacity: a nil slice too.) (LAID: no walk: one application.) -/
theorem Tryz.strings_Join_none (a : Option Addr) (c : Nat) (sep : ByteArray) (w : World) :
    Calls Tryz.prog 93 #[.slice a 0 c, .string sep] w fun e w' => e = .returned (.string ⟨#[]⟩) ∧ w' = w := Any.strings_Join_none Tryz.lays156 Tryz.Builder_Extra_156 a c sep w
open Go.RowKit in
/-- strings.Join: "Join concatenates the elements of its first argument to create a single string. The separator string sep is placed between elements in the resulting string.": HOWEVER MANY ELEMENTS. Below the heap's end the world is as it was. (LAID: no walk: one application.) -/
theorem Tryz.strings_Join (bk o c : Nat) (xs : List ByteArray) (sep : ByteArray) (w : World) (hcells : ∀ (j : Nat) x, xs[j]? = some x → w.cell? ⟨bk, o + j, none⟩ = some (.string x)) (hbk : bk < w.heap.size) (hN : xs.length ≤ 140737488355328) (hcap : xs.length ≤ c) (hlen : (Lib.join (xs.map (·.data.toList)) sep.data.toList).length ≤ 140737488355328) :
    Calls Tryz.prog 93 #[.slice (some ⟨bk, o, none⟩) xs.length c, .string sep] w fun e w' => e = .returned (.string ⟨(Lib.join (xs.map (·.data.toList)) sep.data.toList).toArray⟩) ∧ Below w.heap.size w w' := Any.strings_Join Tryz.lays156 Tryz.Builder_Extra_156 bk o c xs sep w hcells hbk hN hcap hlen
def Tryz.lays160_ren : Go.Shelf.Ren := ⟨fun | 160 => 102 | 232 => 148 | 231 => 147 | 227 => 149 | 234 => 151 | 233 => 150 | 236 => 153 | 235 => 152 | 228 => 190 | 271 => 193 | 151 => 192 | 197 => 191 | 120 => 213 | 152 => 212 | 260 => 211 | 137 => 205 | 119 => 220 | 224 => 221 | 225 => 222 | 217 => 219 | 266 => 226 | n => n, fun | 9 => 9 | 4 => 4 | 3 => 3 | 5 => 5 | 117 => 179 | 116 => 178 | 0 => 0 | 124 => 182 | 21 => 21 | 105 => 211 | 46 => 142 | 119 => 236 | 139 => 239 | 138 => 238 | n => n, fun | 3 => 1 | 4 => 2 | n => n⟩
theorem Tryz.lays160 : Go.Proofs.Lays.n160 Tryz.prog Tryz.lays160_ren := {
  mixed := by kernel_rfl
  f119 := Tryz.func220.trans (congrArg some (by kernel_rfl))
  f120 := Tryz.func213.trans (congrArg some (by kernel_rfl))
  f137 := Tryz.func205.trans (congrArg some (by kernel_rfl))
  f151 := Tryz.func192.trans (congrArg some (by kernel_rfl))
  f152 := Tryz.func212.trans (congrArg some (by kernel_rfl))
  f160 := Tryz.func102.trans (congrArg some (by kernel_rfl))
  f197 := Tryz.func191.trans (congrArg some (by kernel_rfl))
  f217 := Tryz.func219.trans (congrArg some (by kernel_rfl))
  f224 := Tryz.func221.trans (congrArg some (by kernel_rfl))
  f225 := Tryz.func222.trans (congrArg some (by kernel_rfl))
  f227 := Tryz.func149.trans (congrArg some (by kernel_rfl))
  f228 := Tryz.func190.trans (congrArg some (by kernel_rfl))
  f231 := Tryz.func147.trans (congrArg some (by kernel_rfl))
  f232 := Tryz.func148.trans (congrArg some (by kernel_rfl))
  f233 := Tryz.func150.trans (congrArg some (by kernel_rfl))
  f234 := Tryz.func151.trans (congrArg some (by kernel_rfl))
  f235 := Tryz.func152.trans (congrArg some (by kernel_rfl))
  f236 := Tryz.func153.trans (congrArg some (by kernel_rfl))
  f260 := Tryz.func211.trans (congrArg some (by kernel_rfl))
  f266 := Tryz.func226.trans (congrArg some (by kernel_rfl))
  f271 := Tryz.func193.trans (congrArg some (by kernel_rfl))
  t0 := Tryz.underlying0
  a0 := Tryz.isAgg0
  z0 := Tryz.sizeOf0
  v0 := Tryz.zeroValue0
  t3 := Tryz.underlying3
  a3 := Tryz.isAgg3
  z3 := Tryz.sizeOf3
  v3 := Tryz.zeroValue3
  t4 := Tryz.underlying4
  a4 := Tryz.isAgg4
  z4 := Tryz.sizeOf4
  v4 := Tryz.zeroValue4
  t5 := Tryz.underlying5
  a5 := Tryz.isAgg5
  z5 := Tryz.sizeOf5
  v5 := Tryz.zeroValue5
  t9 := Tryz.underlying9
  a9 := Tryz.isAgg9
  z9 := Tryz.sizeOf9
  v9 := Tryz.zeroValue9
  t21 := Tryz.underlying21
  a21 := Tryz.isAgg21
  z21 := Tryz.sizeOf21
  v21 := Tryz.zeroValue21
  t46 := Tryz.underlying142
  a46 := Tryz.isAgg142
  z46 := Tryz.sizeOf142
  v46 := Tryz.zeroValue142
  t105 := Tryz.underlying211
  a105 := Tryz.isAgg211
  z105 := Tryz.sizeOf211
  v105 := Tryz.zeroValue211
  t116 := Tryz.underlying178
  a116 := Tryz.isAgg178
  z116 := Tryz.sizeOf178
  t117 := Tryz.underlying179
  a117 := Tryz.isAgg179
  z117 := Tryz.sizeOf179
  v117 := Tryz.zeroValue179
  t119 := Tryz.underlying236
  a119 := Tryz.isAgg236
  z119 := Tryz.sizeOf236
  t124 := Tryz.underlying182
  a124 := Tryz.isAgg182
  z124 := Tryz.sizeOf182
  v124 := Tryz.zeroValue182
  t138 := Tryz.underlying238
  a138 := Tryz.isAgg238
  z138 := Tryz.sizeOf238
  v138 := Tryz.zeroValue238
  t139 := Tryz.underlying239
  a139 := Tryz.isAgg239
  z139 := Tryz.sizeOf239
  v139 := Tryz.zeroValue239
  g3 := by kernel_rfl
  g4 := by kernel_rfl }
def Tryz.lays106_ren : Go.Shelf.Ren := ⟨fun | 106 => 98 | 213 => 144 | 265 => 188 | n => n, fun | 9 => 9 | 3 => 3 | n => n, fun | n => n⟩
theorem Tryz.lays106 : Go.Proofs.Lays.n106 Tryz.prog Tryz.lays106_ren := {
  mixed := by kernel_rfl
  f106 := Tryz.func98.trans (congrArg some (by kernel_rfl))
  f213 := Tryz.func144.trans (congrArg some (by kernel_rfl))
  f265 := Tryz.func188.trans (congrArg some (by kernel_rfl))
  t3 := Tryz.underlying3
  a3 := Tryz.isAgg3
  z3 := Tryz.sizeOf3
  v3 := Tryz.zeroValue3
  t9 := Tryz.underlying9
  a9 := Tryz.isAgg9
  z9 := Tryz.sizeOf9
  v9 := Tryz.zeroValue9 }
open Go.RowKit in
/-- strings.Compare: "Compare returns an integer comparing two strings lexicographically. The result will be 0 if a == b, -1 if a < b, and +1 if a > b.": IT RETURNS 'Lib.compareBytes a b'; the world is as it was. (LAID: no walk: one application.) -/
theorem Tryz.strings_Compare (a b : ByteArray) (w : World) :
    Calls Tryz.prog 98 #[.string a, .string b] w fun e w' => e = .returned (.int .i64 (Lib.compareBytes a.data.toList b.data.toList)) ∧ w' = w := Any.strings_Compare Tryz.lays106 a b w
def Tryz.laysM143_ren : Go.Shelf.Ren := ⟨fun | 143 => 218 | 219 => 225 | 217 => 219 | 225 => 222 | 224 => 221 | 267 => 227 | 266 => 226 | 314 => 228 | n => n, fun | 9 => 9 | 3 => 3 | 4 => 4 | 5 => 5 | 46 => 142 | 146 => 242 | 51 => 192 | n => n, fun | 1 => 0 | n => n⟩
theorem Tryz.laysM143 : Go.Proofs.LaysM.n143 Tryz.prog Tryz.laysM143_ren := {
  mixed := by kernel_rfl
  f143 := Tryz.func218.trans (congrArg some (by kernel_rfl))
  f217 := Tryz.func219.trans (congrArg some (by kernel_rfl))
  f219 := Tryz.func225.trans (congrArg some (by kernel_rfl))
  f224 := Tryz.func221.trans (congrArg some (by kernel_rfl))
  f225 := Tryz.func222.trans (congrArg some (by kernel_rfl))
  f266 := Tryz.func226.trans (congrArg some (by kernel_rfl))
  f267 := Tryz.func227.trans (congrArg some (by kernel_rfl))
  f314 := Tryz.func228.trans (congrArg some (by kernel_rfl))
  t3 := Tryz.underlying3
  a3 := Tryz.isAgg3
  z3 := Tryz.sizeOf3
  v3 := Tryz.zeroValue3
  t4 := Tryz.underlying4
  a4 := Tryz.isAgg4
  z4 := Tryz.sizeOf4
  v4 := Tryz.zeroValue4
  t5 := Tryz.underlying5
  a5 := Tryz.isAgg5
  z5 := Tryz.sizeOf5
  v5 := Tryz.zeroValue5
  t9 := Tryz.underlying9
  a9 := Tryz.isAgg9
  z9 := Tryz.sizeOf9
  v9 := Tryz.zeroValue9
  t46 := Tryz.underlying142
  a46 := Tryz.isAgg142
  z46 := Tryz.sizeOf142
  v46 := Tryz.zeroValue142
  t51 := Tryz.underlying192
  a51 := Tryz.isAgg192
  z51 := Tryz.sizeOf192
  v51 := Tryz.zeroValue192
  t146 := Tryz.underlying242
  a146 := Tryz.isAgg242
  z146 := Tryz.sizeOf242
  v146 := Tryz.zeroValue242
  g1 := by kernel_rfl
  i3 := by kernel_rfl
  i4 := by kernel_rfl
  i5 := by kernel_rfl
  i9 := by kernel_rfl
  i46 := by kernel_rfl
  i51 := by kernel_rfl
  i146 := by kernel_rfl
  m1 := by kernel_rfl
  s1_3 := fun w h => Go.Proofs.cell_of_shapedOpen_int (zero := #[.int .i64 0]) (t := 3) h (of_decide_eq_true (by kernel_rfl)) (by kernel_rfl) rfl (by kernel_rfl) (by kernel_rfl) Tryz.underlying3 }
end Go.Proofs


/- How a contract of the kit is said of the machine. -/
namespace Go.Proofs.YtbekhaioddmliaaGreatDoor
set_option linter.unusedVariables false
set_option linter.unusedSimpArgs false
open Go Go.RowKit Go.Shelf
abbrev g0 : Gh := fun _ => none
theorem Sound.ofExt {P : Program} {G : World → Prop} {B0 : Nat} {f : FuncId} {ps rs : List Sl} {R : Type} {out : R → SV rs × BV []} {F : SV ps → BV [] → Option R}
    (hcall : ∀ (args : Array Value) (w : World), (callFunc f args).run P w = .ok (.enter f args) w)
    (h : ∀ (M : Nat → Nat → Prop) (w : World) (vs : List Value) (x : SV ps) (z : R), G w → (∀ b o, M b o → b < w.heap.size) → All2 (RepD0 M w g0) (lays id ps x) vs → F x () = some z →
      Calls P f vs.toArray w fun e w' => ∃ vs', e = .returned (rets vs') ∧ Ext w w' ∧ All2 (RepD0 M w' g0) (lays id rs (out z).1) vs') : Sound P G B0 f ⟨ps, [], rs, [], R, out, F⟩ := by
  refine ⟨hcall, fun M w g vs x y z hG hB hF hz => ?_⟩
  have hg : g = g0 := by
    funext r
    cases hr : g r with
    | none => rfl
    | some gx => exact absurd (hF.dom r gx hr) (Nat.not_lt_zero _)
  subst hg
  have hM : Mafter M g0 g0 = M := by
    funext b o
    refine propext ⟨fun h => ?_, fun h => .inl ⟨h, fun ⟨_, _, hx, _⟩ => by cases hx⟩⟩
    exact h.elim (fun h => h.1) fun ⟨_, _, hx, _⟩ => by cases hx
  refine (h M w vs x z hG hF.mlt hF.args hz).mono fun e w' hp => ?_
  obtain ⟨vs', he, hE, hA⟩ := hp
  refine ⟨vs', g0, he, ExtX.of_ext hE, ?_, ?_, fun _ _ h _ => (by cases h), fun b hb => .inl hb⟩
  · rw [hM]; exact Step.ext hE
  · rw [hM]
    exact { args := hA, res := fun r blk h => (by cases h), dom := fun r gx h => (by cases h), inj := fun _ _ _ _ _ h => (by cases h), low := fun _ _ _ h => (by cases h), chg := fun _ _ _ _ h => (by cases h), mlt := fun b o h => Nat.lt_of_lt_of_le (hF.mlt b o h) hE.size, row := fun _ _ _ h => (by cases h) }
section
variable {M : Nat → Nat → Prop} {w : World}
theorem RepV.str {x : Str} {v : Value} (h : RepV M w .str x v) : v = .string ⟨List.toArray x⟩ := by
  have := RepV.plain rfl h
  have := (show [v] = [.string ⟨List.toArray x⟩] from this)
  injection this
theorem RepV.u8 {x : UInt8} {v : Value} (h : RepV M w .u8 x v) : v = .int .u8 (UInt8.toNat x) := by
  have := RepV.plain rfl h
  have := (show [v] = [.int .u8 (UInt8.toNat x)] from this)
  injection this
theorem RepV.int {k : IntKind} {x : Int} {v : Value} (h : RepV M w (.int k) x v) : v = .int k x := by
  have := RepV.plain rfl h
  have := (show [v] = [.int k x] from this)
  injection this
theorem vStr (x : Str) : RepV M w .str x (.string ⟨List.toArray x⟩) := RepC.toV rfl rfl
theorem vInt (k : IntKind) (x : Int) : RepV M w (.int k) x (.int k x) := RepC.toV rfl rfl
/-- A slice of strings: where its cells lie. -/
theorem RepV.strs {xs : List Str} {v : Value} (h : RepV M w (.sl .str) xs v) : ∃ A c, v = .slice A xs.length c ∧ xs.length ≤ c ∧ c ≤ maxLen ∧ (xs ≠ [] → ∃ b o, A = some ⟨b, o, none⟩ ∧ ∀ j x, xs[j]? = some x → w.cell? ⟨b, o + j, none⟩ = some (.string ⟨x.toArray⟩)) := by
  obtain ⟨A, c, h1, h2, h3, h4⟩ := RepV.plain (t := .sl .str) rfl h
  injection h1 with h1
  refine ⟨A, c, h1, h2, h3, fun hx => ?_⟩
  have hat : ∀ i (h : i < xs.length), ∃ ad, A = some ad ∧ w.cell? (ad.add i) = some (.string ⟨xs[i].toArray⟩) := fun i hi => by
    obtain ⟨ad, es, a1, a2, a3⟩ := h4 i hi
    have a2' : es = [.string ⟨xs[i].toArray⟩] := a2
    subst a2'
    have := (a3 0 _ rfl).1
    have e : (ad.add (i * Ty.sz .str)).add 0 = ad.add i := by show Addr.add (Addr.add ad (i * 1)) 0 = _; rw [Nat.mul_one]; rfl
    rw [e] at this
    exact ⟨ad, a1, this⟩
  have hl : 0 < xs.length := by cases xs with
    | nil => exact absurd rfl hx
    | cons => exact Nat.succ_pos _
  obtain ⟨ad, a1, a2⟩ := hat 0 hl
  obtain ⟨b, o, sp⟩ := ad
  have hsp : sp = none := by
    cases sp with
    | none => rfl
    | some s =>
      have : w.cell? (⟨b, o, some s⟩ : Addr) = none := by
        unfold World.cell?
        split
        · rfl
        · rfl
      rw [show Addr.add ⟨b, o, some s⟩ 0 = ⟨b, o, some s⟩ from rfl, this] at a2
      cases a2
  subst hsp
  refine ⟨b, o, a1, fun j x hj => ?_⟩
  have hj' : j < xs.length := by
    rcases Nat.lt_or_ge j xs.length with h | h
    · exact h
    · rw [List.getElem?_eq_none h] at hj; cases hj
  obtain ⟨ad, b1, b2⟩ := hat j hj'
  rw [a1] at b1
  injection b1 with b1
  subst b1
  rw [List.getElem?_eq_getElem hj'] at hj
  injection hj with hj
  subst hj
  have e : Addr.add ⟨b, o, none⟩ j = ⟨b, o + j, none⟩ := by unfold Addr.add; split <;> simp_all
  rwa [e] at b2
end
end Go.Proofs.YtbekhaioddmliaaGreatDoor


/- strings.Trim and strings.Join, out of the kit's contracts. -/
namespace Go.Proofs.YtbekhaioddmliaaGreatDoor
set_option linter.unusedVariables false
set_option linter.unusedSimpArgs false
open Go Go.RowKit Go.Shelf
def strings_Trim (a b : Str) : Option Str := if a.length ≤ 9223372036854775807 ∧ b.length < 1000000 ∧ b.all (fun c => decide (c.toNat < 128)) = true then some (Lib.trimS a b) else none
theorem strings_Trim_sound : Sound Tryz.prog GW B0G 102 ⟨[.v .str, .v .str], [], [.v .str], [], Str, fun z => ((z, ()), ()), fun x _ => strings_Trim x.1 x.2.1⟩ := by
  refine Sound.ofExt Tryz.call102 fun M w vs x z hG hM hA hz => ?_
  obtain ⟨a, b, u⟩ := x
  match vs, hA with
  | [v1, v2], hA =>
    obtain ⟨h1, h2, _⟩ := hA
    rw [RepV.str h1, RepV.str h2]
    change strings_Trim a b = some z at hz
    unfold strings_Trim at hz
    split at hz
    · rename_i hc
      injection hz with hz
      subst hz
      refine (Any.strings_Trim_laid Tryz.lays160 (by kernel_rfl) ⟨a.toArray⟩ ⟨b.toArray⟩ w hc.1 (Nat.lt_of_lt_of_le hc.2.1 (by decide)) (ascii_of_all hc.2.2)).mono fun e w' hp => ?_
      exact ⟨[_], hp.1, hp.2, vStr _, trivial⟩
    · cases hz
def strings_Join (l : List Str) (sep : Str) : Option Str := if (Lib.join l sep).length ≤ 140737488355328 ∧ l.length ≤ 140737488355328 then some (Lib.join l sep) else none
theorem strings_Join_sound : Sound Tryz.prog GW B0G 93 ⟨[.v (.sl .str), .v .str], [], [.v .str], [], Str, fun z => ((z, ()), ()), fun x _ => strings_Join x.1 x.2.1⟩ := by
  refine Sound.ofExt Tryz.call93 fun M w vs x z hG hM hA hz => ?_
  obtain ⟨l, b, u⟩ := x
  match vs, hA with
  | [v1, v2], hA =>
    obtain ⟨h1, h2, _⟩ := hA
    obtain ⟨A, c, e1, hc1, hc2, hcell⟩ := RepV.strs h1
    rw [e1, RepV.str h2]
    change strings_Join l b = some z at hz
    unfold strings_Join at hz
    split at hz
    · rename_i hc
      injection hz with hz
      subst hz
      rcases Classical.em (l = []) with hl | hl
      · subst hl
        refine (Any.strings_Join_none Tryz.lays156 Tryz.Builder_Extra_156 A c ⟨b.toArray⟩ w).mono fun e w' hp => ?_
        exact ⟨[_], hp.1, hp.2 ▸ Ext.refl w, vStr _, trivial⟩
      · replace hcell := hcell hl
        obtain ⟨bk, o, rfl, hcell⟩ := hcell
        have hm : (l.map fun x => (⟨x.toArray⟩ : ByteArray)).map (·.data.toList) = l := by rw [List.map_map]; exact List.map_id' l
        have hbk : bk < w.heap.size := by
          cases l with
          | nil => exact absurd rfl hl
          | cons x r => exact World.block_lt_of_cell? w _ (hcell 0 x rfl)
        have := Any.strings_Join Tryz.lays156 Tryz.Builder_Extra_156 bk o c (l.map fun x => (⟨x.toArray⟩ : ByteArray)) ⟨b.toArray⟩ w (fun j x hj => by
          rw [List.getElem?_map] at hj
          cases hx : l[j]? with
          | none => rw [hx] at hj; cases hj
          | some y => rw [hx] at hj; injection hj with hj; subst hj; exact hcell j y hx) hbk (by rw [List.length_map]; exact hc.2) (by rw [List.length_map]; exact hc1) (by rw [hm]; exact hc.1)
        rw [hm, List.length_map] at this
        refine this.mono fun e w' hp => ?_
        exact ⟨[_], hp.1, hp.2, vStr _, trivial⟩
    · cases hz
end Go.Proofs.YtbekhaioddmliaaGreatDoor



/- More functions of Go's library, out of the kit's contracts. -/
namespace Go.Proofs.YtbekhaioddmliaaGreatDoor
set_option linter.unusedVariables false
set_option linter.unusedSimpArgs false
open Go Go.RowKit Go.Shelf
def strings_Compare (a b : Str) : Option Int := some (Lib.compareBytes a b)
theorem strings_Compare_sound : Sound Tryz.prog GW B0G 98 ⟨[.v .str, .v .str], [], [.v (.int .i64)], [], Int, fun z => ((z, ()), ()), fun x _ => strings_Compare x.1 x.2.1⟩ := by
  refine Sound.ofExt Tryz.call98 fun M w vs x z hG hM hA hz => ?_
  obtain ⟨a, b, u⟩ := x
  match vs, hA with
  | [v1, v2], hA =>
    obtain ⟨h1, h2, _⟩ := hA
    rw [RepV.str h1, RepV.str h2]
    have e : Lib.compareBytes a b = z := Option.some.inj hz
    subst e
    refine (Tryz.strings_Compare ⟨a.toArray⟩ ⟨b.toArray⟩ w).mono fun e w' hp => ?_
    obtain ⟨rfl, rfl⟩ := hp
    exact ⟨[_], rfl, Ext.refl _, vInt .i64 _, trivial⟩
end Go.Proofs.YtbekhaioddmliaaGreatDoor



/- strings.ContainsFunc of a function of the program, out of the kit's contract. -/
namespace Go.Proofs.YtbekhaioddmliaaGreatDoor
set_option linter.unusedVariables false
set_option linter.unusedSimpArgs false
open Go Go.RowKit Go.Shelf
end Go.Proofs.YtbekhaioddmliaaGreatDoor



/- How a contract of a function that turns a row of its caller's is said of the machine. -/
namespace Go.Proofs.YtbekhaioddmliaaGreatDoor
set_option linter.unusedVariables false
set_option linter.unusedSimpArgs false
open Go Go.RowKit Go.Shelf
/-- The elements of a row, and where they lie. -/
def Els (M : Nat → Nat → Prop) (w : World) (t : Ty) (xs : List t.den) (cs : List Value) : Prop := ∀ i (h : i < xs.length), RepC M w t xs[i] ((cs.drop (i * t.sz)).take t.sz)
/-- The value of the row that is handed back, or nothing. -/
def backS (b : Bool) : List Sl := match b with | true => [.row 0] | false => []
def backX : (b : Bool) → SV (backS b)
  | true => ((), ())
  | false => ()
def backV (b : Bool) (v : Value) : Value := match b with | true => v | false => .tuple #[]
def backL (b : Bool) (v : Value) : List Value := match b with | true => [v] | false => []
theorem own_lt {w : World} {base : Nat} {e : TypeId} {sz : Nat} {v : Value} {n : Nat} {cs : List Value} (h : w.ownsRow base e sz v n cs) {b : Nat} (hb : v.ownBlock = some b) : b < w.heap.size := by
  rcases h.2 with ⟨e1, _⟩ | ⟨g, cap, cur, e1, _, hg, _⟩
  · rw [e1] at hb; cases hb
  · rw [e1] at hb
    simp only [Value.ownBlock, Option.some.injEq] at hb
    subst hb
    exact lt_of_map hg
theorem ExtX.mono {X Y : Nat → Prop} {w w' : World} (h : ExtX X w w') (hX : ∀ k, X k → Y k) : ExtX Y w w' := ⟨h.os, h.tape, h.output, h.size, fun k hk hy => h.block k hk fun hx => hy (hX k hx)⟩
/-- The same, with a second row that is read, and is forgotten. -/
theorem Sound.ofRow2 {P : Program} {G : World → Prop} {B0 : Nat} {f : FuncId} {tt : Ty} {e : TypeId} {t : Ty} (back : Bool) {F : tt.den → List t.den → List t.den → Option (List t.den)}
    (hcall : ∀ (args : Array Value) (w : World), (callFunc f args).run P w = .ok (.enter f args) w) (hz : 0 < t.sz)
    (h : ∀ (M : Nat → Nat → Prop) (w : World) (g : Gh) (v0 vi : Value) (x : tt.den) (v1 : Value) (xs ys zs : List t.den) (cs cys : List Value), G w → (∀ b o, M b o → b < w.heap.size) → (∀ b, v0.ownBlock = some b → ∀ o, M b o) →
      w.ownsRow 0 e t.sz v0 xs.length cs → Els M w t xs cs → w.ownsRow 0 e t.sz v1 ys.length cys → Els M w t ys cys → (∀ b, v0.ownBlock = some b → v1.ownBlock ≠ some b) → RepV M w tt x vi → F x xs ys = some zs →
      Calls P f #[v0, vi, v1] w fun en w' => ∃ v' cs', en = .returned (backV back v') ∧ (back = false → v' = v0) ∧ ExtX (fun b => v0.ownBlock = some b) w w' ∧
        w'.ownsRow 0 e t.sz v' zs.length cs' ∧ Els M w t zs cs' ∧ ∀ b, v'.ownBlock = some b → v0.ownBlock = some b ∨ w.heap.size ≤ b) :
    Sound P G B0 f ⟨[.row 0, .v tt, .row 1], [.row e t true, .row e t false], backS back, [.row e t true, .none], List t.den, fun z => (backX back, (z, ((), ()))), fun x y => F x.2.1 y.1 y.2.1⟩ := by
  refine ⟨hcall, fun M w g vs0 x y zs hG hB hF hz' => ?_⟩
  obtain ⟨_, x, _, _⟩ := x
  obtain ⟨xs, ys, _⟩ := y
  match vs0, hF.args with
  | [v0, vi, v1], ⟨h0, hA, h1, _⟩ =>
    obtain ⟨gy, A1, n1, c1, hy0, hy1, _⟩ := h1
    obtain ⟨gy', hy', _, cys, hownY, hblkY, _, helsY⟩ := hF.res 1 (.row e t false ys) rfl
    replace hy0 : g 1 = some gy := hy0
    rw [hy'] at hy0
    cases hy0
    rw [← hy1] at hownY hblkY
    obtain ⟨gx, A, n, c, hg0, hv, hv2⟩ := h0
    obtain ⟨gx', hg', _, cs, hown, hblk, hlo, hels⟩ := hF.res 0 (.row e t true xs) rfl
    replace hg0 : g 0 = some gx := hg0
    rw [hg'] at hg0
    cases hg0
    have hlo : gx.lo = 0 := hlo
    rw [← hv] at hown hblk
    have hM : ∀ b, v0.ownBlock = some b → ∀ o, M b o := fun b hb o => (hF.chg 0 gx b o hg' (by rw [hblk]; exact hb)).2 (by rw [hlo]; exact Nat.zero_le _)
    have honly : ∀ r gz, g r = some gz → r = 0 ∨ r = 1 := fun r gz hr => by
      have h2 : r < 2 := hF.dom r gz hr
      omega
    have hX : ∀ b, v0.ownBlock = some b → Xof g b := fun b hb => ⟨0, gx, hg', by rw [hblk]; exact hb⟩
    have hne : ∀ b, v0.ownBlock = some b → v1.ownBlock ≠ some b := fun b h1 h2 => by
      have := hF.inj 0 1 gx gy b hg' hy' (by rw [hblk]; exact h1) (by rw [hblkY]; exact h2)
      cases this
    refine (h M w g v0 vi x v1 xs ys zs cs cys hG hF.mlt hM hown hels hownY helsY hne hA hz').mono fun en w' hp => ?_
    obtain ⟨v', cs', he, hsame, hE, hown', hels', hblk'⟩ := hp
    obtain ⟨g', hgd⟩ : ∃ g' : Gh, g' = fun r => if r = 0 then some ⟨v'.ownBlock, 0, v'⟩ else none := ⟨_, rfl⟩
    have hg0' : g' 0 = some ⟨v'.ownBlock, 0, v'⟩ := by rw [hgd]; rfl
    have hgo : ∀ r gy, g' r = some gy → r = 0 ∧ gy = ⟨v'.ownBlock, 0, v'⟩ := fun r gy hr => by
      rw [hgd] at hr
      by_cases h0 : r = 0
      · subst h0; simp at hr; exact ⟨rfl, hr.symm⟩
      · simp [h0] at hr
    have hnew : ∀ b o, Mafter M g g' b o → (M b o ∧ v0.ownBlock ≠ some b) ∨ v'.ownBlock = some b := fun b o hm => by
      rcases hm with ⟨hm, hx⟩ | ⟨r, gy, hr, hb, _⟩
      · exact .inl ⟨hm, fun hb => hx (hX b hb)⟩
      · obtain ⟨_, rfl⟩ := hgo r gy hr
        exact .inr hb
    have hstep : Step M w (Mafter M g g') w' := by
      have key : ∀ b o, b < w.heap.size → ¬ M b o → w'.heap[b]? = w.heap[b]? ∧ ¬ Mafter M g g' b o := fun b o hb hm => by
        have hnb : v0.ownBlock ≠ some b := fun h => hm (hM b h o)
        refine ⟨hE.block b hb hnb, fun hm' => ?_⟩
        rcases hnew b o hm' with ⟨h1, _⟩ | h1
        · exact hm h1
        · rcases hblk' b h1 with h2 | h2
          · exact hnb h2
          · omega
      refine ⟨fun ad u hu hm => ?_, fun b es c hb hm => ?_⟩
      · have hlt : ad.block < w.heap.size := World.block_lt_of_cell? w _ hu
        obtain ⟨h1, h2⟩ := key ad.block ad.off hlt hm
        exact ⟨(cell_of_block h1).trans hu, h2⟩
      · obtain ⟨h1, h2⟩ := key b 0 (lt_of_map hb) hm
        exact ⟨h1.trans hb, h2⟩
    obtain ⟨A', c', hv', _⟩ := Row.of_own' hown'
    have hlow : ∀ b, v'.ownBlock = some b → B0 ≤ b ∧ b < w'.heap.size := fun b hb => by
      refine ⟨?_, own_lt hown' hb⟩
      rcases hblk' b hb with h1 | h1
      · exact (hF.low 0 gx b hg' (by rw [hblk]; exact h1)).1
      · omega
    have hrow : RepD0 (Mafter M g g') w' g' (.row 0) v' := ⟨_, A', _, c', hg0', rfl, hv'⟩
    refine ⟨(backL back v'), g', ?_, ⟨hE.os, hE.tape, hE.output, hE.size, fun k hk hx => hE.block k hk fun hb => hx (hX k hb)⟩, hstep, ?_, fun r gy hr hbm => ?_, fun b hb => ?_⟩
    · rw [he]
      cases back <;> rfl
    · exact {
        args := by cases back with
          | true => exact ⟨hrow, trivial⟩
          | false => trivial
        res := fun r blk hr => by
          cases r with
          | zero =>
            obtain rfl : Blk.row e t true zs = blk := Option.some.inj hr
            exact ⟨_, hg0', hz, cs', hown', rfl, rfl, fun i hi => RepC.step hstep _ _ _ (hels' i hi)⟩
          | succ r =>
            cases r with
            | zero => cases hr
            | succ r => cases hr
        dom := fun r gy hr => by obtain ⟨rfl, _⟩ := hgo r gy hr; exact Nat.zero_lt_two
        inj := fun r r' gy gy' b hr hr' _ _ => by obtain ⟨rfl, _⟩ := hgo r gy hr; obtain ⟨rfl, _⟩ := hgo r' gy' hr'; rfl
        low := fun r gy b hr hb => by obtain ⟨_, rfl⟩ := hgo r gy hr; exact hlow b hb
        chg := fun r gy b o hr hb => ⟨fun _ => by obtain ⟨_, rfl⟩ := hgo r gy hr; exact Nat.zero_le _, fun hle => .inr ⟨r, gy, hr, hb, hle⟩⟩
        mlt := fun b o hm => by
          rcases hnew b o hm with ⟨h1, _⟩ | h1
          · exact Nat.lt_of_lt_of_le (hF.mlt b o h1) hE.size
          · exact (hlow b h1).2
        row := fun r gy b hr hb h0 => by obtain ⟨_, rfl⟩ := hgo r gy hr; exact absurd h0 (Nat.lt_irrefl 0) }
    · rcases honly r gy hr with rfl | rfl
      · rw [hg'] at hr; cases hr
        rw [← hv] at hbm
        exact hbm.elim (fun h => (own_notBM hown h).elim) (fun h => Bool.noConfusion (show false = true from h))
      · rw [hy'] at hr; cases hr
        rw [← hy1] at hbm
        exact hbm.elim (fun h => (own_notBM hownY h).elim) (fun h => Bool.noConfusion (show false = true from h))
    · obtain ⟨r, gy, hr, hb⟩ := hb
      obtain ⟨_, rfl⟩ := hgo r gy hr
      rcases hblk' b hb with h1 | h1
      · exact .inl (hX b h1)
      · exact .inr h1
theorem setCells_size (b : Nat) : ∀ (vs : List Value) (o : Nat) (w : World), (w.setCells b o vs).heap.size = w.heap.size
  | [], _, _ => rfl
  | v :: vs, o, w => by
    show ((w.setCell ⟨b, o, none⟩ v).setCells b (o + 1) vs).heap.size = _
    rw [setCells_size b vs (o + 1)]
    unfold World.setCell
    simp
theorem setCells_tape (b : Nat) : ∀ (vs : List Value) (o : Nat) (w : World), (w.setCells b o vs).tape = w.tape ∧ (w.setCells b o vs).os = w.os ∧ (w.setCells b o vs).output = w.output
  | [], _, _ => ⟨rfl, rfl, rfl⟩
  | v :: vs, o, w => by
    have := setCells_tape b vs (o + 1) (w.setCell ⟨b, o, none⟩ v)
    exact ⟨this.1, this.2.1, this.2.2⟩
theorem setCells_other (b : Nat) : ∀ (vs : List Value) (o : Nat) (w : World) (k : Nat), k ≠ b → (w.setCells b o vs).heap[k]? = w.heap[k]?
  | [], _, _, _, _ => rfl
  | v :: vs, o, w, k, hk => by
    show ((w.setCell ⟨b, o, none⟩ v).setCells b (o + 1) vs).heap[k]? = _
    rw [setCells_other b vs (o + 1) _ k hk]
    unfold World.setCell
    rw [Array.getElem?_modify]
    simp [hk.symm]
/-- Cells of one block are laid anew. -/
theorem setCells_block (b : Nat) (e : TypeId) (fz : Nat × Nat) : ∀ (vs : List Value) (o : Nat) (w : World) (cur : Array Value), w.heap[b]? = some (.cells cur e fz) → o + vs.length ≤ cur.size →
    (w.setCells b o vs).heap[b]? = some (.cells (cur.toList.take o ++ vs ++ cur.toList.drop (o + vs.length)).toArray e fz)
  | [], o, w, cur, h, hl => by
    show w.heap[b]? = _
    rw [h]; simp
  | v :: vs, o, w, cur, h, hl => by
    simp only [List.length_cons] at hl
    have h1 : (w.setCell ⟨b, o, none⟩ v).heap[b]? = some (.cells (cur.setIfInBounds o v) e fz) := by
      unfold World.setCell
      rw [Array.getElem?_modify]
      simp [h]
    have ih := setCells_block b e fz vs (o + 1) _ _ h1 (by rw [Array.size_setIfInBounds]; omega)
    show ((w.setCell ⟨b, o, none⟩ v).setCells b (o + 1) vs).heap[b]? = _
    rw [ih]
    have hs : (cur.setIfInBounds o v).toList = cur.toList.set o v := by simp
    rw [hs]
    have ho : o < cur.toList.length := by rw [Array.length_toList]; omega
    congr 3
    apply List.ext_getElem?
    intro k
    rw [List.length_cons]
    simp only [List.getElem?_append, List.length_append, List.length_take, List.length_set, Array.length_toList, List.getElem?_take, List.getElem?_drop, List.getElem?_set, List.length_cons]
    have hm1 : min (o + 1) cur.size = o + 1 := by omega
    have hm0 : min o cur.size = o := by omega
    rw [hm1, hm0]
    by_cases hk : k < o
    · simp [hk, show k < o + 1 by omega, show k < o + 1 + vs.length by omega, show k < o + (vs.length + 1) by omega, show ¬ o = k by omega]
    · by_cases hk2 : k = o
      · subst hk2
        simp [show k < k + 1 + vs.length by omega, show k < cur.size by omega]
      · by_cases hk3 : k < o + 1 + vs.length
        · have : ∃ j, k = o + 1 + j := ⟨k - (o + 1), by omega⟩
          obtain ⟨j, rfl⟩ := this
          simp [show ¬ o + 1 + j < o by omega, show o + 1 + j < o + 1 + vs.length by omega, show o + 1 + j < o + (vs.length + 1) by omega, show ¬ (o + 1 + j < o + 1) by omega, show o + 1 + j - o = j + 1 by omega, show o + 1 + j - (o + 1) = j by omega]
        · simp [show ¬ k < o by omega, show ¬ k < o + 1 + vs.length by omega, show ¬ k < o + (vs.length + 1) by omega, show o + 1 + vs.length + (k - (o + 1 + vs.length)) = k by omega, show o + (vs.length + 1) + (k - (o + (vs.length + 1))) = k by omega, show ¬ o = k by omega]
end Go.Proofs.YtbekhaioddmliaaGreatDoor


/- slices.Delete of strings, out of the kit's contract: it turns a row of its caller's. -/
namespace Go.Proofs.YtbekhaioddmliaaGreatDoor
set_option linter.unusedVariables false
set_option linter.unusedSimpArgs false
open Go Go.RowKit Go.Shelf
theorem els_str {M : Nat → Nat → Prop} {w : World} {xs : List Str} {cs : List Value} (hl : cs.length = xs.length) (h : Els M w .str xs cs) : cs = xs.map fun x => Value.string ⟨x.toArray⟩ := by
  apply List.ext_getElem
  · simpa using hl
  · intro i h1 h2
    have h3 : i < xs.length := by omega
    have := h i h3
    have e : (cs.drop (i * Ty.sz .str)).take (Ty.sz .str) = [cs[i]] := by
      show (cs.drop (i * 1)).take 1 = _
      rw [Nat.mul_one, List.drop_eq_getElem_cons h1]; rfl
    rw [e] at this
    have e2 : [cs[i]] = [Value.string ⟨xs[i].toArray⟩] := this
    rw [List.getElem_map]
    injection e2
theorem str_els {M : Nat → Nat → Prop} {w : World} (xs : List Str) : Els M w .str xs (xs.map fun x => Value.string ⟨x.toArray⟩) := fun i h => by
  have e : ((xs.map fun x => Value.string ⟨x.toArray⟩).drop (i * Ty.sz .str)).take (Ty.sz .str) = [Value.string ⟨xs[i].toArray⟩] := by
    show ((xs.map fun x => Value.string ⟨x.toArray⟩).drop (i * 1)).take 1 = _
    rw [Nat.mul_one, List.drop_eq_getElem_cons (by simpa using h), List.getElem_map]; rfl
  rw [e]
  rfl
end Go.Proofs.YtbekhaioddmliaaGreatDoor



/- slices.Insert of one pair into a row of the call's own: walked. -/
namespace Go.Proofs.YtbekhaioddmliaaGreatDoor
set_option linter.unusedVariables false
set_option linter.unusedSimpArgs false
open Go Go.RowKit Go.Shelf Go.Lib
section
/-- copy at elements of some cells. -/
theorem run_copy_k {P : Program} (k : Nat) (w : World) (dT sT ty elem : TypeId) (b o dLen dCap : Nat) (a : Addr) (sLen sCap : Nat) (cs : List Value)
    (hu : P.underlying dT = some (.slice elem)) (hs : (P.info? elem).map (·.size) = some k) (q : Nat) (hq : q = Nat.min sLen dLen) (hn : cs.length = q * k)
    (hsrc : ∀ j v, cs[j]? = some v → w.cell? (a.add j) = some v) (hc : ∀ j, j < cs.length → (w.cell? ⟨b, o + j, none⟩).isSome = true) (hf : ∀ j, j < cs.length → w.frozen? ⟨b, o + j, none⟩ = false) (h1 : ∀ v ∈ cs, v.oneCell' = true) :
    (Builtin.copy_ #[dT, sT] ty #[.slice (some ⟨b, o, none⟩) dLen dCap, .slice (some a) sLen sCap]).run P w = .ok (goInt q) (w.setCells b o cs) := by
  have hl := run_loadCells_list (P := P) w a cs hsrc
  have hst := run_storeCells_cells (P := P) b o cs 0 w (by simpa using hc) (by simpa using hf) h1
  rw [hn] at hl
  cases hi : P.info? elem with
  | none => simp [hi] at hs
  | some i =>
    have hi' : i.size = k := by simpa [hi] using hs
    simp [Builtin.copy_, run_underlying hu, Builtin.lenOf, Builtin.firstCells, sizeOf, typeInfo, hi, hi', ← hq, hl, hst]
set_option maxHeartbeats 4000000 in
set_option maxRecDepth 100000 in
/-- There is room, and it is not the end. -/
theorem insP_shift (b n c i vb vc : Nat) (cs vs : List Value) (w : World) (hi : i < n) (hroom : n + 1 ≤ c) (hc63 : c ≤ 9223372036854775807) (hvb : vb ≠ b)
    (hcl : cs.length = n * 2) (hvl : vs.length = 2)
    (hcs : ∀ j v, cs[j]? = some v → w.cell? ⟨b, j, none⟩ = some v) (hsp : ∀ j, j < (n + 1) * 2 → (w.cell? ⟨b, j, none⟩).isSome = true) (hfz : ∀ j, w.frozen? ⟨b, j, none⟩ = false)
    (hvs : ∀ j v, vs[j]? = some v → w.cell? ⟨vb, j, none⟩ = some v) (h1c : ∀ v ∈ cs, v.oneCell' = true) (h1v : ∀ v ∈ vs, v.oneCell' = true)
    (tA tB : TypeId) (kA kB : Nat) (hsa : w.shape? vb = some (tA, kA)) (hsb : w.shape? b = some (tB, kB)) (hkB : kB ≠ 0) (hfa : w.frozen? ⟨vb, 0, none⟩ = false) (hfe : w.frozen? ⟨vb, kA, none⟩ = false) :
    Calls Tryz.prog 99 #[.slice (some ⟨b, 0, none⟩) n c, .int .i64 i, .slice (some ⟨vb, 0, none⟩) 1 vc] w fun e w' =>
      e = .returned (.slice (some ⟨b, 0, none⟩) (n + 1) c) ∧ w' = (w.drew.setCells b ((i + 1) * 2) (cs.drop (i * 2))).setCells b (i * 2) vs := by
  have hz2 : ¬ ((i : Int) = (n : Int)) := by omega
  have hov : ∀ lb cb, (callFunc 145 #[.slice (some ⟨vb, 0, none⟩) 1 vc, .slice (some ⟨b, (i + 1) * 2, none⟩) lb cb]).run Tryz.prog w = .ok (.value (.bool false)) w := fun lb cb => by
    rw [run_callFunc_extern Tryz.func145 (by kernel_rfl) (by kernel_rfl) (by kernel_rfl) (e := Extern.SlicesOverlaps.overlaps #[33, 33] #[4]) (by kernel_rfl),
      Lib.run_overlaps_apart w 33 4 53 Tryz.underlying33 2 Tryz.sizeOf53 ⟨vb, 0, none⟩ ⟨b, (i + 1) * 2, none⟩ 1 vc lb cb hvb tA tB kA kB hsa hsb hkB hfa hfe]
    rfl
  have hdl : (cs.drop (i * 2)).length = (n - i) * 2 := by rw [List.length_drop, hcl, Nat.sub_mul]
  have mixed : Tryz.prog.follows .mixedOrders = true := by kernel_rfl
  have hsz : (Tryz.prog.info? 53).map (·.size) = some 2 := by kernel_rfl
  have hw1 : IntKind.i64.wrap ((i : Int) + 1) = (i : Int) + 1 := by rw [IntKind.wrap_i64]; omega
  have hw2 : IntKind.i64.wrap ((n : Int) + 1) = (n : Int) + 1 := by rw [IntKind.wrap_i64]; omega
  have hb1 : (0 : Int) ≤ (i : Int) + 1 := by omega
  have hin : i ≤ n := by omega
  have htn : ((i : Int) + 1).toNat = i + 1 := by omega
  have hb2 : ¬ (c = i + 1) := by omega
  have hb3 : (i : Int) ≤ (n : Int) + 1 := by omega
  have hb4 : ¬ (c = i) := by omega
  have hcp1 : ∀ ty dc sc, (Builtin.copy_ #[33, 33] ty #[.slice (some ⟨b, (i + 1) * 2, none⟩) (n - i) dc, .slice (some ⟨b, i * 2, none⟩) (n + 1 - i) sc]).run Tryz.prog w.drew = .ok (goInt (n - i : Nat)) (w.drew.setCells b ((i + 1) * 2) (cs.drop (i * 2))) := fun ty dc sc =>
    run_copy_k 2 w.drew _ _ ty 53 b ((i + 1) * 2) (n - i) dc ⟨b, i * 2, none⟩ (n + 1 - i) sc (cs.drop (i * 2)) Tryz.underlying33 hsz (n - i) (by simp only [Nat.min_def]; split <;> omega) hdl
      (fun j v hj => by rw [Addr.add_lit]; exact hcs (i * 2 + j) v (by rwa [List.getElem?_drop] at hj))
      (fun j hj => hsp _ (by omega)) (fun j hj => hfz _) (fun v hv => h1c v (List.mem_of_mem_drop hv))
  obtain ⟨W1, hW1⟩ : ∃ W1, W1 = w.drew.setCells b ((i + 1) * 2) (cs.drop (i * 2)) := ⟨_, rfl⟩
  have hsp1 : ∀ k, k < (n + 1) * 2 → (W1.cell? ⟨b, k, none⟩).isSome = true := fun k hk => by
    rw [hW1]
    exact isSome_setCells b (cs.drop (i * 2)) ((i + 1) * 2) w.drew (fun j hj => hsp _ (by rw [hdl] at hj; omega)) k (hsp k hk)
  have hcp2 : ∀ (W : World), (∀ x, W.cell? x = W1.cell? x) → (∀ x, W.frozen? x = W1.frozen? x) → ∀ ty dc, (Builtin.copy_ #[33, 33] ty #[.slice (some ⟨b, i * 2, none⟩) (n + 1 - i) dc, .slice (some ⟨vb, 0, none⟩) 1 vc]).run Tryz.prog W = .ok (goInt (1 : Nat)) (W.setCells b (i * 2) vs) := fun W hWc hWf ty dc =>
    run_copy_k 2 W _ _ ty 53 b (i * 2) (n + 1 - i) dc ⟨vb, 0, none⟩ 1 vc vs Tryz.underlying33 hsz 1 (by simp only [Nat.min_def]; split <;> omega) (by omega)
      (fun j v hj => by
        rw [Addr.add_lit, Nat.zero_add, hWc, hW1, World.cell?_setCells_out b _ _ _ _ (fun h _ => absurd h hvb)]
        exact hvs j v hj)
      (fun j hj => by rw [hWc]; exact hsp1 _ (by omega)) (fun j hj => by rw [hWf, hW1, World.frozen?_setCells]; exact hfz _) h1v
  rw [← hW1] at hcp1
  go_enter Tryz.func99, Tryz.ntmps99
  go_wp2_with (simp only [hov])
  go_region_law_o (refine step_copy_runI rfl _ _ 33 33 rfl _ _ (by simp [Act.eval, Act.put]) (by simp [Act.eval, Act.put]) (hcp1 _ _ _) ?_)
  go_wp2_with (at_builtin; refine wpList_copy_runI _ rfl _ _ 33 33 rfl _ _ rfl rfl (hcp2 _ (fun _ => rfl) (fun _ => rfl) _ _) ?_)
  go_ret
  first | exact ⟨rfl, rfl⟩ | exact ⟨rfl, by rw [hW1]⟩
theorem elemP : ElemT Tryz.prog 33 53 2 32 := ElemT.mk_ Tryz.underlying33 (z := .agg #[.string ⟨#[]⟩, .string ⟨#[]⟩]) (by kernel_rfl) rfl (by decide) (by decide)
set_option maxHeartbeats 4000000 in
set_option maxRecDepth 100000 in
/-- At the end. -/
theorem insP_end (v : Value) (n vb vc : Nat) (cs vs : List Value) (w : World) (hown : w.ownsRow 0 53 2 v n cs) (hvl : vs.length = 2)
    (hvs : ∀ j v, vs[j]? = some v → w.cell? ⟨vb, j, none⟩ = some v) (h1v : ∀ v ∈ vs, v.oneCell' = true) (hbig : (n + 1) * 32 ≤ 140737488355328) :
    Calls Tryz.prog 99 #[v, .int .i64 n, .slice (some ⟨vb, 0, none⟩) 1 vc] w fun e w' => ∃ v', e = .returned v' ∧ w'.ownsRow 0 53 2 v' (n + 1) (cs ++ vs) ∧
      ((v'.ownBlock = v.ownBlock ∧ w.grownBy w' v.ownBlock) ∨ (Ext w w' ∧ v'.ownBlock = some w.heap.size)) := by
  have hap : ∀ ty, ∃ v' w', (Builtin.append_ #[33, 33] ty #[v, .slice (some ⟨vb, 0, none⟩) 1 vc]).run Tryz.prog w = .ok v' w' ∧ w'.ownsRow 0 53 2 v' (n + 1) (cs ++ vs) ∧
      ((v'.ownBlock = v.ownBlock ∧ w.grownBy w' v.ownBlock) ∨ (Ext w w' ∧ v'.ownBlock = some w.heap.size)) := fun ty =>
    run_append2 w 0 33 ty 53 2 32 elemP v n cs hown (Nat.zero_le _) (some ⟨vb, 0, none⟩) 1 vc vs (by omega) (fun _ => ⟨⟨vb, 0, none⟩, rfl, fun j u hj => by rw [Addr.add_lit, Nat.zero_add]; exact hvs j u hj⟩) h1v hbig
  have mixed : Tryz.prog.follows .mixedOrders = true := by kernel_rfl
  obtain ⟨v', w', hrun, h2, h3⟩ := hap 33
  rcases hown.2 with ⟨rfl, rfl⟩ | ⟨b, c, cur, rfl, _, hg, hle, hmax, _, _⟩
  · go_enter Tryz.func99, Tryz.ntmps99
    go_wp2_with (at_builtin; refine Lib.wpList_append_run _ rfl _ _ _ _ rfl _ _ rfl rfl _ _ hrun ?_)
    go_ret
    exact ⟨v', rfl, h2, h3⟩
  · clear hap
    have hle2 : (n : Int) ≤ (c : Int) := by omega
    go_enter Tryz.func99, Tryz.ntmps99
    go_wp2_with (at_builtin; refine Lib.wpList_append_run _ rfl _ _ _ _ rfl _ _ rfl rfl _ _ hrun ?_)
    all_goals (go_ret; exact ⟨v', rfl, h2, h3⟩)
set_option maxHeartbeats 4000000 in
set_option maxRecDepth 100000 in
/-- There is no room, and it is not the end: a new row. -/
theorem insP_grow (b n c i vb vc : Nat) (cs vs : List Value) (w : World) (hi : i < n) (hnc : n ≤ c) (hroom : c < n + 1) (hbig : (n + 1) * 32 ≤ 140737488355328)
    (hcl : cs.length = n * 2) (hvl : vs.length = 2)
    (hcs : ∀ j v, cs[j]? = some v → w.cell? ⟨b, j, none⟩ = some v) (hvs : ∀ j v, vs[j]? = some v → w.cell? ⟨vb, j, none⟩ = some v) (h1c : ∀ v ∈ cs, v.oneCell' = true) (h1v : ∀ v ∈ vs, v.oneCell' = true) :
    Calls Tryz.prog 99 #[.slice (some ⟨b, 0, none⟩) n c, .int .i64 i, .slice (some ⟨vb, 0, none⟩) 1 vc] w fun e w' => ∃ G ROW, n + 1 ≤ G ∧ G ≤ maxLen ∧ ROW.size = G * 2 ∧ ROW.toList.take (i * 2) = cs.take (i * 2) ∧
      e = .returned (.slice (some ⟨w.heap.size, 0, none⟩) (n + 1) G) ∧
      w' = (((w.alloc (.cells ROW 53)).drew.setCells w.heap.size (i * 2) vs).drew).setCells w.heap.size ((i + 1) * 2) (cs.drop (i * 2)) := by
  have mixed : Tryz.prog.follows .mixedOrders = true := by kernel_rfl
  obtain ⟨ht, _, _, i0, z, hi0, hz0, hzs, hzb, hzc⟩ := elemP
  have hsz : (Tryz.prog.info? 53).map (·.size) = some 2 := by kernel_rfl
  have hz2 : ¬ ((i : Int) = (n : Int)) := by omega
  have hz3 : (c : Int) < (n : Int) + 1 := by omega
  have hbw : b < w.heap.size := block_lt_of_cell (hcs 0 _ (List.getElem?_eq_getElem (by omega)))
  have hvw : vb < w.heap.size := block_lt_of_cell (hvs 0 _ (List.getElem?_eq_getElem (by omega)))
  have hkk : (n : Int) + 1 - (i : Int) = ((n + 1 - i : Nat) : Int) := by omega
  have hik : i + (n + 1 - i) = n + 1 := by omega
  have hold : (Builtin.firstCells i0.size i (.slice (some ⟨b, 0, none⟩) i c)).run Tryz.prog w.drew = .ok (cs.take (i * 2)).toArray w.drew := by
    rw [hzs]
    exact run_firstCells_some w.drew 2 i ⟨b, 0, none⟩ i c (cs.take (i * 2)) (by rw [List.length_take]; omega) (fun j v hj => by
      rw [Addr.add_lit, Nat.zero_add]
      rw [List.getElem?_take] at hj
      split at hj
      · exact hcs j v hj
      · cases hj)
  have hn63 : n + 1 ≤ 9223372036854775807 := by omega
  have hrz : ∀ ty, (Builtin.append_ #[33, 3] ty #[.slice (some ⟨b, 0, none⟩) i c, .int .i64 ((n : Int) + 1 - (i : Int))]).run Tryz.prog w =
      .ok (.slice (some ⟨w.heap.size, 0, none⟩) (n + 1) (grownCap w (n + 1) c 53)) (w.drew.alloc (.cells ((cs.take (i * 2)).toArray ++ Builtin.zeroCells z.cells (n + 1 - i) ++ Builtin.zeroCells z.cells (grownCap w (n + 1) c 53 - (n + 1))) 53)) := fun ty => by
    have h := Lib.run_append_grow_zeros w 33 3 ty 53 i0 z .i64 .i64 ht Tryz.underlying3 hi0 hz0 (some ⟨b, 0, none⟩) i c (cs.take (i * 2)) hold (n + 1 - i) (by omega) (by omega) (by omega) (by omega) (by rw [hzb]; omega) (by rw [hzb, hik]; exact growslice_fits hroom hbig)
    rw [hik] at h
    rw [hkk]
    exact h
  obtain ⟨G, hG⟩ : ∃ G, G = grownCap w (n + 1) c 53 := ⟨_, rfl⟩
  obtain ⟨ROW, hROW⟩ : ∃ ROW : Array Value, ROW = (cs.take (i * 2)).toArray ++ Builtin.zeroCells z.cells (n + 1 - i) ++ Builtin.zeroCells z.cells (G - (n + 1)) := ⟨_, rfl⟩
  rw [← hG] at hrz
  rw [← hROW] at hrz
  have hGn : n + 1 ≤ G := by rw [hG]; exact grownCap_ge w _ _ _
  have hGm : G ≤ maxLen := by
    have := grownCap_le_maxLen w (n + 1) c 53 (by unfold maxLen; omega)
    rwa [← hG] at this
  have hRs : ROW.size = G * 2 := by
    rw [hROW]
    simp only [Array.size_append, List.size_toArray, List.length_take, Builtin.zeroCells, Array.size_map, Array.size_range, hzc]
    rw [Nat.min_eq_left (by omega)]
    omega
  have hRt : ROW.toList.take (i * 2) = cs.take (i * 2) := by
    rw [hROW]
    simp only [Array.toList_append, List.append_assoc]
    rw [List.take_append_of_le_length (by rw [List.length_take]; omega), List.take_take, Nat.min_self]
  have hRl : (n + 1) * 2 ≤ ROW.size := by rw [hRs]; omega
  obtain ⟨W1, hW1⟩ : ∃ W1, W1 = w.drew.alloc (.cells ROW 53) := ⟨_, rfl⟩
  rw [← hW1] at hrz
  have hN : ∀ j, j < (n + 1) * 2 → (W1.cell? ⟨w.heap.size, j, none⟩).isSome = true := fun j hj => by
    rw [hW1, World.cell?_alloc_at (w := w.drew) ROW _ w.heap.size j rfl, Array.getElem?_eq_getElem (by omega)]; rfl
  have hNf : ∀ j, W1.frozen? ⟨w.heap.size, j, none⟩ = false := fun j => by rw [hW1]; exact World.frozen?_alloc_at (w := w.drew) ROW _ w.heap.size j rfl
  have hOb : ∀ j v, w.cell? ⟨b, j, none⟩ = some v → W1.cell? ⟨b, j, none⟩ = some v := fun j v h => by rw [hW1, World.cell?_alloc_past (w := w.drew) _ b j hbw]; exact h
  have hOv : ∀ j v, w.cell? ⟨vb, j, none⟩ = some v → W1.cell? ⟨vb, j, none⟩ = some v := fun j v h => by rw [hW1, World.cell?_alloc_past (w := w.drew) _ vb j hvw]; exact h
  have hcpA : ∀ (W : World), (∀ x, W.cell? x = W1.cell? x) → (∀ x, W.frozen? x = W1.frozen? x) → ∀ ty dc, (Builtin.copy_ #[33, 33] ty #[.slice (some ⟨w.heap.size, i * 2, none⟩) (n + 1 - i) dc, .slice (some ⟨vb, 0, none⟩) 1 vc]).run Tryz.prog W = .ok (goInt (1 : Nat)) (W.setCells w.heap.size (i * 2) vs) := fun W hWc hWf ty dc =>
    run_copy_k 2 W _ _ ty 53 w.heap.size (i * 2) (n + 1 - i) dc ⟨vb, 0, none⟩ 1 vc vs ht hsz 1 (by simp only [Nat.min_def]; split <;> omega) (by omega)
      (fun j v hj => by rw [Addr.add_lit, Nat.zero_add, hWc]; exact hOv _ v (hvs j v hj))
      (fun j hj => by rw [hWc]; exact hN _ (by omega)) (fun j hj => by rw [hWf]; exact hNf _) h1v
  have hG63 : G ≤ 9223372036854775807 := by unfold maxLen at hGm; omega
  have hGi : ¬ (G = i) := by omega
  have hGim : ¬ (G = i + 1) := by omega
  have hci : ¬ (c = i) := by omega
  have hbN : b ≠ w.heap.size := by omega
  have hdl : (cs.drop (i * 2)).length = (n - i) * 2 := by rw [List.length_drop, hcl, Nat.sub_mul]
  have hcpB : ∀ (W : World), (∀ x, W.cell? x = (W1.setCells w.heap.size (i * 2) vs).cell? x) → (∀ x, W.frozen? x = (W1.setCells w.heap.size (i * 2) vs).frozen? x) → ∀ ty dc sc, (Builtin.copy_ #[33, 33] ty #[.slice (some ⟨w.heap.size, (i + 1) * 2, none⟩) (n - i) dc, .slice (some ⟨b, i * 2, none⟩) (n - i) sc]).run Tryz.prog W = .ok (goInt (n - i : Nat)) (W.setCells w.heap.size ((i + 1) * 2) (cs.drop (i * 2))) := fun W hWc hWf ty dc sc =>
    run_copy_k 2 W _ _ ty 53 w.heap.size ((i + 1) * 2) (n - i) dc ⟨b, i * 2, none⟩ (n - i) sc (cs.drop (i * 2)) ht hsz (n - i) (by simp only [Nat.min_def]; split <;> omega) hdl
      (fun j v hj => by
        rw [Addr.add_lit, hWc, World.cell?_setCells_out _ _ _ _ _ (fun h _ => absurd h hbN)]
        exact hOb _ v (hcs (i * 2 + j) v (by rwa [List.getElem?_drop] at hj)))
      (fun j hj => by rw [hWc]; exact isSome_setCells _ vs _ _ (fun t ht => hN _ (by omega)) _ (hN _ (by rw [hdl] at hj; omega)))
      (fun j hj => by rw [hWf, World.frozen?_setCells]; exact hNf _) (fun v hv => h1c v (List.mem_of_mem_drop hv))
  subst hW1
  have hE1 : ∀ x, ((w.alloc (.cells ROW 53)).drew).cell? x = (w.drew.alloc (.cells ROW 53)).cell? x := fun x => rfl
  have hE2 : ∀ x, ((w.alloc (.cells ROW 53)).drew).frozen? x = (w.drew.alloc (.cells ROW 53)).frozen? x := fun x => rfl
  have hF1 : ∀ x, (((w.alloc (.cells ROW 53)).drew.setCells w.heap.size (i * 2) vs).drew).cell? x = ((w.drew.alloc (.cells ROW 53)).setCells w.heap.size (i * 2) vs).cell? x := fun x => rfl
  have hF2 : ∀ x, (((w.alloc (.cells ROW 53)).drew.setCells w.heap.size (i * 2) vs).drew).frozen? x = ((w.drew.alloc (.cells ROW 53)).setCells w.heap.size (i * 2) vs).frozen? x := fun x => rfl
  have hw1 : IntKind.i64.wrap ((i : Int) + 1) = (i : Int) + 1 := by rw [IntKind.wrap_i64]; omega
  have hw2 : IntKind.i64.wrap ((n : Int) + 1) = (n : Int) + 1 := by rw [IntKind.wrap_i64]; omega
  have hw3 : IntKind.i64.wrap ((n : Int) + 1 - (i : Int)) = (n : Int) + 1 - (i : Int) := by rw [IntKind.wrap_i64]; omega
  have hb1 : (0 : Int) ≤ (i : Int) + 1 := by omega
  have hin : i ≤ n := by omega
  have htn : ((i : Int) + 1).toNat = i + 1 := by omega
  have hb3 : (i : Int) ≤ (n : Int) := by omega
  have hic : (i : Int) ≤ (c : Int) := by omega
  clear hkk hik hold hROW hG hRl
  refine Calls.mono (R := fun e w' => e = .returned (.slice (some ⟨w.heap.size, 0, none⟩) (n + 1) G) ∧ w' = (((w.alloc (.cells ROW 53)).drew.setCells w.heap.size (i * 2) vs).drew).setCells w.heap.size ((i + 1) * 2) (cs.drop (i * 2))) ?_ (fun e w' h => ⟨G, ROW, hGn, hGm, hRs, hRt, h.1, h.2⟩)
  clear hRt hRs
  go_enter Tryz.func99, Tryz.ntmps99
  go_wp2_with (first
    | (at_builtin; refine Lib.wpList_append_run _ rfl _ _ _ _ rfl _ _ rfl rfl _ _ (hrz _) ?_)
    | (at_builtin; refine wpList_copy_runI _ rfl _ _ 33 33 rfl _ _ rfl rfl (hcpA _ hE1 hE2 _ _) ?_))
  go_region_law_o (refine step_copy_runI rfl _ _ 33 33 rfl (.slice (some ⟨w.heap.size, (i + 1) * 2, none⟩) (n - i) (G - (i + 1))) (.slice (some ⟨b, i * 2, none⟩) (n - i) (c - i)) (by simp [Act.eval, Act.put]) (by simp [Act.eval, Act.put]) (hcpB _ hF1 hF2 3 (G - (i + 1)) (c - i)) ?_)
  go_wp2
  go_ret
  exact ⟨rfl, rfl⟩
theorem ins_cells {R cs cys X : List Value} {i2 n2 : Nat} (h1 : R.take i2 = cs.take i2) (hcl : cs.length = n2) (hy : cys.length = 2) (hi : i2 ≤ n2) (hR : i2 ≤ R.length) :
    ((R.take i2 ++ cys ++ R.drop (i2 + cys.length)).take (i2 + 2) ++ cs.drop i2 ++ X).take (n2 + 2) = cs.take i2 ++ cys ++ cs.drop i2 := by
  have e1 : (R.take i2 ++ cys ++ R.drop (i2 + cys.length)).take (i2 + 2) = cs.take i2 ++ cys := by
    rw [h1]
    exact List.take_left' (by rw [List.length_append, List.length_take, hy]; omega)
  rw [e1]
  exact List.take_left' (by rw [List.length_append, List.length_append, List.length_take, List.length_drop, hy]; omega)
theorem ins_cells2 {R cs cys : List Value} {i2 n2 : Nat} (h1 : R.take n2 = cs) (hcl : cs.length = n2) (hy : cys.length = 2) (hi : i2 ≤ n2) (hR : n2 + 2 ≤ R.length) :
    let R1 := R.take (i2 + 2) ++ cs.drop i2 ++ R.drop (i2 + 2 + (cs.drop i2).length)
    (R1.take i2 ++ cys ++ R1.drop (i2 + cys.length)).take (n2 + 2) = cs.take i2 ++ cys ++ cs.drop i2 := by
  intro R1
  have e1 : R1.take i2 = cs.take i2 := by
    show (R.take (i2 + 2) ++ cs.drop i2 ++ _).take i2 = _
    rw [List.append_assoc, List.take_append_of_le_length (by rw [List.length_take]; omega), List.take_take, Nat.min_eq_left (by omega), ← h1, List.take_take, Nat.min_eq_left hi]
  have e2 : (R1.drop (i2 + cys.length)).take (n2 - i2) = cs.drop i2 := by
    rw [hy]
    show ((R.take (i2 + 2) ++ cs.drop i2 ++ _).drop (i2 + 2)).take (n2 - i2) = _
    rw [List.append_assoc, List.drop_left' (by rw [List.length_take]; omega)]
    exact List.take_left' (by rw [List.length_drop]; omega)
  rw [e1]
  rw [show n2 + 2 = (cs.take i2 ++ cys).length + (n2 - i2) by rw [List.length_append, List.length_take, hy]; omega, List.take_length_add_append, e2]
abbrev pairT : Ty := .pr .str .str
theorem els_one {M : Nat → Nat → Prop} {w : World} {t : Ty} (hz : 0 < t.sz) {xs : List t.den} {cs : List Value} (hl : cs.length = xs.length * t.sz) (h : Els M w t xs cs) : ∀ v ∈ cs, v.oneCell' = true := fun v hv => by
  obtain ⟨k, hk, rfl⟩ := List.getElem_of_mem hv
  have hd : k / t.sz < xs.length := by rw [Nat.div_lt_iff_lt_mul hz]; omega
  refine RepC.one _ _ _ (h (k / t.sz) hd) _ ?_
  have hm := Nat.mod_lt k hz
  have hk2 : k / t.sz * t.sz + k % t.sz = k := by rw [Nat.mul_comm]; exact Nat.div_add_mod k t.sz
  refine List.mem_of_getElem? (i := k % t.sz) ?_
  rw [List.getElem?_take, if_pos hm, List.getElem?_drop, hk2, List.getElem?_eq_getElem hk]
/-- Elements one behind the other. -/
theorem Els.append {M : Nat → Nat → Prop} {w : World} {t : Ty} {xs ys : List t.den} {cs ds : List Value} (hl : cs.length = xs.length * t.sz) (hx : Els M w t xs cs) (hy : Els M w t ys ds) : Els M w t (xs ++ ys) (cs ++ ds) := fun i h => by
  rcases Nat.lt_or_ge i xs.length with hi | hi
  · have hb : i * t.sz + t.sz ≤ xs.length * t.sz := by
      have : (i + 1) * t.sz ≤ xs.length * t.sz := Nat.mul_le_mul_right _ hi
      rw [Nat.add_mul] at this; omega
    rw [List.getElem_append_left hi, List.drop_append_of_le_length (by omega), List.take_append_of_le_length (by rw [List.length_drop]; omega)]
    exact hx i hi
  · have hi2 : i - xs.length < ys.length := by rw [List.length_append] at h; omega
    have hb : xs.length * t.sz ≤ i * t.sz := Nat.mul_le_mul_right _ hi
    have := hy (i - xs.length) hi2
    rw [List.getElem_append_right hi]
    have e : (cs ++ ds).drop (i * t.sz) = ds.drop ((i - xs.length) * t.sz) := by
      rw [List.drop_append, List.drop_eq_nil_of_le (by omega), List.nil_append, hl, Nat.sub_mul]
    rw [e]; exact this
theorem Els.take {M : Nat → Nat → Prop} {w : World} {t : Ty} {xs : List t.den} {cs : List Value} (hx : Els M w t xs cs) (n : Nat) : Els M w t (xs.take n) (cs.take (n * t.sz)) := fun i h => by
  rw [List.length_take] at h
  have hb : i * t.sz + t.sz ≤ n * t.sz := by
    have : (i + 1) * t.sz ≤ n * t.sz := Nat.mul_le_mul_right _ (by omega)
    rw [Nat.add_mul] at this; omega
  rw [List.getElem_take, List.drop_take, List.take_take, Nat.min_eq_left (by omega)]
  exact hx i (by omega)
theorem Els.drop {M : Nat → Nat → Prop} {w : World} {t : Ty} {xs : List t.den} {cs : List Value} (hx : Els M w t xs cs) (n : Nat) : Els M w t (xs.drop n) (cs.drop (n * t.sz)) := fun i h => by
  rw [List.length_drop] at h
  rw [List.getElem_drop, List.drop_drop, ← Nat.add_mul]
  exact hx (n + i) (by omega)
def slices_Insert_pair (i : Int) (xs ys : List (Str × Str)) : Option (List (Str × Str)) :=
  if 0 ≤ i ∧ i ≤ xs.length ∧ ys.length = 1 ∧ (xs.length + 1) * (24 * Ty.sz pairT) ≤ 140737488355328 then some (xs.take i.toNat ++ ys ++ xs.drop i.toNat) else none
theorem slices_Insert_pair_sound : Sound Tryz.prog GW B0G 99 ⟨[.row 0, .v (.int .i64), .row 1], [.row 53 pairT true, .row 53 pairT false], [.row 0], [.row 53 pairT true, .none], List (Str × Str), fun z => (((), ()), (z, ((), ()))), fun x y => slices_Insert_pair x.2.1 y.1 y.2.1⟩ := by
  refine Sound.ofRow2 (tt := .int .i64) (t := pairT) true (F := slices_Insert_pair) Tryz.call99 (by decide) fun M w g v0 vi x v1 xs ys zs cs cys hG hMl hM hown hels hownY helsY hne hi hz => ?_
  obtain rfl : vi = .int .i64 x := RepV.int hi
  unfold slices_Insert_pair at hz
  split at hz
  · rename_i hc
    injection hz with hz
    obtain ⟨hi0, hil, hy1, hbig⟩ := hc
    obtain ⟨i, rfl⟩ : ∃ n : Nat, x = (n : Int) := ⟨Int.toNat x, (Int.toNat_of_nonneg hi0).symm⟩
    replace hil : (i : Int) ≤ (xs.length : Int) := hil
    replace hbig : (xs.length + 1) * 48 ≤ 140737488355328 := hbig
    rw [Int.toNat_natCast] at hz
    have hsz : Ty.sz pairT = 2 := rfl
    have hl := hown.1
    have hlY := hownY.1
    have h1c := els_one (by decide) hl hels
    have h1v := els_one (by decide) hlY helsY
    rw [hsz] at hl hlY
    rw [hy1] at hlY hownY
    have hzl : zs.length = xs.length + 1 := by rw [← hz]; simp only [List.length_append, List.length_take, List.length_drop, hy1]; omega
    have hZ : Els M w pairT zs (cs.take (i * 2) ++ cys ++ cs.drop (i * 2)) := by
      rw [← hz]
      refine Els.append ?_ (Els.append ?_ (hels.take i) helsY) (hels.drop i)
      · simp only [List.length_append, List.length_take, hl, hlY, hy1, hsz]; omega
      · simp only [List.length_take, hl, hsz]; omega
    rcases hownY.2 with ⟨_, e2⟩ | ⟨vb, vc, vcur, e1, _, hgv, hvle, hvmax, hvsz, hvtk⟩
    · cases e2
    · subst e1
      have hvs : ∀ j v, cys[j]? = some v → w.cell? ⟨vb, j, none⟩ = some v := fun j v hj => by
        rw [← hvtk, List.getElem?_take] at hj
        split at hj
        · unfold World.cell?; rw [hgv]; simpa using hj
        · cases hj
      rcases Nat.lt_or_ge i xs.length with hlt | hge
      · rcases hown.2 with ⟨_, e2⟩ | ⟨b, c, cur, e1, _, hg, hle, hmax, hcsz, htk⟩
        · omega
        · subst e1
          rw [hsz] at hcsz
          have hcs : ∀ j v, cs[j]? = some v → w.cell? ⟨b, j, none⟩ = some v := fun j v hj => by
            rw [← htk, List.getElem?_take] at hj
            split at hj
            · unfold World.cell?; rw [hg]; simpa using hj
            · cases hj
          rcases Nat.lt_or_ge c (xs.length + 1) with hroom | hroom
          · refine (insP_grow b xs.length c i vb vc cs cys w hlt hle hroom (by omega) hl (by omega) hcs hvs h1c h1v).mono fun e w' hp => ?_
            obtain ⟨G, ROW, hG1, hG2, hRs, hRt, rfl, rfl⟩ := hp
            have hb1 := setCells_block w.heap.size 53 (0, 0) cys (i * 2) (w.alloc (.cells ROW 53)).drew ROW (heap_alloc_new _ _) (by rw [hRs]; omega)
            have hb2 := setCells_block w.heap.size 53 (0, 0) (cs.drop (i * 2)) ((i + 1) * 2) (((w.alloc (.cells ROW 53)).drew.setCells w.heap.size (i * 2) cys).drew) _ hb1 (by
              rw [List.length_drop, List.size_toArray]
              simp only [List.length_append, List.length_take, List.length_drop, Array.length_toList, hRs]
              omega)
            refine ⟨_, _, rfl, fun h => (by cases h), ?_, ⟨?_, .inr ⟨w.heap.size, G, _, by rw [hzl], Nat.zero_le _, hb2, by rw [hzl]; exact hG1, hG2, ?_, ?_⟩⟩, hZ, fun b hb => .inr ?_⟩
            · refine ⟨?_, ?_, ?_, ?_, fun k hk _ => ?_⟩
              · rw [(setCells_tape _ _ _ _).2.1]; exact (setCells_tape _ _ _ _).2.1
              · rw [(setCells_tape _ _ _ _).1]; exact (setCells_tape _ _ _ _).1
              · rw [(setCells_tape _ _ _ _).2.2]; exact (setCells_tape _ _ _ _).2.2
              · rw [setCells_size]
                show _ ≤ ((w.alloc (.cells ROW 53)).drew.setCells w.heap.size (i * 2) cys).heap.size
                rw [setCells_size]
                exact ((Ext.refl w).alloc _).size
              · rw [setCells_other _ _ _ _ _ (by omega)]
                show ((w.alloc (.cells ROW 53)).drew.setCells w.heap.size (i * 2) cys).heap[k]? = _
                rw [setCells_other _ _ _ _ _ (by omega)]
                exact ((Ext.refl w).alloc _).block k hk
            · simp only [List.length_append, List.length_take, List.length_drop, hl, hlY, hzl, hsz]; omega
            · simp only [List.size_toArray, List.length_append, List.length_take, List.length_drop, Array.length_toList, hRs, hl, hlY, hsz]; omega
            · rw [hzl, hsz]
              have := ins_cells (R := ROW.toList) (cs := cs) (cys := cys) (X := List.drop ((i + 1) * 2 + (List.drop (i * 2) cs).length) (List.take (i * 2) ROW.toList ++ cys ++ List.drop (i * 2 + cys.length) ROW.toList)) (i2 := i * 2) (n2 := xs.length * 2) hRt hl (by omega) (by omega) (by rw [Array.length_toList, hRs]; omega)
              rw [show (i + 1) * 2 = i * 2 + 2 by omega, show (xs.length + 1) * 2 = xs.length * 2 + 2 by omega] at *
              exact this
            · simp only [Value.ownBlock, Option.some.injEq] at hb; omega
          · have hsp : ∀ j, j < (xs.length + 1) * 2 → (w.cell? ⟨b, j, none⟩).isSome = true := fun j hj => by
              unfold World.cell?
              rw [hg]
              simp [show j < cur.size by rw [hcsz]; omega]
            have hfz : ∀ j, w.frozen? ⟨b, j, none⟩ = false := fun j => by unfold World.frozen?; rw [hg]; simp
            have hsa : w.shape? vb = some (53, vcur.size) := by unfold World.shape?; rw [hgv]
            have hsb : w.shape? b = some (53, cur.size) := by unfold World.shape?; rw [hg]
            have hvb : vb ≠ b := fun e => hne b rfl (by rw [e]; rfl)
            refine (insP_shift b xs.length c i vb vc cs cys w hlt hroom (by unfold maxLen at hmax; omega) hvb hl (by omega) hcs hsp hfz hvs h1c h1v 53 53 vcur.size cur.size hsa hsb (by rw [hcsz]; omega) (by unfold World.frozen?; rw [hgv]; simp) (by unfold World.frozen?; rw [hgv]; simp)).mono fun e w' hp => ?_
            obtain ⟨rfl, rfl⟩ := hp
            have hb1 := setCells_block b 53 (0, 0) (cs.drop (i * 2)) ((i + 1) * 2) w.drew cur hg (by rw [List.length_drop, hcsz]; omega)
            have hb2 := setCells_block b 53 (0, 0) cys (i * 2) _ _ hb1 (by
              rw [List.size_toArray]
              simp only [List.length_append, List.length_take, List.length_drop, Array.length_toList, hcsz]
              omega)
            refine ⟨_, _, rfl, fun h => (by cases h), ?_, ⟨?_, .inr ⟨b, c, _, by rw [hzl], Nat.zero_le _, hb2, by omega, hmax, ?_, ?_⟩⟩, hZ, fun b hb => .inl hb⟩
            · refine ⟨?_, ?_, ?_, ?_, fun k hk hkb => ?_⟩
              · rw [(setCells_tape _ _ _ _).2.1, (setCells_tape _ _ _ _).2.1]; rfl
              · rw [(setCells_tape _ _ _ _).1, (setCells_tape _ _ _ _).1]; rfl
              · rw [(setCells_tape _ _ _ _).2.2, (setCells_tape _ _ _ _).2.2]; rfl
              · rw [setCells_size, setCells_size]; exact Nat.le_refl _
              · have hkb' : k ≠ b := fun e => hkb (by rw [e]; rfl)
                rw [setCells_other _ _ _ _ _ hkb', setCells_other _ _ _ _ _ hkb']; rfl
            · simp only [List.length_append, List.length_take, List.length_drop, hl, hlY, hzl, hsz]; omega
            · simp only [List.size_toArray, List.length_append, List.length_take, List.length_drop, Array.length_toList, hcsz, hl, hlY, hsz]; omega
            · rw [hzl, hsz]
              have hR1 : cur.toList.length = c * 2 := by rw [Array.length_toList]; exact hcsz
              have hR2 : xs.length * 2 + 2 ≤ cur.toList.length := by omega
              have := ins_cells2 (R := cur.toList) (cs := cs) (cys := cys) (i2 := i * 2) (n2 := xs.length * 2) htk hl (by omega) (by omega) hR2
              rw [show (i + 1) * 2 = i * 2 + 2 by omega, show (xs.length + 1) * 2 = xs.length * 2 + 2 by omega]
              exact this
      · have hie : i = xs.length := by omega
        subst hie
        have hz' : zs = xs ++ ys := by rw [← hz, List.take_length, List.drop_length, List.append_nil]
        subst hz'
        refine (insP_end v0 xs.length vb vc cs cys w hown (by omega) hvs h1v (by omega)).mono fun e w' hp => ?_
        obtain ⟨v', rfl, hown', hcase⟩ := hp
        refine ⟨v', cs ++ cys, rfl, fun h => (by cases h), ?_, by rw [hzl]; exact hown', Els.append hl hels helsY, fun b hb => ?_⟩
        · rcases hcase with ⟨_, h2⟩ | ⟨h2, _⟩
          · exact ⟨h2.os, h2.tape, h2.output, h2.size, fun k hk hkb => h2.block k hk (Ne.symm hkb)⟩
          · exact ExtX.of_ext h2
        · rcases hcase with ⟨h1, _⟩ | ⟨_, h1⟩
          · rw [h1] at hb; exact .inl hb
          · rw [h1] at hb; injection hb with hb; exact .inr (by omega)
  · cases hz
end
end Go.Proofs.YtbekhaioddmliaaGreatDoor



/- slices.Grow of the nil slice, as a meaning: an own row without elements. -/
namespace Go.Proofs.YtbekhaioddmliaaGreatDoor
set_option linter.unusedVariables false
set_option linter.unusedSimpArgs false
open Go Go.RowKit Go.Shelf
end Go.Proofs.YtbekhaioddmliaaGreatDoor


/- slices.Compact of strings, out of the kit's contract: it turns a row of its caller's. -/
namespace Go.Proofs.YtbekhaioddmliaaGreatDoor
set_option linter.unusedVariables false
set_option linter.unusedSimpArgs false
open Go Go.RowKit Go.Shelf
end Go.Proofs.YtbekhaioddmliaaGreatDoor



/- The types that the printed functions use, as the program has them. -/
namespace Go.Proofs.YtbekhaioddmliaaGreatDoor
open Go Go.RowKit
set_option maxRecDepth 100000
abbrev strings_Trim_sg (f : SV [.v .str, .v .str] → BV [] → Option (Str)) : AF := { ps := [.v .str, .v .str], bs := [], rs := [.v .str], cs := [], R := Str, out := fun z => ((z, ()), ()), f := f }
abbrev strings_Join_sg (f : SV [.v (.sl .str), .v .str] → BV [] → Option (Str)) : AF := { ps := [.v (.sl .str), .v .str], bs := [], rs := [.v .str], cs := [], R := Str, out := fun z => ((z, ()), ()), f := f }
abbrev strings_Compare_sg (f : SV [.v .str, .v .str] → BV [] → Option (Int)) : AF := { ps := [.v .str, .v .str], bs := [], rs := [.v (.int .i64)], cs := [], R := Int, out := fun z => ((z, ()), ()), f := f }
abbrev slices_Insert_pair_sg (f : SV [.row 0, .v (.int .i64), .row 1] → BV [.row 53 (.pr .str .str) true, .row 53 (.pr .str .str) false] → Option (List (Str × Str))) : AF := { ps := [.row 0, .v (.int .i64), .row 1], bs := [.row 53 (.pr .str .str) true, .row 53 (.pr .str .str) false], rs := [.row 0], cs := [.row 53 (.pr .str .str) true, .none], R := List (Str × Str), out := fun z => (((), ()), (z, (), ())), f := f }
abbrev slices_Sort_string_string_sg (f : SV [.row 0] → BV [.row 9 .str true] → Option (List Str)) : AF := { ps := [.row 0], bs := [.row 9 .str true], rs := [], cs := [.row 9 .str true, .none], R := List Str, out := fun z => ((), (z, (), ())), f := f }
abbrev slices_SortFunc_pair_sg (f : SV [.row 0, .v (.clo 59 .un)] → BV [.row 53 (.pr .str .str) true] → Option (List (Str × Str))) : AF := { ps := [.row 0, .v (.clo 59 .un)], bs := [.row 53 (.pr .str .str) true], rs := [], cs := [.row 53 (.pr .str .str) true, .none], R := List (Str × Str), out := fun z => ((), (z, (), ())), f := f }
theorem tyOk_int : TyOk Tryz.prog 3 (.int .i64) := ⟨_, by kernel_rfl, Tryz.underlying3, rfl⟩
theorem tyOk_bool : TyOk Tryz.prog 4 .bool := ⟨_, by kernel_rfl, Tryz.underlying4, rfl⟩
theorem tyOk_string : TyOk Tryz.prog 9 .str := ⟨_, by kernel_rfl, Tryz.underlying9, rfl⟩
theorem tyOk_ABapiDSetting : TyOk Tryz.prog 22 (.sl (.pr .str (.sl .str))) := ⟨_, by kernel_rfl, Tryz.underlying22, rfl⟩
theorem tyOk_ABapiDCondition : TyOk Tryz.prog 23 (.sl (.pr .str (.pr (.sl (.pr .str .str)) (.sl (.pr .str .str))))) := ⟨_, by kernel_rfl, Tryz.underlying23, rfl⟩
theorem tyOk_ABapiDPlatform : TyOk Tryz.prog 24 (.sl (.pr .str (.sl (.pr .str .str)))) := ⟨_, by kernel_rfl, Tryz.underlying24, rfl⟩
theorem tyOk_ABapiDTransition : TyOk Tryz.prog 26 (.sl (.pr .str (.pr (.sl (.pr .str .str)) (.sl .str)))) := ⟨_, by kernel_rfl, Tryz.underlying26, rfl⟩
theorem tyOk_smithyardSapiDWorld : TyOk Tryz.prog 28 (.pr (.sl (.pr .str (.sl .str))) (.pr (.sl (.pr .str (.pr (.sl (.pr .str .str)) (.sl (.pr .str .str))))) (.pr (.sl (.pr .str (.sl (.pr .str .str)))) (.pr (.sl (.pr .str (.pr .str (.pr (.sl (.pr .str .str)) (.sl (.pr .str .str)))))) (.sl (.pr .str (.pr (.sl (.pr .str .str)) (.sl .str)))))))) := ⟨_, by kernel_rfl, Tryz.underlying28, rfl⟩
theorem tyOk_ABstring : TyOk Tryz.prog 29 (.sl .str) := ⟨_, by kernel_rfl, Tryz.underlying29, rfl⟩
theorem tyOk_ABapiDCase : TyOk Tryz.prog 30 (.sl (.pr .str (.rc .value))) := ⟨_, by kernel_rfl, Tryz.underlying30, rfl⟩
theorem tyOk_smithyardSapiDValue : TyOk Tryz.prog 32 (.rc .value) := ⟨_, by kernel_rfl, Tryz.underlying32, rfl⟩
theorem tyOk_ABapiDPair : TyOk Tryz.prog 33 (.sl (.pr .str .str)) := ⟨_, by kernel_rfl, Tryz.underlying33, rfl⟩
theorem tyOk_smithyardSapiDPlatform : TyOk Tryz.prog 35 (.pr .str (.sl (.pr .str .str))) := ⟨_, by kernel_rfl, Tryz.underlying35, rfl⟩
theorem tyOk_smithyardSapiDTransition : TyOk Tryz.prog 43 (.pr .str (.pr (.sl (.pr .str .str)) (.sl .str))) := ⟨_, by kernel_rfl, Tryz.underlying43, rfl⟩
theorem tyOk_ABABapiDPair : TyOk Tryz.prog 44 (.sl (.sl (.pr .str .str))) := ⟨_, by kernel_rfl, Tryz.underlying44, rfl⟩
theorem tyOk_smithyardSapiDPair : TyOk Tryz.prog 53 (.pr .str .str) := ⟨_, by kernel_rfl, Tryz.underlying53, rfl⟩
theorem tyOk_ABapiDAttr : TyOk Tryz.prog 57 (.sl (.pr .str (.rc .value))) := ⟨_, by kernel_rfl, Tryz.underlying57, rfl⟩
theorem tyOk_smithyardSapiDTarget : TyOk Tryz.prog 59 (.pr .str (.pr .str (.sl (.pr .str (.rc .value))))) := ⟨_, by kernel_rfl, Tryz.underlying59, rfl⟩
theorem tyOk_ABapiDTarget : TyOk Tryz.prog 63 (.sl (.pr .str (.pr .str (.sl (.pr .str (.rc .value)))))) := ⟨_, by kernel_rfl, Tryz.underlying63, rfl⟩
theorem tyOk_smithyardSapiDPackage : TyOk Tryz.prog 65 (.pr .str (.sl (.pr .str (.pr .str (.sl (.pr .str (.rc .value))))))) := ⟨_, by kernel_rfl, Tryz.underlying65, rfl⟩
theorem tyOk_smithyardSapiDCase : TyOk Tryz.prog 78 (.pr .str (.rc .value)) := ⟨_, by kernel_rfl, Tryz.underlying78, rfl⟩
theorem tyOk_smithyardSapiDSetting : TyOk Tryz.prog 81 (.pr .str (.sl .str)) := ⟨_, by kernel_rfl, Tryz.underlying81, rfl⟩
theorem tyOk_smithyardSapiDAttr : TyOk Tryz.prog 102 (.pr .str (.rc .value)) := ⟨_, by kernel_rfl, Tryz.underlying102, rfl⟩
theorem tyOk_mapAstringBbool : TyOk Tryz.prog 105 (.mp .bool) := ⟨_, by kernel_rfl, Tryz.underlying105, rfl⟩
theorem tyOk_smithyardSapiDCondition : TyOk Tryz.prog 108 (.pr .str (.pr (.sl (.pr .str .str)) (.sl (.pr .str .str)))) := ⟨_, by kernel_rfl, Tryz.underlying108, rfl⟩
theorem tyOk_uint : TyOk Tryz.prog 142 (.int .u64) := ⟨_, by kernel_rfl, Tryz.underlying142, rfl⟩
theorem tyOk_ABABapiDAttr : TyOk Tryz.prog 204 (.sl (.sl (.pr .str (.rc .value)))) := ⟨_, by kernel_rfl, Tryz.underlying204, rfl⟩
def tyT : TypeId → Option Ty := fun T =>
  match T with
  | 3 => some (.int .i64)
  | 4 => some .bool
  | 9 => some .str
  | 22 => some (.sl (.pr .str (.sl .str)))
  | 23 => some (.sl (.pr .str (.pr (.sl (.pr .str .str)) (.sl (.pr .str .str)))))
  | 24 => some (.sl (.pr .str (.sl (.pr .str .str))))
  | 26 => some (.sl (.pr .str (.pr (.sl (.pr .str .str)) (.sl .str))))
  | 28 => some (.pr (.sl (.pr .str (.sl .str))) (.pr (.sl (.pr .str (.pr (.sl (.pr .str .str)) (.sl (.pr .str .str))))) (.pr (.sl (.pr .str (.sl (.pr .str .str)))) (.pr (.sl (.pr .str (.pr .str (.pr (.sl (.pr .str .str)) (.sl (.pr .str .str)))))) (.sl (.pr .str (.pr (.sl (.pr .str .str)) (.sl .str))))))))
  | 29 => some (.sl .str)
  | 30 => some (.sl (.pr .str (.rc .value)))
  | 32 => some (.rc .value)
  | 33 => some (.sl (.pr .str .str))
  | 35 => some (.pr .str (.sl (.pr .str .str)))
  | 43 => some (.pr .str (.pr (.sl (.pr .str .str)) (.sl .str)))
  | 44 => some (.sl (.sl (.pr .str .str)))
  | 53 => some (.pr .str .str)
  | 57 => some (.sl (.pr .str (.rc .value)))
  | 59 => some (.pr .str (.pr .str (.sl (.pr .str (.rc .value)))))
  | 63 => some (.sl (.pr .str (.pr .str (.sl (.pr .str (.rc .value))))))
  | 65 => some (.pr .str (.sl (.pr .str (.pr .str (.sl (.pr .str (.rc .value)))))))
  | 78 => some (.pr .str (.rc .value))
  | 81 => some (.pr .str (.sl .str))
  | 102 => some (.pr .str (.rc .value))
  | 105 => some (.mp .bool)
  | 108 => some (.pr .str (.pr (.sl (.pr .str .str)) (.sl (.pr .str .str))))
  | 142 => some (.int .u64)
  | 204 => some (.sl (.sl (.pr .str (.rc .value))))
  | _ => none
theorem tyT_ok : ∀ T t, tyT T = some t → TyOk Tryz.prog T t := by
  intro T t h
  unfold tyT at h
  split at h
  · cases h; exact tyOk_int
  · cases h; exact tyOk_bool
  · cases h; exact tyOk_string
  · cases h; exact tyOk_ABapiDSetting
  · cases h; exact tyOk_ABapiDCondition
  · cases h; exact tyOk_ABapiDPlatform
  · cases h; exact tyOk_ABapiDTransition
  · cases h; exact tyOk_smithyardSapiDWorld
  · cases h; exact tyOk_ABstring
  · cases h; exact tyOk_ABapiDCase
  · cases h; exact tyOk_smithyardSapiDValue
  · cases h; exact tyOk_ABapiDPair
  · cases h; exact tyOk_smithyardSapiDPlatform
  · cases h; exact tyOk_smithyardSapiDTransition
  · cases h; exact tyOk_ABABapiDPair
  · cases h; exact tyOk_smithyardSapiDPair
  · cases h; exact tyOk_ABapiDAttr
  · cases h; exact tyOk_smithyardSapiDTarget
  · cases h; exact tyOk_ABapiDTarget
  · cases h; exact tyOk_smithyardSapiDPackage
  · cases h; exact tyOk_smithyardSapiDCase
  · cases h; exact tyOk_smithyardSapiDSetting
  · cases h; exact tyOk_smithyardSapiDAttr
  · cases h; exact tyOk_mapAstringBbool
  · cases h; exact tyOk_smithyardSapiDCondition
  · cases h; exact tyOk_uint
  · cases h; exact tyOk_ABABapiDAttr
  · cases h
def elT : TypeId → Option (TypeId × Ty) := fun T =>
  match T with
  | 22 => some (81, (.pr .str (.sl .str)))
  | 23 => some (108, (.pr .str (.pr (.sl (.pr .str .str)) (.sl (.pr .str .str)))))
  | 24 => some (35, (.pr .str (.sl (.pr .str .str))))
  | 26 => some (43, (.pr .str (.pr (.sl (.pr .str .str)) (.sl .str))))
  | 29 => some (9, .str)
  | 30 => some (78, (.pr .str (.rc .value)))
  | 33 => some (53, (.pr .str .str))
  | 44 => some (33, (.sl (.pr .str .str)))
  | 57 => some (102, (.pr .str (.rc .value)))
  | 63 => some (59, (.pr .str (.pr .str (.sl (.pr .str (.rc .value))))))
  | 204 => some (57, (.sl (.pr .str (.rc .value))))
  | _ => none
theorem elT_ok : ∀ T e t, elT T = some (e, t) → ElOk Tryz.prog T e t := by
  intro T e t h
  unfold elT at h
  split at h
  · cases h; exact ⟨tyOk_smithyardSapiDSetting, 40, ElemT.mk_ Tryz.underlying22 (z := mkV (.pr .str (.sl .str)) (zeroC (.pr .str (.sl .str)))) (by kernel_rfl) rfl (by decide) (by decide), by decide⟩
  · cases h; exact ⟨tyOk_smithyardSapiDCondition, 64, ElemT.mk_ Tryz.underlying23 (z := mkV (.pr .str (.pr (.sl (.pr .str .str)) (.sl (.pr .str .str)))) (zeroC (.pr .str (.pr (.sl (.pr .str .str)) (.sl (.pr .str .str)))))) (by kernel_rfl) rfl (by decide) (by decide), by decide⟩
  · cases h; exact ⟨tyOk_smithyardSapiDPlatform, 40, ElemT.mk_ Tryz.underlying24 (z := mkV (.pr .str (.sl (.pr .str .str))) (zeroC (.pr .str (.sl (.pr .str .str))))) (by kernel_rfl) rfl (by decide) (by decide), by decide⟩
  · cases h; exact ⟨tyOk_smithyardSapiDTransition, 64, ElemT.mk_ Tryz.underlying26 (z := mkV (.pr .str (.pr (.sl (.pr .str .str)) (.sl .str))) (zeroC (.pr .str (.pr (.sl (.pr .str .str)) (.sl .str))))) (by kernel_rfl) rfl (by decide) (by decide), by decide⟩
  · cases h; exact ⟨tyOk_string, 16, ElemT.mk_ Tryz.underlying29 (z := mkV .str (zeroC .str)) (by kernel_rfl) rfl (by decide) (by decide), by decide⟩
  · cases h; exact ⟨tyOk_smithyardSapiDCase, 96, ElemT.mk_ Tryz.underlying30 (z := mkV (.pr .str (.rc .value)) (zeroC (.pr .str (.rc .value)))) (by kernel_rfl) rfl (by decide) (by decide), by decide⟩
  · cases h; exact ⟨tyOk_smithyardSapiDPair, 32, ElemT.mk_ Tryz.underlying33 (z := mkV (.pr .str .str) (zeroC (.pr .str .str))) (by kernel_rfl) rfl (by decide) (by decide), by decide⟩
  · cases h; exact ⟨tyOk_ABapiDPair, 24, ElemT.mk_ Tryz.underlying44 (z := mkV (.sl (.pr .str .str)) (zeroC (.sl (.pr .str .str)))) (by kernel_rfl) rfl (by decide) (by decide), by decide⟩
  · cases h; exact ⟨tyOk_smithyardSapiDAttr, 96, ElemT.mk_ Tryz.underlying57 (z := mkV (.pr .str (.rc .value)) (zeroC (.pr .str (.rc .value)))) (by kernel_rfl) rfl (by decide) (by decide), by decide⟩
  · cases h; exact ⟨tyOk_smithyardSapiDTarget, 56, ElemT.mk_ Tryz.underlying63 (z := mkV (.pr .str (.pr .str (.sl (.pr .str (.rc .value))))) (zeroC (.pr .str (.pr .str (.sl (.pr .str (.rc .value))))))) (by kernel_rfl) rfl (by decide) (by decide), by decide⟩
  · cases h; exact ⟨tyOk_ABapiDAttr, 24, ElemT.mk_ Tryz.underlying204 (z := mkV (.sl (.pr .str (.rc .value))) (zeroC (.sl (.pr .str (.rc .value))))) (by kernel_rfl) rfl (by decide) (by decide), by decide⟩
  · cases h
def fldT : TypeId → Nat → Option (Nat × Ty) := fun T f =>
  match T, f with
  | 28, 0 => some (0, (.sl (.pr .str (.sl .str))))
  | 28, 1 => some (1, (.sl (.pr .str (.pr (.sl (.pr .str .str)) (.sl (.pr .str .str))))))
  | 28, 4 => some (4, (.sl (.pr .str (.pr (.sl (.pr .str .str)) (.sl .str)))))
  | 32, 0 => some (0, (.int .i64))
  | 32, 1 => some (1, .str)
  | 32, 2 => some (2, (.int .i64))
  | 32, 3 => some (3, (.sl .str))
  | 32, 4 => some (4, (.sl (.pr .str (.rc .value))))
  | 35, 0 => some (0, .str)
  | 35, 1 => some (1, (.sl (.pr .str .str)))
  | 43, 0 => some (0, .str)
  | 43, 1 => some (1, (.sl (.pr .str .str)))
  | 43, 2 => some (2, (.sl .str))
  | 53, 0 => some (0, .str)
  | 53, 1 => some (1, .str)
  | 59, 0 => some (0, .str)
  | 59, 1 => some (1, .str)
  | 59, 2 => some (2, (.sl (.pr .str (.rc .value))))
  | 65, 0 => some (0, .str)
  | 65, 1 => some (1, (.sl (.pr .str (.pr .str (.sl (.pr .str (.rc .value)))))))
  | 78, 0 => some (0, .str)
  | 78, 1 => some (1, (.rc .value))
  | 81, 0 => some (0, .str)
  | 81, 1 => some (1, (.sl .str))
  | 102, 0 => some (0, .str)
  | 102, 1 => some (1, (.rc .value))
  | 108, 0 => some (0, .str)
  | 108, 1 => some (1, (.sl (.pr .str .str)))
  | 108, 2 => some (2, (.sl (.pr .str .str)))
  | _, _ => none
theorem fldT_ok : ∀ T f off t, fldT T f = some (off, t) → FldOk Tryz.prog T f off t := by
  intro T f off t h
  unfold fldT at h
  split at h
  · cases h; exact ⟨_, _, Tryz.underlying28, rfl, rfl, tyOk_ABapiDSetting, by decide⟩
  · cases h; exact ⟨_, _, Tryz.underlying28, rfl, rfl, tyOk_ABapiDCondition, by decide⟩
  · cases h; exact ⟨_, _, Tryz.underlying28, rfl, rfl, tyOk_ABapiDTransition, by decide⟩
  · cases h; exact ⟨_, _, Tryz.underlying32, rfl, rfl, tyOk_int, by decide⟩
  · cases h; exact ⟨_, _, Tryz.underlying32, rfl, rfl, tyOk_string, by decide⟩
  · cases h; exact ⟨_, _, Tryz.underlying32, rfl, rfl, tyOk_int, by decide⟩
  · cases h; exact ⟨_, _, Tryz.underlying32, rfl, rfl, tyOk_ABstring, by decide⟩
  · cases h; exact ⟨_, _, Tryz.underlying32, rfl, rfl, tyOk_ABapiDCase, by decide⟩
  · cases h; exact ⟨_, _, Tryz.underlying35, rfl, rfl, tyOk_string, by decide⟩
  · cases h; exact ⟨_, _, Tryz.underlying35, rfl, rfl, tyOk_ABapiDPair, by decide⟩
  · cases h; exact ⟨_, _, Tryz.underlying43, rfl, rfl, tyOk_string, by decide⟩
  · cases h; exact ⟨_, _, Tryz.underlying43, rfl, rfl, tyOk_ABapiDPair, by decide⟩
  · cases h; exact ⟨_, _, Tryz.underlying43, rfl, rfl, tyOk_ABstring, by decide⟩
  · cases h; exact ⟨_, _, Tryz.underlying53, rfl, rfl, tyOk_string, by decide⟩
  · cases h; exact ⟨_, _, Tryz.underlying53, rfl, rfl, tyOk_string, by decide⟩
  · cases h; exact ⟨_, _, Tryz.underlying59, rfl, rfl, tyOk_string, by decide⟩
  · cases h; exact ⟨_, _, Tryz.underlying59, rfl, rfl, tyOk_string, by decide⟩
  · cases h; exact ⟨_, _, Tryz.underlying59, rfl, rfl, tyOk_ABapiDAttr, by decide⟩
  · cases h; exact ⟨_, _, Tryz.underlying65, rfl, rfl, tyOk_string, by decide⟩
  · cases h; exact ⟨_, _, Tryz.underlying65, rfl, rfl, tyOk_ABapiDTarget, by decide⟩
  · cases h; exact ⟨_, _, Tryz.underlying78, rfl, rfl, tyOk_string, by decide⟩
  · cases h; exact ⟨_, _, Tryz.underlying78, rfl, rfl, tyOk_smithyardSapiDValue, by decide⟩
  · cases h; exact ⟨_, _, Tryz.underlying81, rfl, rfl, tyOk_string, by decide⟩
  · cases h; exact ⟨_, _, Tryz.underlying81, rfl, rfl, tyOk_ABstring, by decide⟩
  · cases h; exact ⟨_, _, Tryz.underlying102, rfl, rfl, tyOk_string, by decide⟩
  · cases h; exact ⟨_, _, Tryz.underlying102, rfl, rfl, tyOk_smithyardSapiDValue, by decide⟩
  · cases h; exact ⟨_, _, Tryz.underlying108, rfl, rfl, tyOk_string, by decide⟩
  · cases h; exact ⟨_, _, Tryz.underlying108, rfl, rfl, tyOk_ABapiDPair, by decide⟩
  · cases h; exact ⟨_, _, Tryz.underlying108, rfl, rfl, tyOk_ABapiDPair, by decide⟩
  · cases h
theorem mpT_ok : ∀ T e, tyT T = some (.mp e) → MpOk Tryz.prog T e := by
  intro T e h
  unfold tyT at h
  split at h
  · cases h
  · cases h
  · cases h
  · cases h
  · cases h
  · cases h
  · cases h
  · cases h
  · cases h
  · cases h
  · cases h
  · cases h
  · cases h
  · cases h
  · cases h
  · cases h
  · cases h
  · cases h
  · cases h
  · cases h
  · cases h
  · cases h
  · cases h
  · cases h; exact ⟨_, _, Tryz.underlying105, Tryz.underlying9, tyOk_bool⟩
  · cases h
  · cases h
  · cases h
  · cases h
theorem bldT_ok : ∀ T t, tyT T = some t → t.isAgg = true → ∃ fs places, Tryz.prog.underlying T = some (.struct fs) ∧ fs.toList.mapM (fun f => (Tryz.prog.info? f.type).map fun i => (f.offset, i.size)) = some places := by
  intro T t h ha
  unfold tyT at h
  split at h
  · cases h; cases ha
  · cases h; cases ha
  · cases h; cases ha
  · cases h; cases ha
  · cases h; cases ha
  · cases h; cases ha
  · cases h; cases ha
  · exact ⟨_, [(0, 1), (1, 1), (2, 1), (3, 1), (4, 1)], Tryz.underlying28, by kernel_rfl⟩
  · cases h; cases ha
  · cases h; cases ha
  · exact ⟨_, [(0, 1), (1, 1), (2, 1), (3, 1), (4, 1)], Tryz.underlying32, by kernel_rfl⟩
  · cases h; cases ha
  · exact ⟨_, [(0, 1), (1, 1)], Tryz.underlying35, by kernel_rfl⟩
  · exact ⟨_, [(0, 1), (1, 1), (2, 1)], Tryz.underlying43, by kernel_rfl⟩
  · cases h; cases ha
  · exact ⟨_, [(0, 1), (1, 1)], Tryz.underlying53, by kernel_rfl⟩
  · cases h; cases ha
  · exact ⟨_, [(0, 1), (1, 1), (2, 1)], Tryz.underlying59, by kernel_rfl⟩
  · cases h; cases ha
  · exact ⟨_, [(0, 1), (1, 1)], Tryz.underlying65, by kernel_rfl⟩
  · exact ⟨_, [(0, 1), (1, 5)], Tryz.underlying78, by kernel_rfl⟩
  · exact ⟨_, [(0, 1), (1, 1)], Tryz.underlying81, by kernel_rfl⟩
  · exact ⟨_, [(0, 1), (1, 5)], Tryz.underlying102, by kernel_rfl⟩
  · cases h; cases ha
  · exact ⟨_, [(0, 1), (1, 1), (2, 1)], Tryz.underlying108, by kernel_rfl⟩
  · cases h; cases ha
  · cases h; cases ha
  · cases h
theorem cmpOk_smithyardSapiDPair : CmpOk Tryz.prog 53 (.pr .str .str) := CmpOk.flat rfl rfl Tryz.underlying53 (by kernel_rfl) (by kernel_rfl) (.cons rfl (by decide) (.str Tryz.underlying9) (.one rfl (by decide) (.str Tryz.underlying9)))
def cmpT : TypeId → Option Ty := fun T =>
  match T with
  | 53 => some (.pr .str .str)
  | _ => none
theorem cmpT_ok : ∀ T t, cmpT T = some t → CmpOk Tryz.prog T t := by
  intro T t h
  unfold cmpT at h
  split at h
  · cases h; exact cmpOk_smithyardSapiDPair
  · cases h
def mkE (h : Nat → Hint) (fn : FuncId → Option Tmp → Option AF) (exq : Nat → Bool) (live : FuncId → Bool) : Env := { ty := tyT, el := elT, fld := fldT, cmp := cmpT, fn := fn, hint := h, exq := exq, live := live }
theorem mkE_ok (hh : Nat → Hint) (fn : FuncId → Option Tmp → Option AF) (exq : Nat → Bool) (live : FuncId → Bool) (h : ∀ f q F, fn f q = some F → Sound Tryz.prog GW B0G f F) : EnvOk Tryz.prog GW B0G (mkE hh fn exq live) :=
  { ty := tyT_ok, el := elT_ok, fld := fldT_ok, mp := mpT_ok, bld := bldT_ok, cmp := cmpT_ok, fn := h, stable := GW_stable, mixed := by kernel_rfl }
end Go.Proofs.YtbekhaioddmliaaGreatDoor

