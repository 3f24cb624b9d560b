/-
 DERIVED: THE SHELF's CONTRACTS AT THIS DUMP, IN PLAIN WORDS (tools/lay-plain.mjs out of 'TryzShelf.lean', which tools/lay-shelf.mjs wrote): THE SAME DECLARATIONS UNDER THE SAME NAMES: 'import', 'namespace', 'open', 'def', 'theorem' AND NOTHING ELSE: no command of the shelf's: FOR A HAND-IN. Each laying: the table of numbers ('.._ren') and one theorem, a field a fact of the dump's own or the kernel's comparison; each contract: ONE APPLICATION.
-/
import Derived.Shelf.Strings.Builder1
import Derived.Shelf.Strings.Builder2
import Derived.Shelf.Strings.OnBuilder
import Derived.Shelf.Strings.Trim
import Derived.Shelf.Small.Utf8
import Derived.Shelf.Small.Bits
import Derived.Shelf.Small.Strs
import Derived.Shelf.Utf8.RuneCount
import Derived.Shelf.Strconv.Itoa0
import Derived.Shelf.Strings.Search1
import Derived.Shelf.Strings.Search2
import Derived.Shelf.Strings.Search3
import Derived.Shelf.Strings.Count
import Derived.Shelf.LaysM
import Derived.Shelf.Strings.Shaped
import Derived.Shelf.GgClosure.StringsIndexFunc
import Derived.Ground.GgwProg
import Derived.Shelf.GgClosure.StringsIndexFuncTop
import Derived.Shelf.Strings.Split
import Derived.Shelf.Strings.SplitShaped
import Derived.Shelf.Unicode.Decode
import Derived.Shelf.Strings.Runes
import Derived.Shelf.Strings.RuneCount
import Derived.Shelf.Strings.AsciiSet
import Derived.Shelf.Strings.Explode
import Derived.Shelf.Unicode.DecodeSlow
import Derived.Shelf.Unicode.DecodeAny
import Derived.Shelf.Unicode.DecodeLast
import Derived.Shelf.Strings.FuncGrows
import Derived.Shelf.Slices.Turned
import Derived.Shelf.Slices.Equal
import Derived.Ground.Names2Prog
import Derived.Shelf.Slices.Clone
import Derived.Shelf.Slices.CompactS
import Derived.Shelf.Slices.Cells
import Derived.Ground.SlgnProg
import Derived.Shelf.SlicesE.Clone
import Derived.Test.YtbekhaioddmliaaGreatDoorProg
import Derived.Test.YtbekhaioddmliaaGreatDoorQBmX
import Derived.Shelf.Strings.SlTrimAscii
import Derived.Shelf.Spec.SlicesInsert
import Derived.Lib.AppendZerosOnto
import Derived.Test.YtbekhaioddmliaaGreatDoorQSlc
import Derived.WalkSpells
import Derived.WalkLawsBesides
import Derived.Outline
import Derived.IntWalk
namespace Go.Proofs.YtbekhaioddmliaaGreatDoor
open Go Go.RowKit
abbrev τ0 : Ty := .sl (.pr .str .str)
abbrev τ1 : Type := Str × List (Str × Str) × List (Str × Str)
abbrev τ2 : Type := Str × GValue
abbrev τ3 : Ty := .pr .str (.rc .value)
abbrev τ4 : Ty := .pr (.sl (.pr .str (.sl .str))) (.pr (.sl (.pr .str (.pr τ0 τ0))) (.pr (.sl (.pr .str τ0)) (.pr (.sl (.pr .str (.pr .str (.pr τ0 τ0)))) (.sl (.pr .str (.pr τ0 (.sl .str)))))))
abbrev τ5 : Type := Str × Str
abbrev τ6 : Ty := .int .i64
abbrev τ7 : Type := List (Str × List Str)
abbrev τ8 : Ty := .pr .str (.pr τ0 τ0)
abbrev τ9 : Ty := .sl (.pr .str (.sl .str))
abbrev τ10 : Type := Str × Str × List τ5 × List τ5
abbrev τ11 : Type := List (Str × List τ5)
abbrev τ12 : Type := List (Str × List τ5 × List Str)
abbrev τ13 : Ty := .pr .str (.pr .str (.sl τ3))
abbrev τ14 : Type := (Str × Str × List τ2) × Str × Int
abbrev τ15 : Ty := .rc .value
abbrev τ16 : Ty := .pr .str τ0
abbrev τ17 : Type := GValue × Int
abbrev τ18 : Type := List (Str × List Str) × List τ1 × List (Str × List τ5) × List τ10 × List (Str × List τ5 × List Str)
abbrev τ19 : Type := Int × List Str
abbrev τ20 : Ty := .sl (.pr .str (.pr τ0 (.sl .str)))
abbrev τ21 : Type := List τ2
abbrev τ22 : Ty := .sl .str
abbrev τ23 : Type := Str × Bool
abbrev τ24 : Type := List Str
abbrev τ25 : Ty := .sl (.pr .str τ8)
abbrev τ26 : Type := Option Int
abbrev τ27 : Type := (Str × List Str) × Bool
abbrev τ28 : Ty := .sl τ16
abbrev τ29 : Type := Str × Str × List τ2
abbrev τ30 : Type := Option Bool
end Go.Proofs.YtbekhaioddmliaaGreatDoor
namespace Go.Proofs
open Go.Shelf
def Tryz.lays156_ren : Go.Shelf.Ren := ⟨fun | 156 => 93 | 165 => 140 | 166 => 141 | 169 => 142 | 240 => 186 | 241 => 187 | 276 => 208 | 277 => 209 | n => n, fun | 31 => 29 | 9 => 9 | 3 => 3 | 4 => 4 | 0 => 0 | 20 => 20 | 72 => 167 | 76 => 171 | 70 => 164 | 37 => 165 | 75 => 170 | 127 => 210 | 164 => 226 | 5 => 5 | 80 => 173 | n => n, fun | n => n⟩
theorem Tryz.lays156 : Go.Proofs.Lays.n156 Tryz.prog Tryz.lays156_ren := {
 mixed := by kernel_rfl
 f156 := Tryz.func93.trans (congrArg some (by kernel_rfl))
 f165 := Tryz.func140.trans (congrArg some (by kernel_rfl))
 f166 := Tryz.func141.trans (congrArg some (by kernel_rfl))
 f169 := Tryz.func142.trans (congrArg some (by kernel_rfl))
 f240 := Tryz.func186.trans (congrArg some (by kernel_rfl))
 f241 := Tryz.func187.trans (congrArg some (by kernel_rfl))
 f276 := Tryz.func208.trans (congrArg some (by kernel_rfl))
 f277 := Tryz.func209.trans (congrArg some (by kernel_rfl))
 t0 := Tryz.underlying0
 a0 := Tryz.isAgg0
 z0 := Tryz.sizeOf0
 v0 := Tryz.zeroValue0
 t3 := Tryz.underlying3
 a3 := Tryz.isAgg3
 z3 := Tryz.sizeOf3
 v3 := Tryz.zeroValue3
 t4 := Tryz.underlying4
 a4 := Tryz.isAgg4
 z4 := Tryz.sizeOf4
 v4 := Tryz.zeroValue4
 t9 := Tryz.underlying9
 a9 := Tryz.isAgg9
 z9 := Tryz.sizeOf9
 v9 := Tryz.zeroValue9
 t20 := Tryz.underlying20
 a20 := Tryz.isAgg20
 z20 := Tryz.sizeOf20
 v20 := Tryz.zeroValue20
 t31 := Tryz.underlying29
 a31 := Tryz.isAgg29
 z31 := Tryz.sizeOf29
 v31 := Tryz.zeroValue29
 t37 := Tryz.underlying165
 a37 := Tryz.isAgg165
 z37 := Tryz.sizeOf165
 v37 := Tryz.zeroValue165
 t70 := Tryz.underlying164
 a70 := Tryz.isAgg164
 z70 := Tryz.sizeOf164
 v70 := Tryz.zeroValue164
 t72 := Tryz.underlying167
 a72 := Tryz.isAgg167
 z72 := Tryz.sizeOf167
 v72 := Tryz.zeroValue167
 t75 := Tryz.underlying170
 a75 := Tryz.isAgg170
 z75 := Tryz.sizeOf170
 v75 := Tryz.zeroValue170
 t76 := Tryz.underlying171
 a76 := Tryz.isAgg171
 z76 := Tryz.sizeOf171
 v76 := Tryz.zeroValue171
 t127 := Tryz.underlying210
 a127 := Tryz.isAgg210
 z127 := Tryz.sizeOf210
 v127 := Tryz.zeroValue210
 t164 := Tryz.underlying226
 a164 := Tryz.isAgg226
 z164 := Tryz.sizeOf226
 v164 := Tryz.zeroValue226 }
theorem Tryz.Builder_Extra_156 : Builder.Extra Tryz.prog Tryz.lays156_ren := {
 sizeBuilder := by kernel_rfl
 liesBuilder := by kernel_rfl
 t5 := Tryz.underlying5
 a5 := Tryz.isAgg5
 z5 := Tryz.sizeOf5
 v5 := Tryz.zeroValue5
 infoByte := by kernel_rfl
 cellsByte := by kernel_rfl
 sizeByte := by kernel_rfl
 neB5 := by decide }
open Go.RowKit in
theorem Tryz.strings_Join_none (a : Option Addr) (c : Nat) (sep : ByteArray) (w : World) :
   Calls Tryz.prog 93 #[.slice a 0 c, .string sep] w fun e w' => e = .returned (.string ⟨#[]⟩) ∧ w' = w := Any.strings_Join_none Tryz.lays156 Tryz.Builder_Extra_156 a c sep w
open Go.RowKit in
theorem Tryz.strings_Join (bk o c : Nat) (xs : List ByteArray) (sep : ByteArray) (w : World) (hcells : ∀ (j : Nat) x, xs[j]? = some x → w.cell? ⟨bk, o + j, none⟩ = some (.string x)) (hbk : bk < w.heap.size) (hN : xs.length ≤ 140737488355328) (hcap : xs.length ≤ c) (hlen : (Lib.join (xs.map (·.data.toList)) sep.data.toList).length ≤ 140737488355328) :
   Calls Tryz.prog 93 #[.slice (some ⟨bk, o, none⟩) xs.length c, .string sep] w fun e w' => e = .returned (.string ⟨(Lib.join (xs.map (·.data.toList)) sep.data.toList).toArray⟩) ∧ Below w.heap.size w w' := Any.strings_Join Tryz.lays156 Tryz.Builder_Extra_156 bk o c xs sep w hcells hbk hN hcap hlen
def Tryz.lays160_ren : Go.Shelf.Ren := ⟨fun | 160 => 102 | 232 => 148 | 231 => 147 | 227 => 149 | 234 => 151 | 233 => 150 | 236 => 153 | 235 => 152 | 228 => 190 | 271 => 193 | 151 => 192 | 197 => 191 | 120 => 213 | 152 => 212 | 260 => 211 | 137 => 205 | 119 => 220 | 224 => 221 | 225 => 222 | 217 => 219 | 266 => 226 | n => n, fun | 9 => 9 | 4 => 4 | 3 => 3 | 5 => 5 | 117 => 179 | 116 => 178 | 0 => 0 | 124 => 182 | 21 => 21 | 105 => 211 | 46 => 142 | 119 => 236 | 139 => 239 | 138 => 238 | n => n, fun | 3 => 1 | 4 => 2 | n => n⟩
theorem Tryz.lays160 : Go.Proofs.Lays.n160 Tryz.prog Tryz.lays160_ren := {
 mixed := by kernel_rfl
 f119 := Tryz.func220.trans (congrArg some (by kernel_rfl))
 f120 := Tryz.func213.trans (congrArg some (by kernel_rfl))
 f137 := Tryz.func205.trans (congrArg some (by kernel_rfl))
 f151 := Tryz.func192.trans (congrArg some (by kernel_rfl))
 f152 := Tryz.func212.trans (congrArg some (by kernel_rfl))
 f160 := Tryz.func102.trans (congrArg some (by kernel_rfl))
 f197 := Tryz.func191.trans (congrArg some (by kernel_rfl))
 f217 := Tryz.func219.trans (congrArg some (by kernel_rfl))
 f224 := Tryz.func221.trans (congrArg some (by kernel_rfl))
 f225 := Tryz.func222.trans (congrArg some (by kernel_rfl))
 f227 := Tryz.func149.trans (congrArg some (by kernel_rfl))
 f228 := Tryz.func190.trans (congrArg some (by kernel_rfl))
 f231 := Tryz.func147.trans (congrArg some (by kernel_rfl))
 f232 := Tryz.func148.trans (congrArg some (by kernel_rfl))
 f233 := Tryz.func150.trans (congrArg some (by kernel_rfl))
 f234 := Tryz.func151.trans (congrArg some (by kernel_rfl))
 f235 := Tryz.func152.trans (congrArg some (by kernel_rfl))
 f236 := Tryz.func153.trans (congrArg some (by kernel_rfl))
 f260 := Tryz.func211.trans (congrArg some (by kernel_rfl))
 f266 := Tryz.func226.trans (congrArg some (by kernel_rfl))
 f271 := Tryz.func193.trans (congrArg some (by kernel_rfl))
 t0 := Tryz.underlying0
 a0 := Tryz.isAgg0
 z0 := Tryz.sizeOf0
 v0 := Tryz.zeroValue0
 t3 := Tryz.underlying3
 a3 := Tryz.isAgg3
 z3 := Tryz.sizeOf3
 v3 := Tryz.zeroValue3
 t4 := Tryz.underlying4
 a4 := Tryz.isAgg4
 z4 := Tryz.sizeOf4
 v4 := Tryz.zeroValue4
 t5 := Tryz.underlying5
 a5 := Tryz.isAgg5
 z5 := Tryz.sizeOf5
 v5 := Tryz.zeroValue5
 t9 := Tryz.underlying9
 a9 := Tryz.isAgg9
 z9 := Tryz.sizeOf9
 v9 := Tryz.zeroValue9
 t21 := Tryz.underlying21
 a21 := Tryz.isAgg21
 z21 := Tryz.sizeOf21
 v21 := Tryz.zeroValue21
 t46 := Tryz.underlying142
 a46 := Tryz.isAgg142
 z46 := Tryz.sizeOf142
 v46 := Tryz.zeroValue142
 t105 := Tryz.underlying211
 a105 := Tryz.isAgg211
 z105 := Tryz.sizeOf211
 v105 := Tryz.zeroValue211
 t116 := Tryz.underlying178
 a116 := Tryz.isAgg178
 z116 := Tryz.sizeOf178
 t117 := Tryz.underlying179
 a117 := Tryz.isAgg179
 z117 := Tryz.sizeOf179
 v117 := Tryz.zeroValue179
 t119 := Tryz.underlying236
 a119 := Tryz.isAgg236
 z119 := Tryz.sizeOf236
 t124 := Tryz.underlying182
 a124 := Tryz.isAgg182
 z124 := Tryz.sizeOf182
 v124 := Tryz.zeroValue182
 t138 := Tryz.underlying238
 a138 := Tryz.isAgg238
 z138 := Tryz.sizeOf238
 v138 := Tryz.zeroValue238
 t139 := Tryz.underlying239
 a139 := Tryz.isAgg239
 z139 := Tryz.sizeOf239
 v139 := Tryz.zeroValue239
 g3 := by kernel_rfl
 g4 := by kernel_rfl }
def Tryz.lays137_ren : Go.Shelf.Ren := ⟨fun | 137 => 205 | 217 => 219 | 266 => 226 | n => n, fun | 9 => 9 | 5 => 5 | 3 => 3 | n => n, fun | n => n⟩
theorem Tryz.lays137 : Go.Proofs.Lays.n137 Tryz.prog Tryz.lays137_ren := {
 mixed := by kernel_rfl
 f137 := Tryz.func205.trans (congrArg some (by kernel_rfl))
 f217 := Tryz.func219.trans (congrArg some (by kernel_rfl))
 f266 := Tryz.func226.trans (congrArg some (by kernel_rfl))
 t3 := Tryz.underlying3
 a3 := Tryz.isAgg3
 z3 := Tryz.sizeOf3
 v3 := Tryz.zeroValue3
 t5 := Tryz.underlying5
 a5 := Tryz.isAgg5
 z5 := Tryz.sizeOf5
 v5 := Tryz.zeroValue5
 t9 := Tryz.underlying9
 a9 := Tryz.isAgg9
 z9 := Tryz.sizeOf9
 v9 := Tryz.zeroValue9 }
open Go.RowKit in
theorem Tryz.strings_IndexByte (s : ByteArray) (c : Int) (w : World) :
   Calls Tryz.prog 205 #[.string s, .int .u8 c] w fun e w' => e = .returned (.int .i64 (Lib.indexByte s.data.toList c.toNat.toUInt8)) ∧ w' = w := Any.strings_IndexByte Tryz.lays137 s c w
def Tryz.laysM143_ren : Go.Shelf.Ren := ⟨fun | 143 => 218 | 219 => 225 | 217 => 219 | 225 => 222 | 224 => 221 | 267 => 227 | 266 => 226 | 314 => 228 | n => n, fun | 9 => 9 | 3 => 3 | 4 => 4 | 5 => 5 | 46 => 142 | 146 => 242 | 51 => 192 | n => n, fun | 1 => 0 | n => n⟩
theorem Tryz.laysM143 : Go.Proofs.LaysM.n143 Tryz.prog Tryz.laysM143_ren := {
 mixed := by kernel_rfl
 f143 := Tryz.func218.trans (congrArg some (by kernel_rfl))
 f217 := Tryz.func219.trans (congrArg some (by kernel_rfl))
 f219 := Tryz.func225.trans (congrArg some (by kernel_rfl))
 f224 := Tryz.func221.trans (congrArg some (by kernel_rfl))
 f225 := Tryz.func222.trans (congrArg some (by kernel_rfl))
 f266 := Tryz.func226.trans (congrArg some (by kernel_rfl))
 f267 := Tryz.func227.trans (congrArg some (by kernel_rfl))
 f314 := Tryz.func228.trans (congrArg some (by kernel_rfl))
 t3 := Tryz.underlying3
 a3 := Tryz.isAgg3
 z3 := Tryz.sizeOf3
 v3 := Tryz.zeroValue3
 t4 := Tryz.underlying4
 a4 := Tryz.isAgg4
 z4 := Tryz.sizeOf4
 v4 := Tryz.zeroValue4
 t5 := Tryz.underlying5
 a5 := Tryz.isAgg5
 z5 := Tryz.sizeOf5
 v5 := Tryz.zeroValue5
 t9 := Tryz.underlying9
 a9 := Tryz.isAgg9
 z9 := Tryz.sizeOf9
 v9 := Tryz.zeroValue9
 t46 := Tryz.underlying142
 a46 := Tryz.isAgg142
 z46 := Tryz.sizeOf142
 v46 := Tryz.zeroValue142
 t51 := Tryz.underlying192
 a51 := Tryz.isAgg192
 z51 := Tryz.sizeOf192
 v51 := Tryz.zeroValue192
 t146 := Tryz.underlying242
 a146 := Tryz.isAgg242
 z146 := Tryz.sizeOf242
 v146 := Tryz.zeroValue242
 g1 := by kernel_rfl
 i3 := by kernel_rfl
 i4 := by kernel_rfl
 i5 := by kernel_rfl
 i9 := by kernel_rfl
 i46 := by kernel_rfl
 i51 := by kernel_rfl
 i146 := by kernel_rfl
 m1 := by kernel_rfl
 s1_3 := fun w h => Go.Proofs.cell_of_shapedOpen_int (zero := #[.int .i64 0]) (t := 3) h (of_decide_eq_true (by kernel_rfl)) (by kernel_rfl) rfl (by kernel_rfl) (by kernel_rfl) Tryz.underlying3 }
def Tryz.laysGw17_ren : Go.Shelf.Ren := ⟨fun | 17 => 117 | 15 => 182 | 20 => 206 | n => n, fun | 9 => 9 | 23 => 150 | 4 => 4 | 3 => 3 | 0 => 0 | 21 => 21 | n => n, fun | n => n⟩
theorem Tryz.laysGw17 : Go.Proofs.LaysGw.n17 Tryz.prog Tryz.laysGw17_ren := {
 mixed := by kernel_rfl
 f15 := Tryz.func182.trans (congrArg some (by kernel_rfl))
 f17 := Tryz.func117.trans (congrArg some (by kernel_rfl))
 f20 := Tryz.func206.trans (congrArg some (by kernel_rfl))
 t0 := Tryz.underlying0
 a0 := Tryz.isAgg0
 z0 := Tryz.sizeOf0
 v0 := Tryz.zeroValue0
 i0 := by kernel_rfl
 t3 := Tryz.underlying3
 a3 := Tryz.isAgg3
 z3 := Tryz.sizeOf3
 v3 := Tryz.zeroValue3
 i3 := by kernel_rfl
 t4 := Tryz.underlying4
 a4 := Tryz.isAgg4
 z4 := Tryz.sizeOf4
 v4 := Tryz.zeroValue4
 i4 := by kernel_rfl
 t9 := Tryz.underlying9
 a9 := Tryz.isAgg9
 z9 := Tryz.sizeOf9
 v9 := Tryz.zeroValue9
 i9 := by kernel_rfl
 t21 := Tryz.underlying21
 a21 := Tryz.isAgg21
 z21 := Tryz.sizeOf21
 v21 := Tryz.zeroValue21
 i21 := by kernel_rfl
 t23 := Tryz.underlying150
 a23 := Tryz.isAgg150
 z23 := Tryz.sizeOf150
 v23 := Tryz.zeroValue150
 i23 := by kernel_rfl }
def Tryz.lays146_ren : Go.Shelf.Ren := ⟨fun | 146 => 173 | 221 => 203 | 268 => 216 | 138 => 217 | 143 => 218 | 195 => 223 | 197 => 191 | 218 => 224 | 219 => 225 | 260 => 211 | 217 => 219 | 225 => 222 | 224 => 221 | 267 => 227 | 266 => 226 | 314 => 228 | n => n, fun | 9 => 9 | 31 => 29 | 3 => 3 | 4 => 4 | 0 => 0 | 105 => 211 | 21 => 21 | 5 => 5 | 46 => 142 | 119 => 236 | 139 => 239 | 138 => 238 | 146 => 242 | 51 => 192 | n => n, fun | 1 => 0 | 3 => 1 | 4 => 2 | n => n⟩
theorem Tryz.lays146 : Go.Proofs.Lays.n146 Tryz.prog Tryz.lays146_ren := {
 mixed := by kernel_rfl
 f138 := Tryz.func217.trans (congrArg some (by kernel_rfl))
 f143 := Tryz.func218.trans (congrArg some (by kernel_rfl))
 f146 := Tryz.func173.trans (congrArg some (by kernel_rfl))
 f195 := Tryz.func223.trans (congrArg some (by kernel_rfl))
 f197 := Tryz.func191.trans (congrArg some (by kernel_rfl))
 f217 := Tryz.func219.trans (congrArg some (by kernel_rfl))
 f218 := Tryz.func224.trans (congrArg some (by kernel_rfl))
 f219 := Tryz.func225.trans (congrArg some (by kernel_rfl))
 f221 := Tryz.func203.trans (congrArg some (by kernel_rfl))
 f224 := Tryz.func221.trans (congrArg some (by kernel_rfl))
 f225 := Tryz.func222.trans (congrArg some (by kernel_rfl))
 f260 := Tryz.func211.trans (congrArg some (by kernel_rfl))
 f266 := Tryz.func226.trans (congrArg some (by kernel_rfl))
 f267 := Tryz.func227.trans (congrArg some (by kernel_rfl))
 f268 := Tryz.func216.trans (congrArg some (by kernel_rfl))
 f314 := Tryz.func228.trans (congrArg some (by kernel_rfl))
 t0 := Tryz.underlying0
 a0 := Tryz.isAgg0
 z0 := Tryz.sizeOf0
 v0 := Tryz.zeroValue0
 t3 := Tryz.underlying3
 a3 := Tryz.isAgg3
 z3 := Tryz.sizeOf3
 v3 := Tryz.zeroValue3
 t4 := Tryz.underlying4
 a4 := Tryz.isAgg4
 z4 := Tryz.sizeOf4
 v4 := Tryz.zeroValue4
 t5 := Tryz.underlying5
 a5 := Tryz.isAgg5
 z5 := Tryz.sizeOf5
 v5 := Tryz.zeroValue5
 t9 := Tryz.underlying9
 a9 := Tryz.isAgg9
 z9 := Tryz.sizeOf9
 v9 := Tryz.zeroValue9
 t21 := Tryz.underlying21
 a21 := Tryz.isAgg21
 z21 := Tryz.sizeOf21
 v21 := Tryz.zeroValue21
 t31 := Tryz.underlying29
 a31 := Tryz.isAgg29
 z31 := Tryz.sizeOf29
 v31 := Tryz.zeroValue29
 t46 := Tryz.underlying142
 a46 := Tryz.isAgg142
 z46 := Tryz.sizeOf142
 v46 := Tryz.zeroValue142
 t51 := Tryz.underlying192
 a51 := Tryz.isAgg192
 z51 := Tryz.sizeOf192
 v51 := Tryz.zeroValue192
 t105 := Tryz.underlying211
 a105 := Tryz.isAgg211
 z105 := Tryz.sizeOf211
 v105 := Tryz.zeroValue211
 t119 := Tryz.underlying236
 a119 := Tryz.isAgg236
 z119 := Tryz.sizeOf236
 t138 := Tryz.underlying238
 a138 := Tryz.isAgg238
 z138 := Tryz.sizeOf238
 v138 := Tryz.zeroValue238
 t139 := Tryz.underlying239
 a139 := Tryz.isAgg239
 z139 := Tryz.sizeOf239
 v139 := Tryz.zeroValue239
 t146 := Tryz.underlying242
 a146 := Tryz.isAgg242
 z146 := Tryz.sizeOf242
 v146 := Tryz.zeroValue242
 g1 := by kernel_rfl
 g3 := by kernel_rfl
 g4 := by kernel_rfl }
open Go.RowKit Go.Lib in
theorem Tryz.strings_Split (s sep : ByteArray) (m : Int) (w : World) (hs : s.size < 4294967281) (hm : w.cell? ⟨0, 0, none⟩ = some (.int .i64 m)) (h1 : 1 ≤ sep.size) :
   Calls Tryz.prog 173 #[.string s, .string sep] w fun e w' =>
     e = .returned (.slice (some ⟨w.heap.size, 0, none⟩) (Lib.countB s sep + 1) (Lib.countB s sep + 1)) ∧ w' = w.alloc (.cells ((Lib.splitB sep 0 (Lib.countB s sep) s).map Value.string).toArray 9) := Any.strings_Split Tryz.lays146 (by kernel_rfl) s sep m w hs hm h1
open Go.RowKit Go.Lib in
theorem Tryz.strings_ContainsFunc_grows (g : Nat) (lb : Array Value) (eg : ∀ args w, (callFunc g args).run Tryz.prog w = .ok (.enter g args) w) (p : Nat → Bool) (s : ByteArray) (w : World) (hp : PredGrows Tryz.prog g lb p w) :
   Calls Tryz.prog 117 #[.string s, .func (.func g) #[] lb] w fun e w' => e = .returned (.bool (decide (0 ≤ Lib.idxFunc p true s))) ∧ Below w.heap.size w w' := Any.strings_ContainsFunc_grows Tryz.laysGw17 g lb eg p s w hp
def Tryz.lays194_ren : Go.Shelf.Ren := ⟨fun | 194 => 72 | n => n, fun | 31 => 29 | 9 => 9 | 3 => 3 | 4 => 4 | 0 => 0 | n => n, fun | n => n⟩
theorem Tryz.lays194 : Go.Proofs.Lays.n194 Tryz.prog Tryz.lays194_ren := {
 mixed := by kernel_rfl
 f194 := Tryz.func72.trans (congrArg some (by kernel_rfl))
 t0 := Tryz.underlying0
 a0 := Tryz.isAgg0
 z0 := Tryz.sizeOf0
 v0 := Tryz.zeroValue0
 t3 := Tryz.underlying3
 a3 := Tryz.isAgg3
 z3 := Tryz.sizeOf3
 v3 := Tryz.zeroValue3
 t4 := Tryz.underlying4
 a4 := Tryz.isAgg4
 z4 := Tryz.sizeOf4
 v4 := Tryz.zeroValue4
 t9 := Tryz.underlying9
 a9 := Tryz.isAgg9
 z9 := Tryz.sizeOf9
 v9 := Tryz.zeroValue9
 t31 := Tryz.underlying29
 a31 := Tryz.isAgg29
 z31 := Tryz.sizeOf29
 v31 := Tryz.zeroValue29 }
open Go.RowKit Go.Lib Go.Sort in
theorem Tryz.slices_Compact_string_empty (a : Option Addr) (cap : Nat) (w : World) :
   Calls Tryz.prog 72 #[.slice a 0 cap] w fun e w' => e = .returned (.slice a 0 cap) ∧ w' = w := Any.slices_Compact_string_empty Tryz.lays194 a cap w
open Go.RowKit Go.Lib Go.Sort in
theorem Tryz.slices_Compact_string_cells (b off n c : Nat) (Sx : Nat → ByteArray) (w : World) (hbig : n ≤ 9223372036854775807) (hcap : n ≤ c) (hc : ∀ i, i < n → w.cell? ⟨b, off + i, none⟩ = some (.string (Sx i))) (hf : ∀ j, j < n → w.frozen? ⟨b, off + j, none⟩ = false) :
   Calls Tryz.prog 72 #[.slice (some ⟨b, off, none⟩) n c] w fun e w' => e = .returned (.slice (some ⟨b, off, none⟩) (Lib.compact (Lib.strsOf Sx n)).length c) ∧ ∃ q, w' = (w.drewN q).setCells b off ((Lib.compact (Lib.strsOf Sx n) ++ List.replicate (n - (Lib.compact (Lib.strsOf Sx n)).length) []).map encStr) := Any.slices_Compact_string_cells Tryz.lays194 b off n c Sx w hbig hcap hc hf
end Go.Proofs


/- How a contract of the kit is said of the machine. -/
namespace Go.Proofs.YtbekhaioddmliaaGreatDoor
set_option linter.unusedVariables false
set_option linter.unusedSimpArgs false
open Go Go.RowKit Go.Shelf
abbrev g0 : Gh := fun _ => none
abbrev M00' : Nat → Nat → Prop := fun _ _ => False
theorem Sound.ofExt {P : Program} {G : World → Prop} {B0 : Nat} {f : FuncId} {ps rs : List Sl} {R : Type} {out : R → SV rs × BV []} {F : SV ps → BV [] → Option R}
   (hcall : ∀ (args : Array Value) (w : World), (callFunc f args).run P w = .ok (.enter f args) w)
   (h : ∀ (M : Nat → Nat → Prop) (w : World) (vs : List Value) (x : SV ps) (z : R), G w → (∀ b o, M b o → b < w.heap.size) → All2 (RepD0 M w g0) (lays id ps x) vs → F x () = some z →
     Calls P f vs.toArray w fun e w' => ∃ vs', e = .returned (rets vs') ∧ Ext w w' ∧ All2 (RepD0 M w' g0) (lays id rs (out z).1) vs') : Sound P G B0 f ⟨ps, [], rs, [], R, out, F⟩ := by
 refine ⟨hcall, fun M w g vs x y z hG hB hF hz => ?_⟩
 have hg : g = g0 := by
   funext r
   cases hr : g r with
   | none => rfl
   | some gx => exact absurd (hF.dom r gx hr) (Nat.not_lt_zero _)
 subst hg
 have hM : Mafter M g0 g0 = M := by
   funext b o
   refine propext ⟨fun h => ?_, fun h => .inl ⟨h, fun ⟨_, _, hx, _⟩ => by cases hx⟩⟩
   exact h.elim (fun h => h.1) fun ⟨_, _, hx, _⟩ => by cases hx
 refine (h M w vs x z hG hF.mlt hF.args hz).mono fun e w' hp => ?_
 obtain ⟨vs', he, hE, hA⟩ := hp
 refine ⟨vs', g0, he, ExtX.of_ext hE, ?_, ?_, fun _ _ h _ => (by cases h), fun b hb => .inl hb⟩
 · rw [hM]; exact Step.ext hE
 · rw [hM]
   exact { args := hA, res := fun r blk h => (by cases h), dom := fun r gx h => (by cases h), inj := fun _ _ _ _ _ h => (by cases h), low := fun _ _ _ h => (by cases h), chg := fun _ _ _ _ h => (by cases h), mlt := fun b o h => Nat.lt_of_lt_of_le (hF.mlt b o h) hE.size, row := fun _ _ _ h => (by cases h) }
section
variable {M : Nat → Nat → Prop} {w : World}
theorem RepV.str {x : Str} {v : Value} (h : RepV M w .str x v) : v = .string ⟨List.toArray x⟩ := by
 have := RepV.plain rfl h
 have := (show [v] = [.string ⟨List.toArray x⟩] from this)
 injection this
theorem RepV.u8 {x : UInt8} {v : Value} (h : RepV M w .u8 x v) : v = .int .u8 (UInt8.toNat x) := by
 have := RepV.plain rfl h
 have := (show [v] = [.int .u8 (UInt8.toNat x)] from this)
 injection this
theorem RepV.int {k : IntKind} {x : Int} {v : Value} (h : RepV M w (.int k) x v) : v = .int k x := by
 have := RepV.plain rfl h
 have := (show [v] = [.int k x] from this)
 injection this
theorem vStr (x : Str) : RepV M w .str x (.string ⟨List.toArray x⟩) := RepC.toV rfl rfl
theorem vInt (k : IntKind) (x : Int) : RepV M w (.int k) x (.int k x) := RepC.toV rfl rfl
theorem vBool (x : Bool) : RepV M w .bool x (.bool x) := RepC.toV rfl rfl
theorem RepV.strs {xs : List Str} {v : Value} (h : RepV M w τ22 xs v) : ∃ A c, v = .slice A xs.length c ∧ xs.length ≤ c ∧ c ≤ maxLen ∧ (xs ≠ [] → ∃ b o, A = some ⟨b, o, none⟩ ∧ ∀ j x, xs[j]? = some x → w.cell? ⟨b, o + j, none⟩ = some (.string ⟨x.toArray⟩)) := by
 obtain ⟨A, c, h1, h2, h3, h4⟩ := RepV.plain (t := .sl .str) rfl h
 injection h1 with h1
 refine ⟨A, c, h1, h2, h3, fun hx => ?_⟩
 have hat : ∀ i (h : i < xs.length), ∃ ad, A = some ad ∧ w.cell? (ad.add i) = some (.string ⟨xs[i].toArray⟩) := fun i hi => by
   obtain ⟨ad, es, a1, a2, a3⟩ := h4 i hi
   have a2' : es = [.string ⟨xs[i].toArray⟩] := a2
   subst a2'
   have := (a3 0 _ rfl).1
   have e : (ad.add (i * Ty.sz .str)).add 0 = ad.add i := by show Addr.add (Addr.add ad (i * 1)) 0 = _; rw [Nat.mul_one]; rfl
   rw [e] at this
   exact ⟨ad, a1, this⟩
 have hl : 0 < xs.length := by cases xs with
   | nil => exact absurd rfl hx
   | cons => exact Nat.succ_pos _
 obtain ⟨ad, a1, a2⟩ := hat 0 hl
 obtain ⟨b, o, sp⟩ := ad
 have hsp : sp = none := by
   cases sp with
   | none => rfl
   | some s =>
     have : w.cell? (⟨b, o, some s⟩ : Addr) = none := by
       unfold World.cell?
       split
       · rfl
       · rfl
     rw [show Addr.add ⟨b, o, some s⟩ 0 = ⟨b, o, some s⟩ from rfl, this] at a2
     cases a2
 subst hsp
 refine ⟨b, o, a1, fun j x hj => ?_⟩
 have hj' : j < xs.length := by
   rcases Nat.lt_or_ge j xs.length with h | h
   · exact h
   · rw [List.getElem?_eq_none h] at hj; cases hj
 obtain ⟨ad, b1, b2⟩ := hat j hj'
 rw [a1] at b1
 injection b1 with b1
 subst b1
 rw [List.getElem?_eq_getElem hj'] at hj
 injection hj with hj
 subst hj
 have e : Addr.add ⟨b, o, none⟩ j = ⟨b, o + j, none⟩ := by unfold Addr.add; split <;> simp_all
 rwa [e] at b2
end
end Go.Proofs.YtbekhaioddmliaaGreatDoor


/- strings.Trim and strings.Join, out of the kit's contracts. -/
namespace Go.Proofs.YtbekhaioddmliaaGreatDoor
set_option linter.unusedVariables false
set_option linter.unusedSimpArgs false
open Go Go.RowKit Go.Shelf
def strings_Trim (a b : Str) : Option Str := if a.length ≤ 9223372036854775807 ∧ b.length < 1000000 ∧ b.all (fun c => decide (c.toNat < 128)) = true then some (Lib.trimS a b) else none
theorem z96sound : Sound Tryz.prog GW B0G 102 ⟨[.v .str, .v .str], [], [.v .str], [], Str, fun z => ((z, ()), ()), fun x _ => strings_Trim x.1 x.2.1⟩ := by
 refine Sound.ofExt Tryz.call102 fun M w vs x z hG hM hA hz => ?_
 obtain ⟨a, b, u⟩ := x
 match vs, hA with
 | [v1, v2], hA =>
   obtain ⟨h1, h2, _⟩ := hA
   rw [RepV.str h1, RepV.str h2]
   change strings_Trim a b = some z at hz
   unfold strings_Trim at hz
   split at hz
   · rename_i hc
     injection hz with hz
     subst hz
     refine (Any.strings_Trim_laid Tryz.lays160 (by kernel_rfl) ⟨a.toArray⟩ ⟨b.toArray⟩ w hc.1 (Nat.lt_of_lt_of_le hc.2.1 (by decide)) (ascii_of_all hc.2.2)).mono fun e w' hp => ?_
     exact ⟨[_], hp.1, hp.2, vStr _, trivial⟩
   · cases hz
def strings_Join (l : List Str) (sep : Str) : Option Str := if (Lib.join l sep).length ≤ 140737488355328 ∧ l.length ≤ 140737488355328 then some (Lib.join l sep) else none
theorem z95sound : Sound Tryz.prog GW B0G 93 ⟨[.v τ22, .v .str], [], [.v .str], [], Str, fun z => ((z, ()), ()), fun x _ => strings_Join x.1 x.2.1⟩ := by
 refine Sound.ofExt Tryz.call93 fun M w vs x z hG hM hA hz => ?_
 obtain ⟨l, b, u⟩ := x
 match vs, hA with
 | [v1, v2], hA =>
   obtain ⟨h1, h2, _⟩ := hA
   obtain ⟨A, c, e1, hc1, hc2, hcell⟩ := RepV.strs h1
   rw [e1, RepV.str h2]
   change strings_Join l b = some z at hz
   unfold strings_Join at hz
   split at hz
   · rename_i hc
     injection hz with hz
     subst hz
     rcases Classical.em (l = []) with hl | hl
     · subst hl
       refine (Any.strings_Join_none Tryz.lays156 Tryz.Builder_Extra_156 A c ⟨b.toArray⟩ w).mono fun e w' hp => ?_
       exact ⟨[_], hp.1, hp.2 ▸ Ext.refl w, vStr _, trivial⟩
     · replace hcell := hcell hl
       obtain ⟨bk, o, rfl, hcell⟩ := hcell
       have hm : (l.map fun x => (⟨x.toArray⟩ : ByteArray)).map (·.data.toList) = l := by rw [List.map_map]; exact List.map_id' l
       have hbk : bk < w.heap.size := by
         cases l with
         | nil => exact absurd rfl hl
         | cons x r => exact World.block_lt_of_cell? w _ (hcell 0 x rfl)
       have := Any.strings_Join Tryz.lays156 Tryz.Builder_Extra_156 bk o c (l.map fun x => (⟨x.toArray⟩ : ByteArray)) ⟨b.toArray⟩ w (fun j x hj => by
         rw [List.getElem?_map] at hj
         cases hx : l[j]? with
         | none => rw [hx] at hj; cases hj
         | some y => rw [hx] at hj; injection hj with hj; subst hj; exact hcell j y hx) hbk (by rw [List.length_map]; exact hc.2) (by rw [List.length_map]; exact hc1) (by rw [hm]; exact hc.1)
       rw [hm, List.length_map] at this
       refine this.mono fun e w' hp => ?_
       exact ⟨[_], hp.1, hp.2, vStr _, trivial⟩
   · cases hz
end Go.Proofs.YtbekhaioddmliaaGreatDoor



/- More functions of Go's library, out of the kit's contracts. -/
namespace Go.Proofs.YtbekhaioddmliaaGreatDoor
set_option linter.unusedVariables false
set_option linter.unusedSimpArgs false
open Go Go.RowKit Go.Shelf
def strings_IndexByte (s : Str) (c : UInt8) : Option Int := some (Lib.indexByte s c)
theorem z52sound : Sound Tryz.prog GW B0G 205 ⟨[.v .str, .v .u8], [], [.v τ6], [], Int, fun z => ((z, ()), ()), fun x _ => strings_IndexByte x.1 x.2.1⟩ := by
 refine Sound.ofExt Tryz.call205 fun M w vs x z hG hM hA hz => ?_
 obtain ⟨a, b, u⟩ := x
 match vs, hA with
 | [v1, v2], hA =>
   obtain ⟨h1, h2, _⟩ := hA
   rw [RepV.str h1, RepV.u8 h2]
   have e : Lib.indexByte a b = z := Option.some.inj hz
   subst e
   refine (Tryz.strings_IndexByte ⟨a.toArray⟩ (UInt8.toNat b) w).mono fun e w' hp => ?_
   obtain ⟨rfl, rfl⟩ := hp
   refine ⟨[_], rfl, Ext.refl _, ?_, trivial⟩
   have e2 : ((UInt8.toNat b : Nat) : Int).toNat.toUInt8 = b := by simp
   rw [e2]
   exact vInt .i64 _
theorem vStrs {M : Nat → Nat → Prop} {w w' : World} (hM : ∀ b o, M b o → b < w.heap.size) (xs : List Str) (hl : xs.length ≤ maxLen) (e : TypeId)
   (hw : w' = w.alloc (.cells (xs.map fun x => Value.string ⟨x.toArray⟩).toArray e)) : RepV M w' τ22 xs (.slice (some ⟨w.heap.size, 0, none⟩) xs.length xs.length) := by
 subst hw
 refine RepC.toV rfl ⟨some ⟨w.heap.size, 0, none⟩, xs.length, rfl, Nat.le_refl _, hl, fun i hi => ⟨⟨w.heap.size, 0, none⟩, [.string ⟨xs[i].toArray⟩], rfl, rfl, fun j u hu => ?_⟩⟩
 cases j with
 | succ j => simp at hu
 | zero =>
   simp only [List.getElem?_cons_zero, Option.some.injEq] at hu
   subst hu
   have e2 : (((⟨w.heap.size, 0, none⟩ : Addr).add (i * Ty.sz .str)).add 0) = ⟨w.heap.size, i, none⟩ := by
     show Addr.add (Addr.add _ (i * 1)) 0 = _
     rw [Nat.mul_one]
     unfold Addr.add; split <;> simp_all
   rw [e2, World.cell?_alloc_new]
   refine ⟨?_, fun hM' => ?_⟩
   · simp [hi]
   · exact absurd (hM _ _ hM') (Nat.lt_irrefl _)
def splitS (a b : Str) : List Str := (Lib.splitB ⟨b.toArray⟩ 0 (Lib.countB ⟨a.toArray⟩ ⟨b.toArray⟩) ⟨a.toArray⟩).map fun x => x.data.toList
def strings_Split (a b : Str) : Option τ24 := if a.length < 4294967281 ∧ 1 ≤ b.length ∧ (splitS a b).length = Lib.countB ⟨a.toArray⟩ ⟨b.toArray⟩ + 1 ∧ (splitS a b).length ≤ 4294967296 then some (splitS a b) else none
theorem z86sound : Sound Tryz.prog GW B0G 173 ⟨[.v .str, .v .str], [], [.v τ22], [], List Str, fun z => ((z, ()), ()), fun x _ => strings_Split x.1 x.2.1⟩ := by
 refine Sound.ofExt Tryz.call173 fun M w vs x z hG hM hA hz => ?_
 obtain ⟨a, b, u⟩ := x
 match vs, hA with
 | [v1, v2], hA =>
   obtain ⟨h1, h2, _⟩ := hA
   rw [RepV.str h1, RepV.str h2]
   change strings_Split a b = some z at hz
   unfold strings_Split at hz
   split at hz
   · rename_i hc
     injection hz with hz
     subst hz
     obtain ⟨m, hm⟩ := hG
     refine (Tryz.strings_Split ⟨a.toArray⟩ ⟨b.toArray⟩ m w hc.1 hm hc.2.1).mono fun e w' hp => ?_
     obtain ⟨rfl, hw⟩ := hp
     have hmap : (Lib.splitB ⟨b.toArray⟩ 0 (Lib.countB ⟨a.toArray⟩ ⟨b.toArray⟩) ⟨a.toArray⟩).map Value.string = (splitS a b).map fun x => Value.string ⟨x.toArray⟩ := by
       unfold splitS
       rw [List.map_map]
       rfl
     rw [hmap] at hw
     rw [← hc.2.2.1]
     exact ⟨[_], rfl, hw ▸ (Ext.refl w).alloc _, vStrs hM _ (Nat.le_trans hc.2.2.2 (by decide)) _ hw, trivial⟩
   · cases hz
end Go.Proofs.YtbekhaioddmliaaGreatDoor



/- strings.ContainsFunc of a function of the program, out of the kit's contract. -/
namespace Go.Proofs.YtbekhaioddmliaaGreatDoor
set_option linter.unusedVariables false
set_option linter.unusedSimpArgs false
open Go Go.RowKit Go.Shelf
theorem strings_ContainsFunc_ext {f : FuncId} {p : Int → Option Bool} {q : Nat → Bool} {out : Bool → SV [.v .bool] × BV []} {ho : ∀ z, (out z).1 = (z, ())}
   (hs : Sound Tryz.prog GW B0G f ⟨[.v (.int .i32)], [], [.v .bool], [], Bool, out, fun x _ => p x.1⟩) (hq : ∀ n : Nat, n ≤ 1114111 → p (n : Int) = some (q n)) :
   Sound Tryz.prog GW B0G 117 ⟨[.v .str, .v (.clo f .un)], [], [.v .bool], [], Bool, fun z => ((z, ()), ()), fun x _ => some (decide (0 ≤ Lib.idxFunc q true ⟨x.1.toArray⟩))⟩ := by
 refine Sound.ofExt Tryz.call117 fun M w vs x z hG hM hA hz => ?_
 obtain ⟨a, b, u⟩ := x
 match vs, hA with
 | [v1, v2], hA =>
   obtain ⟨h1, h2, _⟩ := hA
   have h3 := RepV.plain (t := .clo f .un) rfl h2
   obtain ⟨caps, h4, h5⟩ := h3
   injection h4 with h4
   have h6 : caps = #[] := by
     have : caps.toList = [] := h5
     exact Array.toList_eq_nil_iff.1 this
   subst h6
   rw [RepV.str h1, h4]
   injection hz with hz
   subst hz
   refine (Tryz.strings_ContainsFunc_grows f #[] hs.1 q ⟨a.toArray⟩ w fun W n hn hb => ?_).mono fun e w' hp => ?_
   · have hG' : GW W := GW_stable w W (fun _ => False) hG (ExtX.of_ext hb) fun _ h => h.elim
     have := hs.2 M00' W g0 [.int .i32 n] ((n : Int), ()) () (q n) hG' (GW_size hG') { args := ⟨vInt .i32 n, trivial⟩, res := fun r blk h => (by cases h), dom := fun r gx h => (by cases h), inj := fun _ _ _ _ _ h => (by cases h), low := fun _ _ _ h => (by cases h), chg := fun _ _ _ _ h => (by cases h), mlt := fun b o h => h.elim, row := fun _ _ _ h => (by cases h) } (hq n hn)
     refine this.mono fun e w' hp => ?_
     obtain ⟨vs', g', he, hE, _, hF, _⟩ := hp
     refine ⟨?_, hE.ext fun b hb => ?_⟩
     · have hA := hF.args
       rw [ho] at hA
       match vs', hA with
       | [v], ⟨k1, _⟩ =>
         have k2 := RepV.plain (t := .bool) rfl k1
         have k3 : [v] = [.bool (q n)] := k2
         injection k3 with k3
         rw [he, k3]
         rfl
     · obtain ⟨r, x, h, _⟩ := hb
       cases h
   · exact ⟨[_], hp.1, hp.2, vBool _, trivial⟩
end Go.Proofs.YtbekhaioddmliaaGreatDoor



/- How a contract of a function that turns a row of its caller's is said of the machine. -/
namespace Go.Proofs.YtbekhaioddmliaaGreatDoor
set_option linter.unusedVariables false
set_option linter.unusedSimpArgs false
open Go Go.RowKit Go.Shelf
def Els (M : Nat → Nat → Prop) (w : World) (t : Ty) (xs : List t.den) (cs : List Value) : Prop := ∀ i (h : i < xs.length), RepC M w t xs[i] ((cs.drop (i * t.sz)).take t.sz)
def backS (b : Bool) : List Sl := match b with | true => [.row 0] | false => []
def backX : (b : Bool) → SV (backS b)
 | true => ((), ())
 | false => ()
def backV (b : Bool) (v : Value) : Value := match b with | true => v | false => .tuple #[]
def backL (b : Bool) (v : Value) : List Value := match b with | true => [v] | false => []
theorem own_lt {w : World} {base : Nat} {e : TypeId} {sz : Nat} {v : Value} {n : Nat} {cs : List Value} (h : w.ownsRow base e sz v n cs) {b : Nat} (hb : v.ownBlock = some b) : b < w.heap.size := by
 rcases h.2 with ⟨e1, _⟩ | ⟨g, cap, cur, e1, _, hg, _⟩
 · rw [e1] at hb; cases hb
 · rw [e1] at hb
   simp only [Value.ownBlock, Option.some.injEq] at hb
   subst hb
   exact lt_of_map hg
theorem ExtX.mono {X Y : Nat → Prop} {w w' : World} (h : ExtX X w w') (hX : ∀ k, X k → Y k) : ExtX Y w w' := ⟨h.os, h.tape, h.output, h.size, fun k hk hy => h.block k hk fun hx => hy (hX k hx)⟩
theorem Sound.ofRow {P : Program} {G : World → Prop} {B0 : Nat} {f : FuncId} {ps : List Sl} {e : TypeId} {t : Ty} (back : Bool) {F : SV ps → List t.den → Option (List t.den)}
   (hcall : ∀ (args : Array Value) (w : World), (callFunc f args).run P w = .ok (.enter f args) w) (hz : 0 < t.sz)
   (h : ∀ (M : Nat → Nat → Prop) (w : World) (g : Gh) (v0 : Value) (vs : List Value) (x : SV ps) (xs zs : List t.den) (cs : List Value), G w → (∀ b o, M b o → b < w.heap.size) → (∀ b, v0.ownBlock = some b → ∀ o, M b o) →
     w.ownsRow 0 e t.sz v0 xs.length cs → Els M w t xs cs → All2 (RepD0 M w g) (lays id ps x) vs → F x xs = some zs →
     Calls P f (v0 :: vs).toArray w fun en w' => ∃ v' cs', en = .returned (backV back v') ∧ (back = false → v' = v0) ∧ ExtX (fun b => v0.ownBlock = some b) w w' ∧
       w'.ownsRow 0 e t.sz v' zs.length cs' ∧ Els M w t zs cs' ∧ ∀ b, v'.ownBlock = some b → v0.ownBlock = some b ∨ w.heap.size ≤ b) :
   Sound P G B0 f ⟨.row 0 :: ps, [.row e t true], backS back, [.row e t true], List t.den, fun z => (backX back, (z, ())), fun x y => F x.2 y.1⟩ := by
 refine ⟨hcall, fun M w g vs0 x y zs hG hB hF hz' => ?_⟩
 obtain ⟨_, x⟩ := x
 obtain ⟨xs, _⟩ := y
 match vs0, hF.args with
 | v0 :: vs, ⟨h0, hA⟩ =>
   obtain ⟨gx, A, n, c, hg0, hv, hv2⟩ := h0
   obtain ⟨gx', hg', _, cs, hown, hblk, hlo, hels⟩ := hF.res 0 (.row e t true xs) rfl
   replace hg0 : g 0 = some gx := hg0
   rw [hg'] at hg0
   cases hg0
   have hlo : gx.lo = 0 := hlo
   rw [← hv] at hown hblk
   have hM : ∀ b, v0.ownBlock = some b → ∀ o, M b o := fun b hb o => (hF.chg 0 gx b o hg' (by rw [hblk]; exact hb)).2 (by rw [hlo]; exact Nat.zero_le _)
   have honly : ∀ r gy, g r = some gy → r = 0 := fun r gy hr => by have := hF.dom r gy hr; exact Nat.lt_one_iff.1 this
   have hX : ∀ b, Xof g b ↔ v0.ownBlock = some b := fun b => by
     constructor
     · rintro ⟨r, gy, hr, hb⟩
       obtain rfl := honly r gy hr
       rw [hg'] at hr; cases hr
       rw [← hblk]; exact hb
     · intro hb
       exact ⟨0, gx, hg', by rw [hblk]; exact hb⟩
   refine (h M w g v0 vs x xs zs cs hG hF.mlt hM hown hels hA hz').mono fun en w' hp => ?_
   obtain ⟨v', cs', he, hsame, hE, hown', hels', hblk'⟩ := hp
   obtain ⟨g', hgd⟩ : ∃ g' : Gh, g' = fun r => if r = 0 then some ⟨v'.ownBlock, 0, v'⟩ else none := ⟨_, rfl⟩
   have hg0' : g' 0 = some ⟨v'.ownBlock, 0, v'⟩ := by rw [hgd]; rfl
   have hgo : ∀ r gy, g' r = some gy → r = 0 ∧ gy = ⟨v'.ownBlock, 0, v'⟩ := fun r gy hr => by
     rw [hgd] at hr
     by_cases h0 : r = 0
     · subst h0; simp at hr; exact ⟨rfl, hr.symm⟩
     · simp [h0] at hr
   have hnew : ∀ b o, Mafter M g g' b o → (M b o ∧ v0.ownBlock ≠ some b) ∨ v'.ownBlock = some b := fun b o hm => by
     rcases hm with ⟨hm, hx⟩ | ⟨r, gy, hr, hb, _⟩
     · exact .inl ⟨hm, fun hb => hx ((hX b).2 hb)⟩
     · obtain ⟨_, rfl⟩ := hgo r gy hr
       exact .inr hb
   have hstep : Step M w (Mafter M g g') w' := by
     have key : ∀ b o, b < w.heap.size → ¬ M b o → w'.heap[b]? = w.heap[b]? ∧ ¬ Mafter M g g' b o := fun b o hb hm => by
       have hnb : v0.ownBlock ≠ some b := fun h => hm (hM b h o)
       refine ⟨hE.block b hb hnb, fun hm' => ?_⟩
       rcases hnew b o hm' with ⟨h1, _⟩ | h1
       · exact hm h1
       · rcases hblk' b h1 with h2 | h2
         · exact hnb h2
         · omega
     refine ⟨fun ad u hu hm => ?_, fun b es c hb hm => ?_⟩
     · have hlt : ad.block < w.heap.size := World.block_lt_of_cell? w _ hu
       obtain ⟨h1, h2⟩ := key ad.block ad.off hlt hm
       exact ⟨(cell_of_block h1).trans hu, h2⟩
     · obtain ⟨h1, h2⟩ := key b 0 (lt_of_map hb) hm
       exact ⟨h1.trans hb, h2⟩
   obtain ⟨A', c', hv', _⟩ := Row.of_own' hown'
   have hlow : ∀ b, v'.ownBlock = some b → B0 ≤ b ∧ b < w'.heap.size := fun b hb => by
     refine ⟨?_, own_lt hown' hb⟩
     rcases hblk' b hb with h1 | h1
     · exact (hF.low 0 gx b hg' (by rw [hblk]; exact h1)).1
     · omega
   have hrow : RepD0 (Mafter M g g') w' g' (.row 0) v' := ⟨_, A', _, c', hg0', rfl, hv'⟩
   refine ⟨(backL back v'), g', ?_, ⟨hE.os, hE.tape, hE.output, hE.size, fun k hk hx => hE.block k hk fun hb => hx ((hX k).2 hb)⟩, hstep, ?_, fun r gy hr hbm => ?_, fun b hb => ?_⟩
   · rw [he]
     cases back <;> rfl
   · exact {
       args := by cases back with
         | true => exact ⟨hrow, trivial⟩
         | false => trivial
       res := fun r blk hr => by
         cases r with
         | zero =>
           obtain rfl : Blk.row e t true zs = blk := Option.some.inj hr
           exact ⟨_, hg0', hz, cs', hown', rfl, rfl, fun i hi => RepC.step hstep _ _ _ (hels' i hi)⟩
         | succ r => cases hr
       dom := fun r gy hr => by obtain ⟨rfl, _⟩ := hgo r gy hr; exact Nat.zero_lt_one
       inj := fun r r' gy gy' b hr hr' _ _ => by obtain ⟨rfl, _⟩ := hgo r gy hr; obtain ⟨rfl, _⟩ := hgo r' gy' hr'; rfl
       low := fun r gy b hr hb => by obtain ⟨_, rfl⟩ := hgo r gy hr; exact hlow b hb
       chg := fun r gy b o hr hb => ⟨fun _ => by obtain ⟨_, rfl⟩ := hgo r gy hr; exact Nat.zero_le _, fun hle => .inr ⟨r, gy, hr, hb, hle⟩⟩
       mlt := fun b o hm => by
         rcases hnew b o hm with ⟨h1, _⟩ | h1
         · exact Nat.lt_of_lt_of_le (hF.mlt b o h1) hE.size
         · exact (hlow b h1).2
       row := fun r gy b hr hb h0 => by obtain ⟨_, rfl⟩ := hgo r gy hr; exact absurd h0 (Nat.lt_irrefl 0) }
   · obtain rfl := honly r gy hr
     rw [hg'] at hr; cases hr
     rw [← hv] at hbm
     exact hbm.elim (fun h => (own_notBM hown h).elim) (fun h => Bool.noConfusion (show false = true from h))
   · obtain ⟨r, gy, hr, hb⟩ := hb
     obtain ⟨_, rfl⟩ := hgo r gy hr
     rcases hblk' b hb with h1 | h1
     · exact .inl ((hX b).2 h1)
     · exact .inr h1
theorem setCells_size (b : Nat) : ∀ (vs : List Value) (o : Nat) (w : World), (w.setCells b o vs).heap.size = w.heap.size
 | [], _, _ => rfl
 | v :: vs, o, w => by
   show ((w.setCell ⟨b, o, none⟩ v).setCells b (o + 1) vs).heap.size = _
   rw [setCells_size b vs (o + 1)]
   unfold World.setCell
   simp
theorem setCells_tape (b : Nat) : ∀ (vs : List Value) (o : Nat) (w : World), (w.setCells b o vs).tape = w.tape ∧ (w.setCells b o vs).os = w.os ∧ (w.setCells b o vs).output = w.output
 | [], _, _ => ⟨rfl, rfl, rfl⟩
 | v :: vs, o, w => by
   have := setCells_tape b vs (o + 1) (w.setCell ⟨b, o, none⟩ v)
   exact ⟨this.1, this.2.1, this.2.2⟩
theorem setCells_other (b : Nat) : ∀ (vs : List Value) (o : Nat) (w : World) (k : Nat), k ≠ b → (w.setCells b o vs).heap[k]? = w.heap[k]?
 | [], _, _, _, _ => rfl
 | v :: vs, o, w, k, hk => by
   show ((w.setCell ⟨b, o, none⟩ v).setCells b (o + 1) vs).heap[k]? = _
   rw [setCells_other b vs (o + 1) _ k hk]
   unfold World.setCell
   rw [Array.getElem?_modify]
   simp [hk.symm]
theorem setCells_ext {w : World} {q b o : Nat} {vs : List Value} : ExtX (fun k => b = k) w ((w.drewN q).setCells b o vs) := by
 obtain ⟨h1, h2, h3⟩ := setCells_tape b vs o (w.drewN q)
 exact ⟨h2, h1, h3, by rw [setCells_size]; exact Nat.le_refl _, fun k hk hx => setCells_other b vs o (w.drewN q) k fun e => hx e.symm⟩
theorem setCells_block (b : Nat) (e : TypeId) (fz : Nat × Nat) : ∀ (vs : List Value) (o : Nat) (w : World) (cur : Array Value), w.heap[b]? = some (.cells cur e fz) → o + vs.length ≤ cur.size →
   (w.setCells b o vs).heap[b]? = some (.cells (cur.toList.take o ++ vs ++ cur.toList.drop (o + vs.length)).toArray e fz)
 | [], o, w, cur, h, hl => by
   show w.heap[b]? = _
   rw [h]; simp
 | v :: vs, o, w, cur, h, hl => by
   simp only [List.length_cons] at hl
   have h1 : (w.setCell ⟨b, o, none⟩ v).heap[b]? = some (.cells (cur.setIfInBounds o v) e fz) := by
     unfold World.setCell
     rw [Array.getElem?_modify]
     simp [h]
   have ih := setCells_block b e fz vs (o + 1) _ _ h1 (by rw [Array.size_setIfInBounds]; omega)
   show ((w.setCell ⟨b, o, none⟩ v).setCells b (o + 1) vs).heap[b]? = _
   rw [ih]
   have hs : (cur.setIfInBounds o v).toList = cur.toList.set o v := by simp
   rw [hs]
   have ho : o < cur.toList.length := by rw [Array.length_toList]; omega
   congr 3
   apply List.ext_getElem?
   intro k
   rw [List.length_cons]
   simp only [List.getElem?_append, List.length_append, List.length_take, List.length_set, Array.length_toList, List.getElem?_take, List.getElem?_drop, List.getElem?_set, List.length_cons]
   have hm1 : min (o + 1) cur.size = o + 1 := by omega
   have hm0 : min o cur.size = o := by omega
   rw [hm1, hm0]
   by_cases hk : k < o
   · simp [hk, show k < o + 1 by omega, show k < o + 1 + vs.length by omega, show k < o + (vs.length + 1) by omega, show ¬ o = k by omega]
   · by_cases hk2 : k = o
     · subst hk2
       simp [show k < k + 1 + vs.length by omega, show k < cur.size by omega]
     · by_cases hk3 : k < o + 1 + vs.length
       · have : ∃ j, k = o + 1 + j := ⟨k - (o + 1), by omega⟩
         obtain ⟨j, rfl⟩ := this
         simp [show ¬ o + 1 + j < o by omega, show o + 1 + j < o + 1 + vs.length by omega, show o + 1 + j < o + (vs.length + 1) by omega, show ¬ (o + 1 + j < o + 1) by omega, show o + 1 + j - o = j + 1 by omega, show o + 1 + j - (o + 1) = j by omega]
       · simp [show ¬ k < o by omega, show ¬ k < o + 1 + vs.length by omega, show ¬ k < o + (vs.length + 1) by omega, show o + 1 + vs.length + (k - (o + 1 + vs.length)) = k by omega, show o + (vs.length + 1) + (k - (o + (vs.length + 1))) = k by omega, show ¬ o = k by omega]
end Go.Proofs.YtbekhaioddmliaaGreatDoor


/- slices.Delete of strings, out of the kit's contract: it turns a row of its caller's. -/
namespace Go.Proofs.YtbekhaioddmliaaGreatDoor
set_option linter.unusedVariables false
set_option linter.unusedSimpArgs false
open Go Go.RowKit Go.Shelf
theorem els_str {M : Nat → Nat → Prop} {w : World} {xs : List Str} {cs : List Value} (hl : cs.length = xs.length) (h : Els M w .str xs cs) : cs = xs.map fun x => Value.string ⟨x.toArray⟩ := by
 apply List.ext_getElem
 · simpa using hl
 · intro i h1 h2
   have h3 : i < xs.length := by omega
   have := h i h3
   have e : (cs.drop (i * Ty.sz .str)).take (Ty.sz .str) = [cs[i]] := by
     show (cs.drop (i * 1)).take 1 = _
     rw [Nat.mul_one, List.drop_eq_getElem_cons h1]; rfl
   rw [e] at this
   have e2 : [cs[i]] = [Value.string ⟨xs[i].toArray⟩] := this
   rw [List.getElem_map]
   injection e2
theorem str_els {M : Nat → Nat → Prop} {w : World} (xs : List Str) : Els M w .str xs (xs.map fun x => Value.string ⟨x.toArray⟩) := fun i h => by
 have e : ((xs.map fun x => Value.string ⟨x.toArray⟩).drop (i * Ty.sz .str)).take (Ty.sz .str) = [Value.string ⟨xs[i].toArray⟩] := by
   show ((xs.map fun x => Value.string ⟨x.toArray⟩).drop (i * 1)).take 1 = _
   rw [Nat.mul_one, List.drop_eq_getElem_cons (by simpa using h), List.getElem_map]; rfl
 rw [e]
 rfl
end Go.Proofs.YtbekhaioddmliaaGreatDoor



/- slices.Insert of one pair into a row of the call's own: walked. -/
namespace Go.Proofs.YtbekhaioddmliaaGreatDoor
set_option linter.unusedVariables false
set_option linter.unusedSimpArgs false
open Go Go.RowKit Go.Shelf Go.Lib
section
theorem Els.append {M : Nat → Nat → Prop} {w : World} {t : Ty} {xs ys : List t.den} {cs ds : List Value} (hl : cs.length = xs.length * t.sz) (hx : Els M w t xs cs) (hy : Els M w t ys ds) : Els M w t (xs ++ ys) (cs ++ ds) := fun i h => by
 rcases Nat.lt_or_ge i xs.length with hi | hi
 · have hb : i * t.sz + t.sz ≤ xs.length * t.sz := by
     have : (i + 1) * t.sz ≤ xs.length * t.sz := Nat.mul_le_mul_right _ hi
     rw [Nat.add_mul] at this; omega
   rw [List.getElem_append_left hi, List.drop_append_of_le_length (by omega), List.take_append_of_le_length (by rw [List.length_drop]; omega)]
   exact hx i hi
 · have hi2 : i - xs.length < ys.length := by rw [List.length_append] at h; omega
   have hb : xs.length * t.sz ≤ i * t.sz := Nat.mul_le_mul_right _ hi
   have := hy (i - xs.length) hi2
   rw [List.getElem_append_right hi]
   have e : (cs ++ ds).drop (i * t.sz) = ds.drop ((i - xs.length) * t.sz) := by
     rw [List.drop_append, List.drop_eq_nil_of_le (by omega), List.nil_append, hl, Nat.sub_mul]
   rw [e]; exact this
theorem Els.take {M : Nat → Nat → Prop} {w : World} {t : Ty} {xs : List t.den} {cs : List Value} (hx : Els M w t xs cs) (n : Nat) : Els M w t (xs.take n) (cs.take (n * t.sz)) := fun i h => by
 rw [List.length_take] at h
 have hb : i * t.sz + t.sz ≤ n * t.sz := by
   have : (i + 1) * t.sz ≤ n * t.sz := Nat.mul_le_mul_right _ (by omega)
   rw [Nat.add_mul] at this; omega
 rw [List.getElem_take, List.drop_take, List.take_take, Nat.min_eq_left (by omega)]
 exact hx i (by omega)
theorem Els.drop {M : Nat → Nat → Prop} {w : World} {t : Ty} {xs : List t.den} {cs : List Value} (hx : Els M w t xs cs) (n : Nat) : Els M w t (xs.drop n) (cs.drop (n * t.sz)) := fun i h => by
 rw [List.length_drop] at h
 rw [List.getElem_drop, List.drop_drop, ← Nat.add_mul]
 exact hx (n + i) (by omega)
end
end Go.Proofs.YtbekhaioddmliaaGreatDoor



/- slices.Grow of the nil slice, as a meaning: an own row without elements. -/
namespace Go.Proofs.YtbekhaioddmliaaGreatDoor
set_option linter.unusedVariables false
set_option linter.unusedSimpArgs false
open Go Go.RowKit Go.Shelf
def growF (t : Ty) (n : Int) : Option (List t.den) := if 0 ≤ n ∧ n * ((24 * t.sz : Nat) : Int) ≤ 140737488355328 then some [] else none
theorem own_base {w : World} {base : Nat} {e : TypeId} {sz : Nat} {v : Value} {n : Nat} {cs : List Value} (h : w.ownsRow base e sz v n cs) : w.ownsRow 0 e sz v n cs := by
 refine ⟨h.1, ?_⟩
 rcases h.2 with h0 | ⟨g, cap, cur, h1, _, h2⟩
 · exact .inl h0
 · exact .inr ⟨g, cap, cur, h1, Nat.zero_le _, h2⟩
theorem Sound.ofNew {P : Program} {G : World → Prop} {B0 : Nat} {f : FuncId} {ps : List Sl} {e : TypeId} {t : Ty} {ex : Bool} {F : SV ps → Option (List t.den)}
   (hcall : ∀ (args : Array Value) (w : World), (callFunc f args).run P w = .ok (.enter f args) w) (hz : 0 < t.sz)
   (h : ∀ (M : Nat → Nat → Prop) (w : World) (vs : List Value) (x : SV ps) (zs : List t.den), G w → (∀ b o, M b o → b < w.heap.size) → All2 (RepD0 M w g0) (lays id ps x) vs → F x = some zs →
     Calls P f vs.toArray w fun en w' => ∃ u cs, en = .returned u ∧ w'.ownsRow w.heap.size e t.sz u zs.length cs ∧ Ext w w' ∧ ∀ M', Step M w M' w' → Els M' w' t zs cs) :
   Sound P G B0 f ⟨ps, [], [.row 0], [.row e t ex], List t.den, fun z => (((), ()), (z, ())), fun x _ => F x⟩ := by
 refine ⟨hcall, fun M w g vs x y z hG hB hF hz' => ?_⟩
 have hg : g = g0 := by
   funext r
   cases hr : g r with
   | none => rfl
   | some gx => exact absurd (hF.dom r gx hr) (Nat.not_lt_zero _)
 subst hg
 refine (h M w vs x z hG hF.mlt hF.args hz').mono fun en w' hp => ?_
 obtain ⟨u, cs, he, hown, hE, hels⟩ := hp
 obtain ⟨g', hgd⟩ : ∃ g' : Gh, g' = fun r => if r = 0 then some ⟨u.ownBlock, loOf t ex z.length, u⟩ else none := ⟨_, rfl⟩
 have hg0' : g' 0 = some ⟨u.ownBlock, loOf t ex z.length, u⟩ := by rw [hgd]; rfl
 have hgo : ∀ r gy, g' r = some gy → r = 0 ∧ gy = ⟨u.ownBlock, loOf t ex z.length, u⟩ := fun r gy hr => by
   rw [hgd] at hr
   by_cases h0 : r = 0
   · subst h0; simp at hr; exact ⟨rfl, hr.symm⟩
   · simp [h0] at hr
 have hblk : ∀ b, u.ownBlock = some b → w.heap.size ≤ b ∧ b < w'.heap.size := fun b hb => by
   rcases hown.2 with ⟨e1, _⟩ | ⟨gg, cap, cur, e1, h1, h2, _⟩
   · rw [e1] at hb; cases hb
   · rw [e1] at hb
     simp only [Value.ownBlock, Option.some.injEq] at hb
     subst hb
     exact ⟨h1, lt_of_map h2⟩
 have hM : ∀ b o, Mafter M g0 g' b o → M b o ∨ u.ownBlock = some b := fun b o hm => by
   rcases hm with ⟨hm, _⟩ | ⟨r, gy, hr, hb, _⟩
   · exact .inl hm
   · obtain ⟨_, rfl⟩ := hgo r gy hr; exact .inr hb
 have hstep : Step M w (Mafter M g0 g') w' := by
   have key : ∀ b o, b < w.heap.size → ¬ M b o → w'.heap[b]? = w.heap[b]? ∧ ¬ Mafter M g0 g' b o := fun b o hb hm => by
     refine ⟨hE.block b hb, fun hm' => ?_⟩
     rcases hM b o hm' with h1 | h1
     · exact hm h1
     · have := (hblk b h1).1; omega
   refine ⟨fun ad v hu hm => ?_, fun b es c hb hm => ?_⟩
   · obtain ⟨h1, h2⟩ := key ad.block ad.off (World.block_lt_of_cell? w _ hu) hm
     exact ⟨(cell_of_block h1).trans hu, h2⟩
   · obtain ⟨h1, h2⟩ := key b 0 (lt_of_map hb) hm
     exact ⟨h1.trans hb, h2⟩
 obtain ⟨A', c', hv', _⟩ := Row.of_own' hown
 have hrow : RepD0 (Mafter M g0 g') w' g' (.row 0) u := ⟨_, A', _, c', hg0', rfl, hv'⟩
 refine ⟨[u], g', he, ExtX.of_ext hE, hstep, ?_, fun r gy hr _ => (by cases hr), fun b hb => ?_⟩
 · exact {
     args := ⟨hrow, trivial⟩
     res := fun r blk hr => by
       cases r with
       | zero =>
         obtain rfl : Blk.row e t ex z = blk := Option.some.inj hr
         refine ⟨_, hg0', hz, cs, own_base hown, rfl, by cases ex <;> rfl, fun i hi => ?_⟩
         exact hels _ hstep i hi
       | succ r => cases hr
     dom := fun r gy hr => by obtain ⟨rfl, _⟩ := hgo r gy hr; exact Nat.zero_lt_one
     inj := fun r r' gy gy' b hr hr' _ _ => by obtain ⟨rfl, _⟩ := hgo r gy hr; obtain ⟨rfl, _⟩ := hgo r' gy' hr'; rfl
     low := fun r gy b hr hb => by
       obtain ⟨_, rfl⟩ := hgo r gy hr
       obtain ⟨h1, h2⟩ := hblk b hb
       exact ⟨Nat.le_trans hB h1, h2⟩
     chg := fun r gy b o hr hb => by
       obtain ⟨rfl, rfl⟩ := hgo r gy hr
       constructor
       · rintro (⟨h1, _⟩ | ⟨r', gy', h1, h2, h3⟩)
         · have := hF.mlt b o h1; have := (hblk b hb).1; omega
         · obtain ⟨_, rfl⟩ := hgo r' gy' h1; exact h3
       · exact fun hle => .inr ⟨0, _, hr, hb, hle⟩
     mlt := fun b o hm => by
       rcases hM b o hm with h1 | h1
       · exact Nat.lt_of_lt_of_le (hF.mlt b o h1) hE.size
       · exact (hblk b h1).2
     row := fun r gy b hr hb h0 es c hc => by
       obtain ⟨_, rfl⟩ := hgo r gy hr
       exact (own_row hown hb).2 es c hc }
 · obtain ⟨r, gy, hr, hb⟩ := hb
   obtain ⟨_, rfl⟩ := hgo r gy hr
   exact .inr (hblk b hb).1
theorem Sound.ofGrow {P : Program} {G : World → Prop} {B0 : Nat} {f : FuncId} {e : TypeId} {t : Ty}
   (hcall : ∀ (args : Array Value) (w : World), (callFunc f args).run P w = .ok (.enter f args) w) (hz : 0 < t.sz)
   (h : ∀ (n : Nat) (w : World), n * (24 * t.sz) ≤ 140737488355328 → Calls P f #[.slice none 0 0, .int .i64 n] w fun en w' => ∃ u, en = .returned u ∧ w'.ownsRow w.heap.size e t.sz u 0 [] ∧ Ext w w') :
   Sound P G B0 f ⟨[.nilS, .v .i64], [], [.row 0], [.row e t false], List t.den, fun z => (((), ()), (z, ())), fun x _ => growF t x.2.1⟩ := by
 refine Sound.ofNew (ps := [.nilS, .v .i64]) (ex := false) (F := fun x => growF t x.2.1) hcall hz fun M w vs x zs hG hM hA hz' => ?_
 obtain ⟨_, n, _⟩ := x
 match vs, hA with
 | [v0, v1], ⟨h0, h1, _⟩ =>
   have h0 : v0 = .slice none 0 0 := h0
   have h1 : v1 = .int .i64 n := RepV.int h1
   subst h0 h1
   change growF t n = some zs at hz'
   unfold growF at hz'
   split at hz'
   · rename_i hn
     cases hz'
     obtain ⟨hn1, hn2⟩ := hn
     obtain ⟨k, rfl⟩ : ∃ k : Nat, n = (k : Int) := ⟨Int.toNat n, (Int.toNat_of_nonneg hn1).symm⟩
     have hk : k * (24 * t.sz) ≤ 140737488355328 := Int.ofNat_le.1 (by rw [Int.natCast_mul]; exact hn2)
     refine (h k w hk).mono fun en w' hp => ?_
     obtain ⟨u, he, hown, hE⟩ := hp
     exact ⟨u, [], he, hown, hE, fun M' _ i hi => absurd hi (by simp)⟩
   · cases hz'
end Go.Proofs.YtbekhaioddmliaaGreatDoor


/- slices.Compact of strings, out of the kit's contract: it turns a row of its caller's. -/
namespace Go.Proofs.YtbekhaioddmliaaGreatDoor
set_option linter.unusedVariables false
set_option linter.unusedSimpArgs false
open Go Go.RowKit Go.Shelf
def slices_Compact_string_string (xs : List Str) : Option τ24 := some (Lib.compact xs)
theorem compact_le (xs : List Str) : (Lib.compact xs).length ≤ xs.length := Lib.compact_length_le xs
theorem z9sound : Sound Tryz.prog GW B0G 72 ⟨[.row 0], [.row 9 .str true], [.row 0], [.row 9 .str true], List Str, fun z => (((), ()), (z, ())), fun x y => slices_Compact_string_string y.1⟩ := by
 refine Sound.ofRow (ps := []) (t := .str) true (F := fun x xs => slices_Compact_string_string xs) Tryz.call72 (by decide) fun M w g v0 vs x xs zs cs hG hMl hM hown hels hA hz => ?_
 match vs, hA with
 | [], hA =>
     change slices_Compact_string_string xs = some zs at hz
     unfold slices_Compact_string_string at hz
     injection hz with hz
     have hl := hown.1
     have hl' : cs.length = xs.length := by rw [hl]; exact Nat.mul_one _
     have hcs := els_str hl' hels
     rcases hown.2 with ⟨e1, e2⟩ | ⟨b, cap, cur, e1, _, hg, hle, hmax, hsz, htk⟩
     · have hx0 : xs = [] := List.eq_nil_of_length_eq_zero e2
       subst hx0 e1
       refine (Tryz.slices_Compact_string_empty none 0 w).mono fun e w' hp => ?_
       obtain ⟨rfl, rfl⟩ := hp
       subst hz
       exact ⟨_, [], rfl, fun h => (by cases h), ExtX.refl _ _, ⟨rfl, .inl ⟨rfl, rfl⟩⟩, fun i h => absurd h (Nat.not_lt_zero _), fun b hb => .inl hb⟩
     · subst e1
       have hsz' : cur.size = cap := by rw [hsz]; exact Nat.mul_one _
       have htk' : cur.toList.take xs.length = xs.map fun x => Value.string ⟨x.toArray⟩ := by rw [← hcs, ← htk]; congr 1; exact (Nat.mul_one _).symm
       have hcell : ∀ k, k < xs.length → w.cell? ⟨b, 0 + k, none⟩ = some (.string ⟨(xs[k]?.getD []).toArray⟩) := fun k hk => by
         have h1 : cur.toList[k]? = some (Value.string ⟨xs[k].toArray⟩) := by
           have := congrArg (fun l => l[k]?) htk'
           simp only [List.getElem?_take, hk, if_true, List.getElem?_map, List.getElem?_eq_getElem hk, Option.map_some] at this
           exact this
         rw [Nat.zero_add, List.getElem?_eq_getElem hk]
         unfold World.cell?
         rw [hg]
         simpa using h1
       refine (Tryz.slices_Compact_string_cells b 0 xs.length cap (fun k => ⟨(xs[k]?.getD []).toArray⟩) w (by unfold maxLen at hmax; omega) hle hcell (fun k hk => by unfold World.frozen?; rw [hg]; simp)).mono fun e w' hp => ?_
       obtain ⟨rfl, q, rfl⟩ := hp
       have hstrs : Lib.strsOf (fun k => (⟨(xs[k]?.getD []).toArray⟩ : ByteArray)) xs.length = xs := by
         apply List.ext_getElem
         · simp [Lib.strsOf]
         · intro k h1 h2
           simp [Lib.strsOf, h2]
       rw [hstrs]
       rw [hz]
       have hzle : zs.length ≤ xs.length := by rw [← hz]; exact compact_le xs
       have hnew : (zs ++ List.replicate (xs.length - zs.length) []).length = xs.length := by
         simp only [List.length_append, List.length_replicate]; omega
       have hblk := setCells_block b 9 (0, 0) ((zs ++ List.replicate (xs.length - zs.length) []).map encStr) 0 (w.drewN q) cur hg (by rw [List.length_map, hnew]; omega)
       refine ⟨_, zs.map fun x => Value.string ⟨x.toArray⟩, rfl, fun h => (by cases h), setCells_ext.mono (fun k hk => by simpa [Value.ownBlock] using hk), ⟨by rw [List.length_map]; exact (Nat.mul_one _).symm, .inr ⟨b, cap, _, rfl, Nat.zero_le _, hblk, by omega, hmax, ?_, ?_⟩⟩, str_els _, fun b hb => .inl hb⟩
       · have hcl : cur.toList.length = cap := by rw [Array.length_toList]; exact hsz'
         simp only [List.take_zero, List.nil_append, List.size_toArray, List.length_append, List.length_drop, List.length_map, List.length_replicate, hcl]
         show _ = cap * 1
         omega
       · show ((List.take 0 cur.toList ++ _ ++ _).toArray.toList).take (zs.length * 1) = _
         rw [Nat.mul_one, List.take_zero, List.nil_append, List.map_append, List.append_assoc]
         have e0 : zs.map encStr = zs.map fun x => Value.string ⟨x.toArray⟩ := rfl
         rw [e0]
         have : zs.length = (zs.map fun x => Value.string ⟨x.toArray⟩).length := by simp
         rw [this]
         simp
end Go.Proofs.YtbekhaioddmliaaGreatDoor



/- The types that the printed functions use, as the program has them. -/
namespace Go.Proofs.YtbekhaioddmliaaGreatDoor
open Go Go.RowKit
set_option maxRecDepth 100000
abbrev z96sg (f : SV [.v .str, .v .str] → BV [] → Option (Str)) : AF := { ps := [.v .str, .v .str], bs := [], rs := [.v .str], cs := [], R := Str, out := fun z => ((z, ()), ()), f := f }
abbrev z95sg (f : SV [.v τ22, .v .str] → BV [] → Option (Str)) : AF := { ps := [.v τ22, .v .str], bs := [], rs := [.v .str], cs := [], R := Str, out := fun z => ((z, ()), ()), f := f }
abbrev z86sg (f : SV [.v .str, .v .str] → BV [] → Option τ24) : AF := { ps := [.v .str, .v .str], bs := [], rs := [.v τ22], cs := [], R := List Str, out := fun z => ((z, ()), ()), f := f }
noncomputable abbrev z86g : AF := z86sg fun x _ => strings_Split x.1 x.2.1
abbrev z52sg (f : SV [.v .str, .v .u8] → BV [] → Option (Int)) : AF := { ps := [.v .str, .v .u8], bs := [], rs := [.v τ6], cs := [], R := Int, out := fun z => ((z, ()), ()), f := f }
abbrev z21sg (f : SV [.row 0] → BV [.row 9 .str true] → Option τ24) : AF := { ps := [.row 0], bs := [.row 9 .str true], rs := [], cs := [.row 9 .str true, .none], R := List Str, out := fun z => ((), (z, (), ())), f := f }
abbrev z9sg (f : SV [.row 0] → BV [.row 9 .str true] → Option τ24) : AF := { ps := [.row 0], bs := [.row 9 .str true], rs := [.row 0], cs := [.row 9 .str true], R := List Str, out := fun z => (((), ()), (z, ())), f := f }
abbrev z71sg (f : SV [.mref 0] → BV [.map .bool] → Option (List τ23)) : AF := { ps := [.mref 0], bs := [.map .bool], rs := [.fnc 123 [1]], cs := [.map .bool, .cells [.mref 0]], R := List τ23, out := fun z => (((), ()), (z, ((), ()), ())), f := f }
abbrev z45sg (f : SV [.fnc 123 [0]] → BV [.cells [.mref 1], .map .bool] → Option ((List τ23) × List Str)) : AF := { ps := [.fnc 123 [0]], bs := [.cells [.mref 1], .map .bool], rs := [.row 2], cs := [.cells [.mref 1], .map .bool, .row 9 .str false], R := (List τ23) × List Str, out := fun z => (((), ()), (((), ()), z.1, z.2, ())), f := f }
abbrev z34sg (f : SV [.nilS, .v τ6] → BV [] → Option τ21) : AF := { ps := [.nilS, .v τ6], bs := [], rs := [.row 0], cs := [.row 102 τ3 false], R := List τ2, out := fun z => (((), ()), (z, ())), f := f }
def slices_Grow_api_Attr (n : Int) : Option τ21 := growF τ3 n
theorem slices_Grow_api_Attr_et : ElemT Tryz.prog 57 102 6 96 := ElemT.mk_ Tryz.underlying57 (z := mkV τ3 (zeroC τ3)) (by kernel_rfl) rfl (by decide) (by decide)
set_option maxHeartbeats 400000 in
theorem slices_Grow_api_Attr_calls (n : Nat) (w : World) (hn : n * 144 ≤ 140737488355328) :
   Calls Tryz.prog 181 #[.slice none 0 0, .int .i64 n] w fun e w' => ∃ u, e = .returned u ∧ w'.ownsRow w.heap.size 102 6 u 0 [] ∧ Ext w w' := by
 rcases Nat.eq_zero_or_pos n with rfl | h0
 · go_enter Tryz.func181, Tryz.ntmps181
   go_wp2_with fail
   go_ret
   exact ⟨_, rfl, World.ownsRow_nil _ _ _ _, Ext.refl _⟩
 · go_enter Tryz.func181, Tryz.ntmps181
   go_wp2_with (at_builtin; refine wp_app_make (w0 := w) rfl slices_Grow_api_Attr_et Tryz.underlying3 rfl rfl rfl (Ext.refl _) h0 (by omega) ?_; intro cap w1 hc ho hE)
   go_ret
   exact ⟨_, rfl, ho, hE⟩
theorem z34sound : Sound Tryz.prog GW B0G 181 (z34sg fun x y => slices_Grow_api_Attr x.2.1) :=
 Sound.ofGrow Tryz.call181 (by decide) fun n w hn => slices_Grow_api_Attr_calls n w (by have : n * (24 * Ty.sz τ3) = n * 144 := rfl; omega)
theorem tyOk_int : TyOk Tryz.prog 3 τ6 := ⟨_, by kernel_rfl, Tryz.underlying3, rfl⟩
theorem tyOk_bool : TyOk Tryz.prog 4 .bool := ⟨_, by kernel_rfl, Tryz.underlying4, rfl⟩
theorem tyOk_string : TyOk Tryz.prog 9 .str := ⟨_, by kernel_rfl, Tryz.underlying9, rfl⟩
theorem tyOk_ABapiDSetting : TyOk Tryz.prog 22 τ9 := ⟨_, by kernel_rfl, Tryz.underlying22, rfl⟩
theorem tyOk_ABapiDCondition : TyOk Tryz.prog 23 (.sl τ8) := ⟨_, by kernel_rfl, Tryz.underlying23, rfl⟩
theorem tyOk_ABapiDPlatform : TyOk Tryz.prog 24 τ28 := ⟨_, by kernel_rfl, Tryz.underlying24, rfl⟩
theorem tyOk_ABapiDTransition : TyOk Tryz.prog 26 τ20 := ⟨_, by kernel_rfl, Tryz.underlying26, rfl⟩
theorem tyOk_smithyardSapiDWorld : TyOk Tryz.prog 28 τ4 := ⟨_, by kernel_rfl, Tryz.underlying28, rfl⟩
theorem tyOk_ABstring : TyOk Tryz.prog 29 τ22 := ⟨_, by kernel_rfl, Tryz.underlying29, rfl⟩
theorem tyOk_ABapiDCase : TyOk Tryz.prog 30 (.sl τ3) := ⟨_, by kernel_rfl, Tryz.underlying30, rfl⟩
theorem tyOk_smithyardSapiDValue : TyOk Tryz.prog 32 τ15 := ⟨_, by kernel_rfl, Tryz.underlying32, rfl⟩
theorem tyOk_ABapiDPair : TyOk Tryz.prog 33 τ0 := ⟨_, by kernel_rfl, Tryz.underlying33, rfl⟩
theorem tyOk_smithyardSapiDPlatform : TyOk Tryz.prog 35 τ16 := ⟨_, by kernel_rfl, Tryz.underlying35, rfl⟩
theorem tyOk_smithyardSapiDTransition : TyOk Tryz.prog 43 (.pr .str (.pr τ0 τ22)) := ⟨_, by kernel_rfl, Tryz.underlying43, rfl⟩
theorem tyOk_ABABapiDPair : TyOk Tryz.prog 44 (.sl τ0) := ⟨_, by kernel_rfl, Tryz.underlying44, rfl⟩
theorem tyOk_smithyardSapiDPair : TyOk Tryz.prog 53 (.pr .str .str) := ⟨_, by kernel_rfl, Tryz.underlying53, rfl⟩
theorem tyOk_ABapiDAttr : TyOk Tryz.prog 57 (.sl τ3) := ⟨_, by kernel_rfl, Tryz.underlying57, rfl⟩
theorem tyOk_smithyardSapiDTarget : TyOk Tryz.prog 59 τ13 := ⟨_, by kernel_rfl, Tryz.underlying59, rfl⟩
theorem tyOk_ABapiDTarget : TyOk Tryz.prog 63 (.sl τ13) := ⟨_, by kernel_rfl, Tryz.underlying63, rfl⟩
theorem tyOk_smithyardSapiDPackage : TyOk Tryz.prog 65 (.pr .str (.sl τ13)) := ⟨_, by kernel_rfl, Tryz.underlying65, rfl⟩
theorem tyOk_smithyardSapiDCase : TyOk Tryz.prog 78 τ3 := ⟨_, by kernel_rfl, Tryz.underlying78, rfl⟩
theorem tyOk_smithyardSapiDSetting : TyOk Tryz.prog 81 (.pr .str τ22) := ⟨_, by kernel_rfl, Tryz.underlying81, rfl⟩
theorem tyOk_smithyardSapiDAttr : TyOk Tryz.prog 102 τ3 := ⟨_, by kernel_rfl, Tryz.underlying102, rfl⟩
theorem tyOk_mapAstringBbool : TyOk Tryz.prog 105 (.mp .bool) := ⟨_, by kernel_rfl, Tryz.underlying105, rfl⟩
theorem tyOk_smithyardSapiDCondition : TyOk Tryz.prog 108 τ8 := ⟨_, by kernel_rfl, Tryz.underlying108, rfl⟩
theorem tyOk_uint : TyOk Tryz.prog 142 (.int .u64) := ⟨_, by kernel_rfl, Tryz.underlying142, rfl⟩
theorem tyOk_ABABapiDAttr : TyOk Tryz.prog 204 (.sl (.sl τ3)) := ⟨_, by kernel_rfl, Tryz.underlying204, rfl⟩
def tyT : TypeId → Option Ty := fun T =>
 match T with
 | 3 => some τ6
 | 4 => some .bool
 | 9 => some .str
 | 22 => some τ9
 | 23 => some (.sl τ8)
 | 24 => some τ28
 | 26 => some τ20
 | 28 => some τ4
 | 29 => some τ22
 | 30 => some (.sl τ3)
 | 32 => some τ15
 | 33 => some τ0
 | 35 => some τ16
 | 43 => some (.pr .str (.pr τ0 τ22))
 | 44 => some (.sl τ0)
 | 53 => some (.pr .str .str)
 | 57 => some (.sl τ3)
 | 59 => some τ13
 | 63 => some (.sl τ13)
 | 65 => some (.pr .str (.sl τ13))
 | 78 => some τ3
 | 81 => some (.pr .str τ22)
 | 102 => some τ3
 | 105 => some (.mp .bool)
 | 108 => some τ8
 | 142 => some (.int .u64)
 | 204 => some (.sl (.sl τ3))
 | _ => none
theorem tyT_ok : ∀ T t, tyT T = some t → TyOk Tryz.prog T t := by
 intro T t h
 unfold tyT at h
 split at h
 · cases h; exact tyOk_int
 · cases h; exact tyOk_bool
 · cases h; exact tyOk_string
 · cases h; exact tyOk_ABapiDSetting
 · cases h; exact tyOk_ABapiDCondition
 · cases h; exact tyOk_ABapiDPlatform
 · cases h; exact tyOk_ABapiDTransition
 · cases h; exact tyOk_smithyardSapiDWorld
 · cases h; exact tyOk_ABstring
 · cases h; exact tyOk_ABapiDCase
 · cases h; exact tyOk_smithyardSapiDValue
 · cases h; exact tyOk_ABapiDPair
 · cases h; exact tyOk_smithyardSapiDPlatform
 · cases h; exact tyOk_smithyardSapiDTransition
 · cases h; exact tyOk_ABABapiDPair
 · cases h; exact tyOk_smithyardSapiDPair
 · cases h; exact tyOk_ABapiDAttr
 · cases h; exact tyOk_smithyardSapiDTarget
 · cases h; exact tyOk_ABapiDTarget
 · cases h; exact tyOk_smithyardSapiDPackage
 · cases h; exact tyOk_smithyardSapiDCase
 · cases h; exact tyOk_smithyardSapiDSetting
 · cases h; exact tyOk_smithyardSapiDAttr
 · cases h; exact tyOk_mapAstringBbool
 · cases h; exact tyOk_smithyardSapiDCondition
 · cases h; exact tyOk_uint
 · cases h; exact tyOk_ABABapiDAttr
 · cases h
def elT : TypeId → Option (TypeId × Ty) := fun T =>
 match T with
 | 22 => some (81, (.pr .str τ22))
 | 23 => some (108, τ8)
 | 24 => some (35, τ16)
 | 26 => some (43, (.pr .str (.pr τ0 τ22)))
 | 29 => some (9, .str)
 | 30 => some (78, τ3)
 | 33 => some (53, (.pr .str .str))
 | 44 => some (33, τ0)
 | 57 => some (102, τ3)
 | 63 => some (59, τ13)
 | 204 => some (57, (.sl τ3))
 | _ => none
theorem elT_ok : ∀ T e t, elT T = some (e, t) → ElOk Tryz.prog T e t := by
 intro T e t h
 unfold elT at h
 split at h
 · cases h; exact ⟨tyOk_smithyardSapiDSetting, 40, ElemT.mk_ Tryz.underlying22 (z := mkV (.pr .str τ22) (zeroC (.pr .str τ22))) (by kernel_rfl) rfl (by decide) (by decide), by decide⟩
 · cases h; exact ⟨tyOk_smithyardSapiDCondition, 64, ElemT.mk_ Tryz.underlying23 (z := mkV τ8 (zeroC τ8)) (by kernel_rfl) rfl (by decide) (by decide), by decide⟩
 · cases h; exact ⟨tyOk_smithyardSapiDPlatform, 40, ElemT.mk_ Tryz.underlying24 (z := mkV τ16 (zeroC τ16)) (by kernel_rfl) rfl (by decide) (by decide), by decide⟩
 · cases h; exact ⟨tyOk_smithyardSapiDTransition, 64, ElemT.mk_ Tryz.underlying26 (z := mkV (.pr .str (.pr τ0 τ22)) (zeroC (.pr .str (.pr τ0 τ22)))) (by kernel_rfl) rfl (by decide) (by decide), by decide⟩
 · cases h; exact ⟨tyOk_string, 16, ElemT.mk_ Tryz.underlying29 (z := mkV .str (zeroC .str)) (by kernel_rfl) rfl (by decide) (by decide), by decide⟩
 · cases h; exact ⟨tyOk_smithyardSapiDCase, 96, ElemT.mk_ Tryz.underlying30 (z := mkV τ3 (zeroC τ3)) (by kernel_rfl) rfl (by decide) (by decide), by decide⟩
 · cases h; exact ⟨tyOk_smithyardSapiDPair, 32, ElemT.mk_ Tryz.underlying33 (z := mkV (.pr .str .str) (zeroC (.pr .str .str))) (by kernel_rfl) rfl (by decide) (by decide), by decide⟩
 · cases h; exact ⟨tyOk_ABapiDPair, 24, ElemT.mk_ Tryz.underlying44 (z := mkV τ0 (zeroC τ0)) (by kernel_rfl) rfl (by decide) (by decide), by decide⟩
 · cases h; exact ⟨tyOk_smithyardSapiDAttr, 96, ElemT.mk_ Tryz.underlying57 (z := mkV τ3 (zeroC τ3)) (by kernel_rfl) rfl (by decide) (by decide), by decide⟩
 · cases h; exact ⟨tyOk_smithyardSapiDTarget, 56, ElemT.mk_ Tryz.underlying63 (z := mkV τ13 (zeroC τ13)) (by kernel_rfl) rfl (by decide) (by decide), by decide⟩
 · cases h; exact ⟨tyOk_ABapiDAttr, 24, ElemT.mk_ Tryz.underlying204 (z := mkV (.sl τ3) (zeroC (.sl τ3))) (by kernel_rfl) rfl (by decide) (by decide), by decide⟩
 · cases h
def fldT : TypeId → Nat → Option (Nat × Ty) := fun T f =>
 match T, f with
 | 28, 0 => some (0, τ9)
 | 28, 1 => some (1, (.sl τ8))
 | 28, 4 => some (4, τ20)
 | 32, 0 => some (0, τ6)
 | 32, 1 => some (1, .str)
 | 32, 2 => some (2, τ6)
 | 32, 3 => some (3, τ22)
 | 32, 4 => some (4, (.sl τ3))
 | 35, 0 => some (0, .str)
 | 35, 1 => some (1, τ0)
 | 43, 0 => some (0, .str)
 | 43, 1 => some (1, τ0)
 | 43, 2 => some (2, τ22)
 | 53, 0 => some (0, .str)
 | 53, 1 => some (1, .str)
 | 59, 0 => some (0, .str)
 | 59, 1 => some (1, .str)
 | 59, 2 => some (2, (.sl τ3))
 | 65, 0 => some (0, .str)
 | 65, 1 => some (1, (.sl τ13))
 | 78, 0 => some (0, .str)
 | 78, 1 => some (1, τ15)
 | 81, 0 => some (0, .str)
 | 81, 1 => some (1, τ22)
 | 102, 0 => some (0, .str)
 | 102, 1 => some (1, τ15)
 | 108, 0 => some (0, .str)
 | 108, 1 => some (1, τ0)
 | 108, 2 => some (2, τ0)
 | _, _ => none
theorem fldT_ok : ∀ T f off t, fldT T f = some (off, t) → FldOk Tryz.prog T f off t := by
 intro T f off t h
 unfold fldT at h
 split at h
 · cases h; exact ⟨_, _, Tryz.underlying28, rfl, rfl, tyOk_ABapiDSetting, by decide⟩
 · cases h; exact ⟨_, _, Tryz.underlying28, rfl, rfl, tyOk_ABapiDCondition, by decide⟩
 · cases h; exact ⟨_, _, Tryz.underlying28, rfl, rfl, tyOk_ABapiDTransition, by decide⟩
 · cases h; exact ⟨_, _, Tryz.underlying32, rfl, rfl, tyOk_int, by decide⟩
 · cases h; exact ⟨_, _, Tryz.underlying32, rfl, rfl, tyOk_string, by decide⟩
 · cases h; exact ⟨_, _, Tryz.underlying32, rfl, rfl, tyOk_int, by decide⟩
 · cases h; exact ⟨_, _, Tryz.underlying32, rfl, rfl, tyOk_ABstring, by decide⟩
 · cases h; exact ⟨_, _, Tryz.underlying32, rfl, rfl, tyOk_ABapiDCase, by decide⟩
 · cases h; exact ⟨_, _, Tryz.underlying35, rfl, rfl, tyOk_string, by decide⟩
 · cases h; exact ⟨_, _, Tryz.underlying35, rfl, rfl, tyOk_ABapiDPair, by decide⟩
 · cases h; exact ⟨_, _, Tryz.underlying43, rfl, rfl, tyOk_string, by decide⟩
 · cases h; exact ⟨_, _, Tryz.underlying43, rfl, rfl, tyOk_ABapiDPair, by decide⟩
 · cases h; exact ⟨_, _, Tryz.underlying43, rfl, rfl, tyOk_ABstring, by decide⟩
 · cases h; exact ⟨_, _, Tryz.underlying53, rfl, rfl, tyOk_string, by decide⟩
 · cases h; exact ⟨_, _, Tryz.underlying53, rfl, rfl, tyOk_string, by decide⟩
 · cases h; exact ⟨_, _, Tryz.underlying59, rfl, rfl, tyOk_string, by decide⟩
 · cases h; exact ⟨_, _, Tryz.underlying59, rfl, rfl, tyOk_string, by decide⟩
 · cases h; exact ⟨_, _, Tryz.underlying59, rfl, rfl, tyOk_ABapiDAttr, by decide⟩
 · cases h; exact ⟨_, _, Tryz.underlying65, rfl, rfl, tyOk_string, by decide⟩
 · cases h; exact ⟨_, _, Tryz.underlying65, rfl, rfl, tyOk_ABapiDTarget, by decide⟩
 · cases h; exact ⟨_, _, Tryz.underlying78, rfl, rfl, tyOk_string, by decide⟩
 · cases h; exact ⟨_, _, Tryz.underlying78, rfl, rfl, tyOk_smithyardSapiDValue, by decide⟩
 · cases h; exact ⟨_, _, Tryz.underlying81, rfl, rfl, tyOk_string, by decide⟩
 · cases h; exact ⟨_, _, Tryz.underlying81, rfl, rfl, tyOk_ABstring, by decide⟩
 · cases h; exact ⟨_, _, Tryz.underlying102, rfl, rfl, tyOk_string, by decide⟩
 · cases h; exact ⟨_, _, Tryz.underlying102, rfl, rfl, tyOk_smithyardSapiDValue, by decide⟩
 · cases h; exact ⟨_, _, Tryz.underlying108, rfl, rfl, tyOk_string, by decide⟩
 · cases h; exact ⟨_, _, Tryz.underlying108, rfl, rfl, tyOk_ABapiDPair, by decide⟩
 · cases h; exact ⟨_, _, Tryz.underlying108, rfl, rfl, tyOk_ABapiDPair, by decide⟩
 · cases h
theorem mpT_ok : ∀ T e, tyT T = some (.mp e) → MpOk Tryz.prog T e := by
 intro T e h
 unfold tyT at h
 split at h
 · cases h
 · cases h
 · cases h
 · cases h
 · cases h
 · cases h
 · cases h
 · cases h
 · cases h
 · cases h
 · cases h
 · cases h
 · cases h
 · cases h
 · cases h
 · cases h
 · cases h
 · cases h
 · cases h
 · cases h
 · cases h
 · cases h
 · cases h
 · cases h; exact ⟨_, _, Tryz.underlying105, Tryz.underlying9, tyOk_bool⟩
 · cases h
 · cases h
 · cases h
 · cases h
theorem bldT_ok : ∀ T t, tyT T = some t → t.isAgg = true → ∃ fs places, Tryz.prog.underlying T = some (.struct fs) ∧ fs.toList.mapM (fun f => (Tryz.prog.info? f.type).map fun i => (f.offset, i.size)) = some places := by
 intro T t h ha
 unfold tyT at h
 split at h
 · cases h; cases ha
 · cases h; cases ha
 · cases h; cases ha
 · cases h; cases ha
 · cases h; cases ha
 · cases h; cases ha
 · cases h; cases ha
 · exact ⟨_, [(0, 1), (1, 1), (2, 1), (3, 1), (4, 1)], Tryz.underlying28, by kernel_rfl⟩
 · cases h; cases ha
 · cases h; cases ha
 · exact ⟨_, [(0, 1), (1, 1), (2, 1), (3, 1), (4, 1)], Tryz.underlying32, by kernel_rfl⟩
 · cases h; cases ha
 · exact ⟨_, [(0, 1), (1, 1)], Tryz.underlying35, by kernel_rfl⟩
 · exact ⟨_, [(0, 1), (1, 1), (2, 1)], Tryz.underlying43, by kernel_rfl⟩
 · cases h; cases ha
 · exact ⟨_, [(0, 1), (1, 1)], Tryz.underlying53, by kernel_rfl⟩
 · cases h; cases ha
 · exact ⟨_, [(0, 1), (1, 1), (2, 1)], Tryz.underlying59, by kernel_rfl⟩
 · cases h; cases ha
 · exact ⟨_, [(0, 1), (1, 1)], Tryz.underlying65, by kernel_rfl⟩
 · exact ⟨_, [(0, 1), (1, 5)], Tryz.underlying78, by kernel_rfl⟩
 · exact ⟨_, [(0, 1), (1, 1)], Tryz.underlying81, by kernel_rfl⟩
 · exact ⟨_, [(0, 1), (1, 5)], Tryz.underlying102, by kernel_rfl⟩
 · cases h; cases ha
 · exact ⟨_, [(0, 1), (1, 1), (2, 1)], Tryz.underlying108, by kernel_rfl⟩
 · cases h; cases ha
 · cases h; cases ha
 · cases h
theorem cmpOk_smithyardSapiDPair : CmpOk Tryz.prog 53 (.pr .str .str) := CmpOk.flat rfl rfl Tryz.underlying53 (by kernel_rfl) (by kernel_rfl) (.cons rfl (by decide) (.str Tryz.underlying9) (.one rfl (by decide) (.str Tryz.underlying9)))
def cmpT : TypeId → Option Ty := fun T =>
 match T with
 | 53 => some (.pr .str .str)
 | _ => none
theorem cmpT_ok : ∀ T t, cmpT T = some t → CmpOk Tryz.prog T t := by
 intro T t h
 unfold cmpT at h
 split at h
 · cases h; exact cmpOk_smithyardSapiDPair
 · cases h
def mkE (h : Nat → Hint) (fn : FuncId → Option Tmp → Option AF) (exq : Nat → Bool) (live : FuncId → Bool) : Env := { ty := tyT, el := elT, fld := fldT, cmp := cmpT, fn := fn, hint := h, exq := exq, live := live }
theorem mkE_ok (hh : Nat → Hint) (fn : FuncId → Option Tmp → Option AF) (exq : Nat → Bool) (live : FuncId → Bool) (h : ∀ f q F, fn f q = some F → Sound Tryz.prog GW B0G f F) : EnvOk Tryz.prog GW B0G (mkE hh fn exq live) :=
 { ty := tyT_ok, el := elT_ok, fld := fldT_ok, mp := mpT_ok, bld := bldT_ok, cmp := cmpT_ok, fn := h, stable := GW_stable, mixed := by kernel_rfl }
end Go.Proofs.YtbekhaioddmliaaGreatDoor

