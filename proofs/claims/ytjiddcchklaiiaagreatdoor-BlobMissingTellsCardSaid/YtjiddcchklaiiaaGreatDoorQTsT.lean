/-
 DERIVED: THE SHELF's CONTRACTS AT THIS DUMP, IN PLAIN WORDS (tools/lay-plain.mjs out of 'TryzShelf.lean', which tools/lay-shelf.mjs wrote): THE SAME DECLARATIONS UNDER THE SAME NAMES: 'import', 'namespace', 'open', 'def', 'theorem' AND NOTHING ELSE: no command of the shelf's: FOR A HAND-IN. Each laying: the table of numbers ('.._ren') and one theorem, a field a fact of the dump's own or the kernel's comparison; each contract: ONE APPLICATION.
-/
import Derived.Shelf.Strings.Trim
import Derived.Shelf.Small.Utf8
import Derived.Shelf.Small.Bits
import Derived.Shelf.Small.Strs
import Derived.Shelf.Utf8.RuneCount
import Derived.Shelf.Strconv.Itoa0
import Derived.Shelf.Strings.Search1
import Derived.Shelf.Strings.Search2
import Derived.Shelf.Strings.Search3
import Derived.Shelf.Strings.Cut
import Derived.Shelf.Strings.Count
import Derived.Shelf.LaysM
import Derived.Shelf.Strings.Shaped
import Derived.Shelf.Strings.Split
import Derived.Shelf.Strings.SplitShaped
import Derived.Shelf.Unicode.Decode
import Derived.Shelf.Strings.Runes
import Derived.Shelf.Strings.RuneCount
import Derived.Shelf.Strings.AsciiSet
import Derived.Shelf.Strings.Explode
import Derived.Shelf.Unicode.DecodeSlow
import Derived.Shelf.Unicode.DecodeAny
import Derived.Shelf.Unicode.DecodeLast
import Derived.Shelf.Slices.Equal
import Derived.Ground.SlgmProg
import Derived.Shelf.SortM.Plain
import Derived.Shelf.SortM.SortNone
import Derived.Test.YtjiddcchklaiiaaGreatDoorProg
import Derived.Test.YtjiddcchklaiiaaGreatDoorQFor2
import Derived.WalkSpells
import Derived.WalkLawsBesides
import Derived.Outline
import Derived.IntWalk
namespace Go.Proofs
open Go Go.RowKit Go.Proofs.YtjiddcchklaiiaaGreatDoor
abbrev τ0 : Type := Str × (Option (Str × Bool × List UInt8)) × List (Str × Bool × List UInt8)
abbrev τ1 : Ty := .pr .str (.pr (.np (.pr .str (.pr .bool (.sl .u8)))) (.sl (.pr .str (.pr .bool (.sl .u8)))))
abbrev τ2 : Type := Str × Bool × List UInt8
abbrev τ3 : Type := Str × List UInt8
abbrev τ4 : Ty := .pr .str (.pr .bool (.sl .u8))
abbrev τ5 : Ty := .int .i64
abbrev τ6 : Type := List τ0
abbrev τ7 : Ty := .pr .str (.sl .u8)
abbrev τ8 : Type := List UInt8
abbrev τ9 : Type := Str × Str × Bool × Bool
abbrev τ10 : Ty := .pr .str (.pr .str (.pr .bool .bool))
abbrev τ11 : Type := Str × Bool
abbrev τ12 : Type := Str × List (Str × τ8)
abbrev τ13 : Type := Int × List τ3 × List τ2
abbrev τ14 : Type := List Str × Int
abbrev τ15 : Type := List τ2
abbrev τ16 : Type := List τ3
abbrev τ17 : Ty := .sl .u8
abbrev τ18 : Type := List (Str × τ8)
abbrev τ19 : Type := Str × Int × List τ3
end Go.Proofs
namespace Go.Proofs
open Go.Shelf
def Tryz.lays160_ren : Go.Shelf.Ren := ⟨fun | 160 => 68 | 232 => 97 | 231 => 96 | 227 => 98 | 234 => 100 | 233 => 99 | 236 => 102 | 235 => 101 | 228 => 119 | 271 => 122 | 151 => 121 | 197 => 120 | 120 => 134 | 152 => 133 | 260 => 132 | 137 => 114 | 119 => 138 | 224 => 126 | 225 => 125 | 217 => 124 | 266 => 135 | n => n, fun | 9 => 9 | 4 => 4 | 3 => 3 | 5 => 5 | 117 => 140 | 116 => 139 | 0 => 0 | 124 => 143 | 21 => 21 | 105 => 155 | 46 => 84 | 119 => 165 | 139 => 168 | 138 => 167 | n => n, fun | 3 => 1 | 4 => 2 | n => n⟩
theorem Tryz.lays160 : Go.Proofs.Lays.n160 Tryz.prog Tryz.lays160_ren := {
 mixed := by kernel_rfl
 f119 := Tryz.func138.trans (congrArg some (by kernel_rfl))
 f120 := Tryz.func134.trans (congrArg some (by kernel_rfl))
 f137 := Tryz.func114.trans (congrArg some (by kernel_rfl))
 f151 := Tryz.func121.trans (congrArg some (by kernel_rfl))
 f152 := Tryz.func133.trans (congrArg some (by kernel_rfl))
 f160 := Tryz.func68.trans (congrArg some (by kernel_rfl))
 f197 := Tryz.func120.trans (congrArg some (by kernel_rfl))
 f217 := Tryz.func124.trans (congrArg some (by kernel_rfl))
 f224 := Tryz.func126.trans (congrArg some (by kernel_rfl))
 f225 := Tryz.func125.trans (congrArg some (by kernel_rfl))
 f227 := Tryz.func98.trans (congrArg some (by kernel_rfl))
 f228 := Tryz.func119.trans (congrArg some (by kernel_rfl))
 f231 := Tryz.func96.trans (congrArg some (by kernel_rfl))
 f232 := Tryz.func97.trans (congrArg some (by kernel_rfl))
 f233 := Tryz.func99.trans (congrArg some (by kernel_rfl))
 f234 := Tryz.func100.trans (congrArg some (by kernel_rfl))
 f235 := Tryz.func101.trans (congrArg some (by kernel_rfl))
 f236 := Tryz.func102.trans (congrArg some (by kernel_rfl))
 f260 := Tryz.func132.trans (congrArg some (by kernel_rfl))
 f266 := Tryz.func135.trans (congrArg some (by kernel_rfl))
 f271 := Tryz.func122.trans (congrArg some (by kernel_rfl))
 t0 := Tryz.underlying0
 a0 := Tryz.isAgg0
 z0 := Tryz.sizeOf0
 v0 := Tryz.zeroValue0
 t3 := Tryz.underlying3
 a3 := Tryz.isAgg3
 z3 := Tryz.sizeOf3
 v3 := Tryz.zeroValue3
 t4 := Tryz.underlying4
 a4 := Tryz.isAgg4
 z4 := Tryz.sizeOf4
 v4 := Tryz.zeroValue4
 t5 := Tryz.underlying5
 a5 := Tryz.isAgg5
 z5 := Tryz.sizeOf5
 v5 := Tryz.zeroValue5
 t9 := Tryz.underlying9
 a9 := Tryz.isAgg9
 z9 := Tryz.sizeOf9
 v9 := Tryz.zeroValue9
 t21 := Tryz.underlying21
 a21 := Tryz.isAgg21
 z21 := Tryz.sizeOf21
 v21 := Tryz.zeroValue21
 t46 := Tryz.underlying84
 a46 := Tryz.isAgg84
 z46 := Tryz.sizeOf84
 v46 := Tryz.zeroValue84
 t105 := Tryz.underlying155
 a105 := Tryz.isAgg155
 z105 := Tryz.sizeOf155
 v105 := Tryz.zeroValue155
 t116 := Tryz.underlying139
 a116 := Tryz.isAgg139
 z116 := Tryz.sizeOf139
 t117 := Tryz.underlying140
 a117 := Tryz.isAgg140
 z117 := Tryz.sizeOf140
 v117 := Tryz.zeroValue140
 t119 := Tryz.underlying165
 a119 := Tryz.isAgg165
 z119 := Tryz.sizeOf165
 t124 := Tryz.underlying143
 a124 := Tryz.isAgg143
 z124 := Tryz.sizeOf143
 v124 := Tryz.zeroValue143
 t138 := Tryz.underlying167
 a138 := Tryz.isAgg167
 z138 := Tryz.sizeOf167
 v138 := Tryz.zeroValue167
 t139 := Tryz.underlying168
 a139 := Tryz.isAgg168
 z139 := Tryz.sizeOf168
 v139 := Tryz.zeroValue168
 g3 := by kernel_rfl
 g4 := by kernel_rfl }
def Tryz.lays106_ren : Go.Shelf.Ren := ⟨fun | 106 => 18 | 213 => 37 | 265 => 66 | n => n, fun | 9 => 9 | 3 => 3 | n => n, fun | n => n⟩
theorem Tryz.lays106 : Go.Proofs.Lays.n106 Tryz.prog Tryz.lays106_ren := {
 mixed := by kernel_rfl
 f106 := Tryz.func18.trans (congrArg some (by kernel_rfl))
 f213 := Tryz.func37.trans (congrArg some (by kernel_rfl))
 f265 := Tryz.func66.trans (congrArg some (by kernel_rfl))
 t3 := Tryz.underlying3
 a3 := Tryz.isAgg3
 z3 := Tryz.sizeOf3
 v3 := Tryz.zeroValue3
 t9 := Tryz.underlying9
 a9 := Tryz.isAgg9
 z9 := Tryz.sizeOf9
 v9 := Tryz.zeroValue9 }
open Go.RowKit in
theorem Tryz.strings_Compare (a b : ByteArray) (w : World) :
   Calls Tryz.prog 18 #[.string a, .string b] w fun e w' => e = .returned (.int .i64 (Lib.compareBytes a.data.toList b.data.toList)) ∧ w' = w := Any.strings_Compare Tryz.lays106 a b w
def Tryz.lays137_ren : Go.Shelf.Ren := ⟨fun | 137 => 114 | 217 => 124 | 266 => 135 | n => n, fun | 9 => 9 | 5 => 5 | 3 => 3 | n => n, fun | n => n⟩
theorem Tryz.lays137 : Go.Proofs.Lays.n137 Tryz.prog Tryz.lays137_ren := {
 mixed := by kernel_rfl
 f137 := Tryz.func114.trans (congrArg some (by kernel_rfl))
 f217 := Tryz.func124.trans (congrArg some (by kernel_rfl))
 f266 := Tryz.func135.trans (congrArg some (by kernel_rfl))
 t3 := Tryz.underlying3
 a3 := Tryz.isAgg3
 z3 := Tryz.sizeOf3
 v3 := Tryz.zeroValue3
 t5 := Tryz.underlying5
 a5 := Tryz.isAgg5
 z5 := Tryz.sizeOf5
 v5 := Tryz.zeroValue5
 t9 := Tryz.underlying9
 a9 := Tryz.isAgg9
 z9 := Tryz.sizeOf9
 v9 := Tryz.zeroValue9 }
open Go.RowKit in
theorem Tryz.strings_IndexByte (s : ByteArray) (c : Int) (w : World) :
   Calls Tryz.prog 114 #[.string s, .int .u8 c] w fun e w' => e = .returned (.int .i64 (Lib.indexByte s.data.toList c.toNat.toUInt8)) ∧ w' = w := Any.strings_IndexByte Tryz.lays137 s c w
def Tryz.lays145_ren : Go.Shelf.Ren := ⟨fun | 145 => 49 | 220 => 77 | 219 => 106 | 217 => 124 | 225 => 125 | 224 => 126 | 267 => 127 | 266 => 135 | 314 => 136 | n => n, fun | 9 => 9 | 4 => 4 | 59 => 98 | 3 => 3 | 5 => 5 | 46 => 84 | 146 => 163 | 51 => 114 | n => n, fun | 1 => 0 | n => n⟩
theorem Tryz.lays145 : Go.Proofs.Lays.n145 Tryz.prog Tryz.lays145_ren := {
 mixed := by kernel_rfl
 f145 := Tryz.func49.trans (congrArg some (by kernel_rfl))
 f217 := Tryz.func124.trans (congrArg some (by kernel_rfl))
 f219 := Tryz.func106.trans (congrArg some (by kernel_rfl))
 f220 := Tryz.func77.trans (congrArg some (by kernel_rfl))
 f224 := Tryz.func126.trans (congrArg some (by kernel_rfl))
 f225 := Tryz.func125.trans (congrArg some (by kernel_rfl))
 f266 := Tryz.func135.trans (congrArg some (by kernel_rfl))
 f267 := Tryz.func127.trans (congrArg some (by kernel_rfl))
 f314 := Tryz.func136.trans (congrArg some (by kernel_rfl))
 t3 := Tryz.underlying3
 a3 := Tryz.isAgg3
 z3 := Tryz.sizeOf3
 v3 := Tryz.zeroValue3
 t4 := Tryz.underlying4
 a4 := Tryz.isAgg4
 z4 := Tryz.sizeOf4
 v4 := Tryz.zeroValue4
 t5 := Tryz.underlying5
 a5 := Tryz.isAgg5
 z5 := Tryz.sizeOf5
 v5 := Tryz.zeroValue5
 t9 := Tryz.underlying9
 a9 := Tryz.isAgg9
 z9 := Tryz.sizeOf9
 v9 := Tryz.zeroValue9
 t46 := Tryz.underlying84
 a46 := Tryz.isAgg84
 z46 := Tryz.sizeOf84
 v46 := Tryz.zeroValue84
 t51 := Tryz.underlying114
 a51 := Tryz.isAgg114
 z51 := Tryz.sizeOf114
 v51 := Tryz.zeroValue114
 t59 := Tryz.underlying98
 a59 := Tryz.isAgg98
 z59 := Tryz.sizeOf98
 v59 := Tryz.zeroValue98
 t146 := Tryz.underlying163
 a146 := Tryz.isAgg163
 z146 := Tryz.sizeOf163
 v146 := Tryz.zeroValue163
 g1 := by kernel_rfl }
open Go.RowKit Go.Lib in
theorem Tryz.strings_Cut (s sep : ByteArray) (m : Int) (w : World) (hs : s.size < 4294967281) (hm : w.cell? ⟨0, 0, none⟩ = some (.int .i64 m)) :
   Calls Tryz.prog 49 #[.string s, .string sep] w fun e w' => e = .returned (.tuple #[.string ⟨(Lib.cut s.data.toList sep.data.toList).1.toArray⟩, .string ⟨(Lib.cut s.data.toList sep.data.toList).2.1.toArray⟩, .bool (Lib.cut s.data.toList sep.data.toList).2.2]) ∧ ∃ n, w' = w.drewN n := Any.strings_Cut Tryz.lays145 s sep m w hs hm
def Tryz.laysM143_ren : Go.Shelf.Ren := ⟨fun | 143 => 113 | 219 => 106 | 217 => 124 | 225 => 125 | 224 => 126 | 267 => 127 | 266 => 135 | 314 => 136 | n => n, fun | 9 => 9 | 3 => 3 | 4 => 4 | 5 => 5 | 46 => 84 | 146 => 163 | 51 => 114 | n => n, fun | 1 => 0 | n => n⟩
theorem Tryz.laysM143 : Go.Proofs.LaysM.n143 Tryz.prog Tryz.laysM143_ren := {
 mixed := by kernel_rfl
 f143 := Tryz.func113.trans (congrArg some (by kernel_rfl))
 f217 := Tryz.func124.trans (congrArg some (by kernel_rfl))
 f219 := Tryz.func106.trans (congrArg some (by kernel_rfl))
 f224 := Tryz.func126.trans (congrArg some (by kernel_rfl))
 f225 := Tryz.func125.trans (congrArg some (by kernel_rfl))
 f266 := Tryz.func135.trans (congrArg some (by kernel_rfl))
 f267 := Tryz.func127.trans (congrArg some (by kernel_rfl))
 f314 := Tryz.func136.trans (congrArg some (by kernel_rfl))
 t3 := Tryz.underlying3
 a3 := Tryz.isAgg3
 z3 := Tryz.sizeOf3
 v3 := Tryz.zeroValue3
 t4 := Tryz.underlying4
 a4 := Tryz.isAgg4
 z4 := Tryz.sizeOf4
 v4 := Tryz.zeroValue4
 t5 := Tryz.underlying5
 a5 := Tryz.isAgg5
 z5 := Tryz.sizeOf5
 v5 := Tryz.zeroValue5
 t9 := Tryz.underlying9
 a9 := Tryz.isAgg9
 z9 := Tryz.sizeOf9
 v9 := Tryz.zeroValue9
 t46 := Tryz.underlying84
 a46 := Tryz.isAgg84
 z46 := Tryz.sizeOf84
 v46 := Tryz.zeroValue84
 t51 := Tryz.underlying114
 a51 := Tryz.isAgg114
 z51 := Tryz.sizeOf114
 v51 := Tryz.zeroValue114
 t146 := Tryz.underlying163
 a146 := Tryz.isAgg163
 z146 := Tryz.sizeOf163
 v146 := Tryz.zeroValue163
 g1 := by kernel_rfl
 i3 := by kernel_rfl
 i4 := by kernel_rfl
 i5 := by kernel_rfl
 i9 := by kernel_rfl
 i46 := by kernel_rfl
 i51 := by kernel_rfl
 i146 := by kernel_rfl
 m1 := by kernel_rfl
 s1_3 := fun w h => Go.Proofs.cell_of_shapedOpen_int (zero := #[.int .i64 0]) (t := 3) h (of_decide_eq_true (by kernel_rfl)) (by kernel_rfl) rfl (by kernel_rfl) (by kernel_rfl) Tryz.underlying3 }
def Tryz.lays146_ren : Go.Shelf.Ren := ⟨fun | 146 => 52 | 221 => 87 | 268 => 111 | 138 => 112 | 143 => 113 | 195 => 129 | 197 => 120 | 218 => 130 | 219 => 106 | 260 => 132 | 217 => 124 | 225 => 125 | 224 => 126 | 267 => 127 | 266 => 135 | 314 => 136 | n => n, fun | 9 => 9 | 31 => 31 | 3 => 3 | 4 => 4 | 0 => 0 | 105 => 155 | 21 => 21 | 5 => 5 | 46 => 84 | 119 => 165 | 139 => 168 | 138 => 167 | 146 => 163 | 51 => 114 | n => n, fun | 1 => 0 | 3 => 1 | 4 => 2 | n => n⟩
theorem Tryz.lays146 : Go.Proofs.Lays.n146 Tryz.prog Tryz.lays146_ren := {
 mixed := by kernel_rfl
 f138 := Tryz.func112.trans (congrArg some (by kernel_rfl))
 f143 := Tryz.func113.trans (congrArg some (by kernel_rfl))
 f146 := Tryz.func52.trans (congrArg some (by kernel_rfl))
 f195 := Tryz.func129.trans (congrArg some (by kernel_rfl))
 f197 := Tryz.func120.trans (congrArg some (by kernel_rfl))
 f217 := Tryz.func124.trans (congrArg some (by kernel_rfl))
 f218 := Tryz.func130.trans (congrArg some (by kernel_rfl))
 f219 := Tryz.func106.trans (congrArg some (by kernel_rfl))
 f221 := Tryz.func87.trans (congrArg some (by kernel_rfl))
 f224 := Tryz.func126.trans (congrArg some (by kernel_rfl))
 f225 := Tryz.func125.trans (congrArg some (by kernel_rfl))
 f260 := Tryz.func132.trans (congrArg some (by kernel_rfl))
 f266 := Tryz.func135.trans (congrArg some (by kernel_rfl))
 f267 := Tryz.func127.trans (congrArg some (by kernel_rfl))
 f268 := Tryz.func111.trans (congrArg some (by kernel_rfl))
 f314 := Tryz.func136.trans (congrArg some (by kernel_rfl))
 t0 := Tryz.underlying0
 a0 := Tryz.isAgg0
 z0 := Tryz.sizeOf0
 v0 := Tryz.zeroValue0
 t3 := Tryz.underlying3
 a3 := Tryz.isAgg3
 z3 := Tryz.sizeOf3
 v3 := Tryz.zeroValue3
 t4 := Tryz.underlying4
 a4 := Tryz.isAgg4
 z4 := Tryz.sizeOf4
 v4 := Tryz.zeroValue4
 t5 := Tryz.underlying5
 a5 := Tryz.isAgg5
 z5 := Tryz.sizeOf5
 v5 := Tryz.zeroValue5
 t9 := Tryz.underlying9
 a9 := Tryz.isAgg9
 z9 := Tryz.sizeOf9
 v9 := Tryz.zeroValue9
 t21 := Tryz.underlying21
 a21 := Tryz.isAgg21
 z21 := Tryz.sizeOf21
 v21 := Tryz.zeroValue21
 t31 := Tryz.underlying31
 a31 := Tryz.isAgg31
 z31 := Tryz.sizeOf31
 v31 := Tryz.zeroValue31
 t46 := Tryz.underlying84
 a46 := Tryz.isAgg84
 z46 := Tryz.sizeOf84
 v46 := Tryz.zeroValue84
 t51 := Tryz.underlying114
 a51 := Tryz.isAgg114
 z51 := Tryz.sizeOf114
 v51 := Tryz.zeroValue114
 t105 := Tryz.underlying155
 a105 := Tryz.isAgg155
 z105 := Tryz.sizeOf155
 v105 := Tryz.zeroValue155
 t119 := Tryz.underlying165
 a119 := Tryz.isAgg165
 z119 := Tryz.sizeOf165
 t138 := Tryz.underlying167
 a138 := Tryz.isAgg167
 z138 := Tryz.sizeOf167
 v138 := Tryz.zeroValue167
 t139 := Tryz.underlying168
 a139 := Tryz.isAgg168
 z139 := Tryz.sizeOf168
 v139 := Tryz.zeroValue168
 t146 := Tryz.underlying163
 a146 := Tryz.isAgg163
 z146 := Tryz.sizeOf163
 v146 := Tryz.zeroValue163
 g1 := by kernel_rfl
 g3 := by kernel_rfl
 g4 := by kernel_rfl }
open Go.RowKit Go.Lib in
theorem Tryz.strings_Split (s sep : ByteArray) (m : Int) (w : World) (hs : s.size < 4294967281) (hm : w.cell? ⟨0, 0, none⟩ = some (.int .i64 m)) (h1 : 1 ≤ sep.size) :
   Calls Tryz.prog 52 #[.string s, .string sep] w fun e w' =>
     e = .returned (.slice (some ⟨w.heap.size, 0, none⟩) (Lib.countB s sep + 1) (Lib.countB s sep + 1)) ∧ w' = w.alloc (.cells ((Lib.splitB sep 0 (Lib.countB s sep) s).map Value.string).toArray 9) := Any.strings_Split Tryz.lays146 (by kernel_rfl) s sep m w hs hm h1
def Tryz.laysSlM6_f28_ren : Go.Shelf.Ren := ⟨fun | 6 => 28 | 8 => 36 | 9 => 51 | 19 => 64 | 20 => 65 | 21 => 78 | 22 => 79 | 23 => 80 | 24 => 81 | 25 => 82 | 26 => 83 | 27 => 84 | 28 => 85 | 29 => 86 | 36 => 107 | 31 => 91 | 32 => 92 | 37 => 108 | 38 => 109 | 39 => 110 | 41 => 128 | n => n, fun | 27 => 31 | 29 => 9 | 3 => 3 | 32 => 84 | 26 => 31 | 0 => 0 | 44 => 114 | 46 => 85 | 4 => 4 | 36 => 108 | 35 => 107 | 41 => 95 | 5 => 5 | 9 => 9 | 53 => 131 | 57 => 135 | 63 => 152 | 64 => 153 | n => n, fun | n => n⟩
theorem Tryz.laysSlM6_f28 : Go.Proofs.SlLaysM.n6 Tryz.prog Tryz.laysSlM6_f28_ren := {
 mixed := by kernel_rfl
 f6 := ⟨Tryz.f28.name, by decide, Tryz.func28.trans (congrArg some (by kernel_rfl))⟩
 f8 := Tryz.func36.trans (congrArg some (by kernel_rfl))
 f9 := ⟨Tryz.f51.name, by decide, Tryz.func51.trans (congrArg some (by kernel_rfl))⟩
 f19 := Tryz.func64.trans (congrArg some (by kernel_rfl))
 f20 := Tryz.func65.trans (congrArg some (by kernel_rfl))
 f21 := ⟨Tryz.f78.name, by decide, Tryz.func78.trans (congrArg some (by kernel_rfl))⟩
 f22 := ⟨Tryz.f79.name, by decide, Tryz.func79.trans (congrArg some (by kernel_rfl))⟩
 f23 := ⟨Tryz.f80.name, by decide, Tryz.func80.trans (congrArg some (by kernel_rfl))⟩
 f24 := ⟨Tryz.f81.name, by decide, Tryz.func81.trans (congrArg some (by kernel_rfl))⟩
 f25 := ⟨Tryz.f82.name, by decide, Tryz.func82.trans (congrArg some (by kernel_rfl))⟩
 f26 := ⟨Tryz.f83.name, by decide, Tryz.func83.trans (congrArg some (by kernel_rfl))⟩
 f27 := ⟨Tryz.f84.name, by decide, Tryz.func84.trans (congrArg some (by kernel_rfl))⟩
 f28 := ⟨Tryz.f85.name, by decide, Tryz.func85.trans (congrArg some (by kernel_rfl))⟩
 f29 := ⟨Tryz.f86.name, by decide, Tryz.func86.trans (congrArg some (by kernel_rfl))⟩
 f31 := Tryz.func91.trans (congrArg some (by kernel_rfl))
 f32 := Tryz.func92.trans (congrArg some (by kernel_rfl))
 f36 := ⟨Tryz.f107.name, by decide, Tryz.func107.trans (congrArg some (by kernel_rfl))⟩
 f37 := ⟨Tryz.f108.name, by decide, Tryz.func108.trans (congrArg some (by kernel_rfl))⟩
 f38 := ⟨Tryz.f109.name, by decide, Tryz.func109.trans (congrArg some (by kernel_rfl))⟩
 f39 := ⟨Tryz.f110.name, by decide, Tryz.func110.trans (congrArg some (by kernel_rfl))⟩
 f41 := ⟨Tryz.f128.name, by decide, Tryz.func128.trans (congrArg some (by kernel_rfl))⟩
 t0 := Tryz.underlying0
 a0 := Tryz.isAgg0
 z0 := Tryz.sizeOf0
 v0 := Tryz.zeroValue0
 t3 := Tryz.underlying3
 a3 := Tryz.isAgg3
 z3 := Tryz.sizeOf3
 v3 := Tryz.zeroValue3
 t4 := Tryz.underlying4
 a4 := Tryz.isAgg4
 z4 := Tryz.sizeOf4
 v4 := Tryz.zeroValue4
 t5 := Tryz.underlying5
 a5 := Tryz.isAgg5
 z5 := Tryz.sizeOf5
 v5 := Tryz.zeroValue5
 t9 := Tryz.underlying9
 a9 := Tryz.isAgg9
 z9 := Tryz.sizeOf9
 v9 := Tryz.zeroValue9
 t26 := Tryz.underlying31
 a26 := Tryz.isAgg31
 z26 := Tryz.sizeOf31
 v26 := Tryz.zeroValue31
 t27 := Tryz.underlying31
 a27 := Tryz.isAgg31
 z27 := Tryz.sizeOf31
 v27 := Tryz.zeroValue31
 t29 := Tryz.underlying9
 a29 := Tryz.isAgg9
 z29 := Tryz.sizeOf9
 v29 := Tryz.zeroValue9
 t32 := Tryz.underlying84
 a32 := Tryz.isAgg84
 z32 := Tryz.sizeOf84
 v32 := Tryz.zeroValue84
 t35 := Tryz.underlying107
 a35 := Tryz.isAgg107
 z35 := Tryz.sizeOf107
 v35 := Tryz.zeroValue107
 t36 := Tryz.underlying108
 a36 := Tryz.isAgg108
 z36 := Tryz.sizeOf108
 v36 := Tryz.zeroValue108
 t41 := Tryz.underlying95
 a41 := Tryz.isAgg95
 z41 := Tryz.sizeOf95
 v41 := Tryz.zeroValue95
 t44 := Tryz.underlying114
 a44 := Tryz.isAgg114
 z44 := Tryz.sizeOf114
 v44 := Tryz.zeroValue114
 t46 := Tryz.underlying85
 a46 := Tryz.isAgg85
 z46 := Tryz.sizeOf85
 v46 := Tryz.zeroValue85
 t53 := Tryz.underlying131
 a53 := Tryz.isAgg131
 z53 := Tryz.sizeOf131
 v53 := Tryz.zeroValue131
 t57 := Tryz.underlying135
 a57 := Tryz.isAgg135
 z57 := Tryz.sizeOf135
 v57 := Tryz.zeroValue135
 t63 := Tryz.underlying152
 a63 := Tryz.isAgg152
 z63 := Tryz.sizeOf152
 v63 := Tryz.zeroValue152
 t64 := Tryz.underlying153
 a64 := Tryz.isAgg153
 z64 := Tryz.sizeOf153
 v64 := Tryz.zeroValue153 }
open Go.Sort Go.RowKit in
theorem Tryz.slices_Sort_string (blk off cap : Nat) (ss : List τ8) (w : World) (hH : Holds encStr w blk off ss.toArray) (hblk : blk < w.heap.size) (hsz : ss.length < 4611686018427387904) :
   Calls Tryz.prog 28 #[.slice (some ⟨blk, off, none⟩) ss.length cap] w fun e w' =>
     e = .returned (.tuple #[]) ∧ ∃ n os, w' = grow (putRow encStr (Sort.ahead w n) blk off (ss.mergeSort fun x y => decide (x ≤ y)).toArray) os := AnyM.slices_Sort_string Tryz.laysSlM6_f28 blk off cap ss w hH hblk hsz
open Go.RowKit Go.Sort in
theorem Tryz.slices_Sort_string_none (p : Option Addr) (cap : Nat) (w : World) :
   Calls Tryz.prog 28 #[.slice p 0 cap] w fun e w' => e = .returned (.tuple #[]) ∧ w' = w := AnyM.slices_Sort_string_none Tryz.laysSlM6_f28 p cap w
end Go.Proofs


/- How a contract of the kit is said of the machine. -/
namespace Go.Proofs.YtjiddcchklaiiaaGreatDoor
set_option linter.unusedVariables false
set_option linter.unusedSimpArgs false
open Go Go.RowKit Go.Shelf
abbrev g0 : Gh := fun _ => none
theorem Sound.ofExt {P : Program} {G : World → Prop} {B0 : Nat} {f : FuncId} {ps rs : List Sl} {R : Type} [BothC R] {out : R → SV rs × BV []} {F : SV ps → BV [] → Option R}
   (hcall : ∀ (args : Array Value) (w : World), (callFunc f args).run P w = .ok (.enter f args) w)
   (h : ∀ (M : Nat → Nat → Prop) (w : World) (vs : List Value) (x : SV ps) (z : R), G w → (∀ b o, M b o → b < w.heap.size) → All2 (RepD0 M w g0) (lays id ps x) vs → F x () = some z →
     Calls P f vs.toArray w fun e w' => ∃ vs', e = .returned (rets vs') ∧ Ext w w' ∧ All2 (RepD0 M w' g0) (lays id rs (out z).1) vs') : Sound P G B0 f ⟨ps, [], rs, [], R, out, F⟩ := by
 refine ⟨hcall, fun M w g vs x y z hG hB hF hz => ?_⟩
 have hg : g = g0 := by
   funext r
   cases hr : g r with
   | none => rfl
   | some gx => exact absurd (hF.dom r gx hr) (Nat.not_lt_zero _)
 subst hg
 have hM : Mafter M g0 g0 = M := by
   funext b o
   refine propext ⟨fun h => ?_, fun h => .inl ⟨h, fun ⟨_, _, hx, _⟩ => by cases hx⟩⟩
   exact h.elim (fun h => h.1) fun ⟨_, _, hx, _⟩ => by cases hx
 refine (h M w vs x z hG hF.mlt hF.args hz).mono fun e w' hp => ?_
 obtain ⟨vs', he, hE, hA⟩ := hp
 refine ⟨vs', g0, he, ExtX.of_ext hE, ?_, ?_, fun _ _ h => (by cases h), fun b hb => .inl hb⟩
 · rw [hM]; exact Step.ext hE
 · rw [hM]
   exact { args := hA, res := fun r blk h => (by cases h), dom := fun r gx h => (by cases h), inj := fun _ _ _ _ _ h => (by cases h), low := fun _ _ _ h => (by cases h), chg := fun _ _ _ _ h => (by cases h), mlt := fun b o h => Nat.lt_of_lt_of_le (hF.mlt b o h) hE.size, row := fun _ _ _ h => (by cases h) }
section
variable {M : Nat → Nat → Prop} {w : World}
theorem RepV.str {x : Str} {v : Value} (h : RepV M w .str x v) : v = .string ⟨List.toArray x⟩ := by
 have := RepV.plain rfl h
 have := (show [v] = [.string ⟨List.toArray x⟩] from this)
 injection this
theorem RepV.u8 {x : UInt8} {v : Value} (h : RepV M w .u8 x v) : v = .int .u8 (UInt8.toNat x) := by
 have := RepV.plain rfl h
 have := (show [v] = [.int .u8 (UInt8.toNat x)] from this)
 injection this
theorem RepV.int {k : IntKind} {x : Int} {v : Value} (h : RepV M w (.int k) x v) : v = .int k x := by
 have := RepV.plain rfl h
 have := (show [v] = [.int k x] from this)
 injection this
theorem vStr (x : Str) : RepV M w .str x (.string ⟨List.toArray x⟩) := RepC.toV rfl rfl
theorem vInt (k : IntKind) (x : Int) : RepV M w (.int k) x (.int k x) := RepC.toV rfl rfl
theorem vBool (x : Bool) : RepV M w .bool x (.bool x) := RepC.toV rfl rfl
end
end Go.Proofs.YtjiddcchklaiiaaGreatDoor


/- More functions of Go's library, out of the kit's contracts. -/
namespace Go.Proofs.YtjiddcchklaiiaaGreatDoor
set_option linter.unusedVariables false
set_option linter.unusedSimpArgs false
open Go Go.RowKit Go.Shelf
def strings_IndexByte (s : Str) (c : UInt8) : Option Int := some (Lib.indexByte s c)
theorem z23sound : Sound Tryz.prog GW B0G 114 ⟨[.v .str, .v .u8], [], [.v τ5], [], Int, fun z => ((z, ()), ()), fun x _ => strings_IndexByte x.1 x.2.1⟩ := by
 refine Sound.ofExt Tryz.call114 fun M w vs x z hG hM hA hz => ?_
 obtain ⟨a, b, u⟩ := x
 match vs, hA with
 | [v1, v2], hA =>
   obtain ⟨h1, h2, _⟩ := hA
   rw [RepV.str h1, RepV.u8 h2]
   have e : Lib.indexByte a b = z := Option.some.inj hz
   subst e
   refine (Tryz.strings_IndexByte ⟨a.toArray⟩ (UInt8.toNat b) w).mono fun e w' hp => ?_
   obtain ⟨rfl, rfl⟩ := hp
   refine ⟨[_], rfl, Ext.refl _, ?_, trivial⟩
   have e2 : ((UInt8.toNat b : Nat) : Int).toNat.toUInt8 = b := by simp
   rw [e2]
   exact vInt .i64 _
def strings_Compare (a b : Str) : Option Int := some (Lib.compareBytes a b)
theorem z28sound : Sound Tryz.prog GW B0G 18 ⟨[.v .str, .v .str], [], [.v τ5], [], Int, fun z => ((z, ()), ()), fun x _ => strings_Compare x.1 x.2.1⟩ := by
 refine Sound.ofExt Tryz.call18 fun M w vs x z hG hM hA hz => ?_
 obtain ⟨a, b, u⟩ := x
 match vs, hA with
 | [v1, v2], hA =>
   obtain ⟨h1, h2, _⟩ := hA
   rw [RepV.str h1, RepV.str h2]
   have e : Lib.compareBytes a b = z := Option.some.inj hz
   subst e
   refine (Tryz.strings_Compare ⟨a.toArray⟩ ⟨b.toArray⟩ w).mono fun e w' hp => ?_
   obtain ⟨rfl, rfl⟩ := hp
   exact ⟨[_], rfl, Ext.refl _, vInt .i64 _, trivial⟩
theorem vStrs {M : Nat → Nat → Prop} {w w' : World} (hM : ∀ b o, M b o → b < w.heap.size) (xs : List Str) (hl : xs.length ≤ maxLen) (e : TypeId)
   (hw : w' = w.alloc (.cells (xs.map fun x => Value.string ⟨x.toArray⟩).toArray e)) : RepV M w' (.sl .str) xs (.slice (some ⟨w.heap.size, 0, none⟩) xs.length xs.length) := by
 subst hw
 refine RepC.toV rfl ⟨some ⟨w.heap.size, 0, none⟩, xs.length, rfl, Nat.le_refl _, hl, fun i hi => ⟨⟨w.heap.size, 0, none⟩, [.string ⟨xs[i].toArray⟩], rfl, rfl, fun j u hu => ?_⟩⟩
 cases j with
 | succ j => simp at hu
 | zero =>
   simp only [List.getElem?_cons_zero, Option.some.injEq] at hu
   subst hu
   have e2 : (((⟨w.heap.size, 0, none⟩ : Addr).add (i * Ty.sz .str)).add 0) = ⟨w.heap.size, i, none⟩ := by
     show Addr.add (Addr.add _ (i * 1)) 0 = _
     rw [Nat.mul_one]
     unfold Addr.add; split <;> simp_all
   rw [e2, World.cell?_alloc_new]
   refine ⟨?_, fun hM' => ?_⟩
   · simp [hi]
   · exact absurd (hM _ _ hM') (Nat.lt_irrefl _)
def splitS (a b : Str) : List Str := (Lib.splitB ⟨b.toArray⟩ 0 (Lib.countB ⟨a.toArray⟩ ⟨b.toArray⟩) ⟨a.toArray⟩).map fun x => x.data.toList
def strings_Split (a b : Str) : Option (List Str) := if a.length < 4294967281 ∧ 1 ≤ b.length ∧ (splitS a b).length = Lib.countB ⟨a.toArray⟩ ⟨b.toArray⟩ + 1 ∧ (splitS a b).length ≤ 4294967296 then some (splitS a b) else none
theorem z35sound : Sound Tryz.prog GW B0G 52 ⟨[.v .str, .v .str], [], [.v (.sl .str)], [], List Str, fun z => ((z, ()), ()), fun x _ => strings_Split x.1 x.2.1⟩ := by
 refine Sound.ofExt Tryz.call52 fun M w vs x z hG hM hA hz => ?_
 obtain ⟨a, b, u⟩ := x
 match vs, hA with
 | [v1, v2], hA =>
   obtain ⟨h1, h2, _⟩ := hA
   rw [RepV.str h1, RepV.str h2]
   change strings_Split a b = some z at hz
   unfold strings_Split at hz
   split at hz
   · rename_i hc
     injection hz with hz
     subst hz
     obtain ⟨m, hm⟩ := hG.len
     refine (Tryz.strings_Split ⟨a.toArray⟩ ⟨b.toArray⟩ m w hc.1 hm hc.2.1).mono fun e w' hp => ?_
     obtain ⟨rfl, hw⟩ := hp
     have hmap : (Lib.splitB ⟨b.toArray⟩ 0 (Lib.countB ⟨a.toArray⟩ ⟨b.toArray⟩) ⟨a.toArray⟩).map Value.string = (splitS a b).map fun x => Value.string ⟨x.toArray⟩ := by
       unfold splitS
       rw [List.map_map]
       rfl
     rw [hmap] at hw
     rw [← hc.2.2.1]
     exact ⟨[_], rfl, hw ▸ (Ext.refl w).alloc _, vStrs hM _ (Nat.le_trans hc.2.2.2 (by decide)) _ hw, trivial⟩
   · cases hz
def strings_Cut (a b : Str) : Option (Str × Str × Bool) := if a.length < 4294967281 then some (Lib.cut a b) else none
theorem z52sound : Sound Tryz.prog GW B0G 49 ⟨[.v .str, .v .str], [], [.v .str, .v .str, .v .bool], [], Str × Str × Bool, fun z => ((z.1, z.2.1, z.2.2, ()), ()), fun x _ => strings_Cut x.1 x.2.1⟩ := by
 refine Sound.ofExt Tryz.call49 fun M w vs x z hG hM hA hz => ?_
 obtain ⟨a, b, u⟩ := x
 match vs, hA with
 | [v1, v2], hA =>
   obtain ⟨h1, h2, _⟩ := hA
   rw [RepV.str h1, RepV.str h2]
   change strings_Cut a b = some z at hz
   unfold strings_Cut at hz
   split at hz
   · rename_i hc
     injection hz with hz
     subst hz
     obtain ⟨m, hm⟩ := hG.len
     refine (Tryz.strings_Cut ⟨a.toArray⟩ ⟨b.toArray⟩ m w hc hm).mono fun e w' hp => ?_
     obtain ⟨rfl, n, rfl⟩ := hp
     exact ⟨[_, _, _], rfl, (Ext.refl w).drewN n, vStr _, vStr _, vBool _, trivial⟩
   · cases hz
end Go.Proofs.YtjiddcchklaiiaaGreatDoor



/- strings.Contains, out of the kit's contract. -/
namespace Go.Proofs.YtjiddcchklaiiaaGreatDoor
set_option linter.unusedVariables false
set_option linter.unusedSimpArgs false
open Go Go.RowKit Go.Shelf
end Go.Proofs.YtjiddcchklaiiaaGreatDoor



/- How a contract of a function that turns a row of its caller's is said of the machine. -/
namespace Go.Proofs.YtjiddcchklaiiaaGreatDoor
set_option linter.unusedVariables false
set_option linter.unusedSimpArgs false
open Go Go.RowKit Go.Shelf
def Els (M : Nat → Nat → Prop) (w : World) (t : Ty) (xs : List t.den) (cs : List Value) : Prop := ∀ i (h : i < xs.length), RepC M w t xs[i] ((cs.drop (i * t.sz)).take t.sz)
theorem own_lt {w : World} {base : Nat} {e : TypeId} {sz : Nat} {v : Value} {n : Nat} {cs : List Value} (h : w.ownsRow base e sz v n cs) {b : Nat} (hb : v.ownBlock = some b) : b < w.heap.size := by
 rcases h.2 with ⟨e1, _⟩ | ⟨g, cap, cur, e1, _, hg, _⟩
 · rw [e1] at hb; cases hb
 · rw [e1] at hb
   simp only [Value.ownBlock, Option.some.injEq] at hb
   subst hb
   exact lt_of_map hg
theorem ExtX.mono {X Y : Nat → Prop} {w w' : World} (h : ExtX X w w') (hX : ∀ k, X k → Y k) : ExtX Y w w' := ⟨h.os, h.tape, h.output, h.size, fun k hk hy => h.block k hk fun hx => hy (hX k hx)⟩
theorem setCells_size (b : Nat) : ∀ (vs : List Value) (o : Nat) (w : World), (w.setCells b o vs).heap.size = w.heap.size
 | [], _, _ => rfl
 | v :: vs, o, w => by
   show ((w.setCell ⟨b, o, none⟩ v).setCells b (o + 1) vs).heap.size = _
   rw [setCells_size b vs (o + 1)]
   unfold World.setCell
   simp
theorem setCells_tape (b : Nat) : ∀ (vs : List Value) (o : Nat) (w : World), (w.setCells b o vs).tape = w.tape ∧ (w.setCells b o vs).os = w.os ∧ (w.setCells b o vs).output = w.output
 | [], _, _ => ⟨rfl, rfl, rfl⟩
 | v :: vs, o, w => by
   have := setCells_tape b vs (o + 1) (w.setCell ⟨b, o, none⟩ v)
   exact ⟨this.1, this.2.1, this.2.2⟩
theorem setCells_other (b : Nat) : ∀ (vs : List Value) (o : Nat) (w : World) (k : Nat), k ≠ b → (w.setCells b o vs).heap[k]? = w.heap[k]?
 | [], _, _, _, _ => rfl
 | v :: vs, o, w, k, hk => by
   show ((w.setCell ⟨b, o, none⟩ v).setCells b (o + 1) vs).heap[k]? = _
   rw [setCells_other b vs (o + 1) _ k hk]
   unfold World.setCell
   rw [Array.getElem?_modify]
   simp [hk.symm]
theorem setCells_ext {w : World} {q b o : Nat} {vs : List Value} : ExtX (fun k => b = k) w ((w.drewN q).setCells b o vs) := by
 obtain ⟨h1, h2, h3⟩ := setCells_tape b vs o (w.drewN q)
 exact ⟨h2, h1, h3, by rw [setCells_size]; exact Nat.le_refl _, fun k hk hx => setCells_other b vs o (w.drewN q) k fun e => hx e.symm⟩
theorem setCells_block (b : Nat) (e : TypeId) (fz : Nat × Nat) : ∀ (vs : List Value) (o : Nat) (w : World) (cur : Array Value), w.heap[b]? = some (.cells cur e fz) → o + vs.length ≤ cur.size →
   (w.setCells b o vs).heap[b]? = some (.cells (cur.toList.take o ++ vs ++ cur.toList.drop (o + vs.length)).toArray e fz)
 | [], o, w, cur, h, hl => by
   show w.heap[b]? = _
   rw [h]; simp
 | v :: vs, o, w, cur, h, hl => by
   simp only [List.length_cons] at hl
   have h1 : (w.setCell ⟨b, o, none⟩ v).heap[b]? = some (.cells (cur.setIfInBounds o v) e fz) := by
     unfold World.setCell
     rw [Array.getElem?_modify]
     simp [h]
   have ih := setCells_block b e fz vs (o + 1) _ _ h1 (by rw [Array.size_setIfInBounds]; omega)
   show ((w.setCell ⟨b, o, none⟩ v).setCells b (o + 1) vs).heap[b]? = _
   rw [ih]
   have hs : (cur.setIfInBounds o v).toList = cur.toList.set o v := by simp
   rw [hs]
   have ho : o < cur.toList.length := by rw [Array.length_toList]; omega
   congr 3
   apply List.ext_getElem?
   intro k
   rw [List.length_cons]
   simp only [List.getElem?_append, List.length_append, List.length_take, List.length_set, Array.length_toList, List.getElem?_take, List.getElem?_drop, List.getElem?_set, List.length_cons]
   have hm1 : min (o + 1) cur.size = o + 1 := by omega
   have hm0 : min o cur.size = o := by omega
   rw [hm1, hm0]
   by_cases hk : k < o
   · simp [hk, show k < o + 1 by omega, show k < o + 1 + vs.length by omega, show k < o + (vs.length + 1) by omega, show ¬ o = k by omega]
   · by_cases hk2 : k = o
     · subst hk2
       simp [show k < k + 1 + vs.length by omega, show k < cur.size by omega]
     · by_cases hk3 : k < o + 1 + vs.length
       · have : ∃ j, k = o + 1 + j := ⟨k - (o + 1), by omega⟩
         obtain ⟨j, rfl⟩ := this
         simp [show ¬ o + 1 + j < o by omega, show o + 1 + j < o + 1 + vs.length by omega, show o + 1 + j < o + (vs.length + 1) by omega, show ¬ (o + 1 + j < o + 1) by omega, show o + 1 + j - o = j + 1 by omega, show o + 1 + j - (o + 1) = j by omega]
       · simp [show ¬ k < o by omega, show ¬ k < o + 1 + vs.length by omega, show ¬ k < o + (vs.length + 1) by omega, show o + 1 + vs.length + (k - (o + 1 + vs.length)) = k by omega, show o + (vs.length + 1) + (k - (o + (vs.length + 1))) = k by omega, show ¬ o = k by omega]
end Go.Proofs.YtjiddcchklaiiaaGreatDoor


/- slices.Grow of the nil slice, as a meaning: an own row without elements. -/
namespace Go.Proofs.YtjiddcchklaiiaaGreatDoor
set_option linter.unusedVariables false
set_option linter.unusedSimpArgs false
open Go Go.RowKit Go.Shelf
end Go.Proofs.YtjiddcchklaiiaaGreatDoor


/- The types that the printed functions use, as the program has them. -/
namespace Go.Proofs.YtjiddcchklaiiaaGreatDoor
open Go Go.RowKit
set_option maxRecDepth 100000
abbrev z42sg (f : SV [.v .str, .v .str] → BV [] → Option (Str)) : AF := { ps := [.v .str, .v .str], bs := [], rs := [.v .str], cs := [], R := Str, out := fun z => ((z, ()), ()), f := f }
abbrev z35sg (f : SV [.v .str, .v .str] → BV [] → Option (List Str)) : AF := { ps := [.v .str, .v .str], bs := [], rs := [.v (.sl .str)], cs := [], R := List Str, out := fun z => ((z, ()), ()), f := f }
abbrev z23sg (f : SV [.v .str, .v .u8] → BV [] → Option (Int)) : AF := { ps := [.v .str, .v .u8], bs := [], rs := [.v τ5], cs := [], R := Int, out := fun z => ((z, ()), ()), f := f }
abbrev z28sg (f : SV [.v .str, .v .str] → BV [] → Option (Int)) : AF := { ps := [.v .str, .v .str], bs := [], rs := [.v τ5], cs := [], R := Int, out := fun z => ((z, ()), ()), f := f }
abbrev z52sg (f : SV [.v .str, .v .str] → BV [] → Option (Str × Str × Bool)) : AF := { ps := [.v .str, .v .str], bs := [], rs := [.v .str, .v .str, .v .bool], cs := [], R := Str × Str × Bool, out := fun z => ((z.1, z.2.1, z.2.2, ()), ()), f := f }
abbrev z53sg (f : SV [.v (.sl τ4)] → BV [] → Option τ6) : AF := { ps := [.v (.sl τ4)], bs := [], rs := [.v (.sl τ1)], cs := [], R := List τ0, out := fun z => ((z, ()), ()), f := f }
abbrev z12sg (f : SV [.row 0, .v (.clo 17 .un)] → BV [.row 38 τ7 true] → Option τ16) : AF := { ps := [.row 0, .v (.clo 17 .un)], bs := [.row 38 τ7 true], rs := [], cs := [.row 38 τ7 true, .none], R := List τ3, out := fun z => ((), (z, (), ())), f := f }
abbrev z56sg (f : SV [.v (.sl τ4)] → BV [] → Option (List Str × List Int)) : AF := { ps := [.v (.sl τ4)], bs := [], rs := [.v (.sl .str), .v (.sl τ5)], cs := [], R := List Str × List Int, out := fun z => ((z.1, z.2, ()), ()), f := f }
abbrev z17sg (f : SV [.row 0, .v (.clo 25 .un)] → BV [.row 62 τ4 true] → Option τ15) : AF := { ps := [.row 0, .v (.clo 25 .un)], bs := [.row 62 τ4 true], rs := [], cs := [.row 62 τ4 true, .none], R := List τ2, out := fun z => ((), (z, (), ())), f := f }
abbrev z16sg (f : SV [.row 0, .v τ5, .v τ5] → BV [.row 38 τ7 true] → Option τ16) : AF := { ps := [.row 0, .v τ5, .v τ5], bs := [.row 38 τ7 true], rs := [.row 0], cs := [.row 38 τ7 true, .none, .none], R := List τ3, out := fun z => (((), ()), (z, (), (), ())), f := f }
abbrev z9sg (f : SV [.row 0] → BV [.row 9 .str true] → Option (List Str)) : AF := { ps := [.row 0], bs := [.row 9 .str true], rs := [], cs := [.row 9 .str true, .none], R := List Str, out := fun z => ((), (z, (), ())), f := f }
theorem tyOk_int : TyOk Tryz.prog 3 τ5 := ⟨_, by kernel_rfl, Tryz.underlying3, rfl⟩
theorem tyOk_bool : TyOk Tryz.prog 4 .bool := ⟨_, by kernel_rfl, Tryz.underlying4, rfl⟩
theorem tyOk_uint8 : TyOk Tryz.prog 5 .u8 := ⟨_, by kernel_rfl, Tryz.underlying5, rfl⟩
theorem tyOk_string : TyOk Tryz.prog 9 .str := ⟨_, by kernel_rfl, Tryz.underlying9, rfl⟩
theorem tyOk_ABapiDFile : TyOk Tryz.prog 22 (.sl τ4) := ⟨_, by kernel_rfl, Tryz.underlying22, rfl⟩
theorem tyOk_ABapiDObject : TyOk Tryz.prog 23 (.sl τ7) := ⟨_, by kernel_rfl, Tryz.underlying23, rfl⟩
theorem tyOk_ABstring : TyOk Tryz.prog 31 (.sl .str) := ⟨_, by kernel_rfl, Tryz.underlying31, rfl⟩
theorem tyOk_ABuint8 : TyOk Tryz.prog 36 τ17 := ⟨_, by kernel_rfl, Tryz.underlying36, rfl⟩
theorem tyOk_smithyardSapiDObject : TyOk Tryz.prog 38 τ7 := ⟨_, by kernel_rfl, Tryz.underlying38, rfl⟩
theorem tyOk_mapAstringBABuint8 : TyOk Tryz.prog 44 (.mp τ17) := ⟨_, by kernel_rfl, Tryz.underlying44, rfl⟩
theorem tyOk_smithyardSblobDwriter : TyOk Tryz.prog 46 (.pr (.mp τ17) .un) := ⟨_, by kernel_rfl, Tryz.underlying46, rfl⟩
theorem tyOk_ABABuint8 : TyOk Tryz.prog 53 (.sl τ17) := ⟨_, by kernel_rfl, Tryz.underlying53, rfl⟩
theorem tyOk_smithyardSblobDtreeReader : TyOk Tryz.prog 58 (.pr (.sl τ7) (.sl τ4)) := ⟨_, by kernel_rfl, Tryz.underlying58, rfl⟩
theorem tyOk_smithyardSapiDFile : TyOk Tryz.prog 62 τ4 := ⟨_, by kernel_rfl, Tryz.underlying62, rfl⟩
theorem tyOk_mapAstringBbool : TyOk Tryz.prog 64 (.mp .bool) := ⟨_, by kernel_rfl, Tryz.underlying64, rfl⟩
theorem tyOk_ABblobDentry : TyOk Tryz.prog 67 (.sl τ10) := ⟨_, by kernel_rfl, Tryz.underlying67, rfl⟩
theorem tyOk_smithyardSblobDentry : TyOk Tryz.prog 71 τ10 := ⟨_, by kernel_rfl, Tryz.underlying71, rfl⟩
theorem tyOk_ABblobDnode : TyOk Tryz.prog 76 (.sl τ1) := ⟨_, by kernel_rfl, Tryz.underlying76, rfl⟩
theorem tyOk_PapiDFile : TyOk Tryz.prog 79 (.np τ4) := ⟨_, by kernel_rfl, Tryz.underlying79, rfl⟩
theorem tyOk_smithyardSblobDnode : TyOk Tryz.prog 81 τ1 := ⟨_, by kernel_rfl, Tryz.underlying81, rfl⟩
theorem tyOk_uint : TyOk Tryz.prog 84 (.int .u64) := ⟨_, by kernel_rfl, Tryz.underlying84, rfl⟩
theorem tyOk_uint64 : TyOk Tryz.prog 85 (.int .u64) := ⟨_, by kernel_rfl, Tryz.underlying85, rfl⟩
def tyT : TypeId → Option Ty := fun T =>
 match T with
 | 3 => some τ5
 | 4 => some .bool
 | 5 => some .u8
 | 9 => some .str
 | 22 => some (.sl τ4)
 | 23 => some (.sl τ7)
 | 31 => some (.sl .str)
 | 36 => some τ17
 | 38 => some τ7
 | 44 => some (.mp τ17)
 | 46 => some (.pr (.mp τ17) .un)
 | 53 => some (.sl τ17)
 | 58 => some (.pr (.sl τ7) (.sl τ4))
 | 62 => some τ4
 | 64 => some (.mp .bool)
 | 67 => some (.sl τ10)
 | 71 => some τ10
 | 76 => some (.sl τ1)
 | 79 => some (.np τ4)
 | 81 => some τ1
 | 84 => some (.int .u64)
 | 85 => some (.int .u64)
 | _ => none
theorem tyT_ok : ∀ T t, tyT T = some t → TyOk Tryz.prog T t := by
 intro T t h
 unfold tyT at h
 split at h
 · cases h; exact tyOk_int
 · cases h; exact tyOk_bool
 · cases h; exact tyOk_uint8
 · cases h; exact tyOk_string
 · cases h; exact tyOk_ABapiDFile
 · cases h; exact tyOk_ABapiDObject
 · cases h; exact tyOk_ABstring
 · cases h; exact tyOk_ABuint8
 · cases h; exact tyOk_smithyardSapiDObject
 · cases h; exact tyOk_mapAstringBABuint8
 · cases h; exact tyOk_smithyardSblobDwriter
 · cases h; exact tyOk_ABABuint8
 · cases h; exact tyOk_smithyardSblobDtreeReader
 · cases h; exact tyOk_smithyardSapiDFile
 · cases h; exact tyOk_mapAstringBbool
 · cases h; exact tyOk_ABblobDentry
 · cases h; exact tyOk_smithyardSblobDentry
 · cases h; exact tyOk_ABblobDnode
 · cases h; exact tyOk_PapiDFile
 · cases h; exact tyOk_smithyardSblobDnode
 · cases h; exact tyOk_uint
 · cases h; exact tyOk_uint64
 · cases h
def elT : TypeId → Option (TypeId × Ty) := fun T =>
 match T with
 | 22 => some (62, τ4)
 | 23 => some (38, τ7)
 | 31 => some (9, .str)
 | 36 => some (5, .u8)
 | 53 => some (36, τ17)
 | 67 => some (71, τ10)
 | 76 => some (81, τ1)
 | _ => none
theorem elT_ok : ∀ T e t, elT T = some (e, t) → ElOk Tryz.prog T e t := by
 intro T e t h
 unfold elT at h
 split at h
 · cases h; exact ⟨tyOk_smithyardSapiDFile, 48, ElemT.mk_ Tryz.underlying22 (z := mkV τ4 (zeroC τ4)) (by kernel_rfl) rfl (by decide) (by decide), by decide⟩
 · cases h; exact ⟨tyOk_smithyardSapiDObject, 40, ElemT.mk_ Tryz.underlying23 (z := mkV τ7 (zeroC τ7)) (by kernel_rfl) rfl (by decide) (by decide), by decide⟩
 · cases h; exact ⟨tyOk_string, 16, ElemT.mk_ Tryz.underlying31 (z := mkV .str (zeroC .str)) (by kernel_rfl) rfl (by decide) (by decide), by decide⟩
 · cases h; exact ⟨tyOk_uint8, 1, ElemT.mk_ Tryz.underlying36 (z := mkV .u8 (zeroC .u8)) (by kernel_rfl) rfl (by decide) (by decide), by decide⟩
 · cases h; exact ⟨tyOk_ABuint8, 24, ElemT.mk_ Tryz.underlying53 (z := mkV τ17 (zeroC τ17)) (by kernel_rfl) rfl (by decide) (by decide), by decide⟩
 · cases h; exact ⟨tyOk_smithyardSblobDentry, 40, ElemT.mk_ Tryz.underlying67 (z := mkV τ10 (zeroC τ10)) (by kernel_rfl) rfl (by decide) (by decide), by decide⟩
 · cases h; exact ⟨tyOk_smithyardSblobDnode, 48, ElemT.mk_ Tryz.underlying76 (z := mkV τ1 (zeroC τ1)) (by kernel_rfl) rfl (by decide) (by decide), by decide⟩
 · cases h
def fldT : TypeId → Nat → Option (Nat × Ty) := fun T f =>
 match T, f with
 | 38, 0 => some (0, .str)
 | 38, 1 => some (1, τ17)
 | 46, 0 => some (0, (.mp τ17))
 | 58, 0 => some (0, (.sl τ7))
 | 58, 1 => some (1, (.sl τ4))
 | 62, 0 => some (0, .str)
 | 62, 1 => some (1, .bool)
 | 62, 2 => some (2, τ17)
 | 71, 0 => some (0, .str)
 | 71, 1 => some (1, .str)
 | 71, 2 => some (2, .bool)
 | 71, 3 => some (3, .bool)
 | 81, 0 => some (0, .str)
 | 81, 1 => some (1, (.np τ4))
 | 81, 2 => some (2, (.sl τ4))
 | _, _ => none
theorem fldT_ok : ∀ T f off t, fldT T f = some (off, t) → FldOk Tryz.prog T f off t := by
 intro T f off t h
 unfold fldT at h
 split at h
 · cases h; exact ⟨_, _, Tryz.underlying38, rfl, rfl, tyOk_string, by decide⟩
 · cases h; exact ⟨_, _, Tryz.underlying38, rfl, rfl, tyOk_ABuint8, by decide⟩
 · cases h; exact ⟨_, _, Tryz.underlying46, rfl, rfl, tyOk_mapAstringBABuint8, by decide⟩
 · cases h; exact ⟨_, _, Tryz.underlying58, rfl, rfl, tyOk_ABapiDObject, by decide⟩
 · cases h; exact ⟨_, _, Tryz.underlying58, rfl, rfl, tyOk_ABapiDFile, by decide⟩
 · cases h; exact ⟨_, _, Tryz.underlying62, rfl, rfl, tyOk_string, by decide⟩
 · cases h; exact ⟨_, _, Tryz.underlying62, rfl, rfl, tyOk_bool, by decide⟩
 · cases h; exact ⟨_, _, Tryz.underlying62, rfl, rfl, tyOk_ABuint8, by decide⟩
 · cases h; exact ⟨_, _, Tryz.underlying71, rfl, rfl, tyOk_string, by decide⟩
 · cases h; exact ⟨_, _, Tryz.underlying71, rfl, rfl, tyOk_string, by decide⟩
 · cases h; exact ⟨_, _, Tryz.underlying71, rfl, rfl, tyOk_bool, by decide⟩
 · cases h; exact ⟨_, _, Tryz.underlying71, rfl, rfl, tyOk_bool, by decide⟩
 · cases h; exact ⟨_, _, Tryz.underlying81, rfl, rfl, tyOk_string, by decide⟩
 · cases h; exact ⟨_, _, Tryz.underlying81, rfl, rfl, tyOk_PapiDFile, by decide⟩
 · cases h; exact ⟨_, _, Tryz.underlying81, rfl, rfl, tyOk_ABapiDFile, by decide⟩
 · cases h
theorem mpT_ok : ∀ T e, tyT T = some (.mp e) → MpOk Tryz.prog T e := by
 intro T e h
 unfold tyT at h
 split at h
 · cases h
 · cases h
 · cases h
 · cases h
 · cases h
 · cases h
 · cases h
 · cases h
 · cases h
 · cases h; exact ⟨_, _, Tryz.underlying44, Tryz.underlying9, tyOk_ABuint8⟩
 · cases h
 · cases h
 · cases h
 · cases h
 · cases h; exact ⟨_, _, Tryz.underlying64, Tryz.underlying9, tyOk_bool⟩
 · cases h
 · cases h
 · cases h
 · cases h
 · cases h
 · cases h
 · cases h
 · cases h
theorem bldT_ok : ∀ T t, tyT T = some t → t.isAgg = true → ∃ fs places, Tryz.prog.underlying T = some (.struct fs) ∧ fs.toList.mapM (fun f => (Tryz.prog.info? f.type).map fun i => (f.offset, i.size)) = some places := by
 intro T t h ha
 unfold tyT at h
 split at h
 · cases h; cases ha
 · cases h; cases ha
 · cases h; cases ha
 · cases h; cases ha
 · cases h; cases ha
 · cases h; cases ha
 · cases h; cases ha
 · cases h; cases ha
 · exact ⟨_, [(0, 1), (1, 1)], Tryz.underlying38, by kernel_rfl⟩
 · cases h; cases ha
 · exact ⟨_, [(0, 1)], Tryz.underlying46, by kernel_rfl⟩
 · cases h; cases ha
 · exact ⟨_, [(0, 1), (1, 1)], Tryz.underlying58, by kernel_rfl⟩
 · exact ⟨_, [(0, 1), (1, 1), (2, 1)], Tryz.underlying62, by kernel_rfl⟩
 · cases h; cases ha
 · cases h; cases ha
 · exact ⟨_, [(0, 1), (1, 1), (2, 1), (3, 1)], Tryz.underlying71, by kernel_rfl⟩
 · cases h; cases ha
 · cases h; cases ha
 · exact ⟨_, [(0, 1), (1, 1), (2, 1)], Tryz.underlying81, by kernel_rfl⟩
 · cases h; cases ha
 · cases h; cases ha
 · cases h
theorem ptT_ok : ∀ T t, tyT T = some t → isPtr t = true → (Tryz.prog.info? (Tryz.prog.pointee T)).isSome = true := by
 intro T t h ha
 unfold tyT at h
 split at h
 · cases h; cases ha
 · cases h; cases ha
 · cases h; cases ha
 · cases h; cases ha
 · cases h; cases ha
 · cases h; cases ha
 · cases h; cases ha
 · cases h; cases ha
 · cases h; cases ha
 · cases h; cases ha
 · cases h; cases ha
 · cases h; cases ha
 · cases h; cases ha
 · cases h; cases ha
 · cases h; cases ha
 · cases h; cases ha
 · cases h; cases ha
 · cases h; cases ha
 · kernel_rfl
 · cases h; cases ha
 · cases h; cases ha
 · cases h; cases ha
 · cases h
def cmpT : TypeId → Option Ty := fun T =>
 match T with
 | _ => none
theorem cmpT_ok : ∀ T t, cmpT T = some t → CmpOk Tryz.prog T t := by
 intro T t h
 unfold cmpT at h
 split at h
 · cases h
def bysT : TypeId → Option TypeId := fun T =>
 match T with
 | 36 => some 5
 | _ => none
theorem bysT_ok : ∀ T e, bysT T = some e → ∃ i, Tryz.prog.underlying T = some (.slice e) ∧ Tryz.prog.info? e = some i ∧ i.zero = some (.int .u8 0) ∧ i.size = 1 ∧ i.bytes = 1 := by
 intro T e h
 unfold bysT at h
 split at h
 · cases h; obtain ⟨i, a, b, c, d⟩ := info_parts (by kernel_rfl : (Tryz.prog.info? 5).map (fun i => (i.zero, i.size, i.bytes)) = some (some (.int .u8 0), 1, 1)); exact ⟨i, Tryz.underlying36, a, b, c, d⟩
 · cases h
def mkE (h : Nat → Hint) (fn : FuncId → Option Tmp → Option AF) (exq : Nat → Bool) (live : FuncId → Bool) : Env := { ty := tyT, el := elT, fld := fldT, cmp := cmpT, fn := fn, hint := h, exq := exq, live := live, raw := true, bys := bysT }
theorem mkE_ok (hh : Nat → Hint) (fn : FuncId → Option Tmp → Option AF) (exq : Nat → Bool) (live : FuncId → Bool) (h : ∀ f q F, fn f q = some F → Sound Tryz.prog GW B0G f F) : EnvOk Tryz.prog GW B0G (mkE hh fn exq live) :=
 { ty := tyT_ok, el := elT_ok, fld := fldT_ok, mp := mpT_ok, bld := bldT_ok, ptr := ptT_ok, cmp := cmpT_ok, fn := h, stable := GW_stable, mixed := by kernel_rfl, bys := bysT_ok }
end Go.Proofs.YtjiddcchklaiiaaGreatDoor

