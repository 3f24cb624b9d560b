/-
  DERIVED: THE SHELF's CONTRACTS AT THIS DUMP, IN PLAIN WORDS (tools/lay-plain.mjs out of 'TryzShelf.lean', which tools/lay-shelf.mjs wrote): THE SAME DECLARATIONS UNDER THE SAME NAMES: 'import', 'namespace', 'open', 'def', 'theorem' AND NOTHING ELSE: no command of the shelf's: FOR A HAND-IN. Each laying: the table of numbers ('.._ren') and one theorem, a field a fact of the dump's own or the kernel's comparison; each contract: ONE APPLICATION.
-/
import Derived.Shelf.Small.Bits
import Derived.Shelf.Small.Strs
import Derived.Shelf.Utf8.RuneCount
import Derived.Shelf.Strconv.Itoa0
import Derived.Shelf.Strings.Search1
import Derived.Shelf.Strings.Search2
import Derived.Shelf.Strings.Search3
import Derived.Shelf.Strings.Cut
import Derived.Shelf.Strings.Count
import Derived.Shelf.LaysM
import Derived.Shelf.Strings.Shaped
import Derived.Shelf.Strings.Split
import Derived.Shelf.Strings.SplitShaped
import Derived.Shelf.Unicode.Decode
import Derived.Shelf.Strings.RuneCount
import Derived.Shelf.Strings.Explode
import Derived.Shelf.Unicode.DecodeSlow
import Derived.Shelf.Unicode.DecodeAny
import Derived.Shelf.Slices.Turned
import Derived.Shelf.Slices.Equal
import Derived.Ground.Names2Prog
import Derived.Shelf.Slices.ReverseS
import Derived.Shelf.Slices.Clone
import Derived.Shelf.Slices.CompactS
import Derived.Shelf.Slices.Cells
import Derived.Ground.SlgnProg
import Derived.Shelf.SlicesE.Clone
import Derived.Ground.SlgmProg
import Derived.Shelf.SortM.Plain
import Derived.Shelf.SortM.SortNone
import Derived.Test.YtahjncefiegflaaGreatDoorProg
import Derived.Test.YtahjncefiegflaaGreatDoorQBmDf
import Derived.WalkSpells
import Derived.WalkLawsBesides
import Derived.Outline
import Derived.IntWalk
import Derived.WalkKit
import Derived.Defers
import Derived.Recover
import Derived.Shelf.Strings.SlTrimAscii
import Derived.Lib.Join
import Derived.RangeFuncBox
import Derived.RangeFuncLeaves
import Derived.RangeFuncWrites
import Derived.Shelf.Abstract
import Derived.OwnWalkIn
import Derived.TacticsInMore
import Derived.LoopNIn
import Derived.LoopIn
import Derived.Shelf.SlIter.Collect
namespace Go.Proofs
open Go.Shelf
def Tryz.lays106_ren : Go.Shelf.Ren := ⟨fun | 106 => 68 | 213 => 112 | 265 => 153 | n => n, fun | 9 => 9 | 3 => 3 | n => n, fun | n => n⟩
theorem Tryz.lays106 : Go.Proofs.Lays.n106 Tryz.prog Tryz.lays106_ren := {
  mixed := by kernel_rfl
  f106 := Tryz.func68.trans (congrArg some (by kernel_rfl))
  f213 := Tryz.func112.trans (congrArg some (by kernel_rfl))
  f265 := Tryz.func153.trans (congrArg some (by kernel_rfl))
  t3 := Tryz.underlying3
  a3 := Tryz.isAgg3
  z3 := Tryz.sizeOf3
  v3 := Tryz.zeroValue3
  t9 := Tryz.underlying9
  a9 := Tryz.isAgg9
  z9 := Tryz.sizeOf9
  v9 := Tryz.zeroValue9 }
open Go.RowKit in
/-- strings.Compare: "Compare returns an integer comparing two strings lexicographically. The result will be 0 if a == b, -1 if a < b, and +1 if a > b.": IT RETURNS 'Lib.compareBytes a b'; the world is as it was. (LAID: no walk: one application.) -/
theorem Tryz.strings_Compare (a b : ByteArray) (w : World) :
    Calls Tryz.prog 68 #[.string a, .string b] w fun e w' => e = .returned (.int .i64 (Lib.compareBytes a.data.toList b.data.toList)) ∧ w' = w := Any.strings_Compare Tryz.lays106 a b w
def Tryz.lays137_ren : Go.Shelf.Ren := ⟨fun | 137 => 116 | 217 => 164 | 266 => 201 | n => n, fun | 9 => 9 | 5 => 5 | 3 => 3 | n => n, fun | n => n⟩
theorem Tryz.lays137 : Go.Proofs.Lays.n137 Tryz.prog Tryz.lays137_ren := {
  mixed := by kernel_rfl
  f137 := Tryz.func116.trans (congrArg some (by kernel_rfl))
  f217 := Tryz.func164.trans (congrArg some (by kernel_rfl))
  f266 := Tryz.func201.trans (congrArg some (by kernel_rfl))
  t3 := Tryz.underlying3
  a3 := Tryz.isAgg3
  z3 := Tryz.sizeOf3
  v3 := Tryz.zeroValue3
  t5 := Tryz.underlying5
  a5 := Tryz.isAgg5
  z5 := Tryz.sizeOf5
  v5 := Tryz.zeroValue5
  t9 := Tryz.underlying9
  a9 := Tryz.isAgg9
  z9 := Tryz.sizeOf9
  v9 := Tryz.zeroValue9 }
open Go.RowKit in
/-- strings.IndexByte: "IndexByte returns the index of the first instance of c in s, or -1 if c is not present in s.": IT RETURNS 'Lib.indexByte s c'; the world is as it was. (LAID: no walk: one application.) -/
theorem Tryz.strings_IndexByte (s : ByteArray) (c : Int) (w : World) :
    Calls Tryz.prog 116 #[.string s, .int .u8 c] w fun e w' => e = .returned (.int .i64 (Lib.indexByte s.data.toList c.toNat.toUInt8)) ∧ w' = w := Any.strings_IndexByte Tryz.lays137 s c w
def Tryz.laysM143_ren : Go.Shelf.Ren := ⟨fun | 143 => 187 | 219 => 139 | 217 => 164 | 225 => 188 | 224 => 189 | 267 => 190 | 266 => 201 | 314 => 237 | n => n, fun | 9 => 9 | 3 => 3 | 4 => 4 | 5 => 5 | 46 => 150 | 146 => 285 | 51 => 199 | n => n, fun | 1 => 0 | n => n⟩
theorem Tryz.laysM143 : Go.Proofs.LaysM.n143 Tryz.prog Tryz.laysM143_ren := {
  mixed := by kernel_rfl
  f143 := Tryz.func187.trans (congrArg some (by kernel_rfl))
  f217 := Tryz.func164.trans (congrArg some (by kernel_rfl))
  f219 := Tryz.func139.trans (congrArg some (by kernel_rfl))
  f224 := Tryz.func189.trans (congrArg some (by kernel_rfl))
  f225 := Tryz.func188.trans (congrArg some (by kernel_rfl))
  f266 := Tryz.func201.trans (congrArg some (by kernel_rfl))
  f267 := Tryz.func190.trans (congrArg some (by kernel_rfl))
  f314 := Tryz.func237.trans (congrArg some (by kernel_rfl))
  t3 := Tryz.underlying3
  a3 := Tryz.isAgg3
  z3 := Tryz.sizeOf3
  v3 := Tryz.zeroValue3
  t4 := Tryz.underlying4
  a4 := Tryz.isAgg4
  z4 := Tryz.sizeOf4
  v4 := Tryz.zeroValue4
  t5 := Tryz.underlying5
  a5 := Tryz.isAgg5
  z5 := Tryz.sizeOf5
  v5 := Tryz.zeroValue5
  t9 := Tryz.underlying9
  a9 := Tryz.isAgg9
  z9 := Tryz.sizeOf9
  v9 := Tryz.zeroValue9
  t46 := Tryz.underlying150
  a46 := Tryz.isAgg150
  z46 := Tryz.sizeOf150
  v46 := Tryz.zeroValue150
  t51 := Tryz.underlying199
  a51 := Tryz.isAgg199
  z51 := Tryz.sizeOf199
  v51 := Tryz.zeroValue199
  t146 := Tryz.underlying285
  a146 := Tryz.isAgg285
  z146 := Tryz.sizeOf285
  v146 := Tryz.zeroValue285
  g1 := by kernel_rfl
  i3 := by kernel_rfl
  i4 := by kernel_rfl
  i5 := by kernel_rfl
  i9 := by kernel_rfl
  i46 := by kernel_rfl
  i51 := by kernel_rfl
  i146 := by kernel_rfl
  m1 := by kernel_rfl
  s1_3 := fun w h => Go.Proofs.cell_of_shapedOpen_int (zero := #[.int .i64 0]) (t := 3) h (of_decide_eq_true (by kernel_rfl)) (by kernel_rfl) rfl (by kernel_rfl) (by kernel_rfl) Tryz.underlying3 }
def Tryz.lays146_ren : Go.Shelf.Ren := ⟨fun | 146 => 103 | 221 => 136 | 268 => 185 | 138 => 186 | 143 => 187 | 195 => 234 | 197 => 235 | 218 => 236 | 219 => 139 | 260 => 262 | 217 => 164 | 225 => 188 | 224 => 189 | 267 => 190 | 266 => 201 | 314 => 237 | n => n, fun | 9 => 9 | 31 => 22 | 3 => 3 | 4 => 4 | 0 => 0 | 105 => 283 | 21 => 21 | 5 => 5 | 46 => 150 | 119 => 327 | 139 => 330 | 138 => 329 | 146 => 285 | 51 => 199 | n => n, fun | 1 => 0 | 3 => 3 | 4 => 4 | n => n⟩
theorem Tryz.lays146 : Go.Proofs.Lays.n146 Tryz.prog Tryz.lays146_ren := {
  mixed := by kernel_rfl
  f138 := Tryz.func186.trans (congrArg some (by kernel_rfl))
  f143 := Tryz.func187.trans (congrArg some (by kernel_rfl))
  f146 := Tryz.func103.trans (congrArg some (by kernel_rfl))
  f195 := Tryz.func234.trans (congrArg some (by kernel_rfl))
  f197 := Tryz.func235.trans (congrArg some (by kernel_rfl))
  f217 := Tryz.func164.trans (congrArg some (by kernel_rfl))
  f218 := Tryz.func236.trans (congrArg some (by kernel_rfl))
  f219 := Tryz.func139.trans (congrArg some (by kernel_rfl))
  f221 := Tryz.func136.trans (congrArg some (by kernel_rfl))
  f224 := Tryz.func189.trans (congrArg some (by kernel_rfl))
  f225 := Tryz.func188.trans (congrArg some (by kernel_rfl))
  f260 := Tryz.func262.trans (congrArg some (by kernel_rfl))
  f266 := Tryz.func201.trans (congrArg some (by kernel_rfl))
  f267 := Tryz.func190.trans (congrArg some (by kernel_rfl))
  f268 := Tryz.func185.trans (congrArg some (by kernel_rfl))
  f314 := Tryz.func237.trans (congrArg some (by kernel_rfl))
  t0 := Tryz.underlying0
  a0 := Tryz.isAgg0
  z0 := Tryz.sizeOf0
  v0 := Tryz.zeroValue0
  t3 := Tryz.underlying3
  a3 := Tryz.isAgg3
  z3 := Tryz.sizeOf3
  v3 := Tryz.zeroValue3
  t4 := Tryz.underlying4
  a4 := Tryz.isAgg4
  z4 := Tryz.sizeOf4
  v4 := Tryz.zeroValue4
  t5 := Tryz.underlying5
  a5 := Tryz.isAgg5
  z5 := Tryz.sizeOf5
  v5 := Tryz.zeroValue5
  t9 := Tryz.underlying9
  a9 := Tryz.isAgg9
  z9 := Tryz.sizeOf9
  v9 := Tryz.zeroValue9
  t21 := Tryz.underlying21
  a21 := Tryz.isAgg21
  z21 := Tryz.sizeOf21
  v21 := Tryz.zeroValue21
  t31 := Tryz.underlying22
  a31 := Tryz.isAgg22
  z31 := Tryz.sizeOf22
  v31 := Tryz.zeroValue22
  t46 := Tryz.underlying150
  a46 := Tryz.isAgg150
  z46 := Tryz.sizeOf150
  v46 := Tryz.zeroValue150
  t51 := Tryz.underlying199
  a51 := Tryz.isAgg199
  z51 := Tryz.sizeOf199
  v51 := Tryz.zeroValue199
  t105 := Tryz.underlying283
  a105 := Tryz.isAgg283
  z105 := Tryz.sizeOf283
  v105 := Tryz.zeroValue283
  t119 := Tryz.underlying327
  a119 := Tryz.isAgg327
  z119 := Tryz.sizeOf327
  t138 := Tryz.underlying329
  a138 := Tryz.isAgg329
  z138 := Tryz.sizeOf329
  v138 := Tryz.zeroValue329
  t139 := Tryz.underlying330
  a139 := Tryz.isAgg330
  z139 := Tryz.sizeOf330
  v139 := Tryz.zeroValue330
  t146 := Tryz.underlying285
  a146 := Tryz.isAgg285
  z146 := Tryz.sizeOf285
  v146 := Tryz.zeroValue285
  g1 := by kernel_rfl
  g3 := by kernel_rfl
  g4 := by kernel_rfl }
open Go.RowKit Go.Lib in
/-- strings.Split. (LAID: no walk: one application.) -/
theorem Tryz.strings_Split (s sep : ByteArray) (m : Int) (w : World) (hs : s.size < 4294967281) (hm : w.cell? ⟨0, 0, none⟩ = some (.int .i64 m)) (h1 : 1 ≤ sep.size) :
    Calls Tryz.prog 103 #[.string s, .string sep] w fun e w' =>
      e = .returned (.slice (some ⟨w.heap.size, 0, none⟩) (Lib.countB s sep + 1) (Lib.countB s sep + 1)) ∧ w' = w.alloc (.cells ((Lib.splitB sep 0 (Lib.countB s sep) s).map Value.string).toArray 9) := Any.strings_Split Tryz.lays146 (by kernel_rfl) s sep m w hs hm h1
def Tryz.lays194_ren : Go.Shelf.Ren := ⟨fun | 194 => 71 | n => n, fun | 31 => 22 | 9 => 9 | 3 => 3 | 4 => 4 | 0 => 0 | n => n, fun | n => n⟩
theorem Tryz.lays194 : Go.Proofs.Lays.n194 Tryz.prog Tryz.lays194_ren := {
  mixed := by kernel_rfl
  f194 := Tryz.func71.trans (congrArg some (by kernel_rfl))
  t0 := Tryz.underlying0
  a0 := Tryz.isAgg0
  z0 := Tryz.sizeOf0
  v0 := Tryz.zeroValue0
  t3 := Tryz.underlying3
  a3 := Tryz.isAgg3
  z3 := Tryz.sizeOf3
  v3 := Tryz.zeroValue3
  t4 := Tryz.underlying4
  a4 := Tryz.isAgg4
  z4 := Tryz.sizeOf4
  v4 := Tryz.zeroValue4
  t9 := Tryz.underlying9
  a9 := Tryz.isAgg9
  z9 := Tryz.sizeOf9
  v9 := Tryz.zeroValue9
  t31 := Tryz.underlying22
  a31 := Tryz.isAgg22
  z31 := Tryz.sizeOf22
  v31 := Tryz.zeroValue22 }
open Go.RowKit Go.Lib Go.Sort in
/-- The same at a slice of length 0, a nil one too: it comes back as it is. (LAID: no walk: one application.) -/
theorem Tryz.slices_Compact_string_empty (a : Option Addr) (cap : Nat) (w : World) :
    Calls Tryz.prog 71 #[.slice a 0 cap] w fun e w' => e = .returned (.slice a 0 cap) ∧ w' = w := Any.slices_Compact_string_empty Tryz.lays194 a cap w
open Go.RowKit Go.Lib Go.Sort in
/-- slices.Compact at []string, of an argument. (LAID: no walk: one application.) -/
theorem Tryz.slices_Compact_string_cells (b off n c : Nat) (Sx : Nat → ByteArray) (w : World) (hbig : n ≤ 9223372036854775807) (hcap : n ≤ c) (hc : ∀ i, i < n → w.cell? ⟨b, off + i, none⟩ = some (.string (Sx i))) (hf : ∀ j, j < n → w.frozen? ⟨b, off + j, none⟩ = false) :
    Calls Tryz.prog 71 #[.slice (some ⟨b, off, none⟩) n c] w fun e w' => e = .returned (.slice (some ⟨b, off, none⟩) (Lib.compact (Lib.strsOf Sx n)).length c) ∧ ∃ q, w' = (w.drewN q).setCells b off ((Lib.compact (Lib.strsOf Sx n) ++ List.replicate (n - (Lib.compact (Lib.strsOf Sx n)).length) []).map encStr) := Any.slices_Compact_string_cells Tryz.lays194 b off n c Sx w hbig hcap hc hf
def Tryz.laysSlM6_f70_ren : Go.Shelf.Ren := ⟨fun | 6 => 70 | 8 => 111 | 9 => 114 | 19 => 151 | 20 => 152 | 21 => 154 | 22 => 155 | 23 => 156 | 24 => 157 | 25 => 158 | 26 => 159 | 27 => 160 | 28 => 161 | 29 => 162 | 36 => 197 | 31 => 193 | 32 => 194 | 37 => 198 | 38 => 199 | 39 => 200 | 41 => 240 | n => n, fun | 27 => 22 | 29 => 9 | 3 => 3 | 32 => 150 | 26 => 22 | 0 => 0 | 44 => 199 | 46 => 201 | 4 => 4 | 36 => 192 | 35 => 191 | 41 => 196 | 5 => 5 | 9 => 9 | 53 => 241 | 57 => 245 | 63 => 287 | 64 => 288 | n => n, fun | n => n⟩
theorem Tryz.laysSlM6_f70 : Go.Proofs.SlLaysM.n6 Tryz.prog Tryz.laysSlM6_f70_ren := {
  mixed := by kernel_rfl
  f6 := ⟨Tryz.f70.name, by decide, Tryz.func70.trans (congrArg some (by kernel_rfl))⟩
  f8 := Tryz.func111.trans (congrArg some (by kernel_rfl))
  f9 := ⟨Tryz.f114.name, by decide, Tryz.func114.trans (congrArg some (by kernel_rfl))⟩
  f19 := Tryz.func151.trans (congrArg some (by kernel_rfl))
  f20 := Tryz.func152.trans (congrArg some (by kernel_rfl))
  f21 := ⟨Tryz.f154.name, by decide, Tryz.func154.trans (congrArg some (by kernel_rfl))⟩
  f22 := ⟨Tryz.f155.name, by decide, Tryz.func155.trans (congrArg some (by kernel_rfl))⟩
  f23 := ⟨Tryz.f156.name, by decide, Tryz.func156.trans (congrArg some (by kernel_rfl))⟩
  f24 := ⟨Tryz.f157.name, by decide, Tryz.func157.trans (congrArg some (by kernel_rfl))⟩
  f25 := ⟨Tryz.f158.name, by decide, Tryz.func158.trans (congrArg some (by kernel_rfl))⟩
  f26 := ⟨Tryz.f159.name, by decide, Tryz.func159.trans (congrArg some (by kernel_rfl))⟩
  f27 := ⟨Tryz.f160.name, by decide, Tryz.func160.trans (congrArg some (by kernel_rfl))⟩
  f28 := ⟨Tryz.f161.name, by decide, Tryz.func161.trans (congrArg some (by kernel_rfl))⟩
  f29 := ⟨Tryz.f162.name, by decide, Tryz.func162.trans (congrArg some (by kernel_rfl))⟩
  f31 := Tryz.func193.trans (congrArg some (by kernel_rfl))
  f32 := Tryz.func194.trans (congrArg some (by kernel_rfl))
  f36 := ⟨Tryz.f197.name, by decide, Tryz.func197.trans (congrArg some (by kernel_rfl))⟩
  f37 := ⟨Tryz.f198.name, by decide, Tryz.func198.trans (congrArg some (by kernel_rfl))⟩
  f38 := ⟨Tryz.f199.name, by decide, Tryz.func199.trans (congrArg some (by kernel_rfl))⟩
  f39 := ⟨Tryz.f200.name, by decide, Tryz.func200.trans (congrArg some (by kernel_rfl))⟩
  f41 := ⟨Tryz.f240.name, by decide, Tryz.func240.trans (congrArg some (by kernel_rfl))⟩
  t0 := Tryz.underlying0
  a0 := Tryz.isAgg0
  z0 := Tryz.sizeOf0
  v0 := Tryz.zeroValue0
  t3 := Tryz.underlying3
  a3 := Tryz.isAgg3
  z3 := Tryz.sizeOf3
  v3 := Tryz.zeroValue3
  t4 := Tryz.underlying4
  a4 := Tryz.isAgg4
  z4 := Tryz.sizeOf4
  v4 := Tryz.zeroValue4
  t5 := Tryz.underlying5
  a5 := Tryz.isAgg5
  z5 := Tryz.sizeOf5
  v5 := Tryz.zeroValue5
  t9 := Tryz.underlying9
  a9 := Tryz.isAgg9
  z9 := Tryz.sizeOf9
  v9 := Tryz.zeroValue9
  t26 := Tryz.underlying22
  a26 := Tryz.isAgg22
  z26 := Tryz.sizeOf22
  v26 := Tryz.zeroValue22
  t27 := Tryz.underlying22
  a27 := Tryz.isAgg22
  z27 := Tryz.sizeOf22
  v27 := Tryz.zeroValue22
  t29 := Tryz.underlying9
  a29 := Tryz.isAgg9
  z29 := Tryz.sizeOf9
  v29 := Tryz.zeroValue9
  t32 := Tryz.underlying150
  a32 := Tryz.isAgg150
  z32 := Tryz.sizeOf150
  v32 := Tryz.zeroValue150
  t35 := Tryz.underlying191
  a35 := Tryz.isAgg191
  z35 := Tryz.sizeOf191
  v35 := Tryz.zeroValue191
  t36 := Tryz.underlying192
  a36 := Tryz.isAgg192
  z36 := Tryz.sizeOf192
  v36 := Tryz.zeroValue192
  t41 := Tryz.underlying196
  a41 := Tryz.isAgg196
  z41 := Tryz.sizeOf196
  v41 := Tryz.zeroValue196
  t44 := Tryz.underlying199
  a44 := Tryz.isAgg199
  z44 := Tryz.sizeOf199
  v44 := Tryz.zeroValue199
  t46 := Tryz.underlying201
  a46 := Tryz.isAgg201
  z46 := Tryz.sizeOf201
  v46 := Tryz.zeroValue201
  t53 := Tryz.underlying241
  a53 := Tryz.isAgg241
  z53 := Tryz.sizeOf241
  v53 := Tryz.zeroValue241
  t57 := Tryz.underlying245
  a57 := Tryz.isAgg245
  z57 := Tryz.sizeOf245
  v57 := Tryz.zeroValue245
  t63 := Tryz.underlying287
  a63 := Tryz.isAgg287
  z63 := Tryz.sizeOf287
  v63 := Tryz.zeroValue287
  t64 := Tryz.underlying288
  a64 := Tryz.isAgg288
  z64 := Tryz.sizeOf288
  v64 := Tryz.zeroValue288 }
open Go.Sort Go.RowKit in
theorem Tryz.slices_Sort_string (blk off cap : Nat) (ss : List (List UInt8)) (w : World) (hH : Holds encStr w blk off ss.toArray) (hblk : blk < w.heap.size) (hsz : ss.length < 4611686018427387904) :
    Calls Tryz.prog 70 #[.slice (some ⟨blk, off, none⟩) ss.length cap] w fun e w' =>
      e = .returned (.tuple #[]) ∧ ∃ n os, w' = grow (putRow encStr (Sort.ahead w n) blk off (ss.mergeSort fun x y => decide (x ≤ y)).toArray) os := AnyM.slices_Sort_string Tryz.laysSlM6_f70 blk off cap ss w hH hblk hsz
open Go.RowKit Go.Sort in
/-- .. and plain. (LAID AT THE INSTANCE 'slices.Sort[[]string,string]': no walk: one application.) -/
theorem Tryz.slices_Sort_string_none (p : Option Addr) (cap : Nat) (w : World) :
    Calls Tryz.prog 70 #[.slice p 0 cap] w fun e w' => e = .returned (.tuple #[]) ∧ w' = w := AnyM.slices_Sort_string_none Tryz.laysSlM6_f70 p cap w
end Go.Proofs


/- How a contract of the kit is said of the machine. -/
namespace Go.Proofs.YtahjncefiegflaaGreatDoor
set_option linter.unusedVariables false
set_option linter.unusedSimpArgs false
open Go Go.RowKit Go.Shelf
abbrev g0 : Gh := fun _ => none
theorem Sound.ofExt {P : Program} {G : World → Prop} {B0 : Nat} {f : FuncId} {ps rs : List Sl} {R : Type} [BothC R] {out : R → SV rs × BV []} {F : SV ps → BV [] → Option R}
    (hcall : ∀ (args : Array Value) (w : World), (callFunc f args).run P w = .ok (.enter f args) w)
    (h : ∀ (M : Nat → Nat → Prop) (w : World) (vs : List Value) (x : SV ps) (z : R), G w → (∀ b o, M b o → b < w.heap.size) → All2 (RepD0 M w g0) (lays id ps x) vs → F x () = some z →
      Calls P f vs.toArray w fun e w' => ∃ vs', e = .returned (rets vs') ∧ Ext w w' ∧ All2 (RepD0 M w' g0) (lays id rs (out z).1) vs') : Sound P G B0 f ⟨ps, [], rs, [], R, out, F⟩ := by
  refine ⟨hcall, fun M w g vs x y z hG hB hF hz => ?_⟩
  have hg : g = g0 := by
    funext r
    cases hr : g r with
    | none => rfl
    | some gx => exact absurd (hF.dom r gx hr) (Nat.not_lt_zero _)
  subst hg
  have hM : Mafter M g0 g0 = M := by
    funext b o
    refine propext ⟨fun h => ?_, fun h => .inl ⟨h, fun ⟨_, _, hx, _⟩ => by cases hx⟩⟩
    exact h.elim (fun h => h.1) fun ⟨_, _, hx, _⟩ => by cases hx
  refine (h M w vs x z hG hF.mlt hF.args hz).mono fun e w' hp => ?_
  obtain ⟨vs', he, hE, hA⟩ := hp
  refine ⟨vs', g0, he, ExtX.of_ext hE, ?_, ?_, fun _ _ h _ => (by cases h), fun b hb => .inl hb⟩
  · rw [hM]; exact Step.ext hE
  · rw [hM]
    exact { args := hA, res := fun r blk h => (by cases h), dom := fun r gx h => (by cases h), inj := fun _ _ _ _ _ h => (by cases h), low := fun _ _ _ h => (by cases h), chg := fun _ _ _ _ h => (by cases h), mlt := fun b o h => Nat.lt_of_lt_of_le (hF.mlt b o h) hE.size, row := fun _ _ _ h => (by cases h) }
section
variable {M : Nat → Nat → Prop} {w : World}
theorem RepV.str {x : Str} {v : Value} (h : RepV M w .str x v) : v = .string ⟨List.toArray x⟩ := by
  have := RepV.plain rfl h
  have := (show [v] = [.string ⟨List.toArray x⟩] from this)
  injection this
theorem RepV.u8 {x : UInt8} {v : Value} (h : RepV M w .u8 x v) : v = .int .u8 (UInt8.toNat x) := by
  have := RepV.plain rfl h
  have := (show [v] = [.int .u8 (UInt8.toNat x)] from this)
  injection this
theorem RepV.int {k : IntKind} {x : Int} {v : Value} (h : RepV M w (.int k) x v) : v = .int k x := by
  have := RepV.plain rfl h
  have := (show [v] = [.int k x] from this)
  injection this
theorem vInt (k : IntKind) (x : Int) : RepV M w (.int k) x (.int k x) := RepC.toV rfl rfl
/-- A slice of strings: where its cells lie. -/
theorem RepV.strs {xs : List Str} {v : Value} (h : RepV M w (.sl .str) xs v) : ∃ A c, v = .slice A xs.length c ∧ xs.length ≤ c ∧ c ≤ maxLen ∧ (xs ≠ [] → ∃ b o, A = some ⟨b, o, none⟩ ∧ ∀ j x, xs[j]? = some x → w.cell? ⟨b, o + j, none⟩ = some (.string ⟨x.toArray⟩)) := by
  obtain ⟨A, c, h1, h2, h3, h4⟩ := RepV.plain (t := .sl .str) rfl h
  injection h1 with h1
  refine ⟨A, c, h1, h2, h3, fun hx => ?_⟩
  have hat : ∀ i (h : i < xs.length), ∃ ad, A = some ad ∧ w.cell? (ad.add i) = some (.string ⟨xs[i].toArray⟩) := fun i hi => by
    obtain ⟨ad, es, a1, a2, a3⟩ := h4 i hi
    have a2' : es = [.string ⟨xs[i].toArray⟩] := a2
    subst a2'
    have := (a3 0 _ rfl).1
    have e : (ad.add (i * Ty.sz .str)).add 0 = ad.add i := by show Addr.add (Addr.add ad (i * 1)) 0 = _; rw [Nat.mul_one]; rfl
    rw [e] at this
    exact ⟨ad, a1, this⟩
  have hl : 0 < xs.length := by cases xs with
    | nil => exact absurd rfl hx
    | cons => exact Nat.succ_pos _
  obtain ⟨ad, a1, a2⟩ := hat 0 hl
  obtain ⟨b, o, sp⟩ := ad
  have hsp : sp = none := by
    cases sp with
    | none => rfl
    | some s =>
      have : w.cell? (⟨b, o, some s⟩ : Addr) = none := by
        unfold World.cell?
        split
        · rfl
        · rfl
      rw [show Addr.add ⟨b, o, some s⟩ 0 = ⟨b, o, some s⟩ from rfl, this] at a2
      cases a2
  subst hsp
  refine ⟨b, o, a1, fun j x hj => ?_⟩
  have hj' : j < xs.length := by
    rcases Nat.lt_or_ge j xs.length with h | h
    · exact h
    · rw [List.getElem?_eq_none h] at hj; cases hj
  obtain ⟨ad, b1, b2⟩ := hat j hj'
  rw [a1] at b1
  injection b1 with b1
  subst b1
  rw [List.getElem?_eq_getElem hj'] at hj
  injection hj with hj
  subst hj
  have e : Addr.add ⟨b, o, none⟩ j = ⟨b, o + j, none⟩ := by unfold Addr.add; split <;> simp_all
  rwa [e] at b2
end
end Go.Proofs.YtahjncefiegflaaGreatDoor


/- More functions of Go's library, out of the kit's contracts. -/
namespace Go.Proofs.YtahjncefiegflaaGreatDoor
set_option linter.unusedVariables false
set_option linter.unusedSimpArgs false
open Go Go.RowKit Go.Shelf
def strings_IndexByte (s : Str) (c : UInt8) : Option Int := some (Lib.indexByte s c)
theorem strings_IndexByte_sound : Sound Tryz.prog GW B0G 116 ⟨[.v .str, .v .u8], [], [.v (.int .i64)], [], Int, fun z => ((z, ()), ()), fun x _ => strings_IndexByte x.1 x.2.1⟩ := by
  refine Sound.ofExt Tryz.call116 fun M w vs x z hG hM hA hz => ?_
  obtain ⟨a, b, u⟩ := x
  match vs, hA with
  | [v1, v2], hA =>
    obtain ⟨h1, h2, _⟩ := hA
    rw [RepV.str h1, RepV.u8 h2]
    have e : Lib.indexByte a b = z := Option.some.inj hz
    subst e
    refine (Tryz.strings_IndexByte ⟨a.toArray⟩ (UInt8.toNat b) w).mono fun e w' hp => ?_
    obtain ⟨rfl, rfl⟩ := hp
    refine ⟨[_], rfl, Ext.refl _, ?_, trivial⟩
    have e2 : ((UInt8.toNat b : Nat) : Int).toNat.toUInt8 = b := by simp
    rw [e2]
    exact vInt .i64 _
def strings_Compare (a b : Str) : Option Int := some (Lib.compareBytes a b)
theorem strings_Compare_sound : Sound Tryz.prog GW B0G 68 ⟨[.v .str, .v .str], [], [.v (.int .i64)], [], Int, fun z => ((z, ()), ()), fun x _ => strings_Compare x.1 x.2.1⟩ := by
  refine Sound.ofExt Tryz.call68 fun M w vs x z hG hM hA hz => ?_
  obtain ⟨a, b, u⟩ := x
  match vs, hA with
  | [v1, v2], hA =>
    obtain ⟨h1, h2, _⟩ := hA
    rw [RepV.str h1, RepV.str h2]
    have e : Lib.compareBytes a b = z := Option.some.inj hz
    subst e
    refine (Tryz.strings_Compare ⟨a.toArray⟩ ⟨b.toArray⟩ w).mono fun e w' hp => ?_
    obtain ⟨rfl, rfl⟩ := hp
    exact ⟨[_], rfl, Ext.refl _, vInt .i64 _, trivial⟩
/-- A fresh row of strings is a slice of strings. -/
theorem vStrs {M : Nat → Nat → Prop} {w w' : World} (hM : ∀ b o, M b o → b < w.heap.size) (xs : List Str) (hl : xs.length ≤ maxLen) (e : TypeId)
    (hw : w' = w.alloc (.cells (xs.map fun x => Value.string ⟨x.toArray⟩).toArray e)) : RepV M w' (.sl .str) xs (.slice (some ⟨w.heap.size, 0, none⟩) xs.length xs.length) := by
  subst hw
  refine RepC.toV rfl ⟨some ⟨w.heap.size, 0, none⟩, xs.length, rfl, Nat.le_refl _, hl, fun i hi => ⟨⟨w.heap.size, 0, none⟩, [.string ⟨xs[i].toArray⟩], rfl, rfl, fun j u hu => ?_⟩⟩
  cases j with
  | succ j => simp at hu
  | zero =>
    simp only [List.getElem?_cons_zero, Option.some.injEq] at hu
    subst hu
    have e2 : (((⟨w.heap.size, 0, none⟩ : Addr).add (i * Ty.sz .str)).add 0) = ⟨w.heap.size, i, none⟩ := by
      show Addr.add (Addr.add _ (i * 1)) 0 = _
      rw [Nat.mul_one]
      unfold Addr.add; split <;> simp_all
    rw [e2, World.cell?_alloc_new]
    refine ⟨?_, fun hM' => ?_⟩
    · simp [hi]
    · exact absurd (hM _ _ hM') (Nat.lt_irrefl _)
/-- The parts of a string between separators. -/
def splitS (a b : Str) : List Str := (Lib.splitB ⟨b.toArray⟩ 0 (Lib.countB ⟨a.toArray⟩ ⟨b.toArray⟩) ⟨a.toArray⟩).map fun x => x.data.toList
def strings_Split (a b : Str) : Option (List Str) := if a.length < 4294967281 ∧ 1 ≤ b.length ∧ (splitS a b).length = Lib.countB ⟨a.toArray⟩ ⟨b.toArray⟩ + 1 ∧ (splitS a b).length ≤ 4294967296 then some (splitS a b) else none
theorem strings_Split_sound : Sound Tryz.prog GW B0G 103 ⟨[.v .str, .v .str], [], [.v (.sl .str)], [], List Str, fun z => ((z, ()), ()), fun x _ => strings_Split x.1 x.2.1⟩ := by
  refine Sound.ofExt Tryz.call103 fun M w vs x z hG hM hA hz => ?_
  obtain ⟨a, b, u⟩ := x
  match vs, hA with
  | [v1, v2], hA =>
    obtain ⟨h1, h2, _⟩ := hA
    rw [RepV.str h1, RepV.str h2]
    change strings_Split a b = some z at hz
    unfold strings_Split at hz
    split at hz
    · rename_i hc
      injection hz with hz
      subst hz
      obtain ⟨m, hm⟩ := hG
      refine (Tryz.strings_Split ⟨a.toArray⟩ ⟨b.toArray⟩ m w hc.1 hm hc.2.1).mono fun e w' hp => ?_
      obtain ⟨rfl, hw⟩ := hp
      have hmap : (Lib.splitB ⟨b.toArray⟩ 0 (Lib.countB ⟨a.toArray⟩ ⟨b.toArray⟩) ⟨a.toArray⟩).map Value.string = (splitS a b).map fun x => Value.string ⟨x.toArray⟩ := by
        unfold splitS
        rw [List.map_map]
        rfl
      rw [hmap] at hw
      rw [← hc.2.2.1]
      exact ⟨[_], rfl, hw ▸ (Ext.refl w).alloc _, vStrs hM _ (Nat.le_trans hc.2.2.2 (by decide)) _ hw, trivial⟩
    · cases hz
end Go.Proofs.YtahjncefiegflaaGreatDoor



/- strings.Contains, out of the kit's contract. -/
namespace Go.Proofs.YtahjncefiegflaaGreatDoor
set_option linter.unusedVariables false
set_option linter.unusedSimpArgs false
open Go Go.RowKit Go.Shelf
end Go.Proofs.YtahjncefiegflaaGreatDoor



/- How a contract of a function that turns a row of its caller's is said of the machine. -/
namespace Go.Proofs.YtahjncefiegflaaGreatDoor
set_option linter.unusedVariables false
set_option linter.unusedSimpArgs false
open Go Go.RowKit Go.Shelf
/-- The elements of a row, and where they lie. -/
def Els (M : Nat → Nat → Prop) (w : World) (t : Ty) (xs : List t.den) (cs : List Value) : Prop := ∀ i (h : i < xs.length), RepC M w t xs[i] ((cs.drop (i * t.sz)).take t.sz)
/-- The value of the row that is handed back, or nothing. -/
def backS (b : Bool) : List Sl := match b with | true => [.row 0] | false => []
def backX : (b : Bool) → SV (backS b)
  | true => ((), ())
  | false => ()
def backV (b : Bool) (v : Value) : Value := match b with | true => v | false => .tuple #[]
def backL (b : Bool) (v : Value) : List Value := match b with | true => [v] | false => []
theorem own_lt {w : World} {base : Nat} {e : TypeId} {sz : Nat} {v : Value} {n : Nat} {cs : List Value} (h : w.ownsRow base e sz v n cs) {b : Nat} (hb : v.ownBlock = some b) : b < w.heap.size := by
  rcases h.2 with ⟨e1, _⟩ | ⟨g, cap, cur, e1, _, hg, _⟩
  · rw [e1] at hb; cases hb
  · rw [e1] at hb
    simp only [Value.ownBlock, Option.some.injEq] at hb
    subst hb
    exact lt_of_map hg
theorem ExtX.mono {X Y : Nat → Prop} {w w' : World} (h : ExtX X w w') (hX : ∀ k, X k → Y k) : ExtX Y w w' := ⟨h.os, h.tape, h.output, h.size, fun k hk hy => h.block k hk fun hx => hy (hX k hx)⟩
theorem Sound.ofRow {P : Program} {G : World → Prop} {B0 : Nat} {f : FuncId} {ps : List Sl} {e : TypeId} {t : Ty} (back : Bool) {F : SV ps → List t.den → Option (List t.den)}
    (hcall : ∀ (args : Array Value) (w : World), (callFunc f args).run P w = .ok (.enter f args) w) (hz : 0 < t.sz)
    (h : ∀ (M : Nat → Nat → Prop) (w : World) (g : Gh) (v0 : Value) (vs : List Value) (x : SV ps) (xs zs : List t.den) (cs : List Value), G w → (∀ b o, M b o → b < w.heap.size) → (∀ b, v0.ownBlock = some b → ∀ o, M b o) →
      w.ownsRow 0 e t.sz v0 xs.length cs → Els M w t xs cs → All2 (RepD0 M w g) (lays id ps x) vs → F x xs = some zs →
      Calls P f (v0 :: vs).toArray w fun en w' => ∃ v' cs', en = .returned (backV back v') ∧ (back = false → v' = v0) ∧ ExtX (fun b => v0.ownBlock = some b) w w' ∧
        w'.ownsRow 0 e t.sz v' zs.length cs' ∧ Els M w t zs cs' ∧ ∀ b, v'.ownBlock = some b → v0.ownBlock = some b ∨ w.heap.size ≤ b) :
    Sound P G B0 f ⟨.row 0 :: ps, [.row e t true], backS back, [.row e t true], List t.den, fun z => (backX back, (z, ())), fun x y => F x.2 y.1⟩ := by
  refine ⟨hcall, fun M w g vs0 x y zs hG hB hF hz' => ?_⟩
  obtain ⟨_, x⟩ := x
  obtain ⟨xs, _⟩ := y
  match vs0, hF.args with
  | v0 :: vs, ⟨h0, hA⟩ =>
    obtain ⟨gx, A, n, c, hg0, hv, hv2⟩ := h0
    obtain ⟨gx', hg', _, cs, hown, hblk, hlo, hels⟩ := hF.res 0 (.row e t true xs) rfl
    replace hg0 : g 0 = some gx := hg0
    rw [hg'] at hg0
    cases hg0
    have hlo : gx.lo = 0 := hlo
    rw [← hv] at hown hblk
    have hM : ∀ b, v0.ownBlock = some b → ∀ o, M b o := fun b hb o => (hF.chg 0 gx b o hg' (by rw [hblk]; exact hb)).2 (by rw [hlo]; exact Nat.zero_le _)
    have honly : ∀ r gy, g r = some gy → r = 0 := fun r gy hr => by have := hF.dom r gy hr; exact Nat.lt_one_iff.1 this
    have hX : ∀ b, Xof g b ↔ v0.ownBlock = some b := fun b => by
      constructor
      · rintro ⟨r, gy, hr, hb⟩
        obtain rfl := honly r gy hr
        rw [hg'] at hr; cases hr
        rw [← hblk]; exact hb
      · intro hb
        exact ⟨0, gx, hg', by rw [hblk]; exact hb⟩
    refine (h M w g v0 vs x xs zs cs hG hF.mlt hM hown hels hA hz').mono fun en w' hp => ?_
    obtain ⟨v', cs', he, hsame, hE, hown', hels', hblk'⟩ := hp
    obtain ⟨g', hgd⟩ : ∃ g' : Gh, g' = fun r => if r = 0 then some ⟨v'.ownBlock, 0, v'⟩ else none := ⟨_, rfl⟩
    have hg0' : g' 0 = some ⟨v'.ownBlock, 0, v'⟩ := by rw [hgd]; rfl
    have hgo : ∀ r gy, g' r = some gy → r = 0 ∧ gy = ⟨v'.ownBlock, 0, v'⟩ := fun r gy hr => by
      rw [hgd] at hr
      by_cases h0 : r = 0
      · subst h0; simp at hr; exact ⟨rfl, hr.symm⟩
      · simp [h0] at hr
    have hnew : ∀ b o, Mafter M g g' b o → (M b o ∧ v0.ownBlock ≠ some b) ∨ v'.ownBlock = some b := fun b o hm => by
      rcases hm with ⟨hm, hx⟩ | ⟨r, gy, hr, hb, _⟩
      · exact .inl ⟨hm, fun hb => hx ((hX b).2 hb)⟩
      · obtain ⟨_, rfl⟩ := hgo r gy hr
        exact .inr hb
    have hstep : Step M w (Mafter M g g') w' := by
      have key : ∀ b o, b < w.heap.size → ¬ M b o → w'.heap[b]? = w.heap[b]? ∧ ¬ Mafter M g g' b o := fun b o hb hm => by
        have hnb : v0.ownBlock ≠ some b := fun h => hm (hM b h o)
        refine ⟨hE.block b hb hnb, fun hm' => ?_⟩
        rcases hnew b o hm' with ⟨h1, _⟩ | h1
        · exact hm h1
        · rcases hblk' b h1 with h2 | h2
          · exact hnb h2
          · omega
      refine ⟨fun ad u hu hm => ?_, fun b es c hb hm => ?_⟩
      · have hlt : ad.block < w.heap.size := World.block_lt_of_cell? w _ hu
        obtain ⟨h1, h2⟩ := key ad.block ad.off hlt hm
        exact ⟨(cell_of_block h1).trans hu, h2⟩
      · obtain ⟨h1, h2⟩ := key b 0 (lt_of_map hb) hm
        exact ⟨h1.trans hb, h2⟩
    obtain ⟨A', c', hv', _⟩ := Row.of_own' hown'
    have hlow : ∀ b, v'.ownBlock = some b → B0 ≤ b ∧ b < w'.heap.size := fun b hb => by
      refine ⟨?_, own_lt hown' hb⟩
      rcases hblk' b hb with h1 | h1
      · exact (hF.low 0 gx b hg' (by rw [hblk]; exact h1)).1
      · omega
    have hrow : RepD0 (Mafter M g g') w' g' (.row 0) v' := ⟨_, A', _, c', hg0', rfl, hv'⟩
    refine ⟨(backL back v'), g', ?_, ⟨hE.os, hE.tape, hE.output, hE.size, fun k hk hx => hE.block k hk fun hb => hx ((hX k).2 hb)⟩, hstep, ?_, fun r gy hr hbm => ?_, fun b hb => ?_⟩
    · rw [he]
      cases back <;> rfl
    · exact {
        args := by cases back with
          | true => exact ⟨hrow, trivial⟩
          | false => trivial
        res := fun r blk hr => by
          cases r with
          | zero =>
            obtain rfl : Blk.row e t true zs = blk := Option.some.inj hr
            exact ⟨_, hg0', hz, cs', hown', rfl, rfl, fun i hi => RepC.step hstep _ _ _ (hels' i hi)⟩
          | succ r => cases hr
        dom := fun r gy hr => by obtain ⟨rfl, _⟩ := hgo r gy hr; exact Nat.zero_lt_one
        inj := fun r r' gy gy' b hr hr' _ _ => by obtain ⟨rfl, _⟩ := hgo r gy hr; obtain ⟨rfl, _⟩ := hgo r' gy' hr'; rfl
        low := fun r gy b hr hb => by obtain ⟨_, rfl⟩ := hgo r gy hr; exact hlow b hb
        chg := fun r gy b o hr hb => ⟨fun _ => by obtain ⟨_, rfl⟩ := hgo r gy hr; exact Nat.zero_le _, fun hle => .inr ⟨r, gy, hr, hb, hle⟩⟩
        mlt := fun b o hm => by
          rcases hnew b o hm with ⟨h1, _⟩ | h1
          · exact Nat.lt_of_lt_of_le (hF.mlt b o h1) hE.size
          · exact (hlow b h1).2
        row := fun r gy b hr hb h0 => by obtain ⟨_, rfl⟩ := hgo r gy hr; exact absurd h0 (Nat.lt_irrefl 0) }
    · obtain rfl := honly r gy hr
      rw [hg'] at hr; cases hr
      rw [← hv] at hbm
      exact hbm.elim (fun h => (own_notBM hown h).elim) (fun h => Bool.noConfusion (show false = true from h))
    · obtain ⟨r, gy, hr, hb⟩ := hb
      obtain ⟨_, rfl⟩ := hgo r gy hr
      rcases hblk' b hb with h1 | h1
      · exact .inl ((hX b).2 h1)
      · exact .inr h1
/-- The same, with a second row that is read, and is forgotten. -/
theorem Sound.ofRow2 {P : Program} {G : World → Prop} {B0 : Nat} {f : FuncId} {tt : Ty} {e : TypeId} {t : Ty} (back : Bool) {F : tt.den → List t.den → List t.den → Option (List t.den)}
    (hcall : ∀ (args : Array Value) (w : World), (callFunc f args).run P w = .ok (.enter f args) w) (hz : 0 < t.sz)
    (h : ∀ (M : Nat → Nat → Prop) (w : World) (g : Gh) (v0 vi : Value) (x : tt.den) (v1 : Value) (xs ys zs : List t.den) (cs cys : List Value), G w → (∀ b o, M b o → b < w.heap.size) → (∀ b, v0.ownBlock = some b → ∀ o, M b o) →
      w.ownsRow 0 e t.sz v0 xs.length cs → Els M w t xs cs → w.ownsRow 0 e t.sz v1 ys.length cys → Els M w t ys cys → (∀ b, v0.ownBlock = some b → v1.ownBlock ≠ some b) → RepV M w tt x vi → F x xs ys = some zs →
      Calls P f #[v0, vi, v1] w fun en w' => ∃ v' cs', en = .returned (backV back v') ∧ (back = false → v' = v0) ∧ ExtX (fun b => v0.ownBlock = some b) w w' ∧
        w'.ownsRow 0 e t.sz v' zs.length cs' ∧ Els M w t zs cs' ∧ ∀ b, v'.ownBlock = some b → v0.ownBlock = some b ∨ w.heap.size ≤ b) :
    Sound P G B0 f ⟨[.row 0, .v tt, .row 1], [.row e t true, .row e t false], backS back, [.row e t true, .none], List t.den, fun z => (backX back, (z, ((), ()))), fun x y => F x.2.1 y.1 y.2.1⟩ := by
  refine ⟨hcall, fun M w g vs0 x y zs hG hB hF hz' => ?_⟩
  obtain ⟨_, x, _, _⟩ := x
  obtain ⟨xs, ys, _⟩ := y
  match vs0, hF.args with
  | [v0, vi, v1], ⟨h0, hA, h1, _⟩ =>
    obtain ⟨gy, A1, n1, c1, hy0, hy1, _⟩ := h1
    obtain ⟨gy', hy', _, cys, hownY, hblkY, _, helsY⟩ := hF.res 1 (.row e t false ys) rfl
    replace hy0 : g 1 = some gy := hy0
    rw [hy'] at hy0
    cases hy0
    rw [← hy1] at hownY hblkY
    obtain ⟨gx, A, n, c, hg0, hv, hv2⟩ := h0
    obtain ⟨gx', hg', _, cs, hown, hblk, hlo, hels⟩ := hF.res 0 (.row e t true xs) rfl
    replace hg0 : g 0 = some gx := hg0
    rw [hg'] at hg0
    cases hg0
    have hlo : gx.lo = 0 := hlo
    rw [← hv] at hown hblk
    have hM : ∀ b, v0.ownBlock = some b → ∀ o, M b o := fun b hb o => (hF.chg 0 gx b o hg' (by rw [hblk]; exact hb)).2 (by rw [hlo]; exact Nat.zero_le _)
    have honly : ∀ r gz, g r = some gz → r = 0 ∨ r = 1 := fun r gz hr => by
      have h2 : r < 2 := hF.dom r gz hr
      omega
    have hX : ∀ b, v0.ownBlock = some b → Xof g b := fun b hb => ⟨0, gx, hg', by rw [hblk]; exact hb⟩
    have hne : ∀ b, v0.ownBlock = some b → v1.ownBlock ≠ some b := fun b h1 h2 => by
      have := hF.inj 0 1 gx gy b hg' hy' (by rw [hblk]; exact h1) (by rw [hblkY]; exact h2)
      cases this
    refine (h M w g v0 vi x v1 xs ys zs cs cys hG hF.mlt hM hown hels hownY helsY hne hA hz').mono fun en w' hp => ?_
    obtain ⟨v', cs', he, hsame, hE, hown', hels', hblk'⟩ := hp
    obtain ⟨g', hgd⟩ : ∃ g' : Gh, g' = fun r => if r = 0 then some ⟨v'.ownBlock, 0, v'⟩ else none := ⟨_, rfl⟩
    have hg0' : g' 0 = some ⟨v'.ownBlock, 0, v'⟩ := by rw [hgd]; rfl
    have hgo : ∀ r gy, g' r = some gy → r = 0 ∧ gy = ⟨v'.ownBlock, 0, v'⟩ := fun r gy hr => by
      rw [hgd] at hr
      by_cases h0 : r = 0
      · subst h0; simp at hr; exact ⟨rfl, hr.symm⟩
      · simp [h0] at hr
    have hnew : ∀ b o, Mafter M g g' b o → (M b o ∧ v0.ownBlock ≠ some b) ∨ v'.ownBlock = some b := fun b o hm => by
      rcases hm with ⟨hm, hx⟩ | ⟨r, gy, hr, hb, _⟩
      · exact .inl ⟨hm, fun hb => hx (hX b hb)⟩
      · obtain ⟨_, rfl⟩ := hgo r gy hr
        exact .inr hb
    have hstep : Step M w (Mafter M g g') w' := by
      have key : ∀ b o, b < w.heap.size → ¬ M b o → w'.heap[b]? = w.heap[b]? ∧ ¬ Mafter M g g' b o := fun b o hb hm => by
        have hnb : v0.ownBlock ≠ some b := fun h => hm (hM b h o)
        refine ⟨hE.block b hb hnb, fun hm' => ?_⟩
        rcases hnew b o hm' with ⟨h1, _⟩ | h1
        · exact hm h1
        · rcases hblk' b h1 with h2 | h2
          · exact hnb h2
          · omega
      refine ⟨fun ad u hu hm => ?_, fun b es c hb hm => ?_⟩
      · have hlt : ad.block < w.heap.size := World.block_lt_of_cell? w _ hu
        obtain ⟨h1, h2⟩ := key ad.block ad.off hlt hm
        exact ⟨(cell_of_block h1).trans hu, h2⟩
      · obtain ⟨h1, h2⟩ := key b 0 (lt_of_map hb) hm
        exact ⟨h1.trans hb, h2⟩
    obtain ⟨A', c', hv', _⟩ := Row.of_own' hown'
    have hlow : ∀ b, v'.ownBlock = some b → B0 ≤ b ∧ b < w'.heap.size := fun b hb => by
      refine ⟨?_, own_lt hown' hb⟩
      rcases hblk' b hb with h1 | h1
      · exact (hF.low 0 gx b hg' (by rw [hblk]; exact h1)).1
      · omega
    have hrow : RepD0 (Mafter M g g') w' g' (.row 0) v' := ⟨_, A', _, c', hg0', rfl, hv'⟩
    refine ⟨(backL back v'), g', ?_, ⟨hE.os, hE.tape, hE.output, hE.size, fun k hk hx => hE.block k hk fun hb => hx (hX k hb)⟩, hstep, ?_, fun r gy hr hbm => ?_, fun b hb => ?_⟩
    · rw [he]
      cases back <;> rfl
    · exact {
        args := by cases back with
          | true => exact ⟨hrow, trivial⟩
          | false => trivial
        res := fun r blk hr => by
          cases r with
          | zero =>
            obtain rfl : Blk.row e t true zs = blk := Option.some.inj hr
            exact ⟨_, hg0', hz, cs', hown', rfl, rfl, fun i hi => RepC.step hstep _ _ _ (hels' i hi)⟩
          | succ r =>
            cases r with
            | zero => cases hr
            | succ r => cases hr
        dom := fun r gy hr => by obtain ⟨rfl, _⟩ := hgo r gy hr; exact Nat.zero_lt_two
        inj := fun r r' gy gy' b hr hr' _ _ => by obtain ⟨rfl, _⟩ := hgo r gy hr; obtain ⟨rfl, _⟩ := hgo r' gy' hr'; rfl
        low := fun r gy b hr hb => by obtain ⟨_, rfl⟩ := hgo r gy hr; exact hlow b hb
        chg := fun r gy b o hr hb => ⟨fun _ => by obtain ⟨_, rfl⟩ := hgo r gy hr; exact Nat.zero_le _, fun hle => .inr ⟨r, gy, hr, hb, hle⟩⟩
        mlt := fun b o hm => by
          rcases hnew b o hm with ⟨h1, _⟩ | h1
          · exact Nat.lt_of_lt_of_le (hF.mlt b o h1) hE.size
          · exact (hlow b h1).2
        row := fun r gy b hr hb h0 => by obtain ⟨_, rfl⟩ := hgo r gy hr; exact absurd h0 (Nat.lt_irrefl 0) }
    · rcases honly r gy hr with rfl | rfl
      · rw [hg'] at hr; cases hr
        rw [← hv] at hbm
        exact hbm.elim (fun h => (own_notBM hown h).elim) (fun h => Bool.noConfusion (show false = true from h))
      · rw [hy'] at hr; cases hr
        rw [← hy1] at hbm
        exact hbm.elim (fun h => (own_notBM hownY h).elim) (fun h => Bool.noConfusion (show false = true from h))
    · obtain ⟨r, gy, hr, hb⟩ := hb
      obtain ⟨_, rfl⟩ := hgo r gy hr
      rcases hblk' b hb with h1 | h1
      · exact .inl (hX b h1)
      · exact .inr h1
theorem setCells_size (b : Nat) : ∀ (vs : List Value) (o : Nat) (w : World), (w.setCells b o vs).heap.size = w.heap.size
  | [], _, _ => rfl
  | v :: vs, o, w => by
    show ((w.setCell ⟨b, o, none⟩ v).setCells b (o + 1) vs).heap.size = _
    rw [setCells_size b vs (o + 1)]
    unfold World.setCell
    simp
theorem setCells_tape (b : Nat) : ∀ (vs : List Value) (o : Nat) (w : World), (w.setCells b o vs).tape = w.tape ∧ (w.setCells b o vs).os = w.os ∧ (w.setCells b o vs).output = w.output
  | [], _, _ => ⟨rfl, rfl, rfl⟩
  | v :: vs, o, w => by
    have := setCells_tape b vs (o + 1) (w.setCell ⟨b, o, none⟩ v)
    exact ⟨this.1, this.2.1, this.2.2⟩
theorem setCells_other (b : Nat) : ∀ (vs : List Value) (o : Nat) (w : World) (k : Nat), k ≠ b → (w.setCells b o vs).heap[k]? = w.heap[k]?
  | [], _, _, _, _ => rfl
  | v :: vs, o, w, k, hk => by
    show ((w.setCell ⟨b, o, none⟩ v).setCells b (o + 1) vs).heap[k]? = _
    rw [setCells_other b vs (o + 1) _ k hk]
    unfold World.setCell
    rw [Array.getElem?_modify]
    simp [hk.symm]
theorem setCells_ext {w : World} {q b o : Nat} {vs : List Value} : ExtX (fun k => b = k) w ((w.drewN q).setCells b o vs) := by
  obtain ⟨h1, h2, h3⟩ := setCells_tape b vs o (w.drewN q)
  exact ⟨h2, h1, h3, by rw [setCells_size]; exact Nat.le_refl _, fun k hk hx => setCells_other b vs o (w.drewN q) k fun e => hx e.symm⟩
/-- Cells of one block are laid anew. -/
theorem setCells_block (b : Nat) (e : TypeId) (fz : Nat × Nat) : ∀ (vs : List Value) (o : Nat) (w : World) (cur : Array Value), w.heap[b]? = some (.cells cur e fz) → o + vs.length ≤ cur.size →
    (w.setCells b o vs).heap[b]? = some (.cells (cur.toList.take o ++ vs ++ cur.toList.drop (o + vs.length)).toArray e fz)
  | [], o, w, cur, h, hl => by
    show w.heap[b]? = _
    rw [h]; simp
  | v :: vs, o, w, cur, h, hl => by
    simp only [List.length_cons] at hl
    have h1 : (w.setCell ⟨b, o, none⟩ v).heap[b]? = some (.cells (cur.setIfInBounds o v) e fz) := by
      unfold World.setCell
      rw [Array.getElem?_modify]
      simp [h]
    have ih := setCells_block b e fz vs (o + 1) _ _ h1 (by rw [Array.size_setIfInBounds]; omega)
    show ((w.setCell ⟨b, o, none⟩ v).setCells b (o + 1) vs).heap[b]? = _
    rw [ih]
    have hs : (cur.setIfInBounds o v).toList = cur.toList.set o v := by simp
    rw [hs]
    have ho : o < cur.toList.length := by rw [Array.length_toList]; omega
    congr 3
    apply List.ext_getElem?
    intro k
    rw [List.length_cons]
    simp only [List.getElem?_append, List.length_append, List.length_take, List.length_set, Array.length_toList, List.getElem?_take, List.getElem?_drop, List.getElem?_set, List.length_cons]
    have hm1 : min (o + 1) cur.size = o + 1 := by omega
    have hm0 : min o cur.size = o := by omega
    rw [hm1, hm0]
    by_cases hk : k < o
    · simp [hk, show k < o + 1 by omega, show k < o + 1 + vs.length by omega, show k < o + (vs.length + 1) by omega, show ¬ o = k by omega]
    · by_cases hk2 : k = o
      · subst hk2
        simp [show k < k + 1 + vs.length by omega, show k < cur.size by omega]
      · by_cases hk3 : k < o + 1 + vs.length
        · have : ∃ j, k = o + 1 + j := ⟨k - (o + 1), by omega⟩
          obtain ⟨j, rfl⟩ := this
          simp [show ¬ o + 1 + j < o by omega, show o + 1 + j < o + 1 + vs.length by omega, show o + 1 + j < o + (vs.length + 1) by omega, show ¬ (o + 1 + j < o + 1) by omega, show o + 1 + j - o = j + 1 by omega, show o + 1 + j - (o + 1) = j by omega]
        · simp [show ¬ k < o by omega, show ¬ k < o + 1 + vs.length by omega, show ¬ k < o + (vs.length + 1) by omega, show o + 1 + vs.length + (k - (o + 1 + vs.length)) = k by omega, show o + (vs.length + 1) + (k - (o + (vs.length + 1))) = k by omega, show ¬ o = k by omega]
end Go.Proofs.YtahjncefiegflaaGreatDoor


/- slices.Grow of the nil slice, as a meaning: an own row without elements. -/
namespace Go.Proofs.YtahjncefiegflaaGreatDoor
set_option linter.unusedVariables false
set_option linter.unusedSimpArgs false
open Go Go.RowKit Go.Shelf
def growF (t : Ty) (n : Int) : Option (List t.den) := if 0 ≤ n ∧ n * ((24 * t.sz : Nat) : Int) ≤ 140737488355328 then some [] else none
theorem own_base {w : World} {base : Nat} {e : TypeId} {sz : Nat} {v : Value} {n : Nat} {cs : List Value} (h : w.ownsRow base e sz v n cs) : w.ownsRow 0 e sz v n cs := by
  refine ⟨h.1, ?_⟩
  rcases h.2 with h0 | ⟨g, cap, cur, h1, _, h2⟩
  · exact .inl h0
  · exact .inr ⟨g, cap, cur, h1, Nat.zero_le _, h2⟩
/-- A function that lays a new row. -/
theorem Sound.ofNew {P : Program} {G : World → Prop} {B0 : Nat} {f : FuncId} {ps : List Sl} {e : TypeId} {t : Ty} {ex : Bool} {F : SV ps → Option (List t.den)}
    (hcall : ∀ (args : Array Value) (w : World), (callFunc f args).run P w = .ok (.enter f args) w) (hz : 0 < t.sz)
    (h : ∀ (M : Nat → Nat → Prop) (w : World) (vs : List Value) (x : SV ps) (zs : List t.den), G w → (∀ b o, M b o → b < w.heap.size) → All2 (RepD0 M w g0) (lays id ps x) vs → F x = some zs →
      Calls P f vs.toArray w fun en w' => ∃ u cs, en = .returned u ∧ w'.ownsRow w.heap.size e t.sz u zs.length cs ∧ Ext w w' ∧ ∀ M', Step M w M' w' → Els M' w' t zs cs) :
    Sound P G B0 f ⟨ps, [], [.row 0], [.row e t ex], List t.den, fun z => (((), ()), (z, ())), fun x _ => F x⟩ := by
  refine ⟨hcall, fun M w g vs x y z hG hB hF hz' => ?_⟩
  have hg : g = g0 := by
    funext r
    cases hr : g r with
    | none => rfl
    | some gx => exact absurd (hF.dom r gx hr) (Nat.not_lt_zero _)
  subst hg
  refine (h M w vs x z hG hF.mlt hF.args hz').mono fun en w' hp => ?_
  obtain ⟨u, cs, he, hown, hE, hels⟩ := hp
  obtain ⟨g', hgd⟩ : ∃ g' : Gh, g' = fun r => if r = 0 then some ⟨u.ownBlock, loOf t ex z.length, u⟩ else none := ⟨_, rfl⟩
  have hg0' : g' 0 = some ⟨u.ownBlock, loOf t ex z.length, u⟩ := by rw [hgd]; rfl
  have hgo : ∀ r gy, g' r = some gy → r = 0 ∧ gy = ⟨u.ownBlock, loOf t ex z.length, u⟩ := fun r gy hr => by
    rw [hgd] at hr
    by_cases h0 : r = 0
    · subst h0; simp at hr; exact ⟨rfl, hr.symm⟩
    · simp [h0] at hr
  have hblk : ∀ b, u.ownBlock = some b → w.heap.size ≤ b ∧ b < w'.heap.size := fun b hb => by
    rcases hown.2 with ⟨e1, _⟩ | ⟨gg, cap, cur, e1, h1, h2, _⟩
    · rw [e1] at hb; cases hb
    · rw [e1] at hb
      simp only [Value.ownBlock, Option.some.injEq] at hb
      subst hb
      exact ⟨h1, lt_of_map h2⟩
  have hM : ∀ b o, Mafter M g0 g' b o → M b o ∨ u.ownBlock = some b := fun b o hm => by
    rcases hm with ⟨hm, _⟩ | ⟨r, gy, hr, hb, _⟩
    · exact .inl hm
    · obtain ⟨_, rfl⟩ := hgo r gy hr; exact .inr hb
  have hstep : Step M w (Mafter M g0 g') w' := by
    have key : ∀ b o, b < w.heap.size → ¬ M b o → w'.heap[b]? = w.heap[b]? ∧ ¬ Mafter M g0 g' b o := fun b o hb hm => by
      refine ⟨hE.block b hb, fun hm' => ?_⟩
      rcases hM b o hm' with h1 | h1
      · exact hm h1
      · have := (hblk b h1).1; omega
    refine ⟨fun ad v hu hm => ?_, fun b es c hb hm => ?_⟩
    · obtain ⟨h1, h2⟩ := key ad.block ad.off (World.block_lt_of_cell? w _ hu) hm
      exact ⟨(cell_of_block h1).trans hu, h2⟩
    · obtain ⟨h1, h2⟩ := key b 0 (lt_of_map hb) hm
      exact ⟨h1.trans hb, h2⟩
  obtain ⟨A', c', hv', _⟩ := Row.of_own' hown
  have hrow : RepD0 (Mafter M g0 g') w' g' (.row 0) u := ⟨_, A', _, c', hg0', rfl, hv'⟩
  refine ⟨[u], g', he, ExtX.of_ext hE, hstep, ?_, fun r gy hr _ => (by cases hr), fun b hb => ?_⟩
  · exact {
      args := ⟨hrow, trivial⟩
      res := fun r blk hr => by
        cases r with
        | zero =>
          obtain rfl : Blk.row e t ex z = blk := Option.some.inj hr
          refine ⟨_, hg0', hz, cs, own_base hown, rfl, by cases ex <;> rfl, fun i hi => ?_⟩
          exact hels _ hstep i hi
        | succ r => cases hr
      dom := fun r gy hr => by obtain ⟨rfl, _⟩ := hgo r gy hr; exact Nat.zero_lt_one
      inj := fun r r' gy gy' b hr hr' _ _ => by obtain ⟨rfl, _⟩ := hgo r gy hr; obtain ⟨rfl, _⟩ := hgo r' gy' hr'; rfl
      low := fun r gy b hr hb => by
        obtain ⟨_, rfl⟩ := hgo r gy hr
        obtain ⟨h1, h2⟩ := hblk b hb
        exact ⟨Nat.le_trans hB h1, h2⟩
      chg := fun r gy b o hr hb => by
        obtain ⟨rfl, rfl⟩ := hgo r gy hr
        constructor
        · rintro (⟨h1, _⟩ | ⟨r', gy', h1, h2, h3⟩)
          · have := hF.mlt b o h1; have := (hblk b hb).1; omega
          · obtain ⟨_, rfl⟩ := hgo r' gy' h1; exact h3
        · exact fun hle => .inr ⟨0, _, hr, hb, hle⟩
      mlt := fun b o hm => by
        rcases hM b o hm with h1 | h1
        · exact Nat.lt_of_lt_of_le (hF.mlt b o h1) hE.size
        · exact (hblk b h1).2
      row := fun r gy b hr hb h0 es c hc => by
        obtain ⟨_, rfl⟩ := hgo r gy hr
        exact (own_row hown hb).2 es c hc }
  · obtain ⟨r, gy, hr, hb⟩ := hb
    obtain ⟨_, rfl⟩ := hgo r gy hr
    exact .inr (hblk b hb).1
theorem Sound.ofGrow {P : Program} {G : World → Prop} {B0 : Nat} {f : FuncId} {e : TypeId} {t : Ty}
    (hcall : ∀ (args : Array Value) (w : World), (callFunc f args).run P w = .ok (.enter f args) w) (hz : 0 < t.sz)
    (h : ∀ (n : Nat) (w : World), n * (24 * t.sz) ≤ 140737488355328 → Calls P f #[.slice none 0 0, .int .i64 n] w fun en w' => ∃ u, en = .returned u ∧ w'.ownsRow w.heap.size e t.sz u 0 [] ∧ Ext w w') :
    Sound P G B0 f ⟨[.nilS, .v .i64], [], [.row 0], [.row e t false], List t.den, fun z => (((), ()), (z, ())), fun x _ => growF t x.2.1⟩ := by
  refine Sound.ofNew (ps := [.nilS, .v .i64]) (ex := false) (F := fun x => growF t x.2.1) hcall hz fun M w vs x zs hG hM hA hz' => ?_
  obtain ⟨_, n, _⟩ := x
  match vs, hA with
  | [v0, v1], ⟨h0, h1, _⟩ =>
    have h0 : v0 = .slice none 0 0 := h0
    have h1 : v1 = .int .i64 n := RepV.int h1
    subst h0 h1
    change growF t n = some zs at hz'
    unfold growF at hz'
    split at hz'
    · rename_i hn
      cases hz'
      obtain ⟨hn1, hn2⟩ := hn
      obtain ⟨k, rfl⟩ : ∃ k : Nat, n = (k : Int) := ⟨Int.toNat n, (Int.toNat_of_nonneg hn1).symm⟩
      have hk : k * (24 * t.sz) ≤ 140737488355328 := Int.ofNat_le.1 (by rw [Int.natCast_mul]; exact hn2)
      refine (h k w hk).mono fun en w' hp => ?_
      obtain ⟨u, he, hown, hE⟩ := hp
      exact ⟨u, [], he, hown, hE, fun M' _ i hi => absurd hi (by simp)⟩
    · cases hz'
end Go.Proofs.YtahjncefiegflaaGreatDoor


/- The function that the parser puts off does nothing where nothing panics. -/
namespace Go.Proofs.YtahjncefiegflaaGreatDoor
set_option linter.unusedVariables false
set_option linter.unusedSimpArgs false
open Go Go.RowKit
set_option maxRecDepth 100000
set_option maxHeartbeats 2000000 in
theorem idle_all (caps : Array Value) (w : World) :
    CallsD Tryz.prog 168 caps .returning w fun e u w' => (∃ v, e = .returned v) ∧ u = .returning ∧ w' = w := by
  refine callsD_of_wpS Tryz.func168 rfl fun c₀ cs hu => ?_
  have hT : 19 ≤ (caps ++ Array.replicate (Tryz.f168.ntmps - caps.size) undef).size := by
    rw [Array.size_append, Array.size_replicate, Tryz.ntmps168]; omega
  generalize (caps ++ Array.replicate (Tryz.f168.ntmps - caps.size) undef) = T at hT ⊢
  have h6 : 6 < T.size := by omega
  have h3 : 3 < T.size := by omega
  have h7 : 7 < T.size := by omega
  have h8 : 8 < T.size := by omega
  apply wpS_seq
  apply wpS_region
  simp [wpOpsS, go_sem, recoverD, hu, Exit.thenS, h6, h3]
  apply wpS_seq
  apply wpS_region
  simp [wpOpsS, go_sem, Exit.thenS, h6, h3, h7, h8]
  refine wpS_cond (t := false) (by simp [Act.eval, h8]) ?_
  simp only [Bool.false_eq_true, if_false]
  refine wpS_of_wp (wp_skip ?_)
  cases c₀
  simp_all [bodyPostS, results, Tryz.results168]
end Go.Proofs.YtahjncefiegflaaGreatDoor



/- A function that leaves all that its caller has as it is, and makes one thing anew. -/
namespace Go.Proofs.YtahjncefiegflaaGreatDoor
set_option linter.unusedVariables false
set_option linter.unusedSimpArgs false
open Go Go.RowKit Go.Shelf
theorem Sound.ofMade {P : Program} {G : World → Prop} {B0 : Nat} {f : FuncId} {ps : List Sl} {bs : List Sb} {rs : List Sl} {cs : List Sb} {R : Type} [BothC R] {out : R → SV rs × BV cs} {F : SV ps → BV bs → Option R}
    (hcall : ∀ (args : Array Value) (w : World), (callFunc f args).run P w = .ok (.enter f args) w) (hlen : cs.length = bs.length + 1)
    (h : ∀ (M : Nat → Nat → Prop) (w : World) (g : Gh) (vs : List Value) (x : SV ps) (y : BV bs) (z : R), G w → B0 ≤ w.heap.size → Frag B0 M w g ps bs x y vs → F x y = some z →
      Calls P f vs.toArray w fun e w' => ∃ vs' gx, e = .returned (rets vs') ∧ Ext w w' ∧ (∀ b, gx.blk = some b → w.heap.size ≤ b ∧ b < w'.heap.size ∧ (0 < gx.lo → ∀ es c, w'.heap[b]? ≠ some (.map es c))) ∧
        ∀ (M' : Nat → Nat → Prop) (g' : Gh), (∀ r y, g r = some y → g' r = some y) → g' bs.length = some gx → Step M w M' w' →
          All2 (RepD0 M' w' g') (lays id rs (out z).1) vs' ∧ ∀ r blk, blkAt id cs (out z).2 r = some blk → ∃ gy, g' r = some gy ∧ RepB M' w' g' gy blk) :
    Sound P G B0 f ⟨ps, bs, rs, cs, R, out, F⟩ := by
  refine ⟨hcall, fun M w g vs x y z hG hB hF hz => ?_⟩
  refine (h M w g vs x y z hG hB hF hz).mono fun e w' hp => ?_
  obtain ⟨vs', gx, he, hE, hnew, hrest⟩ := hp
  obtain ⟨g', hgd⟩ : ∃ g' : Gh, g' = g.set bs.length (some gx) := ⟨_, rfl⟩
  have hgn : g' bs.length = some gx := by rw [hgd, Gh.set_same]
  have hgo : ∀ r y, g r = some y → g' r = some y := fun r y hr => by
    have hd : r < bs.length := hF.dom r y hr
    rw [hgd, Gh.set_other _ _ (by omega)]; exact hr
  have hgc : ∀ r y, g' r = some y → (r = bs.length ∧ y = gx) ∨ g r = some y := fun r y hr => by
    by_cases e : r = bs.length
    · subst e
      rw [hgn] at hr
      exact .inl ⟨rfl, (Option.some.inj hr).symm⟩
    · rw [hgd, Gh.set_other _ _ e] at hr
      exact .inr hr
  have hlow : ∀ r y b, g r = some y → y.blk = some b → B0 ≤ b ∧ b < w.heap.size := fun r y b h1 h2 => hF.low r y b h1 h2
  have hstep : Step M w (Mafter M g g') w' := by
    have key : ∀ b o, b < w.heap.size → ¬ M b o → ¬ Mafter M g g' b o := fun b o hb hm hm' => by
      rcases hm' with ⟨h1, _⟩ | ⟨r, y, hr, hyb, hlo⟩
      · exact hm h1
      · rcases hgc r y hr with ⟨_, rfl⟩ | hr
        · have := (hnew b hyb).1; omega
        · exact hm ((hF.chg r y b o hr hyb).2 hlo)
    exact ⟨fun ad u hu hm => ⟨hE.cell hu, key _ _ (World.block_lt_of_cell? w _ hu) hm⟩, fun b es c hb hm => ⟨(hE.block b (lt_of_map hb)).trans hb, key _ _ (lt_of_map hb) hm⟩⟩
  obtain ⟨hA, hR⟩ := hrest _ g' hgo hgn hstep
  refine ⟨vs', g', he, ExtX.of_ext hE, hstep, ?_, fun r y hr _ => hgo r y hr, fun b hb => ?_⟩
  · exact {
      args := hA
      res := hR
      dom := fun r y hr => by
        show r < cs.length
        rcases hgc r y hr with ⟨rfl, _⟩ | hr
        · omega
        · have hd : r < bs.length := hF.dom r y hr
          omega
      inj := fun r r' y y' b hr hr' hb hb' => by
        rcases hgc r y hr with ⟨rfl, rfl⟩ | h1
        · rcases hgc r' y' hr' with ⟨rfl, _⟩ | h2
          · rfl
          · have := (hnew b hb).1; have := (hlow _ _ _ h2 hb').2; omega
        · rcases hgc r' y' hr' with ⟨rfl, rfl⟩ | h2
          · have := (hnew b hb').1; have := (hlow _ _ _ h1 hb).2; omega
          · exact hF.inj r r' y y' b h1 h2 hb hb'
      low := fun r y b hr hb => by
        rcases hgc r y hr with ⟨_, rfl⟩ | h1
        · exact ⟨Nat.le_trans hB (hnew b hb).1, (hnew b hb).2.1⟩
        · have := hlow _ _ _ h1 hb; exact ⟨this.1, Nat.lt_of_lt_of_le this.2 hE.size⟩
      chg := fun r y b o hr hb => by
        refine ⟨fun hm => ?_, fun hle => .inr ⟨r, y, hr, hb, hle⟩⟩
        rcases hm with ⟨h1, h2⟩ | ⟨r', y', hr', hb', hlo⟩
        · rcases hgc r y hr with ⟨_, rfl⟩ | h3
          · have := (hnew b hb).1; have := hF.mlt b o h1; omega
          · exact absurd ⟨r, y, h3, hb⟩ h2
        · rcases hgc r y hr with ⟨e1, rfl⟩ | h3
          · rcases hgc r' y' hr' with ⟨_, rfl⟩ | h4
            · exact hlo
            · have := (hnew b hb).1; have := (hlow _ _ _ h4 hb').2; omega
          · rcases hgc r' y' hr' with ⟨_, rfl⟩ | h4
            · have := (hnew b hb').1; have := (hlow _ _ _ h3 hb).2; omega
            · have := hF.inj r r' y y' b h3 h4 hb hb'
              subst this
              rw [h3] at h4
              cases h4
              exact hlo
      mlt := fun b o hm => by
        rcases hm with ⟨h1, _⟩ | ⟨r, y, hr, hb, _⟩
        · exact Nat.lt_of_lt_of_le (hF.mlt b o h1) hE.size
        · rcases hgc r y hr with ⟨_, rfl⟩ | h3
          · exact (hnew b hb).2.1
          · exact Nat.lt_of_lt_of_le (hlow _ _ _ h3 hb).2 hE.size
      row := fun r y b hr hb h0 => by
        rcases hgc r y hr with ⟨_, rfl⟩ | h3
        · exact (hnew b hb).2.2 h0
        · intro es c hc
          rw [hE.block b (hlow _ _ _ h3 hb).2] at hc
          exact hF.row r y b h3 hb h0 es c hc }
  · obtain ⟨r, y, hr, hb⟩ := hb
    rcases hgc r y hr with ⟨_, rfl⟩ | h3
    · exact .inr (hnew b hb).1
    · exact .inl ⟨r, y, h3, hb⟩
end Go.Proofs.YtahjncefiegflaaGreatDoor


/- strings.Trim and strings.Join, out of the kit's contracts. -/
namespace Go.Proofs.YtahjncefiegflaaGreatDoor
set_option linter.unusedVariables false
set_option linter.unusedSimpArgs false
open Go Go.RowKit Go.Shelf
end Go.Proofs.YtahjncefiegflaaGreatDoor



/- slices.Delete of strings, out of the kit's contract: it turns a row of its caller's. -/
namespace Go.Proofs.YtahjncefiegflaaGreatDoor
set_option linter.unusedVariables false
set_option linter.unusedSimpArgs false
open Go Go.RowKit Go.Shelf
theorem els_str {M : Nat → Nat → Prop} {w : World} {xs : List Str} {cs : List Value} (hl : cs.length = xs.length) (h : Els M w .str xs cs) : cs = xs.map fun x => Value.string ⟨x.toArray⟩ := by
  apply List.ext_getElem
  · simpa using hl
  · intro i h1 h2
    have h3 : i < xs.length := by omega
    have := h i h3
    have e : (cs.drop (i * Ty.sz .str)).take (Ty.sz .str) = [cs[i]] := by
      show (cs.drop (i * 1)).take 1 = _
      rw [Nat.mul_one, List.drop_eq_getElem_cons h1]; rfl
    rw [e] at this
    have e2 : [cs[i]] = [Value.string ⟨xs[i].toArray⟩] := this
    rw [List.getElem_map]
    injection e2
theorem str_els {M : Nat → Nat → Prop} {w : World} (xs : List Str) : Els M w .str xs (xs.map fun x => Value.string ⟨x.toArray⟩) := fun i h => by
  have e : ((xs.map fun x => Value.string ⟨x.toArray⟩).drop (i * Ty.sz .str)).take (Ty.sz .str) = [Value.string ⟨xs[i].toArray⟩] := by
    show ((xs.map fun x => Value.string ⟨x.toArray⟩).drop (i * 1)).take 1 = _
    rw [Nat.mul_one, List.drop_eq_getElem_cons (by simpa using h), List.getElem_map]; rfl
  rw [e]
  rfl
end Go.Proofs.YtahjncefiegflaaGreatDoor



/- slices.AppendSeq(nil, slices.Values(l)) of strings: a row with l's strings. What slices.Sorted(slices.Values(l)) leans on. -/
namespace Go.Proofs.YtahjncefiegflaaGreatDoor
set_option linter.unusedVariables false
set_option linter.unusedSimpArgs false
open Go Go.RowKit Go.Shelf
attribute [local go_sem] Oper.semAt_some
abbrev strV (s : Str) : Value := .string ⟨s.toArray⟩
/-- What has come when k rounds are over. -/
def firsts (zs : List Str) (k : Nat) : List Str := (List.range k).map fun j => zs[j]?.getD []
theorem firsts_succ (zs : List Str) (k : Nat) : firsts zs (k + 1) = firsts zs k ++ [zs[k]?.getD []] := by simp [firsts, List.range_succ]
theorem firsts_length (zs : List Str) (k : Nat) : (firsts zs k).length = k := by simp [firsts]
theorem firsts_all (zs : List Str) : firsts zs zs.length = zs := by
  apply List.ext_getElem
  · simp [firsts]
  · intro i h1 h2
    simp [firsts, h2]
set_option maxRecDepth 100000 in
set_option maxHeartbeats 2000000 in
/-- The iterator over a slice's values, for every body that keeps what lay below n₀ and goes on. -/
theorem values_walk (n : Nat) (hn : 1 ≤ n) (l Bs n₀ b off len cap : Nat) (zs : List Str) (hreach : len * 16 ≤ 140737488351232) (hb : b < n₀) (J Jx : List Str → World → Prop)
    (hY : ∀ pre x W, J pre W → pre.length < len → YieldAt Fence.wide (n - 1) Tryz.prog l #[strV x] W fun e W' =>
      (e = .returned (.bool true) ∧ J (pre ++ [x]) W' ∧ Below n₀ W W') ∨ (e = .returned (.bool false) ∧ Jx (pre ++ [x]) W'))
    (W : World) (hBs : W.cell? ⟨Bs, 0, none⟩ = some (.slice (some ⟨b, off, none⟩) len cap)) (hc : ∀ j, j < len → W.cell? ⟨b, off + j, none⟩ = some (strV (zs[j]?.getD []))) (h0 : J [] W) :
    CallsIn Fence.wide n Tryz.prog 276 #[.func (.yield l) #[] #[], .pointer (some ⟨Bs, 0, none⟩)] W fun e W' => (∃ v, e = .returned v) ∧
      (J (firsts zs len) W' ∨ ∃ pre, Jx pre W') := by
  refine callsIn_of_wp Tryz.func276 rfl trivial ?_ rfl
  simp only [Tryz.ntmps276, List.size_toArray, List.length_cons, List.length_nil, Nat.reduceAdd, Nat.reduceSub, Array.replicate_succ, Array.replicate_zero, List.push_toArray, List.append_toArray, List.nil_append, List.cons_append]
  gi_wp2
  gi_loopw [7] (fun i wr => ∃ k : Nat, k ≤ len ∧ i = .int .i64 k ∧ J (firsts zs k) wr ∧ Below n₀ W wr)
    (fun i _ => len - (intOf i).toNat)
  case atStart => exact ⟨0, Nat.zero_le _, rfl, h0, Below.refl _ _⟩
  case round =>
    obtain ⟨k, hk, rfl, hJs, hnx⟩ := hrel
    have hcx : k < len → wr.cell? ⟨b, off + k, none⟩ = some (strV (zs[k]?.getD [])) := fun h => (hnx.cell (p := ⟨b, off + k, none⟩) hb).trans (hc k h)
    by_cases hlt : k < len
    · obtain ⟨fn, tmps, assign, body, hy, hR⟩ := hY _ (zs[k]?.getD []) wr hJs (by rw [firsts_length]; exact hlt)
      have hcx' := hcx hlt
      gi_wp2
      refine hR.mono ?_
      rintro e W3 (⟨rfl, hJ3, hk3⟩ | ⟨rfl, hJx3⟩)
      · gi_wp2
        go_roundw
        case rel => exact ⟨k + 1, by omega, by simp, by rw [firsts_succ]; exact hJ3, hnx.trans hk3⟩
        case measure => simp [intOf]; omega
      · gi_wp2
        refine bodyPost_ret (results_none rfl _ _ _) rfl ?_
        exact ⟨⟨_, rfl⟩, .inr ⟨_, hJx3⟩⟩
    · obtain rfl : k = len := by omega
      gi_wp2
      go_end0
      exact ⟨⟨_, rfl⟩, .inl hJs⟩
set_option maxRecDepth 100000 in
set_option maxHeartbeats 1000000 in
/-- The same of the nil slice. -/
theorem values_walk_nil (n : Nat) (l Bs : Nat) (A : Option Addr) (c : Nat) (J : List Str → World → Prop) (W : World) (hBs : W.cell? ⟨Bs, 0, none⟩ = some (.slice A 0 c)) (h0 : J [] W) :
    CallsIn Fence.wide n Tryz.prog 276 #[.func (.yield l) #[] #[], .pointer (some ⟨Bs, 0, none⟩)] W fun e W' => (∃ v, e = .returned v) ∧ J [] W' := by
  refine callsIn_of_wp Tryz.func276 rfl trivial ?_ rfl
  simp only [Tryz.ntmps276, List.size_toArray, List.length_cons, List.length_nil, Nat.reduceAdd, Nat.reduceSub, Array.replicate_succ, Array.replicate_zero, List.push_toArray, List.append_toArray, List.nil_append, List.cons_append]
  gi_wp2
  gi_loopw [7] (fun i wr => i = .int .i64 0 ∧ J [] wr) (fun _ _ => 0)
  case atStart => exact ⟨rfl, h0⟩
  case round =>
    obtain ⟨rfl, hJs⟩ := hrel
    gi_wp2
    go_end0
    exact ⟨⟨_, rfl⟩, hJs⟩
/-- A slice value that holds these strings, in a block below n₀; or it is nil and there are none. -/
def StrsAt (n₀ : Nat) (W : World) (sv : Value) (zs : List Str) : Prop :=
  (∃ A c, sv = .slice A 0 c ∧ zs = []) ∨ ∃ b off cap, sv = .slice (some ⟨b, off, none⟩) zs.length cap ∧ b < n₀ ∧ ∀ j, j < zs.length → W.cell? ⟨b, off + j, none⟩ = some (strV (zs[j]?.getD []))
theorem StrsAt.below {n₀ : Nat} {A B : World} (h : Below n₀ A B) {sv : Value} {zs : List Str} : StrsAt n₀ A sv zs → StrsAt n₀ B sv zs
  | .inl e => .inl e
  | .inr ⟨b, off, cap, e, hb, hc⟩ => .inr ⟨b, off, cap, e, hb, fun j hj => (h.cell (p := ⟨b, off + j, none⟩) hb).trans (hc j hj)⟩
theorem values_stops (n : Nat) (hn : 1 ≤ n) (Bs n₀ : Nat) (sv : Value) (zs : List Str) (hreach : zs.length * 16 ≤ 140737488351232) (w : World) (hBs : Bs < w.heap.size) (hn₀ : n₀ ≤ w.heap.size)
    (hc : w.cell? ⟨Bs, 0, none⟩ = some sv) (hI : StrsAt n₀ w sv zs) :
    SeqStopsK Fence.wide n Tryz.prog 276 #[.pointer (some ⟨Bs, 0, none⟩)] (fun x : Str => #[strV x]) (Below n₀) (fun ys => ys = zs) (fun _ => True) zs.length w := fun l J Jx W hW _ _ hY h0 => by
  have hc' := (hW.cell (p := ⟨Bs, 0, none⟩) hBs).trans hc
  rcases hI.below (hW.mono hn₀) with ⟨A, c, rfl, rfl⟩ | ⟨b, off, cap, rfl, hb, hcs⟩
  · exact (values_walk_nil n l Bs A c J W hc' h0).mono fun e W' ⟨he, hj⟩ => ⟨he, .inl ⟨_, rfl, hj⟩⟩
  · refine (values_walk n hn l Bs n₀ b off zs.length cap zs hreach hb J Jx hY W hc' hcs h0).mono ?_
    rintro e W' ⟨he, hj | ⟨pre, hj⟩⟩
    · exact ⟨he, .inl ⟨_, firsts_all zs, hj⟩⟩
    · exact ⟨he, .inr ⟨pre, trivial, hj⟩⟩
set_option maxRecDepth 100000 in
set_option maxHeartbeats 2000000 in
/-- slices.AppendSeq(nil, the iterator): a slice of its own with the strings. -/
theorem appendSeq_walk (n : Nat) (hn : 3 ≤ n) (Bq : Nat) (sv : Value) (zs : List Str) (hreach : zs.length * 16 ≤ 140737488351232) (w : World) (hBq : Bq < w.heap.size)
    (hc : w.cell? ⟨Bq, 0, none⟩ = some sv) (hI : StrsAt w.heap.size w sv zs) :
    CallsIn Fence.wide n Tryz.prog 296 #[.slice none 0 0, .func (.func 276) #[] #[.pointer (some ⟨Bq, 0, none⟩)]] w fun e w' =>
      ∃ v, e = .returned v ∧ w'.ownsRow w.heap.size 9 1 v zs.length (zs.map strV) ∧ Below w.heap.size w w' := by
  have h1 : 1 ≤ n := by omega
  obtain ⟨i0, hi, hz0, hz1, hz2⟩ : ∃ i, Tryz.prog.info? 9 = some i ∧ i.zero = some (.string ⟨#[]⟩) ∧ i.size = 1 ∧ i.bytes = 16 := by
    have hz : (Tryz.prog.info? 9).map (fun i => (i.zero, i.size, i.bytes)) = some (some (.string ⟨#[]⟩), 1, 16) := by kernel_rfl
    cases hi : Tryz.prog.info? 9 with
    | none => rw [hi] at hz; cases hz
    | some i =>
      rw [hi] at hz
      simp only [Option.map_some, Option.some.injEq, Prod.mk.injEq] at hz
      exact ⟨i, rfl, hz.1, hz.2.1, hz.2.2⟩
  have hne : 22 ≠ 9 := by decide
  refine callsIn_of_wp_marks Tryz.func296 rfl trivial ?_ rfl
  simp only [Tryz.ntmps296, List.size_toArray, List.length_cons, List.length_nil, Nat.reduceAdd, Nat.reduceSub, Array.replicate_succ, Array.replicate_zero, List.push_toArray, List.append_toArray, List.nil_append, List.cons_append]
  gi_wp2
  have hv0 : (w.alloc (.cells #[.slice none 0 0] 22)).heap[w.heap.size]? = some (.cells #[.slice none 0 0] 22 (0, 0)) := World.alloc_heap_new w _
  have hB0 : Below w.heap.size w (w.alloc (.cells #[.slice none 0 0] 22)) := (Below.refl _ w).alloc (Nat.le_refl _) _
  refine wpIn_rangeFunc_ownG rfl h1 (gf := 276) (lb := #[.pointer (some ⟨Bq, 0, none⟩)]) rfl trivial (enters_of Tryz.func276 (by kernel_rfl) rfl)
    (values_stops (n - 1) (by omega) Bq w.heap.size sv zs hreach _ (by simp; omega) (by simp) ((hB0.cell (p := ⟨Bq, 0, none⟩) hBq).trans hc) (hI.below hB0)) belowK_t (belowK_b (by simp)) (Below.refl _ _) (fun _ => rfl)
    (fun pre W => (∃ v, W.heap[w.heap.size]? = some (.cells #[v] 22 (0, 0)) ∧ W.ownsRow w.heap.size 9 1 v pre.length (pre.map strV)) ∧ Below w.heap.size w W)
    (fun _ _ _ => False)
    (OwnFrom.and (Own.from (fun s A B row hs hg hr => by
      obtain ⟨v, hv, hrow⟩ := hs
      refine ⟨v, (grownBy_keeps_cells hg hr hv rfl).trans hv, hrow.kept hg ?_⟩
      rcases hrow.2 with ⟨rfl, _⟩ | ⟨gb, cap, cur, rfl, _, hgb, _⟩
      · exact .inl rfl
      · refine .inr fun e' => ?_
        obtain ⟨o, ho, hw⟩ := hr gb (by simpa [Value.ownBlock] using e'.symm)
        rw [hgb] at ho
        cases ho
        cases hw) _) (ownFrom_below (Nat.le_refl _) (by simp)))
    (fun _ _ _ _ _ hs _ _ => hs)
    ⟨⟨_, hv0, rfl, .inl ⟨rfl, rfl⟩⟩, hB0⟩
    (fun x => { tmps := #[.slice none 0 0, .func (.func 276) #[] #[.pointer (some ⟨Bq, 0, none⟩)], .pointer (some ⟨w.heap.size, 0, none⟩), undef, .slice none 0 0, strV x, .func (.func 276) #[] #[.pointer (some ⟨Bq, 0, none⟩)], strV x, undef, undef, undef, undef, undef], defers := [] }) ?assign ?body ?done ?stop
  case assign =>
    intro l x W K hK
    gi_wp2
    exact hK
  case body =>
    rintro l pre x W ⟨⟨v, hv, hrow⟩, hB⟩ hlen
    obtain ⟨hc2, hf2⟩ := cell_of_box_a hv
    have hBlt : w.heap.size < W.heap.size := (Array.getElem?_eq_some_iff.1 hv).1
    have hbox : some w.heap.size ≠ v.ownBlock := by
      rcases ownsRow_ne_a hrow hv (fun cur e => hne (Obj.cells.inj e).2.1) with e | e
      · rw [e]; simp
      · exact fun e' => e e'.symm
    gi_wp2_with (first
      | (gi_at_builtin; refine wpListIn_append_own _ rfl _ _ 22 rfl w.heap.size 9 i0 (.string ⟨#[]⟩) 1 16 Tryz.underlying22 hi hz0 hz1 hz2 rfl (by decide) v pre.length (pre.map strV) rfl (hrow.alloc _) ⟨W.heap.size, 0, none⟩ 1 1 [strV x] rfl rfl (cell_one_new _ _ _) (by simp [Value.oneCell', strV]) (by unfold maxLen; omega) (by omega) (by have := hB.size; simp; omega) ?_
         intro v' w3 hown' hg3 hnil3
         have hv3 : w3.heap[w.heap.size]? = some (.cells #[v] 22 (0, 0)) := (hg3.block w.heap.size (by simp; omega) hbox).trans ((Below.heap_alloc _ _ w.heap.size hBlt).trans hv)
         obtain ⟨hc3, hf3⟩ := cell_of_box_a hv3
         obtain ⟨g', cap', cur', rfl, hbase', hgb', hr1, hr2, hr3, hr4⟩ : ∃ g' cap' cur', v' = .slice (some ⟨g', 0, none⟩) (pre.length + 1) cap' ∧ w.heap.size ≤ g' ∧ w3.heap[g']? = some (.cells cur' 9 (0, 0)) ∧ pre.length + 1 ≤ cap' ∧ cap' ≤ maxLen ∧ cur'.size = cap' * 1 ∧ cur'.toList.take ((pre.length + 1) * 1) = pre.map strV ++ [strV x] := by
           rcases hown'.2 with ⟨_, h0⟩ | h'
           · exact absurd h0 (by omega)
           · exact h'
         go_frame)
      | gi_round_op_a)
    have hg3' : (W.alloc (.cells #[strV x] 9)).grownBy w3 v.ownBlock := hg3
    have hB3 : Below w.heap.size W w3 := ((Below.refl _ W).alloc hB.size _).grown hg3' (by have := hB.size; simp; omega) (fun k e => (hrow.lt k e).1)
    refine ⟨(((KeepsOthers.alloc _ _).trans (KeepsOthers.of_grownBy hg3' (fun j o e ho => ?_))).trans (KeepsOthers.setCell _ _ _)).from _, hB3.setCell (p := ⟨w.heap.size, 0, none⟩) (Nat.le_refl _) _, ⟨_, heap_setCell_box_a _ hv3, ?_⟩, (hB.trans hB3).setCell (p := ⟨w.heap.size, 0, none⟩) (Nat.le_refl _) _⟩
    · rcases (hrow.alloc (.cells #[strV x] 9)).2 with ⟨rfl, _⟩ | ⟨gb, cap, cur, rfl, _, hgb, _⟩
      · cases e
      · have : gb = j := by simpa [Value.ownBlock] using e
        subst this
        rw [hgb] at ho
        cases ho
        rfl
    · have := hown'.kept (grownBy_setCell0_a w3 w.heap.size (.slice (some ⟨g', 0, none⟩) (pre.length + 1) cap')) (ownsRow_ne_a hown' hv3 (fun cur e => hne (Obj.cells.inj e).2.1))
      simpa using this
  case done =>
    rintro D ys W hD rfl ⟨⟨v, hv, hrow⟩, hB⟩ hK
    obtain ⟨hc2, hf2⟩ := cell_of_box_a hv
    gi_wp2
    refine ⟨by simp, .inl ⟨_, _, rfl, run_takeDeferred hK, ?_⟩⟩
    exact ⟨_, results_tmp rfl _ _ _, v, rfl, hrow.kept (grownBy_putObj' W D (.deferred none)) (ownsRow_ne_a hrow hK (fun cur e => by cases e)), hB.trans (belowK_b (w := w) (Nat.le_refl _) W D _ _ (by simp at hD; omega) hK rfl rfl)⟩
  case stop =>
    rintro D c pre W _ _ h _
    exact h.elim
def slices_AppendSeq (l : List Str) : Option (List Str × List Str) := if l.length * 16 ≤ 140737488351232 then some (l, l) else none
set_option maxHeartbeats 1000000 in
theorem slices_AppendSeq_sound : Sound Tryz.prog GW B0G 296 ⟨[.nilS, .fnc 276 [0]], [.cells [.v (.sl .str)]], [.row 1], [.cells [.v (.sl .str)], .row 9 .str true], List Str × List Str, fun z => (((), ()), ((z.1, ()), (z.2, ()))), fun _ y => slices_AppendSeq y.1.1⟩ := by
  refine Sound.ofMade Tryz.call296 rfl fun M w g vs x y z hG hB hF hz => ?_
  obtain ⟨⟨l, _⟩, _⟩ := y
  change slices_AppendSeq l = some z at hz
  unfold slices_AppendSeq at hz
  split at hz
  case isFalse => cases hz
  rename_i hc
  obtain rfl := Option.some.inj hz
  match vs, hF.args with
  | [v0, v], ⟨hv0, ⟨h0, _⟩⟩ =>
    have hv0' : v0 = .slice none 0 0 := hv0
    subst hv0'
    obtain ⟨cv, rfl, hcs⟩ := h0
    obtain ⟨g1, hg1, hr1⟩ := hF.res 0 (.cells [.v (.sl .str) l]) rfl
    have hr1' := hr1
    obtain ⟨bm, vs1, el, e1, hb1, ha1⟩ := hr1
    have hcv : cv.toList = [boxV bm] := by
      match cv.toList, hcs with
      | [u], ⟨⟨gy, by_, hgy, hv, hu⟩, _⟩ =>
        have : g 0 = some gy := hgy
        rw [hg1] at this
        cases this
        rw [e1] at hv
        rw [hu, ← hv]
    have hcv2 : cv = #[boxV bm] := by rw [← Array.toArray_toList (xs := cv), hcv]
    subst hcv2
    obtain ⟨sv, hvs1, hrep⟩ : ∃ sv, vs1 = #[sv] ∧ RepV M w (.sl .str) l sv := by
      have e2 : vs1 = vs1.toList.toArray := (Array.toArray_toList (xs := vs1)).symm
      match hl : vs1.toList, ha1 with
      | [u], ha1 =>
        rw [hl] at e2
        exact ⟨u, e2, ha1.1⟩
    subst hvs1
    obtain ⟨A, c, rfl, hc1, hc2, hcell⟩ := RepV.strs hrep
    have hbl : bm < w.heap.size := lt_of_map hb1
    have hcell0 : w.cell? ⟨bm, 0, none⟩ = some (.slice A l.length c) := by unfold World.cell?; rw [hb1]; rfl
    have hI : StrsAt w.heap.size w (.slice A l.length c) l := by
      rcases Classical.em (l = []) with hl | hl
      · subst hl; exact .inl ⟨A, c, rfl, rfl⟩
      · obtain ⟨bk, o, rfl, hce⟩ := hcell hl
        refine .inr ⟨bk, o, c, rfl, ?_, fun j hj => ?_⟩
        · cases l with
          | nil => exact absurd rfl hl
          | cons x r => exact World.block_lt_of_cell? w _ (hce 0 x rfl)
        · have hj2 : l[j]? = some (l[j]?.getD []) := by rw [List.getElem?_eq_getElem hj]; rfl
          exact hce j _ hj2
    refine ((callsIn_wide (n := 5)).1 (appendSeq_walk 5 (by omega) bm _ l hc w hbl hcell0 hI)).mono fun e w' hp => ?_
    obtain ⟨v', rfl, hrow, hbel⟩ := hp
    have hE : Ext w w' := ⟨hbel.os, hbel.tape, hbel.output, hbel.size, fun k hk => hbel.block k hk⟩
    have hrow : w'.ownsRow w.heap.size 9 1 v' l.length (l.map strV) := hrow
    obtain ⟨A', c', hv', _⟩ := Row.of_own' hrow
    refine ⟨[v'], ⟨v'.ownBlock, 0, v'⟩, rfl, hE, fun b' hb => ?_, fun M' g' hgo hgn hst => ⟨⟨⟨_, A', _, c', hgn, rfl, hv'⟩, trivial⟩, fun r blk hr => ?_⟩⟩
    · rcases hrow.2 with ⟨e3, _⟩ | ⟨g3, cap, cur, e3, hb3, hg3, _⟩
      · rw [e3] at hb; cases hb
      · rw [e3] at hb
        simp only [Value.ownBlock, Option.some.injEq] at hb
        subst hb
        exact ⟨hb3, lt_of_map hg3, fun h => absurd h (Nat.lt_irrefl 0)⟩
    · match r, hr with
      | 0, hr =>
        obtain rfl : Blk.cells [.v (.sl .str) l] = blk := Option.some.inj hr
        obtain ⟨b5, vs5, el5, e5, h5, ha5⟩ := hr1'
        exact ⟨g1, hgo _ _ hg1, b5, vs5, el5, e5, (hE.block b5 (lt_of_map h5)).trans h5, ha5.mono fun d v hd => hd.sameV hst fun r x hr => ⟨x, hgo r x hr, rfl⟩⟩
      | 1, hr =>
        obtain rfl : Blk.row 9 .str true l = blk := Option.some.inj hr
        exact ⟨_, hgn, by decide, _, ownsRow_base_a hrow (Nat.zero_le _), rfl, rfl, str_els _⟩
      | 2, hr => cases hr
      | r + 3, hr => cases hr
end Go.Proofs.YtahjncefiegflaaGreatDoor



/- The types that the printed functions use, as the program has them. -/
namespace Go.Proofs.YtahjncefiegflaaGreatDoor.Cn
open Go Go.RowKit
set_option maxRecDepth 100000
theorem tyOk_string : TyOk Tryz.prog 9 .str := ⟨_, by kernel_rfl, Tryz.underlying9, rfl⟩
theorem tyOk_ABstring : TyOk Tryz.prog 22 (.sl .str) := ⟨_, by kernel_rfl, Tryz.underlying22, rfl⟩
def tyT : TypeId → Option Ty := fun T =>
  match T with
  | 9 => some .str
  | 22 => some (.sl .str)
  | _ => none
theorem tyT_ok : ∀ T t, tyT T = some t → TyOk Tryz.prog T t := by
  intro T t h
  unfold tyT at h
  split at h
  · cases h; exact tyOk_string
  · cases h; exact tyOk_ABstring
  · cases h
def elT : TypeId → Option (TypeId × Ty) := fun T =>
  match T with
  | 22 => some (9, .str)
  | _ => none
theorem elT_ok : ∀ T e t, elT T = some (e, t) → ElOk Tryz.prog T e t := by
  intro T e t h
  unfold elT at h
  split at h
  · cases h; exact ⟨tyOk_string, 16, ElemT.mk_ Tryz.underlying22 (z := mkV .str (zeroC .str)) (by kernel_rfl) rfl (by decide) (by decide), by decide⟩
  · cases h
def fldT : TypeId → Nat → Option (Nat × Ty) := fun T f =>
  match T, f with
  | _, _ => none
theorem fldT_ok : ∀ T f off t, fldT T f = some (off, t) → FldOk Tryz.prog T f off t := by
  intro T f off t h
  unfold fldT at h
  split at h
  · cases h
theorem mpT_ok : ∀ T e, tyT T = some (.mp e) → MpOk Tryz.prog T e := by
  intro T e h
  unfold tyT at h
  split at h
  · cases h
  · cases h
  · cases h
theorem bldT_ok : ∀ T t, tyT T = some t → t.isAgg = true → ∃ fs places, Tryz.prog.underlying T = some (.struct fs) ∧ fs.toList.mapM (fun f => (Tryz.prog.info? f.type).map fun i => (f.offset, i.size)) = some places := by
  intro T t h ha
  unfold tyT at h
  split at h
  · cases h; cases ha
  · cases h; cases ha
  · cases h
theorem ptT_ok : ∀ T t, tyT T = some t → isPtr t = true → (Tryz.prog.info? (Tryz.prog.pointee T)).isSome = true := by
  intro T t h ha
  unfold tyT at h
  split at h
  · cases h; cases ha
  · cases h; cases ha
  · cases h
def cmpT : TypeId → Option Ty := fun T =>
  match T with
  | _ => none
theorem cmpT_ok : ∀ T t, cmpT T = some t → CmpOk Tryz.prog T t := by
  intro T t h
  unfold cmpT at h
  split at h
  · cases h
def mkE (h : Nat → Hint) (fn : FuncId → Option Tmp → Option AF) (exq : Nat → Bool) (live : FuncId → Bool) : Env := { ty := tyT, el := elT, fld := fldT, cmp := cmpT, fn := fn, hint := h, exq := exq, live := live }
theorem mkE_ok (hh : Nat → Hint) (fn : FuncId → Option Tmp → Option AF) (exq : Nat → Bool) (live : FuncId → Bool) (h : ∀ f q F, fn f q = some F → Sound Tryz.prog GW B0G f F) : EnvOk Tryz.prog GW B0G (mkE hh fn exq live) :=
  { ty := tyT_ok, el := elT_ok, fld := fldT_ok, mp := mpT_ok, bld := bldT_ok, ptr := ptT_ok, cmp := cmpT_ok, fn := h, stable := GW_stable, mixed := by kernel_rfl }
end Go.Proofs.YtahjncefiegflaaGreatDoor.Cn


/- What functions of the program compute, as plain functions (printed). -/
namespace Go.Proofs.YtahjncefiegflaaGreatDoor.Cn
open Go Go.RowKit
set_option maxRecDepth 100000
set_option linter.unusedVariables false
noncomputable section
def slices_Clone_string_string (_N : Nat) (x0 : List Str) : Option (List Str) :=
  br ((x0).isEmpty)
    (both
      (some ([] : List Str))
      (br (decide ((([] : List Str).length + x0.length) * (24 * Ty.sz .str) ≤ 140737488355328))
        (some (([] : List Str) ++ x0))
        none))
    (br (decide ((([] : List Str).length + x0.length) * (24 * Ty.sz .str) ≤ 140737488355328))
      (some (([] : List Str) ++ x0))
      none)
abbrev slices_Clone_string_string_sg (f : SV [.v (.sl .str)] → BV [] → Option (List Str)) : AF := { ps := [.v (.sl .str)], bs := [], rs := [.row 0], cs := [.row 9 .str false], R := List Str, out := fun z => (((), ()), (z, ())), f := f }
abbrev slices_Clone_string_string_pk : SV [.row 0] → BV [.row 9 .str false] → (List Str) := fun _ y => y.1
def slices_Clone_string_string_fn (_N : Nat) : FuncId → Option Tmp → Option AF := fun f _ =>
  match f with
    | _ => none
theorem slices_Clone_string_string_fn_ok (N : Nat) : ∀ f q F, slices_Clone_string_string_fn N f q = some F → Sound Tryz.prog GW B0G f F := by
  intro f q F h
  unfold slices_Clone_string_string_fn at h
  split at h
  · cases h
def slices_Clone_string_string_h : Nat → Hint := fun i =>
  match i with
  | _ => ⟨[], [], [], [], [], []⟩
abbrev slices_Clone_string_string_E (N : Nat) : Env := mkE slices_Clone_string_string_h (slices_Clone_string_string_fn N) (fun _ => false) (fun _ => false)
noncomputable def slices_Clone_string_string_LP (N : Nat) : Nat → Code → St → (Ex → St → Option (List Str)) → Option (List Str) := fun i c =>
  match i with
  | i => fun st k => iter (slices_Clone_string_string_h i) (exec (slices_Clone_string_string_E N) N c i) N st k
theorem slices_Clone_string_string_core (N : Nat) (x : SV [.v (.sl .str)]) (y : BV []) : runL (slices_Clone_string_string_E N) Tryz.f100 (slices_Clone_string_string_sg fun x _ => slices_Clone_string_string N x.1) slices_Clone_string_string_pk (slices_Clone_string_string_LP N) x y = slices_Clone_string_string N x.1 := by kernel_rfl
theorem slices_Clone_string_string_sound (N : Nat) : Sound Tryz.prog GW B0G 100 (slices_Clone_string_string_sg fun x _ => slices_Clone_string_string N x.1) :=
  runD_sound (mkE_ok slices_Clone_string_string_h (slices_Clone_string_string_fn N) _ _ (slices_Clone_string_string_fn_ok N)) Tryz.func100 rfl Tryz.call100 (slices_Clone_string_string_sg fun x _ => slices_Clone_string_string N x.1) slices_Clone_string_string_pk (fun _ _ => rfl) N (fun x y _ h => ((runL_eq (slices_Clone_string_string_E N) N Tryz.f100 (slices_Clone_string_string_sg fun x _ => slices_Clone_string_string N x.1) slices_Clone_string_string_pk (slices_Clone_string_string_LP N) (show LoopsOk (slices_Clone_string_string_LP N) (slices_Clone_string_string_E N) N (resD (slices_Clone_string_string_E N) Tryz.f100 (slices_Clone_string_string_sg fun x _ => slices_Clone_string_string N x.1) slices_Clone_string_string_pk) [] from trivial) x y).trans (slices_Clone_string_string_core N x y)).trans h)
end
end Go.Proofs.YtahjncefiegflaaGreatDoor.Cn


/- slices.Clone of strings: as something that can be reckoned. -/
namespace Go.Proofs.YtahjncefiegflaaGreatDoor.Cn
open Go Go.RowKit
set_option linter.unusedVariables false
set_option linter.unusedSimpArgs false
def cloneS (l : List Str) : Option (List Str) := if l.length ≤ 1000000 then some l else none
theorem clone_eq (l : List Str) (h : l.length ≤ 1000000) : slices_Clone_string_string 100 l = some l := by
  have h2 : (([] : List Str).length + l.length) * (24 * Ty.sz .str) ≤ 140737488355328 := by
    have : Ty.sz .str = 1 := rfl
    rw [this]; simp; omega
  unfold slices_Clone_string_string
  cases l with
  | nil => simp only [List.isEmpty_nil, br_true, decide_eq_true h2, List.append_nil, both_self]
  | cons x l => simp only [List.isEmpty_cons, br_false, decide_eq_true h2, br_true, List.nil_append]
theorem less {P : Program} {G : World → Prop} {B0 : Nat} {f : FuncId} {ps bs rs cs} {R : Type} {out : R → SV rs × BV cs} {F F' : SV ps → BV bs → Option R} (h : Sound P G B0 f ⟨ps, bs, rs, cs, R, out, F⟩) (e : ∀ x y z, F' x y = some z → F x y = some z) : Sound P G B0 f ⟨ps, bs, rs, cs, R, out, F'⟩ :=
  ⟨h.1, fun M w g vs x y z hG hB hF hz => h.2 M w g vs x y z hG hB hF (e x y z hz)⟩
theorem cloneS_sound : Sound Tryz.prog GW B0G 100 (slices_Clone_string_string_sg fun x _ => cloneS x.1) :=
  less (slices_Clone_string_string_sound 100) fun x y z hz => by
    change cloneS x.1 = some z at hz
    unfold cloneS at hz
    split at hz
    · rename_i h
      cases hz
      exact clone_eq _ h
    · cases hz
end Go.Proofs.YtahjncefiegflaaGreatDoor.Cn

