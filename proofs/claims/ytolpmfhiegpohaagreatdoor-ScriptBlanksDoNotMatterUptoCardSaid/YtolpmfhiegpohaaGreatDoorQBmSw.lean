/-
  DERIVED: THE SHELF's CONTRACTS AT THIS DUMP, IN PLAIN WORDS (tools/lay-plain.mjs out of 'TryzShelf.lean', which tools/lay-shelf.mjs wrote): THE SAME DECLARATIONS UNDER THE SAME NAMES: 'import', 'namespace', 'open', 'def', 'theorem' AND NOTHING ELSE: no command of the shelf's: FOR A HAND-IN. Each laying: the table of numbers ('.._ren') and one theorem, a field a fact of the dump's own or the kernel's comparison; each contract: ONE APPLICATION.
-/
import Derived.Shelf.Strings.Builder1
import Derived.Shelf.Strings.Builder2
import Derived.Shelf.Strings.OnBuilder
import Derived.Shelf.Small.Bits
import Derived.Shelf.Small.Strs
import Derived.Shelf.Utf8.RuneCount
import Derived.Shelf.Strconv.Atoi
import Derived.Shelf.Strconv.Itoa0
import Derived.Shelf.Strings.Search1
import Derived.Shelf.Strings.Search2
import Derived.Shelf.Strings.Search3
import Derived.Shelf.Strings.Count
import Derived.Shelf.LaysM
import Derived.Shelf.Strings.Shaped
import Derived.Shelf.Strings.Split
import Derived.Shelf.Strings.SplitShaped
import Derived.Shelf.Unicode.Decode
import Derived.Shelf.Strings.RuneCount
import Derived.Shelf.Strings.Explode
import Derived.Shelf.Bits.Mul64
import Derived.Shelf.Unicode.DecodeSlow
import Derived.Shelf.Unicode.DecodeAny
import Derived.Shelf.Slices.Turned
import Derived.Shelf.Slices.Equal
import Derived.Ground.Names2Prog
import Derived.Shelf.Slices.Clone
import Derived.Shelf.Slices.CompactS
import Derived.Shelf.Slices.Cells
import Derived.Ground.SlgnProg
import Derived.Shelf.SlicesE.Clone
import Derived.Ground.SlgmProg
import Derived.Shelf.SortM.Plain
import Derived.Shelf.SortM.SortNone
import Derived.Test.YtolpmfhiegpohaaGreatDoorProg
import Derived.Test.YtolpmfhiegpohaaGreatDoorQBmX
import Derived.Test.YtolpmfhiegpohaaGreatDoorQFor
import Derived.WalkSpells
import Derived.WalkLawsBesides
import Derived.Outline
import Derived.IntWalk
import Derived.WalkKit
import Derived.Defers
import Derived.Recover
import Derived.Shelf.Strings.SlTrimAscii
import Derived.Lib.Join
import Derived.RangeFuncBox
import Derived.RangeFuncLeaves
import Derived.RangeFuncWrites
import Derived.Shelf.Abstract
import Derived.OwnWalkIn
import Derived.TacticsInMore
import Derived.LoopNIn
import Derived.LoopIn
import Derived.Shelf.SlIter.Collect
namespace Go.Proofs
open Go.Shelf
def Tryz.lays106_ren:Go.Shelf.Ren:=⟨fun|106=>45|213=>71|265=>133|n=>n,fun|9=>9|3=>3|n=>n,fun|n=>n⟩
theorem Tryz.lays106:Go.Proofs.Lays.n106 Tryz.prog Tryz.lays106_ren:={
 mixed:=by kernel_rfl
 f106:=Tryz.func45.trans (congrArg some (by kernel_rfl))
 f213:=Tryz.func71.trans (congrArg some (by kernel_rfl))
 f265:=Tryz.func133.trans (congrArg some (by kernel_rfl))
 t3:=Tryz.underlying3
 a3:=Tryz.isAgg3
 z3:=Tryz.sizeOf3
 v3:=Tryz.zeroValue3
 t9:=Tryz.underlying9
 a9:=Tryz.isAgg9
 z9:=Tryz.sizeOf9
 v9:=Tryz.zeroValue9}
open Go.RowKit in
theorem Tryz.strings_Compare(a b:ByteArray)(w:World):
  Calls Tryz.prog 45 #[.string a,.string b] w fun e w'=>e = .returned (.int .i64 (Lib.compareBytes a.data.toList b.data.toList))/\w'=w:=Any.strings_Compare Tryz.lays106 a b w
def Tryz.lays137_ren:Go.Shelf.Ren:=⟨fun|137=>32|217=>62|266=>114|n=>n,fun|9=>9|5=>5|3=>3|n=>n,fun|n=>n⟩
theorem Tryz.lays137:Go.Proofs.Lays.n137 Tryz.prog Tryz.lays137_ren:={
 mixed:=by kernel_rfl
 f137:=Tryz.func32.trans (congrArg some (by kernel_rfl))
 f217:=Tryz.func62.trans (congrArg some (by kernel_rfl))
 f266:=Tryz.func114.trans (congrArg some (by kernel_rfl))
 t3:=Tryz.underlying3
 a3:=Tryz.isAgg3
 z3:=Tryz.sizeOf3
 v3:=Tryz.zeroValue3
 t5:=Tryz.underlying5
 a5:=Tryz.isAgg5
 z5:=Tryz.sizeOf5
 v5:=Tryz.zeroValue5
 t9:=Tryz.underlying9
 a9:=Tryz.isAgg9
 z9:=Tryz.sizeOf9
 v9:=Tryz.zeroValue9}
open Go.RowKit in
theorem Tryz.strings_IndexByte(s:ByteArray)(c:Int)(w:World):
  Calls Tryz.prog 32 #[.string s,.int .u8 c] w fun e w'=>e = .returned (.int .i64 (Lib.indexByte s.data.toList c.toNat.toUInt8))/\w'=w:=Any.strings_IndexByte Tryz.lays137 s c w
def Tryz.lays172_ren:Go.Shelf.Ren:=⟨fun|172=>90|244=>147|245=>148|247=>187|279=>188|280=>189|281=>190|282=>191|287=>227|316=>228|171=>109|205=>229|321=>262|322=>263|243=>158|246=>201|283=>231|284=>232|285=>233|286=>234|129=>132|317=>264|318=>265|319=>266|320=>267|337=>303|338=>304|n=>n,fun|9=>9|3=>3|75=>152|76=>153|4=>4|5=>5|167=>250|37=>84|0=>0|85=>251|2=>2|168=>253|53=>197|175=>291|46=>138|210=>294|127=>129|145=>338|143=>336|21=>21|171=>296|173=>298|212=>341|51=>195|20=>20|213=>342|232=>393|233=>394|80=>91|n=>n,fun|15=>1|16=>2|17=>3|18=>6|19=>7|n=>n⟩
theorem Tryz.lays172:Go.Proofs.Lays.n172 Tryz.prog Tryz.lays172_ren:={
 mixed:=by kernel_rfl
 f129:=Tryz.func132.trans (congrArg some (by kernel_rfl))
 f171:=Tryz.func109.trans (congrArg some (by kernel_rfl))
 f172:=Tryz.func90.trans (congrArg some (by kernel_rfl))
 f205:=Tryz.func229.trans (congrArg some (by kernel_rfl))
 f243:=Tryz.func158.trans (congrArg some (by kernel_rfl))
 f244:=Tryz.func147.trans (congrArg some (by kernel_rfl))
 f245:=Tryz.func148.trans (congrArg some (by kernel_rfl))
 f246:=Tryz.func201.trans (congrArg some (by kernel_rfl))
 f247:=Tryz.func187.trans (congrArg some (by kernel_rfl))
 f279:=Tryz.func188.trans (congrArg some (by kernel_rfl))
 f280:=Tryz.func189.trans (congrArg some (by kernel_rfl))
 f281:=Tryz.func190.trans (congrArg some (by kernel_rfl))
 f282:=Tryz.func191.trans (congrArg some (by kernel_rfl))
 f283:=Tryz.func231.trans (congrArg some (by kernel_rfl))
 f284:=Tryz.func232.trans (congrArg some (by kernel_rfl))
 f285:=Tryz.func233.trans (congrArg some (by kernel_rfl))
 f286:=Tryz.func234.trans (congrArg some (by kernel_rfl))
 f287:=Tryz.func227.trans (congrArg some (by kernel_rfl))
 f316:=Tryz.func228.trans (congrArg some (by kernel_rfl))
 f317:=Tryz.func264.trans (congrArg some (by kernel_rfl))
 f318:=Tryz.func265.trans (congrArg some (by kernel_rfl))
 f319:=Tryz.func266.trans (congrArg some (by kernel_rfl))
 f320:=Tryz.func267.trans (congrArg some (by kernel_rfl))
 f321:=Tryz.func262.trans (congrArg some (by kernel_rfl))
 f322:=Tryz.func263.trans (congrArg some (by kernel_rfl))
 f337:=Tryz.func303.trans (congrArg some (by kernel_rfl))
 f338:=Tryz.func304.trans (congrArg some (by kernel_rfl))
 t0:=Tryz.underlying0
 a0:=Tryz.isAgg0
 z0:=Tryz.sizeOf0
 v0:=Tryz.zeroValue0
 t2:=Tryz.underlying2
 a2:=Tryz.isAgg2
 z2:=Tryz.sizeOf2
 v2:=Tryz.zeroValue2
 t3:=Tryz.underlying3
 a3:=Tryz.isAgg3
 z3:=Tryz.sizeOf3
 v3:=Tryz.zeroValue3
 t4:=Tryz.underlying4
 a4:=Tryz.isAgg4
 z4:=Tryz.sizeOf4
 v4:=Tryz.zeroValue4
 t5:=Tryz.underlying5
 a5:=Tryz.isAgg5
 z5:=Tryz.sizeOf5
 v5:=Tryz.zeroValue5
 t9:=Tryz.underlying9
 a9:=Tryz.isAgg9
 z9:=Tryz.sizeOf9
 v9:=Tryz.zeroValue9
 t20:=Tryz.underlying20
 a20:=Tryz.isAgg20
 z20:=Tryz.sizeOf20
 v20:=Tryz.zeroValue20
 t21:=Tryz.underlying21
 a21:=Tryz.isAgg21
 z21:=Tryz.sizeOf21
 v21:=Tryz.zeroValue21
 t37:=Tryz.underlying84
 a37:=Tryz.isAgg84
 z37:=Tryz.sizeOf84
 v37:=Tryz.zeroValue84
 t46:=Tryz.underlying138
 a46:=Tryz.isAgg138
 z46:=Tryz.sizeOf138
 v46:=Tryz.zeroValue138
 t51:=Tryz.underlying195
 a51:=Tryz.isAgg195
 z51:=Tryz.sizeOf195
 v51:=Tryz.zeroValue195
 t53:=Tryz.underlying197
 a53:=Tryz.isAgg197
 z53:=Tryz.sizeOf197
 v53:=Tryz.zeroValue197
 t75:=Tryz.underlying152
 a75:=Tryz.isAgg152
 z75:=Tryz.sizeOf152
 v75:=Tryz.zeroValue152
 t76:=Tryz.underlying153
 a76:=Tryz.isAgg153
 z76:=Tryz.sizeOf153
 v76:=Tryz.zeroValue153
 t85:=Tryz.underlying251
 a85:=Tryz.isAgg251
 z85:=Tryz.sizeOf251
 v85:=Tryz.zeroValue251
 t127:=Tryz.underlying129
 a127:=Tryz.isAgg129
 z127:=Tryz.sizeOf129
 v127:=Tryz.zeroValue129
 t143:=Tryz.underlying336
 a143:=Tryz.isAgg336
 z143:=Tryz.sizeOf336
 v143:=Tryz.zeroValue336
 t145:=Tryz.underlying338
 a145:=Tryz.isAgg338
 z145:=Tryz.sizeOf338
 v145:=Tryz.zeroValue338
 t167:=Tryz.underlying250
 a167:=Tryz.isAgg250
 z167:=Tryz.sizeOf250
 v167:=Tryz.zeroValue250
 t168:=Tryz.underlying253
 a168:=Tryz.isAgg253
 z168:=Tryz.sizeOf253
 v168:=Tryz.zeroValue253
 t171:=Tryz.underlying296
 a171:=Tryz.isAgg296
 z171:=Tryz.sizeOf296
 v171:=Tryz.zeroValue296
 t173:=Tryz.underlying298
 a173:=Tryz.isAgg298
 z173:=Tryz.sizeOf298
 v173:=Tryz.zeroValue298
 t175:=Tryz.underlying291
 a175:=Tryz.isAgg291
 z175:=Tryz.sizeOf291
 v175:=Tryz.zeroValue291
 t210:=Tryz.underlying294
 a210:=Tryz.isAgg294
 z210:=Tryz.sizeOf294
 v210:=Tryz.zeroValue294
 t212:=Tryz.underlying341
 a212:=Tryz.isAgg341
 z212:=Tryz.sizeOf341
 v212:=Tryz.zeroValue341
 t213:=Tryz.underlying342
 a213:=Tryz.isAgg342
 z213:=Tryz.sizeOf342
 t232:=Tryz.underlying393
 a232:=Tryz.isAgg393
 z232:=Tryz.sizeOf393
 v232:=Tryz.zeroValue393
 t233:=Tryz.underlying394
 a233:=Tryz.isAgg394
 z233:=Tryz.sizeOf394
 v233:=Tryz.zeroValue394
 g15:=by kernel_rfl
 g16:=by kernel_rfl
 g17:=by kernel_rfl
 g18:=by kernel_rfl
 g19:=by kernel_rfl}
open Go.RowKit in
theorem Tryz.strconv_Atoi(s:ByteArray)(n:Int)(hl:s.size<=18)(h:Lib.atoi s.data.toList=some n)(w:World):
  Calls Tryz.prog 90 #[.string s] w fun e w'=>e = .returned (.tuple #[.int .i64 n,.nilIface])/\∃t,w'=Lib.bytesWorld w 5 t:=Any.strconv_Atoi Tryz.lays172 s n hl h w
def Tryz.laysM143_ren:Go.Shelf.Ren:=⟨fun|143=>208|219=>244|217=>62|225=>275|224=>276|267=>277|266=>114|314=>314|n=>n,fun|9=>9|3=>3|4=>4|5=>5|46=>138|146=>260|51=>195|n=>n,fun|1=>0|n=>n⟩
theorem Tryz.laysM143:Go.Proofs.LaysM.n143 Tryz.prog Tryz.laysM143_ren:={
 mixed:=by kernel_rfl
 f143:=Tryz.func208.trans (congrArg some (by kernel_rfl))
 f217:=Tryz.func62.trans (congrArg some (by kernel_rfl))
 f219:=Tryz.func244.trans (congrArg some (by kernel_rfl))
 f224:=Tryz.func276.trans (congrArg some (by kernel_rfl))
 f225:=Tryz.func275.trans (congrArg some (by kernel_rfl))
 f266:=Tryz.func114.trans (congrArg some (by kernel_rfl))
 f267:=Tryz.func277.trans (congrArg some (by kernel_rfl))
 f314:=Tryz.func314.trans (congrArg some (by kernel_rfl))
 t3:=Tryz.underlying3
 a3:=Tryz.isAgg3
 z3:=Tryz.sizeOf3
 v3:=Tryz.zeroValue3
 t4:=Tryz.underlying4
 a4:=Tryz.isAgg4
 z4:=Tryz.sizeOf4
 v4:=Tryz.zeroValue4
 t5:=Tryz.underlying5
 a5:=Tryz.isAgg5
 z5:=Tryz.sizeOf5
 v5:=Tryz.zeroValue5
 t9:=Tryz.underlying9
 a9:=Tryz.isAgg9
 z9:=Tryz.sizeOf9
 v9:=Tryz.zeroValue9
 t46:=Tryz.underlying138
 a46:=Tryz.isAgg138
 z46:=Tryz.sizeOf138
 v46:=Tryz.zeroValue138
 t51:=Tryz.underlying195
 a51:=Tryz.isAgg195
 z51:=Tryz.sizeOf195
 v51:=Tryz.zeroValue195
 t146:=Tryz.underlying260
 a146:=Tryz.isAgg260
 z146:=Tryz.sizeOf260
 v146:=Tryz.zeroValue260
 g1:=by kernel_rfl
 i3:=by kernel_rfl
 i4:=by kernel_rfl
 i5:=by kernel_rfl
 i9:=by kernel_rfl
 i46:=by kernel_rfl
 i51:=by kernel_rfl
 i146:=by kernel_rfl
 m1:=by kernel_rfl
 s1_3:=fun w h=>Go.Proofs.cell_of_shapedOpen_int (zero:=#[.int .i64 0]) (t:=3) h (of_decide_eq_true (by kernel_rfl)) (by kernel_rfl) rfl (by kernel_rfl) (by kernel_rfl) Tryz.underlying3}
def Tryz.lays146_ren:Go.Shelf.Ren:=⟨fun|146=>115|221=>162|268=>206|138=>207|143=>208|195=>241|197=>242|218=>243|219=>244|260=>274|217=>62|225=>275|224=>276|267=>277|266=>114|314=>314|n=>n,fun|9=>9|31=>65|3=>3|4=>4|0=>0|105=>316|21=>21|5=>5|46=>138|119=>308|139=>383|138=>382|146=>260|51=>195|n=>n,fun|1=>0|3=>4|4=>5|n=>n⟩
theorem Tryz.lays146:Go.Proofs.Lays.n146 Tryz.prog Tryz.lays146_ren:={
 mixed:=by kernel_rfl
 f138:=Tryz.func207.trans (congrArg some (by kernel_rfl))
 f143:=Tryz.func208.trans (congrArg some (by kernel_rfl))
 f146:=Tryz.func115.trans (congrArg some (by kernel_rfl))
 f195:=Tryz.func241.trans (congrArg some (by kernel_rfl))
 f197:=Tryz.func242.trans (congrArg some (by kernel_rfl))
 f217:=Tryz.func62.trans (congrArg some (by kernel_rfl))
 f218:=Tryz.func243.trans (congrArg some (by kernel_rfl))
 f219:=Tryz.func244.trans (congrArg some (by kernel_rfl))
 f221:=Tryz.func162.trans (congrArg some (by kernel_rfl))
 f224:=Tryz.func276.trans (congrArg some (by kernel_rfl))
 f225:=Tryz.func275.trans (congrArg some (by kernel_rfl))
 f260:=Tryz.func274.trans (congrArg some (by kernel_rfl))
 f266:=Tryz.func114.trans (congrArg some (by kernel_rfl))
 f267:=Tryz.func277.trans (congrArg some (by kernel_rfl))
 f268:=Tryz.func206.trans (congrArg some (by kernel_rfl))
 f314:=Tryz.func314.trans (congrArg some (by kernel_rfl))
 t0:=Tryz.underlying0
 a0:=Tryz.isAgg0
 z0:=Tryz.sizeOf0
 v0:=Tryz.zeroValue0
 t3:=Tryz.underlying3
 a3:=Tryz.isAgg3
 z3:=Tryz.sizeOf3
 v3:=Tryz.zeroValue3
 t4:=Tryz.underlying4
 a4:=Tryz.isAgg4
 z4:=Tryz.sizeOf4
 v4:=Tryz.zeroValue4
 t5:=Tryz.underlying5
 a5:=Tryz.isAgg5
 z5:=Tryz.sizeOf5
 v5:=Tryz.zeroValue5
 t9:=Tryz.underlying9
 a9:=Tryz.isAgg9
 z9:=Tryz.sizeOf9
 v9:=Tryz.zeroValue9
 t21:=Tryz.underlying21
 a21:=Tryz.isAgg21
 z21:=Tryz.sizeOf21
 v21:=Tryz.zeroValue21
 t31:=Tryz.underlying65
 a31:=Tryz.isAgg65
 z31:=Tryz.sizeOf65
 v31:=Tryz.zeroValue65
 t46:=Tryz.underlying138
 a46:=Tryz.isAgg138
 z46:=Tryz.sizeOf138
 v46:=Tryz.zeroValue138
 t51:=Tryz.underlying195
 a51:=Tryz.isAgg195
 z51:=Tryz.sizeOf195
 v51:=Tryz.zeroValue195
 t105:=Tryz.underlying316
 a105:=Tryz.isAgg316
 z105:=Tryz.sizeOf316
 v105:=Tryz.zeroValue316
 t119:=Tryz.underlying308
 a119:=Tryz.isAgg308
 z119:=Tryz.sizeOf308
 t138:=Tryz.underlying382
 a138:=Tryz.isAgg382
 z138:=Tryz.sizeOf382
 v138:=Tryz.zeroValue382
 t139:=Tryz.underlying383
 a139:=Tryz.isAgg383
 z139:=Tryz.sizeOf383
 v139:=Tryz.zeroValue383
 t146:=Tryz.underlying260
 a146:=Tryz.isAgg260
 z146:=Tryz.sizeOf260
 v146:=Tryz.zeroValue260
 g1:=by kernel_rfl
 g3:=by kernel_rfl
 g4:=by kernel_rfl}
open Go.RowKit Go.Lib in
theorem Tryz.strings_Split(s sep:ByteArray)(m:Int)(w:World)(hs:s.size<4294967281)(hm:w.cell? ⟨0,0,none⟩=some (.int .i64 m))(h1:1<=sep.size):
  Calls Tryz.prog 115 #[.string s,.string sep] w fun e w'=>
   e = .returned (.slice (some ⟨w.heap.size,0,none⟩) (Lib.countB s sep+1) (Lib.countB s sep+1))/\w'=w.alloc (.cells ((Lib.splitB sep 0 (Lib.countB s sep) s).map Value.string).toArray 9):=Any.strings_Split Tryz.lays146 (by kernel_rfl) s sep m w hs hm h1
def Tryz.lays194_ren:Go.Shelf.Ren:=⟨fun|194=>184|n=>n,fun|31=>65|9=>9|3=>3|4=>4|0=>0|n=>n,fun|n=>n⟩
theorem Tryz.lays194:Go.Proofs.Lays.n194 Tryz.prog Tryz.lays194_ren:={
 mixed:=by kernel_rfl
 f194:=Tryz.func184.trans (congrArg some (by kernel_rfl))
 t0:=Tryz.underlying0
 a0:=Tryz.isAgg0
 z0:=Tryz.sizeOf0
 v0:=Tryz.zeroValue0
 t3:=Tryz.underlying3
 a3:=Tryz.isAgg3
 z3:=Tryz.sizeOf3
 v3:=Tryz.zeroValue3
 t4:=Tryz.underlying4
 a4:=Tryz.isAgg4
 z4:=Tryz.sizeOf4
 v4:=Tryz.zeroValue4
 t9:=Tryz.underlying9
 a9:=Tryz.isAgg9
 z9:=Tryz.sizeOf9
 v9:=Tryz.zeroValue9
 t31:=Tryz.underlying65
 a31:=Tryz.isAgg65
 z31:=Tryz.sizeOf65
 v31:=Tryz.zeroValue65}
open Go.RowKit Go.Lib Go.Sort in
theorem Tryz.slices_Compact_string_empty(a:Option Addr)(cap:Nat)(w:World):
  Calls Tryz.prog 184 #[.slice a 0 cap] w fun e w'=>e = .returned (.slice a 0 cap)/\w'=w:=Any.slices_Compact_string_empty Tryz.lays194 a cap w
open Go.RowKit Go.Lib Go.Sort in
theorem Tryz.slices_Compact_string_cells(b off n c:Nat)(Sx:Nat->ByteArray)(w:World)(hbig:n<=9223372036854775807)(hcap:n<=c)(hc:∀i,i<n->w.cell? ⟨b,off+i,none⟩=some (.string (Sx i)))(hf:∀j,j<n->w.frozen? ⟨b,off+j,none⟩=false):
  Calls Tryz.prog 184 #[.slice (some ⟨b,off,none⟩) n c] w fun e w'=>e = .returned (.slice (some ⟨b,off,none⟩) (Lib.compact (Lib.strsOf Sx n)).length c)/\∃q,w'=(w.drewN q).setCells b off ((Lib.compact (Lib.strsOf Sx n)++List.replicate (n-(Lib.compact (Lib.strsOf Sx n)).length) []).map encStr):=Any.slices_Compact_string_cells Tryz.lays194 b off n c Sx w hbig hcap hc hf
def Tryz.laysSlM6_f225_ren:Go.Shelf.Ren:=⟨fun|6=>225|8=>70|9=>261|19=>131|20=>132|21=>294|22=>295|23=>296|24=>297|25=>298|26=>299|27=>300|28=>301|29=>302|36=>325|31=>174|32=>175|37=>326|38=>327|39=>328|41=>340|n=>n,fun|27=>65|29=>9|3=>3|32=>138|26=>65|0=>0|44=>195|46=>197|4=>4|36=>188|35=>187|41=>192|5=>5|9=>9|53=>237|57=>241|63=>286|64=>287|n=>n,fun|n=>n⟩
theorem Tryz.laysSlM6_f225:Go.Proofs.SlLaysM.n6 Tryz.prog Tryz.laysSlM6_f225_ren:={
 mixed:=by kernel_rfl
 f6:=⟨Tryz.f225.name,by decide,Tryz.func225.trans (congrArg some (by kernel_rfl))⟩
 f8:=Tryz.func70.trans (congrArg some (by kernel_rfl))
 f9:=⟨Tryz.f261.name,by decide,Tryz.func261.trans (congrArg some (by kernel_rfl))⟩
 f19:=Tryz.func131.trans (congrArg some (by kernel_rfl))
 f20:=Tryz.func132.trans (congrArg some (by kernel_rfl))
 f21:=⟨Tryz.f294.name,by decide,Tryz.func294.trans (congrArg some (by kernel_rfl))⟩
 f22:=⟨Tryz.f295.name,by decide,Tryz.func295.trans (congrArg some (by kernel_rfl))⟩
 f23:=⟨Tryz.f296.name,by decide,Tryz.func296.trans (congrArg some (by kernel_rfl))⟩
 f24:=⟨Tryz.f297.name,by decide,Tryz.func297.trans (congrArg some (by kernel_rfl))⟩
 f25:=⟨Tryz.f298.name,by decide,Tryz.func298.trans (congrArg some (by kernel_rfl))⟩
 f26:=⟨Tryz.f299.name,by decide,Tryz.func299.trans (congrArg some (by kernel_rfl))⟩
 f27:=⟨Tryz.f300.name,by decide,Tryz.func300.trans (congrArg some (by kernel_rfl))⟩
 f28:=⟨Tryz.f301.name,by decide,Tryz.func301.trans (congrArg some (by kernel_rfl))⟩
 f29:=⟨Tryz.f302.name,by decide,Tryz.func302.trans (congrArg some (by kernel_rfl))⟩
 f31:=Tryz.func174.trans (congrArg some (by kernel_rfl))
 f32:=Tryz.func175.trans (congrArg some (by kernel_rfl))
 f36:=⟨Tryz.f325.name,by decide,Tryz.func325.trans (congrArg some (by kernel_rfl))⟩
 f37:=⟨Tryz.f326.name,by decide,Tryz.func326.trans (congrArg some (by kernel_rfl))⟩
 f38:=⟨Tryz.f327.name,by decide,Tryz.func327.trans (congrArg some (by kernel_rfl))⟩
 f39:=⟨Tryz.f328.name,by decide,Tryz.func328.trans (congrArg some (by kernel_rfl))⟩
 f41:=⟨Tryz.f340.name,by decide,Tryz.func340.trans (congrArg some (by kernel_rfl))⟩
 t0:=Tryz.underlying0
 a0:=Tryz.isAgg0
 z0:=Tryz.sizeOf0
 v0:=Tryz.zeroValue0
 t3:=Tryz.underlying3
 a3:=Tryz.isAgg3
 z3:=Tryz.sizeOf3
 v3:=Tryz.zeroValue3
 t4:=Tryz.underlying4
 a4:=Tryz.isAgg4
 z4:=Tryz.sizeOf4
 v4:=Tryz.zeroValue4
 t5:=Tryz.underlying5
 a5:=Tryz.isAgg5
 z5:=Tryz.sizeOf5
 v5:=Tryz.zeroValue5
 t9:=Tryz.underlying9
 a9:=Tryz.isAgg9
 z9:=Tryz.sizeOf9
 v9:=Tryz.zeroValue9
 t26:=Tryz.underlying65
 a26:=Tryz.isAgg65
 z26:=Tryz.sizeOf65
 v26:=Tryz.zeroValue65
 t27:=Tryz.underlying65
 a27:=Tryz.isAgg65
 z27:=Tryz.sizeOf65
 v27:=Tryz.zeroValue65
 t29:=Tryz.underlying9
 a29:=Tryz.isAgg9
 z29:=Tryz.sizeOf9
 v29:=Tryz.zeroValue9
 t32:=Tryz.underlying138
 a32:=Tryz.isAgg138
 z32:=Tryz.sizeOf138
 v32:=Tryz.zeroValue138
 t35:=Tryz.underlying187
 a35:=Tryz.isAgg187
 z35:=Tryz.sizeOf187
 v35:=Tryz.zeroValue187
 t36:=Tryz.underlying188
 a36:=Tryz.isAgg188
 z36:=Tryz.sizeOf188
 v36:=Tryz.zeroValue188
 t41:=Tryz.underlying192
 a41:=Tryz.isAgg192
 z41:=Tryz.sizeOf192
 v41:=Tryz.zeroValue192
 t44:=Tryz.underlying195
 a44:=Tryz.isAgg195
 z44:=Tryz.sizeOf195
 v44:=Tryz.zeroValue195
 t46:=Tryz.underlying197
 a46:=Tryz.isAgg197
 z46:=Tryz.sizeOf197
 v46:=Tryz.zeroValue197
 t53:=Tryz.underlying237
 a53:=Tryz.isAgg237
 z53:=Tryz.sizeOf237
 v53:=Tryz.zeroValue237
 t57:=Tryz.underlying241
 a57:=Tryz.isAgg241
 z57:=Tryz.sizeOf241
 v57:=Tryz.zeroValue241
 t63:=Tryz.underlying286
 a63:=Tryz.isAgg286
 z63:=Tryz.sizeOf286
 v63:=Tryz.zeroValue286
 t64:=Tryz.underlying287
 a64:=Tryz.isAgg287
 z64:=Tryz.sizeOf287
 v64:=Tryz.zeroValue287}
open Go.Sort Go.RowKit in
theorem Tryz.slices_Sort_string(blk off cap:Nat)(ss:List (List UInt8))(w:World)(hH:Holds encStr w blk off ss.toArray)(hblk:blk<w.heap.size)(hsz:ss.length<4611686018427387904):
  Calls Tryz.prog 225 #[.slice (some ⟨blk,off,none⟩) ss.length cap] w fun e w'=>
   e = .returned (.tuple #[])/\∃n os,w'=grow (putRow encStr (Sort.ahead w n) blk off (ss.mergeSort fun x y=>decide (x<=y)).toArray) os:=AnyM.slices_Sort_string Tryz.laysSlM6_f225 blk off cap ss w hH hblk hsz
open Go.RowKit Go.Sort in
theorem Tryz.slices_Sort_string_none(p:Option Addr)(cap:Nat)(w:World):
  Calls Tryz.prog 225 #[.slice p 0 cap] w fun e w'=>e = .returned (.tuple #[])/\w'=w:=AnyM.slices_Sort_string_none Tryz.laysSlM6_f225 p cap w
end Go.Proofs
namespace Go.Proofs.YtolpmfhiegpohaaGreatDoor
set_option linter.unusedVariables false
set_option linter.unusedSimpArgs false
open Go Go.RowKit Go.Shelf
abbrev g0:Gh:=fun _=>none
theorem Sound.ofExt{P:Program}{G:World->Prop}{B0:Nat}{f:FuncId}{ps rs:List Sl}{R:Type}[BothC R]{out:R->SV rs×BV []}{F:SV ps->BV []->Option R}
  (hcall:∀(args:Array Value) (w:World),(callFunc f args).run P w = .ok (.enter f args) w)
  (h:∀(M:Nat->Nat->Prop) (w:World) (vs:List Value) (x:SV ps) (z:R),G w->(∀b o,M b o->b<w.heap.size)->All2 (RepD0 M w g0) (U4 id ps x) vs->F x ()=some z->
   Calls P f vs.toArray w fun e w'=>∃vs',e = .returned (a7j vs')/\Ext w w'/\All2 (RepD0 M w' g0) (U4 id rs (out z).1) vs'):Sound P G B0 f ⟨ps,[],rs,[],R,out,F⟩:=by
 refine⟨hcall,fun M w g vs x y z hG hB hF hz=>?_⟩
 have hg:g=g0:=by
  funext r
  cases hr:g r with
  |none=>rfl
  |some gx=>exact absurd (hF.dom r gx hr) (Nat.not_lt_zero _)
 subst hg
 have hM:a1d M g0 g0=M:=by
  funext b o
  refine propext ⟨fun h=>?_,fun h=> .inl ⟨h,fun⟨_,_,hx,_⟩=>by cases hx⟩⟩
  exact h.elim (fun h=>h.1) fun⟨_,_,hx,_⟩=>by cases hx
 refine(h M w vs x z hG hF.mlt hF.args hz).mono fun e w' hp=>?_
 obtain⟨vs',he,hE,hA⟩:=hp
 refine⟨vs',g0,he,ExtX.of_ext hE,?_,?_,fun _ _ h _=>(by cases h),fun b hb=> .inl hb⟩
 ·rw[hM];exact Step.ext hE
 ·rw[hM]
  exact{args:=hA,res:=fun r blk h=>(by cases h),dom:=fun r gx h=>(by cases h),inj:=fun _ _ _ _ _ h=>(by cases h),low:=fun _ _ _ h=>(by cases h),chg:=fun _ _ _ _ h=>(by cases h),mlt:=fun b o h=>Nat.lt_of_lt_of_le (hF.mlt b o h) hE.size,row:=fun _ _ _ h=>(by cases h)}
section
variable{M:Nat->Nat->Prop}{w:World}
theorem RepV.str{x:c8}{v:Value}(h:RepV M w .str x v):v = .string ⟨List.toArray x⟩:=by
 have:=RepV.plain rfl h
 have:=(show [v]=[.string ⟨List.toArray x⟩]from this)
 injection this
theorem RepV.u8{x:UInt8}{v:Value}(h:RepV M w .u8 x v):v = .int .u8 (UInt8.toNat x):=by
 have:=RepV.plain rfl h
 have:=(show [v]=[.int .u8 (UInt8.toNat x)]from this)
 injection this
theorem RepV.int{k:IntKind}{x:Int}{v:Value}(h:RepV M w (.int k) x v):v = .int k x:=by
 have:=RepV.plain rfl h
 have:=(show [v]=[.int k x]from this)
 injection this
theorem d9B(k:IntKind)(x:Int):RepV M w (.int k) x (.int k x):=RepC.toV rfl rfl
theorem RepV.strs{xs:List c8}{v:Value}(h:RepV M w (.sl .str) xs v):∃A c,v = .slice A xs.length c/\xs.length<=c/\c<=maxLen/\(xs ≠ []->∃b o,A=some ⟨b,o,none⟩/\∀j x,xs[j]? = some x->w.cell? ⟨b,o+j,none⟩=some (.string ⟨x.toArray⟩)):=by
 obtain⟨A,c,h1,h2,h3,h4⟩:=RepV.plain (t:= .sl .str) rfl h
 injection h1 with h1
 refine⟨A,c,h1,h2,h3,fun hx=>?_⟩
 have hat:∀i (h:i<xs.length),∃ad,A=some ad/\w.cell? (ad.add i)=some (.string ⟨xs[i].toArray⟩):=fun i hi=>by
  obtain⟨ad,es,a1,a2,a3⟩:=h4 i hi
  have a2':es=[.string ⟨xs[i].toArray⟩]:=a2
  subst a2'
  have:=(a3 0 _ rfl).1
  have e:(ad.add (i*Ty.sz .str)).add 0=ad.add i:=by show Addr.add (Addr.add ad (i*1)) 0=_;rw[Nat.mul_one];rfl
  rw[e]at this
  exact⟨ad,a1,this⟩
 have hl:0<xs.length:=by cases xs with
  |nil=>exact absurd rfl hx
  |cons=>exact Nat.succ_pos _
 obtain⟨ad,a1,a2⟩:=hat 0 hl
 obtain⟨b,o,sp⟩:=ad
 have hsp:sp=none:=by
  cases sp with
  |none=>rfl
  |some s=>
   have:w.cell? (⟨b,o,some s⟩:Addr)=none:=by
    unfold World.cell?
    split
    ·rfl
    ·rfl
   rw[show Addr.add ⟨b,o,some s⟩ 0=⟨b,o,some s⟩from rfl,this]at a2
   cases a2
 subst hsp
 refine⟨b,o,a1,fun j x hj=>?_⟩
 have hj':j<xs.length:=by
  rcases Nat.lt_or_ge j xs.length with h|h
  ·exact h
  ·rw[List.getElem?_eq_none h]at hj;cases hj
 obtain⟨ad,b1,b2⟩:=hat j hj'
 rw[a1]at b1
 injection b1 with b1
 subst b1
 rw[List.getElem?_eq_getElem hj']at hj
 injection hj with hj
 subst hj
 have e:Addr.add ⟨b,o,none⟩ j=⟨b,o+j,none⟩:=by unfold Addr.add;split<;>simp_all
 rwa [e]at b2
end
end Go.Proofs.YtolpmfhiegpohaaGreatDoor
namespace Go.Proofs.YtolpmfhiegpohaaGreatDoor
set_option linter.unusedVariables false
set_option linter.unusedSimpArgs false
open Go Go.RowKit Go.Shelf
def strings_IndexByte(s:c8)(c:UInt8):Option Int:=some (Lib.indexByte s c)
theorem F1:Sound Tryz.prog GW B7 32 ⟨[.v .str,.v .u8],[],[.v (.int .i64)],[],Int,fun z=>((z,()),()),fun x _=>strings_IndexByte x.1 x.2.1⟩:=by
 refine Sound.ofExt Tryz.call32 fun M w vs x z hG hM hA hz=>?_
 obtain⟨a,b,u⟩:=x
 match vs,hA with
 |[v1,v2],hA=>
  obtain⟨h1,h2,_⟩:=hA
  rw[RepV.str h1,RepV.u8 h2]
  have e:Lib.indexByte a b=z:=Option.some.inj hz
  subst e
  refine(Tryz.strings_IndexByte ⟨a.toArray⟩ (UInt8.toNat b) w).mono fun e w' hp=>?_
  obtain⟨rfl,rfl⟩:=hp
  refine⟨[_],rfl,Ext.refl _,?_,trivial⟩
  have e2:((UInt8.toNat b:Nat):Int).toNat.toUInt8=b:=by simp
  rw[e2]
  exact d9B .i64 _
def strings_Compare(a b:c8):Option Int:=some (Lib.compareBytes a b)
theorem a4E:Sound Tryz.prog GW B7 45 ⟨[.v .str,.v .str],[],[.v (.int .i64)],[],Int,fun z=>((z,()),()),fun x _=>strings_Compare x.1 x.2.1⟩:=by
 refine Sound.ofExt Tryz.call45 fun M w vs x z hG hM hA hz=>?_
 obtain⟨a,b,u⟩:=x
 match vs,hA with
 |[v1,v2],hA=>
  obtain⟨h1,h2,_⟩:=hA
  rw[RepV.str h1,RepV.str h2]
  have e:Lib.compareBytes a b=z:=Option.some.inj hz
  subst e
  refine(Tryz.strings_Compare ⟨a.toArray⟩ ⟨b.toArray⟩ w).mono fun e w' hp=>?_
  obtain⟨rfl,rfl⟩:=hp
  exact⟨[_],rfl,Ext.refl _,d9B .i64 _,trivial⟩
theorem e1T{M:Nat->Nat->Prop}{w w':World}(hM:∀b o,M b o->b<w.heap.size)(xs:List c8)(hl:xs.length<=maxLen)(e:TypeId)
  (hw:w'=w.alloc (.cells (xs.map fun x=>Value.string ⟨x.toArray⟩).toArray e)):RepV M w' (.sl .str) xs (.slice (some ⟨w.heap.size,0,none⟩) xs.length xs.length):=by
 subst hw
 refine RepC.toV rfl ⟨some ⟨w.heap.size,0,none⟩,xs.length,rfl,Nat.le_refl _,hl,fun i hi=>⟨⟨w.heap.size,0,none⟩,[.string ⟨xs[i].toArray⟩],rfl,rfl,fun j u hu=>?_⟩⟩
 cases j with
 |succ j=>simp at hu
 |zero=>
  simp only[List.getElem?_cons_zero,Option.some.injEq]at hu
  subst hu
  have e2:(((⟨w.heap.size,0,none⟩:Addr).add (i*Ty.sz .str)).add 0)=⟨w.heap.size,i,none⟩:=by
   show Addr.add (Addr.add _ (i*1)) 0=_
   rw[Nat.mul_one]
   unfold Addr.add;split<;>simp_all
  rw[e2,World.cell?_alloc_new]
  refine⟨?_,fun hM'=>?_⟩
  ·simp[hi]
  ·exact absurd (hM _ _ hM') (Nat.lt_irrefl _)
def a8d(a b:c8):List c8:=(Lib.splitB ⟨b.toArray⟩ 0 (Lib.countB ⟨a.toArray⟩ ⟨b.toArray⟩) ⟨a.toArray⟩).map fun x=>x.data.toList
def strings_Split(a b:c8):Option (List c8):=if a.length<4294967281/\1<=b.length/\(a8d a b).length=Lib.countB ⟨a.toArray⟩ ⟨b.toArray⟩+1/\(a8d a b).length<=4294967296 then some (a8d a b)else none
theorem a1g:Sound Tryz.prog GW B7 115 ⟨[.v .str,.v .str],[],[.v (.sl .str)],[],List c8,fun z=>((z,()),()),fun x _=>strings_Split x.1 x.2.1⟩:=by
 refine Sound.ofExt Tryz.call115 fun M w vs x z hG hM hA hz=>?_
 obtain⟨a,b,u⟩:=x
 match vs,hA with
 |[v1,v2],hA=>
  obtain⟨h1,h2,_⟩:=hA
  rw[RepV.str h1,RepV.str h2]
  change strings_Split a b=some z at hz
  unfold strings_Split at hz
  split at hz
  ·rename_i hc
   injection hz with hz
   subst hz
   obtain⟨m,hm⟩:=hG
   refine(Tryz.strings_Split ⟨a.toArray⟩ ⟨b.toArray⟩ m w hc.1 hm hc.2.1).mono fun e w' hp=>?_
   obtain⟨rfl,hw⟩:=hp
   have hmap:(Lib.splitB ⟨b.toArray⟩ 0 (Lib.countB ⟨a.toArray⟩ ⟨b.toArray⟩) ⟨a.toArray⟩).map Value.string=(a8d a b).map fun x=>Value.string ⟨x.toArray⟩:=by
    unfold a8d
    rw[List.map_map]
    rfl
   rw[hmap]at hw
   rw[<-hc.2.2.1]
   exact⟨[_],rfl,hw▸(Ext.refl w).alloc _,e1T hM _ (Nat.le_trans hc.2.2.2 (by decide)) _ hw,trivial⟩
  ·cases hz
end Go.Proofs.YtolpmfhiegpohaaGreatDoor
namespace Go.Proofs.YtolpmfhiegpohaaGreatDoor
set_option linter.unusedVariables false
set_option linter.unusedSimpArgs false
open Go Go.RowKit Go.Shelf
end Go.Proofs.YtolpmfhiegpohaaGreatDoor
namespace Go.Proofs.YtolpmfhiegpohaaGreatDoor
set_option linter.unusedVariables false
set_option linter.unusedSimpArgs false
open Go Go.RowKit Go.Shelf
def Els(M:Nat->Nat->Prop)(w:World)(t:Ty)(xs:List t.den)(cs:List Value):Prop:=∀i (h:i<xs.length),RepC M w t xs[i] ((cs.drop (i*t.sz)).take t.sz)
def d8k(b:Bool):List Sl:=match b with|true=>[.row 0]|false=>[]
def e1H:(b:Bool)->SV (d8k b)|true=>((),())|false=>()
def e1G(b:Bool)(v:Value):Value:=match b with|true=>v|false=> .tuple #[]
def e1F(b:Bool)(v:Value):List Value:=match b with|true=>[v]|false=>[]
theorem c9N{w:World}{base:Nat}{e:TypeId}{sz:Nat}{v:Value}{n:Nat}{cs:List Value}(h:w.ownsRow base e sz v n cs){b:Nat}(hb:v.ownBlock=some b):b<w.heap.size:=by
 rcases h.2 with⟨e1,_⟩|⟨g,cap,cur,e1,_,hg,_⟩
 ·rw[e1]at hb;cases hb
 ·rw[e1]at hb
  simp only[Value.ownBlock,Option.some.injEq]at hb
  subst hb
  exact A6 hg
theorem ExtX.mono{X Y:Nat->Prop}{w w':World}(h:ExtX X w w')(hX:∀k,X k->Y k):ExtX Y w w':=⟨h.os,h.tape,h.output,h.size,fun k hk hy=>h.block k hk fun hx=>hy (hX k hx)⟩
theorem Sound.ofRow{P:Program}{G:World->Prop}{B0:Nat}{f:FuncId}{ps:List Sl}{e:TypeId}{t:Ty}(back:Bool){F:SV ps->List t.den->Option (List t.den)}
  (hcall:∀(args:Array Value) (w:World),(callFunc f args).run P w = .ok (.enter f args) w) (hz:0<t.sz)
  (h:∀(M:Nat->Nat->Prop) (w:World) (g:Gh) (v0:Value) (vs:List Value) (x:SV ps) (xs zs:List t.den) (cs:List Value),G w->(∀b o,M b o->b<w.heap.size)->(∀b,v0.ownBlock=some b->∀o,M b o)->
   w.ownsRow 0 e t.sz v0 xs.length cs->Els M w t xs cs->All2 (RepD0 M w g) (U4 id ps x) vs->F x xs=some zs->
   Calls P f (v0 :: vs).toArray w fun en w'=>∃v' cs',en = .returned (e1G back v')/\(back=false->v'=v0)/\ExtX (fun b=>v0.ownBlock=some b) w w'/\
    w'.ownsRow 0 e t.sz v' zs.length cs'/\Els M w t zs cs'/\∀b,v'.ownBlock=some b->v0.ownBlock=some b\/w.heap.size<=b):
  Sound P G B0 f ⟨.row 0 :: ps,[.row e t true],d8k back,[.row e t true],List t.den,fun z=>(e1H back,(z,())),fun x y=>F x.2 y.1⟩:=by
 refine⟨hcall,fun M w g vs0 x y zs hG hB hF hz'=>?_⟩
 obtain⟨_,x⟩:=x
 obtain⟨xs,_⟩:=y
 match vs0,hF.args with
 |v0 :: vs,⟨h0,hA⟩=>
  obtain⟨gx,A,n,c,hg0,hv,hv2⟩:=h0
  obtain⟨gx',hg',_,cs,hown,hblk,hlo,hels⟩:=hF.res 0 (.row e t true xs) rfl
  replace hg0:g 0=some gx:=hg0
  rw[hg']at hg0
  cases hg0
  have hlo:gx.lo=0:=hlo
  rw[<-hv]at hown hblk
  have hM:∀b,v0.ownBlock=some b->∀o,M b o:=fun b hb o=>(hF.chg 0 gx b o hg' (by rw[hblk];exact hb)).2 (by rw[hlo];exact Nat.zero_le _)
  have honly:∀r gy,g r=some gy->r=0:=fun r gy hr=>by have:=hF.dom r gy hr;exact Nat.lt_one_iff.1 this
  have hX:∀b,N5 g b↔v0.ownBlock=some b:=fun b=>by
   constructor
   ·rintro⟨r,gy,hr,hb⟩
    obtain rfl:=honly r gy hr
    rw[hg']at hr;cases hr
    rw[<-hblk];exact hb
   ·intro hb
    exact⟨0,gx,hg',by rw[hblk];exact hb⟩
  refine(h M w g v0 vs x xs zs cs hG hF.mlt hM hown hels hA hz').mono fun en w' hp=>?_
  obtain⟨v',cs',he,hsame,hE,hown',hels',hblk'⟩:=hp
  obtain⟨g',hgd⟩:∃g':Gh,g'=fun r=>if r=0 then some ⟨v'.ownBlock,0,v'⟩else none:=⟨_,rfl⟩
  have hg0':g' 0=some ⟨v'.ownBlock,0,v'⟩:=by rw[hgd];rfl
  have hgo:∀r gy,g' r=some gy->r=0/\gy=⟨v'.ownBlock,0,v'⟩:=fun r gy hr=>by
   rw[hgd]at hr
   by_cases h0:r=0
   ·subst h0;simp at hr;exact⟨rfl,hr.symm⟩
   ·simp[h0]at hr
  have hnew:∀b o,a1d M g g' b o->(M b o/\v0.ownBlock≠some b)\/v'.ownBlock=some b:=fun b o hm=>by
   rcases hm with⟨hm,hx⟩|⟨r,gy,hr,hb,_⟩
   ·exact .inl ⟨hm,fun hb=>hx ((hX b).2 hb)⟩
   ·obtain⟨_,rfl⟩:=hgo r gy hr
    exact .inr hb
  have hstep:Step M w (a1d M g g') w':=by
   have key:∀b o,b<w.heap.size->¬M b o->w'.heap[b]? = w.heap[b]?/\¬a1d M g g' b o:=fun b o hb hm=>by
    have hnb:v0.ownBlock≠some b:=fun h=>hm (hM b h o)
    refine⟨hE.block b hb hnb,fun hm'=>?_⟩
    rcases hnew b o hm' with⟨h1,_⟩|h1
    ·exact hm h1
    ·rcases hblk' b h1 with h2|h2
     ·exact hnb h2
     ·omega
   refine⟨fun ad u hu hm=>?_,fun b es c hb hm=>?_⟩
   ·have hlt:ad.block<w.heap.size:=World.block_lt_of_cell? w _ hu
    obtain⟨h1,h2⟩:=key ad.block ad.off hlt hm
    exact⟨(W5 h1).trans hu,h2⟩
   ·obtain⟨h1,h2⟩:=key b 0 (A6 hb) hm
    exact⟨h1.trans hb,h2⟩
  obtain⟨A',c',hv',_⟩:=Row.of_own' hown'
  have hlow:∀b,v'.ownBlock=some b->B0<=b/\b<w'.heap.size:=fun b hb=>by
   refine⟨?_,c9N hown' hb⟩
   rcases hblk' b hb with h1|h1
   ·exact(hF.low 0 gx b hg' (by rw[hblk];exact h1)).1
   ·omega
  have hrow:RepD0 (a1d M g g') w' g' (.row 0) v':=⟨_,A',_,c',hg0',rfl,hv'⟩
  refine⟨(e1F back v'),g',?_,⟨hE.os,hE.tape,hE.output,hE.size,fun k hk hx=>hE.block k hk fun hb=>hx ((hX k).2 hb)⟩,hstep,?_,fun r gy hr hbm=>?_,fun b hb=>?_⟩
  ·rw[he]
   cases back<;>rfl
  ·exact{
    args:=by cases back with
     |true=>exact⟨hrow,trivial⟩
     |false=>trivial
    res:=fun r blk hr=>by
     cases r with
     |zero=>
      obtain rfl:Blk.row e t true zs=blk:=Option.some.inj hr
      exact⟨_,hg0',hz,cs',hown',rfl,rfl,fun i hi=>RepC.step hstep _ _ _ (hels' i hi)⟩
     |succ r=>cases hr
    dom:=fun r gy hr=>by obtain⟨rfl,_⟩:=hgo r gy hr;exact Nat.zero_lt_one
    inj:=fun r r' gy gy' b hr hr' _ _=>by obtain⟨rfl,_⟩:=hgo r gy hr;obtain⟨rfl,_⟩:=hgo r' gy' hr';rfl
    low:=fun r gy b hr hb=>by obtain⟨_,rfl⟩:=hgo r gy hr;exact hlow b hb
    chg:=fun r gy b o hr hb=>⟨fun _=>by obtain⟨_,rfl⟩:=hgo r gy hr;exact Nat.zero_le _,fun hle=> .inr ⟨r,gy,hr,hb,hle⟩⟩
    mlt:=fun b o hm=>by
     rcases hnew b o hm with⟨h1,_⟩|h1
     ·exact Nat.lt_of_lt_of_le (hF.mlt b o h1) hE.size
     ·exact(hlow b h1).2
    row:=fun r gy b hr hb h0=>by obtain⟨_,rfl⟩:=hgo r gy hr;exact absurd h0 (Nat.lt_irrefl 0)}
  ·obtain rfl:=honly r gy hr
   rw[hg']at hr;cases hr
   rw[<-hv]at hbm
   exact hbm.elim (fun h=>(a2T hown h).elim) (fun h=>Bool.noConfusion (show false=true from h))
  ·obtain⟨r,gy,hr,hb⟩:=hb
   obtain⟨_,rfl⟩:=hgo r gy hr
   rcases hblk' b hb with h1|h1
   ·exact .inl ((hX b).2 h1)
   ·exact .inr h1
theorem a7v(b:Nat):∀(vs:List Value) (o:Nat) (w:World),(w.setCells b o vs).heap.size=w.heap.size
 |[],_,_=>rfl
 |v :: vs,o,w=>by
  show((w.setCell ⟨b,o,none⟩ v).setCells b (o+1) vs).heap.size=_
  rw[a7v b vs (o+1)]
  unfold World.setCell
  simp
theorem a7w(b:Nat):∀(vs:List Value) (o:Nat) (w:World),(w.setCells b o vs).tape=w.tape/\(w.setCells b o vs).os=w.os/\(w.setCells b o vs).output=w.output
 |[],_,_=>⟨rfl,rfl,rfl⟩
 |v :: vs,o,w=>by
  have:=a7w b vs (o+1) (w.setCell ⟨b,o,none⟩ v)
  exact⟨this.1,this.2.1,this.2.2⟩
theorem a48(b:Nat):∀(vs:List Value) (o:Nat) (w:World) (k:Nat),k≠b->(w.setCells b o vs).heap[k]? = w.heap[k]?
 |[],_,_,_,_=>rfl
 |v :: vs,o,w,k,hk=>by
  show((w.setCell ⟨b,o,none⟩ v).setCells b (o+1) vs).heap[k]? = _
  rw[a48 b vs (o+1) _ k hk]
  unfold World.setCell
  rw[Array.getElem?_modify]
  simp[hk.symm]
theorem b84{w:World}{q b o:Nat}{vs:List Value}:ExtX (fun k=>b=k) w ((w.drewN q).setCells b o vs):=by
 obtain⟨h1,h2,h3⟩:=a7w b vs o (w.drewN q)
 exact⟨h2,h1,h3,by rw[a7v];exact Nat.le_refl _,fun k hk hx=>a48 b vs o (w.drewN q) k fun e=>hx e.symm⟩
theorem a47(b:Nat)(e:TypeId)(fz:Nat×Nat):∀(vs:List Value) (o:Nat) (w:World) (cur:Array Value),w.heap[b]? = some (.cells cur e fz)->o+vs.length<=cur.size->
  (w.setCells b o vs).heap[b]? = some (.cells (cur.toList.take o++vs++cur.toList.drop (o+vs.length)).toArray e fz)
 |[],o,w,cur,h,hl=>by
  show w.heap[b]? = _
  rw[h];simp
 |v :: vs,o,w,cur,h,hl=>by
  simp only[List.length_cons]at hl
  have h1:(w.setCell ⟨b,o,none⟩ v).heap[b]? = some (.cells (cur.setIfInBounds o v) e fz):=by
   unfold World.setCell
   rw[Array.getElem?_modify]
   simp[h]
  have ih:=a47 b e fz vs (o+1) _ _ h1 (by rw[Array.size_setIfInBounds];omega)
  show((w.setCell ⟨b,o,none⟩ v).setCells b (o+1) vs).heap[b]? = _
  rw[ih]
  have hs:(cur.setIfInBounds o v).toList=cur.toList.set o v:=by simp
  rw[hs]
  have ho:o<cur.toList.length:=by rw[Array.length_toList];omega
  congr 3
  apply List.ext_getElem?
  intro k
  rw[List.length_cons]
  simp only[List.getElem?_append,List.length_append,List.length_take,List.length_set,Array.length_toList,List.getElem?_take,List.getElem?_drop,List.getElem?_set,List.length_cons]
  have hm1:min (o+1) cur.size=o+1:=by omega
  have hm0:min o cur.size=o:=by omega
  rw[hm1,hm0]
  by_cases hk:k<o
  ·simp[hk,show k<o+1 by omega,show k<o+1+vs.length by omega,show k<o+(vs.length+1) by omega,show ¬o=k by omega]
  ·by_cases hk2:k=o
   ·subst hk2
    simp[show k<k+1+vs.length by omega,show k<cur.size by omega]
   ·by_cases hk3:k<o+1+vs.length
    ·have:∃j,k=o+1+j:=⟨k-(o+1),by omega⟩
     obtain⟨j,rfl⟩:=this
     simp[show ¬o+1+j<o by omega,show o+1+j<o+1+vs.length by omega,show o+1+j<o+(vs.length+1) by omega,show ¬(o+1+j<o+1) by omega,show o+1+j-o=j+1 by omega,show o+1+j-(o+1)=j by omega]
    ·simp[show ¬k<o by omega,show ¬k<o+1+vs.length by omega,show ¬k<o+(vs.length+1) by omega,show o+1+vs.length+(k-(o+1+vs.length))=k by omega,show o+(vs.length+1)+(k-(o+(vs.length+1)))=k by omega,show ¬o=k by omega]
end Go.Proofs.YtolpmfhiegpohaaGreatDoor
namespace Go.Proofs.YtolpmfhiegpohaaGreatDoor
set_option linter.unusedVariables false
set_option linter.unusedSimpArgs false
open Go Go.RowKit Go.Shelf
end Go.Proofs.YtolpmfhiegpohaaGreatDoor
namespace Go.Proofs.YtolpmfhiegpohaaGreatDoor
set_option linter.unusedVariables false
set_option linter.unusedSimpArgs false
open Go Go.RowKit
set_option maxRecDepth 100000
set_option maxHeartbeats 2000000 in
theorem b9T(caps:Array Value)(w:World):
  CallsD Tryz.prog 47 caps .returning w fun e u w'=>(∃v,e = .returned v)/\u = .returning/\w'=w:=by
 refine callsD_of_wpS Tryz.func47 rfl fun c₀ cs hu=>?_
 have hT:19<=(caps++Array.replicate (Tryz.f47.ntmps-caps.size) undef).size:=by
  rw[Array.size_append,Array.size_replicate,Tryz.ntmps47];omega
 generalize (caps++Array.replicate (Tryz.f47.ntmps-caps.size) undef)=T at hT ⊢
 have h6:6<T.size:=by omega
 have h3:3<T.size:=by omega
 have h7:7<T.size:=by omega
 have h8:8<T.size:=by omega
 apply wpS_seq
 apply wpS_region
 simp[wpOpsS,go_sem,recoverD,hu,Exit.thenS,h6,h3]
 apply wpS_seq
 apply wpS_region
 simp[wpOpsS,go_sem,Exit.thenS,h6,h3,h7,h8]
 refine wpS_cond (t:=false) (by simp[Act.eval,h8]) ?_
 simp only[Bool.false_eq_true,if_false]
 refine wpS_of_wp (wp_skip ?_)
 cases c₀
 simp_all[bodyPostS,results,Tryz.results47]
end Go.Proofs.YtolpmfhiegpohaaGreatDoor
namespace Go.Proofs.YtolpmfhiegpohaaGreatDoor
set_option linter.unusedVariables false
set_option linter.unusedSimpArgs false
open Go Go.RowKit Go.Shelf
theorem Sound.ofMade{P:Program}{G:World->Prop}{B0:Nat}{f:FuncId}{ps:List Sl}{bs:List Sb}{rs:List Sl}{cs:List Sb}{R:Type}[BothC R]{out:R->SV rs×BV cs}{F:SV ps->BV bs->Option R}
  (hcall:∀(args:Array Value) (w:World),(callFunc f args).run P w = .ok (.enter f args) w) (hlen:cs.length=bs.length+1)
  (h:∀(M:Nat->Nat->Prop) (w:World) (g:Gh) (vs:List Value) (x:SV ps) (y:BV bs) (z:R),G w->B0<=w.heap.size->Frag B0 M w g ps bs x y vs->F x y=some z->
   Calls P f vs.toArray w fun e w'=>∃vs' gx,e = .returned (a7j vs')/\Ext w w'/\(∀b,gx.blk=some b->w.heap.size<=b/\b<w'.heap.size/\(0<gx.lo->∀es c,w'.heap[b]? ≠ some (.map es c)))/\
    ∀(M':Nat->Nat->Prop) (g':Gh),(∀r y,g r=some y->g' r=some y)->g' bs.length=some gx->Step M w M' w'->
     All2 (RepD0 M' w' g') (U4 id rs (out z).1) vs'/\∀r blk,a1e id cs (out z).2 r=some blk->∃gy,g' r=some gy/\RepB M' w' g' gy blk):
  Sound P G B0 f ⟨ps,bs,rs,cs,R,out,F⟩:=by
 refine⟨hcall,fun M w g vs x y z hG hB hF hz=>?_⟩
 refine(h M w g vs x y z hG hB hF hz).mono fun e w' hp=>?_
 obtain⟨vs',gx,he,hE,hnew,hrest⟩:=hp
 obtain⟨g',hgd⟩:∃g':Gh,g'=g.set bs.length (some gx):=⟨_,rfl⟩
 have hgn:g' bs.length=some gx:=by rw[hgd,Gh.set_same]
 have hgo:∀r y,g r=some y->g' r=some y:=fun r y hr=>by
  have hd:r<bs.length:=hF.dom r y hr
  rw[hgd,Gh.set_other _ _ (by omega)];exact hr
 have hgc:∀r y,g' r=some y->(r=bs.length/\y=gx)\/g r=some y:=fun r y hr=>by
  by_cases e:r=bs.length
  ·subst e
   rw[hgn]at hr
   exact .inl ⟨rfl,(Option.some.inj hr).symm⟩
  ·rw[hgd,Gh.set_other _ _ e]at hr
   exact .inr hr
 have hlow:∀r y b,g r=some y->y.blk=some b->B0<=b/\b<w.heap.size:=fun r y b h1 h2=>hF.low r y b h1 h2
 have hstep:Step M w (a1d M g g') w':=by
  have key:∀b o,b<w.heap.size->¬M b o->¬a1d M g g' b o:=fun b o hb hm hm'=>by
   rcases hm' with⟨h1,_⟩|⟨r,y,hr,hyb,hlo⟩
   ·exact hm h1
   ·rcases hgc r y hr with⟨_,rfl⟩|hr
    ·have:=(hnew b hyb).1;omega
    ·exact hm ((hF.chg r y b o hr hyb).2 hlo)
  exact⟨fun ad u hu hm=>⟨hE.cell hu,key _ _ (World.block_lt_of_cell? w _ hu) hm⟩,fun b es c hb hm=>⟨(hE.block b (A6 hb)).trans hb,key _ _ (A6 hb) hm⟩⟩
 obtain⟨hA,hR⟩:=hrest _ g' hgo hgn hstep
 refine⟨vs',g',he,ExtX.of_ext hE,hstep,?_,fun r y hr _=>hgo r y hr,fun b hb=>?_⟩
 ·exact{
   args:=hA
   res:=hR
   dom:=fun r y hr=>by
    show r<cs.length
    rcases hgc r y hr with⟨rfl,_⟩|hr
    ·omega
    ·have hd:r<bs.length:=hF.dom r y hr
     omega
   inj:=fun r r' y y' b hr hr' hb hb'=>by
    rcases hgc r y hr with⟨rfl,rfl⟩|h1
    ·rcases hgc r' y' hr' with⟨rfl,_⟩|h2
     ·rfl
     ·have:=(hnew b hb).1;have:=(hlow _ _ _ h2 hb').2;omega
    ·rcases hgc r' y' hr' with⟨rfl,rfl⟩|h2
     ·have:=(hnew b hb').1;have:=(hlow _ _ _ h1 hb).2;omega
     ·exact hF.inj r r' y y' b h1 h2 hb hb'
   low:=fun r y b hr hb=>by
    rcases hgc r y hr with⟨_,rfl⟩|h1
    ·exact⟨Nat.le_trans hB (hnew b hb).1,(hnew b hb).2.1⟩
    ·have:=hlow _ _ _ h1 hb;exact⟨this.1,Nat.lt_of_lt_of_le this.2 hE.size⟩
   chg:=fun r y b o hr hb=>by
    refine⟨fun hm=>?_,fun hle=> .inr ⟨r,y,hr,hb,hle⟩⟩
    rcases hm with⟨h1,h2⟩|⟨r',y',hr',hb',hlo⟩
    ·rcases hgc r y hr with⟨_,rfl⟩|h3
     ·have:=(hnew b hb).1;have:=hF.mlt b o h1;omega
     ·exact absurd ⟨r,y,h3,hb⟩ h2
    ·rcases hgc r y hr with⟨e1,rfl⟩|h3
     ·rcases hgc r' y' hr' with⟨_,rfl⟩|h4
      ·exact hlo
      ·have:=(hnew b hb).1;have:=(hlow _ _ _ h4 hb').2;omega
     ·rcases hgc r' y' hr' with⟨_,rfl⟩|h4
      ·have:=(hnew b hb').1;have:=(hlow _ _ _ h3 hb).2;omega
      ·have:=hF.inj r r' y y' b h3 h4 hb hb'
       subst this
       rw[h3]at h4
       cases h4
       exact hlo
   mlt:=fun b o hm=>by
    rcases hm with⟨h1,_⟩|⟨r,y,hr,hb,_⟩
    ·exact Nat.lt_of_lt_of_le (hF.mlt b o h1) hE.size
    ·rcases hgc r y hr with⟨_,rfl⟩|h3
     ·exact(hnew b hb).2.1
     ·exact Nat.lt_of_lt_of_le (hlow _ _ _ h3 hb).2 hE.size
   row:=fun r y b hr hb h0=>by
    rcases hgc r y hr with⟨_,rfl⟩|h3
    ·exact(hnew b hb).2.2 h0
    ·intro es c hc
     rw[hE.block b (hlow _ _ _ h3 hb).2]at hc
     exact hF.row r y b h3 hb h0 es c hc}
 ·obtain⟨r,y,hr,hb⟩:=hb
  rcases hgc r y hr with⟨_,rfl⟩|h3
  ·exact .inr (hnew b hb).1
  ·exact .inl ⟨r,y,h3,hb⟩
end Go.Proofs.YtolpmfhiegpohaaGreatDoor
namespace Go.Proofs.YtolpmfhiegpohaaGreatDoor
set_option linter.unusedVariables false
set_option linter.unusedSimpArgs false
open Go Go.RowKit Go.Shelf
end Go.Proofs.YtolpmfhiegpohaaGreatDoor
namespace Go.Proofs.YtolpmfhiegpohaaGreatDoor
set_option linter.unusedVariables false
set_option linter.unusedSimpArgs false
open Go Go.RowKit Go.Shelf
theorem c5c{M:Nat->Nat->Prop}{w:World}{xs:List c8}{cs:List Value}(hl:cs.length=xs.length)(h:Els M w .str xs cs):cs=xs.map fun x=>Value.string ⟨x.toArray⟩:=by
 apply List.ext_getElem
 ·simpa using hl
 ·intro i h1 h2
  have h3:i<xs.length:=by omega
  have:=h i h3
  have e:(cs.drop (i*Ty.sz .str)).take (Ty.sz .str)=[cs[i]]:=by
   show(cs.drop (i*1)).take 1=_
   rw[Nat.mul_one,List.drop_eq_getElem_cons h1];rfl
  rw[e]at this
  have e2:[cs[i]]=[Value.string ⟨xs[i].toArray⟩]:=this
  rw[List.getElem_map]
  injection e2
theorem b87{M:Nat->Nat->Prop}{w:World}(xs:List c8):Els M w .str xs (xs.map fun x=>Value.string ⟨x.toArray⟩):=fun i h=>by
 have e:((xs.map fun x=>Value.string ⟨x.toArray⟩).drop (i*Ty.sz .str)).take (Ty.sz .str)=[Value.string ⟨xs[i].toArray⟩]:=by
  show((xs.map fun x=>Value.string ⟨x.toArray⟩).drop (i*1)).take 1=_
  rw[Nat.mul_one,List.drop_eq_getElem_cons (by simpa using h),List.getElem_map];rfl
 rw[e]
 rfl
end Go.Proofs.YtolpmfhiegpohaaGreatDoor
namespace Go.Proofs.YtolpmfhiegpohaaGreatDoor
set_option linter.unusedVariables false
set_option linter.unusedSimpArgs false
open Go Go.RowKit Go.Shelf
attribute [local go_sem] Oper.semAt_some
abbrev a5d(s:c8):Value:= .string ⟨s.toArray⟩
def a2u(zs:List c8)(k:Nat):List c8:=(List.range k).map fun j=>zs[j]?.getD []
theorem b9N(zs:List c8)(k:Nat):a2u zs (k+1)=a2u zs k ++ [zs[k]?.getD []]:=by simp[a2u,List.range_succ]
theorem b6M(zs:List c8)(k:Nat):(a2u zs k).length=k:=by simp[a2u]
theorem c2F(zs:List c8):a2u zs zs.length=zs:=by
 apply List.ext_getElem
 ·simp[a2u]
 ·intro i h1 h2
  simp[a2u,h2]
set_option maxRecDepth 100000 in
set_option maxHeartbeats 2000000 in
theorem c0x(n:Nat)(hn:1<=n)(l Bs n₀ b off len cap:Nat)(zs:List c8)(hreach:len*16<=140737488351232)(hb:b<n₀)(J Jx:List c8->World->Prop)
  (hY:∀pre x W,J pre W->pre.length<len->YieldAt Fence.wide (n-1) Tryz.prog l #[a5d x] W fun e W'=>
   (e = .returned (.bool true)/\J (pre ++ [x]) W'/\Below n₀ W W')\/(e = .returned (.bool false)/\Jx (pre ++ [x]) W'))
  (W:World) (hBs:W.cell? ⟨Bs,0,none⟩=some (.slice (some ⟨b,off,none⟩) len cap)) (hc:∀j,j<len->W.cell? ⟨b,off+j,none⟩=some (a5d (zs[j]?.getD []))) (h0:J [] W):
  CallsIn Fence.wide n Tryz.prog 226 #[.func (.yield l) #[] #[],.pointer (some ⟨Bs,0,none⟩)] W fun e W'=>(∃v,e = .returned v)/\
   (J (a2u zs len) W'\/∃pre,Jx pre W'):=by
 refine callsIn_of_wp Tryz.func226 rfl trivial ?_ rfl
 simp only[Tryz.ntmps226,List.size_toArray,List.length_cons,List.length_nil,Nat.reduceAdd,Nat.reduceSub,Array.replicate_succ,Array.replicate_zero,List.push_toArray,List.append_toArray,List.nil_append,List.cons_append]
 gi_wp2
 gi_loopw [7] (fun i wr=>∃k:Nat,k<=len/\i = .int .i64 k/\J (a2u zs k) wr/\Below n₀ W wr)
  (fun i _=>len-(intOf i).toNat)
 case atStart=>exact⟨0,Nat.zero_le _,rfl,h0,Below.refl _ _⟩
 case round=>
  obtain⟨k,hk,rfl,hJs,hnx⟩:=hrel
  have hcx:k<len->wr.cell? ⟨b,off+k,none⟩=some (a5d (zs[k]?.getD [])):=fun h=>(hnx.cell (p:=⟨b,off+k,none⟩) hb).trans (hc k h)
  by_cases hlt:k<len
  ·obtain⟨fn,tmps,assign,body,hy,hR⟩:=hY _ (zs[k]?.getD []) wr hJs (by rw[b6M];exact hlt)
   have hcx':=hcx hlt
   gi_wp2
   refine hR.mono ?_
   rintro e W3 (⟨rfl,hJ3,hk3⟩|⟨rfl,hJx3⟩)
   ·gi_wp2
    go_roundw
    case rel=>exact⟨k+1,by omega,by simp,by rw[b9N];exact hJ3,hnx.trans hk3⟩
    case measure=>simp[intOf];omega
   ·gi_wp2
    refine bodyPost_ret (results_none rfl _ _ _) rfl ?_
    exact⟨⟨_,rfl⟩,.inr ⟨_,hJx3⟩⟩
  ·obtain rfl:k=len:=by omega
   gi_wp2
   go_end0
   exact⟨⟨_,rfl⟩,.inl hJs⟩
set_option maxRecDepth 100000 in
set_option maxHeartbeats 1000000 in
theorem b2W(n:Nat)(l Bs:Nat)(A:Option Addr)(c:Nat)(J:List c8->World->Prop)(W:World)(hBs:W.cell? ⟨Bs,0,none⟩=some (.slice A 0 c))(h0:J [] W):
  CallsIn Fence.wide n Tryz.prog 226 #[.func (.yield l) #[] #[],.pointer (some ⟨Bs,0,none⟩)] W fun e W'=>(∃v,e = .returned v)/\J [] W':=by
 refine callsIn_of_wp Tryz.func226 rfl trivial ?_ rfl
 simp only[Tryz.ntmps226,List.size_toArray,List.length_cons,List.length_nil,Nat.reduceAdd,Nat.reduceSub,Array.replicate_succ,Array.replicate_zero,List.push_toArray,List.append_toArray,List.nil_append,List.cons_append]
 gi_wp2
 gi_loopw [7] (fun i wr=>i = .int .i64 0/\J [] wr) (fun _ _=>0)
 case atStart=>exact⟨rfl,h0⟩
 case round=>
  obtain⟨rfl,hJs⟩:=hrel
  gi_wp2
  go_end0
  exact⟨⟨_,rfl⟩,hJs⟩
def StrsAt(n₀:Nat)(W:World)(sv:Value)(zs:List c8):Prop:=(∃A c,sv = .slice A 0 c/\zs=[])\/∃b off cap,sv = .slice (some ⟨b,off,none⟩) zs.length cap/\b<n₀/\∀j,j<zs.length->W.cell? ⟨b,off+j,none⟩=some (a5d (zs[j]?.getD []))
theorem StrsAt.below{n₀:Nat}{A B:World}(h:Below n₀ A B){sv:Value}{zs:List c8}:StrsAt n₀ A sv zs->StrsAt n₀ B sv zs
 |.inl e=> .inl e
 |.inr ⟨b,off,cap,e,hb,hc⟩=> .inr ⟨b,off,cap,e,hb,fun j hj=>(h.cell (p:=⟨b,off+j,none⟩) hb).trans (hc j hj)⟩
theorem b9c(n:Nat)(hn:1<=n)(Bs n₀:Nat)(sv:Value)(zs:List c8)(hreach:zs.length*16<=140737488351232)(w:World)(hBs:Bs<w.heap.size)(hn₀:n₀<=w.heap.size)
  (hc:w.cell? ⟨Bs,0,none⟩=some sv) (hI:StrsAt n₀ w sv zs):
  SeqStopsK Fence.wide n Tryz.prog 226 #[.pointer (some ⟨Bs,0,none⟩)] (fun x:c8=>#[a5d x]) (Below n₀) (fun ys=>ys=zs) (fun _=>True) zs.length w:=fun l J Jx W hW _ _ hY h0=>by
 have hc':=(hW.cell (p:=⟨Bs,0,none⟩) hBs).trans hc
 rcases hI.below (hW.mono hn₀)with⟨A,c,rfl,rfl⟩|⟨b,off,cap,rfl,hb,hcs⟩
 ·exact(b2W n l Bs A c J W hc' h0).mono fun e W' ⟨he,hj⟩=>⟨he,.inl ⟨_,rfl,hj⟩⟩
 ·refine(c0x n hn l Bs n₀ b off zs.length cap zs hreach hb J Jx hY W hc' hcs h0).mono ?_
  rintro e W' ⟨he,hj|⟨pre,hj⟩⟩
  ·exact⟨he,.inl ⟨_,c2F zs,hj⟩⟩
  ·exact⟨he,.inr ⟨pre,trivial,hj⟩⟩
set_option maxRecDepth 100000 in
set_option maxHeartbeats 2000000 in
theorem b3n(n:Nat)(hn:3<=n)(Bq:Nat)(sv:Value)(zs:List c8)(hreach:zs.length*16<=140737488351232)(w:World)(hBq:Bq<w.heap.size)
  (hc:w.cell? ⟨Bq,0,none⟩=some sv) (hI:StrsAt w.heap.size w sv zs):
  CallsIn Fence.wide n Tryz.prog 260 #[.slice none 0 0,.func (.func 226) #[] #[.pointer (some ⟨Bq,0,none⟩)]] w fun e w'=>
   ∃v,e = .returned v/\w'.ownsRow w.heap.size 9 1 v zs.length (zs.map a5d)/\Below w.heap.size w w':=by
 have h1:1<=n:=by omega
 obtain⟨i0,hi,hz0,hz1,hz2⟩:∃i,Tryz.prog.info? 9=some i/\i.zero=some (.string ⟨#[]⟩)/\i.size=1/\i.bytes=16:=by
  have hz:(Tryz.prog.info? 9).map (fun i=>(i.zero,i.size,i.bytes))=some (some (.string ⟨#[]⟩),1,16):=by kernel_rfl
  cases hi:Tryz.prog.info? 9 with
  |none=>rw[hi]at hz;cases hz
  |some i=>
   rw[hi]at hz
   simp only[Option.map_some,Option.some.injEq,Prod.mk.injEq]at hz
   exact⟨i,rfl,hz.1,hz.2.1,hz.2.2⟩
 have hne:65≠9:=by decide
 refine callsIn_of_wp_marks Tryz.func260 rfl trivial ?_ rfl
 simp only[Tryz.ntmps260,List.size_toArray,List.length_cons,List.length_nil,Nat.reduceAdd,Nat.reduceSub,Array.replicate_succ,Array.replicate_zero,List.push_toArray,List.append_toArray,List.nil_append,List.cons_append]
 gi_wp2
 have hv0:(w.alloc (.cells #[.slice none 0 0] 65)).heap[w.heap.size]? = some (.cells #[.slice none 0 0] 65 (0,0)):=World.alloc_heap_new w _
 have hB0:Below w.heap.size w (w.alloc (.cells #[.slice none 0 0] 65)):=(Below.refl _ w).alloc (Nat.le_refl _) _
 refine wpIn_rangeFunc_ownG rfl h1 (gf:=226) (lb:=#[.pointer (some ⟨Bq,0,none⟩)]) rfl trivial (enters_of Tryz.func226 (by kernel_rfl) rfl)
  (b9c (n-1) (by omega) Bq w.heap.size sv zs hreach _ (by simp;omega) (by simp) ((hB0.cell (p:=⟨Bq,0,none⟩) hBq).trans hc) (hI.below hB0)) belowK_t (belowK_b (by simp)) (Below.refl _ _) (fun _=>rfl)
  (fun pre W=>(∃v,W.heap[w.heap.size]? = some (.cells #[v] 65 (0,0))/\W.ownsRow w.heap.size 9 1 v pre.length (pre.map a5d))/\Below w.heap.size w W)
  (fun _ _ _=>False)
  (OwnFrom.and (Own.from (fun s A B row hs hg hr=>by
   obtain⟨v,hv,hrow⟩:=hs
   refine⟨v,(grownBy_keeps_cells hg hr hv rfl).trans hv,hrow.kept hg ?_⟩
   rcases hrow.2 with⟨rfl,_⟩|⟨gb,cap,cur,rfl,_,hgb,_⟩
   ·exact .inl rfl
   ·refine .inr fun e'=>?_
    obtain⟨o,ho,hw⟩:=hr gb (by simpa [Value.ownBlock]using e'.symm)
    rw[hgb]at ho
    cases ho
    cases hw) _) (ownFrom_below (Nat.le_refl _) (by simp)))
  (fun _ _ _ _ _ hs _ _=>hs)
  ⟨⟨_,hv0,rfl,.inl ⟨rfl,rfl⟩⟩,hB0⟩
  (fun x=>{tmps:=#[.slice none 0 0,.func (.func 226) #[] #[.pointer (some ⟨Bq,0,none⟩)],.pointer (some ⟨w.heap.size,0,none⟩),undef,.slice none 0 0,a5d x,.func (.func 226) #[] #[.pointer (some ⟨Bq,0,none⟩)],a5d x,undef,undef,undef,undef,undef],defers:=[]}) ?assign ?body ?done ?stop
 case assign=>
  intro l x W K hK
  gi_wp2
  exact hK
 case body=>
  rintro l pre x W ⟨⟨v,hv,hrow⟩,hB⟩ hlen
  obtain⟨hc2,hf2⟩:=cell_of_box_a hv
  have hBlt:w.heap.size<W.heap.size:=(Array.getElem?_eq_some_iff.1 hv).1
  have hbox:some w.heap.size≠v.ownBlock:=by
   rcases ownsRow_ne_a hrow hv (fun cur e=>hne (Obj.cells.inj e).2.1)with e|e
   ·rw[e];simp
   ·exact fun e'=>e e'.symm
  gi_wp2_with (first
   |(
     gi_at_builtin
     refine wpListIn_append_own _ rfl _ _ 65 rfl w.heap.size 9 i0 (.string ⟨#[]⟩) 1 16 Tryz.underlying65 hi hz0 hz1 hz2 rfl (by decide) v pre.length (pre.map a5d) rfl (hrow.alloc _) ⟨W.heap.size,0,none⟩ 1 1 [a5d x] rfl rfl (cell_one_new _ _ _) (by simp[Value.oneCell',a5d]) (by unfold maxLen;omega) (by omega) (by have:=hB.size;simp;omega) ?_
     intro v' w3 hown' hg3 hnil3
     have hv3:w3.heap[w.heap.size]? = some (.cells #[v] 65 (0,0)):=(hg3.block w.heap.size (by simp;omega) hbox).trans ((Below.heap_alloc _ _ w.heap.size hBlt).trans hv)
     obtain⟨hc3,hf3⟩:=cell_of_box_a hv3
     obtain⟨g',cap',cur',rfl,hbase',hgb',hr1,hr2,hr3,hr4⟩:∃g' cap' cur',v' = .slice (some ⟨g',0,none⟩) (pre.length+1) cap'/\w.heap.size<=g'/\w3.heap[g']? = some (.cells cur' 9 (0,0))/\pre.length+1<=cap'/\cap'<=maxLen/\cur'.size=cap'*1/\cur'.toList.take ((pre.length+1)*1)=pre.map a5d ++ [a5d x]:=by
      rcases hown'.2 with⟨_,h0⟩|h'
      ·exact absurd h0 (by omega)
      ·exact h'
     go_frame)
   |gi_round_op_a)
  have hg3':(W.alloc (.cells #[a5d x] 9)).grownBy w3 v.ownBlock:=hg3
  have hB3:Below w.heap.size W w3:=((Below.refl _ W).alloc hB.size _).grown hg3' (by have:=hB.size;simp;omega) (fun k e=>(hrow.lt k e).1)
  refine⟨(((KeepsOthers.alloc _ _).trans (KeepsOthers.of_grownBy hg3' (fun j o e ho=>?_))).trans (KeepsOthers.setCell _ _ _)).from _,hB3.setCell (p:=⟨w.heap.size,0,none⟩) (Nat.le_refl _) _,⟨_,heap_setCell_box_a _ hv3,?_⟩,(hB.trans hB3).setCell (p:=⟨w.heap.size,0,none⟩) (Nat.le_refl _) _⟩
  ·rcases(hrow.alloc (.cells #[a5d x] 9)).2 with⟨rfl,_⟩|⟨gb,cap,cur,rfl,_,hgb,_⟩
   ·cases e
   ·have:gb=j:=by simpa [Value.ownBlock]using e
    subst this
    rw[hgb]at ho
    cases ho
    rfl
  ·have:=hown'.kept (grownBy_setCell0_a w3 w.heap.size (.slice (some ⟨g',0,none⟩) (pre.length+1) cap')) (ownsRow_ne_a hown' hv3 (fun cur e=>hne (Obj.cells.inj e).2.1))
   simpa using this
 case done=>
  rintro D ys W hD rfl ⟨⟨v,hv,hrow⟩,hB⟩ hK
  obtain⟨hc2,hf2⟩:=cell_of_box_a hv
  gi_wp2
  refine⟨by simp,.inl ⟨_,_,rfl,run_takeDeferred hK,?_⟩⟩
  exact⟨_,results_tmp rfl _ _ _,v,rfl,hrow.kept (grownBy_putObj' W D (.deferred none)) (ownsRow_ne_a hrow hK (fun cur e=>by cases e)),hB.trans (belowK_b (w:=w) (Nat.le_refl _) W D _ _ (by simp at hD;omega) hK rfl rfl)⟩
 case stop=>
  rintro D c pre W _ _ h _
  exact h.elim
def I4(l:List c8):Option (List c8×List c8):=if l.length*16<=140737488351232 then some (l,l)else none
set_option maxHeartbeats 1000000 in
theorem a0n:Sound Tryz.prog GW B7 260 ⟨[.nilS,.fnc 226 [0]],[.cells [.v (.sl .str)]],[.row 1],[.cells [.v (.sl .str)],.row 9 .str true],List c8×List c8,fun z=>(((),()),((z.1,()),(z.2,()))),fun _ y=>I4 y.1.1⟩:=by
 refine Sound.ofMade Tryz.call260 rfl fun M w g vs x y z hG hB hF hz=>?_
 obtain⟨⟨l,_⟩,_⟩:=y
 change I4 l=some z at hz
 unfold I4 at hz
 split at hz
 case isFalse=>cases hz
 rename_i hc
 obtain rfl:=Option.some.inj hz
 match vs,hF.args with
 |[v0,v],⟨hv0,⟨h0,_⟩⟩=>
  have hv0':v0 = .slice none 0 0:=hv0
  subst hv0'
  obtain⟨cv,rfl,hcs⟩:=h0
  obtain⟨g1,hg1,hr1⟩:=hF.res 0 (.cells [.v (.sl .str) l]) rfl
  have hr1':=hr1
  obtain⟨bm,vs1,el,e1,hb1,ha1⟩:=hr1
  have hcv:cv.toList=[P8 bm]:=by
   match cv.toList,hcs with
   |[u],⟨⟨gy,by_,hgy,hv,hu⟩,_⟩=>
    have:g 0=some gy:=hgy
    rw[hg1]at this
    cases this
    rw[e1]at hv
    rw[hu,<-hv]
  have hcv2:cv = #[P8 bm]:=by rw[<-Array.toArray_toList (xs:=cv),hcv]
  subst hcv2
  obtain⟨sv,hvs1,hrep⟩:∃sv,vs1 = #[sv]/\RepV M w (.sl .str) l sv:=by
   have e2:vs1=vs1.toList.toArray:=(Array.toArray_toList (xs:=vs1)).symm
   match hl:vs1.toList,ha1 with
   |[u],ha1=>
    rw[hl]at e2
    exact⟨u,e2,ha1.1⟩
  subst hvs1
  obtain⟨A,c,rfl,hc1,hc2,hcell⟩:=RepV.strs hrep
  have hbl:bm<w.heap.size:=A6 hb1
  have hcell0:w.cell? ⟨bm,0,none⟩=some (.slice A l.length c):=by unfold World.cell?;rw[hb1];rfl
  have hI:StrsAt w.heap.size w (.slice A l.length c) l:=by
   rcases Classical.em (l=[])with hl|hl
   ·subst hl;exact .inl ⟨A,c,rfl,rfl⟩
   ·obtain⟨bk,o,rfl,hce⟩:=hcell hl
    refine .inr ⟨bk,o,c,rfl,?_,fun j hj=>?_⟩
    ·cases l with
     |nil=>exact absurd rfl hl
     |cons x r=>exact World.block_lt_of_cell? w _ (hce 0 x rfl)
    ·have hj2:l[j]? = some (l[j]?.getD []):=by rw[List.getElem?_eq_getElem hj];rfl
     exact hce j _ hj2
  refine((callsIn_wide (n:=5)).1 (b3n 5 (by omega) bm _ l hc w hbl hcell0 hI)).mono fun e w' hp=>?_
  obtain⟨v',rfl,hrow,hbel⟩:=hp
  have hE:Ext w w':=⟨hbel.os,hbel.tape,hbel.output,hbel.size,fun k hk=>hbel.block k hk⟩
  have hrow:w'.ownsRow w.heap.size 9 1 v' l.length (l.map a5d):=hrow
  obtain⟨A',c',hv',_⟩:=Row.of_own' hrow
  refine⟨[v'],⟨v'.ownBlock,0,v'⟩,rfl,hE,fun b' hb=>?_,fun M' g' hgo hgn hst=>⟨⟨⟨_,A',_,c',hgn,rfl,hv'⟩,trivial⟩,fun r blk hr=>?_⟩⟩
  ·rcases hrow.2 with⟨e3,_⟩|⟨g3,cap,cur,e3,hb3,hg3,_⟩
   ·rw[e3]at hb;cases hb
   ·rw[e3]at hb
    simp only[Value.ownBlock,Option.some.injEq]at hb
    subst hb
    exact⟨hb3,A6 hg3,fun h=>absurd h (Nat.lt_irrefl 0)⟩
  ·match r,hr with
   |0,hr=>
    obtain rfl:Blk.cells [.v (.sl .str) l]=blk:=Option.some.inj hr
    obtain⟨b5,vs5,el5,e5,h5,ha5⟩:=hr1'
    exact⟨g1,hgo _ _ hg1,b5,vs5,el5,e5,(hE.block b5 (A6 h5)).trans h5,ha5.mono fun d v hd=>hd.sameV hst fun r x hr=>⟨x,hgo r x hr,rfl⟩⟩
   |1,hr=>
    obtain rfl:Blk.row 9 .str true l=blk:=Option.some.inj hr
    exact⟨_,hgn,by decide,_,ownsRow_base_a hrow (Nat.zero_le _),rfl,rfl,b87 _⟩
   |2,hr=>cases hr
   |r+3,hr=>cases hr
end Go.Proofs.YtolpmfhiegpohaaGreatDoor
namespace Go.Proofs.YtolpmfhiegpohaaGreatDoor.Cn
open Go Go.RowKit
set_option maxRecDepth 100000
theorem n5:TyOk Tryz.prog 9 .str:=⟨_,by kernel_rfl,Tryz.underlying9,rfl⟩
theorem C7:TyOk Tryz.prog 65 (.sl .str):=⟨_,by kernel_rfl,Tryz.underlying65,rfl⟩
def tyT:TypeId->Option Ty:=fun T=>
 match T with
 |9=>some .str
 |65=>some (.sl .str)
 |_=>none
theorem b1e:∀T t,tyT T=some t->TyOk Tryz.prog T t:=by
 intro T t h
 unfold tyT at h
 split at h
 ·cases h;exact n5
 ·cases h;exact C7
 ·cases h
def elT:TypeId->Option (TypeId×Ty):=fun T=>
 match T with
 |65=>some (9,.str)
 |_=>none
theorem b0N:∀T e t,elT T=some (e,t)->ElOk Tryz.prog T e t:=by
 intro T e t h
 unfold elT at h
 split at h
 ·cases h;exact⟨n5,16,ElemT.mk_ Tryz.underlying65 (z:=mkV .str (B3 .str)) (by kernel_rfl) rfl (by decide) (by decide),by decide⟩
 ·cases h
def b3L:TypeId->Nat->Option (Nat×Ty):=fun T f=>
 match T,f with
 |_,_=>none
theorem a5G:∀T f off t,b3L T f=some (off,t)->b7b Tryz.prog T f off t:=by
 intro T f off t h
 unfold b3L at h
 split at h
 ·cases h
theorem b01:∀T e,tyT T=some (.mp e)->d5G Tryz.prog T e:=by
 intro T e h
 unfold tyT at h
 split at h
 ·cases h
 ·cases h
 ·cases h
theorem a5D:∀T t,tyT T=some t->t.isAgg=true->∃fs places,Tryz.prog.underlying T=some (.struct fs)/\fs.toList.mapM (fun f=>(Tryz.prog.info? f.type).map fun i=>(f.offset,i.size))=some places:=by
 intro T t h ha
 unfold tyT at h
 split at h
 ·cases h;cases ha
 ·cases h;cases ha
 ·cases h
theorem b06:∀T t,tyT T=some t->a2l t=true->(Tryz.prog.info? (Tryz.prog.pointee T)).isSome=true:=by
 intro T t h ha
 unfold tyT at h
 split at h
 ·cases h;cases ha
 ·cases h;cases ha
 ·cases h
def b3D:TypeId->Option Ty:=fun T=>
 match T with
 |_=>none
theorem a5F:∀T t,b3D T=some t->CmpOk Tryz.prog T t:=by
 intro T t h
 unfold b3D at h
 split at h
 ·cases h
def S9(h:Nat->Hint)(fn:FuncId->Option Tmp->Option AF)(exq:Nat->Bool)(live:FuncId->Bool):Env:={ty:=tyT,el:=elT,fld:=b3L,cmp:=b3D,fn:=fn,hint:=h,exq:=exq,live:=live}
theorem y6(hh:Nat->Hint)(fn:FuncId->Option Tmp->Option AF)(exq:Nat->Bool)(live:FuncId->Bool)(h:∀f q F,fn f q=some F->Sound Tryz.prog GW B7 f F):EnvOk Tryz.prog GW B7 (S9 hh fn exq live):=
 {ty:=b1e,el:=b0N,fld:=a5G,mp:=b01,bld:=a5D,ptr:=b06,cmp:=a5F,fn:=h,stable:=a2E,mixed:=by kernel_rfl}
end Go.Proofs.YtolpmfhiegpohaaGreatDoor.Cn
namespace Go.Proofs.YtolpmfhiegpohaaGreatDoor.Cn
open Go Go.RowKit
set_option maxRecDepth 100000
set_option linter.unusedVariables false
noncomputable section
def j8(_N:Nat)(x0:List c8):Option (List c8):=br ((x0).isEmpty) (n7 (some ([]:List c8)) (br (decide ((([]:List c8).length+x0.length)*(24*Ty.sz .str)<=140737488355328)) (some (([]:List c8)++x0)) none)) (br (decide ((([]:List c8).length+x0.length)*(24*Ty.sz .str)<=140737488355328)) (some (([]:List c8)++x0)) none)
abbrev slices_Clone_string_string_sg(f:SV [.v (.sl .str)]->BV []->Option (List c8)):AF:={ps:=[.v (.sl .str)],bs:=[],rs:=[.row 0],cs:=[.row 9 .str false],R:=List c8,out:=fun z=>(((),()),(z,())),f:=f}
abbrev o5:SV [.row 0]->BV [.row 9 .str false]->(List c8):=fun _ y=>y.1
def o4(_N:Nat):FuncId->Option Tmp->Option AF:=fun f _=>
 match f with
  |_=>none
theorem G3(N:Nat):∀f q F,o4 N f q=some F->Sound Tryz.prog GW B7 f F:=by
 intro f q F h
 unfold o4 at h
 split at h
 ·cases h
def s9:Nat->Hint:=fun i=>
 match i with
 |_=>⟨[],[],[],[],[],[]⟩
abbrev m6(N:Nat):Env:=S9 s9 (o4 N) (fun _=>false) (fun _=>false)
noncomputable def a0c(N:Nat):Nat->Code->St->(Ex->St->Option (List c8))->Option (List c8):=fun i c=>
 match i with
 |i=>fun st k=>iter (s9 i) (V4 (m6 N) N c i) N st k
theorem H3(N:Nat)(x:SV [.v (.sl .str)])(y:BV []):F5 (m6 N) Tryz.f185 (slices_Clone_string_string_sg fun x _=>j8 N x.1) o5 (a0c N) x y=j8 N x.1:=by kernel_rfl
theorem G4(N:Nat):Sound Tryz.prog GW B7 185 (slices_Clone_string_string_sg fun x _=>j8 N x.1):=
 a1T (y6 s9 (o4 N) _ _ (G3 N)) Tryz.func185 rfl Tryz.call185 (slices_Clone_string_string_sg fun x _=>j8 N x.1) o5 (fun _ _=>rfl) N (fun x y _ h=>((a3y (m6 N) N Tryz.f185 (slices_Clone_string_string_sg fun x _=>j8 N x.1) o5 (a0c N) (show LoopsOk (a0c N) (m6 N) N (A8 (m6 N) Tryz.f185 (slices_Clone_string_string_sg fun x _=>j8 N x.1) o5) []from trivial) x y).trans (H3 N x y)).trans h)
end
end Go.Proofs.YtolpmfhiegpohaaGreatDoor.Cn
namespace Go.Proofs.YtolpmfhiegpohaaGreatDoor.Cn
open Go Go.RowKit
set_option linter.unusedVariables false
set_option linter.unusedSimpArgs false
def cloneS(l:List c8):Option (List c8):=if l.length<=1000000 then some l else none
theorem c9d(l:List c8)(h:l.length<=1000000):j8 100 l=some l:=by
 have h2:(([]:List c8).length+l.length)*(24*Ty.sz .str)<=140737488355328:=by
  have:Ty.sz .str=1:=rfl
  rw[this];simp;omega
 unfold j8
 cases l with
 |nil=>simp only[List.isEmpty_nil,d4,decide_eq_true h2,List.append_nil,o7]
 |cons x l=>simp only[List.isEmpty_cons,d6,decide_eq_true h2,d4,List.nil_append]
theorem less{P:Program}{G:World->Prop}{B0:Nat}{f:FuncId}{ps bs rs cs} {R:Type} {out:R->SV rs×BV cs} {F F':SV ps->BV bs->Option R} (h:Sound P G B0 f ⟨ps,bs,rs,cs,R,out,F⟩) (e:∀x y z,F' x y=some z->F x y=some z):Sound P G B0 f ⟨ps,bs,rs,cs,R,out,F'⟩:=
 ⟨h.1,fun M w g vs x y z hG hB hF hz=>h.2 M w g vs x y z hG hB hF (e x y z hz)⟩
theorem cloneS_sound:Sound Tryz.prog GW B7 185 (slices_Clone_string_string_sg fun x _=>cloneS x.1):=
 less (G4 100) fun x y z hz=>by
  change cloneS x.1=some z at hz
  unfold cloneS at hz
  split at hz
  ·rename_i h
   cases hz
   exact c9d _ h
  ·cases hz
end Go.Proofs.YtolpmfhiegpohaaGreatDoor.Cn
namespace Go.Proofs.YtolpmfhiegpohaaGreatDoor
set_option linter.unusedVariables false
set_option linter.unusedSimpArgs false
open Go Go.RowKit Go.Shelf
theorem Sound.ofRowKept{P:Program}{G:World->Prop}{B0:Nat}{f:FuncId}{ps:List Sl}{e:TypeId}{t:Ty}{F:SV ps->List t.den->Option (List t.den)}
  (hcall:∀(args:Array Value) (w:World),(callFunc f args).run P w = .ok (.enter f args) w) (hz:0<t.sz)
  (h:∀(M:Nat->Nat->Prop) (w:World) (g:Gh) (v0:Value) (vs:List Value) (x:SV ps) (xs zs:List t.den) (cs:List Value),G w->(∀b o,M b o->b<w.heap.size)->(∀b,v0.ownBlock=some b->∀o,M b o)->
   w.ownsRow 0 e t.sz v0 xs.length cs->Els M w t xs cs->All2 (RepD0 M w g) (U4 id ps x) vs->F x xs=some zs->
   Calls P f (v0 :: vs).toArray w fun en w'=>∃cs',en = .returned (.tuple #[])/\ExtX (fun b=>v0.ownBlock=some b) w w'/\
    w'.ownsRow 0 e t.sz v0 zs.length cs'/\Els M w t zs cs'):
  Sound P G B0 f ⟨.row 0 :: ps,[.row e t true],[],[.row e t true,.none],List t.den,fun z=>((),(z,((),()))),fun x y=>F x.2 y.1⟩:=by
 refine⟨hcall,fun M w g vs0 x y zs hG hB hF hz'=>?_⟩
 obtain⟨_,x⟩:=x
 obtain⟨xs,_⟩:=y
 match vs0,hF.args with
 |v0 :: vs,⟨h0,hA⟩=>
  obtain⟨gx,A,n,c,hg0,hv,hv2⟩:=h0
  obtain⟨gx',hg',_,cs,hown,hblk,hlo,hels⟩:=hF.res 0 (.row e t true xs) rfl
  replace hg0:g 0=some gx:=hg0
  rw[hg']at hg0
  cases hg0
  have hlo:gx.lo=0:=hlo
  rw[<-hv]at hown hblk
  have hM:∀b,v0.ownBlock=some b->∀o,M b o:=fun b hb o=>(hF.chg 0 gx b o hg' (by rw[hblk];exact hb)).2 (by rw[hlo];exact Nat.zero_le _)
  have honly:∀r gy,g r=some gy->r=0:=fun r gy hr=>by have:=hF.dom r gy hr;exact Nat.lt_one_iff.1 this
  have hX:∀b,N5 g b↔v0.ownBlock=some b:=fun b=>by
   constructor
   ·rintro⟨r,gy,hr,hb⟩
    obtain rfl:=honly r gy hr
    rw[hg']at hr;cases hr
    rw[<-hblk];exact hb
   ·intro hb
    exact⟨0,gx,hg',by rw[hblk];exact hb⟩
  refine(h M w g v0 vs x xs zs cs hG hF.mlt hM hown hels hA hz').mono fun en w' hp=>?_
  obtain⟨cs',he,hE,hown',hels'⟩:=hp
  have hblk':∀b,v0.ownBlock=some b->v0.ownBlock=some b\/w.heap.size<=b:=fun b h=> .inl h
  obtain⟨v',hv0⟩:∃v',v'=v0:=⟨v0,rfl⟩
  rw[<-hv0]at hown'
  replace hblk':∀b,v'.ownBlock=some b->v0.ownBlock=some b\/w.heap.size<=b:=by rw[hv0];exact hblk'
  obtain⟨g',hgd⟩:∃g':Gh,g'=fun r=>if r=0 then some ⟨v'.ownBlock,0,v'⟩else none:=⟨_,rfl⟩
  have hg0':g' 0=some ⟨v'.ownBlock,0,v'⟩:=by rw[hgd];rfl
  have hgo:∀r gy,g' r=some gy->r=0/\gy=⟨v'.ownBlock,0,v'⟩:=fun r gy hr=>by
   rw[hgd]at hr
   by_cases h0:r=0
   ·subst h0;simp at hr;exact⟨rfl,hr.symm⟩
   ·simp[h0]at hr
  have hnew:∀b o,a1d M g g' b o->(M b o/\v0.ownBlock≠some b)\/v'.ownBlock=some b:=fun b o hm=>by
   rcases hm with⟨hm,hx⟩|⟨r,gy,hr,hb,_⟩
   ·exact .inl ⟨hm,fun hb=>hx ((hX b).2 hb)⟩
   ·obtain⟨_,rfl⟩:=hgo r gy hr
    exact .inr hb
  have hstep:Step M w (a1d M g g') w':=by
   have key:∀b o,b<w.heap.size->¬M b o->w'.heap[b]? = w.heap[b]?/\¬a1d M g g' b o:=fun b o hb hm=>by
    have hnb:v0.ownBlock≠some b:=fun h=>hm (hM b h o)
    refine⟨hE.block b hb hnb,fun hm'=>?_⟩
    rcases hnew b o hm' with⟨h1,_⟩|h1
    ·exact hm h1
    ·rcases hblk' b h1 with h2|h2
     ·exact hnb h2
     ·omega
   refine⟨fun ad u hu hm=>?_,fun b es c hb hm=>?_⟩
   ·have hlt:ad.block<w.heap.size:=World.block_lt_of_cell? w _ hu
    obtain⟨h1,h2⟩:=key ad.block ad.off hlt hm
    exact⟨(W5 h1).trans hu,h2⟩
   ·obtain⟨h1,h2⟩:=key b 0 (A6 hb) hm
    exact⟨h1.trans hb,h2⟩
  obtain⟨A',c',hv',_⟩:=Row.of_own' hown'
  have hlow:∀b,v'.ownBlock=some b->B0<=b/\b<w'.heap.size:=fun b hb=>by
   refine⟨?_,c9N hown' hb⟩
   rcases hblk' b hb with h1|h1
   ·exact(hF.low 0 gx b hg' (by rw[hblk];exact h1)).1
   ·omega
  have hrow:RepD0 (a1d M g g') w' g' (.row 0) v':=⟨_,A',_,c',hg0',rfl,hv'⟩
  refine⟨[],g',?_,⟨hE.os,hE.tape,hE.output,hE.size,fun k hk hx=>hE.block k hk fun hb=>hx ((hX k).2 hb)⟩,hstep,?_,fun r gy hr hbm=>?_,fun b hb=>?_⟩
  ·rw[he]
   rfl
  ·exact{
    args:=trivial
    res:=fun r blk hr=>by
     cases r with
     |zero=>
      obtain rfl:Blk.row e t true zs=blk:=Option.some.inj hr
      exact⟨_,hg0',hz,cs',hown',rfl,rfl,fun i hi=>RepC.step hstep _ _ _ (hels' i hi)⟩
     |succ r=>
      cases r with
      |zero=>cases hr
      |succ r=>cases hr
    dom:=fun r gy hr=>by obtain⟨rfl,_⟩:=hgo r gy hr;exact Nat.zero_lt_two
    inj:=fun r r' gy gy' b hr hr' _ _=>by obtain⟨rfl,_⟩:=hgo r gy hr;obtain⟨rfl,_⟩:=hgo r' gy' hr';rfl
    low:=fun r gy b hr hb=>by obtain⟨_,rfl⟩:=hgo r gy hr;exact hlow b hb
    chg:=fun r gy b o hr hb=>⟨fun _=>by obtain⟨_,rfl⟩:=hgo r gy hr;exact Nat.zero_le _,fun hle=> .inr ⟨r,gy,hr,hb,hle⟩⟩
    mlt:=fun b o hm=>by
     rcases hnew b o hm with⟨h1,_⟩|h1
     ·exact Nat.lt_of_lt_of_le (hF.mlt b o h1) hE.size
     ·exact(hlow b h1).2
    row:=fun r gy b hr hb h0=>by obtain⟨_,rfl⟩:=hgo r gy hr;exact absurd h0 (Nat.lt_irrefl 0)}
  ·obtain rfl:=honly r gy hr
   rw[hg']at hr;cases hr
   rw[hg0',hv0]
   obtain⟨b1,l1,v1⟩:=gx
   dsimp only at hv hblk hlo
   subst hv hblk hlo
   rfl
  ·obtain⟨r,gy,hr,hb⟩:=hb
   obtain⟨_,rfl⟩:=hgo r gy hr
   rcases hblk' b hb with h1|h1
   ·exact .inl ((hX b).2 h1)
   ·exact .inr h1
end Go.Proofs.YtolpmfhiegpohaaGreatDoor
namespace Go.Proofs.YtolpmfhiegpohaaGreatDoor
set_option linter.unusedVariables false
set_option linter.unusedSimpArgs false
open Go Go.RowKit Go.Shelf
theorem c0m{α:Type}[Inhabited α](enc:α->Value){w:World}{n b:Nat}{d:Array α}{os:Array Obj}{cur:Array Value}{e:TypeId}{fz:Nat×Nat}(h:w.heap[b]? = some (.cells cur e fz)):
  (Sort.grow (Sort.putRow enc (Sort.ahead w n) b 0 d) os).heap[b]? = some (.cells (Sort.putCells enc 0 d cur) e fz):=by
 have hb:b<w.heap.size:=by
  apply Classical.byContradiction
  intro hn
  rw[Array.getElem?_eq_none (by omega)]at h
  cases h
 have hb2:b<(w.heap.modify b (Sort.onCells (Sort.putCells enc 0 d))).size:=by rw[Array.size_modify];exact hb
 show(w.heap.modify b (Sort.onCells (Sort.putCells enc 0 d))++os)[b]? = _
 rw[Array.getElem?_append_left hb2,Array.getElem?_modify,if_pos rfl,h]
 rfl
theorem c7e{α:Type}[Inhabited α](enc:α->Value){w:World}{n b:Nat}{d:Array α}{os:Array Obj}:ExtX (fun k=>b=k) w (Sort.grow (Sort.putRow enc (Sort.ahead w n) b 0 d) os):=by
 refine⟨rfl,rfl,rfl,?_,fun k hk hx=>?_⟩
 ·show w.heap.size<=(w.heap.modify b (Sort.onCells (Sort.putCells enc 0 d))++os).size
  rw[Array.size_append,Array.size_modify];omega
 ·have hb2:k<(w.heap.modify b (Sort.onCells (Sort.putCells enc 0 d))).size:=by rw[Array.size_modify];exact hk
  show(w.heap.modify b (Sort.onCells (Sort.putCells enc 0 d))++os)[k]? = _
  rw[Array.getElem?_append_left hb2,Array.getElem?_modify,if_neg hx]
theorem a7s{α:Type}[Inhabited α](enc:α->Value)(d:Array α)(cur:Array Value):(Sort.putCells enc 0 d cur).size=cur.size:=by
 unfold Sort.putCells;simp
theorem b6R{α:Type}[Inhabited α](enc:α->Value)(zs:List α)(cur:Array Value)(h:zs.length<=cur.size):(Sort.putCells enc 0 zs.toArray cur).toList.take zs.length=zs.map enc:=by
 apply List.ext_getElem
 ·have e:(Sort.putCells enc 0 zs.toArray cur).toList.length=cur.size:=by
   rw[Array.length_toList];exact a7s _ _ _
  rw[List.length_take,List.length_map,e];omega
 ·intro k h1 h2
  rw[List.length_map]at h2
  rw[List.getElem_take,Array.getElem_toList,List.getElem_map]
  unfold Sort.putCells
  rw[Array.getElem_mapIdx,if_pos ⟨Nat.zero_le _,by simpa using h2⟩]
  simp[h2]
end Go.Proofs.YtolpmfhiegpohaaGreatDoor
