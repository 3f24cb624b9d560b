/- % -/
import Derived.Test.YtolpmfhiegpohaaGreatDoorQBase2
import Derived.Test.YtolpmfhiegpohaaGreatDoorProg
import Derived.Lib.LaidTab
import Derived.Lib.ItoaNum
import Derived.FnData
import Derived.Shelf.Strings.Builder1
import Derived.Shelf.Strings.Builder2
import Derived.Shelf.Strings.OnBuilder
import Derived.Shelf.Small.Bits
import Derived.Shelf.Small.Strs
import Derived.Shelf.Strings.BuilderF
import Derived.Shelf.Utf8.RuneCount
import Derived.Shelf.Strconv.Atoi
import Derived.Shelf.Strconv.Itoa0
import Derived.Shelf.Strconv.Itoa1
import Derived.Shelf.LaysM
import Derived.Shelf.Strconv.Itoa2
import Derived.Shelf.Strconv.Itoa3
import Derived.Shelf.Strings.Search1
import Derived.Shelf.Strings.Search2
import Derived.Shelf.Strings.Search3
import Derived.Shelf.Strings.Count
import Derived.Shelf.Strings.Shaped
import Derived.Shelf.Strings.Prefix
import Derived.Shelf.Strings.Split
import Derived.Shelf.Strings.SplitShaped
import Derived.Shelf.Unicode.Decode
import Derived.Shelf.Strings.RuneCount
import Derived.Shelf.Strings.Explode
import Derived.Shelf.Bits.Mul64
import Derived.Shelf.Strings.Repeat
import Derived.Shelf.Unicode.DecodeSlow
import Derived.Shelf.Unicode.DecodeAny
import Derived.Shelf.Slices.Turned
import Derived.Shelf.Slices.Equal
import Derived.Ground.Names2Prog
import Derived.Shelf.Slices.Clone
import Derived.Shelf.Slices.CompactS
import Derived.Shelf.Slices.Cells
import Derived.Ground.SlgnProg
import Derived.Shelf.SlicesE.Clone
import Derived.Ground.SlgmProg
import Derived.Shelf.SortM.Plain
import Derived.Shelf.SortM.SortNone
import Derived.WalkSpells
import Derived.WalkLawsBesides
import Derived.Outline
import Derived.IntWalk
import Derived.Laws.StructEq
import Derived.Lib.Bytealg
import Derived.Lib.AtoiErrMem
import Derived.Shelf.SlGeneric
import Derived.Shelf.Strings.SlTrimAscii
import Derived.Lib.Join
namespace Go.Proofs.YtolpmfhiegpohaaGreatDoor
open Go Go.RowKit
set_option linter.unusedSimpArgs false
set_option linter.unusedVariables false
section
def GW(w:World):Prop:=(∃m:Int,w.cell? ⟨0,0,none⟩=some (.int .i64 m))/\Lib.TabIs Tryz.prog w "internal/strconv.uint64pow10" .u64 Lib.pow10Tab
def x9:Nat:=max 0 3+1
theorem GW.len{w:World}(h:GW w):∃m:Int,w.cell? ⟨0,0,none⟩=some (.int .i64 m):=h.1
theorem GW.tab{w:World}(h:GW w):Lib.TabIs Tryz.prog w "internal/strconv.uint64pow10" .u64 Lib.pow10Tab:=h.2
theorem a4X:Tryz.prog.globalNamed "internal/strconv.uint64pow10" = some 3:=by kernel_rfl
theorem b7X{w:World}(h:GW w):w.cell? ⟨3,0,none⟩=some (.int .u64 1):=World.var?_cell a4X h.2 0
theorem a10(w w':World)(X:Nat->Prop)(h:GW w)(hX:ExtX X w w')(hB:∀b,X b->x9<=b):GW w':=by
 have h10:3<w.heap.size:=World.block_lt_of_cell? w _ (b7X h);obtain⟨⟨m,h⟩,h2⟩:=h;refine⟨⟨m,?_⟩,?_⟩
 ·have hlt:=World.block_lt_of_cell? w _ h;rw[W0 (hX.block _ hlt fun hx=>absurd (hB _ hx) (by show ¬x9<=0;unfold x9;omega))];exact h
 ·unfold Lib.TabIs World.var? at h2 ⊢;rw[a4X,Option.bind_some]at h2 ⊢;rw[hX.block _ h10 fun hx=>absurd (hB _ hx) (by unfold x9;omega)];exact h2
theorem c1Q{w:World}(h:GW w):x9<=w.heap.size:=by
 have h10:3<w.heap.size:=World.block_lt_of_cell? w _ (b7X h);obtain⟨⟨m,h⟩,_⟩:=h;have hlt:0<w.heap.size:=World.block_lt_of_cell? w _ h;unfold x9;omega
end
end Go.Proofs.YtolpmfhiegpohaaGreatDoor
namespace Go.Proofs.YtolpmfhiegpohaaGreatDoor
set_option linter.unusedVariables false
set_option linter.unusedSimpArgs false
open Go Go.RowKit
abbrev d7:=List UInt8
abbrev τi:=Int×Int×Bool×Int×List (Int×d7×Int×Int)×List GStmt×List (Int×Int)
abbrev τh:=Int×Int×Bool×Int×List (Int×d7×Int×Int)×List (Int×Int)×List GStmt
abbrev τg:=Int×Int×Bool×Int×List (Int×d7×Int×Int)×List (Int×Int)×List (d7×GExpr)
abbrev τa:=Int×Int×Bool×Int×List (Int×d7×Int×Int)×List (Int×Int)
theorem b1d{R:Type}[BothC R](c:Bool)(x y:R):br c (some x) (some y)=some (if c=true then x else y):=by cases c<;>simp
theorem Sound.never{P:Program}{G:World->Prop}{B0:Nat}{f:FuncId}{F:AF}(hcall:∀(args:Array Value) (w:World),(callFunc f args).run P w = .ok (.enter f args) w)(h:∀x y,F.f x y=none):Sound P G B0 f F:=
 ⟨hcall,fun _ _ _ _ x y _ _ _ _ h'=>by rw[h x y]at h';cases h'⟩
theorem SoundP.never{P:Program}{G:World->Prop}{B0:Nat}{T:TypeId}{f:FuncId}{F:PF}(hcall:∀(args:Array Value) (w:World),(callFunc f args).run P w = .ok (.enter f args) w)(h:∀x y,F.f x y=none):SoundP P G B0 T f F:=
 ⟨hcall,fun _ _ _ _ x y _ _ _=>⟨fun z h'=>(by rw[h x y]at h';cases h'),fun c h'=>(by rw[h x y]at h';cases h')⟩⟩
end Go.Proofs.YtolpmfhiegpohaaGreatDoor
namespace Go.Proofs
open Go.Shelf
theorem Fq{α:Type}{a:Option α}{x y:α}(h:a=some x)(e:x=y:=by kernel_rfl):a=some y:=h.trans (congrArg some e)
def Tryz.lays156_ren:Go.Shelf.Ren:=⟨fun|156=>59|165=>111|166=>105|169=>31|240=>156|241=>159|276=>198|277=>202|n=>n,fun|31=>65|9=>9|3=>3|4=>4|0=>0|20=>20|72=>86|76=>153|70=>83|37=>84|75=>152|127=>129|164=>258|5=>5|80=>91|n=>n,fun|n=>n⟩
theorem Tryz.lays156:Go.Proofs.Lays.n156 Tryz.prog Tryz.lays156_ren:={
 mixed:=by kernel_rfl
 f156:=Fq Tryz.func59
 f165:=Fq Tryz.func111
 f166:=Fq Tryz.func105
 f169:=Fq Tryz.func31
 f240:=Fq Tryz.func156
 f241:=Fq Tryz.func159
 f276:=Fq Tryz.func198
 f277:=Fq Tryz.func202
 t0:=Tryz.underlying0
 a0:=Tryz.isAgg0
 z0:=Tryz.sizeOf0
 v0:=Tryz.zeroValue0
 t3:=Tryz.underlying3
 a3:=Tryz.isAgg3
 z3:=Tryz.sizeOf3
 v3:=Tryz.zeroValue3
 t4:=Tryz.underlying4
 a4:=Tryz.isAgg4
 z4:=Tryz.sizeOf4
 v4:=Tryz.zeroValue4
 t9:=Tryz.underlying9
 a9:=Tryz.isAgg9
 z9:=Tryz.sizeOf9
 v9:=Tryz.zeroValue9
 t20:=Tryz.underlying20
 a20:=Tryz.isAgg20
 z20:=Tryz.sizeOf20
 v20:=Tryz.zeroValue20
 t31:=Tryz.underlying65
 a31:=Tryz.isAgg65
 z31:=Tryz.sizeOf65
 v31:=Tryz.zeroValue65
 t37:=Tryz.underlying84
 a37:=Tryz.isAgg84
 z37:=Tryz.sizeOf84
 v37:=Tryz.zeroValue84
 t70:=Tryz.underlying83
 a70:=Tryz.isAgg83
 z70:=Tryz.sizeOf83
 v70:=Tryz.zeroValue83
 t72:=Tryz.underlying86
 a72:=Tryz.isAgg86
 z72:=Tryz.sizeOf86
 v72:=Tryz.zeroValue86
 t75:=Tryz.underlying152
 a75:=Tryz.isAgg152
 z75:=Tryz.sizeOf152
 v75:=Tryz.zeroValue152
 t76:=Tryz.underlying153
 a76:=Tryz.isAgg153
 z76:=Tryz.sizeOf153
 v76:=Tryz.zeroValue153
 t127:=Tryz.underlying129
 a127:=Tryz.isAgg129
 z127:=Tryz.sizeOf129
 v127:=Tryz.zeroValue129
 t164:=Tryz.underlying258
 a164:=Tryz.isAgg258
 z164:=Tryz.sizeOf258
 v164:=Tryz.zeroValue258}
theorem Tryz.Builder_Extra_156:Builder.Extra Tryz.prog Tryz.lays156_ren:={
 sizeBuilder:=by kernel_rfl
 liesBuilder:=by kernel_rfl
 t5:=Tryz.underlying5
 a5:=Tryz.isAgg5
 z5:=Tryz.sizeOf5
 v5:=Tryz.zeroValue5
 infoByte:=by kernel_rfl
 cellsByte:=by kernel_rfl
 sizeByte:=by kernel_rfl
 neB5:=by decide}
def Tryz.lays137_ren:Go.Shelf.Ren:=⟨fun|137=>32|217=>62|266=>114|n=>n,fun|9=>9|5=>5|3=>3|n=>n,fun|n=>n⟩
theorem Tryz.lays137:Go.Proofs.Lays.n137 Tryz.prog Tryz.lays137_ren:={
 mixed:=by kernel_rfl
 f137:=Fq Tryz.func32
 f217:=Fq Tryz.func62
 f266:=Fq Tryz.func114
 t3:=Tryz.underlying3
 a3:=Tryz.isAgg3
 z3:=Tryz.sizeOf3
 v3:=Tryz.zeroValue3
 t5:=Tryz.underlying5
 a5:=Tryz.isAgg5
 z5:=Tryz.sizeOf5
 v5:=Tryz.zeroValue5
 t9:=Tryz.underlying9
 a9:=Tryz.isAgg9
 z9:=Tryz.sizeOf9
 v9:=Tryz.zeroValue9}
open Go.RowKit in
theorem Tryz.strings_IndexByte(s:ByteArray)(c:Int)(w:World):
  Calls Tryz.prog 32 #[.string s,.int .u8 c] w fun e w'=>e = .returned (.int .i64 (Lib.indexByte s.data.toList c.toNat.toUInt8))/\w'=w:=Any.strings_IndexByte Tryz.lays137 s c w
def Tryz.laysM171_ren:Go.Shelf.Ren:=⟨fun|171=>109|243=>158|246=>201|283=>231|284=>232|285=>233|286=>234|129=>132|317=>264|318=>265|319=>266|320=>267|337=>303|338=>304|n=>n,fun|3=>3|9=>9|2=>2|4=>4|171=>296|0=>0|53=>197|37=>84|5=>5|173=>298|212=>341|51=>195|20=>20|213=>342|46=>138|232=>393|233=>394|n=>n,fun|17=>3|18=>6|19=>7|n=>n⟩
theorem Tryz.laysM171:Go.Proofs.LaysM.n171 Tryz.prog Tryz.laysM171_ren:={
 mixed:=by kernel_rfl
 f129:=Fq Tryz.func132
 f171:=Fq Tryz.func109
 f243:=Fq Tryz.func158
 f246:=Fq Tryz.func201
 f283:=Fq Tryz.func231
 f284:=Fq Tryz.func232
 f285:=Fq Tryz.func233
 f286:=Fq Tryz.func234
 f317:=Fq Tryz.func264
 f318:=Fq Tryz.func265
 f319:=Fq Tryz.func266
 f320:=Fq Tryz.func267
 f337:=Fq Tryz.func303
 f338:=Fq Tryz.func304
 t0:=Tryz.underlying0
 a0:=Tryz.isAgg0
 z0:=Tryz.sizeOf0
 v0:=Tryz.zeroValue0
 t2:=Tryz.underlying2
 a2:=Tryz.isAgg2
 z2:=Tryz.sizeOf2
 v2:=Tryz.zeroValue2
 t3:=Tryz.underlying3
 a3:=Tryz.isAgg3
 z3:=Tryz.sizeOf3
 v3:=Tryz.zeroValue3
 t4:=Tryz.underlying4
 a4:=Tryz.isAgg4
 z4:=Tryz.sizeOf4
 v4:=Tryz.zeroValue4
 t5:=Tryz.underlying5
 a5:=Tryz.isAgg5
 z5:=Tryz.sizeOf5
 v5:=Tryz.zeroValue5
 t9:=Tryz.underlying9
 a9:=Tryz.isAgg9
 z9:=Tryz.sizeOf9
 v9:=Tryz.zeroValue9
 t20:=Tryz.underlying20
 a20:=Tryz.isAgg20
 z20:=Tryz.sizeOf20
 v20:=Tryz.zeroValue20
 t37:=Tryz.underlying84
 a37:=Tryz.isAgg84
 z37:=Tryz.sizeOf84
 v37:=Tryz.zeroValue84
 t46:=Tryz.underlying138
 a46:=Tryz.isAgg138
 z46:=Tryz.sizeOf138
 v46:=Tryz.zeroValue138
 t51:=Tryz.underlying195
 a51:=Tryz.isAgg195
 z51:=Tryz.sizeOf195
 v51:=Tryz.zeroValue195
 t53:=Tryz.underlying197
 a53:=Tryz.isAgg197
 z53:=Tryz.sizeOf197
 v53:=Tryz.zeroValue197
 t171:=Tryz.underlying296
 a171:=Tryz.isAgg296
 z171:=Tryz.sizeOf296
 v171:=Tryz.zeroValue296
 t173:=Tryz.underlying298
 a173:=Tryz.isAgg298
 z173:=Tryz.sizeOf298
 v173:=Tryz.zeroValue298
 t212:=Tryz.underlying341
 a212:=Tryz.isAgg341
 z212:=Tryz.sizeOf341
 v212:=Tryz.zeroValue341
 t213:=Tryz.underlying342
 a213:=Tryz.isAgg342
 z213:=Tryz.sizeOf342
 t232:=Tryz.underlying393
 a232:=Tryz.isAgg393
 z232:=Tryz.sizeOf393
 v232:=Tryz.zeroValue393
 t233:=Tryz.underlying394
 a233:=Tryz.isAgg394
 z233:=Tryz.sizeOf394
 v233:=Tryz.zeroValue394
 g17:=by kernel_rfl
 g18:=by kernel_rfl
 g19:=by kernel_rfl
 i0:=by kernel_rfl
 i2:=by kernel_rfl
 i3:=by kernel_rfl
 i4:=by kernel_rfl
 i5:=by kernel_rfl
 i9:=by kernel_rfl
 i20:=by kernel_rfl
 i37:=by kernel_rfl
 i46:=by kernel_rfl
 i51:=by kernel_rfl
 i53:=by kernel_rfl
 i171:=by kernel_rfl
 i173:=by kernel_rfl
 i212:=by kernel_rfl
 i232:=by kernel_rfl
 i233:=by kernel_rfl
 m17:=by kernel_rfl
 m18:=by kernel_rfl
 m19:=by kernel_rfl}
def Tryz.lays138_ren:Go.Shelf.Ren:=⟨fun|138=>207|195=>241|218=>243|143=>208|219=>244|217=>62|225=>275|224=>276|267=>277|266=>114|314=>314|n=>n,fun|9=>9|3=>3|4=>4|5=>5|0=>0|46=>138|146=>260|51=>195|n=>n,fun|1=>0|n=>n⟩
theorem Tryz.lays138:Go.Proofs.Lays.n138 Tryz.prog Tryz.lays138_ren:={
 mixed:=by kernel_rfl
 f138:=Fq Tryz.func207
 f143:=Fq Tryz.func208
 f195:=Fq Tryz.func241
 f217:=Fq Tryz.func62
 f218:=Fq Tryz.func243
 f219:=Fq Tryz.func244
 f224:=Fq Tryz.func276
 f225:=Fq Tryz.func275
 f266:=Fq Tryz.func114
 f267:=Fq Tryz.func277
 f314:=Fq Tryz.func314
 t0:=Tryz.underlying0
 a0:=Tryz.isAgg0
 z0:=Tryz.sizeOf0
 v0:=Tryz.zeroValue0
 t3:=Tryz.underlying3
 a3:=Tryz.isAgg3
 z3:=Tryz.sizeOf3
 v3:=Tryz.zeroValue3
 t4:=Tryz.underlying4
 a4:=Tryz.isAgg4
 z4:=Tryz.sizeOf4
 v4:=Tryz.zeroValue4
 t5:=Tryz.underlying5
 a5:=Tryz.isAgg5
 z5:=Tryz.sizeOf5
 v5:=Tryz.zeroValue5
 t9:=Tryz.underlying9
 a9:=Tryz.isAgg9
 z9:=Tryz.sizeOf9
 v9:=Tryz.zeroValue9
 t46:=Tryz.underlying138
 a46:=Tryz.isAgg138
 z46:=Tryz.sizeOf138
 v46:=Tryz.zeroValue138
 t51:=Tryz.underlying195
 a51:=Tryz.isAgg195
 z51:=Tryz.sizeOf195
 v51:=Tryz.zeroValue195
 t146:=Tryz.underlying260
 a146:=Tryz.isAgg260
 z146:=Tryz.sizeOf260
 v146:=Tryz.zeroValue260
 g1:=by kernel_rfl}
open Go.RowKit Go.Lib in
theorem Tryz.strings_Count_one(s:ByteArray)(c:UInt8)(w:World):
  Calls Tryz.prog 207 #[.string s,.string ⟨#[c]⟩] w fun e w'=>e = .returned (.int .i64 (Lib.countByte s.data.toList c))/\w'=w:=Any.strings_Count_one Tryz.lays138 s c w
def Tryz.laysM143_ren:Go.Shelf.Ren:=⟨fun|143=>208|219=>244|217=>62|225=>275|224=>276|267=>277|266=>114|314=>314|n=>n,fun|9=>9|3=>3|4=>4|5=>5|46=>138|146=>260|51=>195|n=>n,fun|1=>0|n=>n⟩
theorem Tryz.laysM143:Go.Proofs.LaysM.n143 Tryz.prog Tryz.laysM143_ren:={
 mixed:=by kernel_rfl
 f143:=Fq Tryz.func208
 f217:=Fq Tryz.func62
 f219:=Fq Tryz.func244
 f224:=Fq Tryz.func276
 f225:=Fq Tryz.func275
 f266:=Fq Tryz.func114
 f267:=Fq Tryz.func277
 f314:=Fq Tryz.func314
 t3:=Tryz.underlying3
 a3:=Tryz.isAgg3
 z3:=Tryz.sizeOf3
 v3:=Tryz.zeroValue3
 t4:=Tryz.underlying4
 a4:=Tryz.isAgg4
 z4:=Tryz.sizeOf4
 v4:=Tryz.zeroValue4
 t5:=Tryz.underlying5
 a5:=Tryz.isAgg5
 z5:=Tryz.sizeOf5
 v5:=Tryz.zeroValue5
 t9:=Tryz.underlying9
 a9:=Tryz.isAgg9
 z9:=Tryz.sizeOf9
 v9:=Tryz.zeroValue9
 t46:=Tryz.underlying138
 a46:=Tryz.isAgg138
 z46:=Tryz.sizeOf138
 v46:=Tryz.zeroValue138
 t51:=Tryz.underlying195
 a51:=Tryz.isAgg195
 z51:=Tryz.sizeOf195
 v51:=Tryz.zeroValue195
 t146:=Tryz.underlying260
 a146:=Tryz.isAgg260
 z146:=Tryz.sizeOf260
 v146:=Tryz.zeroValue260
 g1:=by kernel_rfl
 i3:=by kernel_rfl
 i4:=by kernel_rfl
 i5:=by kernel_rfl
 i9:=by kernel_rfl
 i46:=by kernel_rfl
 i51:=by kernel_rfl
 i146:=by kernel_rfl
 m1:=by kernel_rfl
 s1_3:=fun w h=>Go.Proofs.cell_of_shapedOpen_int (zero:=#[.int .i64 0]) (t:=3) h (of_decide_eq_true (by kernel_rfl)) (by kernel_rfl) rfl (by kernel_rfl) (by kernel_rfl) Tryz.underlying3}
def Tryz.lays146_ren:Go.Shelf.Ren:=⟨fun|146=>115|221=>162|268=>206|138=>207|143=>208|195=>241|197=>242|218=>243|219=>244|260=>274|217=>62|225=>275|224=>276|267=>277|266=>114|314=>314|n=>n,fun|9=>9|31=>65|3=>3|4=>4|0=>0|105=>316|21=>21|5=>5|46=>138|119=>308|139=>383|138=>382|146=>260|51=>195|n=>n,fun|1=>0|3=>4|4=>5|n=>n⟩
theorem Tryz.lays146:Go.Proofs.Lays.n146 Tryz.prog Tryz.lays146_ren:={
 mixed:=by kernel_rfl
 f138:=Fq Tryz.func207
 f143:=Fq Tryz.func208
 f146:=Fq Tryz.func115
 f195:=Fq Tryz.func241
 f197:=Fq Tryz.func242
 f217:=Fq Tryz.func62
 f218:=Fq Tryz.func243
 f219:=Fq Tryz.func244
 f221:=Fq Tryz.func162
 f224:=Fq Tryz.func276
 f225:=Fq Tryz.func275
 f260:=Fq Tryz.func274
 f266:=Fq Tryz.func114
 f267:=Fq Tryz.func277
 f268:=Fq Tryz.func206
 f314:=Fq Tryz.func314
 t0:=Tryz.underlying0
 a0:=Tryz.isAgg0
 z0:=Tryz.sizeOf0
 v0:=Tryz.zeroValue0
 t3:=Tryz.underlying3
 a3:=Tryz.isAgg3
 z3:=Tryz.sizeOf3
 v3:=Tryz.zeroValue3
 t4:=Tryz.underlying4
 a4:=Tryz.isAgg4
 z4:=Tryz.sizeOf4
 v4:=Tryz.zeroValue4
 t5:=Tryz.underlying5
 a5:=Tryz.isAgg5
 z5:=Tryz.sizeOf5
 v5:=Tryz.zeroValue5
 t9:=Tryz.underlying9
 a9:=Tryz.isAgg9
 z9:=Tryz.sizeOf9
 v9:=Tryz.zeroValue9
 t21:=Tryz.underlying21
 a21:=Tryz.isAgg21
 z21:=Tryz.sizeOf21
 v21:=Tryz.zeroValue21
 t31:=Tryz.underlying65
 a31:=Tryz.isAgg65
 z31:=Tryz.sizeOf65
 v31:=Tryz.zeroValue65
 t46:=Tryz.underlying138
 a46:=Tryz.isAgg138
 z46:=Tryz.sizeOf138
 v46:=Tryz.zeroValue138
 t51:=Tryz.underlying195
 a51:=Tryz.isAgg195
 z51:=Tryz.sizeOf195
 v51:=Tryz.zeroValue195
 t105:=Tryz.underlying316
 a105:=Tryz.isAgg316
 z105:=Tryz.sizeOf316
 v105:=Tryz.zeroValue316
 t119:=Tryz.underlying308
 a119:=Tryz.isAgg308
 z119:=Tryz.sizeOf308
 t138:=Tryz.underlying382
 a138:=Tryz.isAgg382
 z138:=Tryz.sizeOf382
 v138:=Tryz.zeroValue382
 t139:=Tryz.underlying383
 a139:=Tryz.isAgg383
 z139:=Tryz.sizeOf383
 v139:=Tryz.zeroValue383
 t146:=Tryz.underlying260
 a146:=Tryz.isAgg260
 z146:=Tryz.sizeOf260
 v146:=Tryz.zeroValue260
 g1:=by kernel_rfl
 g3:=by kernel_rfl
 g4:=by kernel_rfl}
open Go.RowKit Go.Lib in
theorem Tryz.strings_Split(s sep:ByteArray)(m:Int)(w:World)(hs:s.size<4294967281)(hm:w.cell? ⟨0,0,none⟩=some (.int .i64 m))(h1:1<=sep.size):
  Calls Tryz.prog 115 #[.string s,.string sep] w fun e w'=>
   e = .returned (.slice (some ⟨w.heap.size,0,none⟩) (Lib.countB s sep+1) (Lib.countB s sep+1))/\w'=w.alloc (.cells ((Lib.splitB sep 0 (Lib.countB s sep) s).map Value.string).toArray 9):=Any.strings_Split Tryz.lays146 (by kernel_rfl) s sep m w hs hm h1
def Tryz.lays105_ren:Go.Shelf.Ren:=⟨fun|105=>106|212=>157|99=>39|165=>111|166=>105|170=>30|169=>31|263=>199|264=>200|206=>63|240=>156|241=>159|276=>198|277=>202|n=>n,fun|9=>9|3=>3|4=>4|20=>20|0=>0|46=>138|109=>210|5=>5|72=>86|76=>153|51=>195|146=>260|53=>197|148=>262|70=>83|37=>84|75=>152|127=>129|164=>258|80=>91|n=>n,fun|n=>n⟩
theorem Tryz.lays105:Go.Proofs.Lays.n105 Tryz.prog Tryz.lays105_ren:={
 mixed:=by kernel_rfl
 f99:=Fq Tryz.func39
 f105:=Fq Tryz.func106
 f165:=Fq Tryz.func111
 f166:=Fq Tryz.func105
 f169:=Fq Tryz.func31
 f170:=Fq Tryz.func30
 f206:=Fq Tryz.func63
 f212:=Fq Tryz.func157
 f240:=Fq Tryz.func156
 f241:=Fq Tryz.func159
 f263:=Fq Tryz.func199
 f264:=Fq Tryz.func200
 f276:=Fq Tryz.func198
 f277:=Fq Tryz.func202
 t0:=Tryz.underlying0
 a0:=Tryz.isAgg0
 z0:=Tryz.sizeOf0
 v0:=Tryz.zeroValue0
 t3:=Tryz.underlying3
 a3:=Tryz.isAgg3
 z3:=Tryz.sizeOf3
 v3:=Tryz.zeroValue3
 t4:=Tryz.underlying4
 a4:=Tryz.isAgg4
 z4:=Tryz.sizeOf4
 v4:=Tryz.zeroValue4
 t5:=Tryz.underlying5
 a5:=Tryz.isAgg5
 z5:=Tryz.sizeOf5
 v5:=Tryz.zeroValue5
 t9:=Tryz.underlying9
 a9:=Tryz.isAgg9
 z9:=Tryz.sizeOf9
 v9:=Tryz.zeroValue9
 t20:=Tryz.underlying20
 a20:=Tryz.isAgg20
 z20:=Tryz.sizeOf20
 v20:=Tryz.zeroValue20
 t37:=Tryz.underlying84
 a37:=Tryz.isAgg84
 z37:=Tryz.sizeOf84
 v37:=Tryz.zeroValue84
 t46:=Tryz.underlying138
 a46:=Tryz.isAgg138
 z46:=Tryz.sizeOf138
 v46:=Tryz.zeroValue138
 t51:=Tryz.underlying195
 a51:=Tryz.isAgg195
 z51:=Tryz.sizeOf195
 v51:=Tryz.zeroValue195
 t53:=Tryz.underlying197
 a53:=Tryz.isAgg197
 z53:=Tryz.sizeOf197
 v53:=Tryz.zeroValue197
 t70:=Tryz.underlying83
 a70:=Tryz.isAgg83
 z70:=Tryz.sizeOf83
 v70:=Tryz.zeroValue83
 t72:=Tryz.underlying86
 a72:=Tryz.isAgg86
 z72:=Tryz.sizeOf86
 v72:=Tryz.zeroValue86
 t75:=Tryz.underlying152
 a75:=Tryz.isAgg152
 z75:=Tryz.sizeOf152
 v75:=Tryz.zeroValue152
 t76:=Tryz.underlying153
 a76:=Tryz.isAgg153
 z76:=Tryz.sizeOf153
 v76:=Tryz.zeroValue153
 t109:=Tryz.underlying210
 a109:=Tryz.isAgg210
 z109:=Tryz.sizeOf210
 v109:=Tryz.zeroValue210
 t127:=Tryz.underlying129
 a127:=Tryz.isAgg129
 z127:=Tryz.sizeOf129
 v127:=Tryz.zeroValue129
 t146:=Tryz.underlying260
 a146:=Tryz.isAgg260
 z146:=Tryz.sizeOf260
 v146:=Tryz.zeroValue260
 t148:=Tryz.underlying262
 a148:=Tryz.isAgg262
 z148:=Tryz.sizeOf262
 v148:=Tryz.zeroValue262
 t164:=Tryz.underlying258
 a164:=Tryz.isAgg258
 z164:=Tryz.sizeOf258
 v164:=Tryz.zeroValue258}
def Tryz.lays194_ren:Go.Shelf.Ren:=⟨fun|194=>184|n=>n,fun|31=>65|9=>9|3=>3|4=>4|0=>0|n=>n,fun|n=>n⟩
theorem Tryz.lays194:Go.Proofs.Lays.n194 Tryz.prog Tryz.lays194_ren:={
 mixed:=by kernel_rfl
 f194:=Fq Tryz.func184
 t0:=Tryz.underlying0
 a0:=Tryz.isAgg0
 z0:=Tryz.sizeOf0
 v0:=Tryz.zeroValue0
 t3:=Tryz.underlying3
 a3:=Tryz.isAgg3
 z3:=Tryz.sizeOf3
 v3:=Tryz.zeroValue3
 t4:=Tryz.underlying4
 a4:=Tryz.isAgg4
 z4:=Tryz.sizeOf4
 v4:=Tryz.zeroValue4
 t9:=Tryz.underlying9
 a9:=Tryz.isAgg9
 z9:=Tryz.sizeOf9
 v9:=Tryz.zeroValue9
 t31:=Tryz.underlying65
 a31:=Tryz.isAgg65
 z31:=Tryz.sizeOf65
 v31:=Tryz.zeroValue65}
open Go.RowKit Go.Lib Go.Sort in
theorem Tryz.slices_Compact_string_empty(a:Option Addr)(cap:Nat)(w:World):
  Calls Tryz.prog 184 #[.slice a 0 cap] w fun e w'=>e = .returned (.slice a 0 cap)/\w'=w:=Any.slices_Compact_string_empty Tryz.lays194 a cap w
open Go.RowKit Go.Lib Go.Sort in
theorem Tryz.slices_Compact_string_cells(b off n c:Nat)(Sx:Nat->ByteArray)(w:World)(hbig:n<=9223372036854775807)(hcap:n<=c)(hc:∀i,i<n->w.cell? ⟨b,off+i,none⟩=some (.string (Sx i)))(hf:∀j,j<n->w.frozen? ⟨b,off+j,none⟩=false):
  Calls Tryz.prog 184 #[.slice (some ⟨b,off,none⟩) n c] w fun e w'=>e = .returned (.slice (some ⟨b,off,none⟩) (Lib.compact (Lib.strsOf Sx n)).length c)/\∃q,w'=(w.drewN q).setCells b off ((Lib.compact (Lib.strsOf Sx n)++List.replicate (n-(Lib.compact (Lib.strsOf Sx n)).length) []).map encStr):=Any.slices_Compact_string_cells Tryz.lays194 b off n c Sx w hbig hcap hc hf
end Go.Proofs
namespace Go.Proofs.YtolpmfhiegpohaaGreatDoor
open Go Go.RowKit Go.Shelf
set_option linter.unusedSimpArgs false
set_option linter.unusedVariables false
section
abbrev g0:Gh:=fun _=>none
theorem Sound.ofExt{P:Program}{G:World->Prop}{B0:Nat}{f:FuncId}{ps rs:List Sl}{R:Type}[BothC R]{out:R->SV rs×BV []}{F:SV ps->BV []->Option R}
  (hcall:∀(args:Array Value) (w:World),(callFunc f args).run P w = .ok (.enter f args) w)
  (h:∀(M:Nat->Nat->Prop) (w:World) (vs:List Value) (x:SV ps) (z:R),G w->(∀b o,M b o->b<w.heap.size)->All2 (RepD0 M w g0) (Y1 id ps x) vs->F x ()=some z->
   Calls P f vs.toArray w fun e w'=>∃vs',e = .returned (a7M vs')/\Ext w w'/\All2 (RepD0 M w' g0) (Y1 id rs (out z).1) vs'):Sound P G B0 f ⟨ps,[],rs,[],R,out,F⟩:=by
 refine⟨hcall,fun M w g vs x y z hG hB hF hz=>?_⟩;have hg:g=g0:=by
  funext r;cases hr:g r with
  |none=>rfl
  |some gx=>exact absurd (hF.dom r gx hr) (Nat.not_lt_zero _)
 subst hg;have hM:y4 M g0 g0=M:=by
  funext b o;refine propext ⟨fun h=>?_,fun h=> .inl ⟨h,fun⟨_,_,hx,_⟩=>by cases hx⟩⟩;exact h.elim (fun h=>h.1) fun⟨_,_,hx,_⟩=>by cases hx
 refine(h M w vs x z hG hF.mlt hF.args hz).mono fun e w' hp=>?_
 obtain⟨vs',he,hE,hA⟩:=hp;refine⟨vs',g0,he,ExtX.of_ext hE,?_,?_,fun _ _ h _=>(by cases h),fun b hb=> .inl hb⟩
 ·rw[hM];exact Step.ext hE
 ·rw[hM];exact{args:=hA,res:=fun r blk h=>(by cases h),dom:=fun r gx h=>(by cases h),inj:=fun _ _ _ _ _ h=>(by cases h),low:=fun _ _ _ h=>(by cases h),chg:=fun _ _ _ _ h=>(by cases h),mlt:=fun b o h=>Nat.lt_of_lt_of_le (hF.mlt b o h) hE.size,row:=fun _ _ _ h=>(by cases h)}
section
variable{M:Nat->Nat->Prop}{w:World}
theorem RepV.str{x:d7}{v:Value}(h:RepV M w .str x v):v = .string ⟨List.toArray x⟩:=by
 have:=RepV.plain rfl h;have:=(show [v]=[.string ⟨List.toArray x⟩]from this);injection this
theorem RepV.u8{x:UInt8}{v:Value}(h:RepV M w .u8 x v):v = .int .u8 (UInt8.toNat x):=by
 have:=RepV.plain rfl h;have:=(show [v]=[.int .u8 (UInt8.toNat x)]from this);injection this
theorem RepV.int{k:IntKind}{x:Int}{v:Value}(h:RepV M w (.int k) x v):v = .int k x:=by
 have:=RepV.plain rfl h;have:=(show [v]=[.int k x]from this);injection this
theorem b8B(x:d7):RepV M w .str x (.string ⟨List.toArray x⟩):=RepC.toV rfl rfl
theorem c4P(k:IntKind)(x:Int):RepV M w (.int k) x (.int k x):=RepC.toV rfl rfl
theorem RepV.strs{xs:List d7}{v:Value}(h:RepV M w (.sl .str) xs v):∃A c,v = .slice A xs.length c/\xs.length<=c/\c<=maxLen/\(xs ≠ []->∃b o,A=some ⟨b,o,none⟩/\∀j x,xs[j]? = some x->w.cell? ⟨b,o+j,none⟩=some (.string ⟨x.toArray⟩)):=by
 obtain⟨A,c,h1,h2,h3,h4⟩:=RepV.plain (t:= .sl .str) rfl h;injection h1 with h1
 refine⟨A,c,h1,h2,h3,fun hx=>?_⟩;have hat:∀i (h:i<xs.length),∃ad,A=some ad/\w.cell? (ad.add i)=some (.string ⟨xs[i].toArray⟩):=fun i hi=>by
  obtain⟨ad,es,a1,a2,a3⟩:=h4 i hi;have a2':es=[.string ⟨xs[i].toArray⟩]:=a2;subst a2';have:=(a3 0 _ rfl).1;have e:(ad.add (i*Ty.sz .str)).add 0=ad.add i:=by show Addr.add (Addr.add ad (i*1)) 0=_;rw[Nat.mul_one];rfl
  rw[e]at this;exact⟨ad,a1,this⟩
 have hl:0<xs.length:=by cases xs with
  |nil=>exact absurd rfl hx
  |cons=>exact Nat.succ_pos _
 obtain⟨ad,a1,a2⟩:=hat 0 hl;obtain⟨b,o,sp⟩:=ad;have hsp:sp=none:=by
  cases sp with
  |none=>rfl
  |some s=>
   have:w.cell? (⟨b,o,some s⟩:Addr)=none:=by
    unfold World.cell?;split
    ·rfl
    ·rfl
   rw[show Addr.add ⟨b,o,some s⟩ 0=⟨b,o,some s⟩from rfl,this]at a2;cases a2
 subst hsp;refine⟨b,o,a1,fun j x hj=>?_⟩;have hj':j<xs.length:=by
  rcases Nat.lt_or_ge j xs.length with h|h
  ·exact h
  ·rw[List.getElem?_eq_none h]at hj;cases hj
 obtain⟨ad,b1,b2⟩:=hat j hj';rw[a1]at b1;injection b1 with b1
 subst b1;rw[List.getElem?_eq_getElem hj']at hj;injection hj with hj
 subst hj;have e:Addr.add ⟨b,o,none⟩ j=⟨b,o+j,none⟩:=by unfold Addr.add;split<;>simp_all
 rwa [e]at b2
end
end
section
def strings_IndexByte(s:d7)(c:UInt8):Option Int:=some (Lib.indexByte s c)
theorem b83:Sound Tryz.prog GW x9 32 ⟨[.v .str,.v .u8],[],[.v (.int .i64)],[],Int,fun z=>((z,()),()),fun x _=>strings_IndexByte x.1 x.2.1⟩:=by
 refine Sound.ofExt Tryz.call32 fun M w vs x z hG hM hA hz=>?_
 obtain⟨a,b,u⟩:=x
 match vs,hA with
 |[v1,v2],hA=>
  obtain⟨h1,h2,_⟩:=hA;rw[RepV.str h1,RepV.u8 h2];have e:Lib.indexByte a b=z:=Option.some.inj hz;subst e;refine(Tryz.strings_IndexByte ⟨a.toArray⟩ (UInt8.toNat b) w).mono fun e w' hp=>?_
  obtain⟨rfl,rfl⟩:=hp;refine⟨[_],rfl,Ext.refl _,?_,trivial⟩;have e2:((UInt8.toNat b:Nat):Int).toNat.toUInt8=b:=by simp
  rw[e2];exact c4P .i64 _
theorem d7u{M:Nat->Nat->Prop}{w w':World}(hM:∀b o,M b o->b<w.heap.size)(xs:List d7)(hl:xs.length<=maxLen)(e:TypeId)
  (hw:w'=w.alloc (.cells (xs.map fun x=>Value.string ⟨x.toArray⟩).toArray e)):RepV M w' (.sl .str) xs (.slice (some ⟨w.heap.size,0,none⟩) xs.length xs.length):=by
 subst hw;refine RepC.toV rfl ⟨some ⟨w.heap.size,0,none⟩,xs.length,rfl,Nat.le_refl _,hl,fun i hi=>⟨⟨w.heap.size,0,none⟩,[.string ⟨xs[i].toArray⟩],rfl,rfl,fun j u hu=>?_⟩⟩;cases j with
 |succ j=>simp at hu
 |zero=>
  simp only[List.getElem?_cons_zero,Option.some.injEq]at hu;subst hu;have e2:(((⟨w.heap.size,0,none⟩:Addr).add (i*Ty.sz .str)).add 0)=⟨w.heap.size,i,none⟩:=by
   show Addr.add (Addr.add _ (i*1)) 0=_;rw[Nat.mul_one];unfold Addr.add;split<;>simp_all
  rw[e2,World.cell?_alloc_new];refine⟨?_,fun hM'=>?_⟩
  ·simp[hi]
  ·exact absurd (hM _ _ hM') (Nat.lt_irrefl _)
def a7f(a b:d7):List d7:=(Lib.splitB ⟨b.toArray⟩ 0 (Lib.countB ⟨a.toArray⟩ ⟨b.toArray⟩) ⟨a.toArray⟩).map fun x=>x.data.toList
def strings_Split(a b:d7):Option (List d7):=if a.length<4294967281/\1<=b.length/\(a7f a b).length=Lib.countB ⟨a.toArray⟩ ⟨b.toArray⟩+1/\(a7f a b).length<=4294967296 then some (a7f a b)else none
theorem d1s:Sound Tryz.prog GW x9 115 ⟨[.v .str,.v .str],[],[.v (.sl .str)],[],List d7,fun z=>((z,()),()),fun x _=>strings_Split x.1 x.2.1⟩:=by
 refine Sound.ofExt Tryz.call115 fun M w vs x z hG hM hA hz=>?_
 obtain⟨a,b,u⟩:=x
 match vs,hA with
 |[v1,v2],hA=>
  obtain⟨h1,h2,_⟩:=hA;rw[RepV.str h1,RepV.str h2];change strings_Split a b=some z at hz;unfold strings_Split at hz;split at hz
  ·rename_i hc;injection hz with hz
   subst hz;obtain⟨m,hm⟩:=hG.len;refine(Tryz.strings_Split ⟨a.toArray⟩ ⟨b.toArray⟩ m w hc.1 hm hc.2.1).mono fun e w' hp=>?_
   obtain⟨rfl,hw⟩:=hp;have hmap:(Lib.splitB ⟨b.toArray⟩ 0 (Lib.countB ⟨a.toArray⟩ ⟨b.toArray⟩) ⟨a.toArray⟩).map Value.string=(a7f a b).map fun x=>Value.string ⟨x.toArray⟩:=by
    unfold a7f;rw[List.map_map];rfl
   rw[hmap]at hw;rw[<-hc.2.2.1];exact⟨[_],rfl,hw▸(Ext.refl w).alloc _,d7u hM _ (Nat.le_trans hc.2.2.2 (by decide)) _ hw,trivial⟩
  ·cases hz
end
section

end
section
def Els(M:Nat->Nat->Prop)(w:World)(t:Ty)(xs:List t.den)(cs:List Value):Prop:=∀i (h:i<xs.length),RepC M w t xs[i] ((cs.drop (i*t.sz)).take t.sz)
def d33(b:Bool):List Sl:=match b with|true=>[.row 0]|false=>[]
def d7c:(b:Bool)->SV (d33 b)|true=>((),())|false=>()
def d7b(b:Bool)(v:Value):Value:=match b with|true=>v|false=> .tuple #[]
def d7a(b:Bool)(v:Value):List Value:=match b with|true=>[v]|false=>[]
theorem c6u{w:World}{base:Nat}{e:TypeId}{sz:Nat}{v:Value}{n:Nat}{cs:List Value}(h:w.ownsRow base e sz v n cs){b:Nat}(hb:v.ownBlock=some b):b<w.heap.size:=by
 rcases h.2 with⟨e1,_⟩|⟨g,cap,cur,e1,_,hg,_⟩
 ·rw[e1]at hb;cases hb
 ·rw[e1]at hb;simp only[Value.ownBlock,Option.some.injEq]at hb;subst hb;exact A4 hg
theorem ExtX.mono{X Y:Nat->Prop}{w w':World}(h:ExtX X w w')(hX:∀k,X k->Y k):ExtX Y w w':=⟨h.os,h.tape,h.output,h.size,fun k hk hy=>h.block k hk fun hx=>hy (hX k hx)⟩
theorem Sound.ofRow{P:Program}{G:World->Prop}{B0:Nat}{f:FuncId}{ps:List Sl}{e:TypeId}{t:Ty}(back:Bool){F:SV ps->List t.den->Option (List t.den)}
  (hcall:∀(args:Array Value) (w:World),(callFunc f args).run P w = .ok (.enter f args) w) (hz:0<t.sz)
  (h:∀(M:Nat->Nat->Prop) (w:World) (g:Gh) (v0:Value) (vs:List Value) (x:SV ps) (xs zs:List t.den) (cs:List Value),G w->(∀b o,M b o->b<w.heap.size)->(∀b,v0.ownBlock=some b->∀o,M b o)->
   w.ownsRow 0 e t.sz v0 xs.length cs->Els M w t xs cs->All2 (RepD0 M w g) (Y1 id ps x) vs->F x xs=some zs->
   Calls P f (v0 :: vs).toArray w fun en w'=>∃v' cs',en = .returned (d7b back v')/\(back=false->v'=v0)/\ExtX (fun b=>v0.ownBlock=some b) w w'/\
    w'.ownsRow 0 e t.sz v' zs.length cs'/\Els M w t zs cs'/\∀b,v'.ownBlock=some b->v0.ownBlock=some b\/w.heap.size<=b):
  Sound P G B0 f ⟨.row 0 :: ps,[.row e t true],d33 back,[.row e t true],List t.den,fun z=>(d7c back,z,()),fun x y=>F x.2 y.1⟩:=by
 refine⟨hcall,fun M w g vs0 x y zs hG hB hF hz'=>?_⟩;obtain⟨_,x⟩:=x;obtain⟨xs,_⟩:=y
 match vs0,hF.args with
 |v0 :: vs,⟨h0,hA⟩=>
  obtain⟨gx,A,n,c,hg0,hv,hv2⟩:=h0;obtain⟨gx',hg',_,cs,hown,hblk,hlo,hels⟩:=hF.res 0 (.row e t true xs) rfl;replace hg0:g 0=some gx:=hg0;rw[hg']at hg0;cases hg0;have hlo:gx.lo=0:=hlo;rw[<-hv]at hown hblk;have hM:∀b,v0.ownBlock=some b->∀o,M b o:=fun b hb o=>(hF.chg 0 gx b o hg' (by rw[hblk];exact hb)).2 (by rw[hlo];exact Nat.zero_le _)
  have honly:∀r gy,g r=some gy->r=0:=fun r gy hr=>by have:=hF.dom r gy hr;exact Nat.lt_one_iff.1 this
  have hX:∀b,R6 g b↔v0.ownBlock=some b:=fun b=>by
   constructor
   ·rintro⟨r,gy,hr,hb⟩;obtain rfl:=honly r gy hr;rw[hg']at hr;cases hr;rw[<-hblk];exact hb
   ·intro hb;exact⟨0,gx,hg',by rw[hblk];exact hb⟩
  refine(h M w g v0 vs x xs zs cs hG hF.mlt hM hown hels hA hz').mono fun en w' hp=>?_
  obtain⟨v',cs',he,hsame,hE,hown',hels',hblk'⟩:=hp;obtain⟨g',hgd⟩:∃g':Gh,g'=fun r=>if r=0 then some ⟨v'.ownBlock,0,v'⟩else none:=⟨_,rfl⟩
  have hg0':g' 0=some ⟨v'.ownBlock,0,v'⟩:=by rw[hgd];rfl
  have hgo:∀r gy,g' r=some gy->r=0/\gy=⟨v'.ownBlock,0,v'⟩:=fun r gy hr=>by
   rw[hgd]at hr;by_cases h0:r=0
   ·subst h0;simp at hr;exact⟨rfl,hr.symm⟩
   ·simp[h0]at hr
  have hnew:∀b o,y4 M g g' b o->(M b o/\v0.ownBlock≠some b)\/v'.ownBlock=some b:=fun b o hm=>by
   rcases hm with⟨hm,hx⟩|⟨r,gy,hr,hb,_⟩
   ·exact .inl ⟨hm,fun hb=>hx ((hX b).2 hb)⟩
   ·obtain⟨_,rfl⟩:=hgo r gy hr;exact .inr hb
  have hstep:Step M w (y4 M g g') w':=by
   have key:∀b o,b<w.heap.size->¬M b o->w'.heap[b]? = w.heap[b]?/\¬y4 M g g' b o:=fun b o hb hm=>by
    have hnb:v0.ownBlock≠some b:=fun h=>hm (hM b h o)
    refine⟨hE.block b hb hnb,fun hm'=>?_⟩;rcases hnew b o hm' with⟨h1,_⟩|h1
    ·exact hm h1
    ·rcases hblk' b h1 with h2|h2
     ·exact hnb h2
     ·omega
   refine⟨fun ad u hu hm=>?_,fun b es c hb hm=>?_⟩
   ·have hlt:ad.block<w.heap.size:=World.block_lt_of_cell? w _ hu;obtain⟨h1,h2⟩:=key ad.block ad.off hlt hm;exact⟨(W0 h1).trans hu,h2⟩
   ·obtain⟨h1,h2⟩:=key b 0 (A4 hb) hm;exact⟨h1.trans hb,h2⟩
  obtain⟨A',c',hv',_⟩:=Row.of_own' hown';have hlow:∀b,v'.ownBlock=some b->B0<=b/\b<w'.heap.size:=fun b hb=>by
   refine⟨?_,c6u hown' hb⟩;rcases hblk' b hb with h1|h1
   ·exact(hF.low 0 gx b hg' (by rw[hblk];exact h1)).1
   ·omega
  have hrow:RepD0 (y4 M g g') w' g' (.row 0) v':=⟨_,A',_,c',hg0',rfl,hv'⟩;refine⟨(d7a back v'),g',?_,⟨hE.os,hE.tape,hE.output,hE.size,fun k hk hx=>hE.block k hk fun hb=>hx ((hX k).2 hb)⟩,hstep,?_,fun r gy hr hbm=>?_,fun b hb=>?_⟩
  ·rw[he];cases back<;>rfl
  ·exact{
    args:=by cases back with
     |true=>exact⟨hrow,trivial⟩
     |false=>trivial
    res:=fun r blk hr=>by
     cases r with
     |zero=>
      obtain rfl:Blk.row e t true zs=blk:=Option.some.inj hr;exact⟨_,hg0',hz,cs',hown',rfl,rfl,fun i hi=>RepC.step hstep _ _ _ (hels' i hi)⟩
     |succ r=>cases hr
    dom:=fun r gy hr=>by obtain⟨rfl,_⟩:=hgo r gy hr;exact Nat.zero_lt_one
    inj:=fun r r' gy gy' b hr hr' _ _=>by obtain⟨rfl,_⟩:=hgo r gy hr;obtain⟨rfl,_⟩:=hgo r' gy' hr';rfl
    low:=fun r gy b hr hb=>by obtain⟨_,rfl⟩:=hgo r gy hr;exact hlow b hb
    chg:=fun r gy b o hr hb=>⟨fun _=>by obtain⟨_,rfl⟩:=hgo r gy hr;exact Nat.zero_le _,fun hle=> .inr ⟨r,gy,hr,hb,hle⟩⟩
    mlt:=fun b o hm=>by
     rcases hnew b o hm with⟨h1,_⟩|h1
     ·exact Nat.lt_of_lt_of_le (hF.mlt b o h1) hE.size
     ·exact(hlow b h1).2
    row:=fun r gy b hr hb h0=>by obtain⟨_,rfl⟩:=hgo r gy hr;exact absurd h0 (Nat.lt_irrefl 0)}
  ·obtain rfl:=honly r gy hr;rw[hg']at hr;cases hr;rw[<-hv]at hbm;exact hbm.elim (fun h=>(a3m hown h).elim) (fun h=>Bool.noConfusion (show false=true from h))
  ·obtain⟨r,gy,hr,hb⟩:=hb;obtain⟨_,rfl⟩:=hgo r gy hr;rcases hblk' b hb with h1|h1
   ·exact .inl ((hX b).2 h1)
   ·exact .inr h1
theorem a6I(b:Nat):∀(vs:List Value) (o:Nat) (w:World),(w.setCells b o vs).heap.size=w.heap.size
 |[],_,_=>rfl
 |v :: vs,o,w=>by
  show((w.setCell ⟨b,o,none⟩ v).setCells b (o+1) vs).heap.size=_;rw[a6I b vs (o+1)];unfold World.setCell;simp
theorem a6J(b:Nat):∀(vs:List Value) (o:Nat) (w:World),(w.setCells b o vs).tape=w.tape/\(w.setCells b o vs).os=w.os/\(w.setCells b o vs).output=w.output
 |[],_,_=>⟨rfl,rfl,rfl⟩
 |v :: vs,o,w=>by
  have:=a6J b vs (o+1) (w.setCell ⟨b,o,none⟩ v);exact⟨this.1,this.2.1,this.2.2⟩
theorem a5b(b:Nat):∀(vs:List Value) (o:Nat) (w:World) (k:Nat),k≠b->(w.setCells b o vs).heap[k]? = w.heap[k]?
 |[],_,_,_,_=>rfl
 |v :: vs,o,w,k,hk=>by
  show((w.setCell ⟨b,o,none⟩ v).setCells b (o+1) vs).heap[k]? = _;rw[a5b b vs (o+1) _ k hk];unfold World.setCell;rw[Array.getElem?_modify];simp[hk.symm]
theorem b6y{w:World}{q b o:Nat}{vs:List Value}:ExtX (fun k=>b=k) w ((w.drewN q).setCells b o vs):=by
 obtain⟨h1,h2,h3⟩:=a6J b vs o (w.drewN q);exact⟨h2,h1,h3,by rw[a6I];exact Nat.le_refl _,fun k hk hx=>a5b b vs o (w.drewN q) k fun e=>hx e.symm⟩
theorem a5a(b:Nat)(e:TypeId)(fz:Nat×Nat):∀(vs:List Value) (o:Nat) (w:World) (cur:Array Value),w.heap[b]? = some (.cells cur e fz)->o+vs.length<=cur.size->
  (w.setCells b o vs).heap[b]? = some (.cells (cur.toList.take o++vs++cur.toList.drop (o+vs.length)).toArray e fz)
 |[],o,w,cur,h,hl=>by
  show w.heap[b]? = _;rw[h];simp
 |v :: vs,o,w,cur,h,hl=>by
  simp only[List.length_cons]at hl;have h1:(w.setCell ⟨b,o,none⟩ v).heap[b]? = some (.cells (cur.setIfInBounds o v) e fz):=by
   unfold World.setCell;rw[Array.getElem?_modify];simp[h]
  have ih:=a5a b e fz vs (o+1) _ _ h1 (by rw[Array.size_setIfInBounds];omega);show((w.setCell ⟨b,o,none⟩ v).setCells b (o+1) vs).heap[b]? = _;rw[ih];have hs:(cur.setIfInBounds o v).toList=cur.toList.set o v:=by simp
  rw[hs];have ho:o<cur.toList.length:=by rw[Array.length_toList];omega
  congr 3;apply List.ext_getElem?;intro k;rw[List.length_cons];simp only[List.getElem?_append,List.length_append,List.length_take,List.length_set,Array.length_toList,List.getElem?_take,List.getElem?_drop,List.getElem?_set,List.length_cons];have hm1:min (o+1) cur.size=o+1:=by omega
  have hm0:min o cur.size=o:=by omega
  rw[hm1,hm0];by_cases hk:k<o
  ·simp[hk,show k<o+1 by omega,show k<o+1+vs.length by omega,show k<o+(vs.length+1) by omega,show ¬o=k by omega]
  ·by_cases hk2:k=o
   ·subst hk2;simp[show k<k+1+vs.length by omega,show k<cur.size by omega]
   ·by_cases hk3:k<o+1+vs.length
    ·have:∃j,k=o+1+j:=⟨k-(o+1),by omega⟩;obtain⟨j,rfl⟩:=this;simp[show ¬o+1+j<o by omega,show o+1+j<o+1+vs.length by omega,show o+1+j<o+(vs.length+1) by omega,show ¬(o+1+j<o+1) by omega,show o+1+j-o=j+1 by omega,show o+1+j-(o+1)=j by omega]
    ·simp[show ¬k<o by omega,show ¬k<o+1+vs.length by omega,show ¬k<o+(vs.length+1) by omega,show o+1+vs.length+(k-(o+1+vs.length))=k by omega,show o+(vs.length+1)+(k-(o+(vs.length+1)))=k by omega,show ¬o=k by omega]
end
section

end
section
open Go Go.RowKit
inductive Sc(P:Program):Ty->TypeId->Prop where
 |u8 {T:TypeId}:P.underlying T=some (.int .u8)->Sc P .u8 T
 |int {T:TypeId} {k:IntKind}:P.underlying T=some (.int k)->Sc P (.int k) T
 |bool {T:TypeId}:P.underlying T=some .bool->Sc P .bool T
 |str {T:TypeId}:P.underlying T=some .string->Sc P .str T
inductive FlatF(P:Program):Ty->List Field->Nat->Prop where
 |nil {o:Nat}:FlatF P .un [] o
 |one {t:Ty} {f:Field} {o:Nat}:f.offset=o->f.name≠ "_"->Sc P t f.type->FlatF P t [f] o
 |single {t:Ty} {f:Field} {o:Nat}:f.offset=o->f.name≠ "_"->Sc P t f.type->FlatF P (.pr t .un) [f] o
 |cons {a b:Ty} {f:Field} {fs:List Field} {o:Nat}:f.offset=o->f.name≠ "_"->Sc P a f.type->FlatF P b fs (o+1)->FlatF P (.pr a b) (f :: fs) o
section
variable{P:Program}{w:World}
theorem Sc.sz{t:Ty}{T:TypeId}(h:Sc P t T):t.sz=1:=by cases h<;>rfl
theorem Sc.cell{t:Ty}{T:TypeId}(h:Sc P t T)(x:t.den):∃c,cellsOf t x=[c]:=by cases h<;>exact⟨_,rfl⟩
theorem Sc.isAgg{t:Ty}{T:TypeId}(h:Sc P t T):(Go.isAgg T).run P w = .ok false w:=by
 cases h<;>rename_i hu<;>simp[Go.isAgg,run_underlying hu]
theorem Sc.eq{t:Ty}{T:TypeId}(h:Sc P t T)(d:Nat){x y:t.den}{a b:Value}(ha:cellsOf t x=[a])(hb:cellsOf t y=[b]):(Op.equalIn (d+1) T a b).run P w = .ok (eqb t x y) w:=by
 cases h with
 |u8 hu=>
  have ha':[Value.int .u8 (UInt8.toNat x)]=[a]:=ha;have hb':[Value.int .u8 (UInt8.toNat y)]=[b]:=hb;injection ha' with ha';injection hb' with hb'
  subst ha';subst hb';rw[run_equalIn_int w d _ _ _ _ _ hu];congr 1;show decide _=decide _;exact decide_eq_decide.2 ⟨fun h=>UInt8.toNat_inj.1 (by omega),fun h=>by rw[h]⟩
 |int hu=>
  have ha':[Value.int _ x]=[a]:=ha;have hb':[Value.int _ y]=[b]:=hb;injection ha' with ha';injection hb' with hb'
  subst ha';subst hb';rw[run_equalIn_int w d _ _ _ _ _ hu];rfl
 |bool hu=>
  have ha':[Value.bool x]=[a]:=ha;have hb':[Value.bool y]=[b]:=hb;injection ha' with ha';injection hb' with hb'
  subst ha';subst hb';rw[run_equalIn_bool' w d _ _ _ hu];rfl
 |str hu=>
  have ha':[Value.string ⟨List.toArray x⟩]=[a]:=ha;have hb':[Value.string ⟨List.toArray y⟩]=[b]:=hb;injection ha' with ha';injection hb' with hb'
  subst ha';subst hb';rw[run_equalIn_string w d _ _ _ hu,Lib.toList_data,Lib.toList_data];rfl
theorem b0h{T:TypeId}{xs:Array Value}{o:Nat}{c:Value}(h:(Go.isAgg T).run P w = .ok false w)(hc:xs[o]? = some c):(part T xs o).run P w = .ok c w:=by
 simp[part,h,hc]
theorem d1Q(d:Nat):∀(fs:List Field) (t:Ty) (o:Nat) (xs ys:Array Value) (x y:t.den),FlatF P t fs o->(xs.toList.drop o).take t.sz=cellsOf t x->(ys.toList.drop o).take t.sz=cellsOf t y->
  (Op.eqFields (d+1) xs ys fs).run P w = .ok (eqb t x y) w:=by
 have hone:∀(xs:Array Value) (o:Nat) (c:Value) (n:Nat) (l:List Value),(xs.toList.drop o).take (1+n)=c :: l->xs[o]? = some c/\(xs.toList.drop (o+1)).take n=l:=fun xs o c n l h=>by
  have hc:xs.toList.drop o=c :: xs.toList.drop (o+1):=by
   cases hd:xs.toList.drop o with
   |nil=>rw[hd]at h;simp at h
   |cons e r=>
    rw[hd,Nat.add_comm,List.take_succ_cons]at h;injection h with h1 h2
    rw[h1];congr 1;have:=congrArg (List.drop 1) hd;rw[List.drop_drop]at this;simpa [Nat.add_comm]using this.symm
  refine⟨?_,?_⟩
  ·have:=congrArg (fun l=>l[0]?) hc;simpa using this
  ·rw[hc,Nat.add_comm,List.take_succ_cons]at h;injection h
 intro fs;induction fs with
 |nil=>
  intro t o xs ys x y hf _ _;cases hf;simp[Op.eqFields,eqb]
 |cons f fs ih=>
  intro t o xs ys x y hf hx hy;have hstep:∀(a:Ty) (xa ya:a.den) (ca cb:Value) (r:Bool),f.offset=o->f.name≠ "_"->Sc P a f.type->cellsOf a xa=[ca]->cellsOf a ya=[cb]->xs[o]? = some ca->ys[o]? = some cb->
    (Op.eqFields (d+1) xs ys fs).run P w = .ok r w->(Op.eqFields (d+1) xs ys (f :: fs)).run P w = .ok (eqb a xa ya&&r) w:=fun a xa ya ca cb r ho hn hs h1 h2 h3 h4 h5=>by
   subst ho;simp only[Op.eqFields,hn,ne_eq,not_false_eq_true,if_true,Sem.run_bind,b0h hs.isAgg h3,b0h hs.isAgg h4,hs.eq d h1 h2,Result.andThen_ok];cases eqb a xa ya with
   |true=>simpa using h5
   |false=>simp
  cases hf with
  |one ho hn hs=>
   obtain⟨ca,h1⟩:=hs.cell x;obtain⟨cb,h2⟩:=hs.cell y;rw[hs.sz,h1]at hx;rw[hs.sz,h2]at hy;have:=hstep t x y ca cb true ho hn hs h1 h2 (hone xs o ca 0 [] hx).1 (hone ys o cb 0 [] hy).1 (by simp[Op.eqFields]);simpa using this
  |single ho hn hs=>
   rename_i a;obtain⟨xa,u⟩:=x;obtain⟨ya,v⟩:=y;obtain⟨ca,h1⟩:=hs.cell xa;obtain⟨cb,h2⟩:=hs.cell ya;have hx':(xs.toList.drop o).take (a.sz+0)=cellsOf a xa ++ []:=hx;have hy':(ys.toList.drop o).take (a.sz+0)=cellsOf a ya ++ []:=hy;rw[hs.sz,h1]at hx';rw[hs.sz,h2]at hy';exact hstep a xa ya ca cb true ho hn hs h1 h2 (hone xs o ca 0 [] hx').1 (hone ys o cb 0 [] hy').1 (by simp[Op.eqFields])
  |@cons a b _ _ _ ho hn hs hr=>
   obtain⟨xa,xb⟩:=x;obtain⟨ya,yb⟩:=y;obtain⟨ca,h1⟩:=hs.cell xa;obtain⟨cb,h2⟩:=hs.cell ya;have hx':(xs.toList.drop o).take (a.sz+b.sz)=cellsOf a xa++cellsOf b xb:=hx;have hy':(ys.toList.drop o).take (a.sz+b.sz)=cellsOf a ya++cellsOf b yb:=hy;rw[hs.sz,h1]at hx';rw[hs.sz,h2]at hy';obtain⟨k1,k2⟩:=hone xs o ca b.sz _ hx';obtain⟨k3,k4⟩:=hone ys o cb b.sz _ hy';exact hstep a xa ya ca cb _ ho hn hs h1 h2 k1 k3 (ih b (o+1) xs ys xb yb hr k2 k4)
theorem FlatF.len{t:Ty}{fs:List Field}{o:Nat}(h:FlatF P t fs o)(x:t.den):(cellsOf t x).length=t.sz:=by
 induction h with
 |nil=>rfl
 |one _ _ hs=>obtain⟨c,hc⟩:=hs.cell x;rw[hc,hs.sz];rfl
 |single _ _ hs=>
  obtain⟨xa,u⟩:=x;obtain⟨c,hc⟩:=hs.cell xa;show(cellsOf _ xa ++ []).length=_+0;rw[hc,hs.sz];rfl
 |cons _ _ hs _ ih=>
  obtain⟨xa,xb⟩:=x;obtain⟨c,hc⟩:=hs.cell xa;show(cellsOf _ xa++cellsOf _ xb).length=_+_;rw[List.length_append,hc,hs.sz,ih xb];rfl
theorem CmpOk.flat{T:TypeId}{t:Ty}{fs:Array Field}(hc:a3B t=true)(ha:t.isAgg=true)(hu:P.underlying T=some (.struct fs))(hp:P.stoodInHeld T=false)(hg:P.eqGuardType P.depth T=false)(hf:FlatF P t fs.toList 0):CmpOk P T t:=by
 have hfo:P.fieldsOf T=fs:=by unfold Program.fieldsOf;rw[hu]
 have heq:∀(x y:t.den) (w:World),(Op.equalIn 10000 T (.agg (cellsOf t x).toArray) (.agg (cellsOf t y).toArray)).run P w = .ok (eqb t x y) w:=fun x y w=>by
  rw[run_equalIn_agg w 9999 T _ _ (by rw[hfo];exact hu) hp,hfo];refine d1Q 9998 fs.toList t 0 _ _ x y hf ?_ ?_
  ·rw[List.drop_zero,List.take_of_length_le (by simp[hf.len x])]
  ·rw[List.drop_zero,List.take_of_length_le (by simp[hf.len y])]
 refine⟨hc,ha,fun x y ox oy w=>⟨?_,?_⟩⟩
 ·simp only[Sem.run_bind,run_eqGuard_agg w _ _ _ _ _ _ hg,Result.andThen_ok,run_eql_struct,heq]
 ·simp only[Sem.run_bind,run_eqGuard_agg w _ _ _ _ _ _ hg,Result.andThen_ok,run_neq_struct,heq]
end
end
section

end
section
theorem c2g{M:Nat->Nat->Prop}{w:World}{xs:List d7}{cs:List Value}(hl:cs.length=xs.length)(h:Els M w .str xs cs):cs=xs.map fun x=>Value.string ⟨x.toArray⟩:=by
 apply List.ext_getElem
 ·simpa using hl
 ·intro i h1 h2;have h3:i<xs.length:=by omega
  have:=h i h3;have e:(cs.drop (i*Ty.sz .str)).take (Ty.sz .str)=[cs[i]]:=by
   show(cs.drop (i*1)).take 1=_;rw[Nat.mul_one,List.drop_eq_getElem_cons h1];rfl
  rw[e]at this;have e2:[cs[i]]=[Value.string ⟨xs[i].toArray⟩]:=this;rw[List.getElem_map];injection e2
theorem b6C{M:Nat->Nat->Prop}{w:World}(xs:List d7):Els M w .str xs (xs.map fun x=>Value.string ⟨x.toArray⟩):=fun i h=>by
 have e:((xs.map fun x=>Value.string ⟨x.toArray⟩).drop (i*Ty.sz .str)).take (Ty.sz .str)=[Value.string ⟨xs[i].toArray⟩]:=by
  show((xs.map fun x=>Value.string ⟨x.toArray⟩).drop (i*1)).take 1=_;rw[Nat.mul_one,List.drop_eq_getElem_cons (by simpa using h),List.getElem_map];rfl
 rw[e];rfl
end
section
theorem Sound.ofRowKept{P:Program}{G:World->Prop}{B0:Nat}{f:FuncId}{ps:List Sl}{e:TypeId}{t:Ty}{F:SV ps->List t.den->Option (List t.den)}
  (hcall:∀(args:Array Value) (w:World),(callFunc f args).run P w = .ok (.enter f args) w) (hz:0<t.sz)
  (h:∀(M:Nat->Nat->Prop) (w:World) (g:Gh) (v0:Value) (vs:List Value) (x:SV ps) (xs zs:List t.den) (cs:List Value),G w->(∀b o,M b o->b<w.heap.size)->(∀b,v0.ownBlock=some b->∀o,M b o)->
   w.ownsRow 0 e t.sz v0 xs.length cs->Els M w t xs cs->All2 (RepD0 M w g) (Y1 id ps x) vs->F x xs=some zs->
   Calls P f (v0 :: vs).toArray w fun en w'=>∃cs',en = .returned (.tuple #[])/\ExtX (fun b=>v0.ownBlock=some b) w w'/\
    w'.ownsRow 0 e t.sz v0 zs.length cs'/\Els M w t zs cs'):
  Sound P G B0 f ⟨.row 0 :: ps,[.row e t true],[],[.row e t true,.none],List t.den,fun z=>((),z,(),()),fun x y=>F x.2 y.1⟩:=by
 refine⟨hcall,fun M w g vs0 x y zs hG hB hF hz'=>?_⟩;obtain⟨_,x⟩:=x;obtain⟨xs,_⟩:=y
 match vs0,hF.args with
 |v0 :: vs,⟨h0,hA⟩=>
  obtain⟨gx,A,n,c,hg0,hv,hv2⟩:=h0;obtain⟨gx',hg',_,cs,hown,hblk,hlo,hels⟩:=hF.res 0 (.row e t true xs) rfl;replace hg0:g 0=some gx:=hg0;rw[hg']at hg0;cases hg0;have hlo:gx.lo=0:=hlo;rw[<-hv]at hown hblk;have hM:∀b,v0.ownBlock=some b->∀o,M b o:=fun b hb o=>(hF.chg 0 gx b o hg' (by rw[hblk];exact hb)).2 (by rw[hlo];exact Nat.zero_le _)
  have honly:∀r gy,g r=some gy->r=0:=fun r gy hr=>by have:=hF.dom r gy hr;exact Nat.lt_one_iff.1 this
  have hX:∀b,R6 g b↔v0.ownBlock=some b:=fun b=>by
   constructor
   ·rintro⟨r,gy,hr,hb⟩;obtain rfl:=honly r gy hr;rw[hg']at hr;cases hr;rw[<-hblk];exact hb
   ·intro hb;exact⟨0,gx,hg',by rw[hblk];exact hb⟩
  refine(h M w g v0 vs x xs zs cs hG hF.mlt hM hown hels hA hz').mono fun en w' hp=>?_
  obtain⟨cs',he,hE,hown',hels'⟩:=hp;have hblk':∀b,v0.ownBlock=some b->v0.ownBlock=some b\/w.heap.size<=b:=fun b h=> .inl h
  obtain⟨v',hv0⟩:∃v',v'=v0:=⟨v0,rfl⟩;rw[<-hv0]at hown';replace hblk':∀b,v'.ownBlock=some b->v0.ownBlock=some b\/w.heap.size<=b:=by rw[hv0];exact hblk'
  obtain⟨g',hgd⟩:∃g':Gh,g'=fun r=>if r=0 then some ⟨v'.ownBlock,0,v'⟩else none:=⟨_,rfl⟩
  have hg0':g' 0=some ⟨v'.ownBlock,0,v'⟩:=by rw[hgd];rfl
  have hgo:∀r gy,g' r=some gy->r=0/\gy=⟨v'.ownBlock,0,v'⟩:=fun r gy hr=>by
   rw[hgd]at hr;by_cases h0:r=0
   ·subst h0;simp at hr;exact⟨rfl,hr.symm⟩
   ·simp[h0]at hr
  have hnew:∀b o,y4 M g g' b o->(M b o/\v0.ownBlock≠some b)\/v'.ownBlock=some b:=fun b o hm=>by
   rcases hm with⟨hm,hx⟩|⟨r,gy,hr,hb,_⟩
   ·exact .inl ⟨hm,fun hb=>hx ((hX b).2 hb)⟩
   ·obtain⟨_,rfl⟩:=hgo r gy hr;exact .inr hb
  have hstep:Step M w (y4 M g g') w':=by
   have key:∀b o,b<w.heap.size->¬M b o->w'.heap[b]? = w.heap[b]?/\¬y4 M g g' b o:=fun b o hb hm=>by
    have hnb:v0.ownBlock≠some b:=fun h=>hm (hM b h o)
    refine⟨hE.block b hb hnb,fun hm'=>?_⟩;rcases hnew b o hm' with⟨h1,_⟩|h1
    ·exact hm h1
    ·rcases hblk' b h1 with h2|h2
     ·exact hnb h2
     ·omega
   refine⟨fun ad u hu hm=>?_,fun b es c hb hm=>?_⟩
   ·have hlt:ad.block<w.heap.size:=World.block_lt_of_cell? w _ hu;obtain⟨h1,h2⟩:=key ad.block ad.off hlt hm;exact⟨(W0 h1).trans hu,h2⟩
   ·obtain⟨h1,h2⟩:=key b 0 (A4 hb) hm;exact⟨h1.trans hb,h2⟩
  obtain⟨A',c',hv',_⟩:=Row.of_own' hown';have hlow:∀b,v'.ownBlock=some b->B0<=b/\b<w'.heap.size:=fun b hb=>by
   refine⟨?_,c6u hown' hb⟩;rcases hblk' b hb with h1|h1
   ·exact(hF.low 0 gx b hg' (by rw[hblk];exact h1)).1
   ·omega
  have hrow:RepD0 (y4 M g g') w' g' (.row 0) v':=⟨_,A',_,c',hg0',rfl,hv'⟩;refine⟨[],g',?_,⟨hE.os,hE.tape,hE.output,hE.size,fun k hk hx=>hE.block k hk fun hb=>hx ((hX k).2 hb)⟩,hstep,?_,fun r gy hr hbm=>?_,fun b hb=>?_⟩
  ·rw[he];rfl
  ·exact{
    args:=trivial
    res:=fun r blk hr=>by
     cases r with
     |zero=>
      obtain rfl:Blk.row e t true zs=blk:=Option.some.inj hr;exact⟨_,hg0',hz,cs',hown',rfl,rfl,fun i hi=>RepC.step hstep _ _ _ (hels' i hi)⟩
     |succ r=>
      cases r with
      |zero=>cases hr
      |succ r=>cases hr
    dom:=fun r gy hr=>by obtain⟨rfl,_⟩:=hgo r gy hr;exact Nat.zero_lt_two
    inj:=fun r r' gy gy' b hr hr' _ _=>by obtain⟨rfl,_⟩:=hgo r gy hr;obtain⟨rfl,_⟩:=hgo r' gy' hr';rfl
    low:=fun r gy b hr hb=>by obtain⟨_,rfl⟩:=hgo r gy hr;exact hlow b hb
    chg:=fun r gy b o hr hb=>⟨fun _=>by obtain⟨_,rfl⟩:=hgo r gy hr;exact Nat.zero_le _,fun hle=> .inr ⟨r,gy,hr,hb,hle⟩⟩
    mlt:=fun b o hm=>by
     rcases hnew b o hm with⟨h1,_⟩|h1
     ·exact Nat.lt_of_lt_of_le (hF.mlt b o h1) hE.size
     ·exact(hlow b h1).2
    row:=fun r gy b hr hb h0=>by obtain⟨_,rfl⟩:=hgo r gy hr;exact absurd h0 (Nat.lt_irrefl 0)}
  ·obtain rfl:=honly r gy hr;rw[hg']at hr;cases hr;rw[hg0',hv0];obtain⟨b1,l1,v1⟩:=gx;dsimp only at hv hblk hlo;subst hv hblk hlo;rfl
  ·obtain⟨r,gy,hr,hb⟩:=hb;obtain⟨_,rfl⟩:=hgo r gy hr;rcases hblk' b hb with h1|h1
   ·exact .inl ((hX b).2 h1)
   ·exact .inr h1
end
end Go.Proofs.YtolpmfhiegpohaaGreatDoor
namespace Go.Proofs.YtolpmfhiegpohaaGreatDoor
set_option linter.unusedVariables false
set_option linter.unusedSimpArgs false
open Go Go.RowKit Go.Shelf
theorem b8m{α:Type}[Inhabited α](enc:α->Value){w:World}{n b:Nat}{d:Array α}{os:Array Obj}{cur:Array Value}{e:TypeId}{fz:Nat×Nat}(h:w.heap[b]? = some (.cells cur e fz)):
  (Sort.grow (Sort.putRow enc (Sort.ahead w n) b 0 d) os).heap[b]? = some (.cells (Sort.putCells enc 0 d cur) e fz):=by
 have hb:b<w.heap.size:=by
  apply Classical.byContradiction;intro hn;rw[Array.getElem?_eq_none (by omega)]at h;cases h
 have hb2:b<(w.heap.modify b (Sort.onCells (Sort.putCells enc 0 d))).size:=by rw[Array.size_modify];exact hb
 show(w.heap.modify b (Sort.onCells (Sort.putCells enc 0 d))++os)[b]? = _;rw[Array.getElem?_append_left hb2,Array.getElem?_modify,if_pos rfl,h];rfl
theorem c4F{α:Type}[Inhabited α](enc:α->Value){w:World}{n b:Nat}{d:Array α}{os:Array Obj}:ExtX (fun k=>b=k) w (Sort.grow (Sort.putRow enc (Sort.ahead w n) b 0 d) os):=by
 refine⟨rfl,rfl,rfl,?_,fun k hk hx=>?_⟩
 ·show w.heap.size<=(w.heap.modify b (Sort.onCells (Sort.putCells enc 0 d))++os).size;rw[Array.size_append,Array.size_modify];omega
 ·have hb2:k<(w.heap.modify b (Sort.onCells (Sort.putCells enc 0 d))).size:=by rw[Array.size_modify];exact hk
  show(w.heap.modify b (Sort.onCells (Sort.putCells enc 0 d))++os)[k]? = _;rw[Array.getElem?_append_left hb2,Array.getElem?_modify,if_neg hx]
theorem a6F{α:Type}[Inhabited α](enc:α->Value)(d:Array α)(cur:Array Value):(Sort.putCells enc 0 d cur).size=cur.size:=by
 unfold Sort.putCells;simp
theorem b4c{α:Type}[Inhabited α](enc:α->Value)(zs:List α)(cur:Array Value)(h:zs.length<=cur.size):(Sort.putCells enc 0 zs.toArray cur).toList.take zs.length=zs.map enc:=by
 apply List.ext_getElem
 ·have e:(Sort.putCells enc 0 zs.toArray cur).toList.length=cur.size:=by
   rw[Array.length_toList];exact a6F _ _ _
  rw[List.length_take,List.length_map,e];omega
 ·intro k h1 h2;rw[List.length_map]at h2;rw[List.getElem_take,Array.getElem_toList,List.getElem_map];unfold Sort.putCells;rw[Array.getElem_mapIdx,if_pos ⟨Nat.zero_le _,by simpa using h2⟩];simp[h2]
end Go.Proofs.YtolpmfhiegpohaaGreatDoor
namespace Go.Proofs
open Go.Shelf
def Tryz.sortS_ren:Go.Shelf.Ren:=⟨fun|6=>225|8=>70|9=>261|19=>131|20=>132|21=>294|22=>295|23=>296|24=>297|25=>298|26=>299|27=>300|28=>301|29=>302|36=>325|31=>174|32=>175|37=>326|38=>327|39=>328|41=>340|n=>n,fun|27=>65|29=>9|3=>3|32=>138|26=>65|0=>0|44=>195|46=>197|4=>4|36=>188|35=>187|41=>192|5=>5|9=>9|53=>237|57=>241|63=>286|64=>287|n=>n,fun|n=>n⟩
theorem Tryz.sortS:Go.Proofs.SlLaysM.n6 Tryz.prog Tryz.sortS_ren:={
 mixed:=by kernel_rfl
 f6:=⟨Tryz.f225.name,by decide,Fq Tryz.func225⟩
 f8:=Fq Tryz.func70
 f9:=⟨Tryz.f261.name,by decide,Fq Tryz.func261⟩
 f19:=Fq Tryz.func131
 f20:=Fq Tryz.func132
 f21:=⟨Tryz.f294.name,by decide,Fq Tryz.func294⟩
 f22:=⟨Tryz.f295.name,by decide,Fq Tryz.func295⟩
 f23:=⟨Tryz.f296.name,by decide,Fq Tryz.func296⟩
 f24:=⟨Tryz.f297.name,by decide,Fq Tryz.func297⟩
 f25:=⟨Tryz.f298.name,by decide,Fq Tryz.func298⟩
 f26:=⟨Tryz.f299.name,by decide,Fq Tryz.func299⟩
 f27:=⟨Tryz.f300.name,by decide,Fq Tryz.func300⟩
 f28:=⟨Tryz.f301.name,by decide,Fq Tryz.func301⟩
 f29:=⟨Tryz.f302.name,by decide,Fq Tryz.func302⟩
 f31:=Fq Tryz.func174
 f32:=Fq Tryz.func175
 f36:=⟨Tryz.f325.name,by decide,Fq Tryz.func325⟩
 f37:=⟨Tryz.f326.name,by decide,Fq Tryz.func326⟩
 f38:=⟨Tryz.f327.name,by decide,Fq Tryz.func327⟩
 f39:=⟨Tryz.f328.name,by decide,Fq Tryz.func328⟩
 f41:=⟨Tryz.f340.name,by decide,Fq Tryz.func340⟩
 t0:=Tryz.underlying0
 a0:=Tryz.isAgg0
 z0:=Tryz.sizeOf0
 v0:=Tryz.zeroValue0
 t3:=Tryz.underlying3
 a3:=Tryz.isAgg3
 z3:=Tryz.sizeOf3
 v3:=Tryz.zeroValue3
 t4:=Tryz.underlying4
 a4:=Tryz.isAgg4
 z4:=Tryz.sizeOf4
 v4:=Tryz.zeroValue4
 t5:=Tryz.underlying5
 a5:=Tryz.isAgg5
 z5:=Tryz.sizeOf5
 v5:=Tryz.zeroValue5
 t9:=Tryz.underlying9
 a9:=Tryz.isAgg9
 z9:=Tryz.sizeOf9
 v9:=Tryz.zeroValue9
 t26:=Tryz.underlying65
 a26:=Tryz.isAgg65
 z26:=Tryz.sizeOf65
 v26:=Tryz.zeroValue65
 t27:=Tryz.underlying65
 a27:=Tryz.isAgg65
 z27:=Tryz.sizeOf65
 v27:=Tryz.zeroValue65
 t29:=Tryz.underlying9
 a29:=Tryz.isAgg9
 z29:=Tryz.sizeOf9
 v29:=Tryz.zeroValue9
 t32:=Tryz.underlying138
 a32:=Tryz.isAgg138
 z32:=Tryz.sizeOf138
 v32:=Tryz.zeroValue138
 t35:=Tryz.underlying187
 a35:=Tryz.isAgg187
 z35:=Tryz.sizeOf187
 v35:=Tryz.zeroValue187
 t36:=Tryz.underlying188
 a36:=Tryz.isAgg188
 z36:=Tryz.sizeOf188
 v36:=Tryz.zeroValue188
 t41:=Tryz.underlying192
 a41:=Tryz.isAgg192
 z41:=Tryz.sizeOf192
 v41:=Tryz.zeroValue192
 t44:=Tryz.underlying195
 a44:=Tryz.isAgg195
 z44:=Tryz.sizeOf195
 v44:=Tryz.zeroValue195
 t46:=Tryz.underlying197
 a46:=Tryz.isAgg197
 z46:=Tryz.sizeOf197
 v46:=Tryz.zeroValue197
 t53:=Tryz.underlying237
 a53:=Tryz.isAgg237
 z53:=Tryz.sizeOf237
 v53:=Tryz.zeroValue237
 t57:=Tryz.underlying241
 a57:=Tryz.isAgg241
 z57:=Tryz.sizeOf241
 v57:=Tryz.zeroValue241
 t63:=Tryz.underlying286
 a63:=Tryz.isAgg286
 z63:=Tryz.sizeOf286
 v63:=Tryz.zeroValue286
 t64:=Tryz.underlying287
 a64:=Tryz.isAgg287
 z64:=Tryz.sizeOf287
 v64:=Tryz.zeroValue287}
end Go.Proofs
namespace Go.Proofs.YtolpmfhiegpohaaGreatDoor
open Go Go.RowKit Go.Shelf
set_option linter.unusedSimpArgs false
set_option linter.unusedVariables false
section
def a2a(x y:d7):Bool:=decide (x<=y)
def C2(xs:List d7):Option (List d7):=if xs.length<4611686018427387904 then some (xs.mergeSort a2a)else none
theorem c7F:Sound Tryz.prog GW x9 225 ⟨[.row 0],[.row 9 .str true],[],[.row 9 .str true,.none],List d7,fun z=>((),z,(),()),fun x y=>C2 y.1⟩:=by
 refine Sound.ofRowKept (ps:=[]) (t:= .str) (F:=fun x xs=>C2 xs) Tryz.call225 (by decide) fun M w g v0 vs x xs zs cs hG hMl hM hown hels hA hz=>?_
 match vs,hA with
 |[],hA=>
  change C2 xs=some zs at hz;unfold C2 at hz;split at hz
  case isFalse=>cases hz
  rename_i hbig;injection hz with hz
  have hl:=hown.1;have hl':cs.length=xs.length:=by rw[hl];exact Nat.mul_one _
  have hcs:=c2g hl' hels;have hzl:zs.length=xs.length:=by rw[<-hz];exact List.length_mergeSort _
  rcases hown.2 with⟨e1,e2⟩|⟨b,cap,cur,e1,_,hg,hle,hmax,hsz,htk⟩
  ·have hx0:xs=[]:=List.eq_nil_of_length_eq_zero e2;subst hx0 e1;refine(AnyM.slices_Sort_string_none Tryz.sortS none 0 w).mono fun e w' hp=>?_
   obtain⟨rfl,rfl⟩:=hp;have hz0:zs=[]:=List.eq_nil_of_length_eq_zero hzl;subst hz0;exact⟨[],rfl,ExtX.refl _ _,⟨rfl,.inl ⟨rfl,rfl⟩⟩,fun i h=>absurd h (Nat.not_lt_zero _)⟩
  ·subst e1;have hsz':cur.size=cap:=by rw[hsz];exact Nat.mul_one _
   have htk':cur.toList.take xs.length=xs.map fun x=>Value.string ⟨x.toArray⟩:=by rw[<-hcs,<-htk];congr 1;exact(Nat.mul_one _).symm
   have hb:b<w.heap.size:=by
    apply Classical.byContradiction;intro hn;rw[Array.getElem?_eq_none (by omega)]at hg;cases hg
   have hH:Sort.Holds encStr w b 0 xs.toArray:=fun k hk=>by
    have hk:k<xs.length:=by simpa using hk
    have h1:cur.toList[k]? = some (Value.string ⟨xs[k].toArray⟩):=by
     have:=congrArg (fun l=>l[k]?) htk';simp only[List.getElem?_take,hk,if_true,List.getElem?_map,List.getElem?_eq_getElem hk,Option.map_some]at this;exact this
    refine⟨?_,by unfold World.frozen?;rw[hg];simp⟩;rw[Nat.zero_add];have e:encStr xs.toArray[k]! = Value.string ⟨xs[k].toArray⟩:=by simp[encStr,hk]
    rw[e];unfold World.cell?;rw[hg];simpa using h1
   refine(AnyM.slices_Sort_string Tryz.sortS b 0 cap xs w hH hb hbig).mono fun e w' hp=>?_
   obtain⟨rfl,n,os,rfl⟩:=hp;have ez:(xs.mergeSort fun x y=>decide (x<=y))=zs:=hz;rw[ez];refine⟨zs.map fun x=>Value.string ⟨x.toArray⟩,rfl,(c4F encStr).mono (fun k hk=>by simpa [Value.ownBlock]using hk),⟨by rw[List.length_map];exact(Nat.mul_one _).symm,.inr ⟨b,cap,_,by rw[hzl],Nat.zero_le _,b8m encStr hg,by omega,hmax,?_,?_⟩⟩,b6C _⟩
   ·rw[a6F];exact hsz
   ·rw[show zs.length*Ty.sz .str=zs.length from Nat.mul_one _];exact b4c encStr zs cur (by omega)
end
section
def x8(xs:List d7):Option (List d7):=some (Lib.compact xs)
theorem b9O(xs:List d7):(Lib.compact xs).length<=xs.length:=Lib.compact_length_le xs
theorem d3j:Sound Tryz.prog GW x9 184 ⟨[.row 0],[.row 9 .str true],[.row 0],[.row 9 .str true],List d7,fun z=>(((),()),z,()),fun x y=>x8 y.1⟩:=by
 refine Sound.ofRow (ps:=[]) (t:= .str) true (F:=fun x xs=>x8 xs) Tryz.call184 (by decide) fun M w g v0 vs x xs zs cs hG hMl hM hown hels hA hz=>?_
 match vs,hA with
 |[],hA=>
   change x8 xs=some zs at hz;unfold x8 at hz;injection hz with hz
   have hl:=hown.1;have hl':cs.length=xs.length:=by rw[hl];exact Nat.mul_one _
   have hcs:=c2g hl' hels;rcases hown.2 with⟨e1,e2⟩|⟨b,cap,cur,e1,_,hg,hle,hmax,hsz,htk⟩
   ·have hx0:xs=[]:=List.eq_nil_of_length_eq_zero e2;subst hx0 e1;refine(Tryz.slices_Compact_string_empty none 0 w).mono fun e w' hp=>?_
    obtain⟨rfl,rfl⟩:=hp;subst hz;exact⟨_,[],rfl,fun h=>(by cases h),ExtX.refl _ _,⟨rfl,.inl ⟨rfl,rfl⟩⟩,fun i h=>absurd h (Nat.not_lt_zero _),fun b hb=> .inl hb⟩
   ·subst e1;have hsz':cur.size=cap:=by rw[hsz];exact Nat.mul_one _
    have htk':cur.toList.take xs.length=xs.map fun x=>Value.string ⟨x.toArray⟩:=by rw[<-hcs,<-htk];congr 1;exact(Nat.mul_one _).symm
    have hcell:∀k,k<xs.length->w.cell? ⟨b,0+k,none⟩=some (.string ⟨(xs[k]?.getD []).toArray⟩):=fun k hk=>by
     have h1:cur.toList[k]? = some (Value.string ⟨xs[k].toArray⟩):=by
      have:=congrArg (fun l=>l[k]?) htk';simp only[List.getElem?_take,hk,if_true,List.getElem?_map,List.getElem?_eq_getElem hk,Option.map_some]at this;exact this
     rw[Nat.zero_add,List.getElem?_eq_getElem hk];unfold World.cell?;rw[hg];simpa using h1
    refine(Tryz.slices_Compact_string_cells b 0 xs.length cap (fun k=>⟨(xs[k]?.getD []).toArray⟩) w (by unfold maxLen at hmax;omega) hle hcell (fun k hk=>by unfold World.frozen?;rw[hg];simp)).mono fun e w' hp=>?_
    obtain⟨rfl,q,rfl⟩:=hp;have hstrs:Lib.strsOf (fun k=>(⟨(xs[k]?.getD []).toArray⟩:ByteArray)) xs.length=xs:=by
     apply List.ext_getElem
     ·simp[Lib.strsOf]
     ·intro k h1 h2;simp[Lib.strsOf,h2]
    rw[hstrs];rw[hz];have hzle:zs.length<=xs.length:=by rw[<-hz];exact b9O xs
    have hnew:(zs++List.replicate (xs.length-zs.length) []).length=xs.length:=by
     simp only[List.length_append,List.length_replicate];omega
    have hblk:=a5a b 9 (0,0) ((zs++List.replicate (xs.length-zs.length) []).map encStr) 0 (w.drewN q) cur hg (by rw[List.length_map,hnew];omega);refine⟨_,zs.map fun x=>Value.string ⟨x.toArray⟩,rfl,fun h=>(by cases h),b6y.mono (fun k hk=>by simpa [Value.ownBlock]using hk),⟨by rw[List.length_map];exact(Nat.mul_one _).symm,.inr ⟨b,cap,_,rfl,Nat.zero_le _,hblk,by omega,hmax,?_,?_⟩⟩,b6C _,fun b hb=> .inl hb⟩
    ·have hcl:cur.toList.length=cap:=by rw[Array.length_toList];exact hsz'
     simp only[List.take_zero,List.nil_append,List.size_toArray,List.length_append,List.length_drop,List.length_map,List.length_replicate,hcl];show _=cap*1;omega
    ·show((List.take 0 cur.toList++_++_).toArray.toList).take (zs.length*1)=_;rw[Nat.mul_one,List.take_zero,List.nil_append,List.map_append,List.append_assoc];have e0:zs.map encStr=zs.map fun x=>Value.string ⟨x.toArray⟩:=rfl
     rw[e0];have:zs.length=(zs.map fun x=>Value.string ⟨x.toArray⟩).length:=by simp
     rw[this];simp
end
section
theorem Sound.ofMade{P:Program}{G:World->Prop}{B0:Nat}{f:FuncId}{ps:List Sl}{bs:List Sb}{rs:List Sl}{cs:List Sb}{R:Type}[BothC R]{out:R->SV rs×BV cs}{F:SV ps->BV bs->Option R}
  (hcall:∀(args:Array Value) (w:World),(callFunc f args).run P w = .ok (.enter f args) w) (hlen:cs.length=bs.length+1)
  (h:∀(M:Nat->Nat->Prop) (w:World) (g:Gh) (vs:List Value) (x:SV ps) (y:BV bs) (z:R),G w->B0<=w.heap.size->Frag B0 M w g ps bs x y vs->F x y=some z->
   Calls P f vs.toArray w fun e w'=>∃vs' gx,e = .returned (a7M vs')/\Ext w w'/\(∀b,gx.blk=some b->w.heap.size<=b/\b<w'.heap.size/\(0<gx.lo->∀es c,w'.heap[b]? ≠ some (.map es c)))/\
    ∀(M':Nat->Nat->Prop) (g':Gh),(∀r y,g r=some y->g' r=some y)->g' bs.length=some gx->Step M w M' w'->
     All2 (RepD0 M' w' g') (Y1 id rs (out z).1) vs'/\∀r blk,a1L id cs (out z).2 r=some blk->∃gy,g' r=some gy/\RepB M' w' g' gy blk):
  Sound P G B0 f ⟨ps,bs,rs,cs,R,out,F⟩:=by
 refine⟨hcall,fun M w g vs x y z hG hB hF hz=>?_⟩;refine(h M w g vs x y z hG hB hF hz).mono fun e w' hp=>?_
 obtain⟨vs',gx,he,hE,hnew,hrest⟩:=hp;obtain⟨g',hgd⟩:∃g':Gh,g'=g.set bs.length (some gx):=⟨_,rfl⟩;have hgn:g' bs.length=some gx:=by rw[hgd,Gh.set_same]
 have hgo:∀r y,g r=some y->g' r=some y:=fun r y hr=>by
  have hd:r<bs.length:=hF.dom r y hr;rw[hgd,Gh.set_other _ _ (by omega)];exact hr
 have hgc:∀r y,g' r=some y->(r=bs.length/\y=gx)\/g r=some y:=fun r y hr=>by
  by_cases e:r=bs.length
  ·subst e;rw[hgn]at hr;exact .inl ⟨rfl,(Option.some.inj hr).symm⟩
  ·rw[hgd,Gh.set_other _ _ e]at hr;exact .inr hr
 have hlow:∀r y b,g r=some y->y.blk=some b->B0<=b/\b<w.heap.size:=fun r y b h1 h2=>hF.low r y b h1 h2
 have hstep:Step M w (y4 M g g') w':=by
  have key:∀b o,b<w.heap.size->¬M b o->¬y4 M g g' b o:=fun b o hb hm hm'=>by
   rcases hm' with⟨h1,_⟩|⟨r,y,hr,hyb,hlo⟩
   ·exact hm h1
   ·rcases hgc r y hr with⟨_,rfl⟩|hr
    ·have:=(hnew b hyb).1;omega
    ·exact hm ((hF.chg r y b o hr hyb).2 hlo)
  exact⟨fun ad u hu hm=>⟨hE.cell hu,key _ _ (World.block_lt_of_cell? w _ hu) hm⟩,fun b es c hb hm=>⟨(hE.block b (A4 hb)).trans hb,key _ _ (A4 hb) hm⟩⟩
 obtain⟨hA,hR⟩:=hrest _ g' hgo hgn hstep;refine⟨vs',g',he,ExtX.of_ext hE,hstep,?_,fun r y hr _=>hgo r y hr,fun b hb=>?_⟩
 ·exact{
   args:=hA
   res:=hR
   dom:=fun r y hr=>by
    show r<cs.length;rcases hgc r y hr with⟨rfl,_⟩|hr
    ·omega
    ·have hd:r<bs.length:=hF.dom r y hr;omega
   inj:=fun r r' y y' b hr hr' hb hb'=>by
    rcases hgc r y hr with⟨rfl,rfl⟩|h1
    ·rcases hgc r' y' hr' with⟨rfl,_⟩|h2
     ·rfl
     ·have:=(hnew b hb).1;have:=(hlow _ _ _ h2 hb').2;omega
    ·rcases hgc r' y' hr' with⟨rfl,rfl⟩|h2
     ·have:=(hnew b hb').1;have:=(hlow _ _ _ h1 hb).2;omega
     ·exact hF.inj r r' y y' b h1 h2 hb hb'
   low:=fun r y b hr hb=>by
    rcases hgc r y hr with⟨_,rfl⟩|h1
    ·exact⟨Nat.le_trans hB (hnew b hb).1,(hnew b hb).2.1⟩
    ·have:=hlow _ _ _ h1 hb;exact⟨this.1,Nat.lt_of_lt_of_le this.2 hE.size⟩
   chg:=fun r y b o hr hb=>by
    refine⟨fun hm=>?_,fun hle=> .inr ⟨r,y,hr,hb,hle⟩⟩;rcases hm with⟨h1,h2⟩|⟨r',y',hr',hb',hlo⟩
    ·rcases hgc r y hr with⟨_,rfl⟩|h3
     ·have:=(hnew b hb).1;have:=hF.mlt b o h1;omega
     ·exact absurd ⟨r,y,h3,hb⟩ h2
    ·rcases hgc r y hr with⟨e1,rfl⟩|h3
     ·rcases hgc r' y' hr' with⟨_,rfl⟩|h4
      ·exact hlo
      ·have:=(hnew b hb).1;have:=(hlow _ _ _ h4 hb').2;omega
     ·rcases hgc r' y' hr' with⟨_,rfl⟩|h4
      ·have:=(hnew b hb').1;have:=(hlow _ _ _ h3 hb).2;omega
      ·have:=hF.inj r r' y y' b h3 h4 hb hb';subst this;rw[h3]at h4;cases h4;exact hlo
   mlt:=fun b o hm=>by
    rcases hm with⟨h1,_⟩|⟨r,y,hr,hb,_⟩
    ·exact Nat.lt_of_lt_of_le (hF.mlt b o h1) hE.size
    ·rcases hgc r y hr with⟨_,rfl⟩|h3
     ·exact(hnew b hb).2.1
     ·exact Nat.lt_of_lt_of_le (hlow _ _ _ h3 hb).2 hE.size
   row:=fun r y b hr hb h0=>by
    rcases hgc r y hr with⟨_,rfl⟩|h3
    ·exact(hnew b hb).2.2 h0
    ·intro es c hc;rw[hE.block b (hlow _ _ _ h3 hb).2]at hc;exact hF.row r y b h3 hb h0 es c hc}
 ·obtain⟨r,y,hr,hb⟩:=hb;rcases hgc r y hr with⟨_,rfl⟩|h3
  ·exact .inr (hnew b hb).1
  ·exact .inl ⟨r,y,h3,hb⟩
end
section
def strings_Join(l:List d7)(sep:d7):Option d7:=if(Lib.join l sep).length<=140737488355328/\l.length<=140737488355328 then some (Lib.join l sep)else none
theorem a9S:Sound Tryz.prog GW x9 59 ⟨[.v (.sl .str),.v .str],[],[.v .str],[],d7,fun z=>((z,()),()),fun x _=>strings_Join x.1 x.2.1⟩:=by
 refine Sound.ofExt Tryz.call59 fun M w vs x z hG hM hA hz=>?_
 obtain⟨l,b,u⟩:=x
 match vs,hA with
 |[v1,v2],hA=>
  obtain⟨h1,h2,_⟩:=hA;obtain⟨A,c,e1,hc1,hc2,hcell⟩:=RepV.strs h1;rw[e1,RepV.str h2];change strings_Join l b=some z at hz;unfold strings_Join at hz;split at hz
  ·rename_i hc;injection hz with hz
   subst hz;rcases Classical.em (l=[])with hl|hl
   ·subst hl;refine(Any.strings_Join_none Tryz.lays156 Tryz.Builder_Extra_156 A c ⟨b.toArray⟩ w).mono fun e w' hp=>?_
    exact⟨[_],hp.1,hp.2▸Ext.refl w,b8B _,trivial⟩
   ·replace hcell:=hcell hl;obtain⟨bk,o,rfl,hcell⟩:=hcell;have hm:(l.map fun x=>(⟨x.toArray⟩:ByteArray)).map (·.data.toList)=l:=by rw[List.map_map];exact List.map_id' l
    have hbk:bk<w.heap.size:=by
     cases l with
     |nil=>exact absurd rfl hl
     |cons x r=>exact World.block_lt_of_cell? w _ (hcell 0 x rfl)
    have:=Any.strings_Join Tryz.lays156 Tryz.Builder_Extra_156 bk o c (l.map fun x=>(⟨x.toArray⟩:ByteArray)) ⟨b.toArray⟩ w (fun j x hj=>by
     rw[List.getElem?_map]at hj;cases hx:l[j]? with
     |none=>rw[hx]at hj;cases hj
     |some y=>rw[hx]at hj;injection hj with hj;subst hj;exact hcell j y hx) hbk (by rw[List.length_map];exact hc.2) (by rw[List.length_map];exact hc1) (by rw[hm];exact hc.1)
    rw[hm,List.length_map]at this;refine this.mono fun e w' hp=>?_
    exact⟨[_],hp.1,hp.2,b8B _,trivial⟩
  ·cases hz
end
end Go.Proofs.YtolpmfhiegpohaaGreatDoor
