/- % -/
import Derived.Test.YtckdohagilcloaaGreatDoorQBmLp
import Derived.Test.YtckdohagilcloaaGreatDoorProg
import Derived.Lib.LaidTab
import Derived.Lib.ItoaNum
import Derived.FnData
import Derived.Shelf.Strings.Builder1
import Derived.Shelf.Strings.Builder2
import Derived.Shelf.Strings.OnBuilder
import Derived.Shelf.Small.Bits
import Derived.Shelf.Small.Strs
import Derived.Shelf.Strings.BuilderF
import Derived.Shelf.Utf8.RuneCount
import Derived.Shelf.Strconv.Itoa0
import Derived.Shelf.Strconv.Itoa1
import Derived.Shelf.LaysM
import Derived.Shelf.Strconv.Itoa2
import Derived.Shelf.Strconv.Itoa3
import Derived.Shelf.Strings.Search1
import Derived.Shelf.Strings.Search2
import Derived.Shelf.Strings.Search3
import Derived.Shelf.Strings.Count
import Derived.Shelf.Strings.Shaped
import Derived.Shelf.Strings.Prefix
import Derived.Shelf.Strings.Split
import Derived.Shelf.Strings.Replace
import Derived.Shelf.Strings.SplitShaped
import Derived.Shelf.Unicode.Decode
import Derived.Shelf.Strings.RuneCount
import Derived.Shelf.Strings.Explode
import Derived.Shelf.Bits.Mul64
import Derived.Shelf.Strings.Repeat
import Derived.Shelf.Unicode.DecodeSlow
import Derived.Shelf.Unicode.DecodeAny
import Derived.Shelf.Slices.Turned
import Derived.Shelf.Slices.Equal
import Derived.Ground.Names2Prog
import Derived.Shelf.Slices.Clone
import Derived.Shelf.Slices.CompactS
import Derived.Shelf.Slices.Cells
import Derived.Ground.SlgnProg
import Derived.Shelf.SlicesE.Clone
import Derived.Test.YtckdohagilcloaaGreatDoorQBmDf
import Derived.WalkSpells
import Derived.WalkLawsBesides
import Derived.Outline
import Derived.IntWalk
import Derived.Laws.StructEq
import Derived.Lib.Bytealg
import Derived.Shelf.SortM.Plain
import Derived.Shelf.SlGeneric
import Derived.Shelf.SortM.SortNone
import Derived.Ground.SlgmProg
namespace Go.Proofs.YtckdohagilcloaaGreatDoor
open Go Go.RowKit
set_option linter.unusedSimpArgs false
set_option linter.unusedVariables false
section
def GW(w:World):Prop:=(∃m:Int,w.cell? ⟨0,0,none⟩=some (.int .i64 m))/\Lib.TabIs Tryz.prog w "internal/strconv.uint64pow10" .u64 Lib.pow10Tab
def x6:Nat:=max 0 3+1
theorem GW.len{w:World}(h:GW w):∃m:Int,w.cell? ⟨0,0,none⟩=some (.int .i64 m):=h.1
theorem GW.tab{w:World}(h:GW w):Lib.TabIs Tryz.prog w "internal/strconv.uint64pow10" .u64 Lib.pow10Tab:=h.2
theorem a6M:Tryz.prog.globalNamed "internal/strconv.uint64pow10" = some 3:=by kernel_rfl
theorem c1x{w:World}(h:GW w):w.cell? ⟨3,0,none⟩=some (.int .u64 1):=World.var?_cell a6M h.2 0
theorem a7h(w w':World)(X:Nat->Prop)(h:GW w)(hX:ExtX X w w')(hB:∀b,X b->x6<=b):GW w':=by
 have h10:3<w.heap.size:=World.block_lt_of_cell? w _ (c1x h);obtain⟨⟨m,h⟩,h2⟩:=h;refine⟨⟨m,?_⟩,?_⟩
 ·have hlt:=World.block_lt_of_cell? w _ h;rw[Z6 (hX.block _ hlt fun hx=>absurd (hB _ hx) (by show ¬x6<=0;unfold x6;omega))];exact h
 ·unfold Lib.TabIs World.var? at h2 ⊢;rw[a6M,Option.bind_some]at h2 ⊢;rw[hX.block _ h10 fun hx=>absurd (hB _ hx) (by unfold x6;omega)];exact h2
theorem c6c{w:World}(h:GW w):x6<=w.heap.size:=by
 have h10:3<w.heap.size:=World.block_lt_of_cell? w _ (c1x h);obtain⟨⟨m,h⟩,_⟩:=h;have hlt:0<w.heap.size:=World.block_lt_of_cell? w _ h;unfold x6;omega
end
end Go.Proofs.YtckdohagilcloaaGreatDoor
namespace Go.Proofs.YtckdohagilcloaaGreatDoor
set_option linter.unusedVariables false
set_option linter.unusedSimpArgs false
open Go Go.RowKit
abbrev d3:=List UInt8
theorem B9{R:Type}[BothC R](c:Bool)(x y:R):br c (some x) (some y)=some (if c=true then x else y):=by cases c<;>simp
abbrev d3Z(ts:List Sl):AF:={ps:=ts,bs:=[],rs:=[],cs:=[],R:=Unit,out:=fun _=>((),()),f:=fun _ _=>none}
theorem b85{P:Program}{G:World->Prop}{B0:Nat}{f:FuncId}(hcall:∀(args:Array Value) (w:World),(callFunc f args).run P w = .ok (.enter f args) w)(ts:List Sl):Sound P G B0 f (d3Z ts):=⟨hcall,fun _ _ _ _ _ _ _ _ _ _ h=>by cases h⟩
theorem Sound.never{P:Program}{G:World->Prop}{B0:Nat}{f:FuncId}{F:AF}(hcall:∀(args:Array Value) (w:World),(callFunc f args).run P w = .ok (.enter f args) w)(h:∀x y,F.f x y=none):Sound P G B0 f F:=
 ⟨hcall,fun _ _ _ _ x y _ _ _ _ h'=>by rw[h x y]at h';cases h'⟩
theorem SoundP.never{P:Program}{G:World->Prop}{B0:Nat}{T:TypeId}{f:FuncId}{F:PF}(hcall:∀(args:Array Value) (w:World),(callFunc f args).run P w = .ok (.enter f args) w)(h:∀x y,F.f x y=none):SoundP P G B0 T f F:=
 ⟨hcall,fun _ _ _ _ x y _ _ _=>⟨fun z h'=>(by rw[h x y]at h';cases h'),fun c h'=>(by rw[h x y]at h';cases h')⟩⟩
theorem Sound.congr{P:Program}{G:World->Prop}{B0:Nat}{f:FuncId}{ps bs rs cs} {R:Type} [BothC R] {out:R->SV rs×BV cs} {F F':SV ps->BV bs->Option R} (h:Sound P G B0 f ⟨ps,bs,rs,cs,R,out,F⟩) (e:∀x y,F x y=F' x y):Sound P G B0 f ⟨ps,bs,rs,cs,R,out,F'⟩:=by
 have:F=F':=funext fun x=>funext fun y=>e x y
 rw[<-this];exact h
end Go.Proofs.YtckdohagilcloaaGreatDoor
namespace Go.Proofs
open Go.Shelf
theorem Fq{α:Type}{a:Option α}{x y:α}(h:a=some x)(e:x=y:=by kernel_rfl):a=some y:=h.trans (congrArg some e)
def Tryz.lays156_ren:Go.Shelf.Ren:=⟨fun|156=>59|165=>115|166=>110|169=>30|240=>183|241=>185|276=>226|277=>228|n=>n,fun|31=>42|9=>9|3=>3|4=>4|0=>0|20=>20|72=>87|76=>191|70=>84|37=>85|75=>190|127=>129|164=>297|5=>5|80=>92|n=>n,fun|n=>n⟩
theorem Tryz.lays156:Go.Proofs.Lays.n156 Tryz.prog Tryz.lays156_ren:={
 mixed:=by kernel_rfl
 f156:=Fq Tryz.func59
 f165:=Fq Tryz.func115
 f166:=Fq Tryz.func110
 f169:=Fq Tryz.func30
 f240:=Fq Tryz.func183
 f241:=Fq Tryz.func185
 f276:=Fq Tryz.func226
 f277:=Fq Tryz.func228
 t0:=Tryz.underlying0
 a0:=Tryz.isAgg0
 z0:=Tryz.sizeOf0
 v0:=Tryz.zeroValue0
 t3:=Tryz.underlying3
 a3:=Tryz.isAgg3
 z3:=Tryz.sizeOf3
 v3:=Tryz.zeroValue3
 t4:=Tryz.underlying4
 a4:=Tryz.isAgg4
 z4:=Tryz.sizeOf4
 v4:=Tryz.zeroValue4
 t9:=Tryz.underlying9
 a9:=Tryz.isAgg9
 z9:=Tryz.sizeOf9
 v9:=Tryz.zeroValue9
 t20:=Tryz.underlying20
 a20:=Tryz.isAgg20
 z20:=Tryz.sizeOf20
 v20:=Tryz.zeroValue20
 t31:=Tryz.underlying42
 a31:=Tryz.isAgg42
 z31:=Tryz.sizeOf42
 v31:=Tryz.zeroValue42
 t37:=Tryz.underlying85
 a37:=Tryz.isAgg85
 z37:=Tryz.sizeOf85
 v37:=Tryz.zeroValue85
 t70:=Tryz.underlying84
 a70:=Tryz.isAgg84
 z70:=Tryz.sizeOf84
 v70:=Tryz.zeroValue84
 t72:=Tryz.underlying87
 a72:=Tryz.isAgg87
 z72:=Tryz.sizeOf87
 v72:=Tryz.zeroValue87
 t75:=Tryz.underlying190
 a75:=Tryz.isAgg190
 z75:=Tryz.sizeOf190
 v75:=Tryz.zeroValue190
 t76:=Tryz.underlying191
 a76:=Tryz.isAgg191
 z76:=Tryz.sizeOf191
 v76:=Tryz.zeroValue191
 t127:=Tryz.underlying129
 a127:=Tryz.isAgg129
 z127:=Tryz.sizeOf129
 v127:=Tryz.zeroValue129
 t164:=Tryz.underlying297
 a164:=Tryz.isAgg297
 z164:=Tryz.sizeOf297
 v164:=Tryz.zeroValue297}
theorem Tryz.Builder_Extra_156:Builder.Extra Tryz.prog Tryz.lays156_ren:={
 sizeBuilder:=by kernel_rfl
 liesBuilder:=by kernel_rfl
 t5:=Tryz.underlying5
 a5:=Tryz.isAgg5
 z5:=Tryz.sizeOf5
 v5:=Tryz.zeroValue5
 infoByte:=by kernel_rfl
 cellsByte:=by kernel_rfl
 sizeByte:=by kernel_rfl
 neB5:=by decide}
open Go.RowKit in
theorem Tryz.strings_Join_none(a:Option Addr)(c:Nat)(sep:ByteArray)(w:World):
  Calls Tryz.prog 59 #[.slice a 0 c,.string sep] w fun e w'=>e = .returned (.string ⟨#[]⟩)/\w'=w:=Any.strings_Join_none Tryz.lays156 Tryz.Builder_Extra_156 a c sep w
open Go.RowKit in
theorem Tryz.strings_Join(bk o c:Nat)(xs:List ByteArray)(sep:ByteArray)(w:World)(hcells:∀(j:Nat) x,xs[j]? = some x->w.cell? ⟨bk,o+j,none⟩=some (.string x))(hbk:bk<w.heap.size)(hN:xs.length<=140737488355328)(hcap:xs.length<=c)(hlen:(Lib.join (xs.map (·.data.toList)) sep.data.toList).length<=140737488355328):
  Calls Tryz.prog 59 #[.slice (some ⟨bk,o,none⟩) xs.length c,.string sep] w fun e w'=>e = .returned (.string ⟨(Lib.join (xs.map (·.data.toList)) sep.data.toList).toArray⟩)/\Below w.heap.size w w':=Any.strings_Join Tryz.lays156 Tryz.Builder_Extra_156 bk o c xs sep w hcells hbk hN hcap hlen
def Tryz.lays106_ren:Go.Shelf.Ren:=⟨fun|106=>23|213=>43|265=>90|n=>n,fun|9=>9|3=>3|n=>n,fun|n=>n⟩
theorem Tryz.lays106:Go.Proofs.Lays.n106 Tryz.prog Tryz.lays106_ren:={
 mixed:=by kernel_rfl
 f106:=Fq Tryz.func23
 f213:=Fq Tryz.func43
 f265:=Fq Tryz.func90
 t3:=Tryz.underlying3
 a3:=Tryz.isAgg3
 z3:=Tryz.sizeOf3
 v3:=Tryz.zeroValue3
 t9:=Tryz.underlying9
 a9:=Tryz.isAgg9
 z9:=Tryz.sizeOf9
 v9:=Tryz.zeroValue9}
open Go.RowKit in
theorem Tryz.strings_Compare(a b:ByteArray)(w:World):
  Calls Tryz.prog 23 #[.string a,.string b] w fun e w'=>e = .returned (.int .i64 (Lib.compareBytes a.data.toList b.data.toList))/\w'=w:=Any.strings_Compare Tryz.lays106 a b w
def Tryz.lays137_ren:Go.Shelf.Ren:=⟨fun|137=>131|217=>198|266=>234|n=>n,fun|9=>9|5=>5|3=>3|n=>n,fun|n=>n⟩
theorem Tryz.lays137:Go.Proofs.Lays.n137 Tryz.prog Tryz.lays137_ren:={
 mixed:=by kernel_rfl
 f137:=Fq Tryz.func131
 f217:=Fq Tryz.func198
 f266:=Fq Tryz.func234
 t3:=Tryz.underlying3
 a3:=Tryz.isAgg3
 z3:=Tryz.sizeOf3
 v3:=Tryz.zeroValue3
 t5:=Tryz.underlying5
 a5:=Tryz.isAgg5
 z5:=Tryz.sizeOf5
 v5:=Tryz.zeroValue5
 t9:=Tryz.underlying9
 a9:=Tryz.isAgg9
 z9:=Tryz.sizeOf9
 v9:=Tryz.zeroValue9}
open Go.RowKit in
theorem Tryz.strings_IndexByte(s:ByteArray)(c:Int)(w:World):
  Calls Tryz.prog 131 #[.string s,.int .u8 c] w fun e w'=>e = .returned (.int .i64 (Lib.indexByte s.data.toList c.toNat.toUInt8))/\w'=w:=Any.strings_IndexByte Tryz.lays137 s c w
def Tryz.laysM171_ren:Go.Shelf.Ren:=⟨fun|171=>113|243=>184|246=>227|283=>251|284=>252|285=>253|286=>254|129=>89|317=>278|318=>279|319=>280|320=>281|337=>300|338=>301|n=>n,fun|3=>3|9=>9|2=>2|4=>4|171=>316|0=>0|53=>171|37=>85|5=>5|173=>318|212=>348|51=>169|20=>20|213=>349|46=>110|232=>384|233=>385|n=>n,fun|17=>3|18=>4|19=>5|n=>n⟩
theorem Tryz.laysM171:Go.Proofs.LaysM.n171 Tryz.prog Tryz.laysM171_ren:={
 mixed:=by kernel_rfl
 f129:=Fq Tryz.func89
 f171:=Fq Tryz.func113
 f243:=Fq Tryz.func184
 f246:=Fq Tryz.func227
 f283:=Fq Tryz.func251
 f284:=Fq Tryz.func252
 f285:=Fq Tryz.func253
 f286:=Fq Tryz.func254
 f317:=Fq Tryz.func278
 f318:=Fq Tryz.func279
 f319:=Fq Tryz.func280
 f320:=Fq Tryz.func281
 f337:=Fq Tryz.func300
 f338:=Fq Tryz.func301
 t0:=Tryz.underlying0
 a0:=Tryz.isAgg0
 z0:=Tryz.sizeOf0
 v0:=Tryz.zeroValue0
 t2:=Tryz.underlying2
 a2:=Tryz.isAgg2
 z2:=Tryz.sizeOf2
 v2:=Tryz.zeroValue2
 t3:=Tryz.underlying3
 a3:=Tryz.isAgg3
 z3:=Tryz.sizeOf3
 v3:=Tryz.zeroValue3
 t4:=Tryz.underlying4
 a4:=Tryz.isAgg4
 z4:=Tryz.sizeOf4
 v4:=Tryz.zeroValue4
 t5:=Tryz.underlying5
 a5:=Tryz.isAgg5
 z5:=Tryz.sizeOf5
 v5:=Tryz.zeroValue5
 t9:=Tryz.underlying9
 a9:=Tryz.isAgg9
 z9:=Tryz.sizeOf9
 v9:=Tryz.zeroValue9
 t20:=Tryz.underlying20
 a20:=Tryz.isAgg20
 z20:=Tryz.sizeOf20
 v20:=Tryz.zeroValue20
 t37:=Tryz.underlying85
 a37:=Tryz.isAgg85
 z37:=Tryz.sizeOf85
 v37:=Tryz.zeroValue85
 t46:=Tryz.underlying110
 a46:=Tryz.isAgg110
 z46:=Tryz.sizeOf110
 v46:=Tryz.zeroValue110
 t51:=Tryz.underlying169
 a51:=Tryz.isAgg169
 z51:=Tryz.sizeOf169
 v51:=Tryz.zeroValue169
 t53:=Tryz.underlying171
 a53:=Tryz.isAgg171
 z53:=Tryz.sizeOf171
 v53:=Tryz.zeroValue171
 t171:=Tryz.underlying316
 a171:=Tryz.isAgg316
 z171:=Tryz.sizeOf316
 v171:=Tryz.zeroValue316
 t173:=Tryz.underlying318
 a173:=Tryz.isAgg318
 z173:=Tryz.sizeOf318
 v173:=Tryz.zeroValue318
 t212:=Tryz.underlying348
 a212:=Tryz.isAgg348
 z212:=Tryz.sizeOf348
 v212:=Tryz.zeroValue348
 t213:=Tryz.underlying349
 a213:=Tryz.isAgg349
 z213:=Tryz.sizeOf349
 t232:=Tryz.underlying384
 a232:=Tryz.isAgg384
 z232:=Tryz.sizeOf384
 v232:=Tryz.zeroValue384
 t233:=Tryz.underlying385
 a233:=Tryz.isAgg385
 z233:=Tryz.sizeOf385
 v233:=Tryz.zeroValue385
 g17:=by kernel_rfl
 g18:=by kernel_rfl
 g19:=by kernel_rfl
 i0:=by kernel_rfl
 i2:=by kernel_rfl
 i3:=by kernel_rfl
 i4:=by kernel_rfl
 i5:=by kernel_rfl
 i9:=by kernel_rfl
 i20:=by kernel_rfl
 i37:=by kernel_rfl
 i46:=by kernel_rfl
 i51:=by kernel_rfl
 i53:=by kernel_rfl
 i171:=by kernel_rfl
 i173:=by kernel_rfl
 i212:=by kernel_rfl
 i232:=by kernel_rfl
 i233:=by kernel_rfl
 m17:=by kernel_rfl
 m18:=by kernel_rfl
 m19:=by kernel_rfl}
open Go.RowKit Go.Sort Go.Lib in
theorem Tryz.strconv_Itoa(n:Int)(h0:-9223372036854775808<=n)(h1:n<=9223372036854775807)(w:World)(htab:Lib.TabIs Tryz.prog w "internal/strconv.uint64pow10" .u64 Lib.pow10Tab):
  Calls Tryz.prog 113 #[.int .i64 n] w fun e w'=>e = .returned (.string ⟨(Lib.itoa n).toArray⟩)/\∃k os,w'=grow (w.drewN k) os:=Any.strconv_Itoa Tryz.laysM171 n h0 h1 w htab
def Tryz.lays138_ren:Go.Shelf.Ren:=⟨fun|138=>171|195=>217|218=>219|143=>172|219=>220|217=>198|225=>246|224=>247|267=>248|266=>234|314=>276|n=>n,fun|9=>9|3=>3|4=>4|5=>5|0=>0|46=>110|146=>265|51=>169|n=>n,fun|1=>0|n=>n⟩
theorem Tryz.lays138:Go.Proofs.Lays.n138 Tryz.prog Tryz.lays138_ren:={
 mixed:=by kernel_rfl
 f138:=Fq Tryz.func171
 f143:=Fq Tryz.func172
 f195:=Fq Tryz.func217
 f217:=Fq Tryz.func198
 f218:=Fq Tryz.func219
 f219:=Fq Tryz.func220
 f224:=Fq Tryz.func247
 f225:=Fq Tryz.func246
 f266:=Fq Tryz.func234
 f267:=Fq Tryz.func248
 f314:=Fq Tryz.func276
 t0:=Tryz.underlying0
 a0:=Tryz.isAgg0
 z0:=Tryz.sizeOf0
 v0:=Tryz.zeroValue0
 t3:=Tryz.underlying3
 a3:=Tryz.isAgg3
 z3:=Tryz.sizeOf3
 v3:=Tryz.zeroValue3
 t4:=Tryz.underlying4
 a4:=Tryz.isAgg4
 z4:=Tryz.sizeOf4
 v4:=Tryz.zeroValue4
 t5:=Tryz.underlying5
 a5:=Tryz.isAgg5
 z5:=Tryz.sizeOf5
 v5:=Tryz.zeroValue5
 t9:=Tryz.underlying9
 a9:=Tryz.isAgg9
 z9:=Tryz.sizeOf9
 v9:=Tryz.zeroValue9
 t46:=Tryz.underlying110
 a46:=Tryz.isAgg110
 z46:=Tryz.sizeOf110
 v46:=Tryz.zeroValue110
 t51:=Tryz.underlying169
 a51:=Tryz.isAgg169
 z51:=Tryz.sizeOf169
 v51:=Tryz.zeroValue169
 t146:=Tryz.underlying265
 a146:=Tryz.isAgg265
 z146:=Tryz.sizeOf265
 v146:=Tryz.zeroValue265
 g1:=by kernel_rfl}
open Go.RowKit Go.Lib in
theorem Tryz.strings_Count_one(s:ByteArray)(c:UInt8)(w:World):
  Calls Tryz.prog 171 #[.string s,.string ⟨#[c]⟩] w fun e w'=>e = .returned (.int .i64 (Lib.countByte s.data.toList c))/\w'=w:=Any.strings_Count_one Tryz.lays138 s c w
def Tryz.laysM143_ren:Go.Shelf.Ren:=⟨fun|143=>172|219=>220|217=>198|225=>246|224=>247|267=>248|266=>234|314=>276|n=>n,fun|9=>9|3=>3|4=>4|5=>5|46=>110|146=>265|51=>169|n=>n,fun|1=>0|n=>n⟩
theorem Tryz.laysM143:Go.Proofs.LaysM.n143 Tryz.prog Tryz.laysM143_ren:={
 mixed:=by kernel_rfl
 f143:=Fq Tryz.func172
 f217:=Fq Tryz.func198
 f219:=Fq Tryz.func220
 f224:=Fq Tryz.func247
 f225:=Fq Tryz.func246
 f266:=Fq Tryz.func234
 f267:=Fq Tryz.func248
 f314:=Fq Tryz.func276
 t3:=Tryz.underlying3
 a3:=Tryz.isAgg3
 z3:=Tryz.sizeOf3
 v3:=Tryz.zeroValue3
 t4:=Tryz.underlying4
 a4:=Tryz.isAgg4
 z4:=Tryz.sizeOf4
 v4:=Tryz.zeroValue4
 t5:=Tryz.underlying5
 a5:=Tryz.isAgg5
 z5:=Tryz.sizeOf5
 v5:=Tryz.zeroValue5
 t9:=Tryz.underlying9
 a9:=Tryz.isAgg9
 z9:=Tryz.sizeOf9
 v9:=Tryz.zeroValue9
 t46:=Tryz.underlying110
 a46:=Tryz.isAgg110
 z46:=Tryz.sizeOf110
 v46:=Tryz.zeroValue110
 t51:=Tryz.underlying169
 a51:=Tryz.isAgg169
 z51:=Tryz.sizeOf169
 v51:=Tryz.zeroValue169
 t146:=Tryz.underlying265
 a146:=Tryz.isAgg265
 z146:=Tryz.sizeOf265
 v146:=Tryz.zeroValue265
 g1:=by kernel_rfl
 i3:=by kernel_rfl
 i4:=by kernel_rfl
 i5:=by kernel_rfl
 i9:=by kernel_rfl
 i46:=by kernel_rfl
 i51:=by kernel_rfl
 i146:=by kernel_rfl
 m1:=by kernel_rfl
 s1_3:=fun w h=>Go.Proofs.cell_of_shapedOpen_int (zero:=#[.int .i64 0]) (t:=3) h (of_decide_eq_true (by kernel_rfl)) (by kernel_rfl) rfl (by kernel_rfl) (by kernel_rfl) Tryz.underlying3}
def Tryz.lays206_ren:Go.Shelf.Ren:=⟨fun|206=>195|n=>n,fun|9=>9|4=>4|3=>3|n=>n,fun|n=>n⟩
theorem Tryz.lays206:Go.Proofs.Lays.n206 Tryz.prog Tryz.lays206_ren:={
 mixed:=by kernel_rfl
 f206:=Fq Tryz.func195
 t3:=Tryz.underlying3
 a3:=Tryz.isAgg3
 z3:=Tryz.sizeOf3
 v3:=Tryz.zeroValue3
 t4:=Tryz.underlying4
 a4:=Tryz.isAgg4
 z4:=Tryz.sizeOf4
 v4:=Tryz.zeroValue4
 t9:=Tryz.underlying9
 a9:=Tryz.isAgg9
 z9:=Tryz.sizeOf9
 v9:=Tryz.zeroValue9}
open Go.RowKit Go.Lib in
theorem Tryz.stringslite_HasPrefix(s p:ByteArray)(w:World):
  Calls Tryz.prog 195 #[.string s,.string p] w fun e w'=>e = .returned (.bool (Lib.hasPrefix s.data.toList p.data.toList))/\w'=w:=Any.stringslite_HasPrefix Tryz.lays206 s p w
def Tryz.lays99_ren:Go.Shelf.Ren:=⟨fun|99=>128|206=>195|n=>n,fun|9=>9|4=>4|3=>3|n=>n,fun|n=>n⟩
theorem Tryz.lays99:Go.Proofs.Lays.n99 Tryz.prog Tryz.lays99_ren:={
 mixed:=by kernel_rfl
 f99:=Fq Tryz.func128
 f206:=Fq Tryz.func195
 t3:=Tryz.underlying3
 a3:=Tryz.isAgg3
 z3:=Tryz.sizeOf3
 v3:=Tryz.zeroValue3
 t4:=Tryz.underlying4
 a4:=Tryz.isAgg4
 z4:=Tryz.sizeOf4
 v4:=Tryz.zeroValue4
 t9:=Tryz.underlying9
 a9:=Tryz.isAgg9
 z9:=Tryz.sizeOf9
 v9:=Tryz.zeroValue9}
open Go.RowKit Go.Lib in
theorem Tryz.strings_HasPrefix(s p:ByteArray)(w:World):
  Calls Tryz.prog 128 #[.string s,.string p] w fun e w'=>e = .returned (.bool (Lib.hasPrefix s.data.toList p.data.toList))/\w'=w:=Any.strings_HasPrefix Tryz.lays99 s p w
def Tryz.lays146_ren:Go.Shelf.Ren:=⟨fun|146=>49|221=>94|268=>170|138=>171|143=>172|195=>217|197=>218|218=>219|219=>220|260=>245|217=>198|225=>246|224=>247|267=>248|266=>234|314=>276|n=>n,fun|9=>9|31=>42|3=>3|4=>4|0=>0|105=>290|21=>21|5=>5|46=>110|119=>328|139=>344|138=>343|146=>265|51=>169|n=>n,fun|1=>0|3=>1|4=>2|n=>n⟩
theorem Tryz.lays146:Go.Proofs.Lays.n146 Tryz.prog Tryz.lays146_ren:={
 mixed:=by kernel_rfl
 f138:=Fq Tryz.func171
 f143:=Fq Tryz.func172
 f146:=Fq Tryz.func49
 f195:=Fq Tryz.func217
 f197:=Fq Tryz.func218
 f217:=Fq Tryz.func198
 f218:=Fq Tryz.func219
 f219:=Fq Tryz.func220
 f221:=Fq Tryz.func94
 f224:=Fq Tryz.func247
 f225:=Fq Tryz.func246
 f260:=Fq Tryz.func245
 f266:=Fq Tryz.func234
 f267:=Fq Tryz.func248
 f268:=Fq Tryz.func170
 f314:=Fq Tryz.func276
 t0:=Tryz.underlying0
 a0:=Tryz.isAgg0
 z0:=Tryz.sizeOf0
 v0:=Tryz.zeroValue0
 t3:=Tryz.underlying3
 a3:=Tryz.isAgg3
 z3:=Tryz.sizeOf3
 v3:=Tryz.zeroValue3
 t4:=Tryz.underlying4
 a4:=Tryz.isAgg4
 z4:=Tryz.sizeOf4
 v4:=Tryz.zeroValue4
 t5:=Tryz.underlying5
 a5:=Tryz.isAgg5
 z5:=Tryz.sizeOf5
 v5:=Tryz.zeroValue5
 t9:=Tryz.underlying9
 a9:=Tryz.isAgg9
 z9:=Tryz.sizeOf9
 v9:=Tryz.zeroValue9
 t21:=Tryz.underlying21
 a21:=Tryz.isAgg21
 z21:=Tryz.sizeOf21
 v21:=Tryz.zeroValue21
 t31:=Tryz.underlying42
 a31:=Tryz.isAgg42
 z31:=Tryz.sizeOf42
 v31:=Tryz.zeroValue42
 t46:=Tryz.underlying110
 a46:=Tryz.isAgg110
 z46:=Tryz.sizeOf110
 v46:=Tryz.zeroValue110
 t51:=Tryz.underlying169
 a51:=Tryz.isAgg169
 z51:=Tryz.sizeOf169
 v51:=Tryz.zeroValue169
 t105:=Tryz.underlying290
 a105:=Tryz.isAgg290
 z105:=Tryz.sizeOf290
 v105:=Tryz.zeroValue290
 t119:=Tryz.underlying328
 a119:=Tryz.isAgg328
 z119:=Tryz.sizeOf328
 t138:=Tryz.underlying343
 a138:=Tryz.isAgg343
 z138:=Tryz.sizeOf343
 v138:=Tryz.zeroValue343
 t139:=Tryz.underlying344
 a139:=Tryz.isAgg344
 z139:=Tryz.sizeOf344
 v139:=Tryz.zeroValue344
 t146:=Tryz.underlying265
 a146:=Tryz.isAgg265
 z146:=Tryz.sizeOf265
 v146:=Tryz.zeroValue265
 g1:=by kernel_rfl
 g3:=by kernel_rfl
 g4:=by kernel_rfl}
open Go.RowKit Go.Lib in
theorem Tryz.strings_Split(s sep:ByteArray)(m:Int)(w:World)(hs:s.size<4294967281)(hm:w.cell? ⟨0,0,none⟩=some (.int .i64 m))(h1:1<=sep.size):
  Calls Tryz.prog 49 #[.string s,.string sep] w fun e w'=>
   e = .returned (.slice (some ⟨w.heap.size,0,none⟩) (Lib.countB s sep+1) (Lib.countB s sep+1))/\w'=w.alloc (.cells ((Lib.splitB sep 0 (Lib.countB s sep) s).map Value.string).toArray 9):=Any.strings_Split Tryz.lays146 (by kernel_rfl) s sep m w hs hm h1
def Tryz.lays155_ren:Go.Shelf.Ren:=⟨fun|155=>130|154=>197|138=>171|165=>115|143=>172|166=>110|197=>218|169=>30|195=>217|218=>219|240=>183|241=>185|219=>220|260=>245|276=>226|277=>228|217=>198|225=>246|224=>247|267=>248|266=>234|314=>276|n=>n,fun|9=>9|3=>3|4=>4|72=>87|0=>0|76=>191|105=>290|21=>21|5=>5|70=>84|20=>20|37=>85|75=>190|127=>129|164=>297|46=>110|119=>328|139=>344|138=>343|146=>265|51=>169|80=>92|n=>n,fun|1=>0|3=>1|4=>2|n=>n⟩
theorem Tryz.lays155:Go.Proofs.Lays.n155 Tryz.prog Tryz.lays155_ren:={
 mixed:=by kernel_rfl
 f138:=Fq Tryz.func171
 f143:=Fq Tryz.func172
 f154:=Fq Tryz.func197
 f155:=Fq Tryz.func130
 f165:=Fq Tryz.func115
 f166:=Fq Tryz.func110
 f169:=Fq Tryz.func30
 f195:=Fq Tryz.func217
 f197:=Fq Tryz.func218
 f217:=Fq Tryz.func198
 f218:=Fq Tryz.func219
 f219:=Fq Tryz.func220
 f224:=Fq Tryz.func247
 f225:=Fq Tryz.func246
 f240:=Fq Tryz.func183
 f241:=Fq Tryz.func185
 f260:=Fq Tryz.func245
 f266:=Fq Tryz.func234
 f267:=Fq Tryz.func248
 f276:=Fq Tryz.func226
 f277:=Fq Tryz.func228
 f314:=Fq Tryz.func276
 t0:=Tryz.underlying0
 a0:=Tryz.isAgg0
 z0:=Tryz.sizeOf0
 v0:=Tryz.zeroValue0
 t3:=Tryz.underlying3
 a3:=Tryz.isAgg3
 z3:=Tryz.sizeOf3
 v3:=Tryz.zeroValue3
 t4:=Tryz.underlying4
 a4:=Tryz.isAgg4
 z4:=Tryz.sizeOf4
 v4:=Tryz.zeroValue4
 t5:=Tryz.underlying5
 a5:=Tryz.isAgg5
 z5:=Tryz.sizeOf5
 v5:=Tryz.zeroValue5
 t9:=Tryz.underlying9
 a9:=Tryz.isAgg9
 z9:=Tryz.sizeOf9
 v9:=Tryz.zeroValue9
 t20:=Tryz.underlying20
 a20:=Tryz.isAgg20
 z20:=Tryz.sizeOf20
 v20:=Tryz.zeroValue20
 t21:=Tryz.underlying21
 a21:=Tryz.isAgg21
 z21:=Tryz.sizeOf21
 v21:=Tryz.zeroValue21
 t37:=Tryz.underlying85
 a37:=Tryz.isAgg85
 z37:=Tryz.sizeOf85
 v37:=Tryz.zeroValue85
 t46:=Tryz.underlying110
 a46:=Tryz.isAgg110
 z46:=Tryz.sizeOf110
 v46:=Tryz.zeroValue110
 t51:=Tryz.underlying169
 a51:=Tryz.isAgg169
 z51:=Tryz.sizeOf169
 v51:=Tryz.zeroValue169
 t70:=Tryz.underlying84
 a70:=Tryz.isAgg84
 z70:=Tryz.sizeOf84
 v70:=Tryz.zeroValue84
 t72:=Tryz.underlying87
 a72:=Tryz.isAgg87
 z72:=Tryz.sizeOf87
 v72:=Tryz.zeroValue87
 t75:=Tryz.underlying190
 a75:=Tryz.isAgg190
 z75:=Tryz.sizeOf190
 v75:=Tryz.zeroValue190
 t76:=Tryz.underlying191
 a76:=Tryz.isAgg191
 z76:=Tryz.sizeOf191
 v76:=Tryz.zeroValue191
 t105:=Tryz.underlying290
 a105:=Tryz.isAgg290
 z105:=Tryz.sizeOf290
 v105:=Tryz.zeroValue290
 t119:=Tryz.underlying328
 a119:=Tryz.isAgg328
 z119:=Tryz.sizeOf328
 t127:=Tryz.underlying129
 a127:=Tryz.isAgg129
 z127:=Tryz.sizeOf129
 v127:=Tryz.zeroValue129
 t138:=Tryz.underlying343
 a138:=Tryz.isAgg343
 z138:=Tryz.sizeOf343
 v138:=Tryz.zeroValue343
 t139:=Tryz.underlying344
 a139:=Tryz.isAgg344
 z139:=Tryz.sizeOf344
 v139:=Tryz.zeroValue344
 t146:=Tryz.underlying265
 a146:=Tryz.isAgg265
 z146:=Tryz.sizeOf265
 v146:=Tryz.zeroValue265
 t164:=Tryz.underlying297
 a164:=Tryz.isAgg297
 z164:=Tryz.sizeOf297
 v164:=Tryz.zeroValue297
 g1:=by kernel_rfl
 g3:=by kernel_rfl
 g4:=by kernel_rfl}
theorem Tryz.Builder_Extra_155:Builder.Extra Tryz.prog Tryz.lays155_ren:={
 sizeBuilder:=by kernel_rfl
 liesBuilder:=by kernel_rfl
 t5:=Tryz.underlying5
 a5:=Tryz.isAgg5
 z5:=Tryz.sizeOf5
 v5:=Tryz.zeroValue5
 infoByte:=by kernel_rfl
 cellsByte:=by kernel_rfl
 sizeByte:=by kernel_rfl
 neB5:=by decide}
open Go.RowKit Go.Lib in
theorem Tryz.strings_ReplaceAll(s old new:ByteArray)(m:Int)(w:World)(hs:s.size<4294967281)(hm:w.cell? ⟨0,0,none⟩=some (.int .i64 m))(h1:1<=old.size)(hlen:s.size+Lib.countB s old*new.size<=140737488355328):
  Calls Tryz.prog 130 #[.string s,.string old,.string new] w fun e w'=>
   e = .returned (.string ⟨(Lib.replaceAll s.data.toList old.data.toList new.data.toList).toArray⟩)/\Below w.heap.size w w':=Any.strings_ReplaceAll Tryz.lays155 Tryz.Builder_Extra_155 s old new m w hs hm h1 hlen
def Tryz.lays105_ren:Go.Shelf.Ren:=⟨fun|105=>67|212=>127|99=>128|165=>115|166=>110|170=>29|169=>30|263=>193|264=>194|206=>195|240=>183|241=>185|276=>226|277=>228|n=>n,fun|9=>9|3=>3|4=>4|20=>20|0=>0|46=>110|109=>202|5=>5|72=>87|76=>191|51=>169|146=>265|53=>171|148=>267|70=>84|37=>85|75=>190|127=>129|164=>297|80=>92|n=>n,fun|n=>n⟩
theorem Tryz.lays105:Go.Proofs.Lays.n105 Tryz.prog Tryz.lays105_ren:={
 mixed:=by kernel_rfl
 f99:=Fq Tryz.func128
 f105:=Fq Tryz.func67
 f165:=Fq Tryz.func115
 f166:=Fq Tryz.func110
 f169:=Fq Tryz.func30
 f170:=Fq Tryz.func29
 f206:=Fq Tryz.func195
 f212:=Fq Tryz.func127
 f240:=Fq Tryz.func183
 f241:=Fq Tryz.func185
 f263:=Fq Tryz.func193
 f264:=Fq Tryz.func194
 f276:=Fq Tryz.func226
 f277:=Fq Tryz.func228
 t0:=Tryz.underlying0
 a0:=Tryz.isAgg0
 z0:=Tryz.sizeOf0
 v0:=Tryz.zeroValue0
 t3:=Tryz.underlying3
 a3:=Tryz.isAgg3
 z3:=Tryz.sizeOf3
 v3:=Tryz.zeroValue3
 t4:=Tryz.underlying4
 a4:=Tryz.isAgg4
 z4:=Tryz.sizeOf4
 v4:=Tryz.zeroValue4
 t5:=Tryz.underlying5
 a5:=Tryz.isAgg5
 z5:=Tryz.sizeOf5
 v5:=Tryz.zeroValue5
 t9:=Tryz.underlying9
 a9:=Tryz.isAgg9
 z9:=Tryz.sizeOf9
 v9:=Tryz.zeroValue9
 t20:=Tryz.underlying20
 a20:=Tryz.isAgg20
 z20:=Tryz.sizeOf20
 v20:=Tryz.zeroValue20
 t37:=Tryz.underlying85
 a37:=Tryz.isAgg85
 z37:=Tryz.sizeOf85
 v37:=Tryz.zeroValue85
 t46:=Tryz.underlying110
 a46:=Tryz.isAgg110
 z46:=Tryz.sizeOf110
 v46:=Tryz.zeroValue110
 t51:=Tryz.underlying169
 a51:=Tryz.isAgg169
 z51:=Tryz.sizeOf169
 v51:=Tryz.zeroValue169
 t53:=Tryz.underlying171
 a53:=Tryz.isAgg171
 z53:=Tryz.sizeOf171
 v53:=Tryz.zeroValue171
 t70:=Tryz.underlying84
 a70:=Tryz.isAgg84
 z70:=Tryz.sizeOf84
 v70:=Tryz.zeroValue84
 t72:=Tryz.underlying87
 a72:=Tryz.isAgg87
 z72:=Tryz.sizeOf87
 v72:=Tryz.zeroValue87
 t75:=Tryz.underlying190
 a75:=Tryz.isAgg190
 z75:=Tryz.sizeOf190
 v75:=Tryz.zeroValue190
 t76:=Tryz.underlying191
 a76:=Tryz.isAgg191
 z76:=Tryz.sizeOf191
 v76:=Tryz.zeroValue191
 t109:=Tryz.underlying202
 a109:=Tryz.isAgg202
 z109:=Tryz.sizeOf202
 v109:=Tryz.zeroValue202
 t127:=Tryz.underlying129
 a127:=Tryz.isAgg129
 z127:=Tryz.sizeOf129
 v127:=Tryz.zeroValue129
 t146:=Tryz.underlying265
 a146:=Tryz.isAgg265
 z146:=Tryz.sizeOf265
 v146:=Tryz.zeroValue265
 t148:=Tryz.underlying267
 a148:=Tryz.isAgg267
 z148:=Tryz.sizeOf267
 v148:=Tryz.zeroValue267
 t164:=Tryz.underlying297
 a164:=Tryz.isAgg297
 z164:=Tryz.sizeOf297
 v164:=Tryz.zeroValue297}
theorem Tryz.Builder_Extra_105:Builder.Extra Tryz.prog Tryz.lays105_ren:={
 sizeBuilder:=by kernel_rfl
 liesBuilder:=by kernel_rfl
 t5:=Tryz.underlying5
 a5:=Tryz.isAgg5
 z5:=Tryz.sizeOf5
 v5:=Tryz.zeroValue5
 infoByte:=by kernel_rfl
 cellsByte:=by kernel_rfl
 sizeByte:=by kernel_rfl
 neB5:=by decide}
open Go.RowKit Go.Lib in
theorem Tryz.strings_Repeat(s:ByteArray)(c:Nat)(w:World)(hc:c<=9223372036854775807)(hlen:s.size*c<=140737488355328):
  Calls Tryz.prog 67 #[.string s,.int .i64 c] w fun e w'=>e = .returned (.string ⟨(Lib.repeatL s.data.toList c).toArray⟩)/\Below w.heap.size w w':=Any.strings_Repeat Tryz.lays105 Tryz.Builder_Extra_105 s c w hc hlen
def Tryz.lays194_ren:Go.Shelf.Ren:=⟨fun|194=>46|n=>n,fun|31=>42|9=>9|3=>3|4=>4|0=>0|n=>n,fun|n=>n⟩
theorem Tryz.lays194:Go.Proofs.Lays.n194 Tryz.prog Tryz.lays194_ren:={
 mixed:=by kernel_rfl
 f194:=Fq Tryz.func46
 t0:=Tryz.underlying0
 a0:=Tryz.isAgg0
 z0:=Tryz.sizeOf0
 v0:=Tryz.zeroValue0
 t3:=Tryz.underlying3
 a3:=Tryz.isAgg3
 z3:=Tryz.sizeOf3
 v3:=Tryz.zeroValue3
 t4:=Tryz.underlying4
 a4:=Tryz.isAgg4
 z4:=Tryz.sizeOf4
 v4:=Tryz.zeroValue4
 t9:=Tryz.underlying9
 a9:=Tryz.isAgg9
 z9:=Tryz.sizeOf9
 v9:=Tryz.zeroValue9
 t31:=Tryz.underlying42
 a31:=Tryz.isAgg42
 z31:=Tryz.sizeOf42
 v31:=Tryz.zeroValue42}
open Go.RowKit Go.Lib Go.Sort in
theorem Tryz.slices_Compact_string_empty(a:Option Addr)(cap:Nat)(w:World):
  Calls Tryz.prog 46 #[.slice a 0 cap] w fun e w'=>e = .returned (.slice a 0 cap)/\w'=w:=Any.slices_Compact_string_empty Tryz.lays194 a cap w
open Go.RowKit Go.Lib Go.Sort in
theorem Tryz.slices_Compact_string_cells(b off n c:Nat)(Sx:Nat->ByteArray)(w:World)(hbig:n<=9223372036854775807)(hcap:n<=c)(hc:∀i,i<n->w.cell? ⟨b,off+i,none⟩=some (.string (Sx i)))(hf:∀j,j<n->w.frozen? ⟨b,off+j,none⟩=false):
  Calls Tryz.prog 46 #[.slice (some ⟨b,off,none⟩) n c] w fun e w'=>e = .returned (.slice (some ⟨b,off,none⟩) (Lib.compact (Lib.strsOf Sx n)).length c)/\∃q,w'=(w.drewN q).setCells b off ((Lib.compact (Lib.strsOf Sx n)++List.replicate (n-(Lib.compact (Lib.strsOf Sx n)).length) []).map encStr):=Any.slices_Compact_string_cells Tryz.lays194 b off n c Sx w hbig hcap hc hf
end Go.Proofs
namespace Go.Proofs.YtckdohagilcloaaGreatDoor
open Go Go.RowKit Go.Shelf
set_option linter.unusedSimpArgs false
set_option linter.unusedVariables false
section
abbrev g0:Gh:=fun _=>none
theorem Sound.ofExt{P:Program}{G:World->Prop}{B0:Nat}{f:FuncId}{ps rs:List Sl}{R:Type}[BothC R]{out:R->SV rs×BV []}{F:SV ps->BV []->Option R}
  (hcall:∀(args:Array Value) (w:World),(callFunc f args).run P w = .ok (.enter f args) w)
  (h:∀(M:Nat->Nat->Prop) (w:World) (vs:List Value) (x:SV ps) (z:R),G w->(∀b o,M b o->b<w.heap.size)->All2 (RepD0 M w g0) (a0E id ps x) vs->F x ()=some z->
   Calls P f vs.toArray w fun e w'=>∃vs',e = .returned (b12 vs')/\Ext w w'/\All2 (RepD0 M w' g0) (a0E id rs (out z).1) vs'):Sound P G B0 f ⟨ps,[],rs,[],R,out,F⟩:=by
 refine⟨hcall,fun M w g vs x y z hG hB hF hz=>?_⟩;have hg:g=g0:=by
  funext r;cases hr:g r with
  |none=>rfl
  |some gx=>exact absurd (hF.dom r gx hr) (Nat.not_lt_zero _)
 subst hg;have hM:y6 M g0 g0=M:=by
  funext b o;refine propext ⟨fun h=>?_,fun h=> .inl ⟨h,fun⟨_,_,hx,_⟩=>by cases hx⟩⟩;exact h.elim (fun h=>h.1) fun⟨_,_,hx,_⟩=>by cases hx
 refine(h M w vs x z hG hF.mlt hF.args hz).mono fun e w' hp=>?_
 obtain⟨vs',he,hE,hA⟩:=hp;refine⟨vs',g0,he,ExtX.of_ext hE,?_,?_,fun _ _ h _=>(by cases h),fun b hb=> .inl hb⟩
 ·rw[hM];exact Step.ext hE
 ·rw[hM];exact{args:=hA,res:=fun r blk h=>(by cases h),dom:=fun r gx h=>(by cases h),inj:=fun _ _ _ _ _ h=>(by cases h),low:=fun _ _ _ h=>(by cases h),chg:=fun _ _ _ _ h=>(by cases h),mlt:=fun b o h=>Nat.lt_of_lt_of_le (hF.mlt b o h) hE.size,row:=fun _ _ _ h=>(by cases h)}
section
variable{M:Nat->Nat->Prop}{w:World}
theorem RepV.str{x:d3}{v:Value}(h:RepV M w .str x v):v = .string ⟨List.toArray x⟩:=by
 have:=RepV.plain rfl h;have:=(show [v]=[.string ⟨List.toArray x⟩]from this);injection this
theorem RepV.u8{x:UInt8}{v:Value}(h:RepV M w .u8 x v):v = .int .u8 (UInt8.toNat x):=by
 have:=RepV.plain rfl h;have:=(show [v]=[.int .u8 (UInt8.toNat x)]from this);injection this
theorem RepV.int{k:IntKind}{x:Int}{v:Value}(h:RepV M w (.int k) x v):v = .int k x:=by
 have:=RepV.plain rfl h;have:=(show [v]=[.int k x]from this);injection this
theorem b9D(x:d3):RepV M w .str x (.string ⟨List.toArray x⟩):=RepC.toV rfl rfl
theorem c9R(k:IntKind)(x:Int):RepV M w (.int k) x (.int k x):=RepC.toV rfl rfl
theorem RepV.strs{xs:List d3}{v:Value}(h:RepV M w (.sl .str) xs v):∃A c,v = .slice A xs.length c/\xs.length<=c/\c<=maxLen/\(xs ≠ []->∃b o,A=some ⟨b,o,none⟩/\∀j x,xs[j]? = some x->w.cell? ⟨b,o+j,none⟩=some (.string ⟨x.toArray⟩)):=by
 obtain⟨A,c,h1,h2,h3,h4⟩:=RepV.plain (t:= .sl .str) rfl h;injection h1 with h1
 refine⟨A,c,h1,h2,h3,fun hx=>?_⟩;have hat:∀i (h:i<xs.length),∃ad,A=some ad/\w.cell? (ad.add i)=some (.string ⟨xs[i].toArray⟩):=fun i hi=>by
  obtain⟨ad,es,a1,a2,a3⟩:=h4 i hi;have a2':es=[.string ⟨xs[i].toArray⟩]:=a2;subst a2';have:=(a3 0 _ rfl).1;have e:(ad.add (i*Ty.sz .str)).add 0=ad.add i:=by show Addr.add (Addr.add ad (i*1)) 0=_;rw[Nat.mul_one];rfl
  rw[e]at this;exact⟨ad,a1,this⟩
 have hl:0<xs.length:=by cases xs with
  |nil=>exact absurd rfl hx
  |cons=>exact Nat.succ_pos _
 obtain⟨ad,a1,a2⟩:=hat 0 hl;obtain⟨b,o,sp⟩:=ad;have hsp:sp=none:=by
  cases sp with
  |none=>rfl
  |some s=>
   have:w.cell? (⟨b,o,some s⟩:Addr)=none:=by
    unfold World.cell?;split
    ·rfl
    ·rfl
   rw[show Addr.add ⟨b,o,some s⟩ 0=⟨b,o,some s⟩from rfl,this]at a2;cases a2
 subst hsp;refine⟨b,o,a1,fun j x hj=>?_⟩;have hj':j<xs.length:=by
  rcases Nat.lt_or_ge j xs.length with h|h
  ·exact h
  ·rw[List.getElem?_eq_none h]at hj;cases hj
 obtain⟨ad,b1,b2⟩:=hat j hj';rw[a1]at b1;injection b1 with b1
 subst b1;rw[List.getElem?_eq_getElem hj']at hj;injection hj with hj
 subst hj;have e:Addr.add ⟨b,o,none⟩ j=⟨b,o+j,none⟩:=by unfold Addr.add;split<;>simp_all
 rwa [e]at b2
end
end
section
def strings_IndexByte(s:d3)(c:UInt8):Option Int:=some (Lib.indexByte s c)
theorem a7B:Sound Tryz.prog GW x6 131 ⟨[.v .str,.v .u8],[],[.v (.int .i64)],[],Int,fun z=>((z,()),()),fun x _=>strings_IndexByte x.1 x.2.1⟩:=by
 refine Sound.ofExt Tryz.call131 fun M w vs x z hG hM hA hz=>?_
 obtain⟨a,b,u⟩:=x
 match vs,hA with
 |[v1,v2],hA=>
  obtain⟨h1,h2,_⟩:=hA;rw[RepV.str h1,RepV.u8 h2];have e:Lib.indexByte a b=z:=Option.some.inj hz;subst e;refine(Tryz.strings_IndexByte ⟨a.toArray⟩ (UInt8.toNat b) w).mono fun e w' hp=>?_
  obtain⟨rfl,rfl⟩:=hp;refine⟨[_],rfl,Ext.refl _,?_,trivial⟩;have e2:((UInt8.toNat b:Nat):Int).toNat.toUInt8=b:=by simp
  rw[e2];exact c9R .i64 _
def strings_Compare(a b:d3):Option Int:=some (Lib.compareBytes a b)
theorem f00{M:Nat->Nat->Prop}{w w':World}(hM:∀b o,M b o->b<w.heap.size)(xs:List d3)(hl:xs.length<=maxLen)(e:TypeId)
  (hw:w'=w.alloc (.cells (xs.map fun x=>Value.string ⟨x.toArray⟩).toArray e)):RepV M w' (.sl .str) xs (.slice (some ⟨w.heap.size,0,none⟩) xs.length xs.length):=by
 subst hw;refine RepC.toV rfl ⟨some ⟨w.heap.size,0,none⟩,xs.length,rfl,Nat.le_refl _,hl,fun i hi=>⟨⟨w.heap.size,0,none⟩,[.string ⟨xs[i].toArray⟩],rfl,rfl,fun j u hu=>?_⟩⟩;cases j with
 |succ j=>simp at hu
 |zero=>
  simp only[List.getElem?_cons_zero,Option.some.injEq]at hu;subst hu;have e2:(((⟨w.heap.size,0,none⟩:Addr).add (i*Ty.sz .str)).add 0)=⟨w.heap.size,i,none⟩:=by
   show Addr.add (Addr.add _ (i*1)) 0=_;rw[Nat.mul_one];unfold Addr.add;split<;>simp_all
  rw[e2,World.cell?_alloc_new];refine⟨?_,fun hM'=>?_⟩
  ·simp[hi]
  ·exact absurd (hM _ _ hM') (Nat.lt_irrefl _)
def a8T(a b:d3):List d3:=(Lib.splitB ⟨b.toArray⟩ 0 (Lib.countB ⟨a.toArray⟩ ⟨b.toArray⟩) ⟨a.toArray⟩).map fun x=>x.data.toList
def strings_Split(a b:d3):Option (List d3):=if a.length<4294967281/\1<=b.length/\(a8T a b).length=Lib.countB ⟨a.toArray⟩ ⟨b.toArray⟩+1/\(a8T a b).length<=4294967296 then some (a8T a b)else none
theorem b04:Sound Tryz.prog GW x6 49 ⟨[.v .str,.v .str],[],[.v (.sl .str)],[],List d3,fun z=>((z,()),()),fun x _=>strings_Split x.1 x.2.1⟩:=by
 refine Sound.ofExt Tryz.call49 fun M w vs x z hG hM hA hz=>?_
 obtain⟨a,b,u⟩:=x
 match vs,hA with
 |[v1,v2],hA=>
  obtain⟨h1,h2,_⟩:=hA;rw[RepV.str h1,RepV.str h2];change strings_Split a b=some z at hz;unfold strings_Split at hz;split at hz
  ·rename_i hc;injection hz with hz
   subst hz;obtain⟨m,hm⟩:=hG.len;refine(Tryz.strings_Split ⟨a.toArray⟩ ⟨b.toArray⟩ m w hc.1 hm hc.2.1).mono fun e w' hp=>?_
   obtain⟨rfl,hw⟩:=hp;have hmap:(Lib.splitB ⟨b.toArray⟩ 0 (Lib.countB ⟨a.toArray⟩ ⟨b.toArray⟩) ⟨a.toArray⟩).map Value.string=(a8T a b).map fun x=>Value.string ⟨x.toArray⟩:=by
    unfold a8T;rw[List.map_map];rfl
   rw[hmap]at hw;rw[<-hc.2.2.1];exact⟨[_],rfl,hw▸(Ext.refl w).alloc _,f00 hM _ (Nat.le_trans hc.2.2.2 (by decide)) _ hw,trivial⟩
  ·cases hz
end
section

end
section
def Els(M:Nat->Nat->Prop)(w:World)(t:Ty)(xs:List t.den)(cs:List Value):Prop:=∀i (h:i<xs.length),RepC M w t xs[i] ((cs.drop (i*t.sz)).take t.sz)
def e3n(b:Bool):List Sl:=match b with|true=>[.row 0]|false=>[]
def e97:(b:Bool)->SV (e3n b)|true=>((),())|false=>()
def e96(b:Bool)(v:Value):Value:=match b with|true=>v|false=> .tuple #[]
def e95(b:Bool)(v:Value):List Value:=match b with|true=>[v]|false=>[]
theorem d32{w:World}{base:Nat}{e:TypeId}{sz:Nat}{v:Value}{n:Nat}{cs:List Value}(h:w.ownsRow base e sz v n cs){b:Nat}(hb:v.ownBlock=some b):b<w.heap.size:=by
 rcases h.2 with⟨e1,_⟩|⟨g,cap,cur,e1,_,hg,_⟩
 ·rw[e1]at hb;cases hb
 ·rw[e1]at hb;simp only[Value.ownBlock,Option.some.injEq]at hb;subst hb;exact z8 hg
theorem ExtX.mono{X Y:Nat->Prop}{w w':World}(h:ExtX X w w')(hX:∀k,X k->Y k):ExtX Y w w':=⟨h.os,h.tape,h.output,h.size,fun k hk hy=>h.block k hk fun hx=>hy (hX k hx)⟩
theorem Sound.ofRow{P:Program}{G:World->Prop}{B0:Nat}{f:FuncId}{ps:List Sl}{e:TypeId}{t:Ty}(back:Bool){F:SV ps->List t.den->Option (List t.den)}
  (hcall:∀(args:Array Value) (w:World),(callFunc f args).run P w = .ok (.enter f args) w) (hz:0<t.sz)
  (h:∀(M:Nat->Nat->Prop) (w:World) (g:Gh) (v0:Value) (vs:List Value) (x:SV ps) (xs zs:List t.den) (cs:List Value),G w->(∀b o,M b o->b<w.heap.size)->(∀b,v0.ownBlock=some b->∀o,M b o)->
   w.ownsRow 0 e t.sz v0 xs.length cs->Els M w t xs cs->All2 (RepD0 M w g) (a0E id ps x) vs->F x xs=some zs->
   Calls P f (v0 :: vs).toArray w fun en w'=>∃v' cs',en = .returned (e96 back v')/\(back=false->v'=v0)/\ExtX (fun b=>v0.ownBlock=some b) w w'/\
    w'.ownsRow 0 e t.sz v' zs.length cs'/\Els M w t zs cs'/\∀b,v'.ownBlock=some b->v0.ownBlock=some b\/w.heap.size<=b):
  Sound P G B0 f ⟨.row 0 :: ps,[.row e t true],e3n back,[.row e t true],List t.den,fun z=>(e97 back,z,()),fun x y=>F x.2 y.1⟩:=by
 refine⟨hcall,fun M w g vs0 x y zs hG hB hF hz'=>?_⟩;obtain⟨_,x⟩:=x;obtain⟨xs,_⟩:=y
 match vs0,hF.args with
 |v0 :: vs,⟨h0,hA⟩=>
  obtain⟨gx,A,n,c,hg0,hv,hv2⟩:=h0;obtain⟨gx',hg',_,cs,hown,hblk,hlo,hels⟩:=hF.res 0 (.row e t true xs) rfl;replace hg0:g 0=some gx:=hg0;rw[hg']at hg0;cases hg0;have hlo:gx.lo=0:=hlo;rw[<-hv]at hown hblk;have hM:∀b,v0.ownBlock=some b->∀o,M b o:=fun b hb o=>(hF.chg 0 gx b o hg' (by rw[hblk];exact hb)).2 (by rw[hlo];exact Nat.zero_le _)
  have honly:∀r gy,g r=some gy->r=0:=fun r gy hr=>by have:=hF.dom r gy hr;exact Nat.lt_one_iff.1 this
  have hX:∀b,Z4 g b↔v0.ownBlock=some b:=fun b=>by
   constructor
   ·rintro⟨r,gy,hr,hb⟩;obtain rfl:=honly r gy hr;rw[hg']at hr;cases hr;rw[<-hblk];exact hb
   ·intro hb;exact⟨0,gx,hg',by rw[hblk];exact hb⟩
  refine(h M w g v0 vs x xs zs cs hG hF.mlt hM hown hels hA hz').mono fun en w' hp=>?_
  obtain⟨v',cs',he,hsame,hE,hown',hels',hblk'⟩:=hp;obtain⟨g',hgd⟩:∃g':Gh,g'=fun r=>if r=0 then some ⟨v'.ownBlock,0,v'⟩else none:=⟨_,rfl⟩
  have hg0':g' 0=some ⟨v'.ownBlock,0,v'⟩:=by rw[hgd];rfl
  have hgo:∀r gy,g' r=some gy->r=0/\gy=⟨v'.ownBlock,0,v'⟩:=fun r gy hr=>by
   rw[hgd]at hr;by_cases h0:r=0
   ·subst h0;simp at hr;exact⟨rfl,hr.symm⟩
   ·simp[h0]at hr
  have hnew:∀b o,y6 M g g' b o->(M b o/\v0.ownBlock≠some b)\/v'.ownBlock=some b:=fun b o hm=>by
   rcases hm with⟨hm,hx⟩|⟨r,gy,hr,hb,_⟩
   ·exact .inl ⟨hm,fun hb=>hx ((hX b).2 hb)⟩
   ·obtain⟨_,rfl⟩:=hgo r gy hr;exact .inr hb
  have hstep:Step M w (y6 M g g') w':=by
   have key:∀b o,b<w.heap.size->¬M b o->w'.heap[b]? = w.heap[b]?/\¬y6 M g g' b o:=fun b o hb hm=>by
    have hnb:v0.ownBlock≠some b:=fun h=>hm (hM b h o)
    refine⟨hE.block b hb hnb,fun hm'=>?_⟩;rcases hnew b o hm' with⟨h1,_⟩|h1
    ·exact hm h1
    ·rcases hblk' b h1 with h2|h2
     ·exact hnb h2
     ·omega
   refine⟨fun ad u hu hm=>?_,fun b es c hb hm=>?_⟩
   ·have hlt:ad.block<w.heap.size:=World.block_lt_of_cell? w _ hu;obtain⟨h1,h2⟩:=key ad.block ad.off hlt hm;exact⟨(Z6 h1).trans hu,h2⟩
   ·obtain⟨h1,h2⟩:=key b 0 (z8 hb) hm;exact⟨h1.trans hb,h2⟩
  obtain⟨A',c',hv',_⟩:=Row.of_own' hown';have hlow:∀b,v'.ownBlock=some b->B0<=b/\b<w'.heap.size:=fun b hb=>by
   refine⟨?_,d32 hown' hb⟩;rcases hblk' b hb with h1|h1
   ·exact(hF.low 0 gx b hg' (by rw[hblk];exact h1)).1
   ·omega
  have hrow:RepD0 (y6 M g g') w' g' (.row 0) v':=⟨_,A',_,c',hg0',rfl,hv'⟩;refine⟨(e95 back v'),g',?_,⟨hE.os,hE.tape,hE.output,hE.size,fun k hk hx=>hE.block k hk fun hb=>hx ((hX k).2 hb)⟩,hstep,?_,fun r gy hr hbm=>?_,fun b hb=>?_⟩
  ·rw[he];cases back<;>rfl
  ·exact{
    args:=by cases back with
     |true=>exact⟨hrow,trivial⟩
     |false=>trivial
    res:=fun r blk hr=>by
     cases r with
     |zero=>
      obtain rfl:Blk.row e t true zs=blk:=Option.some.inj hr;exact⟨_,hg0',hz,cs',hown',rfl,rfl,fun i hi=>RepC.step hstep _ _ _ (hels' i hi)⟩
     |succ r=>cases hr
    dom:=fun r gy hr=>by obtain⟨rfl,_⟩:=hgo r gy hr;exact Nat.zero_lt_one
    inj:=fun r r' gy gy' b hr hr' _ _=>by obtain⟨rfl,_⟩:=hgo r gy hr;obtain⟨rfl,_⟩:=hgo r' gy' hr';rfl
    low:=fun r gy b hr hb=>by obtain⟨_,rfl⟩:=hgo r gy hr;exact hlow b hb
    chg:=fun r gy b o hr hb=>⟨fun _=>by obtain⟨_,rfl⟩:=hgo r gy hr;exact Nat.zero_le _,fun hle=> .inr ⟨r,gy,hr,hb,hle⟩⟩
    mlt:=fun b o hm=>by
     rcases hnew b o hm with⟨h1,_⟩|h1
     ·exact Nat.lt_of_lt_of_le (hF.mlt b o h1) hE.size
     ·exact(hlow b h1).2
    row:=fun r gy b hr hb h0=>by obtain⟨_,rfl⟩:=hgo r gy hr;exact absurd h0 (Nat.lt_irrefl 0)}
  ·obtain rfl:=honly r gy hr;rw[hg']at hr;cases hr;rw[<-hv]at hbm;exact hbm.elim (fun h=>(a4K hown h).elim) (fun h=>Bool.noConfusion (show false=true from h))
  ·obtain⟨r,gy,hr,hb⟩:=hb;obtain⟨_,rfl⟩:=hgo r gy hr;rcases hblk' b hb with h1|h1
   ·exact .inl ((hX b).2 h1)
   ·exact .inr h1
theorem a8m(b:Nat):∀(vs:List Value) (o:Nat) (w:World),(w.setCells b o vs).heap.size=w.heap.size
 |[],_,_=>rfl
 |v :: vs,o,w=>by
  show((w.setCell ⟨b,o,none⟩ v).setCells b (o+1) vs).heap.size=_;rw[a8m b vs (o+1)];unfold World.setCell;simp
theorem a8n(b:Nat):∀(vs:List Value) (o:Nat) (w:World),(w.setCells b o vs).tape=w.tape/\(w.setCells b o vs).os=w.os/\(w.setCells b o vs).output=w.output
 |[],_,_=>⟨rfl,rfl,rfl⟩
 |v :: vs,o,w=>by
  have:=a8n b vs (o+1) (w.setCell ⟨b,o,none⟩ v);exact⟨this.1,this.2.1,this.2.2⟩
theorem a6S(b:Nat):∀(vs:List Value) (o:Nat) (w:World) (k:Nat),k≠b->(w.setCells b o vs).heap[k]? = w.heap[k]?
 |[],_,_,_,_=>rfl
 |v :: vs,o,w,k,hk=>by
  show((w.setCell ⟨b,o,none⟩ v).setCells b (o+1) vs).heap[k]? = _;rw[a6S b vs (o+1) _ k hk];unfold World.setCell;rw[Array.getElem?_modify];simp[hk.symm]
theorem b9q{w:World}{q b o:Nat}{vs:List Value}:ExtX (fun k=>b=k) w ((w.drewN q).setCells b o vs):=by
 obtain⟨h1,h2,h3⟩:=a8n b vs o (w.drewN q);exact⟨h2,h1,h3,by rw[a8m];exact Nat.le_refl _,fun k hk hx=>a6S b vs o (w.drewN q) k fun e=>hx e.symm⟩
theorem a6R(b:Nat)(e:TypeId)(fz:Nat×Nat):∀(vs:List Value) (o:Nat) (w:World) (cur:Array Value),w.heap[b]? = some (.cells cur e fz)->o+vs.length<=cur.size->
  (w.setCells b o vs).heap[b]? = some (.cells (cur.toList.take o++vs++cur.toList.drop (o+vs.length)).toArray e fz)
 |[],o,w,cur,h,hl=>by
  show w.heap[b]? = _;rw[h];simp
 |v :: vs,o,w,cur,h,hl=>by
  simp only[List.length_cons]at hl;have h1:(w.setCell ⟨b,o,none⟩ v).heap[b]? = some (.cells (cur.setIfInBounds o v) e fz):=by
   unfold World.setCell;rw[Array.getElem?_modify];simp[h]
  have ih:=a6R b e fz vs (o+1) _ _ h1 (by rw[Array.size_setIfInBounds];omega);show((w.setCell ⟨b,o,none⟩ v).setCells b (o+1) vs).heap[b]? = _;rw[ih];have hs:(cur.setIfInBounds o v).toList=cur.toList.set o v:=by simp
  rw[hs];have ho:o<cur.toList.length:=by rw[Array.length_toList];omega
  congr 3;apply List.ext_getElem?;intro k;rw[List.length_cons];simp only[List.getElem?_append,List.length_append,List.length_take,List.length_set,Array.length_toList,List.getElem?_take,List.getElem?_drop,List.getElem?_set,List.length_cons];have hm1:min (o+1) cur.size=o+1:=by omega
  have hm0:min o cur.size=o:=by omega
  rw[hm1,hm0];by_cases hk:k<o
  ·simp[hk,show k<o+1 by omega,show k<o+1+vs.length by omega,show k<o+(vs.length+1) by omega,show ¬o=k by omega]
  ·by_cases hk2:k=o
   ·subst hk2;simp[show k<k+1+vs.length by omega,show k<cur.size by omega]
   ·by_cases hk3:k<o+1+vs.length
    ·have:∃j,k=o+1+j:=⟨k-(o+1),by omega⟩;obtain⟨j,rfl⟩:=this;simp[show ¬o+1+j<o by omega,show o+1+j<o+1+vs.length by omega,show o+1+j<o+(vs.length+1) by omega,show ¬(o+1+j<o+1) by omega,show o+1+j-o=j+1 by omega,show o+1+j-(o+1)=j by omega]
    ·simp[show ¬k<o by omega,show ¬k<o+1+vs.length by omega,show ¬k<o+(vs.length+1) by omega,show o+1+vs.length+(k-(o+1+vs.length))=k by omega,show o+(vs.length+1)+(k-(o+(vs.length+1)))=k by omega,show ¬o=k by omega]
end
section
def b6q(t:Ty)(n:Int):Option (List t.den):=if 0<=n/\n*((24*t.sz:Nat):Int)<=140737488355328 then some []else none
theorem d31{w:World}{base:Nat}{e:TypeId}{sz:Nat}{v:Value}{n:Nat}{cs:List Value}(h:w.ownsRow base e sz v n cs):w.ownsRow 0 e sz v n cs:=by
 refine⟨h.1,?_⟩;rcases h.2 with h0|⟨g,cap,cur,h1,_,h2⟩
 ·exact .inl h0
 ·exact .inr ⟨g,cap,cur,h1,Nat.zero_le _,h2⟩
theorem Sound.ofNew{P:Program}{G:World->Prop}{B0:Nat}{f:FuncId}{ps:List Sl}{e:TypeId}{t:Ty}{ex:Bool}{F:SV ps->Option (List t.den)}
  (hcall:∀(args:Array Value) (w:World),(callFunc f args).run P w = .ok (.enter f args) w) (hz:0<t.sz)
  (h:∀(M:Nat->Nat->Prop) (w:World) (vs:List Value) (x:SV ps) (zs:List t.den),G w->(∀b o,M b o->b<w.heap.size)->All2 (RepD0 M w g0) (a0E id ps x) vs->F x=some zs->
   Calls P f vs.toArray w fun en w'=>∃u cs,en = .returned u/\w'.ownsRow w.heap.size e t.sz u zs.length cs/\Ext w w'/\∀M',Step M w M' w'->Els M' w' t zs cs):
  Sound P G B0 f ⟨ps,[],[.row 0],[.row e t ex],List t.den,fun z=>(((),()),z,()),fun x _=>F x⟩:=by
 refine⟨hcall,fun M w g vs x y z hG hB hF hz'=>?_⟩;have hg:g=g0:=by
  funext r;cases hr:g r with
  |none=>rfl
  |some gx=>exact absurd (hF.dom r gx hr) (Nat.not_lt_zero _)
 subst hg;refine(h M w vs x z hG hF.mlt hF.args hz').mono fun en w' hp=>?_
 obtain⟨u,cs,he,hown,hE,hels⟩:=hp;obtain⟨g',hgd⟩:∃g':Gh,g'=fun r=>if r=0 then some ⟨u.ownBlock,c9j t ex z.length,u⟩else none:=⟨_,rfl⟩
 have hg0':g' 0=some ⟨u.ownBlock,c9j t ex z.length,u⟩:=by rw[hgd];rfl
 have hgo:∀r gy,g' r=some gy->r=0/\gy=⟨u.ownBlock,c9j t ex z.length,u⟩:=fun r gy hr=>by
  rw[hgd]at hr;by_cases h0:r=0
  ·subst h0;simp at hr;exact⟨rfl,hr.symm⟩
  ·simp[h0]at hr
 have hblk:∀b,u.ownBlock=some b->w.heap.size<=b/\b<w'.heap.size:=fun b hb=>by
  rcases hown.2 with⟨e1,_⟩|⟨gg,cap,cur,e1,h1,h2,_⟩
  ·rw[e1]at hb;cases hb
  ·rw[e1]at hb;simp only[Value.ownBlock,Option.some.injEq]at hb;subst hb;exact⟨h1,z8 h2⟩
 have hM:∀b o,y6 M g0 g' b o->M b o\/u.ownBlock=some b:=fun b o hm=>by
  rcases hm with⟨hm,_⟩|⟨r,gy,hr,hb,_⟩
  ·exact .inl hm
  ·obtain⟨_,rfl⟩:=hgo r gy hr;exact .inr hb
 have hstep:Step M w (y6 M g0 g') w':=by
  have key:∀b o,b<w.heap.size->¬M b o->w'.heap[b]? = w.heap[b]?/\¬y6 M g0 g' b o:=fun b o hb hm=>by
   refine⟨hE.block b hb,fun hm'=>?_⟩;rcases hM b o hm' with h1|h1
   ·exact hm h1
   ·have:=(hblk b h1).1;omega
  refine⟨fun ad v hu hm=>?_,fun b es c hb hm=>?_⟩
  ·obtain⟨h1,h2⟩:=key ad.block ad.off (World.block_lt_of_cell? w _ hu) hm;exact⟨(Z6 h1).trans hu,h2⟩
  ·obtain⟨h1,h2⟩:=key b 0 (z8 hb) hm;exact⟨h1.trans hb,h2⟩
 obtain⟨A',c',hv',_⟩:=Row.of_own' hown;have hrow:RepD0 (y6 M g0 g') w' g' (.row 0) u:=⟨_,A',_,c',hg0',rfl,hv'⟩;refine⟨[u],g',he,ExtX.of_ext hE,hstep,?_,fun r gy hr _=>(by cases hr),fun b hb=>?_⟩
 ·exact{
   args:=⟨hrow,trivial⟩
   res:=fun r blk hr=>by
    cases r with
    |zero=>
     obtain rfl:Blk.row e t ex z=blk:=Option.some.inj hr;refine⟨_,hg0',hz,cs,d31 hown,rfl,by cases ex<;>rfl,fun i hi=>?_⟩;exact hels _ hstep i hi
    |succ r=>cases hr
   dom:=fun r gy hr=>by obtain⟨rfl,_⟩:=hgo r gy hr;exact Nat.zero_lt_one
   inj:=fun r r' gy gy' b hr hr' _ _=>by obtain⟨rfl,_⟩:=hgo r gy hr;obtain⟨rfl,_⟩:=hgo r' gy' hr';rfl
   low:=fun r gy b hr hb=>by
    obtain⟨_,rfl⟩:=hgo r gy hr;obtain⟨h1,h2⟩:=hblk b hb;exact⟨Nat.le_trans hB h1,h2⟩
   chg:=fun r gy b o hr hb=>by
    obtain⟨rfl,rfl⟩:=hgo r gy hr;constructor
    ·rintro(⟨h1,_⟩|⟨r',gy',h1,h2,h3⟩)
     ·have:=hF.mlt b o h1;have:=(hblk b hb).1;omega
     ·obtain⟨_,rfl⟩:=hgo r' gy' h1;exact h3
    ·exact fun hle=> .inr ⟨0,_,hr,hb,hle⟩
   mlt:=fun b o hm=>by
    rcases hM b o hm with h1|h1
    ·exact Nat.lt_of_lt_of_le (hF.mlt b o h1) hE.size
    ·exact(hblk b h1).2
   row:=fun r gy b hr hb h0 es c hc=>by
    obtain⟨_,rfl⟩:=hgo r gy hr;exact(a5j hown hb).2 es c hc}
 ·obtain⟨r,gy,hr,hb⟩:=hb;obtain⟨_,rfl⟩:=hgo r gy hr;exact .inr (hblk b hb).1
theorem Sound.ofGrow{P:Program}{G:World->Prop}{B0:Nat}{f:FuncId}{e:TypeId}{t:Ty}
  (hcall:∀(args:Array Value) (w:World),(callFunc f args).run P w = .ok (.enter f args) w) (hz:0<t.sz)
  (h:∀(n:Nat) (w:World),n*(24*t.sz)<=140737488355328->Calls P f #[.slice none 0 0,.int .i64 n] w fun en w'=>∃u,en = .returned u/\w'.ownsRow w.heap.size e t.sz u 0 []/\Ext w w'):
  Sound P G B0 f ⟨[.nilS,.v .i64],[],[.row 0],[.row e t false],List t.den,fun z=>(((),()),z,()),fun x _=>b6q t x.2.1⟩:=by
 refine Sound.ofNew (ps:=[.nilS,.v .i64]) (ex:=false) (F:=fun x=>b6q t x.2.1) hcall hz fun M w vs x zs hG hM hA hz'=>?_
 obtain⟨_,n,_⟩:=x
 match vs,hA with
 |[v0,v1],⟨h0,h1,_⟩=>
  have h0:v0 = .slice none 0 0:=h0;have h1:v1 = .int .i64 n:=RepV.int h1;subst h0 h1;change b6q t n=some zs at hz';unfold b6q at hz';split at hz'
  ·rename_i hn;cases hz';obtain⟨hn1,hn2⟩:=hn;obtain⟨k,rfl⟩:∃k:Nat,n=(k:Int):=⟨Int.toNat n,(Int.toNat_of_nonneg hn1).symm⟩;have hk:k*(24*t.sz)<=140737488355328:=Int.ofNat_le.1 (by rw[Int.natCast_mul];exact hn2);refine(h k w hk).mono fun en w' hp=>?_
   obtain⟨u,he,hown,hE⟩:=hp;exact⟨u,[],he,hown,hE,fun M' _ i hi=>absurd hi (by simp)⟩
  ·cases hz'
end
section
open Go Go.RowKit
inductive Sc(P:Program):Ty->TypeId->Prop where
 |u8 {T:TypeId}:P.underlying T=some (.int .u8)->Sc P .u8 T
 |int {T:TypeId} {k:IntKind}:P.underlying T=some (.int k)->Sc P (.int k) T
 |bool {T:TypeId}:P.underlying T=some .bool->Sc P .bool T
 |str {T:TypeId}:P.underlying T=some .string->Sc P .str T
inductive FlatF(P:Program):Ty->List Field->Nat->Prop where
 |nil {o:Nat}:FlatF P .un [] o
 |one {t:Ty} {f:Field} {o:Nat}:f.offset=o->f.name≠ "_"->Sc P t f.type->FlatF P t [f] o
 |single {t:Ty} {f:Field} {o:Nat}:f.offset=o->f.name≠ "_"->Sc P t f.type->FlatF P (.pr t .un) [f] o
 |cons {a b:Ty} {f:Field} {fs:List Field} {o:Nat}:f.offset=o->f.name≠ "_"->Sc P a f.type->FlatF P b fs (o+1)->FlatF P (.pr a b) (f :: fs) o
section
variable{P:Program}{w:World}
theorem Sc.sz{t:Ty}{T:TypeId}(h:Sc P t T):t.sz=1:=by cases h<;>rfl
theorem Sc.cell{t:Ty}{T:TypeId}(h:Sc P t T)(x:t.den):∃c,cellsOf t x=[c]:=by cases h<;>exact⟨_,rfl⟩
theorem Sc.isAgg{t:Ty}{T:TypeId}(h:Sc P t T):(Go.isAgg T).run P w = .ok false w:=by
 cases h<;>rename_i hu<;>simp[Go.isAgg,run_underlying hu]
theorem Sc.eq{t:Ty}{T:TypeId}(h:Sc P t T)(d:Nat){x y:t.den}{a b:Value}(ha:cellsOf t x=[a])(hb:cellsOf t y=[b]):(Op.equalIn (d+1) T a b).run P w = .ok (eqb t x y) w:=by
 cases h with
 |u8 hu=>
  have ha':[Value.int .u8 (UInt8.toNat x)]=[a]:=ha;have hb':[Value.int .u8 (UInt8.toNat y)]=[b]:=hb;injection ha' with ha';injection hb' with hb'
  subst ha';subst hb';rw[run_equalIn_int w d _ _ _ _ _ hu];congr 1;show decide _=decide _;exact decide_eq_decide.2 ⟨fun h=>UInt8.toNat_inj.1 (by omega),fun h=>by rw[h]⟩
 |int hu=>
  have ha':[Value.int _ x]=[a]:=ha;have hb':[Value.int _ y]=[b]:=hb;injection ha' with ha';injection hb' with hb'
  subst ha';subst hb';rw[run_equalIn_int w d _ _ _ _ _ hu];rfl
 |bool hu=>
  have ha':[Value.bool x]=[a]:=ha;have hb':[Value.bool y]=[b]:=hb;injection ha' with ha';injection hb' with hb'
  subst ha';subst hb';rw[run_equalIn_bool' w d _ _ _ hu];rfl
 |str hu=>
  have ha':[Value.string ⟨List.toArray x⟩]=[a]:=ha;have hb':[Value.string ⟨List.toArray y⟩]=[b]:=hb;injection ha' with ha';injection hb' with hb'
  subst ha';subst hb';rw[run_equalIn_string w d _ _ _ hu,Lib.toList_data,Lib.toList_data];rfl
theorem b1K{T:TypeId}{xs:Array Value}{o:Nat}{c:Value}(h:(Go.isAgg T).run P w = .ok false w)(hc:xs[o]? = some c):(part T xs o).run P w = .ok c w:=by
 simp[part,h,hc]
theorem e0K(d:Nat):∀(fs:List Field) (t:Ty) (o:Nat) (xs ys:Array Value) (x y:t.den),FlatF P t fs o->(xs.toList.drop o).take t.sz=cellsOf t x->(ys.toList.drop o).take t.sz=cellsOf t y->
  (Op.eqFields (d+1) xs ys fs).run P w = .ok (eqb t x y) w:=by
 have hone:∀(xs:Array Value) (o:Nat) (c:Value) (n:Nat) (l:List Value),(xs.toList.drop o).take (1+n)=c :: l->xs[o]? = some c/\(xs.toList.drop (o+1)).take n=l:=fun xs o c n l h=>by
  have hc:xs.toList.drop o=c :: xs.toList.drop (o+1):=by
   cases hd:xs.toList.drop o with
   |nil=>rw[hd]at h;simp at h
   |cons e r=>
    rw[hd,Nat.add_comm,List.take_succ_cons]at h;injection h with h1 h2
    rw[h1];congr 1;have:=congrArg (List.drop 1) hd;rw[List.drop_drop]at this;simpa [Nat.add_comm]using this.symm
  refine⟨?_,?_⟩
  ·have:=congrArg (fun l=>l[0]?) hc;simpa using this
  ·rw[hc,Nat.add_comm,List.take_succ_cons]at h;injection h
 intro fs;induction fs with
 |nil=>
  intro t o xs ys x y hf _ _;cases hf;simp[Op.eqFields,eqb]
 |cons f fs ih=>
  intro t o xs ys x y hf hx hy;have hstep:∀(a:Ty) (xa ya:a.den) (ca cb:Value) (r:Bool),f.offset=o->f.name≠ "_"->Sc P a f.type->cellsOf a xa=[ca]->cellsOf a ya=[cb]->xs[o]? = some ca->ys[o]? = some cb->
    (Op.eqFields (d+1) xs ys fs).run P w = .ok r w->(Op.eqFields (d+1) xs ys (f :: fs)).run P w = .ok (eqb a xa ya&&r) w:=fun a xa ya ca cb r ho hn hs h1 h2 h3 h4 h5=>by
   subst ho;simp only[Op.eqFields,hn,ne_eq,not_false_eq_true,if_true,Sem.run_bind,b1K hs.isAgg h3,b1K hs.isAgg h4,hs.eq d h1 h2,Result.andThen_ok];cases eqb a xa ya with
   |true=>simpa using h5
   |false=>simp
  cases hf with
  |one ho hn hs=>
   obtain⟨ca,h1⟩:=hs.cell x;obtain⟨cb,h2⟩:=hs.cell y;rw[hs.sz,h1]at hx;rw[hs.sz,h2]at hy;have:=hstep t x y ca cb true ho hn hs h1 h2 (hone xs o ca 0 [] hx).1 (hone ys o cb 0 [] hy).1 (by simp[Op.eqFields]);simpa using this
  |single ho hn hs=>
   rename_i a;obtain⟨xa,u⟩:=x;obtain⟨ya,v⟩:=y;obtain⟨ca,h1⟩:=hs.cell xa;obtain⟨cb,h2⟩:=hs.cell ya;have hx':(xs.toList.drop o).take (a.sz+0)=cellsOf a xa ++ []:=hx;have hy':(ys.toList.drop o).take (a.sz+0)=cellsOf a ya ++ []:=hy;rw[hs.sz,h1]at hx';rw[hs.sz,h2]at hy';exact hstep a xa ya ca cb true ho hn hs h1 h2 (hone xs o ca 0 [] hx').1 (hone ys o cb 0 [] hy').1 (by simp[Op.eqFields])
  |@cons a b _ _ _ ho hn hs hr=>
   obtain⟨xa,xb⟩:=x;obtain⟨ya,yb⟩:=y;obtain⟨ca,h1⟩:=hs.cell xa;obtain⟨cb,h2⟩:=hs.cell ya;have hx':(xs.toList.drop o).take (a.sz+b.sz)=cellsOf a xa++cellsOf b xb:=hx;have hy':(ys.toList.drop o).take (a.sz+b.sz)=cellsOf a ya++cellsOf b yb:=hy;rw[hs.sz,h1]at hx';rw[hs.sz,h2]at hy';obtain⟨k1,k2⟩:=hone xs o ca b.sz _ hx';obtain⟨k3,k4⟩:=hone ys o cb b.sz _ hy';exact hstep a xa ya ca cb _ ho hn hs h1 h2 k1 k3 (ih b (o+1) xs ys xb yb hr k2 k4)
theorem FlatF.len{t:Ty}{fs:List Field}{o:Nat}(h:FlatF P t fs o)(x:t.den):(cellsOf t x).length=t.sz:=by
 induction h with
 |nil=>rfl
 |one _ _ hs=>obtain⟨c,hc⟩:=hs.cell x;rw[hc,hs.sz];rfl
 |single _ _ hs=>
  obtain⟨xa,u⟩:=x;obtain⟨c,hc⟩:=hs.cell xa;show(cellsOf _ xa ++ []).length=_+0;rw[hc,hs.sz];rfl
 |cons _ _ hs _ ih=>
  obtain⟨xa,xb⟩:=x;obtain⟨c,hc⟩:=hs.cell xa;show(cellsOf _ xa++cellsOf _ xb).length=_+_;rw[List.length_append,hc,hs.sz,ih xb];rfl
theorem CmpOk.flat{T:TypeId}{t:Ty}{fs:Array Field}(hc:a4X t=true)(ha:t.isAgg=true)(hu:P.underlying T=some (.struct fs))(hp:P.stoodInHeld T=false)(hg:P.eqGuardType P.depth T=false)(hf:FlatF P t fs.toList 0):CmpOk P T t:=by
 have hfo:P.fieldsOf T=fs:=by unfold Program.fieldsOf;rw[hu]
 have heq:∀(x y:t.den) (w:World),(Op.equalIn 10000 T (.agg (cellsOf t x).toArray) (.agg (cellsOf t y).toArray)).run P w = .ok (eqb t x y) w:=fun x y w=>by
  rw[run_equalIn_agg w 9999 T _ _ (by rw[hfo];exact hu) hp,hfo];refine e0K 9998 fs.toList t 0 _ _ x y hf ?_ ?_
  ·rw[List.drop_zero,List.take_of_length_le (by simp[hf.len x])]
  ·rw[List.drop_zero,List.take_of_length_le (by simp[hf.len y])]
 refine⟨hc,ha,fun x y ox oy w=>⟨?_,?_⟩⟩
 ·simp only[Sem.run_bind,run_eqGuard_agg w _ _ _ _ _ _ hg,Result.andThen_ok,run_eql_struct,heq]
 ·simp only[Sem.run_bind,run_eqGuard_agg w _ _ _ _ _ _ hg,Result.andThen_ok,run_neq_struct,heq]
end
end
section
theorem c6w{M:Nat->Nat->Prop}{w:World}{xs:List d3}{cs:List Value}(hl:cs.length=xs.length)(h:Els M w .str xs cs):cs=xs.map fun x=>Value.string ⟨x.toArray⟩:=by
 apply List.ext_getElem
 ·simpa using hl
 ·intro i h1 h2;have h3:i<xs.length:=by omega
  have:=h i h3;have e:(cs.drop (i*Ty.sz .str)).take (Ty.sz .str)=[cs[i]]:=by
   show(cs.drop (i*1)).take 1=_;rw[Nat.mul_one,List.drop_eq_getElem_cons h1];rfl
  rw[e]at this;have e2:[cs[i]]=[Value.string ⟨xs[i].toArray⟩]:=this;rw[List.getElem_map];injection e2
theorem b9u{M:Nat->Nat->Prop}{w:World}(xs:List d3):Els M w .str xs (xs.map fun x=>Value.string ⟨x.toArray⟩):=fun i h=>by
 have e:((xs.map fun x=>Value.string ⟨x.toArray⟩).drop (i*Ty.sz .str)).take (Ty.sz .str)=[Value.string ⟨xs[i].toArray⟩]:=by
  show((xs.map fun x=>Value.string ⟨x.toArray⟩).drop (i*1)).take 1=_;rw[Nat.mul_one,List.drop_eq_getElem_cons (by simpa using h),List.getElem_map];rfl
 rw[e];rfl
end
section
theorem Sound.ofRowKept{P:Program}{G:World->Prop}{B0:Nat}{f:FuncId}{ps:List Sl}{e:TypeId}{t:Ty}{F:SV ps->List t.den->Option (List t.den)}
  (hcall:∀(args:Array Value) (w:World),(callFunc f args).run P w = .ok (.enter f args) w) (hz:0<t.sz)
  (h:∀(M:Nat->Nat->Prop) (w:World) (g:Gh) (v0:Value) (vs:List Value) (x:SV ps) (xs zs:List t.den) (cs:List Value),G w->(∀b o,M b o->b<w.heap.size)->(∀b,v0.ownBlock=some b->∀o,M b o)->
   w.ownsRow 0 e t.sz v0 xs.length cs->Els M w t xs cs->All2 (RepD0 M w g) (a0E id ps x) vs->F x xs=some zs->
   Calls P f (v0 :: vs).toArray w fun en w'=>∃cs',en = .returned (.tuple #[])/\ExtX (fun b=>v0.ownBlock=some b) w w'/\
    w'.ownsRow 0 e t.sz v0 zs.length cs'/\Els M w t zs cs'):
  Sound P G B0 f ⟨.row 0 :: ps,[.row e t true],[],[.row e t true,.none],List t.den,fun z=>((),z,(),()),fun x y=>F x.2 y.1⟩:=by
 refine⟨hcall,fun M w g vs0 x y zs hG hB hF hz'=>?_⟩;obtain⟨_,x⟩:=x;obtain⟨xs,_⟩:=y
 match vs0,hF.args with
 |v0 :: vs,⟨h0,hA⟩=>
  obtain⟨gx,A,n,c,hg0,hv,hv2⟩:=h0;obtain⟨gx',hg',_,cs,hown,hblk,hlo,hels⟩:=hF.res 0 (.row e t true xs) rfl;replace hg0:g 0=some gx:=hg0;rw[hg']at hg0;cases hg0;have hlo:gx.lo=0:=hlo;rw[<-hv]at hown hblk;have hM:∀b,v0.ownBlock=some b->∀o,M b o:=fun b hb o=>(hF.chg 0 gx b o hg' (by rw[hblk];exact hb)).2 (by rw[hlo];exact Nat.zero_le _)
  have honly:∀r gy,g r=some gy->r=0:=fun r gy hr=>by have:=hF.dom r gy hr;exact Nat.lt_one_iff.1 this
  have hX:∀b,Z4 g b↔v0.ownBlock=some b:=fun b=>by
   constructor
   ·rintro⟨r,gy,hr,hb⟩;obtain rfl:=honly r gy hr;rw[hg']at hr;cases hr;rw[<-hblk];exact hb
   ·intro hb;exact⟨0,gx,hg',by rw[hblk];exact hb⟩
  refine(h M w g v0 vs x xs zs cs hG hF.mlt hM hown hels hA hz').mono fun en w' hp=>?_
  obtain⟨cs',he,hE,hown',hels'⟩:=hp;have hblk':∀b,v0.ownBlock=some b->v0.ownBlock=some b\/w.heap.size<=b:=fun b h=> .inl h
  obtain⟨v',hv0⟩:∃v',v'=v0:=⟨v0,rfl⟩;rw[<-hv0]at hown';replace hblk':∀b,v'.ownBlock=some b->v0.ownBlock=some b\/w.heap.size<=b:=by rw[hv0];exact hblk'
  obtain⟨g',hgd⟩:∃g':Gh,g'=fun r=>if r=0 then some ⟨v'.ownBlock,0,v'⟩else none:=⟨_,rfl⟩
  have hg0':g' 0=some ⟨v'.ownBlock,0,v'⟩:=by rw[hgd];rfl
  have hgo:∀r gy,g' r=some gy->r=0/\gy=⟨v'.ownBlock,0,v'⟩:=fun r gy hr=>by
   rw[hgd]at hr;by_cases h0:r=0
   ·subst h0;simp at hr;exact⟨rfl,hr.symm⟩
   ·simp[h0]at hr
  have hnew:∀b o,y6 M g g' b o->(M b o/\v0.ownBlock≠some b)\/v'.ownBlock=some b:=fun b o hm=>by
   rcases hm with⟨hm,hx⟩|⟨r,gy,hr,hb,_⟩
   ·exact .inl ⟨hm,fun hb=>hx ((hX b).2 hb)⟩
   ·obtain⟨_,rfl⟩:=hgo r gy hr;exact .inr hb
  have hstep:Step M w (y6 M g g') w':=by
   have key:∀b o,b<w.heap.size->¬M b o->w'.heap[b]? = w.heap[b]?/\¬y6 M g g' b o:=fun b o hb hm=>by
    have hnb:v0.ownBlock≠some b:=fun h=>hm (hM b h o)
    refine⟨hE.block b hb hnb,fun hm'=>?_⟩;rcases hnew b o hm' with⟨h1,_⟩|h1
    ·exact hm h1
    ·rcases hblk' b h1 with h2|h2
     ·exact hnb h2
     ·omega
   refine⟨fun ad u hu hm=>?_,fun b es c hb hm=>?_⟩
   ·have hlt:ad.block<w.heap.size:=World.block_lt_of_cell? w _ hu;obtain⟨h1,h2⟩:=key ad.block ad.off hlt hm;exact⟨(Z6 h1).trans hu,h2⟩
   ·obtain⟨h1,h2⟩:=key b 0 (z8 hb) hm;exact⟨h1.trans hb,h2⟩
  obtain⟨A',c',hv',_⟩:=Row.of_own' hown';have hlow:∀b,v'.ownBlock=some b->B0<=b/\b<w'.heap.size:=fun b hb=>by
   refine⟨?_,d32 hown' hb⟩;rcases hblk' b hb with h1|h1
   ·exact(hF.low 0 gx b hg' (by rw[hblk];exact h1)).1
   ·omega
  have hrow:RepD0 (y6 M g g') w' g' (.row 0) v':=⟨_,A',_,c',hg0',rfl,hv'⟩;refine⟨[],g',?_,⟨hE.os,hE.tape,hE.output,hE.size,fun k hk hx=>hE.block k hk fun hb=>hx ((hX k).2 hb)⟩,hstep,?_,fun r gy hr hbm=>?_,fun b hb=>?_⟩
  ·rw[he];rfl
  ·exact{
    args:=trivial
    res:=fun r blk hr=>by
     cases r with
     |zero=>
      obtain rfl:Blk.row e t true zs=blk:=Option.some.inj hr;exact⟨_,hg0',hz,cs',hown',rfl,rfl,fun i hi=>RepC.step hstep _ _ _ (hels' i hi)⟩
     |succ r=>
      cases r with
      |zero=>cases hr
      |succ r=>cases hr
    dom:=fun r gy hr=>by obtain⟨rfl,_⟩:=hgo r gy hr;exact Nat.zero_lt_two
    inj:=fun r r' gy gy' b hr hr' _ _=>by obtain⟨rfl,_⟩:=hgo r gy hr;obtain⟨rfl,_⟩:=hgo r' gy' hr';rfl
    low:=fun r gy b hr hb=>by obtain⟨_,rfl⟩:=hgo r gy hr;exact hlow b hb
    chg:=fun r gy b o hr hb=>⟨fun _=>by obtain⟨_,rfl⟩:=hgo r gy hr;exact Nat.zero_le _,fun hle=> .inr ⟨r,gy,hr,hb,hle⟩⟩
    mlt:=fun b o hm=>by
     rcases hnew b o hm with⟨h1,_⟩|h1
     ·exact Nat.lt_of_lt_of_le (hF.mlt b o h1) hE.size
     ·exact(hlow b h1).2
    row:=fun r gy b hr hb h0=>by obtain⟨_,rfl⟩:=hgo r gy hr;exact absurd h0 (Nat.lt_irrefl 0)}
  ·obtain rfl:=honly r gy hr;rw[hg']at hr;cases hr;rw[hg0',hv0];obtain⟨b1,l1,v1⟩:=gx;dsimp only at hv hblk hlo;subst hv hblk hlo;rfl
  ·obtain⟨r,gy,hr,hb⟩:=hb;obtain⟨_,rfl⟩:=hgo r gy hr;rcases hblk' b hb with h1|h1
   ·exact .inl ((hX b).2 h1)
   ·exact .inr h1
end
end Go.Proofs.YtckdohagilcloaaGreatDoor
namespace Go.Proofs.YtckdohagilcloaaGreatDoor
set_option linter.unusedVariables false
set_option linter.unusedSimpArgs false
open Go Go.RowKit Go.Shelf
theorem b1P{α:Type}[Inhabited α](enc:α->Value){w:World}{n b:Nat}{d:Array α}{os:Array Obj}{cur:Array Value}{e:TypeId}{fz:Nat×Nat}(h:w.heap[b]? = some (.cells cur e fz)):
  (Sort.grow (Sort.putRow enc (Sort.ahead w n) b 0 d) os).heap[b]? = some (.cells (Sort.putCells enc 0 d cur) e fz):=by
 have hb:b<w.heap.size:=by
  apply Classical.byContradiction;intro hn;rw[Array.getElem?_eq_none (by omega)]at h;cases h
 have hb2:b<(w.heap.modify b (Sort.onCells (Sort.putCells enc 0 d))).size:=by rw[Array.size_modify];exact hb
 show(w.heap.modify b (Sort.onCells (Sort.putCells enc 0 d))++os)[b]? = _;rw[Array.getElem?_append_left hb2,Array.getElem?_modify,if_pos rfl,h];rfl
theorem b6U{α:Type}[Inhabited α](enc:α->Value){w:World}{n b:Nat}{d:Array α}{os:Array Obj}:ExtX (fun k=>b=k) w (Sort.grow (Sort.putRow enc (Sort.ahead w n) b 0 d) os):=by
 refine⟨rfl,rfl,rfl,?_,fun k hk hx=>?_⟩
 ·show w.heap.size<=(w.heap.modify b (Sort.onCells (Sort.putCells enc 0 d))++os).size;rw[Array.size_append,Array.size_modify];omega
 ·have hb2:k<(w.heap.modify b (Sort.onCells (Sort.putCells enc 0 d))).size:=by rw[Array.size_modify];exact hk
  show(w.heap.modify b (Sort.onCells (Sort.putCells enc 0 d))++os)[k]? = _;rw[Array.getElem?_append_left hb2,Array.getElem?_modify,if_neg hx]
theorem a4p{α:Type}[Inhabited α](enc:α->Value)(d:Array α)(cur:Array Value):(Sort.putCells enc 0 d cur).size=cur.size:=by
 unfold Sort.putCells;simp
theorem a8j{α:Type}[Inhabited α](enc:α->Value)(zs:List α)(cur:Array Value)(h:zs.length<=cur.size):(Sort.putCells enc 0 zs.toArray cur).toList.take zs.length=zs.map enc:=by
 apply List.ext_getElem
 ·have e:(Sort.putCells enc 0 zs.toArray cur).toList.length=cur.size:=by
   rw[Array.length_toList];exact a4p _ _ _
  rw[List.length_take,List.length_map,e];omega
 ·intro k h1 h2;rw[List.length_map]at h2;rw[List.getElem_take,Array.getElem_toList,List.getElem_map];unfold Sort.putCells;rw[Array.getElem_mapIdx,if_pos ⟨Nat.zero_le _,by simpa using h2⟩];simp[h2]
end Go.Proofs.YtckdohagilcloaaGreatDoor
namespace Go.Proofs
open Go.Shelf
def Tryz.sortS_ren:Go.Shelf.Ren:=⟨fun|6=>45|8=>42|9=>92|19=>88|20=>89|21=>161|22=>162|23=>163|24=>164|25=>165|26=>166|27=>167|28=>168|29=>169|36=>213|31=>157|32=>158|37=>214|38=>215|39=>216|41=>244|n=>n,fun|27=>42|29=>9|3=>3|32=>110|26=>42|0=>0|44=>169|46=>171|4=>4|36=>162|35=>161|41=>166|5=>5|9=>9|53=>228|57=>232|63=>284|64=>285|n=>n,fun|n=>n⟩
theorem Tryz.sortS:Go.Proofs.SlLaysM.n6 Tryz.prog Tryz.sortS_ren:={
 mixed:=by kernel_rfl
 f6:=⟨Tryz.f45.name,by decide,Fq Tryz.func45⟩
 f8:=Fq Tryz.func42
 f9:=⟨Tryz.f92.name,by decide,Fq Tryz.func92⟩
 f19:=Fq Tryz.func88
 f20:=Fq Tryz.func89
 f21:=⟨Tryz.f161.name,by decide,Fq Tryz.func161⟩
 f22:=⟨Tryz.f162.name,by decide,Fq Tryz.func162⟩
 f23:=⟨Tryz.f163.name,by decide,Fq Tryz.func163⟩
 f24:=⟨Tryz.f164.name,by decide,Fq Tryz.func164⟩
 f25:=⟨Tryz.f165.name,by decide,Fq Tryz.func165⟩
 f26:=⟨Tryz.f166.name,by decide,Fq Tryz.func166⟩
 f27:=⟨Tryz.f167.name,by decide,Fq Tryz.func167⟩
 f28:=⟨Tryz.f168.name,by decide,Fq Tryz.func168⟩
 f29:=⟨Tryz.f169.name,by decide,Fq Tryz.func169⟩
 f31:=Fq Tryz.func157
 f32:=Fq Tryz.func158
 f36:=⟨Tryz.f213.name,by decide,Fq Tryz.func213⟩
 f37:=⟨Tryz.f214.name,by decide,Fq Tryz.func214⟩
 f38:=⟨Tryz.f215.name,by decide,Fq Tryz.func215⟩
 f39:=⟨Tryz.f216.name,by decide,Fq Tryz.func216⟩
 f41:=⟨Tryz.f244.name,by decide,Fq Tryz.func244⟩
 t0:=Tryz.underlying0
 a0:=Tryz.isAgg0
 z0:=Tryz.sizeOf0
 v0:=Tryz.zeroValue0
 t3:=Tryz.underlying3
 a3:=Tryz.isAgg3
 z3:=Tryz.sizeOf3
 v3:=Tryz.zeroValue3
 t4:=Tryz.underlying4
 a4:=Tryz.isAgg4
 z4:=Tryz.sizeOf4
 v4:=Tryz.zeroValue4
 t5:=Tryz.underlying5
 a5:=Tryz.isAgg5
 z5:=Tryz.sizeOf5
 v5:=Tryz.zeroValue5
 t9:=Tryz.underlying9
 a9:=Tryz.isAgg9
 z9:=Tryz.sizeOf9
 v9:=Tryz.zeroValue9
 t26:=Tryz.underlying42
 a26:=Tryz.isAgg42
 z26:=Tryz.sizeOf42
 v26:=Tryz.zeroValue42
 t27:=Tryz.underlying42
 a27:=Tryz.isAgg42
 z27:=Tryz.sizeOf42
 v27:=Tryz.zeroValue42
 t29:=Tryz.underlying9
 a29:=Tryz.isAgg9
 z29:=Tryz.sizeOf9
 v29:=Tryz.zeroValue9
 t32:=Tryz.underlying110
 a32:=Tryz.isAgg110
 z32:=Tryz.sizeOf110
 v32:=Tryz.zeroValue110
 t35:=Tryz.underlying161
 a35:=Tryz.isAgg161
 z35:=Tryz.sizeOf161
 v35:=Tryz.zeroValue161
 t36:=Tryz.underlying162
 a36:=Tryz.isAgg162
 z36:=Tryz.sizeOf162
 v36:=Tryz.zeroValue162
 t41:=Tryz.underlying166
 a41:=Tryz.isAgg166
 z41:=Tryz.sizeOf166
 v41:=Tryz.zeroValue166
 t44:=Tryz.underlying169
 a44:=Tryz.isAgg169
 z44:=Tryz.sizeOf169
 v44:=Tryz.zeroValue169
 t46:=Tryz.underlying171
 a46:=Tryz.isAgg171
 z46:=Tryz.sizeOf171
 v46:=Tryz.zeroValue171
 t53:=Tryz.underlying228
 a53:=Tryz.isAgg228
 z53:=Tryz.sizeOf228
 v53:=Tryz.zeroValue228
 t57:=Tryz.underlying232
 a57:=Tryz.isAgg232
 z57:=Tryz.sizeOf232
 v57:=Tryz.zeroValue232
 t63:=Tryz.underlying284
 a63:=Tryz.isAgg284
 z63:=Tryz.sizeOf284
 v63:=Tryz.zeroValue284
 t64:=Tryz.underlying285
 a64:=Tryz.isAgg285
 z64:=Tryz.sizeOf285
 v64:=Tryz.zeroValue285}
end Go.Proofs
