/-
  DERIVED: THE SHELF's CONTRACTS AT THIS DUMP, IN PLAIN WORDS (tools/lay-plain.mjs out of 'TryzShelfS.lean', which tools/lay-shelf.mjs wrote): THE SAME DECLARATIONS UNDER THE SAME NAMES: 'import', 'namespace', 'open', 'def', 'theorem' AND NOTHING ELSE: no command of the shelf's: FOR A HAND-IN. Each laying: the table of numbers ('.._ren') and one theorem, a field a fact of the dump's own or the kernel's comparison; each contract: ONE APPLICATION.
-/
import Derived.Shelf.SlGeneric
import Derived.Shelf.SortM.Plain
import Derived.Shelf.SortM.SortNone
import Derived.Ground.SlgmProg
import Derived.Test.YtolpmfhiegpohaaGreatDoorProg
import Derived.Test.YtolpmfhiegpohaaGreatDoorQBmSw
import Derived.Test.YtolpmfhiegpohaaGreatDoorQFor
import Derived.Lib.AtoiErrMem
namespace Go.Proofs
open Go.Shelf
def Tryz.sortS_ren:Go.Shelf.Ren:=⟨fun|6=>225|8=>70|9=>261|19=>131|20=>132|21=>294|22=>295|23=>296|24=>297|25=>298|26=>299|27=>300|28=>301|29=>302|36=>325|31=>174|32=>175|37=>326|38=>327|39=>328|41=>340|n=>n,fun|27=>65|29=>9|3=>3|32=>138|26=>65|0=>0|44=>195|46=>197|4=>4|36=>188|35=>187|41=>192|5=>5|9=>9|53=>237|57=>241|63=>286|64=>287|n=>n,fun|n=>n⟩
theorem Tryz.sortS:Go.Proofs.SlLaysM.n6 Tryz.prog Tryz.sortS_ren:={
 mixed:=by kernel_rfl
 f6:=⟨Tryz.f225.name,by decide,Tryz.func225.trans (congrArg some (by kernel_rfl))⟩
 f8:=Tryz.func70.trans (congrArg some (by kernel_rfl))
 f9:=⟨Tryz.f261.name,by decide,Tryz.func261.trans (congrArg some (by kernel_rfl))⟩
 f19:=Tryz.func131.trans (congrArg some (by kernel_rfl))
 f20:=Tryz.func132.trans (congrArg some (by kernel_rfl))
 f21:=⟨Tryz.f294.name,by decide,Tryz.func294.trans (congrArg some (by kernel_rfl))⟩
 f22:=⟨Tryz.f295.name,by decide,Tryz.func295.trans (congrArg some (by kernel_rfl))⟩
 f23:=⟨Tryz.f296.name,by decide,Tryz.func296.trans (congrArg some (by kernel_rfl))⟩
 f24:=⟨Tryz.f297.name,by decide,Tryz.func297.trans (congrArg some (by kernel_rfl))⟩
 f25:=⟨Tryz.f298.name,by decide,Tryz.func298.trans (congrArg some (by kernel_rfl))⟩
 f26:=⟨Tryz.f299.name,by decide,Tryz.func299.trans (congrArg some (by kernel_rfl))⟩
 f27:=⟨Tryz.f300.name,by decide,Tryz.func300.trans (congrArg some (by kernel_rfl))⟩
 f28:=⟨Tryz.f301.name,by decide,Tryz.func301.trans (congrArg some (by kernel_rfl))⟩
 f29:=⟨Tryz.f302.name,by decide,Tryz.func302.trans (congrArg some (by kernel_rfl))⟩
 f31:=Tryz.func174.trans (congrArg some (by kernel_rfl))
 f32:=Tryz.func175.trans (congrArg some (by kernel_rfl))
 f36:=⟨Tryz.f325.name,by decide,Tryz.func325.trans (congrArg some (by kernel_rfl))⟩
 f37:=⟨Tryz.f326.name,by decide,Tryz.func326.trans (congrArg some (by kernel_rfl))⟩
 f38:=⟨Tryz.f327.name,by decide,Tryz.func327.trans (congrArg some (by kernel_rfl))⟩
 f39:=⟨Tryz.f328.name,by decide,Tryz.func328.trans (congrArg some (by kernel_rfl))⟩
 f41:=⟨Tryz.f340.name,by decide,Tryz.func340.trans (congrArg some (by kernel_rfl))⟩
 t0:=Tryz.underlying0
 a0:=Tryz.isAgg0
 z0:=Tryz.sizeOf0
 v0:=Tryz.zeroValue0
 t3:=Tryz.underlying3
 a3:=Tryz.isAgg3
 z3:=Tryz.sizeOf3
 v3:=Tryz.zeroValue3
 t4:=Tryz.underlying4
 a4:=Tryz.isAgg4
 z4:=Tryz.sizeOf4
 v4:=Tryz.zeroValue4
 t5:=Tryz.underlying5
 a5:=Tryz.isAgg5
 z5:=Tryz.sizeOf5
 v5:=Tryz.zeroValue5
 t9:=Tryz.underlying9
 a9:=Tryz.isAgg9
 z9:=Tryz.sizeOf9
 v9:=Tryz.zeroValue9
 t26:=Tryz.underlying65
 a26:=Tryz.isAgg65
 z26:=Tryz.sizeOf65
 v26:=Tryz.zeroValue65
 t27:=Tryz.underlying65
 a27:=Tryz.isAgg65
 z27:=Tryz.sizeOf65
 v27:=Tryz.zeroValue65
 t29:=Tryz.underlying9
 a29:=Tryz.isAgg9
 z29:=Tryz.sizeOf9
 v29:=Tryz.zeroValue9
 t32:=Tryz.underlying138
 a32:=Tryz.isAgg138
 z32:=Tryz.sizeOf138
 v32:=Tryz.zeroValue138
 t35:=Tryz.underlying187
 a35:=Tryz.isAgg187
 z35:=Tryz.sizeOf187
 v35:=Tryz.zeroValue187
 t36:=Tryz.underlying188
 a36:=Tryz.isAgg188
 z36:=Tryz.sizeOf188
 v36:=Tryz.zeroValue188
 t41:=Tryz.underlying192
 a41:=Tryz.isAgg192
 z41:=Tryz.sizeOf192
 v41:=Tryz.zeroValue192
 t44:=Tryz.underlying195
 a44:=Tryz.isAgg195
 z44:=Tryz.sizeOf195
 v44:=Tryz.zeroValue195
 t46:=Tryz.underlying197
 a46:=Tryz.isAgg197
 z46:=Tryz.sizeOf197
 v46:=Tryz.zeroValue197
 t53:=Tryz.underlying237
 a53:=Tryz.isAgg237
 z53:=Tryz.sizeOf237
 v53:=Tryz.zeroValue237
 t57:=Tryz.underlying241
 a57:=Tryz.isAgg241
 z57:=Tryz.sizeOf241
 v57:=Tryz.zeroValue241
 t63:=Tryz.underlying286
 a63:=Tryz.isAgg286
 z63:=Tryz.sizeOf286
 v63:=Tryz.zeroValue286
 t64:=Tryz.underlying287
 a64:=Tryz.isAgg287
 z64:=Tryz.sizeOf287
 v64:=Tryz.zeroValue287}
end Go.Proofs
namespace Go.Proofs.YtolpmfhiegpohaaGreatDoor
set_option linter.unusedVariables false
set_option linter.unusedSimpArgs false
open Go Go.RowKit Go.Shelf
abbrev ty0:Ty:= .np (.pr (.np .un) (.pr (.mp .bool) (.pr .bool .bool)))
abbrev ty1:Ty:= .pr (.int .i64) (.pr .str (.pr (.int .i64) (.int .i64)))
abbrev ty2:Ty:= .pr (.pr .str (.pr .str (.pr (.sl (.pr .str .str)) (.sl (.pr .str (.pr .bool (.sl .u8))))))) (.pr (.int .i64) (.pr (.int .i64) (.pr (.int .i64) (.pr (.mp ty0) (.mp (.pr .str (.pr .str (.sl (.pr .str (.rc .value))))))))))
abbrev ty3:Ty:= .pr .str (.pr .str (.sl (.pr .str (.rc .value))))
abbrev ty4:Ty:= .pr (.rc .value) (.np (.pr ty0 (.pr (.rc .stmt) .bool)))
abbrev ty5:Ty:= .pr .str (.pr .bool (.sl .u8))
abbrev ty6:Ty:= .pr .str (.rc .value)
abbrev ty7:Ty:= .int .i64
abbrev ty8:Ty:= .pr .bool (.pr .bool (.pr .bool (.pr .bool (.pr .bool (.pr .bool .bool)))))
abbrev ty9:Ty:= .pr .str (.pr .str (.pr (.sl (.pr .str .str)) (.sl ty5)))
def R0(x y:c8):Bool:=decide (x<=y)
def u0(xs:List c8):Option (List c8):=if xs.length<4611686018427387904 then some (xs.mergeSort R0)else none
theorem P2:Sound Tryz.prog GW B7 225 ⟨[.row 0],[.row 9 .str true],[],[.row 9 .str true,.none],List c8,fun z=>((),(z,((),()))),fun x y=>u0 y.1⟩:=by
 refine Sound.ofRowKept (ps:=[]) (t:= .str) (F:=fun x xs=>u0 xs) Tryz.call225 (by decide) fun M w g v0 vs x xs zs cs hG hMl hM hown hels hA hz=>?_
 match vs,hA with
 |[],hA=>
  change u0 xs=some zs at hz
  unfold u0 at hz
  split at hz
  case isFalse=>cases hz
  rename_i hbig
  injection hz with hz
  have hl:=hown.1
  have hl':cs.length=xs.length:=by rw[hl];exact Nat.mul_one _
  have hcs:=c5c hl' hels
  have hzl:zs.length=xs.length:=by rw[<-hz];exact List.length_mergeSort _
  rcases hown.2 with⟨e1,e2⟩|⟨b,cap,cur,e1,_,hg,hle,hmax,hsz,htk⟩
  ·have hx0:xs=[]:=List.eq_nil_of_length_eq_zero e2
   subst hx0 e1
   refine(AnyM.slices_Sort_string_none Tryz.sortS none 0 w).mono fun e w' hp=>?_
   obtain⟨rfl,rfl⟩:=hp
   have hz0:zs=[]:=List.eq_nil_of_length_eq_zero hzl
   subst hz0
   exact⟨[],rfl,ExtX.refl _ _,⟨rfl,.inl ⟨rfl,rfl⟩⟩,fun i h=>absurd h (Nat.not_lt_zero _)⟩
  ·subst e1
   have hsz':cur.size=cap:=by rw[hsz];exact Nat.mul_one _
   have htk':cur.toList.take xs.length=xs.map fun x=>Value.string ⟨x.toArray⟩:=by rw[<-hcs,<-htk];congr 1;exact(Nat.mul_one _).symm
   have hb:b<w.heap.size:=by
    apply Classical.byContradiction
    intro hn
    rw[Array.getElem?_eq_none (by omega)]at hg
    cases hg
   have hH:Sort.Holds encStr w b 0 xs.toArray:=fun k hk=>by
    have hk:k<xs.length:=by simpa using hk
    have h1:cur.toList[k]? = some (Value.string ⟨xs[k].toArray⟩):=by
     have:=congrArg (fun l=>l[k]?) htk'
     simp only[List.getElem?_take,hk,if_true,List.getElem?_map,List.getElem?_eq_getElem hk,Option.map_some]at this
     exact this
    refine⟨?_,by unfold World.frozen?;rw[hg];simp⟩
    rw[Nat.zero_add]
    have e:encStr xs.toArray[k]! = Value.string ⟨xs[k].toArray⟩:=by simp[encStr,hk]
    rw[e]
    unfold World.cell?
    rw[hg]
    simpa using h1
   refine(AnyM.slices_Sort_string Tryz.sortS b 0 cap xs w hH hb hbig).mono fun e w' hp=>?_
   obtain⟨rfl,n,os,rfl⟩:=hp
   have ez:(xs.mergeSort fun x y=>decide (x<=y))=zs:=hz
   rw[ez]
   refine⟨zs.map fun x=>Value.string ⟨x.toArray⟩,rfl,(c7e encStr).mono (fun k hk=>by simpa [Value.ownBlock]using hk),⟨by rw[List.length_map];exact(Nat.mul_one _).symm,.inr ⟨b,cap,_,by rw[hzl],Nat.zero_le _,c0m encStr hg,by omega,hmax,?_,?_⟩⟩,b87 _⟩
   ·rw[a7s];exact hsz
   ·rw[show zs.length*Ty.sz .str=zs.length from Nat.mul_one _]
    exact b6R encStr zs cur (by omega)
end Go.Proofs.YtolpmfhiegpohaaGreatDoor
namespace Go.Proofs.YtolpmfhiegpohaaGreatDoor
set_option linter.unusedVariables false
open Go
theorem Sound.less{P:Program}{G:World->Prop}{B0:Nat}{f:FuncId}{ps bs rs cs} {R:Type} {out:R->SV rs×BV cs} {F F':SV ps->BV bs->Option R} (h:Sound P G B0 f ⟨ps,bs,rs,cs,R,out,F⟩) (e:∀x y z,F' x y=some z->F x y=some z):Sound P G B0 f ⟨ps,bs,rs,cs,R,out,F'⟩:=
 ⟨h.1,fun M w g vs x y z h1 h2 h3 h4=>h.2 M w g vs x y z h1 h2 h3 (e _ _ _ h4)⟩
def c2M(a:c8):List c8->List c8
 |[]=>[a]
 |b :: l=>match R0 a b with
  |true=>a :: b :: l
  |false=>b :: c2M a l
def b3X:List c8->List c8 | []=>[]|a :: l=>c2M a (b3X l)
theorem b0S(a:c8):∀l,(c2M a l).Perm (a :: l)
 |[]=>List.Perm.refl _
 |b :: l=>by
  unfold c2M
  split
  ·exact List.Perm.refl _
  ·exact((b0S a l).cons b).trans (List.Perm.swap a b l)
theorem b2w:∀l,(b3X l).Perm l
 |[]=>List.Perm.refl _
 |a :: l=>(b0S a _).trans ((b2w l).cons a)
theorem b2u(a:c8):∀l:List c8,l.Pairwise (·<=·)->(c2M a l).Pairwise (·<=·)
 |[],_=>by simp[c2M]
 |b :: l,h=>by
  obtain⟨h1,h2⟩:=List.pairwise_cons.1 h
  unfold c2M
  split
  ·rename_i hab
   have hab:a<=b:=by simpa [R0]using hab
   refine List.pairwise_cons.2 ⟨fun c hc=>?_,h⟩
   rcases List.mem_cons.1 hc with rfl|hc
   ·exact hab
   ·exact List.le_trans hab (h1 c hc)
  ·rename_i hab
   have hba:b<=a:=by
    rcases List.le_total a b with h|h
    ·exact absurd (show R0 a b=true by simpa [R0]using h) (by rw[hab];simp)
    ·exact h
   refine List.pairwise_cons.2 ⟨fun c hc=>?_,b2u a l h2⟩
   rcases List.mem_cons.1 ((b0S a l).mem_iff.1 hc)with rfl|hc
   ·exact hba
   ·exact h1 c hc
theorem a7p:∀l,(b3X l).Pairwise (·<=·)
 |[]=>List.Pairwise.nil
 |a :: l=>b2u a _ (a7p l)
theorem b2x:∀(l1 l2:List c8),l1.Perm l2->l1.Pairwise (·<=·)->l2.Pairwise (·<=·)->l1=l2
 |[],l2,h,_,_=>(List.nil_perm.1 h).symm
 |a :: l1,[],h,_,_=>by have:=h.length_eq;simp at this
 |a :: l1,b :: l2,h,h1,h2=>by
  have hab:a=b:=by
   apply Classical.byContradiction
   intro hne
   have ha:a∈b :: l2:=h.subset (List.mem_cons_self ..)
   have hb:b∈a :: l1:=h.symm.subset (List.mem_cons_self ..)
   rcases List.mem_cons.1 ha with e|ha
   ·exact hne e
   ·rcases List.mem_cons.1 hb with e|hb
    ·exact hne e.symm
    ·exact hne (List.le_antisymm ((List.pairwise_cons.1 h1).1 b hb) ((List.pairwise_cons.1 h2).1 a ha))
  subst hab
  rw[b2x l1 l2 (List.Perm.cons_inv h) (List.pairwise_cons.1 h1).2 (List.pairwise_cons.1 h2).2]
theorem c6W(l:List c8):b3X l=l.mergeSort R0:=by
 refine b2x _ _ ((b2w l).trans (List.mergeSort_perm l R0).symm) (a7p l) ?_
 have:=List.pairwise_mergeSort (le:=R0) (fun a b c h1 h2=>by
  simp only[R0,decide_eq_true_eq]at *
  exact List.le_trans h1 h2) (fun a b=>by
  simp only[R0,Bool.or_eq_true,decide_eq_true_eq]
  exact List.le_total _ _) l
 exact this.imp fun h=>by simpa [R0]using h
def a0o(xs:List c8):Option (List c8):=match Nat.blt xs.length 1000 with
 |true=>some (b3X xs)
 |false=>none
theorem a2U:Sound Tryz.prog GW B7 225 ⟨[.row 0],[.row 9 .str true],[],[.row 9 .str true,.none],List c8,fun z=>((),(z,((),()))),fun x y=>a0o y.1⟩:=
 P2.less fun x y z h=>by
  unfold a0o at h
  split at h
  ·rename_i hl
   cases h
   have hl:y.1.length<1000:=by rw[Nat.blt_eq]at hl;exact hl
   unfold u0
   rw[if_pos (by omega),c6W]
  ·cases h
end Go.Proofs.YtolpmfhiegpohaaGreatDoor
namespace Go.Proofs.YtolpmfhiegpohaaGreatDoor.Aw
open Go Go.RowKit
set_option maxRecDepth 100000
set_option maxHeartbeats 4000000
abbrev F0(f:SV [.v .str,.v .u8]->BV []->Option (Int)):AF:={ps:=[.v .str,.v .u8],bs:=[],rs:=[.v ty7],cs:=[],R:=Int,out:=fun z=>((z,()),()),f:=f}
abbrev a1Z(f:SV [.v .str,.v .str]->BV []->Option (Int)):AF:={ps:=[.v .str,.v .str],bs:=[],rs:=[.v ty7],cs:=[],R:=Int,out:=fun z=>((z,()),()),f:=f}
abbrev a0O(f:SV [.v .str,.v .str]->BV []->Option (List c8)):AF:={ps:=[.v .str,.v .str],bs:=[],rs:=[.v (.sl .str)],cs:=[],R:=List c8,out:=fun z=>((z,()),()),f:=f}
theorem a8h:TyOk Tryz.prog 1 (.clo 0 .un):=⟨_,by kernel_rfl,Tryz.underlying1,rfl⟩
theorem r9:TyOk Tryz.prog 3 ty7:=⟨_,by kernel_rfl,Tryz.underlying3,rfl⟩
theorem y8:TyOk Tryz.prog 4 .bool:=⟨_,by kernel_rfl,Tryz.underlying4,rfl⟩
theorem a15:TyOk Tryz.prog 5 .u8:=⟨_,by kernel_rfl,Tryz.underlying5,rfl⟩
theorem n5:TyOk Tryz.prog 9 .str:=⟨_,by kernel_rfl,Tryz.underlying9,rfl⟩
theorem C7:TyOk Tryz.prog 65 (.sl .str):=⟨_,by kernel_rfl,Tryz.underlying65,rfl⟩
theorem a4v:TyOk Tryz.prog 171 (.sl ty6):=⟨_,by kernel_rfl,Tryz.underlying171,rfl⟩
theorem B2:TyOk Tryz.prog 173 (.rc .value):=⟨_,by kernel_rfl,Tryz.underlying173,rfl⟩
theorem a2C:TyOk Tryz.prog 23 ty7:=⟨_,by kernel_rfl,Tryz.underlying23,rfl⟩
theorem a2s:TyOk Tryz.prog 45 (.sl ty3):=⟨_,by kernel_rfl,Tryz.underlying45,rfl⟩
theorem a14:TyOk Tryz.prog 47 (.pr .str (.sl ty3)):=⟨_,by kernel_rfl,Tryz.underlying47,rfl⟩
theorem a4u:TyOk Tryz.prog 54 (.sl ty6):=⟨_,by kernel_rfl,Tryz.underlying54,rfl⟩
theorem N4:TyOk Tryz.prog 56 ty3:=⟨_,by kernel_rfl,Tryz.underlying56,rfl⟩
theorem F2:TyOk Tryz.prog 22 (.sl ty1):=⟨_,by kernel_rfl,Tryz.underlying22,rfl⟩
theorem E4:TyOk Tryz.prog 42 ty1:=⟨_,by kernel_rfl,Tryz.underlying42,rfl⟩
theorem a4G:TyOk Tryz.prog 28 (.clo 0 .un):=⟨_,by kernel_rfl,Tryz.underlying28,rfl⟩
theorem a10:TyOk Tryz.prog 50 (.sl (.pr .str .str)):=⟨_,by kernel_rfl,Tryz.underlying50,rfl⟩
theorem a4w:TyOk Tryz.prog 51 (.sl ty5):=⟨_,by kernel_rfl,Tryz.underlying51,rfl⟩
theorem W0:TyOk Tryz.prog 53 ty9:=⟨_,by kernel_rfl,Tryz.underlying53,rfl⟩
theorem Z9:TyOk Tryz.prog 276 ty6:=⟨_,by kernel_rfl,Tryz.underlying276,rfl⟩
theorem Z8:TyOk Tryz.prog 282 ty6:=⟨_,by kernel_rfl,Tryz.underlying282,rfl⟩
theorem U1:TyOk Tryz.prog 101 (.mp ty3):=⟨_,by kernel_rfl,Tryz.underlying101,rfl⟩
theorem a8g:TyOk Tryz.prog 38 (.np (.pr .str (.pr ty7 (.sl ty1)))):=⟨_,by kernel_rfl,Tryz.underlying38,rfl⟩
theorem L5:TyOk Tryz.prog 40 (.pr .str (.pr ty7 (.sl ty1))):=⟨_,by kernel_rfl,Tryz.underlying40,rfl⟩
theorem C4:TyOk Tryz.prog 30 (.sl (.rc .stmt)):=⟨_,by kernel_rfl,Tryz.underlying30,rfl⟩
theorem a5f:TyOk Tryz.prog 99 (.np ty2):=⟨_,by kernel_rfl,Tryz.underlying99,rfl⟩
theorem P3:TyOk Tryz.prog 100 (.mp ty0):=⟨_,by kernel_rfl,Tryz.underlying100,rfl⟩
theorem a05:TyOk Tryz.prog 103 ty2:=⟨_,by kernel_rfl,Tryz.underlying103,rfl⟩
theorem U0:TyOk Tryz.prog 104 ty0:=⟨_,by kernel_rfl,Tryz.underlying104,rfl⟩
theorem Y6:TyOk Tryz.prog 107 (.np .un):=⟨_,by kernel_rfl,Tryz.underlying107,rfl⟩
theorem a04:TyOk Tryz.prog 108 (.mp .bool):=⟨_,by kernel_rfl,Tryz.underlying108,rfl⟩
theorem a06:TyOk Tryz.prog 110 (.pr (.np .un) (.pr (.mp .bool) (.pr .bool .bool))):=⟨_,by kernel_rfl,Tryz.underlying110,rfl⟩
theorem W7:TyOk Tryz.prog 113 (.clo 0 .un):=⟨_,by kernel_rfl,Tryz.underlying113,rfl⟩
theorem a2Y:TyOk Tryz.prog 328 (.clo 0 .un):=⟨_,by kernel_rfl,Tryz.underlying328,rfl⟩
theorem a0q:TyOk Tryz.prog 325 (.clo 0 .un):=⟨_,by kernel_rfl,Tryz.underlying325,rfl⟩
theorem a2X:TyOk Tryz.prog 332 (.clo 0 .un):=⟨_,by kernel_rfl,Tryz.underlying332,rfl⟩
theorem a5g:TyOk Tryz.prog 92 (.clo 0 .un):=⟨_,by kernel_rfl,Tryz.underlying92,rfl⟩
theorem c7p:TyOk Tryz.prog 138 (.int .u64):=⟨_,by kernel_rfl,Tryz.underlying138,rfl⟩
theorem b2V:TyOk Tryz.prog 95 (.np ty1):=⟨_,by kernel_rfl,Tryz.underlying95,rfl⟩
theorem a1b:TyOk Tryz.prog 34 (.clo 0 .un):=⟨_,by kernel_rfl,Tryz.underlying34,rfl⟩
theorem U2:TyOk Tryz.prog 131 (.pr .str .str):=⟨_,by kernel_rfl,Tryz.underlying131,rfl⟩
theorem W4:TyOk Tryz.prog 59 (.np (.pr (.sl ty1) (.pr ty7 ty7))):=⟨_,by kernel_rfl,Tryz.underlying59,rfl⟩
theorem K7:TyOk Tryz.prog 61 (.pr (.sl ty1) (.pr ty7 ty7)):=⟨_,by kernel_rfl,Tryz.underlying61,rfl⟩
theorem T9:TyOk Tryz.prog 66 (.sl (.pr .str (.rc .expr))):=⟨_,by kernel_rfl,Tryz.underlying66,rfl⟩
theorem R4:TyOk Tryz.prog 67 (.sl (.rc .expr)):=⟨_,by kernel_rfl,Tryz.underlying67,rfl⟩
theorem q9:TyOk Tryz.prog 69 (.rc .expr):=⟨_,by kernel_rfl,Tryz.underlying69,rfl⟩
theorem y3:TyOk Tryz.prog 71 (.rc .stmt):=⟨_,by kernel_rfl,Tryz.underlying71,rfl⟩
theorem b2U:TyOk Tryz.prog 386 (.sl (.sl .str)):=⟨_,by kernel_rfl,Tryz.underlying386,rfl⟩
theorem a3E:TyOk Tryz.prog 187 ty7:=⟨_,by kernel_rfl,Tryz.underlying187,rfl⟩
theorem c0u:TyOk Tryz.prog 195 (.int .u32):=⟨_,by kernel_rfl,Tryz.underlying195,rfl⟩
theorem c0v:TyOk Tryz.prog 197 (.int .u64):=⟨_,by kernel_rfl,Tryz.underlying197,rfl⟩
theorem a9b:TyOk Tryz.prog 84 (.sl .u8):=⟨_,by kernel_rfl,Tryz.underlying84,rfl⟩
theorem a0a:TyOk Tryz.prog 166 ty5:=⟨_,by kernel_rfl,Tryz.underlying166,rfl⟩
theorem a2f:TyOk Tryz.prog 115 (.pr ty7 .un):=⟨_,by kernel_rfl,Tryz.underlying115,rfl⟩
theorem R5:TyOk Tryz.prog 168 (.mp ty4):=⟨_,by kernel_rfl,Tryz.underlying168,rfl⟩
theorem a1A:TyOk Tryz.prog 170 (.pr (.np .un) (.pr (.mp ty4) (.sl .str))):=⟨_,by kernel_rfl,Tryz.underlying170,rfl⟩
theorem a11:TyOk Tryz.prog 177 (.np (.pr ty0 (.pr (.rc .stmt) .bool))):=⟨_,by kernel_rfl,Tryz.underlying177,rfl⟩
theorem S7:TyOk Tryz.prog 179 ty4:=⟨_,by kernel_rfl,Tryz.underlying179,rfl⟩
theorem a1z:TyOk Tryz.prog 183 (.pr ty0 (.pr (.rc .stmt) .bool)):=⟨_,by kernel_rfl,Tryz.underlying183,rfl⟩
theorem a5h:TyOk Tryz.prog 237 (.int .u64):=⟨_,by kernel_rfl,Tryz.underlying237,rfl⟩
theorem c7o:TyOk Tryz.prog 241 (.np ty7):=⟨_,by kernel_rfl,Tryz.underlying241,rfl⟩
theorem e1j:TyOk Tryz.prog 144 (.np (.rc .stmt)):=⟨_,by kernel_rfl,Tryz.underlying144,rfl⟩
theorem K6:TyOk Tryz.prog 146 ty8:=⟨_,by kernel_rfl,Tryz.underlying146,rfl⟩
theorem G5:TyOk Tryz.prog 75 (.pr .str (.rc .expr)):=⟨_,by kernel_rfl,Tryz.underlying75,rfl⟩
theorem a2e:TyOk Tryz.prog 231 (.mp (.rc .value)):=⟨_,by kernel_rfl,Tryz.underlying231,rfl⟩
theorem a12:TyOk Tryz.prog 235 (.clo 0 .un):=⟨_,by kernel_rfl,Tryz.underlying235,rfl⟩
theorem a4F:TyOk Tryz.prog 286 (.np (.int .u64)):=⟨_,by kernel_rfl,Tryz.underlying286,rfl⟩
theorem M9:TyOk Tryz.prog 199 (.sl (.rc .part)):=⟨_,by kernel_rfl,Tryz.underlying199,rfl⟩
theorem C5:TyOk Tryz.prog 201 (.rc .part):=⟨_,by kernel_rfl,Tryz.underlying201,rfl⟩
theorem b1d:TyOk Tryz.prog 269 (.sl (.rc .value)):=⟨_,by kernel_rfl,Tryz.underlying269,rfl⟩
theorem a0y:TyOk Tryz.prog 284 (.clo 0 .un):=⟨_,by kernel_rfl,Tryz.underlying284,rfl⟩
theorem a1y:TyOk Tryz.prog 246 (.clo 0 .un):=⟨_,by kernel_rfl,Tryz.underlying246,rfl⟩
theorem a4H:TyOk Tryz.prog 247 (.clo 0 .un):=⟨_,by kernel_rfl,Tryz.underlying247,rfl⟩
theorem c0t:TyOk Tryz.prog 397 (.sl .bool):=⟨_,by kernel_rfl,Tryz.underlying397,rfl⟩
theorem a13:TyOk Tryz.prog 399 (.clo 0 .un):=⟨_,by kernel_rfl,Tryz.underlying399,rfl⟩
def tyT:TypeId->Option Ty:=fun T=>
 match T with
 |1=>some (.clo 0 .un)
 |3=>some ty7
 |4=>some .bool
 |5=>some .u8
 |9=>some .str
 |65=>some (.sl .str)
 |171=>some (.sl ty6)
 |173=>some (.rc .value)
 |23=>some ty7
 |45=>some (.sl ty3)
 |47=>some (.pr .str (.sl ty3))
 |54=>some (.sl ty6)
 |56=>some ty3
 |22=>some (.sl ty1)
 |42=>some ty1
 |28=>some (.clo 0 .un)
 |50=>some (.sl (.pr .str .str))
 |51=>some (.sl ty5)
 |53=>some ty9
 |276=>some ty6
 |282=>some ty6
 |101=>some (.mp ty3)
 |38=>some (.np (.pr .str (.pr ty7 (.sl ty1))))
 |40=>some (.pr .str (.pr ty7 (.sl ty1)))
 |30=>some (.sl (.rc .stmt))
 |99=>some (.np ty2)
 |100=>some (.mp ty0)
 |103=>some ty2
 |104=>some ty0
 |107=>some (.np .un)
 |108=>some (.mp .bool)
 |110=>some (.pr (.np .un) (.pr (.mp .bool) (.pr .bool .bool)))
 |113=>some (.clo 0 .un)
 |328=>some (.clo 0 .un)
 |325=>some (.clo 0 .un)
 |332=>some (.clo 0 .un)
 |92=>some (.clo 0 .un)
 |138=>some (.int .u64)
 |95=>some (.np ty1)
 |34=>some (.clo 0 .un)
 |131=>some (.pr .str .str)
 |59=>some (.np (.pr (.sl ty1) (.pr ty7 ty7)))
 |61=>some (.pr (.sl ty1) (.pr ty7 ty7))
 |66=>some (.sl (.pr .str (.rc .expr)))
 |67=>some (.sl (.rc .expr))
 |69=>some (.rc .expr)
 |71=>some (.rc .stmt)
 |386=>some (.sl (.sl .str))
 |187=>some ty7
 |195=>some (.int .u32)
 |197=>some (.int .u64)
 |84=>some (.sl .u8)
 |166=>some ty5
 |115=>some (.pr ty7 .un)
 |168=>some (.mp ty4)
 |170=>some (.pr (.np .un) (.pr (.mp ty4) (.sl .str)))
 |177=>some (.np (.pr ty0 (.pr (.rc .stmt) .bool)))
 |179=>some ty4
 |183=>some (.pr ty0 (.pr (.rc .stmt) .bool))
 |237=>some (.int .u64)
 |241=>some (.np ty7)
 |144=>some (.np (.rc .stmt))
 |146=>some ty8
 |75=>some (.pr .str (.rc .expr))
 |231=>some (.mp (.rc .value))
 |235=>some (.clo 0 .un)
 |286=>some (.np (.int .u64))
 |199=>some (.sl (.rc .part))
 |201=>some (.rc .part)
 |269=>some (.sl (.rc .value))
 |284=>some (.clo 0 .un)
 |246=>some (.clo 0 .un)
 |247=>some (.clo 0 .un)
 |397=>some (.sl .bool)
 |399=>some (.clo 0 .un)
 |_=>none
theorem b1e:∀T t,tyT T=some t->TyOk Tryz.prog T t:=by
 intro T t h
 unfold tyT at h
 split at h
 ·cases h;exact a8h
 ·cases h;exact r9
 ·cases h;exact y8
 ·cases h;exact a15
 ·cases h;exact n5
 ·cases h;exact C7
 ·cases h;exact a4v
 ·cases h;exact B2
 ·cases h;exact a2C
 ·cases h;exact a2s
 ·cases h;exact a14
 ·cases h;exact a4u
 ·cases h;exact N4
 ·cases h;exact F2
 ·cases h;exact E4
 ·cases h;exact a4G
 ·cases h;exact a10
 ·cases h;exact a4w
 ·cases h;exact W0
 ·cases h;exact Z9
 ·cases h;exact Z8
 ·cases h;exact U1
 ·cases h;exact a8g
 ·cases h;exact L5
 ·cases h;exact C4
 ·cases h;exact a5f
 ·cases h;exact P3
 ·cases h;exact a05
 ·cases h;exact U0
 ·cases h;exact Y6
 ·cases h;exact a04
 ·cases h;exact a06
 ·cases h;exact W7
 ·cases h;exact a2Y
 ·cases h;exact a0q
 ·cases h;exact a2X
 ·cases h;exact a5g
 ·cases h;exact c7p
 ·cases h;exact b2V
 ·cases h;exact a1b
 ·cases h;exact U2
 ·cases h;exact W4
 ·cases h;exact K7
 ·cases h;exact T9
 ·cases h;exact R4
 ·cases h;exact q9
 ·cases h;exact y3
 ·cases h;exact b2U
 ·cases h;exact a3E
 ·cases h;exact c0u
 ·cases h;exact c0v
 ·cases h;exact a9b
 ·cases h;exact a0a
 ·cases h;exact a2f
 ·cases h;exact R5
 ·cases h;exact a1A
 ·cases h;exact a11
 ·cases h;exact S7
 ·cases h;exact a1z
 ·cases h;exact a5h
 ·cases h;exact c7o
 ·cases h;exact e1j
 ·cases h;exact K6
 ·cases h;exact G5
 ·cases h;exact a2e
 ·cases h;exact a12
 ·cases h;exact a4F
 ·cases h;exact M9
 ·cases h;exact C5
 ·cases h;exact b1d
 ·cases h;exact a0y
 ·cases h;exact a1y
 ·cases h;exact a4H
 ·cases h;exact c0t
 ·cases h;exact a13
 ·cases h
def elT:TypeId->Option (TypeId×Ty):=fun T=>
 match T with
 |65=>some (9,.str)
 |171=>some (276,ty6)
 |45=>some (56,ty3)
 |54=>some (282,ty6)
 |22=>some (42,ty1)
 |50=>some (131,(.pr .str .str))
 |51=>some (166,ty5)
 |30=>some (71,(.rc .stmt))
 |66=>some (75,(.pr .str (.rc .expr)))
 |67=>some (69,(.rc .expr))
 |386=>some (65,(.sl .str))
 |84=>some (5,.u8)
 |199=>some (201,(.rc .part))
 |269=>some (173,(.rc .value))
 |397=>some (4,.bool)
 |_=>none
theorem b0N:∀T e t,elT T=some (e,t)->ElOk Tryz.prog T e t:=by
 intro T e t h
 unfold elT at h
 split at h
 ·cases h;exact⟨n5,16,ElemT.mk_ Tryz.underlying65 (z:=mkV .str (B3 .str)) (by kernel_rfl) rfl (by decide) (by decide),by decide⟩
 ·cases h;exact⟨Z9,96,ElemT.mk_ Tryz.underlying171 (z:=mkV ty6 (B3 ty6)) (by kernel_rfl) rfl (by decide) (by decide),by decide⟩
 ·cases h;exact⟨N4,56,ElemT.mk_ Tryz.underlying45 (z:=mkV ty3 (B3 ty3)) (by kernel_rfl) rfl (by decide) (by decide),by decide⟩
 ·cases h;exact⟨Z8,96,ElemT.mk_ Tryz.underlying54 (z:=mkV ty6 (B3 ty6)) (by kernel_rfl) rfl (by decide) (by decide),by decide⟩
 ·cases h;exact⟨E4,40,ElemT.mk_ Tryz.underlying22 (z:=mkV ty1 (B3 ty1)) (by kernel_rfl) rfl (by decide) (by decide),by decide⟩
 ·cases h;exact⟨U2,32,ElemT.mk_ Tryz.underlying50 (z:=mkV (.pr .str .str) (B3 (.pr .str .str))) (by kernel_rfl) rfl (by decide) (by decide),by decide⟩
 ·cases h;exact⟨a0a,48,ElemT.mk_ Tryz.underlying51 (z:=mkV ty5 (B3 ty5)) (by kernel_rfl) rfl (by decide) (by decide),by decide⟩
 ·cases h;exact⟨y3,224,ElemT.mk_ Tryz.underlying30 (z:=mkV (.rc .stmt) (B3 (.rc .stmt))) (by kernel_rfl) rfl (by decide) (by decide),by decide⟩
 ·cases h;exact⟨G5,96,ElemT.mk_ Tryz.underlying66 (z:=mkV (.pr .str (.rc .expr)) (B3 (.pr .str (.rc .expr)))) (by kernel_rfl) rfl (by decide) (by decide),by decide⟩
 ·cases h;exact⟨q9,80,ElemT.mk_ Tryz.underlying67 (z:=mkV (.rc .expr) (B3 (.rc .expr))) (by kernel_rfl) rfl (by decide) (by decide),by decide⟩
 ·cases h;exact⟨C7,24,ElemT.mk_ Tryz.underlying386 (z:=mkV (.sl .str) (B3 (.sl .str))) (by kernel_rfl) rfl (by decide) (by decide),by decide⟩
 ·cases h;exact⟨a15,1,ElemT.mk_ Tryz.underlying84 (z:=mkV .u8 (B3 .u8)) (by kernel_rfl) rfl (by decide) (by decide),by decide⟩
 ·cases h;exact⟨C5,112,ElemT.mk_ Tryz.underlying199 (z:=mkV (.rc .part) (B3 (.rc .part))) (by kernel_rfl) rfl (by decide) (by decide),by decide⟩
 ·cases h;exact⟨B2,80,ElemT.mk_ Tryz.underlying269 (z:=mkV (.rc .value) (B3 (.rc .value))) (by kernel_rfl) rfl (by decide) (by decide),by decide⟩
 ·cases h;exact⟨y8,1,ElemT.mk_ Tryz.underlying397 (z:=mkV .bool (B3 .bool)) (by kernel_rfl) rfl (by decide) (by decide),by decide⟩
 ·cases h
def b3L:TypeId->Nat->Option (Nat×Ty):=fun T f=>
 match T,f with
 |173,0=>some (0,ty7)
 |173,1=>some (1,.str)
 |173,2=>some (2,ty7)
 |173,3=>some (3,(.sl .str))
 |173,4=>some (4,(.sl ty6))
 |47,0=>some (0,.str)
 |47,1=>some (1,(.sl ty3))
 |56,0=>some (0,.str)
 |56,1=>some (1,.str)
 |56,2=>some (2,(.sl ty6))
 |42,0=>some (0,ty7)
 |42,1=>some (1,.str)
 |42,2=>some (2,ty7)
 |42,3=>some (3,ty7)
 |53,0=>some (0,.str)
 |53,1=>some (1,.str)
 |53,2=>some (2,(.sl (.pr .str .str)))
 |53,3=>some (3,(.sl ty5))
 |276,0=>some (0,.str)
 |276,1=>some (1,(.rc .value))
 |282,0=>some (0,.str)
 |282,1=>some (1,(.rc .value))
 |40,0=>some (0,.str)
 |40,1=>some (1,ty7)
 |40,2=>some (2,(.sl ty1))
 |103,0=>some (0,ty9)
 |103,1=>some (4,ty7)
 |103,2=>some (5,ty7)
 |103,3=>some (6,ty7)
 |103,4=>some (7,(.mp ty0))
 |103,5=>some (8,(.mp ty3))
 |110,0=>some (0,(.np .un))
 |110,1=>some (1,(.mp .bool))
 |110,2=>some (2,.bool)
 |110,3=>some (3,.bool)
 |131,0=>some (0,.str)
 |131,1=>some (1,.str)
 |61,0=>some (0,(.sl ty1))
 |61,1=>some (1,ty7)
 |61,2=>some (2,ty7)
 |69,0=>some (0,ty7)
 |69,1=>some (1,.str)
 |69,2=>some (2,ty7)
 |69,3=>some (3,(.sl .str))
 |69,4=>some (4,(.sl (.rc .expr)))
 |71,0=>some (0,ty7)
 |71,1=>some (1,.str)
 |71,2=>some (2,.str)
 |71,3=>some (3,(.sl .str))
 |71,4=>some (4,(.sl (.pr .str (.rc .expr))))
 |71,5=>some (5,(.rc .expr))
 |71,6=>some (10,(.sl (.rc .stmt)))
 |71,7=>some (11,(.sl (.rc .stmt)))
 |71,8=>some (12,ty7)
 |166,0=>some (0,.str)
 |166,1=>some (1,.bool)
 |166,2=>some (2,(.sl .u8))
 |115,0=>some (0,ty7)
 |170,0=>some (0,(.np .un))
 |170,1=>some (1,(.mp ty4))
 |170,2=>some (2,(.sl .str))
 |179,0=>some (0,(.rc .value))
 |179,1=>some (5,(.np (.pr ty0 (.pr (.rc .stmt) .bool))))
 |183,0=>some (0,ty0)
 |183,1=>some (1,(.rc .stmt))
 |183,2=>some (14,.bool)
 |146,0=>some (0,.bool)
 |146,1=>some (1,.bool)
 |146,2=>some (2,.bool)
 |146,3=>some (3,.bool)
 |146,4=>some (4,.bool)
 |146,5=>some (5,.bool)
 |146,6=>some (6,.bool)
 |75,0=>some (0,.str)
 |75,1=>some (1,(.rc .expr))
 |201,0=>some (0,(.rc .expr))
 |201,1=>some (5,ty7)
 |201,2=>some (6,(.sl (.rc .part)))
 |_,_=>none
theorem a5G:∀T f off t,b3L T f=some (off,t)->b7b Tryz.prog T f off t:=by
 intro T f off t h
 unfold b3L at h
 split at h
 ·cases h;exact⟨_,_,Tryz.underlying173,rfl,rfl,r9,by decide⟩
 ·cases h;exact⟨_,_,Tryz.underlying173,rfl,rfl,n5,by decide⟩
 ·cases h;exact⟨_,_,Tryz.underlying173,rfl,rfl,r9,by decide⟩
 ·cases h;exact⟨_,_,Tryz.underlying173,rfl,rfl,C7,by decide⟩
 ·cases h;exact⟨_,_,Tryz.underlying173,rfl,rfl,a4v,by decide⟩
 ·cases h;exact⟨_,_,Tryz.underlying47,rfl,rfl,n5,by decide⟩
 ·cases h;exact⟨_,_,Tryz.underlying47,rfl,rfl,a2s,by decide⟩
 ·cases h;exact⟨_,_,Tryz.underlying56,rfl,rfl,n5,by decide⟩
 ·cases h;exact⟨_,_,Tryz.underlying56,rfl,rfl,n5,by decide⟩
 ·cases h;exact⟨_,_,Tryz.underlying56,rfl,rfl,a4u,by decide⟩
 ·cases h;exact⟨_,_,Tryz.underlying42,rfl,rfl,r9,by decide⟩
 ·cases h;exact⟨_,_,Tryz.underlying42,rfl,rfl,n5,by decide⟩
 ·cases h;exact⟨_,_,Tryz.underlying42,rfl,rfl,r9,by decide⟩
 ·cases h;exact⟨_,_,Tryz.underlying42,rfl,rfl,r9,by decide⟩
 ·cases h;exact⟨_,_,Tryz.underlying53,rfl,rfl,n5,by decide⟩
 ·cases h;exact⟨_,_,Tryz.underlying53,rfl,rfl,n5,by decide⟩
 ·cases h;exact⟨_,_,Tryz.underlying53,rfl,rfl,a10,by decide⟩
 ·cases h;exact⟨_,_,Tryz.underlying53,rfl,rfl,a4w,by decide⟩
 ·cases h;exact⟨_,_,Tryz.underlying276,rfl,rfl,n5,by decide⟩
 ·cases h;exact⟨_,_,Tryz.underlying276,rfl,rfl,B2,by decide⟩
 ·cases h;exact⟨_,_,Tryz.underlying282,rfl,rfl,n5,by decide⟩
 ·cases h;exact⟨_,_,Tryz.underlying282,rfl,rfl,B2,by decide⟩
 ·cases h;exact⟨_,_,Tryz.underlying40,rfl,rfl,n5,by decide⟩
 ·cases h;exact⟨_,_,Tryz.underlying40,rfl,rfl,r9,by decide⟩
 ·cases h;exact⟨_,_,Tryz.underlying40,rfl,rfl,F2,by decide⟩
 ·cases h;exact⟨_,_,Tryz.underlying103,rfl,rfl,W0,by decide⟩
 ·cases h;exact⟨_,_,Tryz.underlying103,rfl,rfl,r9,by decide⟩
 ·cases h;exact⟨_,_,Tryz.underlying103,rfl,rfl,r9,by decide⟩
 ·cases h;exact⟨_,_,Tryz.underlying103,rfl,rfl,r9,by decide⟩
 ·cases h;exact⟨_,_,Tryz.underlying103,rfl,rfl,P3,by decide⟩
 ·cases h;exact⟨_,_,Tryz.underlying103,rfl,rfl,U1,by decide⟩
 ·cases h;exact⟨_,_,Tryz.underlying110,rfl,rfl,Y6,by decide⟩
 ·cases h;exact⟨_,_,Tryz.underlying110,rfl,rfl,a04,by decide⟩
 ·cases h;exact⟨_,_,Tryz.underlying110,rfl,rfl,y8,by decide⟩
 ·cases h;exact⟨_,_,Tryz.underlying110,rfl,rfl,y8,by decide⟩
 ·cases h;exact⟨_,_,Tryz.underlying131,rfl,rfl,n5,by decide⟩
 ·cases h;exact⟨_,_,Tryz.underlying131,rfl,rfl,n5,by decide⟩
 ·cases h;exact⟨_,_,Tryz.underlying61,rfl,rfl,F2,by decide⟩
 ·cases h;exact⟨_,_,Tryz.underlying61,rfl,rfl,r9,by decide⟩
 ·cases h;exact⟨_,_,Tryz.underlying61,rfl,rfl,r9,by decide⟩
 ·cases h;exact⟨_,_,Tryz.underlying69,rfl,rfl,r9,by decide⟩
 ·cases h;exact⟨_,_,Tryz.underlying69,rfl,rfl,n5,by decide⟩
 ·cases h;exact⟨_,_,Tryz.underlying69,rfl,rfl,r9,by decide⟩
 ·cases h;exact⟨_,_,Tryz.underlying69,rfl,rfl,C7,by decide⟩
 ·cases h;exact⟨_,_,Tryz.underlying69,rfl,rfl,R4,by decide⟩
 ·cases h;exact⟨_,_,Tryz.underlying71,rfl,rfl,r9,by decide⟩
 ·cases h;exact⟨_,_,Tryz.underlying71,rfl,rfl,n5,by decide⟩
 ·cases h;exact⟨_,_,Tryz.underlying71,rfl,rfl,n5,by decide⟩
 ·cases h;exact⟨_,_,Tryz.underlying71,rfl,rfl,C7,by decide⟩
 ·cases h;exact⟨_,_,Tryz.underlying71,rfl,rfl,T9,by decide⟩
 ·cases h;exact⟨_,_,Tryz.underlying71,rfl,rfl,q9,by decide⟩
 ·cases h;exact⟨_,_,Tryz.underlying71,rfl,rfl,C4,by decide⟩
 ·cases h;exact⟨_,_,Tryz.underlying71,rfl,rfl,C4,by decide⟩
 ·cases h;exact⟨_,_,Tryz.underlying71,rfl,rfl,r9,by decide⟩
 ·cases h;exact⟨_,_,Tryz.underlying166,rfl,rfl,n5,by decide⟩
 ·cases h;exact⟨_,_,Tryz.underlying166,rfl,rfl,y8,by decide⟩
 ·cases h;exact⟨_,_,Tryz.underlying166,rfl,rfl,a9b,by decide⟩
 ·cases h;exact⟨_,_,Tryz.underlying115,rfl,rfl,r9,by decide⟩
 ·cases h;exact⟨_,_,Tryz.underlying170,rfl,rfl,Y6,by decide⟩
 ·cases h;exact⟨_,_,Tryz.underlying170,rfl,rfl,R5,by decide⟩
 ·cases h;exact⟨_,_,Tryz.underlying170,rfl,rfl,C7,by decide⟩
 ·cases h;exact⟨_,_,Tryz.underlying179,rfl,rfl,B2,by decide⟩
 ·cases h;exact⟨_,_,Tryz.underlying179,rfl,rfl,a11,by decide⟩
 ·cases h;exact⟨_,_,Tryz.underlying183,rfl,rfl,U0,by decide⟩
 ·cases h;exact⟨_,_,Tryz.underlying183,rfl,rfl,y3,by decide⟩
 ·cases h;exact⟨_,_,Tryz.underlying183,rfl,rfl,y8,by decide⟩
 ·cases h;exact⟨_,_,Tryz.underlying146,rfl,rfl,y8,by decide⟩
 ·cases h;exact⟨_,_,Tryz.underlying146,rfl,rfl,y8,by decide⟩
 ·cases h;exact⟨_,_,Tryz.underlying146,rfl,rfl,y8,by decide⟩
 ·cases h;exact⟨_,_,Tryz.underlying146,rfl,rfl,y8,by decide⟩
 ·cases h;exact⟨_,_,Tryz.underlying146,rfl,rfl,y8,by decide⟩
 ·cases h;exact⟨_,_,Tryz.underlying146,rfl,rfl,y8,by decide⟩
 ·cases h;exact⟨_,_,Tryz.underlying146,rfl,rfl,y8,by decide⟩
 ·cases h;exact⟨_,_,Tryz.underlying75,rfl,rfl,n5,by decide⟩
 ·cases h;exact⟨_,_,Tryz.underlying75,rfl,rfl,q9,by decide⟩
 ·cases h;exact⟨_,_,Tryz.underlying201,rfl,rfl,q9,by decide⟩
 ·cases h;exact⟨_,_,Tryz.underlying201,rfl,rfl,r9,by decide⟩
 ·cases h;exact⟨_,_,Tryz.underlying201,rfl,rfl,M9,by decide⟩
 ·cases h
theorem b01:∀T e,tyT T=some (.mp e)->d5G Tryz.prog T e:=by
 intro T e h
 unfold tyT at h
 split at h
 ·cases h
 ·cases h
 ·cases h
 ·cases h
 ·cases h
 ·cases h
 ·cases h
 ·cases h
 ·cases h
 ·cases h
 ·cases h
 ·cases h
 ·cases h
 ·cases h
 ·cases h
 ·cases h
 ·cases h
 ·cases h
 ·cases h
 ·cases h
 ·cases h
 ·cases h;exact⟨_,_,Tryz.underlying101,Tryz.underlying9,N4⟩
 ·cases h
 ·cases h
 ·cases h
 ·cases h
 ·cases h;exact⟨_,_,Tryz.underlying100,Tryz.underlying9,U0⟩
 ·cases h
 ·cases h
 ·cases h
 ·cases h;exact⟨_,_,Tryz.underlying108,Tryz.underlying9,y8⟩
 ·cases h
 ·cases h
 ·cases h
 ·cases h
 ·cases h
 ·cases h
 ·cases h
 ·cases h
 ·cases h
 ·cases h
 ·cases h
 ·cases h
 ·cases h
 ·cases h
 ·cases h
 ·cases h
 ·cases h
 ·cases h
 ·cases h
 ·cases h
 ·cases h
 ·cases h
 ·cases h
 ·cases h;exact⟨_,_,Tryz.underlying168,Tryz.underlying9,S7⟩
 ·cases h
 ·cases h
 ·cases h
 ·cases h
 ·cases h
 ·cases h
 ·cases h
 ·cases h
 ·cases h
 ·cases h;exact⟨_,_,Tryz.underlying231,Tryz.underlying9,B2⟩
 ·cases h
 ·cases h
 ·cases h
 ·cases h
 ·cases h
 ·cases h
 ·cases h
 ·cases h
 ·cases h
 ·cases h
 ·cases h
theorem a5D:∀T t,tyT T=some t->t.isAgg=true->∃fs places,Tryz.prog.underlying T=some (.struct fs)/\fs.toList.mapM (fun f=>(Tryz.prog.info? f.type).map fun i=>(f.offset,i.size))=some places:=by
 intro T t h ha
 unfold tyT at h
 split at h
 ·cases h;cases ha
 ·cases h;cases ha
 ·cases h;cases ha
 ·cases h;cases ha
 ·cases h;cases ha
 ·cases h;cases ha
 ·cases h;cases ha
 ·exact⟨_,[(0,1),(1,1),(2,1),(3,1),(4,1)],Tryz.underlying173,by kernel_rfl⟩
 ·cases h;cases ha
 ·cases h;cases ha
 ·exact⟨_,[(0,1),(1,1)],Tryz.underlying47,by kernel_rfl⟩
 ·cases h;cases ha
 ·exact⟨_,[(0,1),(1,1),(2,1)],Tryz.underlying56,by kernel_rfl⟩
 ·cases h;cases ha
 ·exact⟨_,[(0,1),(1,1),(2,1),(3,1)],Tryz.underlying42,by kernel_rfl⟩
 ·cases h;cases ha
 ·cases h;cases ha
 ·cases h;cases ha
 ·exact⟨_,[(0,1),(1,1),(2,1),(3,1)],Tryz.underlying53,by kernel_rfl⟩
 ·exact⟨_,[(0,1),(1,5)],Tryz.underlying276,by kernel_rfl⟩
 ·exact⟨_,[(0,1),(1,5)],Tryz.underlying282,by kernel_rfl⟩
 ·cases h;cases ha
 ·cases h;cases ha
 ·exact⟨_,[(0,1),(1,1),(2,1)],Tryz.underlying40,by kernel_rfl⟩
 ·cases h;cases ha
 ·cases h;cases ha
 ·cases h;cases ha
 ·exact⟨_,[(0,4),(4,1),(5,1),(6,1),(7,1),(8,1)],Tryz.underlying103,by kernel_rfl⟩
 ·cases h;cases ha
 ·cases h;cases ha
 ·cases h;cases ha
 ·exact⟨_,[(0,1),(1,1),(2,1),(3,1)],Tryz.underlying110,by kernel_rfl⟩
 ·cases h;cases ha
 ·cases h;cases ha
 ·cases h;cases ha
 ·cases h;cases ha
 ·cases h;cases ha
 ·cases h;cases ha
 ·cases h;cases ha
 ·cases h;cases ha
 ·exact⟨_,[(0,1),(1,1)],Tryz.underlying131,by kernel_rfl⟩
 ·cases h;cases ha
 ·exact⟨_,[(0,1),(1,1),(2,1)],Tryz.underlying61,by kernel_rfl⟩
 ·cases h;cases ha
 ·cases h;cases ha
 ·exact⟨_,[(0,1),(1,1),(2,1),(3,1),(4,1)],Tryz.underlying69,by kernel_rfl⟩
 ·exact⟨_,[(0,1),(1,1),(2,1),(3,1),(4,1),(5,5),(10,1),(11,1),(12,1)],Tryz.underlying71,by kernel_rfl⟩
 ·cases h;cases ha
 ·cases h;cases ha
 ·cases h;cases ha
 ·cases h;cases ha
 ·cases h;cases ha
 ·exact⟨_,[(0,1),(1,1),(2,1)],Tryz.underlying166,by kernel_rfl⟩
 ·exact⟨_,[(0,1)],Tryz.underlying115,by kernel_rfl⟩
 ·cases h;cases ha
 ·exact⟨_,[(0,1),(1,1),(2,1)],Tryz.underlying170,by kernel_rfl⟩
 ·cases h;cases ha
 ·exact⟨_,[(0,5),(5,1)],Tryz.underlying179,by kernel_rfl⟩
 ·exact⟨_,[(0,1),(1,13),(14,1)],Tryz.underlying183,by kernel_rfl⟩
 ·cases h;cases ha
 ·cases h;cases ha
 ·cases h;cases ha
 ·exact⟨_,[(0,1),(1,1),(2,1),(3,1),(4,1),(5,1),(6,1)],Tryz.underlying146,by kernel_rfl⟩
 ·exact⟨_,[(0,1),(1,5)],Tryz.underlying75,by kernel_rfl⟩
 ·cases h;cases ha
 ·cases h;cases ha
 ·cases h;cases ha
 ·cases h;cases ha
 ·exact⟨_,[(0,5),(5,1),(6,1)],Tryz.underlying201,by kernel_rfl⟩
 ·cases h;cases ha
 ·cases h;cases ha
 ·cases h;cases ha
 ·cases h;cases ha
 ·cases h;cases ha
 ·cases h;cases ha
 ·cases h
theorem b06:∀T t,tyT T=some t->a2l t=true->(Tryz.prog.info? (Tryz.prog.pointee T)).isSome=true:=by
 intro T t h ha
 unfold tyT at h
 split at h
 ·cases h;cases ha
 ·cases h;cases ha
 ·cases h;cases ha
 ·cases h;cases ha
 ·cases h;cases ha
 ·cases h;cases ha
 ·cases h;cases ha
 ·cases h;cases ha
 ·cases h;cases ha
 ·cases h;cases ha
 ·cases h;cases ha
 ·cases h;cases ha
 ·cases h;cases ha
 ·cases h;cases ha
 ·cases h;cases ha
 ·cases h;cases ha
 ·cases h;cases ha
 ·cases h;cases ha
 ·cases h;cases ha
 ·cases h;cases ha
 ·cases h;cases ha
 ·cases h;cases ha
 ·kernel_rfl
 ·cases h;cases ha
 ·cases h;cases ha
 ·kernel_rfl
 ·cases h;cases ha
 ·cases h;cases ha
 ·kernel_rfl
 ·kernel_rfl
 ·cases h;cases ha
 ·cases h;cases ha
 ·cases h;cases ha
 ·cases h;cases ha
 ·cases h;cases ha
 ·cases h;cases ha
 ·cases h;cases ha
 ·cases h;cases ha
 ·kernel_rfl
 ·cases h;cases ha
 ·cases h;cases ha
 ·kernel_rfl
 ·cases h;cases ha
 ·cases h;cases ha
 ·cases h;cases ha
 ·cases h;cases ha
 ·cases h;cases ha
 ·cases h;cases ha
 ·cases h;cases ha
 ·cases h;cases ha
 ·cases h;cases ha
 ·cases h;cases ha
 ·cases h;cases ha
 ·cases h;cases ha
 ·cases h;cases ha
 ·cases h;cases ha
 ·kernel_rfl
 ·cases h;cases ha
 ·cases h;cases ha
 ·cases h;cases ha
 ·kernel_rfl
 ·kernel_rfl
 ·cases h;cases ha
 ·cases h;cases ha
 ·cases h;cases ha
 ·cases h;cases ha
 ·kernel_rfl
 ·cases h;cases ha
 ·cases h;cases ha
 ·cases h;cases ha
 ·cases h;cases ha
 ·cases h;cases ha
 ·cases h;cases ha
 ·cases h;cases ha
 ·cases h;cases ha
 ·cases h
theorem a2d:CmpOk Tryz.prog 42 ty1:=CmpOk.flat rfl rfl Tryz.underlying42 (by kernel_rfl) (by kernel_rfl) (.cons rfl (by decide) (.int Tryz.underlying3) (.cons rfl (by decide) (.str Tryz.underlying9) (.cons rfl (by decide) (.int Tryz.underlying3) (.one rfl (by decide) (.int Tryz.underlying3)))))
theorem a1l:CmpOk Tryz.prog 131 (.pr .str .str):=CmpOk.flat rfl rfl Tryz.underlying131 (by kernel_rfl) (by kernel_rfl) (.cons rfl (by decide) (.str Tryz.underlying9) (.one rfl (by decide) (.str Tryz.underlying9)))
theorem a1L:CmpOk Tryz.prog 115 (.pr ty7 .un):=CmpOk.flat rfl rfl Tryz.underlying115 (by kernel_rfl) (by kernel_rfl) (.single rfl (by decide) (.int Tryz.underlying3))
theorem a0W:CmpOk Tryz.prog 146 ty8:=CmpOk.flat rfl rfl Tryz.underlying146 (by kernel_rfl) (by kernel_rfl) (.cons rfl (by decide) (.bool Tryz.underlying4) (.cons rfl (by decide) (.bool Tryz.underlying4) (.cons rfl (by decide) (.bool Tryz.underlying4) (.cons rfl (by decide) (.bool Tryz.underlying4) (.cons rfl (by decide) (.bool Tryz.underlying4) (.cons rfl (by decide) (.bool Tryz.underlying4) (.one rfl (by decide) (.bool Tryz.underlying4))))))))
def b3D:TypeId->Option Ty:=fun T=>
 match T with
 |42=>some ty1
 |131=>some (.pr .str .str)
 |115=>some (.pr ty7 .un)
 |146=>some ty8
 |_=>none
theorem a5F:∀T t,b3D T=some t->CmpOk Tryz.prog T t:=by
 intro T t h
 unfold b3D at h
 split at h
 ·cases h;exact a2d
 ·cases h;exact a1l
 ·cases h;exact a1L
 ·cases h;exact a0W
 ·cases h
def S9(h:Nat->Hint)(fn:FuncId->Option Tmp->Option AF)(exq:Nat->Bool)(live:FuncId->Bool):Env:={ty:=tyT,el:=elT,fld:=b3L,cmp:=b3D,fn:=fn,hint:=h,exq:=exq,live:=live}
theorem y6(hh:Nat->Hint)(fn:FuncId->Option Tmp->Option AF)(exq:Nat->Bool)(live:FuncId->Bool)(h:∀f q F,fn f q=some F->Sound Tryz.prog GW B7 f F):EnvOk Tryz.prog GW B7 (S9 hh fn exq live):=
 {ty:=b1e,el:=b0N,fld:=a5G,mp:=b01,bld:=a5D,ptr:=b06,cmp:=a5F,fn:=h,stable:=a2E,mixed:=by kernel_rfl}
noncomputable def d8h:List (FuncId×Func):=[(8,Tryz.f8),(165,Tryz.f165),(7,Tryz.f7),(212,Tryz.f212),(18,Tryz.f18),(23,Tryz.f23),(142,Tryz.f142),(214,Tryz.f214),(144,Tryz.f144),(215,Tryz.f215),(216,Tryz.f216),(213,Tryz.f213),(220,Tryz.f220),(135,Tryz.f135),(217,Tryz.f217),(64,Tryz.f64),(184,Tryz.f184),(16,Tryz.f16),(17,Tryz.f17),(247,Tryz.f247),(248,Tryz.f248),(40,Tryz.f40),(12,Tryz.f12),(41,Tryz.f41),(42,Tryz.f42),(43,Tryz.f43),(44,Tryz.f44),(280,Tryz.f280),(181,Tryz.f181),(251,Tryz.f251),(252,Tryz.f252),(253,Tryz.f253),(249,Tryz.f249),(250,Tryz.f250),(256,Tryz.f256),(257,Tryz.f257),(33,Tryz.f33),(36,Tryz.f36),(178,Tryz.f178),(179,Tryz.f179),(254,Tryz.f254),(116,Tryz.f116),(70,Tryz.f70),(34,Tryz.f34),(35,Tryz.f35),(37,Tryz.f37),(38,Tryz.f38),(39,Tryz.f39),(65,Tryz.f65),(21,Tryz.f21),(22,Tryz.f22),(66,Tryz.f66),(67,Tryz.f67),(68,Tryz.f68),(69,Tryz.f69),(317,Tryz.f317),(284,Tryz.f284),(293,Tryz.f293),(222,Tryz.f222),(163,Tryz.f163),(63,Tryz.f63),(244,Tryz.f244),(131,Tryz.f131),(132,Tryz.f132),(62,Tryz.f62),(117,Tryz.f117),(47,Tryz.f47),(48,Tryz.f48),(49,Tryz.f49),(50,Tryz.f50),(118,Tryz.f118),(119,Tryz.f119),(120,Tryz.f120),(121,Tryz.f121),(122,Tryz.f122),(123,Tryz.f123),(124,Tryz.f124),(125,Tryz.f125),(126,Tryz.f126),(127,Tryz.f127),(128,Tryz.f128),(129,Tryz.f129),(130,Tryz.f130),(208,Tryz.f208),(276,Tryz.f276),(277,Tryz.f277),(174,Tryz.f174),(175,Tryz.f175),(72,Tryz.f72),(73,Tryz.f73),(74,Tryz.f74),(75,Tryz.f75),(76,Tryz.f76),(77,Tryz.f77),(78,Tryz.f78),(79,Tryz.f79),(80,Tryz.f80),(81,Tryz.f81),(82,Tryz.f82),(83,Tryz.f83),(84,Tryz.f84),(85,Tryz.f85),(86,Tryz.f86),(87,Tryz.f87),(164,Tryz.f164),(166,Tryz.f166),(167,Tryz.f167),(168,Tryz.f168),(169,Tryz.f169),(170,Tryz.f170),(171,Tryz.f171),(172,Tryz.f172),(173,Tryz.f173),(176,Tryz.f176),(177,Tryz.f177),(314,Tryz.f314),(134,Tryz.f134),(136,Tryz.f136),(137,Tryz.f137),(138,Tryz.f138),(139,Tryz.f139),(140,Tryz.f140),(141,Tryz.f141),(143,Tryz.f143),(145,Tryz.f145),(146,Tryz.f146),(108,Tryz.f108),(209,Tryz.f209),(210,Tryz.f210),(211,Tryz.f211),(218,Tryz.f218),(219,Tryz.f219),(221,Tryz.f221),(180,Tryz.f180),(182,Tryz.f182),(183,Tryz.f183),(186,Tryz.f186),(245,Tryz.f245),(246,Tryz.f246),(255,Tryz.f255),(223,Tryz.f223),(224,Tryz.f224),(226,Tryz.f226),(278,Tryz.f278),(279,Tryz.f279),(281,Tryz.f281),(282,Tryz.f282),(283,Tryz.f283),(285,Tryz.f285),(286,Tryz.f286),(287,Tryz.f287),(288,Tryz.f288),(289,Tryz.f289),(290,Tryz.f290),(291,Tryz.f291),(292,Tryz.f292),(258,Tryz.f258),(259,Tryz.f259),(315,Tryz.f315),(316,Tryz.f316),(318,Tryz.f318),(319,Tryz.f319),(320,Tryz.f320),(321,Tryz.f321),(322,Tryz.f322),(323,Tryz.f323),(324,Tryz.f324),(336,Tryz.f336),(337,Tryz.f337),(338,Tryz.f338),(339,Tryz.f339)]
noncomputable def d8g:FuncId->Option Func:=p5 d8h
theorem c8Q:∀f fn,d8g f=some fn->Tryz.prog.funcs[f]? = some fn/\∀(args:Array Value) (w:World),(callFunc f args).run Tryz.prog w = .ok (.enter f args) w:=
 b7r d8h ⟨⟨Tryz.func8,Tryz.call8⟩,
 ⟨Tryz.func165,Tryz.call165⟩,
 ⟨Tryz.func7,Tryz.call7⟩,
 ⟨Tryz.func212,Tryz.call212⟩,
 ⟨Tryz.func18,Tryz.call18⟩,
 ⟨Tryz.func23,Tryz.call23⟩,
 ⟨Tryz.func142,Tryz.call142⟩,
 ⟨Tryz.func214,Tryz.call214⟩,
 ⟨Tryz.func144,Tryz.call144⟩,
 ⟨Tryz.func215,Tryz.call215⟩,
 ⟨Tryz.func216,Tryz.call216⟩,
 ⟨Tryz.func213,Tryz.call213⟩,
 ⟨Tryz.func220,Tryz.call220⟩,
 ⟨Tryz.func135,Tryz.call135⟩,
 ⟨Tryz.func217,Tryz.call217⟩,
 ⟨Tryz.func64,Tryz.call64⟩,
 ⟨Tryz.func184,Tryz.call184⟩,
 ⟨Tryz.func16,Tryz.call16⟩,
 ⟨Tryz.func17,Tryz.call17⟩,
 ⟨Tryz.func247,Tryz.call247⟩,
 ⟨Tryz.func248,Tryz.call248⟩,
 ⟨Tryz.func40,Tryz.call40⟩,
 ⟨Tryz.func12,Tryz.call12⟩,
 ⟨Tryz.func41,Tryz.call41⟩,
 ⟨Tryz.func42,Tryz.call42⟩,
 ⟨Tryz.func43,Tryz.call43⟩,
 ⟨Tryz.func44,Tryz.call44⟩,
 ⟨Tryz.func280,Tryz.call280⟩,
 ⟨Tryz.func181,Tryz.call181⟩,
 ⟨Tryz.func251,Tryz.call251⟩,
 ⟨Tryz.func252,Tryz.call252⟩,
 ⟨Tryz.func253,Tryz.call253⟩,
 ⟨Tryz.func249,Tryz.call249⟩,
 ⟨Tryz.func250,Tryz.call250⟩,
 ⟨Tryz.func256,Tryz.call256⟩,
 ⟨Tryz.func257,Tryz.call257⟩,
 ⟨Tryz.func33,Tryz.call33⟩,
 ⟨Tryz.func36,Tryz.call36⟩,
 ⟨Tryz.func178,Tryz.call178⟩,
 ⟨Tryz.func179,Tryz.call179⟩,
 ⟨Tryz.func254,Tryz.call254⟩,
 ⟨Tryz.func116,Tryz.call116⟩,
 ⟨Tryz.func70,Tryz.call70⟩,
 ⟨Tryz.func34,Tryz.call34⟩,
 ⟨Tryz.func35,Tryz.call35⟩,
 ⟨Tryz.func37,Tryz.call37⟩,
 ⟨Tryz.func38,Tryz.call38⟩,
 ⟨Tryz.func39,Tryz.call39⟩,
 ⟨Tryz.func65,Tryz.call65⟩,
 ⟨Tryz.func21,Tryz.call21⟩,
 ⟨Tryz.func22,Tryz.call22⟩,
 ⟨Tryz.func66,Tryz.call66⟩,
 ⟨Tryz.func67,Tryz.call67⟩,
 ⟨Tryz.func68,Tryz.call68⟩,
 ⟨Tryz.func69,Tryz.call69⟩,
 ⟨Tryz.func317,Tryz.call317⟩,
 ⟨Tryz.func284,Tryz.call284⟩,
 ⟨Tryz.func293,Tryz.call293⟩,
 ⟨Tryz.func222,Tryz.call222⟩,
 ⟨Tryz.func163,Tryz.call163⟩,
 ⟨Tryz.func63,Tryz.call63⟩,
 ⟨Tryz.func244,Tryz.call244⟩,
 ⟨Tryz.func131,Tryz.call131⟩,
 ⟨Tryz.func132,Tryz.call132⟩,
 ⟨Tryz.func62,Tryz.call62⟩,
 ⟨Tryz.func117,Tryz.call117⟩,
 ⟨Tryz.func47,Tryz.call47⟩,
 ⟨Tryz.func48,Tryz.call48⟩,
 ⟨Tryz.func49,Tryz.call49⟩,
 ⟨Tryz.func50,Tryz.call50⟩,
 ⟨Tryz.func118,Tryz.call118⟩,
 ⟨Tryz.func119,Tryz.call119⟩,
 ⟨Tryz.func120,Tryz.call120⟩,
 ⟨Tryz.func121,Tryz.call121⟩,
 ⟨Tryz.func122,Tryz.call122⟩,
 ⟨Tryz.func123,Tryz.call123⟩,
 ⟨Tryz.func124,Tryz.call124⟩,
 ⟨Tryz.func125,Tryz.call125⟩,
 ⟨Tryz.func126,Tryz.call126⟩,
 ⟨Tryz.func127,Tryz.call127⟩,
 ⟨Tryz.func128,Tryz.call128⟩,
 ⟨Tryz.func129,Tryz.call129⟩,
 ⟨Tryz.func130,Tryz.call130⟩,
 ⟨Tryz.func208,Tryz.call208⟩,
 ⟨Tryz.func276,Tryz.call276⟩,
 ⟨Tryz.func277,Tryz.call277⟩,
 ⟨Tryz.func174,Tryz.call174⟩,
 ⟨Tryz.func175,Tryz.call175⟩,
 ⟨Tryz.func72,Tryz.call72⟩,
 ⟨Tryz.func73,Tryz.call73⟩,
 ⟨Tryz.func74,Tryz.call74⟩,
 ⟨Tryz.func75,Tryz.call75⟩,
 ⟨Tryz.func76,Tryz.call76⟩,
 ⟨Tryz.func77,Tryz.call77⟩,
 ⟨Tryz.func78,Tryz.call78⟩,
 ⟨Tryz.func79,Tryz.call79⟩,
 ⟨Tryz.func80,Tryz.call80⟩,
 ⟨Tryz.func81,Tryz.call81⟩,
 ⟨Tryz.func82,Tryz.call82⟩,
 ⟨Tryz.func83,Tryz.call83⟩,
 ⟨Tryz.func84,Tryz.call84⟩,
 ⟨Tryz.func85,Tryz.call85⟩,
 ⟨Tryz.func86,Tryz.call86⟩,
 ⟨Tryz.func87,Tryz.call87⟩,
 ⟨Tryz.func164,Tryz.call164⟩,
 ⟨Tryz.func166,Tryz.call166⟩,
 ⟨Tryz.func167,Tryz.call167⟩,
 ⟨Tryz.func168,Tryz.call168⟩,
 ⟨Tryz.func169,Tryz.call169⟩,
 ⟨Tryz.func170,Tryz.call170⟩,
 ⟨Tryz.func171,Tryz.call171⟩,
 ⟨Tryz.func172,Tryz.call172⟩,
 ⟨Tryz.func173,Tryz.call173⟩,
 ⟨Tryz.func176,Tryz.call176⟩,
 ⟨Tryz.func177,Tryz.call177⟩,
 ⟨Tryz.func314,Tryz.call314⟩,
 ⟨Tryz.func134,Tryz.call134⟩,
 ⟨Tryz.func136,Tryz.call136⟩,
 ⟨Tryz.func137,Tryz.call137⟩,
 ⟨Tryz.func138,Tryz.call138⟩,
 ⟨Tryz.func139,Tryz.call139⟩,
 ⟨Tryz.func140,Tryz.call140⟩,
 ⟨Tryz.func141,Tryz.call141⟩,
 ⟨Tryz.func143,Tryz.call143⟩,
 ⟨Tryz.func145,Tryz.call145⟩,
 ⟨Tryz.func146,Tryz.call146⟩,
 ⟨Tryz.func108,Tryz.call108⟩,
 ⟨Tryz.func209,Tryz.call209⟩,
 ⟨Tryz.func210,Tryz.call210⟩,
 ⟨Tryz.func211,Tryz.call211⟩,
 ⟨Tryz.func218,Tryz.call218⟩,
 ⟨Tryz.func219,Tryz.call219⟩,
 ⟨Tryz.func221,Tryz.call221⟩,
 ⟨Tryz.func180,Tryz.call180⟩,
 ⟨Tryz.func182,Tryz.call182⟩,
 ⟨Tryz.func183,Tryz.call183⟩,
 ⟨Tryz.func186,Tryz.call186⟩,
 ⟨Tryz.func245,Tryz.call245⟩,
 ⟨Tryz.func246,Tryz.call246⟩,
 ⟨Tryz.func255,Tryz.call255⟩,
 ⟨Tryz.func223,Tryz.call223⟩,
 ⟨Tryz.func224,Tryz.call224⟩,
 ⟨Tryz.func226,Tryz.call226⟩,
 ⟨Tryz.func278,Tryz.call278⟩,
 ⟨Tryz.func279,Tryz.call279⟩,
 ⟨Tryz.func281,Tryz.call281⟩,
 ⟨Tryz.func282,Tryz.call282⟩,
 ⟨Tryz.func283,Tryz.call283⟩,
 ⟨Tryz.func285,Tryz.call285⟩,
 ⟨Tryz.func286,Tryz.call286⟩,
 ⟨Tryz.func287,Tryz.call287⟩,
 ⟨Tryz.func288,Tryz.call288⟩,
 ⟨Tryz.func289,Tryz.call289⟩,
 ⟨Tryz.func290,Tryz.call290⟩,
 ⟨Tryz.func291,Tryz.call291⟩,
 ⟨Tryz.func292,Tryz.call292⟩,
 ⟨Tryz.func258,Tryz.call258⟩,
 ⟨Tryz.func259,Tryz.call259⟩,
 ⟨Tryz.func315,Tryz.call315⟩,
 ⟨Tryz.func316,Tryz.call316⟩,
 ⟨Tryz.func318,Tryz.call318⟩,
 ⟨Tryz.func319,Tryz.call319⟩,
 ⟨Tryz.func320,Tryz.call320⟩,
 ⟨Tryz.func321,Tryz.call321⟩,
 ⟨Tryz.func322,Tryz.call322⟩,
 ⟨Tryz.func323,Tryz.call323⟩,
 ⟨Tryz.func324,Tryz.call324⟩,
 ⟨Tryz.func336,Tryz.call336⟩,
 ⟨Tryz.func337,Tryz.call337⟩,
 ⟨Tryz.func338,Tryz.call338⟩,
 ⟨Tryz.func339,Tryz.call339⟩,trivial⟩
def d5E:FuncId->Bool:=fun f=>
 match f with
 |69=>true
 |123=>true
 |124=>true
 |255=>true
 |285=>true
 |286=>true
 |_=>false
def d8X:FuncId->Bool:=fun f=>
 match f with
 |168=>true
 |_=>false
def d8W:FuncId->Nat->Bool:=fun f i=>
 match f with
 |21=>q7 [12,17] i
 |258=>q7 [3,8] i
 |319=>q7 [18,29] i
 |336=>q7 [18,29] i
 |_=>false
def d8V:FuncId->Bool:=fun f=>
 match f with
 |21=>true
 |_=>false
def c2b:FuncId->Bool:=fun f=>
 match f with
 |47=>true
 |_=>false
def d8U:FuncId->Bool:=fun f=>
 match f with
 |183=>true
 |226=>true
 |_=>false
noncomputable def e1A:Call':={fn:=d8g,rows:=d5E,frz:=d8X,exq:=d8W,dfr:=d8V,rcv:=c2b,dat:=d8U}
theorem c6G:∀f,e1A.rcv f=true->(∀(args:Array Value) (w:World),(callFunc f args).run Tryz.prog w = .ok (.enter f args) w)/\∀(caps:Array Value) (w:World),CallsD Tryz.prog f caps .returning w fun e u w'=>(∃v,e = .returned v)/\u = .returning/\w'=w:=fun f h=>by
 have h:c2b f=true:=h
 unfold c2b at h
 split at h
 ·exact⟨Tryz.call47,b9T⟩
 ·cases h
noncomputable def c8R:FuncId->Option Tmp->Option AF:=fun f _=>
 match f with
 |32=>some (F0 fun x _=>strings_IndexByte x.1 x.2.1)
 |45=>some (a1Z fun x _=>strings_Compare x.1 x.2.1)
 |115=>some (a0O fun x _=>strings_Split x.1 x.2.1)
 |260=>some (⟨[.nilS,.fnc 226 [0]],[.cells [.v (.sl .str)]],[.row 1],[.cells [.v (.sl .str)],.row 9 .str true],List c8×List c8,fun z=>(((),()),((z.1,()),(z.2,()))),fun _ y=>I4 y.1.1⟩)
 |185=>some (Cn.slices_Clone_string_string_sg fun x _=>Cn.cloneS x.1)
 |225=>some (⟨[.row 0],[.row 9 .str true],[],[.row 9 .str true,.none],List c8,fun z=>((),(z,((),()))),fun x y=>a0o y.1⟩)
 |_=>none
theorem c8S:∀f q F,c8R f q=some F->Sound Tryz.prog GW B7 f F:=by
 intro f q F h
 unfold c8R at h
 split at h
 ·cases h;exact F1
 ·cases h;exact a4E
 ·cases h;exact a1g
 ·cases h;exact a0n
 ·cases h;exact Cn.cloneS_sound
 ·cases h;exact a2U
 ·cases h
noncomputable def d8f:Env:=(S9 (fun _=>⟨[],[],[],[],[],[]⟩) c8R (fun _=>false) (fun _=>true)).rawE
theorem c8P:EnvOk Tryz.prog GW B7 d8f:=d6d (y6 _ _ _ _ c8S)
noncomputable def Aw_E:Env:=d8p d8f e1A 100 40
theorem Aw_E_ok:EnvOk Tryz.prog GW B7 Aw_E:=b95 c8P c8Q c6G _ _
end Go.Proofs.YtolpmfhiegpohaaGreatDoor.Aw
namespace Go.Proofs.YtolpmfhiegpohaaGreatDoor
open Go Go.RowKit
set_option maxRecDepth 100000
theorem d8Y:c9p Aw.Aw_E 100 Tryz.f8=some true:=by kernel_rfl
def a3n:Option Bool:=some true
theorem b0U:Sound Tryz.prog GW B7 8 ⟨[],[],[.v .bool],[],Bool,fun z=>((z,()),()),fun _ _=>a3n⟩:=b9L Aw.Aw_E_ok Tryz.func8 Tryz.call8 _ d8Y
end Go.Proofs.YtolpmfhiegpohaaGreatDoor
namespace Go.Proofs.YtolpmfhiegpohaaGreatDoor
set_option linter.unusedVariables false
set_option linter.unusedSimpArgs false
open Go Go.RowKit Go.Shelf
def strconv_Atoi(a:c8):Option Int:=if a.length<=18 then Lib.atoi a else none
end Go.Proofs.YtolpmfhiegpohaaGreatDoor
namespace Go.Proofs.YtolpmfhiegpohaaGreatDoor
set_option linter.unusedVariables false
set_option linter.unusedSimpArgs false
open Go Go.RowKit Go.Shelf
def t6(xs:List c8):Option (List c8):=some (Lib.compact xs)
theorem c2w(xs:List c8):(Lib.compact xs).length<=xs.length:=Lib.compact_length_le xs
theorem Y4:Sound Tryz.prog GW B7 184 ⟨[.row 0],[.row 9 .str true],[.row 0],[.row 9 .str true],List c8,fun z=>(((),()),(z,())),fun x y=>t6 y.1⟩:=by
 refine Sound.ofRow (ps:=[]) (t:= .str) true (F:=fun x xs=>t6 xs) Tryz.call184 (by decide) fun M w g v0 vs x xs zs cs hG hMl hM hown hels hA hz=>?_
 match vs,hA with
 |[],hA=>
   change t6 xs=some zs at hz
   unfold t6 at hz
   injection hz with hz
   have hl:=hown.1
   have hl':cs.length=xs.length:=by rw[hl];exact Nat.mul_one _
   have hcs:=c5c hl' hels
   rcases hown.2 with⟨e1,e2⟩|⟨b,cap,cur,e1,_,hg,hle,hmax,hsz,htk⟩
   ·have hx0:xs=[]:=List.eq_nil_of_length_eq_zero e2
    subst hx0 e1
    refine(Tryz.slices_Compact_string_empty none 0 w).mono fun e w' hp=>?_
    obtain⟨rfl,rfl⟩:=hp
    subst hz
    exact⟨_,[],rfl,fun h=>(by cases h),ExtX.refl _ _,⟨rfl,.inl ⟨rfl,rfl⟩⟩,fun i h=>absurd h (Nat.not_lt_zero _),fun b hb=> .inl hb⟩
   ·subst e1
    have hsz':cur.size=cap:=by rw[hsz];exact Nat.mul_one _
    have htk':cur.toList.take xs.length=xs.map fun x=>Value.string ⟨x.toArray⟩:=by rw[<-hcs,<-htk];congr 1;exact(Nat.mul_one _).symm
    have hcell:∀k,k<xs.length->w.cell? ⟨b,0+k,none⟩=some (.string ⟨(xs[k]?.getD []).toArray⟩):=fun k hk=>by
     have h1:cur.toList[k]? = some (Value.string ⟨xs[k].toArray⟩):=by
      have:=congrArg (fun l=>l[k]?) htk'
      simp only[List.getElem?_take,hk,if_true,List.getElem?_map,List.getElem?_eq_getElem hk,Option.map_some]at this
      exact this
     rw[Nat.zero_add,List.getElem?_eq_getElem hk]
     unfold World.cell?
     rw[hg]
     simpa using h1
    refine(Tryz.slices_Compact_string_cells b 0 xs.length cap (fun k=>⟨(xs[k]?.getD []).toArray⟩) w (by unfold maxLen at hmax;omega) hle hcell (fun k hk=>by unfold World.frozen?;rw[hg];simp)).mono fun e w' hp=>?_
    obtain⟨rfl,q,rfl⟩:=hp
    have hstrs:Lib.strsOf (fun k=>(⟨(xs[k]?.getD []).toArray⟩:ByteArray)) xs.length=xs:=by
     apply List.ext_getElem
     ·simp[Lib.strsOf]
     ·intro k h1 h2
      simp[Lib.strsOf,h2]
    rw[hstrs]
    rw[hz]
    have hzle:zs.length<=xs.length:=by rw[<-hz];exact c2w xs
    have hnew:(zs++List.replicate (xs.length-zs.length) []).length=xs.length:=by
     simp only[List.length_append,List.length_replicate];omega
    have hblk:=a47 b 9 (0,0) ((zs++List.replicate (xs.length-zs.length) []).map encStr) 0 (w.drewN q) cur hg (by rw[List.length_map,hnew];omega)
    refine⟨_,zs.map fun x=>Value.string ⟨x.toArray⟩,rfl,fun h=>(by cases h),b84.mono (fun k hk=>by simpa [Value.ownBlock]using hk),⟨by rw[List.length_map];exact(Nat.mul_one _).symm,.inr ⟨b,cap,_,rfl,Nat.zero_le _,hblk,by omega,hmax,?_,?_⟩⟩,b87 _,fun b hb=> .inl hb⟩
    ·have hcl:cur.toList.length=cap:=by rw[Array.length_toList];exact hsz'
     simp only[List.take_zero,List.nil_append,List.size_toArray,List.length_append,List.length_drop,List.length_map,List.length_replicate,hcl]
     show _=cap*1
     omega
    ·show((List.take 0 cur.toList++_++_).toArray.toList).take (zs.length*1)=_
     rw[Nat.mul_one,List.take_zero,List.nil_append,List.map_append,List.append_assoc]
     have e0:zs.map encStr=zs.map fun x=>Value.string ⟨x.toArray⟩:=rfl
     rw[e0]
     have:zs.length=(zs.map fun x=>Value.string ⟨x.toArray⟩).length:=by simp
     rw[this]
     simp
end Go.Proofs.YtolpmfhiegpohaaGreatDoor
