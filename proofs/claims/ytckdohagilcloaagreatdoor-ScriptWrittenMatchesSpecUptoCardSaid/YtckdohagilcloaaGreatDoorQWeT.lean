/- % -/
import Derived.Test.YtckdohagilcloaaGreatDoorQShelfS
import Derived.Shelf.Strings.SlTrimAscii
import Derived.Lib.Join
import Derived.RangeFuncBox
import Derived.RangeFuncLeaves
import Derived.RangeFuncWrites
import Derived.Shelf.Abstract
import Derived.WalkKit
import Derived.OwnWalkIn
import Derived.TacticsInMore
import Derived.LoopNIn
import Derived.LoopIn
import Derived.Shelf.SlIter.Collect
import Derived.Test.YtckdohagilcloaaGreatDoorProg
import Derived.Test.YtckdohagilcloaaGreatDoorQBmLp
import Derived.Test.YtckdohagilcloaaGreatDoorQBmDf
namespace Go.Proofs
open Go Go.RowKit Go.Proofs.YtckdohagilcloaaGreatDoor
abbrev τ0:Type:=Option (Option Unit×(List (d3×Bool))×Bool×Bool)
abbrev τa:=d3×(GValue×Option (τ0×GStmt×Bool))
abbrev τ1:Type:=Int×d3×Int×Int
abbrev τi:=Int×List τ1×Int×Int×Int×d3×d3×Int×d3×Int×Int×List (d3×GExpr)
abbrev τh:=List τ1×Int×Int×Int×d3×Int×Int×List GPart
abbrev τg:=List τ1×Int×Int×Int×d3×Int×List d3×Int×List GPart
abbrev τf:=List τ1×Int×Int×Int×Int×d3×d3×List (d3×GExpr)×Int×d3×Int×Int
abbrev τe:=List GStmt×Int×Bool×List τ1×Int×Int×Int×Bool×List GStmt
abbrev τ2:Ty:= .pr (.int .i64) (.pr .str (.pr (.int .i64) (.int .i64)))
abbrev τ3:Ty:= .int .i64
abbrev τ4:Type:=d3×(d3×d3×List (d3×GValue))
abbrev τ5:Ty:= .np (.pr (.np .un) (.pr (.mp .bool) (.pr .bool .bool)))
abbrev τ6:Ty:= .pr .str (.pr .str (.sl (.pr .str (.rc .value))))
abbrev τ7:Type:=d3×Bool×List UInt8
abbrev τ8:Ty:= .pr (.rc .value) (.np (.pr τ5 (.pr (.rc .stmt) .bool)))
abbrev τ9:Type:=d3×GValue
abbrev τ10:Ty:= .sl (.pr .str (.pr .bool (.sl .u8)))
abbrev Y7:Type:=List (d3×τ0)
abbrev τ12:Ty:= .pr .str (.rc .value)
abbrev O1:Ty:= .rc .expr
abbrev R2:Type:=d3×d3
abbrev τ15:Ty:= .sl (.rc .stmt)
abbrev τ16:Type:=Int×d3×d3×List R2×List τ7×Int×Int×Int×Y7×List τ4
abbrev τ17:Ty:= .sl (.pr .str .str)
abbrev τ18:Ty:= .rc .value
abbrev τ19:Type:=d3×d3×List τ9
abbrev Y8:Type:=List τ4
abbrev τd:=Int×d3×d3×List R2×List τ7×Int×Int×Int×Option Unit×Y7×Y8×(List (τa))×List GValue
abbrev τb:=Int×d3×d3×List R2×List τ7×Int×Int×Int×Option Unit×Y7×Y8×List (τa)
abbrev τ21:Ty:= .sl .str
abbrev τ22:Type:=List τ1
abbrev τ23:Type:=List UInt8
abbrev τ24:Type:=List d3
abbrev τ25:Type:=List τ9
abbrev τ26:Ty:= .rc .stmt
abbrev τ27:Type:=List (d3×Bool)
abbrev τc:=Int×d3×d3×List R2×List τ7×Int×Int×Int×Bool×Bool×Option Unit×Y7×Y8×τ27×List (τa)
abbrev τ28:Type:=Int×d3×Int×Int×d3×Int×Int×List τ1
abbrev τ29:Ty:= .sl (.pr .str O1)
abbrev τ30:Type:=d3×d3×Int×List τ1
abbrev τ31:Ty:= .sl τ12
abbrev τ32:Type:=Option Unit
abbrev τ33:Ty:= .pr .str (.sl τ6)
abbrev τ34:Type:=d3×Bool×d3×Int×List τ1
abbrev τ35:Type:=List τ1×Int×Int
abbrev τ36:Type:=d3×Int
abbrev τ37:Ty:= .pr .str (.pr .str (.pr τ17 τ10))
abbrev τ38:Type:=List τ1×Int×Int×Int×d3×d3×Int×d3×Int×Int
abbrev τ39:Type:=Option Int
abbrev τ40:Type:=List R2
abbrev τ41:Ty:= .np .un
abbrev τ42:Type:=(d3×List τ19)×Int×Int
abbrev τ43:Type:=List (d3×τ0)
abbrev τ44:Ty:= .pr .bool (.pr .bool (.pr .bool (.pr .bool (.pr .bool (.pr .bool .bool)))))
abbrev τ45:Type:=List τ7
abbrev τ46:Type:=Bool×List τ1×Int×Int
abbrev τ47:Type:=d3×List τ1×Int×Int
end Go.Proofs
namespace Go.Proofs.YtckdohagilcloaaGreatDoor
set_option linter.unusedVariables false
set_option linter.unusedSimpArgs false
set_option maxRecDepth 100000
open Go Go.RowKit
section
open Go Go.RowKit Go.Shelf
def a3w(x y:d3):Bool:=decide (x<=y)
def w6(xs:List d3):Option τ24:=if xs.length<4611686018427387904 then some (xs.mergeSort a3w)else none
theorem c3t:Sound Tryz.prog GW x6 45 ⟨[.row 0],[.row 9 .str true],[],[.row 9 .str true,.none],List d3,fun z=>((),z,(),()),fun x y=>w6 y.1⟩:=by
 refine Sound.ofRowKept (ps:=[]) (t:= .str) (F:=fun x xs=>w6 xs) Tryz.call45 (by decide) fun M w g v0 vs x xs zs cs hG hMl hM hown hels hA hz=>?_
 match vs,hA with
 |[],hA=>
  change w6 xs=some zs at hz;unfold w6 at hz;split at hz
  case isFalse=>cases hz
  rename_i hbig;injection hz with hz
  have hl:=hown.1;have hl':cs.length=xs.length:=by rw[hl];exact Nat.mul_one _
  have hcs:=c6w hl' hels;have hzl:zs.length=xs.length:=by rw[<-hz];exact List.length_mergeSort _
  rcases hown.2 with⟨e1,e2⟩|⟨b,cap,cur,e1,_,hg,hle,hmax,hsz,htk⟩
  ·have hx0:xs=[]:=List.eq_nil_of_length_eq_zero e2;subst hx0 e1;refine(AnyM.slices_Sort_string_none Tryz.sortS none 0 w).mono fun e w' hp=>?_
   obtain⟨rfl,rfl⟩:=hp;have hz0:zs=[]:=List.eq_nil_of_length_eq_zero hzl;subst hz0;exact⟨[],rfl,ExtX.refl _ _,⟨rfl,.inl ⟨rfl,rfl⟩⟩,fun i h=>absurd h (Nat.not_lt_zero _)⟩
  ·subst e1;have hsz':cur.size=cap:=by rw[hsz];exact Nat.mul_one _
   have htk':cur.toList.take xs.length=xs.map fun x=>Value.string ⟨x.toArray⟩:=by rw[<-hcs,<-htk];congr 1;exact(Nat.mul_one _).symm
   have hb:b<w.heap.size:=by
    apply Classical.byContradiction;intro hn;rw[Array.getElem?_eq_none (by omega)]at hg;cases hg
   have hH:Sort.Holds encStr w b 0 xs.toArray:=fun k hk=>by
    have hk:k<xs.length:=by simpa using hk
    have h1:cur.toList[k]? = some (Value.string ⟨xs[k].toArray⟩):=by
     have:=congrArg (fun l=>l[k]?) htk';simp only[List.getElem?_take,hk,if_true,List.getElem?_map,List.getElem?_eq_getElem hk,Option.map_some]at this;exact this
    refine⟨?_,by unfold World.frozen?;rw[hg];simp⟩;rw[Nat.zero_add];have e:encStr xs.toArray[k]! = Value.string ⟨xs[k].toArray⟩:=by simp[encStr,hk]
    rw[e];unfold World.cell?;rw[hg];simpa using h1
   refine(AnyM.slices_Sort_string Tryz.sortS b 0 cap xs w hH hb hbig).mono fun e w' hp=>?_
   obtain⟨rfl,n,os,rfl⟩:=hp;have ez:(xs.mergeSort fun x y=>decide (x<=y))=zs:=hz;rw[ez];refine⟨zs.map fun x=>Value.string ⟨x.toArray⟩,rfl,(b6U encStr).mono (fun k hk=>by simpa [Value.ownBlock]using hk),⟨by rw[List.length_map];exact(Nat.mul_one _).symm,.inr ⟨b,cap,_,by rw[hzl],Nat.zero_le _,b1P encStr hg,by omega,hmax,?_,?_⟩⟩,b9u _⟩
   ·rw[a4p];exact hsz
   ·rw[show zs.length*Ty.sz .str=zs.length from Nat.mul_one _];exact a8j encStr zs cur (by omega)
abbrev V0:Sl:= .v τ3
abbrev V1:Sl:= .v .str
abbrev V2:Sl:= .v (.sl τ2)
abbrev V3:Sl:= .v .bool
abbrev V4:Sl:= .v τ21
abbrev V5:Sl:= .v τ15
end
section
abbrev E3(ps:List Sl)(bs:List Sb)(rs:List Sl)(cs:List Sb)(R:Type)(out:R->SV rs×BV cs)(f:SV ps->BV bs->Option R):AF:={ps:=ps,bs:=bs,rs:=rs,cs:=cs,R:=R,out:=out,f:=f}
abbrev ρ0:Type:=d3->d3->τ40->τ45->Int->Int->Int->Bool->Bool->τ32->Y7->Y8->τ27->(List (τa))->Option (τc)
abbrev ρ1:Type:=d3->d3->τ40->τ45->Int->Int->Int->τ32->Y7->Y8->(List (τa))->(List GValue)->Option (τd)
abbrev ρ2:Type:=GExpr->d3->d3->τ40->τ45->Int->Int->Int->τ32->Y7->Y8->(List (τa))->Option (GValue×τb)
abbrev ρ3:Type:=d3->d3->τ40->τ45->Int->Int->Int->τ32->Y7->Y8->(List (τa))->τ25->Option (τb)
abbrev ρ4:Type:=τ22->Int->Int->Int->Int->d3->d3->Int->d3->Int->Int->(List (d3×GExpr))->Option (τf)
abbrev ρ5:Type:=τ25->Option (GValue×τb)
abbrev ρ6:Type:=τ22->Int->Int->Int->d3->Int->Int->τ24->(List GPart)->Option (τg)
abbrev ρ7:Type:=τ22->Int->Int->Int->d3->Int->Int->(List GPart)->Option (τh)
abbrev ρ8:Type:=τ22->Int->Int->(List GStmt)->Option (τe)
abbrev ρ9:Type:=τ22->Int->Int->Int->d3->Int->τ24->Unit->(List GPart)->Option (GPart×List τ1×Int×Int)
abbrev ρ10:Type:=τ22->Int->Int->(List GExpr)->Option (GExpr×List τ1×Int×Int)
abbrev ρ11:Type:=GPart->Int->τ22->Int->Int->Option (GExpr×List τ1×Int×Int)
abbrev V8:Type:=τ22->Int->Int->Option (GPart×List τ1×Int×Int)
abbrev ρ13:Type:=Int->τ24->(List GExpr)->Option GExpr
abbrev ρ14:Type:=Int->(List GStmt)->τ23->Option τ23
abbrev ρ15:Type:=Int->Option (d3×Int×List τ1)
abbrev ρ16:Type:=(List GStmt)->Int->Option (Int)
abbrev ρ17:Type:=τ24->(List GExpr)->Option GExpr
abbrev ρ18:Type:=(List (d3×GExpr))->Option τ36
abbrev ρ19:Type:=(List GStmt)->Int->Option (d3)
abbrev ρ20:Type:=Int->(List GStmt)->Option τ36
abbrev ρ21:Type:=GValue->GValue->Option (Bool)
abbrev ρ22:Type:=(List GStmt)->Option (Int)
abbrev ρ23:Type:=GExpr->Int->Option (Int)
abbrev ρ24:Type:=GStmt->Int->Option (Int)
abbrev ρ25:Type:=(List GStmt)->Option τ36
abbrev ρ26:Type:=GValue->Option (GValue)
abbrev ρ27:Type:=GValue->Option (GExpr)
abbrev ρ28:Type:=Int->Int->Option Int
abbrev ρ29:Type:=Int->τ24->Option d3
abbrev ρ30:Type:=GExpr->Option (Int)
abbrev ρ31:Type:=GExpr->Option (d3)
abbrev ρ32:Type:=τ25->Option (Int)
abbrev ρ33:Type:=Int->Option Bool
abbrev ρ34:Type:=Int->Option Int
abbrev ρ35:Type:=τ24->Option τ24
abbrev ρ36:Type:=τ24->Option d3
abbrev ρ37:Type:=Int->Option τ30
end
section
open Go Go.RowKit Go.Shelf
def q8(xs:List d3):Option τ24:=some (Lib.compact xs)
theorem c4z(xs:List d3):(Lib.compact xs).length<=xs.length:=Lib.compact_length_le xs
theorem c2p:Sound Tryz.prog GW x6 46 ⟨[.row 0],[.row 9 .str true],[.row 0],[.row 9 .str true],List d3,fun z=>(((),()),z,()),fun x y=>q8 y.1⟩:=by
 refine Sound.ofRow (ps:=[]) (t:= .str) true (F:=fun x xs=>q8 xs) Tryz.call46 (by decide) fun M w g v0 vs x xs zs cs hG hMl hM hown hels hA hz=>?_
 match vs,hA with
 |[],hA=>
   change q8 xs=some zs at hz;unfold q8 at hz;injection hz with hz
   have hl:=hown.1;have hl':cs.length=xs.length:=by rw[hl];exact Nat.mul_one _
   have hcs:=c6w hl' hels;rcases hown.2 with⟨e1,e2⟩|⟨b,cap,cur,e1,_,hg,hle,hmax,hsz,htk⟩
   ·have hx0:xs=[]:=List.eq_nil_of_length_eq_zero e2;subst hx0 e1;refine(Tryz.slices_Compact_string_empty none 0 w).mono fun e w' hp=>?_
    obtain⟨rfl,rfl⟩:=hp;subst hz;exact⟨_,[],rfl,fun h=>(by cases h),ExtX.refl _ _,⟨rfl,.inl ⟨rfl,rfl⟩⟩,fun i h=>absurd h (Nat.not_lt_zero _),fun b hb=> .inl hb⟩
   ·subst e1;have hsz':cur.size=cap:=by rw[hsz];exact Nat.mul_one _
    have htk':cur.toList.take xs.length=xs.map fun x=>Value.string ⟨x.toArray⟩:=by rw[<-hcs,<-htk];congr 1;exact(Nat.mul_one _).symm
    have hcell:∀k,k<xs.length->w.cell? ⟨b,0+k,none⟩=some (.string ⟨(xs[k]?.getD []).toArray⟩):=fun k hk=>by
     have h1:cur.toList[k]? = some (Value.string ⟨xs[k].toArray⟩):=by
      have:=congrArg (fun l=>l[k]?) htk';simp only[List.getElem?_take,hk,if_true,List.getElem?_map,List.getElem?_eq_getElem hk,Option.map_some]at this;exact this
     rw[Nat.zero_add,List.getElem?_eq_getElem hk];unfold World.cell?;rw[hg];simpa using h1
    refine(Tryz.slices_Compact_string_cells b 0 xs.length cap (fun k=>⟨(xs[k]?.getD []).toArray⟩) w (by unfold maxLen at hmax;omega) hle hcell (fun k hk=>by unfold World.frozen?;rw[hg];simp)).mono fun e w' hp=>?_
    obtain⟨rfl,q,rfl⟩:=hp;have hstrs:Lib.strsOf (fun k=>(⟨(xs[k]?.getD []).toArray⟩:ByteArray)) xs.length=xs:=by
     apply List.ext_getElem
     ·simp[Lib.strsOf]
     ·intro k h1 h2;simp[Lib.strsOf,h2]
    rw[hstrs];rw[hz];have hzle:zs.length<=xs.length:=by rw[<-hz];exact c4z xs
    have hnew:(zs++List.replicate (xs.length-zs.length) []).length=xs.length:=by
     simp only[List.length_append,List.length_replicate];omega
    have hblk:=a6R b 9 (0,0) ((zs++List.replicate (xs.length-zs.length) []).map encStr) 0 (w.drewN q) cur hg (by rw[List.length_map,hnew];omega);refine⟨_,zs.map fun x=>Value.string ⟨x.toArray⟩,rfl,fun h=>(by cases h),b9q.mono (fun k hk=>by simpa [Value.ownBlock]using hk),⟨by rw[List.length_map];exact(Nat.mul_one _).symm,.inr ⟨b,cap,_,rfl,Nat.zero_le _,hblk,by omega,hmax,?_,?_⟩⟩,b9u _,fun b hb=> .inl hb⟩
    ·have hcl:cur.toList.length=cap:=by rw[Array.length_toList];exact hsz'
     simp only[List.take_zero,List.nil_append,List.size_toArray,List.length_append,List.length_drop,List.length_map,List.length_replicate,hcl];show _=cap*1;omega
    ·show((List.take 0 cur.toList++_++_).toArray.toList).take (zs.length*1)=_;rw[Nat.mul_one,List.take_zero,List.nil_append,List.map_append,List.append_assoc];have e0:zs.map encStr=zs.map fun x=>Value.string ⟨x.toArray⟩:=rfl
     rw[e0];have:zs.length=(zs.map fun x=>Value.string ⟨x.toArray⟩).length:=by simp
     rw[this];simp
end
section
open Go Go.RowKit Go.Shelf
theorem Sound.ofMade{P:Program}{G:World->Prop}{B0:Nat}{f:FuncId}{ps:List Sl}{bs:List Sb}{rs:List Sl}{cs:List Sb}{R:Type}[BothC R]{out:R->SV rs×BV cs}{F:SV ps->BV bs->Option R}
  (hcall:∀(args:Array Value) (w:World),(callFunc f args).run P w = .ok (.enter f args) w) (hlen:cs.length=bs.length+1)
  (h:∀(M:Nat->Nat->Prop) (w:World) (g:Gh) (vs:List Value) (x:SV ps) (y:BV bs) (z:R),G w->B0<=w.heap.size->Frag B0 M w g ps bs x y vs->F x y=some z->
   Calls P f vs.toArray w fun e w'=>∃vs' gx,e = .returned (b12 vs')/\Ext w w'/\(∀b,gx.blk=some b->w.heap.size<=b/\b<w'.heap.size/\(0<gx.lo->∀es c,w'.heap[b]? ≠ some (.map es c)))/\
    ∀(M':Nat->Nat->Prop) (g':Gh),(∀r y,g r=some y->g' r=some y)->g' bs.length=some gx->Step M w M' w'->
     All2 (RepD0 M' w' g') (a0E id rs (out z).1) vs'/\∀r blk,a2T id cs (out z).2 r=some blk->∃gy,g' r=some gy/\RepB M' w' g' gy blk):
  Sound P G B0 f ⟨ps,bs,rs,cs,R,out,F⟩:=by
 refine⟨hcall,fun M w g vs x y z hG hB hF hz=>?_⟩;refine(h M w g vs x y z hG hB hF hz).mono fun e w' hp=>?_
 obtain⟨vs',gx,he,hE,hnew,hrest⟩:=hp;obtain⟨g',hgd⟩:∃g':Gh,g'=g.set bs.length (some gx):=⟨_,rfl⟩;have hgn:g' bs.length=some gx:=by rw[hgd,Gh.set_same]
 have hgo:∀r y,g r=some y->g' r=some y:=fun r y hr=>by
  have hd:r<bs.length:=hF.dom r y hr;rw[hgd,Gh.set_other _ _ (by omega)];exact hr
 have hgc:∀r y,g' r=some y->(r=bs.length/\y=gx)\/g r=some y:=fun r y hr=>by
  by_cases e:r=bs.length
  ·subst e;rw[hgn]at hr;exact .inl ⟨rfl,(Option.some.inj hr).symm⟩
  ·rw[hgd,Gh.set_other _ _ e]at hr;exact .inr hr
 have hlow:∀r y b,g r=some y->y.blk=some b->B0<=b/\b<w.heap.size:=fun r y b h1 h2=>hF.low r y b h1 h2
 have hstep:Step M w (y6 M g g') w':=by
  have key:∀b o,b<w.heap.size->¬M b o->¬y6 M g g' b o:=fun b o hb hm hm'=>by
   rcases hm' with⟨h1,_⟩|⟨r,y,hr,hyb,hlo⟩
   ·exact hm h1
   ·rcases hgc r y hr with⟨_,rfl⟩|hr
    ·have:=(hnew b hyb).1;omega
    ·exact hm ((hF.chg r y b o hr hyb).2 hlo)
  exact⟨fun ad u hu hm=>⟨hE.cell hu,key _ _ (World.block_lt_of_cell? w _ hu) hm⟩,fun b es c hb hm=>⟨(hE.block b (z8 hb)).trans hb,key _ _ (z8 hb) hm⟩⟩
 obtain⟨hA,hR⟩:=hrest _ g' hgo hgn hstep;refine⟨vs',g',he,ExtX.of_ext hE,hstep,?_,fun r y hr _=>hgo r y hr,fun b hb=>?_⟩
 ·exact{
   args:=hA
   res:=hR
   dom:=fun r y hr=>by
    show r<cs.length;rcases hgc r y hr with⟨rfl,_⟩|hr
    ·omega
    ·have hd:r<bs.length:=hF.dom r y hr;omega
   inj:=fun r r' y y' b hr hr' hb hb'=>by
    rcases hgc r y hr with⟨rfl,rfl⟩|h1
    ·rcases hgc r' y' hr' with⟨rfl,_⟩|h2
     ·rfl
     ·have:=(hnew b hb).1;have:=(hlow _ _ _ h2 hb').2;omega
    ·rcases hgc r' y' hr' with⟨rfl,rfl⟩|h2
     ·have:=(hnew b hb').1;have:=(hlow _ _ _ h1 hb).2;omega
     ·exact hF.inj r r' y y' b h1 h2 hb hb'
   low:=fun r y b hr hb=>by
    rcases hgc r y hr with⟨_,rfl⟩|h1
    ·exact⟨Nat.le_trans hB (hnew b hb).1,(hnew b hb).2.1⟩
    ·have:=hlow _ _ _ h1 hb;exact⟨this.1,Nat.lt_of_lt_of_le this.2 hE.size⟩
   chg:=fun r y b o hr hb=>by
    refine⟨fun hm=>?_,fun hle=> .inr ⟨r,y,hr,hb,hle⟩⟩;rcases hm with⟨h1,h2⟩|⟨r',y',hr',hb',hlo⟩
    ·rcases hgc r y hr with⟨_,rfl⟩|h3
     ·have:=(hnew b hb).1;have:=hF.mlt b o h1;omega
     ·exact absurd ⟨r,y,h3,hb⟩ h2
    ·rcases hgc r y hr with⟨e1,rfl⟩|h3
     ·rcases hgc r' y' hr' with⟨_,rfl⟩|h4
      ·exact hlo
      ·have:=(hnew b hb).1;have:=(hlow _ _ _ h4 hb').2;omega
     ·rcases hgc r' y' hr' with⟨_,rfl⟩|h4
      ·have:=(hnew b hb').1;have:=(hlow _ _ _ h3 hb).2;omega
      ·have:=hF.inj r r' y y' b h3 h4 hb hb';subst this;rw[h3]at h4;cases h4;exact hlo
   mlt:=fun b o hm=>by
    rcases hm with⟨h1,_⟩|⟨r,y,hr,hb,_⟩
    ·exact Nat.lt_of_lt_of_le (hF.mlt b o h1) hE.size
    ·rcases hgc r y hr with⟨_,rfl⟩|h3
     ·exact(hnew b hb).2.1
     ·exact Nat.lt_of_lt_of_le (hlow _ _ _ h3 hb).2 hE.size
   row:=fun r y b hr hb h0=>by
    rcases hgc r y hr with⟨_,rfl⟩|h3
    ·exact(hnew b hb).2.2 h0
    ·intro es c hc;rw[hE.block b (hlow _ _ _ h3 hb).2]at hc;exact hF.row r y b h3 hb h0 es c hc}
 ·obtain⟨r,y,hr,hb⟩:=hb;rcases hgc r y hr with⟨_,rfl⟩|h3
  ·exact .inr (hnew b hb).1
  ·exact .inl ⟨r,y,h3,hb⟩
end
section
open Go Go.RowKit Go.Shelf
def strings_Join(l:List d3)(sep:d3):Option d3:=if(Lib.join l sep).length<=140737488355328/\l.length<=140737488355328 then some (Lib.join l sep)else none
theorem a4M:Sound Tryz.prog GW x6 59 ⟨[V4,V1],[],[V1],[],d3,fun z=>((z,()),()),fun x _=>strings_Join x.1 x.2.1⟩:=by
 refine Sound.ofExt Tryz.call59 fun M w vs x z hG hM hA hz=>?_
 obtain⟨l,b,u⟩:=x
 match vs,hA with
 |[v1,v2],hA=>
  obtain⟨h1,h2,_⟩:=hA;obtain⟨A,c,e1,hc1,hc2,hcell⟩:=RepV.strs h1;rw[e1,RepV.str h2];change strings_Join l b=some z at hz;unfold strings_Join at hz;split at hz
  ·rename_i hc;injection hz with hz
   subst hz;rcases Classical.em (l=[])with hl|hl
   ·subst hl;refine(Any.strings_Join_none Tryz.lays156 Tryz.Builder_Extra_156 A c ⟨b.toArray⟩ w).mono fun e w' hp=>?_
    exact⟨[_],hp.1,hp.2▸Ext.refl w,b9D _,trivial⟩
   ·replace hcell:=hcell hl;obtain⟨bk,o,rfl,hcell⟩:=hcell;have hm:(l.map fun x=>(⟨x.toArray⟩:ByteArray)).map (·.data.toList)=l:=by rw[List.map_map];exact List.map_id' l
    have hbk:bk<w.heap.size:=by
     cases l with
     |nil=>exact absurd rfl hl
     |cons x r=>exact World.block_lt_of_cell? w _ (hcell 0 x rfl)
    have:=Any.strings_Join Tryz.lays156 Tryz.Builder_Extra_156 bk o c (l.map fun x=>(⟨x.toArray⟩:ByteArray)) ⟨b.toArray⟩ w (fun j x hj=>by
     rw[List.getElem?_map]at hj;cases hx:l[j]? with
     |none=>rw[hx]at hj;cases hj
     |some y=>rw[hx]at hj;injection hj with hj;subst hj;exact hcell j y hx) hbk (by rw[List.length_map];exact hc.2) (by rw[List.length_map];exact hc1) (by rw[hm];exact hc.1)
    rw[hm,List.length_map]at this;refine this.mono fun e w' hp=>?_
    exact⟨[_],hp.1,hp.2,b9D _,trivial⟩
  ·cases hz
end
section
open Go Go.RowKit Go.Shelf
attribute [local go_sem] Oper.semAt_some
abbrev a62(s:d3):Value:= .string ⟨s.toArray⟩
def a4m(zs:List d3)(k:Nat):List d3:=(List.range k).map fun j=>zs[j]?.getD []
theorem c00(zs:List d3)(k:Nat):a4m zs (k+1)=a4m zs k ++ [zs[k]?.getD []]:=by simp[a4m,List.range_succ]
theorem b5T(zs:List d3)(k:Nat):(a4m zs k).length=k:=by simp[a4m]
theorem c4D(zs:List d3):a4m zs zs.length=zs:=by
 apply List.ext_getElem
 ·simp[a4m]
 ·intro i h1 h2;simp[a4m,h2]
set_option maxRecDepth 100000 in
set_option maxHeartbeats 2000000 in
theorem c2c(n:Nat)(hn:1<=n)(l Bs n₀ b off len cap:Nat)(zs:List d3)(hreach:len*16<=140737488351232)(hb:b<n₀)(J Jx:List d3->World->Prop)
  (hY:∀pre x W,J pre W->pre.length<len->YieldAt Fence.wide (n-1) Tryz.prog l #[a62 x] W fun e W'=>
   (e = .returned (.bool true)/\J (pre ++ [x]) W'/\Below n₀ W W')\/(e = .returned (.bool false)/\Jx (pre ++ [x]) W'))
  (W:World) (hBs:W.cell? ⟨Bs,0,none⟩=some (.slice (some ⟨b,off,none⟩) len cap)) (hc:∀j,j<len->W.cell? ⟨b,off+j,none⟩=some (a62 (zs[j]?.getD []))) (h0:J [] W):
  CallsIn Fence.wide n Tryz.prog 250 #[.func (.yield l) #[] #[],.pointer (some ⟨Bs,0,none⟩)] W fun e W'=>(∃v,e = .returned v)/\
   (J (a4m zs len) W'\/∃pre,Jx pre W'):=by
 refine callsIn_of_wp Tryz.func250 rfl trivial ?_ rfl;simp only[Tryz.ntmps250,List.size_toArray,List.length_cons,List.length_nil,Nat.reduceAdd,Nat.reduceSub,Array.replicate_succ,Array.replicate_zero,List.push_toArray,List.append_toArray,List.nil_append,List.cons_append]
 gi_wp2
 gi_loopw [7] (fun i wr=>∃k:Nat,k<=len/\i = .int .i64 k/\J (a4m zs k) wr/\Below n₀ W wr)
  (fun i _=>len-(intOf i).toNat)
 case atStart=>exact⟨0,Nat.zero_le _,rfl,h0,Below.refl _ _⟩
 case round=>
  obtain⟨k,hk,rfl,hJs,hnx⟩:=hrel;have hcx:k<len->wr.cell? ⟨b,off+k,none⟩=some (a62 (zs[k]?.getD [])):=fun h=>(hnx.cell (p:=⟨b,off+k,none⟩) hb).trans (hc k h)
  by_cases hlt:k<len
  ·obtain⟨fn,tmps,assign,body,hy,hR⟩:=hY _ (zs[k]?.getD []) wr hJs (by rw[b5T];exact hlt);have hcx':=hcx hlt
   gi_wp2
   refine hR.mono ?_;rintro e W3 (⟨rfl,hJ3,hk3⟩|⟨rfl,hJx3⟩)
   ·gi_wp2
    go_roundw
    case rel=>exact⟨k+1,by omega,by simp,by rw[c00];exact hJ3,hnx.trans hk3⟩
    case measure=>simp[intOf];omega
   ·gi_wp2
    refine bodyPost_ret (results_none rfl _ _ _) rfl ?_;exact⟨⟨_,rfl⟩,.inr ⟨_,hJx3⟩⟩
  ·obtain rfl:k=len:=by omega
   gi_wp2
   go_end0
   exact⟨⟨_,rfl⟩,.inl hJs⟩
set_option maxRecDepth 100000 in
set_option maxHeartbeats 1000000 in
theorem b14(n:Nat)(l Bs:Nat)(A:Option Addr)(c:Nat)(J:List d3->World->Prop)(W:World)(hBs:W.cell? ⟨Bs,0,none⟩=some (.slice A 0 c))(h0:J [] W):
  CallsIn Fence.wide n Tryz.prog 250 #[.func (.yield l) #[] #[],.pointer (some ⟨Bs,0,none⟩)] W fun e W'=>(∃v,e = .returned v)/\J [] W':=by
 refine callsIn_of_wp Tryz.func250 rfl trivial ?_ rfl;simp only[Tryz.ntmps250,List.size_toArray,List.length_cons,List.length_nil,Nat.reduceAdd,Nat.reduceSub,Array.replicate_succ,Array.replicate_zero,List.push_toArray,List.append_toArray,List.nil_append,List.cons_append]
 gi_wp2
 gi_loopw [7] (fun i wr=>i = .int .i64 0/\J [] wr) (fun _ _=>0)
 case atStart=>exact⟨rfl,h0⟩
 case round=>
  obtain⟨rfl,hJs⟩:=hrel
  gi_wp2
  go_end0
  exact⟨⟨_,rfl⟩,hJs⟩
def StrsAt(n₀:Nat)(W:World)(sv:Value)(zs:List d3):Prop:=(∃A c,sv = .slice A 0 c/\zs=[])\/∃b off cap,sv = .slice (some ⟨b,off,none⟩) zs.length cap/\b<n₀/\∀j,j<zs.length->W.cell? ⟨b,off+j,none⟩=some (a62 (zs[j]?.getD []))
theorem StrsAt.below{n₀:Nat}{A B:World}(h:Below n₀ A B){sv:Value}{zs:List d3}:StrsAt n₀ A sv zs->StrsAt n₀ B sv zs
 |.inl e=> .inl e
 |.inr ⟨b,off,cap,e,hb,hc⟩=> .inr ⟨b,off,cap,e,hb,fun j hj=>(h.cell (p:=⟨b,off+j,none⟩) hb).trans (hc j hj)⟩
theorem b9E(n:Nat)(hn:1<=n)(Bs n₀:Nat)(sv:Value)(zs:List d3)(hreach:zs.length*16<=140737488351232)(w:World)(hBs:Bs<w.heap.size)(hn₀:n₀<=w.heap.size)
  (hc:w.cell? ⟨Bs,0,none⟩=some sv) (hI:StrsAt n₀ w sv zs):
  SeqStopsK Fence.wide n Tryz.prog 250 #[.pointer (some ⟨Bs,0,none⟩)] (fun x:d3=>#[a62 x]) (Below n₀) (fun ys=>ys=zs) (fun _=>True) zs.length w:=fun l J Jx W hW _ _ hY h0=>by
 have hc':=(hW.cell (p:=⟨Bs,0,none⟩) hBs).trans hc;rcases hI.below (hW.mono hn₀)with⟨A,c,rfl,rfl⟩|⟨b,off,cap,rfl,hb,hcs⟩
 ·exact(b14 n l Bs A c J W hc' h0).mono fun e W' ⟨he,hj⟩=>⟨he,.inl ⟨_,rfl,hj⟩⟩
 ·refine(c2c n hn l Bs n₀ b off zs.length cap zs hreach hb J Jx hY W hc' hcs h0).mono ?_;rintro e W' ⟨he,hj|⟨pre,hj⟩⟩
  ·exact⟨he,.inl ⟨_,c4D zs,hj⟩⟩
  ·exact⟨he,.inr ⟨pre,trivial,hj⟩⟩
set_option maxRecDepth 100000 in
set_option maxHeartbeats 2000000 in
theorem b2P(n:Nat)(hn:3<=n)(Bq:Nat)(sv:Value)(zs:List d3)(hreach:zs.length*16<=140737488351232)(w:World)(hBq:Bq<w.heap.size)
  (hc:w.cell? ⟨Bq,0,none⟩=some sv) (hI:StrsAt w.heap.size w sv zs):
  CallsIn Fence.wide n Tryz.prog 277 #[.slice none 0 0,.func (.func 250) #[] #[.pointer (some ⟨Bq,0,none⟩)]] w fun e w'=>
   ∃v,e = .returned v/\w'.ownsRow w.heap.size 9 1 v zs.length (zs.map a62)/\Below w.heap.size w w':=by
 have h1:1<=n:=by omega
 obtain⟨i0,hi,hz0,hz1,hz2⟩:∃i,Tryz.prog.info? 9=some i/\i.zero=some (.string ⟨#[]⟩)/\i.size=1/\i.bytes=16:=by
  have hz:(Tryz.prog.info? 9).map (fun i=>(i.zero,i.size,i.bytes))=some (some (.string ⟨#[]⟩),1,16):=by kernel_rfl
  cases hi:Tryz.prog.info? 9 with
  |none=>rw[hi]at hz;cases hz
  |some i=>
   rw[hi]at hz;simp only[Option.map_some,Option.some.injEq,Prod.mk.injEq]at hz;exact⟨i,rfl,hz.1,hz.2.1,hz.2.2⟩
 have hne:42≠9:=by decide
 refine callsIn_of_wp_marks Tryz.func277 rfl trivial ?_ rfl;simp only[Tryz.ntmps277,List.size_toArray,List.length_cons,List.length_nil,Nat.reduceAdd,Nat.reduceSub,Array.replicate_succ,Array.replicate_zero,List.push_toArray,List.append_toArray,List.nil_append,List.cons_append]
 gi_wp2
 have hv0:(w.alloc (.cells #[.slice none 0 0] 42)).heap[w.heap.size]? = some (.cells #[.slice none 0 0] 42 (0,0)):=World.alloc_heap_new w _;have hB0:Below w.heap.size w (w.alloc (.cells #[.slice none 0 0] 42)):=(Below.refl _ w).alloc (Nat.le_refl _) _;refine wpIn_rangeFunc_ownG rfl h1 (gf:=250) (lb:=#[.pointer (some ⟨Bq,0,none⟩)]) rfl trivial (enters_of Tryz.func250 (by kernel_rfl) rfl)
  (b9E (n-1) (by omega) Bq w.heap.size sv zs hreach _ (by simp;omega) (by simp) ((hB0.cell (p:=⟨Bq,0,none⟩) hBq).trans hc) (hI.below hB0)) belowK_t (belowK_b (by simp)) (Below.refl _ _) (fun _=>rfl)
  (fun pre W=>(∃v,W.heap[w.heap.size]? = some (.cells #[v] 42 (0,0))/\W.ownsRow w.heap.size 9 1 v pre.length (pre.map a62))/\Below w.heap.size w W)
  (fun _ _ _=>False)
  (OwnFrom.and (Own.from (fun s A B row hs hg hr=>by
   obtain⟨v,hv,hrow⟩:=hs;refine⟨v,(grownBy_keeps_cells hg hr hv rfl).trans hv,hrow.kept hg ?_⟩;rcases hrow.2 with⟨rfl,_⟩|⟨gb,cap,cur,rfl,_,hgb,_⟩
   ·exact .inl rfl
   ·refine .inr fun e'=>?_
    obtain⟨o,ho,hw⟩:=hr gb (by simpa [Value.ownBlock]using e'.symm);rw[hgb]at ho;cases ho;cases hw) _) (ownFrom_below (Nat.le_refl _) (by simp)))
  (fun _ _ _ _ _ hs _ _=>hs)
  ⟨⟨_,hv0,rfl,.inl ⟨rfl,rfl⟩⟩,hB0⟩
  (fun x=>{tmps:=#[.slice none 0 0,.func (.func 250) #[] #[.pointer (some ⟨Bq,0,none⟩)],.pointer (some ⟨w.heap.size,0,none⟩),undef,.slice none 0 0,a62 x,.func (.func 250) #[] #[.pointer (some ⟨Bq,0,none⟩)],a62 x,undef,undef,undef,undef,undef],defers:=[]}) ?assign ?body ?done ?f0N
 case assign=>
  intro l x W K hK
  gi_wp2
  exact hK
 case body=>
  rintro l pre x W ⟨⟨v,hv,hrow⟩,hB⟩ hlen;obtain⟨hc2,hf2⟩:=cell_of_box_a hv;have hBlt:w.heap.size<W.heap.size:=(Array.getElem?_eq_some_iff.1 hv).1;have hbox:some w.heap.size≠v.ownBlock:=by
   rcases ownsRow_ne_a hrow hv (fun cur e=>hne (Obj.cells.inj e).2.1)with e|e
   ·rw[e];simp
   ·exact fun e'=>e e'.symm
  gi_wp2_with (first
   |(
     gi_at_builtin
     refine wpListIn_append_own _ rfl _ _ 42 rfl w.heap.size 9 i0 (.string ⟨#[]⟩) 1 16 Tryz.underlying42 hi hz0 hz1 hz2 rfl (by decide) v pre.length (pre.map a62) rfl (hrow.alloc _) ⟨W.heap.size,0,none⟩ 1 1 [a62 x] rfl rfl (cell_one_new _ _ _) (by simp[Value.oneCell',a62]) (by unfold maxLen;omega) (by omega) (by have:=hB.size;simp;omega) ?_;intro v' w3 hown' hg3 hnil3;have hv3:w3.heap[w.heap.size]? = some (.cells #[v] 42 (0,0)):=(hg3.block w.heap.size (by simp;omega) hbox).trans ((Below.heap_alloc _ _ w.heap.size hBlt).trans hv);obtain⟨hc3,hf3⟩:=cell_of_box_a hv3;obtain⟨g',cap',cur',rfl,hbase',hgb',hr1,hr2,hr3,hr4⟩:∃g' cap' cur',v' = .slice (some ⟨g',0,none⟩) (pre.length+1) cap'/\w.heap.size<=g'/\w3.heap[g']? = some (.cells cur' 9 (0,0))/\pre.length+1<=cap'/\cap'<=maxLen/\cur'.size=cap'*1/\cur'.toList.take ((pre.length+1)*1)=pre.map a62 ++ [a62 x]:=by
      rcases hown'.2 with⟨_,h0⟩|h'
      ·exact absurd h0 (by omega)
      ·exact h'
     go_frame)
   |gi_round_op_a)
  have hg3':(W.alloc (.cells #[a62 x] 9)).grownBy w3 v.ownBlock:=hg3;have hB3:Below w.heap.size W w3:=((Below.refl _ W).alloc hB.size _).grown hg3' (by have:=hB.size;simp;omega) (fun k e=>(hrow.lt k e).1);refine⟨(((KeepsOthers.alloc _ _).trans (KeepsOthers.of_grownBy hg3' (fun j o e ho=>?_))).trans (KeepsOthers.setCell _ _ _)).from _,hB3.setCell (p:=⟨w.heap.size,0,none⟩) (Nat.le_refl _) _,⟨_,heap_setCell_box_a _ hv3,?_⟩,(hB.trans hB3).setCell (p:=⟨w.heap.size,0,none⟩) (Nat.le_refl _) _⟩
  ·rcases(hrow.alloc (.cells #[a62 x] 9)).2 with⟨rfl,_⟩|⟨gb,cap,cur,rfl,_,hgb,_⟩
   ·cases e
   ·have:gb=j:=by simpa [Value.ownBlock]using e
    subst this;rw[hgb]at ho;cases ho;rfl
  ·have:=hown'.kept (grownBy_setCell0_a w3 w.heap.size (.slice (some ⟨g',0,none⟩) (pre.length+1) cap')) (ownsRow_ne_a hown' hv3 (fun cur e=>hne (Obj.cells.inj e).2.1));simpa using this
 case done=>
  rintro D ys W hD rfl ⟨⟨v,hv,hrow⟩,hB⟩ hK;obtain⟨hc2,hf2⟩:=cell_of_box_a hv
  gi_wp2
  refine⟨by simp,.inl ⟨_,_,rfl,run_takeDeferred hK,?_⟩⟩;exact⟨_,results_tmp rfl _ _ _,v,rfl,hrow.kept (grownBy_putObj' W D (.deferred none)) (ownsRow_ne_a hrow hK (fun cur e=>by cases e)),hB.trans (belowK_b (w:=w) (Nat.le_refl _) W D _ _ (by simp at hD;omega) hK rfl rfl)⟩
 case f0N=>
  rintro D c pre W _ _ h _;exact h.elim
def W7(l:List d3):Option (List d3×List d3):=if l.length*16<=140737488351232 then some (l,l)else none
set_option maxHeartbeats 1000000 in
theorem d0m:Sound Tryz.prog GW x6 277 ⟨[.nilS,.fnc 250 [0]],[.cells [V4]],[.row 1],[.cells [V4],.row 9 .str true],List d3×List d3,fun z=>(((),()),(z.1,()),z.2,()),fun _ y=>W7 y.1.1⟩:=by
 refine Sound.ofMade Tryz.call277 rfl fun M w g vs x y z hG hB hF hz=>?_
 obtain⟨⟨l,_⟩,_⟩:=y;change W7 l=some z at hz;unfold W7 at hz;split at hz
 case isFalse=>cases hz
 rename_i hc;obtain rfl:=Option.some.inj hz
 match vs,hF.args with
 |[v0,v],⟨hv0,⟨h0,_⟩⟩=>
  have hv0':v0 = .slice none 0 0:=hv0;subst hv0';obtain⟨cv,rfl,hcs⟩:=h0;obtain⟨g1,hg1,hr1⟩:=hF.res 0 (.cells [.v τ21 l]) rfl;have hr1':=hr1;obtain⟨bm,vs1,el,e1,hb1,ha1⟩:=hr1;have hcv:cv.toList=[S8 bm]:=by
   match cv.toList,hcs with
   |[u],⟨⟨gy,by_,hgy,hv,hu⟩,_⟩=>
    have:g 0=some gy:=hgy;rw[hg1]at this;cases this;rw[e1]at hv;rw[hu,<-hv]
  have hcv2:cv = #[S8 bm]:=by rw[<-Array.toArray_toList (xs:=cv),hcv]
  subst hcv2;obtain⟨sv,hvs1,hrep⟩:∃sv,vs1 = #[sv]/\RepV M w τ21 l sv:=by
   have e2:vs1=vs1.toList.toArray:=(Array.toArray_toList (xs:=vs1)).symm
   match hl:vs1.toList,ha1 with
   |[u],ha1=>
    rw[hl]at e2;exact⟨u,e2,ha1.1⟩
  subst hvs1;obtain⟨A,c,rfl,hc1,hc2,hcell⟩:=RepV.strs hrep;have hbl:bm<w.heap.size:=z8 hb1;have hcell0:w.cell? ⟨bm,0,none⟩=some (.slice A l.length c):=by unfold World.cell?;rw[hb1];rfl
  have hI:StrsAt w.heap.size w (.slice A l.length c) l:=by
   rcases Classical.em (l=[])with hl|hl
   ·subst hl;exact .inl ⟨A,c,rfl,rfl⟩
   ·obtain⟨bk,o,rfl,hce⟩:=hcell hl;refine .inr ⟨bk,o,c,rfl,?_,fun j hj=>?_⟩
    ·cases l with
     |nil=>exact absurd rfl hl
     |cons x r=>exact World.block_lt_of_cell? w _ (hce 0 x rfl)
    ·have hj2:l[j]? = some (l[j]?.getD []):=by rw[List.getElem?_eq_getElem hj];rfl
     exact hce j _ hj2
  refine((callsIn_wide (n:=5)).1 (b2P 5 (by omega) bm _ l hc w hbl hcell0 hI)).mono fun e w' hp=>?_
  obtain⟨v',rfl,hrow,hbel⟩:=hp;have hE:Ext w w':=⟨hbel.os,hbel.tape,hbel.output,hbel.size,fun k hk=>hbel.block k hk⟩;have hrow:w'.ownsRow w.heap.size 9 1 v' l.length (l.map a62):=hrow;obtain⟨A',c',hv',_⟩:=Row.of_own' hrow;refine⟨[v'],⟨v'.ownBlock,0,v'⟩,rfl,hE,fun b' hb=>?_,fun M' g' hgo hgn hst=>⟨⟨⟨_,A',_,c',hgn,rfl,hv'⟩,trivial⟩,fun r blk hr=>?_⟩⟩
  ·rcases hrow.2 with⟨e3,_⟩|⟨g3,cap,cur,e3,hb3,hg3,_⟩
   ·rw[e3]at hb;cases hb
   ·rw[e3]at hb;simp only[Value.ownBlock,Option.some.injEq]at hb;subst hb;exact⟨hb3,z8 hg3,fun h=>absurd h (Nat.lt_irrefl 0)⟩
  ·match r,hr with
   |0,hr=>
    obtain rfl:Blk.cells [.v τ21 l]=blk:=Option.some.inj hr;obtain⟨a,vs5,el5,e5,h5,ha5⟩:=hr1';exact⟨g1,hgo _ _ hg1,a,vs5,el5,e5,(hE.block a (z8 h5)).trans h5,ha5.mono fun d v hd=>hd.sameV hst fun r x hr=>⟨x,hgo r x hr,rfl⟩⟩
   |1,hr=>
    obtain rfl:Blk.row 9 .str true l=blk:=Option.some.inj hr;exact⟨_,hgn,by decide,_,ownsRow_base_a hrow (Nat.zero_le _),rfl,rfl,b9u _⟩
   |2,hr=>cases hr
   |r+3,hr=>cases hr
end
noncomputable section
abbrev e8a:=E3 [V4,V1] [] [V1] [] (d3) fun z=>((z,()),())
abbrev c3g:AF:=e8a fun x _=>strings_Join x.1 x.2.1
abbrev e7I(f:SV [V1,V1]->BV []->Option τ24):AF:={ps:=[V1,V1],bs:=[],rs:=[V4],cs:=[],R:=List d3,out:=fun z=>((z,()),()),f:=f}
abbrev d6c:AF:=e7I fun x _=>strings_Split x.1 x.2.1
abbrev e6F:=E3 [V1,.v .u8] [] [V0] [] (Int) fun z=>((z,()),())
abbrev e3N:AF:=e6F fun x _=>strings_IndexByte x.1 x.2.1
abbrev f6v:=E3 [.nilS,.fnc 250 [0]] [.cells [V4]] [.row 1] [.cells [V4],.row 9 .str true] (List d3×List d3) fun z=>(((),()),(z.1,()),z.2,())
abbrev f2r(f:SV [.row 0]->BV [.row 9 .str true]->Option τ24):AF:={ps:=[.row 0],bs:=[.row 9 .str true],rs:=[],cs:=[.row 9 .str true,.none],R:=List d3,out:=fun z=>((),z,(),()),f:=f}
abbrev e3S(f:SV [.row 0]->BV [.row 9 .str true]->Option τ24):AF:={ps:=[.row 0],bs:=[.row 9 .str true],rs:=[.row 0],cs:=[.row 9 .str true],R:=List d3,out:=fun z=>(((),()),z,()),f:=f}
abbrev f30:=E3 [.box 0 0] [.cells [V2,V0,V0]] [V5,V0,V3] [.cells [.dead,.dead,V0]] (List GStmt×Int×Bool×Int) fun z=>((z.1,z.2.1,z.2.2.1,()),((),(),z.2.2.2,()),())
abbrev d58:=E3 [V1] [] [V1] [] (d3) fun z=>((z,()),())
abbrev d6F:=E3 [V0] [] [V1] [] (d3) fun z=>((z,()),())
abbrev e7m:=E3 [V1,V0] [] [V1] [] (d3) fun z=>((z,()),())
abbrev f6w:=E3 [.box 0 0,V1] [.bld 89 [.row 1],.row 5 .u8 true] [V0,.dead] [.bld 89 [.row 1],.row 5 .u8 true] (Int×List UInt8) fun z=>((z.1,(),()),((),()),z.2,())
abbrev e7u(f:SV [V5]->BV []->Option τ36):AF:={ps:=[V5],bs:=[],rs:=[V1,V0],cs:=[],R:=d3×Int,out:=fun z=>((z.1,z.2,()),()),f:=f}
abbrev f3D(f:SV [.row 0,.v (.clo 211 .un)]->BV [.row 56 τ12 true]->Option τ25):AF:={ps:=[.row 0,.v (.clo 211 .un)],bs:=[.row 56 τ12 true],rs:=[],cs:=[.row 56 τ12 true,.none],R:=List τ9,out:=fun z=>((),z,(),()),f:=f}
abbrev f2H:=E3 [.row 0,.v (.clo 22 .un)] [.row 41 τ6 true] [] [.row 41 τ6 true,.none] (List τ19) fun z=>((),z,(),())
abbrev f8a:=E3 [V1,V1,V1] [] [V1] [] (d3) fun z=>((z,()),())
abbrev d5d(f:SV [.nilS,V0]->BV []->Option τ25):AF:={ps:=[.nilS,V0],bs:=[],rs:=[.row 0],cs:=[.row 56 τ12 false],R:=List τ9,out:=fun z=>(((),()),z,()),f:=f}
def W8(n:Int):Option τ25:=b6q τ12 n
theorem a8b:ElemT Tryz.prog 39 56 6 96:=ElemT.mk_ Tryz.underlying39 (z:=mkV τ12 (I5 τ12)) (by kernel_rfl) rfl (by decide) (by decide)
set_option maxHeartbeats 400000 in
theorem a5q(n:Nat)(w:World)(hn:n*144<=140737488355328):
  Calls Tryz.prog 91 #[.slice none 0 0,.int .i64 n] w fun e w'=>∃u,e = .returned u/\w'.ownsRow w.heap.size 56 6 u 0 []/\Ext w w':=by
 rcases Nat.eq_zero_or_pos n with rfl|h0
 ·go_enter Tryz.func91,Tryz.ntmps91
  go_wp2_with fail
  go_ret
  exact⟨_,rfl,World.ownsRow_nil _ _ _ _,Ext.refl _⟩
 ·go_enter Tryz.func91,Tryz.ntmps91
  go_wp2_with (at_builtin;refine c2f (w0:=w) rfl a8b Tryz.underlying3 rfl rfl rfl (Ext.refl _) h0 (by omega) ?_;intro cap a hc ho hE)
  go_ret
  exact⟨_,rfl,ho,hE⟩
theorem d0n:Sound Tryz.prog GW x6 91 (d5d fun x y=>W8 x.2.1):=
 Sound.ofGrow Tryz.call91 (by decide) fun n w hn=>a5q n w (by have:n*(24*Ty.sz τ12)=n*144:=rfl;omega)
theorem c5j:TyOk Tryz.prog 1 (.clo 0 .un):=⟨_,by kernel_rfl,Tryz.underlying1,rfl⟩
theorem N8:TyOk Tryz.prog 3 τ3:=⟨_,by kernel_rfl,Tryz.underlying3,rfl⟩
theorem Z8:TyOk Tryz.prog 4 .bool:=⟨_,by kernel_rfl,Tryz.underlying4,rfl⟩
theorem b34:TyOk Tryz.prog 5 .u8:=⟨_,by kernel_rfl,Tryz.underlying5,rfl⟩
theorem C7:TyOk Tryz.prog 9 .str:=⟨_,by kernel_rfl,Tryz.underlying9,rfl⟩
theorem a4d:TyOk Tryz.prog 22 (.sl τ6):=⟨_,by kernel_rfl,Tryz.underlying22,rfl⟩
theorem a3K:TyOk Tryz.prog 24 τ33:=⟨_,by kernel_rfl,Tryz.underlying24,rfl⟩
theorem a3H:TyOk Tryz.prog 31 τ17:=⟨_,by kernel_rfl,Tryz.underlying31,rfl⟩
theorem a6l:TyOk Tryz.prog 32 τ10:=⟨_,by kernel_rfl,Tryz.underlying32,rfl⟩
theorem a0O:TyOk Tryz.prog 34 τ37:=⟨_,by kernel_rfl,Tryz.underlying34,rfl⟩
theorem a0v:TyOk Tryz.prog 38 τ15:=⟨_,by kernel_rfl,Tryz.underlying38,rfl⟩
theorem a2P:TyOk Tryz.prog 39 τ31:=⟨_,by kernel_rfl,Tryz.underlying39,rfl⟩
theorem S7:TyOk Tryz.prog 41 τ6:=⟨_,by kernel_rfl,Tryz.underlying41,rfl⟩
theorem a2h:TyOk Tryz.prog 42 τ21:=⟨_,by kernel_rfl,Tryz.underlying42,rfl⟩
theorem a6k:TyOk Tryz.prog 43 (.sl O1):=⟨_,by kernel_rfl,Tryz.underlying43,rfl⟩
theorem O8:TyOk Tryz.prog 45 O1:=⟨_,by kernel_rfl,Tryz.underlying45,rfl⟩
theorem a1T:TyOk Tryz.prog 48 (.pr .str O1):=⟨_,by kernel_rfl,Tryz.underlying48,rfl⟩
theorem a69:TyOk Tryz.prog 49 τ29:=⟨_,by kernel_rfl,Tryz.underlying49,rfl⟩
theorem P4:TyOk Tryz.prog 51 τ26:=⟨_,by kernel_rfl,Tryz.underlying51,rfl⟩
theorem a6j:TyOk Tryz.prog 52 τ31:=⟨_,by kernel_rfl,Tryz.underlying52,rfl⟩
theorem E7:TyOk Tryz.prog 54 τ18:=⟨_,by kernel_rfl,Tryz.underlying54,rfl⟩
theorem a1u:TyOk Tryz.prog 56 τ12:=⟨_,by kernel_rfl,Tryz.underlying56,rfl⟩
theorem U5:TyOk Tryz.prog 64 (.mp τ5):=⟨_,by kernel_rfl,Tryz.underlying64,rfl⟩
theorem a0x:TyOk Tryz.prog 65 (.mp τ6):=⟨_,by kernel_rfl,Tryz.underlying65,rfl⟩
theorem a2D:TyOk Tryz.prog 67 (.pr τ37 (.pr τ3 (.pr τ3 (.pr τ3 (.pr (.mp τ5) (.mp τ6)))))):=⟨_,by kernel_rfl,Tryz.underlying67,rfl⟩
theorem a0w:TyOk Tryz.prog 68 τ5:=⟨_,by kernel_rfl,Tryz.underlying68,rfl⟩
theorem a1j:TyOk Tryz.prog 71 τ41:=⟨_,by kernel_rfl,Tryz.underlying71,rfl⟩
theorem a2C:TyOk Tryz.prog 72 (.mp .bool):=⟨_,by kernel_rfl,Tryz.underlying72,rfl⟩
theorem a2E:TyOk Tryz.prog 74 (.pr τ41 (.pr (.mp .bool) (.pr .bool .bool))):=⟨_,by kernel_rfl,Tryz.underlying74,rfl⟩
theorem a1v:TyOk Tryz.prog 82 τ12:=⟨_,by kernel_rfl,Tryz.underlying82,rfl⟩
theorem a9O:TyOk Tryz.prog 85 (.sl .u8):=⟨_,by kernel_rfl,Tryz.underlying85,rfl⟩
theorem a2F:TyOk Tryz.prog 87 (.pr τ41 (.sl .u8)):=⟨_,by kernel_rfl,Tryz.underlying87,rfl⟩
theorem a0y:TyOk Tryz.prog 95 (.pr .str .str):=⟨_,by kernel_rfl,Tryz.underlying95,rfl⟩
theorem a18:TyOk Tryz.prog 97 (.sl τ2):=⟨_,by kernel_rfl,Tryz.underlying97,rfl⟩
theorem a8d:TyOk Tryz.prog 100 (.np (.pr (.sl τ2) (.pr τ3 τ3))):=⟨_,by kernel_rfl,Tryz.underlying100,rfl⟩
theorem a2R:TyOk Tryz.prog 102 (.pr (.sl τ2) (.pr τ3 τ3)):=⟨_,by kernel_rfl,Tryz.underlying102,rfl⟩
theorem a1w:TyOk Tryz.prog 132 (.pr .str (.pr .bool (.sl .u8))):=⟨_,by kernel_rfl,Tryz.underlying132,rfl⟩
theorem a3f:TyOk Tryz.prog 136 (.pr .str (.pr τ3 (.sl τ2))):=⟨_,by kernel_rfl,Tryz.underlying136,rfl⟩
theorem a02:TyOk Tryz.prog 138 τ2:=⟨_,by kernel_rfl,Tryz.underlying138,rfl⟩
theorem Z3:TyOk Tryz.prog 145 (.mp τ8):=⟨_,by kernel_rfl,Tryz.underlying145,rfl⟩
theorem a3h:TyOk Tryz.prog 147 (.pr τ41 (.pr (.mp τ8) τ21)):=⟨_,by kernel_rfl,Tryz.underlying147,rfl⟩
theorem a3J:TyOk Tryz.prog 151 (.np (.pr τ5 (.pr τ26 .bool))):=⟨_,by kernel_rfl,Tryz.underlying151,rfl⟩
theorem a0j:TyOk Tryz.prog 153 τ8:=⟨_,by kernel_rfl,Tryz.underlying153,rfl⟩
theorem a3g:TyOk Tryz.prog 157 (.pr τ5 (.pr τ26 .bool)):=⟨_,by kernel_rfl,Tryz.underlying157,rfl⟩
theorem a9N:TyOk Tryz.prog 172 (.sl τ31):=⟨_,by kernel_rfl,Tryz.underlying172,rfl⟩
theorem a2Q:TyOk Tryz.prog 184 τ44:=⟨_,by kernel_rfl,Tryz.underlying184,rfl⟩
theorem a8c:TyOk Tryz.prog 220 (.np τ26):=⟨_,by kernel_rfl,Tryz.underlying220,rfl⟩
theorem a3R:TyOk Tryz.prog 222 (.mp τ18):=⟨_,by kernel_rfl,Tryz.underlying222,rfl⟩
theorem a3I:TyOk Tryz.prog 271 (.sl (.rc .part)):=⟨_,by kernel_rfl,Tryz.underlying271,rfl⟩
theorem a0z:TyOk Tryz.prog 273 (.rc .part):=⟨_,by kernel_rfl,Tryz.underlying273,rfl⟩
theorem b0E:TyOk Tryz.prog 275 (.sl τ18):=⟨_,by kernel_rfl,Tryz.underlying275,rfl⟩
def tyT:TypeId->Option Ty:=fun T=>
 match T with
 |1=>some (.clo 0 .un)
 |3=>some τ3
 |4=>some .bool
 |5=>some .u8
 |9=>some .str
 |22=>some (.sl τ6)
 |24=>some τ33
 |31=>some τ17
 |32=>some τ10
 |34=>some τ37
 |38=>some τ15
 |39=>some τ31
 |41=>some τ6
 |42=>some τ21
 |43=>some (.sl O1)
 |45=>some O1
 |48=>some (.pr .str O1)
 |49=>some τ29
 |51=>some τ26
 |52=>some τ31
 |54=>some τ18
 |56=>some τ12
 |64=>some (.mp τ5)
 |65=>some (.mp τ6)
 |67=>some (.pr τ37 (.pr τ3 (.pr τ3 (.pr τ3 (.pr (.mp τ5) (.mp τ6))))))
 |68=>some τ5
 |71=>some τ41
 |72=>some (.mp .bool)
 |74=>some (.pr τ41 (.pr (.mp .bool) (.pr .bool .bool)))
 |82=>some τ12
 |85=>some (.sl .u8)
 |87=>some (.pr τ41 (.sl .u8))
 |95=>some (.pr .str .str)
 |97=>some (.sl τ2)
 |100=>some (.np (.pr (.sl τ2) (.pr τ3 τ3)))
 |102=>some (.pr (.sl τ2) (.pr τ3 τ3))
 |132=>some (.pr .str (.pr .bool (.sl .u8)))
 |136=>some (.pr .str (.pr τ3 (.sl τ2)))
 |138=>some τ2
 |145=>some (.mp τ8)
 |147=>some (.pr τ41 (.pr (.mp τ8) τ21))
 |151=>some (.np (.pr τ5 (.pr τ26 .bool)))
 |153=>some τ8
 |157=>some (.pr τ5 (.pr τ26 .bool))
 |172=>some (.sl τ31)
 |184=>some τ44
 |220=>some (.np τ26)
 |222=>some (.mp τ18)
 |271=>some (.sl (.rc .part))
 |273=>some (.rc .part)
 |275=>some (.sl τ18)
 |_=>none
theorem e6r:∀T t,tyT T=some t->TyOk Tryz.prog T t:=by
 intro T t h;unfold tyT at h;split at h
 ·cases h;exact c5j
 ·cases h;exact N8
 ·cases h;exact Z8
 ·cases h;exact b34
 ·cases h;exact C7
 ·cases h;exact a4d
 ·cases h;exact a3K
 ·cases h;exact a3H
 ·cases h;exact a6l
 ·cases h;exact a0O
 ·cases h;exact a0v
 ·cases h;exact a2P
 ·cases h;exact S7
 ·cases h;exact a2h
 ·cases h;exact a6k
 ·cases h;exact O8
 ·cases h;exact a1T
 ·cases h;exact a69
 ·cases h;exact P4
 ·cases h;exact a6j
 ·cases h;exact E7
 ·cases h;exact a1u
 ·cases h;exact U5
 ·cases h;exact a0x
 ·cases h;exact a2D
 ·cases h;exact a0w
 ·cases h;exact a1j
 ·cases h;exact a2C
 ·cases h;exact a2E
 ·cases h;exact a1v
 ·cases h;exact a9O
 ·cases h;exact a2F
 ·cases h;exact a0y
 ·cases h;exact a18
 ·cases h;exact a8d
 ·cases h;exact a2R
 ·cases h;exact a1w
 ·cases h;exact a3f
 ·cases h;exact a02
 ·cases h;exact Z3
 ·cases h;exact a3h
 ·cases h;exact a3J
 ·cases h;exact a0j
 ·cases h;exact a3g
 ·cases h;exact a9N
 ·cases h;exact a2Q
 ·cases h;exact a8c
 ·cases h;exact a3R
 ·cases h;exact a3I
 ·cases h;exact a0z
 ·cases h;exact b0E
 ·cases h
def elT:TypeId->Option (TypeId×Ty):=fun T=>
 match T with
 |22=>some (41,τ6)
 |31=>some (95,(.pr .str .str))
 |32=>some (132,(.pr .str (.pr .bool (.sl .u8))))
 |38=>some (51,τ26)
 |39=>some (56,τ12)
 |42=>some (9,.str)
 |43=>some (45,O1)
 |49=>some (48,(.pr .str O1))
 |52=>some (82,τ12)
 |85=>some (5,.u8)
 |97=>some (138,τ2)
 |172=>some (39,τ31)
 |271=>some (273,(.rc .part))
 |275=>some (54,τ18)
 |_=>none
theorem e5P:∀T e t,elT T=some (e,t)->ElOk Tryz.prog T e t:=by
 intro T e t h;unfold elT at h;split at h
 ·cases h;exact⟨S7,56,ElemT.mk_ Tryz.underlying22 (z:=mkV τ6 (I5 τ6)) (by kernel_rfl) rfl (by decide) (by decide),by decide⟩
 ·cases h;exact⟨a0y,32,ElemT.mk_ Tryz.underlying31 (z:=mkV (.pr .str .str) (I5 (.pr .str .str))) (by kernel_rfl) rfl (by decide) (by decide),by decide⟩
 ·cases h;exact⟨a1w,48,ElemT.mk_ Tryz.underlying32 (z:=mkV (.pr .str (.pr .bool (.sl .u8))) (I5 (.pr .str (.pr .bool (.sl .u8))))) (by kernel_rfl) rfl (by decide) (by decide),by decide⟩
 ·cases h;exact⟨P4,224,ElemT.mk_ Tryz.underlying38 (z:=mkV τ26 (I5 τ26)) (by kernel_rfl) rfl (by decide) (by decide),by decide⟩
 ·cases h;exact⟨a1u,96,ElemT.mk_ Tryz.underlying39 (z:=mkV τ12 (I5 τ12)) (by kernel_rfl) rfl (by decide) (by decide),by decide⟩
 ·cases h;exact⟨C7,16,ElemT.mk_ Tryz.underlying42 (z:=mkV .str (I5 .str)) (by kernel_rfl) rfl (by decide) (by decide),by decide⟩
 ·cases h;exact⟨O8,80,ElemT.mk_ Tryz.underlying43 (z:=mkV O1 (I5 O1)) (by kernel_rfl) rfl (by decide) (by decide),by decide⟩
 ·cases h;exact⟨a1T,96,ElemT.mk_ Tryz.underlying49 (z:=mkV (.pr .str O1) (I5 (.pr .str O1))) (by kernel_rfl) rfl (by decide) (by decide),by decide⟩
 ·cases h;exact⟨a1v,96,ElemT.mk_ Tryz.underlying52 (z:=mkV τ12 (I5 τ12)) (by kernel_rfl) rfl (by decide) (by decide),by decide⟩
 ·cases h;exact⟨b34,1,ElemT.mk_ Tryz.underlying85 (z:=mkV .u8 (I5 .u8)) (by kernel_rfl) rfl (by decide) (by decide),by decide⟩
 ·cases h;exact⟨a02,40,ElemT.mk_ Tryz.underlying97 (z:=mkV τ2 (I5 τ2)) (by kernel_rfl) rfl (by decide) (by decide),by decide⟩
 ·cases h;exact⟨a2P,24,ElemT.mk_ Tryz.underlying172 (z:=mkV τ31 (I5 τ31)) (by kernel_rfl) rfl (by decide) (by decide),by decide⟩
 ·cases h;exact⟨a0z,112,ElemT.mk_ Tryz.underlying271 (z:=mkV (.rc .part) (I5 (.rc .part))) (by kernel_rfl) rfl (by decide) (by decide),by decide⟩
 ·cases h;exact⟨E7,80,ElemT.mk_ Tryz.underlying275 (z:=mkV τ18 (I5 τ18)) (by kernel_rfl) rfl (by decide) (by decide),by decide⟩
 ·cases h
def e5U:TypeId->Nat->Option (Nat×Ty):=fun T f=>
 match T,f with
 |24,0=>some (0,.str)
 |24,1=>some (1,(.sl τ6))
 |34,0=>some (0,.str)
 |34,1=>some (1,.str)
 |34,2=>some (2,τ17)
 |34,3=>some (3,τ10)
 |41,0=>some (0,.str)
 |41,1=>some (1,.str)
 |41,2=>some (2,τ31)
 |45,0=>some (0,τ3)
 |45,1=>some (1,.str)
 |45,2=>some (2,τ3)
 |45,3=>some (3,τ21)
 |45,4=>some (4,(.sl O1))
 |48,0=>some (0,.str)
 |48,1=>some (1,O1)
 |51,0=>some (0,τ3)
 |51,1=>some (1,.str)
 |51,2=>some (2,.str)
 |51,3=>some (3,τ21)
 |51,4=>some (4,τ29)
 |51,5=>some (5,O1)
 |51,6=>some (10,τ15)
 |51,7=>some (11,τ15)
 |51,8=>some (12,τ3)
 |54,0=>some (0,τ3)
 |54,1=>some (1,.str)
 |54,2=>some (2,τ3)
 |54,3=>some (3,τ21)
 |54,4=>some (4,τ31)
 |56,0=>some (0,.str)
 |56,1=>some (1,τ18)
 |67,0=>some (0,τ37)
 |67,1=>some (4,τ3)
 |67,2=>some (5,τ3)
 |67,3=>some (6,τ3)
 |67,4=>some (7,(.mp τ5))
 |67,5=>some (8,(.mp τ6))
 |74,0=>some (0,τ41)
 |74,1=>some (1,(.mp .bool))
 |74,2=>some (2,.bool)
 |82,0=>some (0,.str)
 |82,1=>some (1,τ18)
 |89,0=>some (0,(.pr τ41 (.sl .u8)))
 |95,0=>some (0,.str)
 |102,0=>some (0,(.sl τ2))
 |102,1=>some (1,τ3)
 |102,2=>some (2,τ3)
 |132,0=>some (0,.str)
 |132,2=>some (2,(.sl .u8))
 |136,0=>some (0,.str)
 |136,1=>some (1,τ3)
 |136,2=>some (2,(.sl τ2))
 |138,0=>some (0,τ3)
 |138,1=>some (1,.str)
 |138,2=>some (2,τ3)
 |138,3=>some (3,τ3)
 |147,0=>some (0,τ41)
 |147,1=>some (1,(.mp τ8))
 |153,0=>some (0,τ18)
 |153,1=>some (5,(.np (.pr τ5 (.pr τ26 .bool))))
 |157,0=>some (0,τ5)
 |157,1=>some (1,τ26)
 |184,0=>some (0,.bool)
 |184,1=>some (1,.bool)
 |184,2=>some (2,.bool)
 |184,3=>some (3,.bool)
 |184,4=>some (4,.bool)
 |184,5=>some (5,.bool)
 |184,6=>some (6,.bool)
 |273,0=>some (0,(.pr τ3 (.pr .str (.pr τ3 (.pr τ21 .nl)))))
 |273,1=>some (5,τ3)
 |273,2=>some (6,(.sl (.rc .part)))
 |_,_=>none
theorem e0L:∀T f off t,e5U T f=some (off,t)->c6b Tryz.prog T f off t:=by
 intro T f off t h;unfold e5U at h;split at h
 ·cases h;exact⟨_,_,Tryz.underlying24,rfl,rfl,C7,by decide⟩
 ·cases h;exact⟨_,_,Tryz.underlying24,rfl,rfl,a4d,by decide⟩
 ·cases h;exact⟨_,_,Tryz.underlying34,rfl,rfl,C7,by decide⟩
 ·cases h;exact⟨_,_,Tryz.underlying34,rfl,rfl,C7,by decide⟩
 ·cases h;exact⟨_,_,Tryz.underlying34,rfl,rfl,a3H,by decide⟩
 ·cases h;exact⟨_,_,Tryz.underlying34,rfl,rfl,a6l,by decide⟩
 ·cases h;exact⟨_,_,Tryz.underlying41,rfl,rfl,C7,by decide⟩
 ·cases h;exact⟨_,_,Tryz.underlying41,rfl,rfl,C7,by decide⟩
 ·cases h;exact⟨_,_,Tryz.underlying41,rfl,rfl,a2P,by decide⟩
 ·cases h;exact⟨_,_,Tryz.underlying45,rfl,rfl,N8,by decide⟩
 ·cases h;exact⟨_,_,Tryz.underlying45,rfl,rfl,C7,by decide⟩
 ·cases h;exact⟨_,_,Tryz.underlying45,rfl,rfl,N8,by decide⟩
 ·cases h;exact⟨_,_,Tryz.underlying45,rfl,rfl,a2h,by decide⟩
 ·cases h;exact⟨_,_,Tryz.underlying45,rfl,rfl,a6k,by decide⟩
 ·cases h;exact⟨_,_,Tryz.underlying48,rfl,rfl,C7,by decide⟩
 ·cases h;exact⟨_,_,Tryz.underlying48,rfl,rfl,O8,by decide⟩
 ·cases h;exact⟨_,_,Tryz.underlying51,rfl,rfl,N8,by decide⟩
 ·cases h;exact⟨_,_,Tryz.underlying51,rfl,rfl,C7,by decide⟩
 ·cases h;exact⟨_,_,Tryz.underlying51,rfl,rfl,C7,by decide⟩
 ·cases h;exact⟨_,_,Tryz.underlying51,rfl,rfl,a2h,by decide⟩
 ·cases h;exact⟨_,_,Tryz.underlying51,rfl,rfl,a69,by decide⟩
 ·cases h;exact⟨_,_,Tryz.underlying51,rfl,rfl,O8,by decide⟩
 ·cases h;exact⟨_,_,Tryz.underlying51,rfl,rfl,a0v,by decide⟩
 ·cases h;exact⟨_,_,Tryz.underlying51,rfl,rfl,a0v,by decide⟩
 ·cases h;exact⟨_,_,Tryz.underlying51,rfl,rfl,N8,by decide⟩
 ·cases h;exact⟨_,_,Tryz.underlying54,rfl,rfl,N8,by decide⟩
 ·cases h;exact⟨_,_,Tryz.underlying54,rfl,rfl,C7,by decide⟩
 ·cases h;exact⟨_,_,Tryz.underlying54,rfl,rfl,N8,by decide⟩
 ·cases h;exact⟨_,_,Tryz.underlying54,rfl,rfl,a2h,by decide⟩
 ·cases h;exact⟨_,_,Tryz.underlying54,rfl,rfl,a6j,by decide⟩
 ·cases h;exact⟨_,_,Tryz.underlying56,rfl,rfl,C7,by decide⟩
 ·cases h;exact⟨_,_,Tryz.underlying56,rfl,rfl,E7,by decide⟩
 ·cases h;exact⟨_,_,Tryz.underlying67,rfl,rfl,a0O,by decide⟩
 ·cases h;exact⟨_,_,Tryz.underlying67,rfl,rfl,N8,by decide⟩
 ·cases h;exact⟨_,_,Tryz.underlying67,rfl,rfl,N8,by decide⟩
 ·cases h;exact⟨_,_,Tryz.underlying67,rfl,rfl,N8,by decide⟩
 ·cases h;exact⟨_,_,Tryz.underlying67,rfl,rfl,U5,by decide⟩
 ·cases h;exact⟨_,_,Tryz.underlying67,rfl,rfl,a0x,by decide⟩
 ·cases h;exact⟨_,_,Tryz.underlying74,rfl,rfl,a1j,by decide⟩
 ·cases h;exact⟨_,_,Tryz.underlying74,rfl,rfl,a2C,by decide⟩
 ·cases h;exact⟨_,_,Tryz.underlying74,rfl,rfl,Z8,by decide⟩
 ·cases h;exact⟨_,_,Tryz.underlying82,rfl,rfl,C7,by decide⟩
 ·cases h;exact⟨_,_,Tryz.underlying82,rfl,rfl,E7,by decide⟩
 ·cases h;exact⟨_,_,Tryz.underlying89,rfl,rfl,a2F,by decide⟩
 ·cases h;exact⟨_,_,Tryz.underlying95,rfl,rfl,C7,by decide⟩
 ·cases h;exact⟨_,_,Tryz.underlying102,rfl,rfl,a18,by decide⟩
 ·cases h;exact⟨_,_,Tryz.underlying102,rfl,rfl,N8,by decide⟩
 ·cases h;exact⟨_,_,Tryz.underlying102,rfl,rfl,N8,by decide⟩
 ·cases h;exact⟨_,_,Tryz.underlying132,rfl,rfl,C7,by decide⟩
 ·cases h;exact⟨_,_,Tryz.underlying132,rfl,rfl,a9O,by decide⟩
 ·cases h;exact⟨_,_,Tryz.underlying136,rfl,rfl,C7,by decide⟩
 ·cases h;exact⟨_,_,Tryz.underlying136,rfl,rfl,N8,by decide⟩
 ·cases h;exact⟨_,_,Tryz.underlying136,rfl,rfl,a18,by decide⟩
 ·cases h;exact⟨_,_,Tryz.underlying138,rfl,rfl,N8,by decide⟩
 ·cases h;exact⟨_,_,Tryz.underlying138,rfl,rfl,C7,by decide⟩
 ·cases h;exact⟨_,_,Tryz.underlying138,rfl,rfl,N8,by decide⟩
 ·cases h;exact⟨_,_,Tryz.underlying138,rfl,rfl,N8,by decide⟩
 ·cases h;exact⟨_,_,Tryz.underlying147,rfl,rfl,a1j,by decide⟩
 ·cases h;exact⟨_,_,Tryz.underlying147,rfl,rfl,Z3,by decide⟩
 ·cases h;exact⟨_,_,Tryz.underlying153,rfl,rfl,E7,by decide⟩
 ·cases h;exact⟨_,_,Tryz.underlying153,rfl,rfl,a3J,by decide⟩
 ·cases h;exact⟨_,_,Tryz.underlying157,rfl,rfl,a0w,by decide⟩
 ·cases h;exact⟨_,_,Tryz.underlying157,rfl,rfl,P4,by decide⟩
 ·cases h;exact⟨_,_,Tryz.underlying184,rfl,rfl,Z8,by decide⟩
 ·cases h;exact⟨_,_,Tryz.underlying184,rfl,rfl,Z8,by decide⟩
 ·cases h;exact⟨_,_,Tryz.underlying184,rfl,rfl,Z8,by decide⟩
 ·cases h;exact⟨_,_,Tryz.underlying184,rfl,rfl,Z8,by decide⟩
 ·cases h;exact⟨_,_,Tryz.underlying184,rfl,rfl,Z8,by decide⟩
 ·cases h;exact⟨_,_,Tryz.underlying184,rfl,rfl,Z8,by decide⟩
 ·cases h;exact⟨_,_,Tryz.underlying184,rfl,rfl,Z8,by decide⟩
 ·cases h;exact⟨_,_,Tryz.underlying273,rfl,rfl,(show TyOk Tryz.prog 45 (.pr τ3 (.pr .str (.pr τ3 (.pr τ21 .nl))))from⟨_,by kernel_rfl,Tryz.underlying45,rfl⟩),by decide⟩
 ·cases h;exact⟨_,_,Tryz.underlying273,rfl,rfl,N8,by decide⟩
 ·cases h;exact⟨_,_,Tryz.underlying273,rfl,rfl,a3I,by decide⟩
 ·cases h
theorem e5Y:∀T e,tyT T=some (.mp e)->e9V Tryz.prog T e:=by
 intro T e h;unfold tyT at h;split at h
 iterate 22(cases h)
 ·cases h;exact⟨_,_,Tryz.underlying64,Tryz.underlying9,a0w⟩
 ·cases h;exact⟨_,_,Tryz.underlying65,Tryz.underlying9,S7⟩
 iterate 3(cases h)
 ·cases h;exact⟨_,_,Tryz.underlying72,Tryz.underlying9,Z8⟩
 iterate 11(cases h)
 ·cases h;exact⟨_,_,Tryz.underlying145,Tryz.underlying9,a0j⟩
 iterate 7(cases h)
 ·cases h;exact⟨_,_,Tryz.underlying222,Tryz.underlying9,E7⟩
 iterate 4(cases h)
theorem e0z:∀T t,tyT T=some t->t.isAgg=true->∃fs places,Tryz.prog.underlying T=some (.struct fs)/\fs.toList.mapM (fun f=>(Tryz.prog.info? f.type).map fun i=>(f.offset,i.size))=some places:=by
 intro T t h ha;unfold tyT at h;split at h
 iterate 6(cases h;cases ha)
 ·exact⟨_,[(0,1),(1,1)],Tryz.underlying24,by kernel_rfl⟩
 ·cases h;cases ha
 ·cases h;cases ha
 ·exact⟨_,[(0,1),(1,1),(2,1),(3,1)],Tryz.underlying34,by kernel_rfl⟩
 ·cases h;cases ha
 ·cases h;cases ha
 ·exact⟨_,[(0,1),(1,1),(2,1)],Tryz.underlying41,by kernel_rfl⟩
 ·cases h;cases ha
 ·cases h;cases ha
 ·exact⟨_,[(0,1),(1,1),(2,1),(3,1),(4,1)],Tryz.underlying45,by kernel_rfl⟩
 ·exact⟨_,[(0,1),(1,5)],Tryz.underlying48,by kernel_rfl⟩
 ·cases h;cases ha
 ·exact⟨_,[(0,1),(1,1),(2,1),(3,1),(4,1),(5,5),(10,1),(11,1),(12,1)],Tryz.underlying51,by kernel_rfl⟩
 ·cases h;cases ha
 ·exact⟨_,[(0,1),(1,1),(2,1),(3,1),(4,1)],Tryz.underlying54,by kernel_rfl⟩
 ·exact⟨_,[(0,1),(1,5)],Tryz.underlying56,by kernel_rfl⟩
 ·cases h;cases ha
 ·cases h;cases ha
 ·exact⟨_,[(0,4),(4,1),(5,1),(6,1),(7,1),(8,1)],Tryz.underlying67,by kernel_rfl⟩
 iterate 3(cases h;cases ha)
 ·exact⟨_,[(0,1),(1,1),(2,1),(3,1)],Tryz.underlying74,by kernel_rfl⟩
 ·exact⟨_,[(0,1),(1,5)],Tryz.underlying82,by kernel_rfl⟩
 ·cases h;cases ha
 ·exact⟨_,[(0,1),(1,1)],Tryz.underlying87,by kernel_rfl⟩
 ·exact⟨_,[(0,1),(1,1)],Tryz.underlying95,by kernel_rfl⟩
 ·cases h;cases ha
 ·cases h;cases ha
 ·exact⟨_,[(0,1),(1,1),(2,1)],Tryz.underlying102,by kernel_rfl⟩
 ·exact⟨_,[(0,1),(1,1),(2,1)],Tryz.underlying132,by kernel_rfl⟩
 ·exact⟨_,[(0,1),(1,1),(2,1)],Tryz.underlying136,by kernel_rfl⟩
 ·exact⟨_,[(0,1),(1,1),(2,1),(3,1)],Tryz.underlying138,by kernel_rfl⟩
 ·cases h;cases ha
 ·exact⟨_,[(0,1),(1,1),(2,1)],Tryz.underlying147,by kernel_rfl⟩
 ·cases h;cases ha
 ·exact⟨_,[(0,5),(5,1)],Tryz.underlying153,by kernel_rfl⟩
 ·exact⟨_,[(0,1),(1,13),(14,1)],Tryz.underlying157,by kernel_rfl⟩
 ·cases h;cases ha
 ·exact⟨_,[(0,1),(1,1),(2,1),(3,1),(4,1),(5,1),(6,1)],Tryz.underlying184,by kernel_rfl⟩
 iterate 3(cases h;cases ha)
 ·exact⟨_,[(0,5),(5,1),(6,1)],Tryz.underlying273,by kernel_rfl⟩
 ·cases h;cases ha
 ·cases h
theorem e56:∀T t,tyT T=some t->a6d t=true->(Tryz.prog.info? (Tryz.prog.pointee T)).isSome=true:=by
 intro T t h ha;unfold tyT at h;split at h
 iterate 25(cases h;cases ha)
 ·kernel_rfl
 ·kernel_rfl
 iterate 7(cases h;cases ha)
 ·kernel_rfl
 iterate 6(cases h;cases ha)
 ·kernel_rfl
 iterate 4(cases h;cases ha)
 ·kernel_rfl
 iterate 4(cases h;cases ha)
 ·cases h
def e5M:TypeId->Option Ty:=fun T=>
 match T with
 |_=>none
theorem e0F:∀T t,e5M T=some t->CmpOk Tryz.prog T t:=by
 intro T t h;unfold e5M at h;split at h
 ·cases h
def M5(h:Nat->Hint)(fn:FuncId->Option Tmp->Option AF)(exq:Nat->Bool)(live:FuncId->Bool):Env:={ty:=tyT,el:=elT,fld:=e5U,cmp:=e5M,fn:=fn,hint:=h,exq:=exq,live:=live,raw:=true}
theorem t6(hh:Nat->Hint)(fn:FuncId->Option Tmp->Option AF)(exq:Nat->Bool)(live:FuncId->Bool)(h:∀f q F,fn f q=some F->Sound Tryz.prog GW x6 f F):EnvOk Tryz.prog GW x6 (M5 hh fn exq live):=
 {ty:=e6r,el:=e5P,fld:=e0L,mp:=e5Y,bld:=e0z,ptr:=e56,cmp:=e0F,fn:=h,stable:=a7h,mixed:=by kernel_rfl}
end
end Go.Proofs.YtckdohagilcloaaGreatDoor
