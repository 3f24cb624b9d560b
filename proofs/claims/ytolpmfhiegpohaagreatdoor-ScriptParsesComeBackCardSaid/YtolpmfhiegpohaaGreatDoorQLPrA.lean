/- % -/
import Derived.Test.YtolpmfhiegpohaaGreatDoorQBmJ
import Derived.ProofKit
import Derived.OpenShut
import Derived.ShutString
import Derived.DataReads
import Derived.ChangeShapes
import Derived.WideShapes
import Derived.Test.YtolpmfhiegpohaaGreatDoorRows
import Derived.Test.YtolpmfhiegpohaaGreatDoorQFor2
import Derived.Test.YtolpmfhiegpohaaGreatDoorQPaY
import Derived.Test.YtolpmfhiegpohaaGreatDoorQBmBd
import Derived.Lib.ItoaNum
namespace Go.Proofs.YtolpmfhiegpohaaGreatDoor
set_option linter.unusedVariables false
set_option linter.unusedSimpArgs false
open Go Go.RowKit
section
open Go Go.RowKit Go.ChangeShapes Go.WideShapes
def FitG(RR:(i:RC)->i.den->Prop):(t:Ty)->t.den->Prop | .u8,_=>True | .int k,x=>(Lit.int k x).wf=true | .bool,_=>True | .str,x=>x.length<=maxLen | .sl t,xs=>xs.length<=maxLen/\∀x∈xs,FitG RR t x | .pr a b,x=>FitG RR a x.1/\FitG RR b x.2 | .un,_=>True | .mp _,_=>True | .ptr _,_=>True | .np _,_=>True | .nl,_=>True | .clo _ _,_=>True | .rc i,x=>RR i x
def FitR(i:RC)(x:i.den):Prop:=∀RR:(i:RC)->i.den->Prop,(∀j y,FitG RR j.body (j.un y)->RR j y)->RR i x
def Fit:(t:Ty)->t.den->Prop:=FitG FitR
theorem FitG.mono{RR RR':(i:RC)->i.den->Prop}(hR:∀i x,RR i x->RR' i x):∀(t:Ty) (x:t.den),FitG RR t x->FitG RR' t x
 |.u8,_,h=>h
 |.int _,_,h=>h
 |.bool,_,h=>h
 |.str,_,h=>h
 |.sl t,_,h=>⟨h.1,fun x hx=>FitG.mono hR t x (h.2 x hx)⟩
 |.pr a b,_,h=>⟨FitG.mono hR a _ h.1,FitG.mono hR b _ h.2⟩
 |.un,_,h=>h
 |.mp _,_,h=>h
 |.ptr _,_,h=>h
 |.np _,_,h=>h
 |.nl,_,h=>h
 |.clo _ _,_,h=>h
 |.rc i,x,h=>hR i x h
theorem FitR.intro{i:RC}{x:i.den}(h:Fit i.body (i.un x)):FitR i x:=
 fun RR hc=>hc i x (FitG.mono (fun j y hy=>hy RR hc) _ _ h)
mutual
inductive Deep(P:Program)(R:RC->Option TypeId):Ty->TypeId->Prop where
 |u8 {T:TypeId}:P.underlying T=some (.int .u8)->Deep P R .u8 T
 |int {T:TypeId} {k:IntKind}:P.underlying T=some (.int k)->Deep P R (.int k) T
 |bool {T:TypeId}:P.underlying T=some .bool->Deep P R .bool T
 |str {T:TypeId}:P.underlying T=some .string->Deep P R .str T
 |sl {T e:TypeId} {t:Ty}:P.underlying T=some (.slice e)->P.cellsOf e=t.sz->Deep P R t e->Deep P R (.sl t) T
 |st {T:TypeId} {t:Ty} {fs:Array Field}:P.underlying T=some (.struct fs)->P.cellsOf T=t.sz->t.isAgg=true->DeepF P R t fs.toList 0->Deep P R t T
 |rc {T:TypeId} {i:RC}:R i=some T->Deep P R (.rc i) T
inductive DeepF(P:Program)(R:RC->Option TypeId):Ty->List Field->Nat->Prop where
 |nil {o:Nat}:DeepF P R .un [] o
 |one {t:Ty} {f:Field} {o:Nat}:f.offset=o->P.cellsOf f.type=t.sz->Deep P R t f.type->DeepF P R t [f] o
 |single {t:Ty} {f:Field} {o:Nat}:f.offset=o->P.cellsOf f.type=t.sz->Deep P R t f.type->DeepF P R (.pr t .un) [f] o
 |cons {a b:Ty} {f:Field} {fs:List Field} {o:Nat}:f.offset=o->P.cellsOf f.type=a.sz->Deep P R a f.type->DeepF P R b fs (o+a.sz)->DeepF P R (.pr a b) (f :: fs) o
end
def d4N(P:Program)(R:RC->Option TypeId):Prop:=∀i T,R i=some T->∃fs,P.underlying T=some (.struct fs)/\P.cellsOf T=i.sz/\DeepF P R i.body fs.toList 0
abbrev M00:Nat->Nat->Prop:=fun _ _=>False
section
variable{H:Type}{enc:TypeId×Value->H}{P:Program}{w:World}{spare:Nat->Bool}{held:Bool}{R:RC->Option TypeId}
theorem a96{α:Type}{p:Nat->α->Prop}:∀n,(∀i,i<n->∃x,p i x)->∃l:List α,l.length=n/\∀i (h:i<l.length),p i l[i]
 |0,_=>⟨[],rfl,fun i h=>absurd h (Nat.not_lt_zero _)⟩
 |n+1,h=>by
  obtain⟨l,hl,hp⟩:=a96 n fun i hi=>h i (Nat.lt_succ_of_lt hi)
  obtain⟨x,hx⟩:=h n (Nat.lt_succ_self _);refine⟨l ++ [x],by simp[hl],fun i hi=>?_⟩;rcases Nat.lt_or_ge i l.length with h'|h'
  ·rw[List.getElem_append_left h'];exact hp i h'
  ·have:i=l.length:=by simp at hi;omega
   subst this;simp[hl,hx]
theorem b7V{a:Addr}{n:Nat}{cs:List Value}(h:w.cells? 0 a n=some cs):Pl M00 w a cs:=by
 intro j u hu;refine⟨?_,id⟩;unfold World.cells? at h;rw[if_pos (Nat.zero_le _)]at h;have hl:=mapM_some_length h;have hj:j<n:=by
  rcases Nat.lt_or_ge j cs.length with h'|h'
  ·rw[hl,List.length_range]at h';exact h'
  ·rw[List.getElem?_eq_none h']at hu;cases hu
 have:=mapM_some_get h j j (by rw[List.getElem?_range hj]);rw[this];exact hu
theorem b9V{fuel:Nat}{cs:List Value}
  (ih:∀(t:Ty) (T:TypeId) (cs:List Value) (x:DataW H×List MemPlace),Deep P R t T->DataW.trod enc P w 0 spare held fuel T cs=some x->∃d:t.den,RepC M00 w t d cs/\Fit t d):
  ∀(fs:List Field) (t:Ty) (o:Nat) (xs:List (DataW H×List MemPlace)),DeepF P R t fs o->
   (fs.mapM fun f=>DataW.trod enc P w 0 spare held fuel f.type ((cs.drop f.offset).take (P.cellsOf f.type)))=some xs->∃d:t.den,RepC M00 w t d ((cs.drop o).take t.sz)/\Fit t d:=by
 intro fs;induction fs with
 |nil=>
  intro t o xs hd _;cases hd;exact⟨(),List.take_zero,trivial⟩
 |cons f fs hfs=>
  intro t o xs hd hm;have hhead:∃y,DataW.trod enc P w 0 spare held fuel f.type ((cs.drop f.offset).take (P.cellsOf f.type))=some y:=by
   have:=mapM_some_get hm 0 f rfl;cases hx:xs[0]? with
   |none=>
    have hl:=mapM_some_length hm;rw[List.getElem?_eq_none_iff]at hx;simp at hl;omega
   |some y=>exact⟨y,this.trans hx⟩
  have htail:∃ys,(fs.mapM fun f=>DataW.trod enc P w 0 spare held fuel f.type ((cs.drop f.offset).take (P.cellsOf f.type)))=some ys:=by
   rw[List.mapM_cons]at hm;obtain⟨y,hy⟩:=hhead;rw[hy]at hm;cases hys:(fs.mapM fun f=>DataW.trod enc P w 0 spare held fuel f.type ((cs.drop f.offset).take (P.cellsOf f.type)))with
   |none=>rw[hys]at hm;cases hm
   |some ys=>exact⟨ys,rfl⟩
  obtain⟨y,hy⟩:=hhead;obtain⟨ys,hys⟩:=htail;cases hd with
  |one ho hc h1=>
   rw[ho,hc]at hy;exact ih _ _ _ _ h1 hy
  |single ho hc h1=>
   rw[ho,hc]at hy;obtain⟨d,hd1,hd2⟩:=ih _ _ _ _ h1 hy;exact⟨(d,()),⟨_,[],(List.append_nil _).symm,hd1,rfl⟩,hd2,trivial⟩
  |@cons a b _ _ _ ho hc h1 h2=>
   rw[ho,hc]at hy;obtain⟨d,hd1,hd2⟩:=ih _ _ _ _ h1 hy;obtain⟨e,he1,he2⟩:=hfs _ _ _ h2 hys;refine⟨(d,e),⟨_,_,?_,hd1,he1⟩,hd2,he2⟩;show(cs.drop o).take (a.sz+b.sz)=_;rw[List.take_add,List.drop_drop]
theorem c7g(hR:d4N P R):∀(fuel:Nat) (t:Ty) (T:TypeId) (cs:List Value) (x:DataW H×List MemPlace),Deep P R t T->DataW.trod enc P w 0 spare held fuel T cs=some x->
  ∃d:t.den,RepC M00 w t d cs/\Fit t d:=by
 intro fuel;induction fuel with
 |zero=>intro t T cs x _ h;cases h
 |succ fuel ih=>
  intro t T cs x hd h;have hstruct:∀(t:Ty) (fs:Array Field),P.underlying T=some (.struct fs)->P.cellsOf T=t.sz->DeepF P R t fs.toList 0->∃d:t.den,RepC M00 w t d cs/\Fit t d:=fun t fs hu hc hf=>by
   unfold DataW.trod at h;simp only[hu]at h;split at h
   ·rename_i hl;cases hm:(fs.toList.mapM fun f=>DataW.trod enc P w 0 spare held fuel f.type ((cs.drop f.offset).take (P.cellsOf f.type)))with
    |none=>rw[hm]at h;cases h
    |some xs=>
     obtain⟨d,h1,h2⟩:=b9V ih fs.toList t 0 xs hf hm;rw[List.drop_zero,List.take_of_length_le (by omega)]at h1;exact⟨d,h1,h2⟩
   ·cases h
  cases hd with
  |u8 hu=>
   have hx:∃n,cs=[.int .u8 n]/\(Lit.int .u8 n).wf=true:=by
    unfold DataW.trod at h;split at h<;>simp_all
   obtain⟨n,rfl,hn⟩:=hx;refine⟨UInt8.ofNat n.toNat,?_,trivial⟩;show [Value.int .u8 n]=[Value.int .u8 (UInt8.ofNat n.toNat).toNat];simp[Lit.wf,IntKind.min,IntKind.max,IntKind.signed,IntKind.bits]at hn;have:((UInt8.ofNat n.toNat).toNat:Int)=n:=by simp;omega
   rw[this]
  |@int _ k hu=>
   have hx:∃n,cs=[.int k n]/\(Lit.int k n).wf=true:=by
    unfold DataW.trod at h;split at h<;>simp_all
   obtain⟨n,rfl,hn⟩:=hx;exact⟨n,rfl,hn⟩
  |bool hu=>
   have hx:∃b,cs=[.bool b]:=by
    unfold DataW.trod at h;split at h<;>simp_all
   obtain⟨b,rfl⟩:=hx;exact⟨b,rfl,trivial⟩
  |str hu=>
   have hx:∃s:ByteArray,cs=[.string s]/\s.size<=maxLen:=by
    unfold DataW.trod at h;split at h<;>simp_all
   obtain⟨s,rfl,hn⟩:=hx;refine⟨s.data.toList,?_,?_⟩
   ·show [Value.string s]=[Value.string ⟨s.data.toList.toArray⟩];simp
   ·show s.data.toList.length<=maxLen;simpa using hn
  |@sl _ e t hu hc he=>
   have hx:cs=[.slice none 0 0]\/∃a len cap,cs=[.slice (some a) len cap]/\len<=cap/\cap<=maxLen/\
     ∀i,i<len->∃y,(w.cells? 0 (a.add (i*P.cellsOf e)) (P.cellsOf e)).bind (DataW.trod enc P w 0 spare held fuel e)=some y:=by
    unfold DataW.trod at h;split at h
    all_goals try (simp_all;done)
    ·rename_i hu2;rw[hu]at hu2;cases hu2;simp only at h;split at h
     ·rename_i hb;right;refine⟨_,_,_,rfl,hb.2.1,hb.2.2,fun i hi=>?_⟩;cases hm:((List.range _).mapM fun i=>(w.cells? 0 (Addr.add _ (i*P.cellsOf e)) (P.cellsOf e)).bind (DataW.trod enc P w 0 spare held fuel e))with
      |none=>rw[hm]at h;cases h
      |some ys=>
       have h1:=mapM_some_get hm i i (by rw[List.getElem?_range hi]);have hl:=mapM_some_length hm;rw[List.length_range]at hl;exact⟨ys[i]'(by omega),h1.trans (List.getElem?_eq_getElem (by omega))⟩
     ·cases h
   rcases hx with rfl|⟨a,len,cap,rfl,h1,h2,h3⟩
   ·exact⟨[],⟨none,0,rfl,Nat.le_refl _,Nat.zero_le _,fun i h=>absurd h (Nat.not_lt_zero _)⟩,Nat.zero_le _,fun x h=>by cases h⟩
   ·have hall:∀i,i<len->∃d:t.den,(∃es,RepC M00 w t d es/\Pl M00 w (a.add (i*t.sz)) es)/\Fit t d:=fun i hi=>by
     obtain⟨y,hy⟩:=h3 i hi;rw[hc]at hy;cases hcs:w.cells? 0 (a.add (i*t.sz)) t.sz with
     |none=>rw[hcs]at hy;cases hy
     |some es=>
      rw[hcs]at hy;obtain⟨d,hd1,hd2⟩:=ih _ _ _ _ he hy;exact⟨d,⟨es,hd1,b7V hcs⟩,hd2⟩
    obtain⟨l,hl,hp⟩:=a96 len hall;refine⟨l,⟨some a,cap,?_,by omega,h2,fun i hi=>?_⟩,?_,fun x hx=>?_⟩
    ·rw[hl]
    ·obtain⟨⟨es,e1,e2⟩,_⟩:=hp i hi;exact⟨a,es,rfl,e1,e2⟩
    ·show l.length<=maxLen;omega
    ·obtain⟨i,hi,rfl⟩:=List.getElem_of_mem hx;exact(hp i hi).2
  |st hu hc ha hf=>exact hstruct t _ hu hc hf
  |rc hr=>
   obtain⟨fs,hu,hc,hf⟩:=hR _ _ hr;rename_i i;obtain⟨d,h1,h2⟩:=hstruct i.body fs hu (by rw[hc,RC.sz_body]) hf;refine⟨i.mk d,RepC.rc.2 (by rw[RC.un_mk];exact h1),FitR.intro (by rw[RC.un_mk];exact h2)⟩
theorem c5A(hR:d4N P R){r:Reach}{base:Nat}{t:Ty}{T:TypeId}{v:Value}{d:DataW H}{p:List MemPlace}(hd:Deep P R t T)(hv:Value.okWide P w r base T v)(h:DataW.Trod enc P w 0 spare held T v d p):
  ∃x:t.den,RepV M00 w t x v/\Fit t x:=by
 obtain⟨fuel,hf⟩:=h;obtain⟨x,h1,h2⟩:=c7g hR fuel t T _ _ hd hf;refine⟨x,⟨_,h1,?_⟩,h2⟩;have hagg:∀fs,P.underlying T=some (.struct fs)->t.isAgg=true->v=mkV t v.cells.toList:=fun fs hu ha=>by
  obtain⟨cs,rfl,_⟩:=okWide_struct hu hv;rw[a1k ha];simp[Value.cells]
 have hone:∀c:Value,v=c->c.cells = #[c]->t.isAgg=false->v=mkV t v.cells.toList:=fun c e hc ha=>by
  subst e;rw[hc,Z4 ha]
 cases hd with
 |u8 hu=>obtain⟨n,rfl⟩:=okWide_int hu hv;exact hone _ rfl rfl rfl
 |int hu=>obtain⟨n,rfl⟩:=okWide_int hu hv;exact hone _ rfl rfl rfl
 |bool hu=>obtain⟨n,rfl⟩:=okWide_bool hu hv;exact hone _ rfl rfl rfl
 |str hu=>obtain⟨n,rfl⟩:=okWide_string hu hv;exact hone _ rfl rfl rfl
 |sl hu _ _=>obtain⟨a,l,c,rfl⟩:=okWide_slice hu hv;exact hone _ rfl rfl rfl
 |st hu _ ha _=>exact hagg _ hu ha
 |rc hr=>obtain⟨fs,hu,_⟩:=hR _ _ hr;exact hagg _ hu rfl
end
theorem d1V{P:Program}{f:FuncId}{ps:List Sl}{F:SV ps->BV []->Option Bool}{out:Bool->SV [.v .bool]×BV []}(hout:∀z,(out z).1=(z,()))(hs:Sound P GW x9 f ⟨ps,[],[.v .bool],[],Bool,out,F⟩)
  {W:World} {vs:List Value} {x:SV ps} (hg:GW W) (ha:All2 (RepD0 M00 W g0) (Y1 id ps x) vs) (hf:F x ()=some true):Calls P f vs.toArray W fun e W'=>e = .returned (.bool true)/\Ext W W':=by
 refine(hs.2 M00 W g0 vs x () true hg (c1Q hg) {args:=ha,res:=fun r blk h=>(by cases h),dom:=fun r gx h=>(by cases h),inj:=fun _ _ _ _ _ h=>(by cases h),low:=fun _ _ _ h=>(by cases h),chg:=fun _ _ _ _ h=>(by cases h),mlt:=fun b o h=>h.elim,row:=fun _ _ _ h=>(by cases h)} hf).mono fun e W' hp=>?_
 obtain⟨vs',g',he,hE,_,hF,_⟩:=hp;refine⟨?_,hE.ext fun b hb=>?_⟩
 ·have:=hF.args;rw[hout]at this
  match vs',this with
  |[v],⟨h1,_⟩=>
   have h2:=RepV.plain (t:= .bool) rfl h1;have h3:[v]=[.bool true]:=h2;injection h3 with h3
   rw[he,h3];rfl
 ·obtain⟨r,x,h,_⟩:=hb;cases h
end
section
open Go Go.RowKit Go.ChangeShapes Go.WideShapes
def GExpr.bulk:GExpr->Nat | .mk _ t _ l cs=>1+(t.length+1+(1+((l.map (·.length+1)).sum+1+((cs.attach.map (fun c=>GExpr.bulk c.1)).sum+1))))+1
termination_by v=>SizeOf.sizeOf v
decreasing_by
 have:=List.sizeOf_lt_of_mem c.2
 simp_wf
 omega
def GStmt.bulk:GStmt->Nat | .mk _ n t l a e b f _=>1+(n.length+1+(t.length+1+((l.map (·.length+1)).sum+1+((a.map (fun c=>c.1.length+1+c.2.bulk)).sum+1+(e.bulk+((b.attach.map (fun c=>GStmt.bulk c.1)).sum+1+((f.attach.map (fun c=>GStmt.bulk c.1)).sum+1+1)))))))+1
termination_by v=>SizeOf.sizeOf v
decreasing_by
 all_goals
  have:=List.sizeOf_lt_of_mem c.2
  simp_wf
  omega
theorem a6T{α β:Type}(f:α->β)(l:List α):l.attach.map (fun c=>f c.1)=l.map f:=by
 rw[show(fun c:{x // x∈l}=>f c.1)=f∘Subtype.val from rfl,<-List.map_map,List.attach_map_subtype_val]
section
variable{H:Type}{enc:TypeId×Value->H}{P:Program}{w:World}{spare:Nat->Bool}{held:Bool}{R:RC->Option TypeId}{rb:(i:RC)->i.den->Nat}
end
end
section
theorem a00{n:Int}{m:Nat}(h:n=(m:Int))(hm:m<=1000000):IntKind.i64.wrap n=(m:Int):=by
 rw[h,M7 (by omega) (by omega)]
theorem a2Q{a b:UInt8}(h:a≠b):(a==b)=false:=by
 rw[d5E];exact decide_eq_false fun e=>h (UInt8.toNat_inj.1 e)
theorem a7e{α:Type}(xs:List α){i j:Nat}(h1:i<=j)(h2:j<=xs.length):slc xs (i:Int) (j:Int)=some ((xs.take j).drop i):=by
 unfold slc;rw[if_pos ⟨by omega,by omega,by omega⟩];rfl
theorem b6z{α:Type}(xs:List α){i:Nat}(h1:i<=xs.length):slc xs (i:Int) (xs.length:Int)=some (xs.drop i):=by
 rw[a7e xs h1 (Nat.le_refl _),List.take_length]
theorem b1D(b c:UInt8)(s:d7):Lib.indexByte (b :: s) c=if b=c then 0 else if Lib.indexByte s c = -1 then -1 else Lib.indexByte s c+1:=by
 rw[Lib.indexByte];by_cases h:b=c<;>simp[h]
theorem c6c(c:UInt8):∀l:d7,Lib.indexByte l c<(l.length:Int)
 |[]=>by simp[Lib.indexByte]
 |b :: l=>by
  have:=c6c c l;rw[b1D];split
  ·simp
  ·split
   ·simp;omega
   ·simp;omega
abbrev A6:Type:=Int×d7×Int×Int
def a2C(t:A6):Prop:=0<=t.2.2.2/\t.2.1.length<=50000
theorem c2S{R:Type}(p:UInt8->Bool)(s:d7)(hs:s.length<=50000){k:Int->Option R}{f:Nat->Int->Option R}
  (hstep:∀n (i:Nat) (hi:i<s.length),f (n+1) (i:Int)=if p s[i]=true then f n (IntKind.i64.wrap ((i:Int)+1))else k (i:Int)) (hend:∀n,f (n+1) (s.length:Int)=k (s.length:Int)):
  ∀(d i n:Nat),i+d=s.length->d<n->f n (i:Int)=k ((i+((s.drop i).takeWhile p).length:Nat):Int):=by
 intro d;induction d with
 |zero=>
  intro i n hd hn;obtain⟨n,rfl⟩:∃q,n=q+1:=⟨n-1,by omega⟩;obtain rfl:i=s.length:=by omega
  rw[hend,List.drop_length];rfl
 |succ d ih=>
  intro i n hd hn;obtain⟨n,rfl⟩:∃q,n=q+1:=⟨n-1,by omega⟩;have hi:i<s.length:=by omega
  rw[hstep n i hi,List.drop_eq_getElem_cons hi,List.takeWhile_cons];split
  ·rw[a00 (m:=i+1) (by omega) (by omega),ih (i+1) n (by omega) (by omega)];congr 1;simp only[List.length_cons];omega
  ·simp
def N4(c:UInt8):Bool:=(decide (c>=97)&&decide (c<=122))||((decide (c>=48)&&decide (c<=57))||(c==95))
def T1(c:UInt8):Bool:=decide (c>=48)&&decide (c<=57)
theorem b1F(N:Nat)(c:UInt8):J7 N c=some (decide (c>=97)&&decide (c<=122)):=by
 unfold J7;cases decide (c>=97)<;>simp
theorem a60(N:Nat)(c:UInt8):J6 N c=some (T1 c):=by
 unfold J6 T1;cases decide (c>=48)<;>simp
theorem d11(N:Nat)(c:UInt8):U6 N c=some (N4 c):=by
 unfold U6;rw[b1F,d2,a60,d2];unfold N4 T1;cases (decide (c>=97)&&decide (c<=122))<;>cases (decide (c>=48)&&decide (c<=57))<;>simp
theorem c2R(p:UInt8->Bool)(s:d7){i:Nat}(hi:i<=s.length):i+((s.drop i).takeWhile p).length<=s.length:=by
 have:=(List.takeWhile_sublist (l:=s.drop i) p).length_le;rw[List.length_drop]at this;omega
theorem b6K(p:UInt8->Bool):∀(l:d7),∀b∈l.takeWhile p,p b=true
 |[],b,h=>by cases h
 |a :: l,b,h=>by
  rw[List.takeWhile_cons]at h;split at h
  ·rename_i hp;rcases List.mem_cons.1 h with rfl|h
   ·exact hp
   ·exact b6K p l b h
  ·cases h
theorem b8x(p:UInt8->Bool)(s:d7){i:Nat}(hi:i<=s.length):(s.take (i+((s.drop i).takeWhile p).length)).drop i=(s.drop i).takeWhile p:=by
 rw[List.drop_take,Nat.add_sub_cancel_left];have h:∀l:d7,l.take (l.takeWhile p).length=l.takeWhile p:=by
  intro l;induction l with
  |nil=>rfl
  |cons a l ih=>
   rw[List.takeWhile_cons];split
   ·rw[List.length_cons,List.take_succ_cons,ih]
   ·rfl
 exact h _
theorem d5w{N:Nat}(hN:60000<=N)(s:d7)(hs:s.length<=50000){k:Int->Option (d7×d7×Int×List A6)}{i:Nat}(hi:i<=s.length):
  b5u N s k N (i:Int)=k ((i+((s.drop i).takeWhile N4).length:Nat):Int):=by
 refine c2S N4 s hs (f:=b5u N s k) (fun n j hj=>?_) (fun n=>?_) (s.length-i) i N (by omega) (by omega)
 ·show a7m _ _ _ _ _=_;unfold a7m;rw[a2c hj,d8,p6 s hj,d2,d11,d2,b4B]
 ·show a7m _ _ _ _ _=_;unfold a7m;rw[a4T,d9]
theorem c61{N:Nat}(hN:60000<=N)(s:d7)(hs:s.length<=50000)(w:List A6){i:Nat}(hi:i<=s.length):
  O5 N () s (i:Int) w=some ((s.drop i).takeWhile N4,s,((i+((s.drop i).takeWhile N4).length:Nat):Int),w):=by
 unfold O5;rw[d5w hN s hs hi,a7e s (Nat.le_add_right _ _) (c2R N4 s hi),d2,b8x N4 s hi]
theorem d5x{N:Nat}(hN:60000<=N)(s:d7)(hs:s.length<=50000){k:Int->Option (d7×d7×Int×List A6)}{i:Nat}(hi:i<=s.length):
  b5v N s k N (i:Int)=k ((i+((s.drop i).takeWhile T1).length:Nat):Int):=by
 refine c2S T1 s hs (f:=b5v N s k) (fun n j hj=>?_) (fun n=>?_) (s.length-i) i N (by omega) (by omega)
 ·show a7n _ _ _ _ _=_;unfold a7n;rw[a2c hj,d8,p6 s hj,d2,a60,d2,b4B]
 ·show a7n _ _ _ _ _=_;unfold a7n;rw[a4T,d9]
theorem c62{N:Nat}(hN:60000<=N)(s:d7)(hs:s.length<=50000)(w:List A6){i:Nat}(hi:i<=s.length):
  O6 N () s (i:Int) w=some ((s.drop i).takeWhile T1,s,((i+((s.drop i).takeWhile T1).length:Nat):Int),w):=by
 unfold O6;rw[d5x hN s hs hi,a7e s (Nat.le_add_right _ _) (c2R T1 s hi),d2,b8x T1 s hi]
def c0c(acc:Nat)(l:d7):Nat:=l.foldl (fun a b=>a*10+(b.toNat-48)) acc
theorem c6r{N:Nat}{k:Int->Option (Int×d7×Int×Int×d7×Int×Int×List A6)}(c:d7)(hc:c.length<=9)(hd:∀b∈c,T1 b=true):∀(d i n acc:Nat),i+d=c.length->d<n->acc<10 ^ i->
  b5r N c (c.length:Int) k n (i:Int) (acc:Int)=k (c0c acc (c.drop i):Int):=by
 intro d;induction d with
 |zero=>
  intro i n acc h hn ha;obtain⟨n,rfl⟩:∃q,n=q+1:=⟨n-1,by omega⟩;obtain rfl:i=c.length:=by omega
  show a7k _ _ _ _ _ _ _=_;unfold a7k;rw[a4T,d9,List.drop_length];rfl
 |succ d ih=>
  intro i n acc h hn ha;obtain⟨n,rfl⟩:∃q,n=q+1:=⟨n-1,by omega⟩;have hi:i<c.length:=by omega
  have hb:=hd c[i] (List.getElem_mem hi);unfold T1 at hb;simp only[Bool.and_eq_true,decide_eq_true_eq,ge_iff_le,UInt8.le_iff_toNat_le]at hb;have h1:(48:UInt8).toNat=48:=rfl;have h2:(57:UInt8).toNat=57:=rfl;have hp:10 ^ i<=10 ^ 8:=Nat.pow_le_pow_right (by omega) (by omega);have hp9:(10:Nat) ^ 8=100000000:=by decide
  have hsub:(c[i]-48).toNat=c[i].toNat-48:=by
   rw[UInt8.toNat_sub_of_le _ _ (by rw[UInt8.le_iff_toNat_le];omega)];rfl
  show a7k _ _ _ _ _ _ _=_;unfold a7k;rw[a2c hi,d8,p6 c hi,d2];rw[a00 (n:=(i:Int)+1) (m:=i+1) (by omega) (by omega),hsub,M7 (n:=((c[i].toNat-48:Nat):Int)) (by omega) (by omega),M7 (n:=(10:Int)*(acc:Int)) (by omega) (by omega),M7 (by omega) (by omega)];rw[show(10:Int)*(acc:Int)+((c[i].toNat-48:Nat):Int)=((acc*10+(c[i].toNat-48):Nat):Int) by omega];rw[ih (i+1) n _ (by omega) (by omega) (by rw[Nat.pow_succ];omega),List.drop_eq_getElem_cons hi];rfl
theorem c4x(N:Nat)(l:d7):a0K N l [61,61]=some (l.take 2==[61,61]):=by
 unfold a0K a0u
 match l with
 |[]=>simp
 |[a]=>
  simp
 |a :: b :: r=>
  rw[decide_eq_true (show(((a :: b :: r:d7).length:Nat):Int)>=((([61,61]:d7).length:Nat):Int) by simp;omega),d8];rw[show(0:Int)=((0:Nat):Int)from rfl,a7e _ (by simp) (by simp),d2,d2];rfl
end
section
def P1:Bool->d7->d7|_,[]=>[]|true,c :: r=>P1 (c !=10) r|false,c :: r=>if c=32 then P1 false r else if c=9 then P1 false r else if c=10 then P1 false r else if c=13 then P1 false r else if c=35 then P1 true r else c :: r
theorem b47:∀r:d7,P1 true r=if Lib.indexByte r 10<0 then []else P1 false (r.drop (Lib.indexByte r 10).toNat)
 |[]=>by simp[P1,Lib.indexByte]
 |b :: r=>by
  have ih:=b47 r;rw[P1,b1D];by_cases h:b=10
  ·subst h;simp[P1]
  ·have hb:(b !=10)=true:=by simp[h]
   have hg:=Lib.indexByte_ge r 10;rw[hb,ih,if_neg h];by_cases h1:Lib.indexByte r 10 = -1
   ·simp[h1]
   ·rw[if_neg h1,if_neg (show ¬Lib.indexByte r 10<0 by omega),if_neg (show ¬Lib.indexByte r 10+1<0 by omega)];rw[show(Lib.indexByte r 10+1).toNat=(Lib.indexByte r 10).toNat+1 by omega,List.drop_succ_cons]
theorem a4q{n:Int}{m:Nat}(h:n=(m:Int))(hm:m<=4611686018427387905):IntKind.i64.wrap n=(m:Int):=by
 rw[h,M7 (by omega) (by omega)]
def b8i(c:UInt8):Bool:=decide (Lib.indexByte [61,43,40,41,91,93,123,125,44,58,59] c>=0)
def D8:d7->d7->Option (d7×d7) | [],_=>none | [c],acc=>if c=34 then some (acc,[])else none|c :: e :: r,acc=>if c=34 then some (acc,e :: r)else if c<32 then none else if c>126 then none else if c=92 then(if e=34 then D8 r (acc ++ [34])else if e=92 then D8 r (acc ++ [92])else if e=110 then D8 r (acc ++ [10])else none)else D8 (e :: r) (acc ++ [c])
def a0W:d7->Option (Int×d7×Int×d7) | []=>none|c :: r=>if(decide (c>=97)&&decide (c<=122))=true then(if((c :: r).takeWhile N4).length>40 then none else some (1,(c :: r).takeWhile N4,0,(c :: r).dropWhile N4))else if T1 c=true then(if((c :: r).takeWhile T1).length>9 then none else if c=48/\((c :: r).takeWhile T1).length>1 then none else some (3,[],(c0c 0 ((c :: r).takeWhile T1):Int),(c :: r).dropWhile T1))else if c=34 then(D8 r []).map fun z=>(2,z.1,0,z.2)else if b8i c=true then(if c=61/\r.head? = some 61 then some (4,[61,61],0,r.tail)else some (4,[c],0,r))else none
theorem c2f(p:UInt8->Bool):∀l:d7,l.dropWhile p=l.drop (l.takeWhile p).length
 |[]=>rfl
 |a :: l=>by
  rw[List.dropWhile_cons,List.takeWhile_cons];split
  ·rw[c2f p l,List.length_cons,List.drop_succ_cons]
  ·rfl
theorem d35(p:UInt8->Bool)(s:d7)(i:Nat):(s.drop i).dropWhile p=s.drop (i+((s.drop i).takeWhile p).length):=by
 rw[c2f,List.drop_drop]
inductive LX(L:Nat):d7->List A6->Prop
 |nil {u:d7}:P1 false u=[]->LX L u []
 |cons {u v r t:d7} {k n:Int} {l:List A6}:P1 false u=v->a0W v=some (k,t,n,r)->v.length<=L->LX L r l->LX L u ((k,t,n,((L-v.length:Nat):Int)) :: l)
end
section
def c5N(c:UInt8):Prop:=c=32\/c=9\/c=10\/c=13\/c=35
def d65(r:d7):Prop:=∀c y,r=c :: y->c5N c
theorem c0z(p:UInt8->Bool)(hp:∀c,c5N c->p c=false):∀(b r:d7),(∀c∈b,p c=true)->d65 r->(b++r).takeWhile p=b/\(b++r).dropWhile p=r
 |[],[],_,_=>⟨rfl,rfl⟩
 |[],c :: r,_,h=>by
  have:=hp c (h c r rfl);simp[List.takeWhile_cons,List.dropWhile_cons,this]
 |a :: b,r,h1,h2=>by
  have:=c0z p hp b r (fun c hc=>h1 c (by simp[hc])) h2;have ha:=h1 a (by simp);rw[List.cons_append,List.takeWhile_cons,List.dropWhile_cons,if_pos ha,if_pos ha,this.1,this.2];exact⟨rfl,rfl⟩
theorem c6q(c:UInt8)(h:c5N c):N4 c=false:=by
 rcases h with h|h|h|h|h<;>subst h<;>decide
theorem d1M(c:UInt8)(h:c5N c):T1 c=false:=by
 rcases h with h|h|h|h|h<;>subst h<;>decide
theorem b6G(r acc:d7):D8 (34 :: r) acc=some (acc,r):=by
 cases r with
 |nil=>simp[D8]
 |cons e r=>simp[D8]
theorem b6F{c:UInt8}(h1:c≠34)(h2:¬c<32)(h3:¬c>126)(h4:c≠92)(r acc:d7):D8 (c :: r) acc=D8 r (acc ++ [c]):=by
 cases r with
 |nil=>simp[D8,h1]
 |cons e r=>rw[D8,if_neg h1,if_neg h2,if_neg h3,if_neg h4]
theorem a3U(e:UInt8)(r acc:d7):D8 (92 :: e :: r) acc=if e=34 then D8 r (acc ++ [34])else if e=92 then D8 r (acc ++ [92])else if e=110 then D8 r (acc ++ [10])else none:=by
 rw[D8,if_neg (by decide),if_neg (by decide),if_neg (by decide),if_pos rfl]
theorem a1w:∀(n:Nat) (u acc t r:d7),u.length<=n->D8 u acc=some (t,r)->∃b,u=b++r/\∀r',D8 (b++r') acc=some (t,r')
 |n,[],acc,t,r,_,h=>by cases h
 |0,c :: u,acc,t,r,hn,h=>by simp at hn
 |n+1,c :: u,acc,t,r,hn,h=>by
  by_cases h34:c=34
  ·subst h34;rw[b6G]at h;cases h;exact⟨[34],rfl,fun r'=>b6G r' _⟩
  by_cases h92:c=92
  ·subst h92
   match u,hn,h with
   |[],_,h=>cases h
   |e :: u,hn,h=>
    rw[a3U]at h;have hn':u.length<=n:=by simp at hn;omega
    by_cases g1:e=34
    ·rw[if_pos g1]at h;obtain⟨b,h1,h2⟩:=a1w n u _ t r hn' h;exact⟨92 :: e :: b,by rw[h1];rfl,fun r'=>by show D8 (92 :: e :: (b++r')) acc=_;rw[a3U,if_pos g1,h2]⟩
    rw[if_neg g1]at h;by_cases g2:e=92
    ·rw[if_pos g2]at h;obtain⟨b,h1,h2⟩:=a1w n u _ t r hn' h;exact⟨92 :: e :: b,by rw[h1];rfl,fun r'=>by show D8 (92 :: e :: (b++r')) acc=_;rw[a3U,if_neg g1,if_pos g2,h2]⟩
    rw[if_neg g2]at h;by_cases g3:e=110
    ·rw[if_pos g3]at h;obtain⟨b,h1,h2⟩:=a1w n u _ t r hn' h;exact⟨92 :: e :: b,by rw[h1];rfl,fun r'=>by show D8 (92 :: e :: (b++r')) acc=_;rw[a3U,if_neg g1,if_neg g2,if_pos g3,h2]⟩
    rw[if_neg g3]at h;cases h
  by_cases hlo:c<32
  ·exfalso
   match u,h with
   |[],h=>simp[D8,h34]at h
   |e :: u,h=>rw[D8,if_neg h34,if_pos hlo]at h;cases h
  by_cases hhi:c>126
  ·exfalso
   match u,h with
   |[],h=>simp[D8,h34]at h
   |e :: u,h=>rw[D8,if_neg h34,if_neg hlo,if_pos hhi]at h;cases h
  rw[b6F h34 hlo hhi h92]at h;obtain⟨b,h1,h2⟩:=a1w n u _ t r (by simp at hn;omega) h;exact⟨c :: b,by rw[h1];rfl,fun r'=>by show D8 (c :: (b++r')) acc=_;rw[b6F h34 hlo hhi h92,h2]⟩
theorem b2t{u t r:d7}{k n:Int}(h:a0W u=some (k,t,n,r)):∃b,u=b++r/\b ≠ []/\∀r',d65 r'->a0W (b++r')=some (k,t,n,r'):=by
 cases u with
 |nil=>cases h
 |cons c u=>
  rw[a0W]at h;by_cases hsm:(decide (c>=97)&&decide (c<=122))=true
  ·rw[if_pos hsm]at h;split at h
   ·cases h
   ·rename_i h40;simp only[Option.some.injEq,Prod.mk.injEq]at h;obtain⟨rfl,rfl,rfl,rfl⟩:=h;have hn:N4 c=true:=by unfold N4;rw[hsm];rfl
    have e:(c :: u).takeWhile N4=c :: u.takeWhile N4:=by rw[List.takeWhile_cons,if_pos hn]
    refine⟨(c :: u).takeWhile N4,(List.takeWhile_append_dropWhile).symm,by rw[e];simp,fun r' hr=>?_⟩;have ht:=c0z N4 c6q ((c :: u).takeWhile N4) r' (b6K N4 _) hr;rw[e]at ht h40 ⊢;rw[List.cons_append]at ht ⊢;rw[a0W,if_pos hsm,ht.1,ht.2,if_neg h40]
  rw[if_neg hsm]at h;by_cases hdg:T1 c=true
  ·rw[if_pos hdg]at h;split at h
   ·cases h
   rename_i h9;split at h
   ·cases h
   rename_i h48;simp only[Option.some.injEq,Prod.mk.injEq]at h;obtain⟨rfl,rfl,rfl,rfl⟩:=h;have e:(c :: u).takeWhile T1=c :: u.takeWhile T1:=by rw[List.takeWhile_cons,if_pos hdg]
   refine⟨(c :: u).takeWhile T1,(List.takeWhile_append_dropWhile).symm,by rw[e];simp,fun r' hr=>?_⟩;have ht:=c0z T1 d1M ((c :: u).takeWhile T1) r' (b6K T1 _) hr;rw[e]at ht h9 h48 ⊢;rw[List.cons_append]at ht ⊢;rw[a0W,if_neg hsm,if_pos hdg,ht.1,ht.2,if_neg h9,if_neg h48]
  rw[if_neg hdg]at h;by_cases h34:c=34
  ·rw[if_pos h34]at h;cases hx:D8 u []with
   |none=>rw[hx]at h;cases h
   |some z=>
    rw[hx]at h;simp only[Option.map_some,Option.some.injEq,Prod.mk.injEq]at h;obtain⟨rfl,rfl,rfl,rfl⟩:=h;obtain⟨b,h1,h2⟩:=a1w u.length u [] z.1 z.2 (Nat.le_refl _) hx;refine⟨c :: b,by rw[List.cons_append,<-h1],by simp,fun r' hr=>?_⟩;rw[List.cons_append,a0W,if_neg hsm,if_neg hdg,if_pos h34,h2];rfl
  rw[if_neg h34]at h;by_cases hs:b8i c=true
  ·rw[if_pos hs]at h;split at h
   ·rename_i h61;simp only[Option.some.injEq,Prod.mk.injEq]at h;obtain⟨rfl,rfl,rfl,rfl⟩:=h;obtain⟨h61,hh⟩:=h61;cases u with
    |nil=>cases hh
    |cons e u=>
     obtain rfl:e=61:=by simpa using hh
     refine⟨[c,61],rfl,by simp,fun r' hr=>?_⟩;rw[List.cons_append,a0W,if_neg hsm,if_neg hdg,if_neg h34,if_pos hs,if_pos ⟨h61,rfl⟩];rfl
   ·simp only[Option.some.injEq,Prod.mk.injEq]at h;obtain⟨rfl,rfl,rfl,rfl⟩:=h;refine⟨[c],rfl,by simp,fun r' hr=>?_⟩;have:¬(c=61/\r'.head? = some 61):=by
     rintro⟨_,hh⟩;cases r' with
     |nil=>cases hh
     |cons e y=>
      obtain rfl:e=61:=by simpa using hh
      have:=hr _ _ rfl;revert this;unfold c5N;decide
    rw[List.cons_append,List.nil_append,a0W,if_neg hsm,if_neg hdg,if_neg h34,if_pos hs,if_neg this]
  ·rw[if_neg hs]at h;cases h
def d48(t:A6):Int×d7×Int:=(t.1,t.2.1,t.2.2.1)
end
section
def a0x(c:UInt8):d7->List d7
 |[]=>[[]]
 |b :: s=>if b=c then [] :: a0x c s else match a0x c s with
  |x :: xs=>(b :: x) :: xs
  |[]=>[[b]]
theorem c4G(c:UInt8)(s:d7):a0x c s ≠ []:=by
 cases s with
 |nil=>simp[a0x]
 |cons b s=>unfold a0x;split;simp;split<;>simp
theorem a4O(b c:UInt8)(s:d7):Lib.indexByte (b :: s) c=if b=c then 0 else if Lib.indexByte s c = -1 then -1 else Lib.indexByte s c+1:=by
 have h:=Lib.indexByte_ge s c;rw[Lib.indexByte];by_cases hb:b=c
 ·simp[hb]
 ·simp only[beq_iff_eq,hb,if_false]
theorem b2i(c:UInt8):∀(s:d7),Lib.splitK [c] 0 (Lib.count s [c]) s=a0x c s
 |[]=>by simp[Lib.count_one,Lib.splitK,a0x]
 |b :: s=>by
  have ih:=b2i c s;by_cases hb:b=c
  ·subst hb;rw[Lib.count_cons_eq,Nat.add_comm,Lib.splitK,Lib.index_one,a4O];simp only[if_true];show(_ :: Lib.splitK [b] 0 (Lib.count s [b]) s)=_;rw[ih];simp[a0x]
  ·rw[Lib.count_cons_ne _ _ _ hb];unfold a0x;rw[if_neg hb,<-ih];cases hk:Lib.count s [c]with
   |zero=>simp[Lib.splitK]
   |succ k=>
    rw[Lib.splitK,Lib.splitK,Lib.index_one,Lib.index_one,a4O,if_neg hb];have h0:=Lib.indexByte_ge s c;by_cases h1:Lib.indexByte s c = -1
    ·simp[h1]
    ·have h2:∃n:Nat,Lib.indexByte s c=n:=⟨(Lib.indexByte s c).toNat,by omega⟩;obtain⟨n,hn⟩:=h2;have e:((n:Int)+1).toNat=n+1:=by omega
     have e1:¬((n:Int) = -1):=by omega
     have e2:¬((n:Int)+1 = -1):=by omega
     simp[hn,e,e1,e2,Nat.add_right_comm]
theorem c0w(s:d7)(c:UInt8):a7f s [c]=a0x c s:=by
 unfold a7f;have:=Lib.splitB_data ⟨[c].toArray⟩ 0 (Lib.countB ⟨s.toArray⟩ ⟨[c].toArray⟩) ⟨s.toArray⟩;rw[this];exact b2i c s
theorem b2h(c:UInt8):∀s:d7,(a0x c s).length=s.count c+1
 |[]=>rfl
 |b :: s=>by
  have ih:=b2h c s;unfold a0x;by_cases hb:b=c
  ·rw[if_pos hb];simp[hb,ih]
  ·rw[if_neg hb,List.count_cons_of_ne hb,<-ih];have:=c4G c s;cases h:a0x c s with
   |nil=>exact absurd h this
   |cons=>rfl
theorem a7U(s:d7)(c:UInt8)(h:s.length<4294967281):strings_Split s [c]=some (a0x c s):=by
 have hc:s.count c<=s.length:=List.count_le_length;unfold strings_Split;rw[c0w,b2h];refine if_pos ⟨h,by simp,?_,by omega⟩;show _=Lib.count s [c]+1;rw[Lib.count_one]
end
section
variable{N:Nat}
theorem a3C{α:Type}(p:α->Bool)(k:Bool):∀(xs:List α) (j:Nat),b1x (fun _ x r=>if(!p x)=true then false else r) k xs j=(xs.all p&&k)
 |[],_=>by simp[b1x]
 |x :: xs,j=>by
  show(if(!p x)=true then false else b1x _ _ xs (j+1))=_;rw[a3C p k xs (j+1),List.all_cons];cases h:p x<;>simp
theorem b0t(hN:J0<=N)(xs:List d7)(hx:xs.length<=maxLen)(x:d7):G8 N xs x=some (b92 (x == ·) xs):=by
 unfold G8;refine a3k (fun _ _=>rfl) xs hx (fun self i h r hr=>?_) (fun self=>?_) hN
 ·simp only[b2F,p6 xs h,a1c hx h,hr,d2];rw[a2c h,d8,b1d]
 ·simp[b2F]
theorem a2m(hN:J0<=N)(xs:List d7)(hx:xs.length<=maxLen)(x:d7):q7 N xs x=some (xs.any (x == ·)):=by
 unfold q7;rw[b0t hN xs hx,d2,a4N]
def a2n(c:UInt8):Bool:=decide (c>=97)&&decide (c<=122)
def a9h(c:UInt8):Bool:=decide (c>=48)&&decide (c<=57)
def nmB(c:UInt8):Bool:=a2n c||(a9h c||c==95)
theorem b42(c:UInt8):J7 N c=some (a2n c):=by
 unfold J7 a2n;cases decide (c>=97)<;>simp
theorem c4r(c:UInt8):J6 N c=some (a9h c):=by
 unfold J6 a9h;cases decide (c>=48)<;>simp
def a4t:List d7:=[[109,97,99,114,111],[102,111,114],[105,110],[105,102],[101,108,115,101],[117,115,101],[102,105,108,101,115],[99,104,111,111,115,101]]
def A5(s:d7):Bool:=match s with
 |[]=>false
 |b :: _=>decide (s.length<=40)&&(a2n b&&(s.all nmB && !(a4t.any (s == ·))))
theorem L4(hN:J0<=N)(s:d7)(hs:s.length<=maxLen):C7 N s=some (A5 s):=by
 unfold C7;cases s with
 |nil=>simp[A5]
 |cons b x=>
  have h1:¬(((b :: x).length:Int)<1):=by simp;omega
  rw[c5M h1,a9l,List.getElem?_cons_zero,d2,b42,d2];have hL:b9c N (b :: x) ((b :: x).length:Int) (j8 (a0U N) fun t42=>j8 (q7 N t42 (b :: x)) fun t44=>some (!t44)) N 0=some ((b :: x).all nmB && !(a4t.any ((b :: x) == ·))):=by
   have hk:(j8 (a0U N) fun t42=>j8 (q7 N t42 (b :: x)) fun t44=>some (!t44))=some (!(a4t.any ((b :: x) == ·))):=by
    unfold a0U;rw[d2,a2m hN _ (by decide),d2];rfl
   rw[hk,<-a3C nmB _ _ 0];refine a3k (fun _ _=>rfl) (b :: x) hs (fun self i h r hr=>?_) (fun self=>?_) hN
   ·simp only[b3R,p6 _ h,a1c hs h,hr,d2,b42,c4r];rw[a2c h,d8];unfold nmB;generalize (b :: x)[i]=c;cases h1:a2n c<;>cases h2:a9h c<;>cases h3:(c==95)<;>simp[bne,h3]
   ·simp only[b3R,a4T,d9]
  rw[hL];show _=some (decide ((b :: x).length<=40)&&(a2n b&&((b :: x).all nmB && !(a4t.any ((b :: x) == ·)))));generalize ((b :: x).all nmB && !(a4t.any ((b :: x) == ·)))=q;by_cases h40:(b :: x).length<=40
  ·rw[c5M (by omega),decide_eq_true h40];cases a2n b<;>simp
  ·rw[d4Z (by omega),decide_eq_false h40];rfl
theorem b1E(c:UInt8):a1H N c=some (nmB c):=by
 unfold a1H nmB a2n a9h;simp only[b1d];generalize decide (c>=97)=a1;generalize decide (c<=122)=a2;generalize decide (c>=48)=a3;generalize decide (c<=57)=a4;generalize (c==95)=a5;cases a1<;>cases a2<;>cases a3<;>cases a4<;>cases a5<;>rfl
theorem d1T:strings_Split ([109,97,99,114,111,32,102,111,114,32,105,110,32,105,102,32,101,108,115,101,32,117,115,101,32,102,105,108,101,115,32,99,104,111,111,115,101]:d7) ([32]:d7)=some a4t:=by
 rw[a7U _ _ (by decide)];have:a0x 32 ([109,97,99,114,111,32,102,111,114,32,105,110,32,105,102,32,101,108,115,101,32,117,115,101,32,102,105,108,101,115,32,99,104,111,111,115,101]:d7)=a4t:=by decide +kernel
 rw[this]
theorem c0D(n a b:Int):a47 N n a b=some (decide (a<=n)&&decide (n<=b)):=by
 unfold a47;cases decide (a<=n)<;>simp
theorem b0Z(hN:J0<=N)(s:d7)(hs:s.length<=maxLen):a43 N s=some (A5 s):=by
 unfold a43;rw[c0D,d2];cases s with
 |nil=>simp[A5]
 |cons b x=>
  have h1:decide ((1:Int)<=((b :: x).length:Int))=true:=decide_eq_true (by simp;omega);rw[h1,Bool.true_and,a9l,List.getElem?_cons_zero,d2,d2];have hL:a2j N (b :: x) ((b :: x).length:Int) (j8 (strings_Split ([109,97,99,114,111,32,102,111,114,32,105,110,32,105,102,32,101,108,115,101,32,117,115,101,32,102,105,108,101,115,32,99,104,111,111,115,101]:d7) ([32]:d7)) fun t29=>j8 (q7 N t29 (b :: x)) fun t31=>some (!t31)) N 0=some ((b :: x).all nmB && !(a4t.any ((b :: x) == ·))):=by
   rw[d1T,d2,a2m hN _ (by decide),d2,<-a3C nmB _ _ 0];refine a3k (fun _ _=>rfl) (b :: x) hs (fun self i h r hr=>?_) (fun self=>?_) hN
   ·simp only[a1G,p6 _ h,a1c hs h,hr,d2,b1E];rw[a2c h,d8,b1d]
   ·simp only[a1G,a4T,d9]
  rw[hL];show _=some (decide ((b :: x).length<=40)&&(a2n b&&((b :: x).all nmB && !(a4t.any ((b :: x) == ·)))));generalize ((b :: x).all nmB && !(a4t.any ((b :: x) == ·)))=q;have hs1:decide (b<97) = !decide (b>=97):=by
   by_cases h:b<97
   ·rw[decide_eq_true h,decide_eq_false (UInt8.not_le.2 h)];rfl
   ·rw[decide_eq_false h,decide_eq_true (UInt8.not_lt.1 h)];rfl
  have hs2:decide (b>122) = !decide (b<=122):=by
   by_cases h:b<=122
   ·rw[decide_eq_true h,decide_eq_false (UInt8.not_lt.2 h)];rfl
   ·rw[decide_eq_false h,decide_eq_true (UInt8.not_le.1 h)];rfl
  rw[hs1,hs2];unfold a2n;by_cases h40:(b :: x).length<=40
  ·rw[decide_eq_true (by omega:((b :: x).length:Int)<=40),decide_eq_true h40];cases decide (b>=97)<;>cases decide (b<=122)<;>simp
  ·rw[decide_eq_false (by omega:¬((b :: x).length:Int)<=40),decide_eq_false h40];simp
def V5(b:UInt8):Bool:=b==10||(!decide (b<32) && !decide (b>126))
theorem a3g(hN:J0<=N)(s:d7)(hs:s.length<=maxLen):u0 N s=some (s.all V5):=by
 unfold u0;rw[show s.all V5=(s.all V5&&true) by simp,<-a3C V5 true s 0];refine a3k (fun _ _=>rfl) s hs (fun self i h r hr=>?_) (fun self=>?_) hN
 ·simp only[b3Y,p6 s h,a1c hs h,hr,d2];rw[a2c h,d8];unfold V5;cases h1:(s[i]==(10:UInt8))<;>cases h2:decide (s[i]<(32:UInt8))<;>cases h3:decide (s[i]>(126:UInt8))<;>simp[h1,bne]
 ·simp only[b3Y,a4T,d9]
theorem a4x(a b:List d7)(ha:a.length<=maxLen)(he:a.length=b.length):∀(m n i:Nat),i+m=a.length->m<n->b8K N a b (a.length:Int) (some true) n (i:Int)=some (decide (a.drop i=b.drop i))
 |0,n,i,hi,hn=>by
  obtain⟨n,rfl⟩:∃j,n=j+1:=⟨n-1,by omega⟩;have:i=a.length:=by omega
  subst this;show a7i _ _ _ _ _ _ _=_;simp only[a7i,a4T,d9,List.drop_length];rw[he,List.drop_length];simp
 |m+1,n,i,hi,hn=>by
  obtain⟨n,rfl⟩:∃j,n=j+1:=⟨n-1,by omega⟩;have h:i<a.length:=by omega
  have hb:i<b.length:=by omega
  have ih:=a4x a b ha he m n (i+1) (by omega) (by omega);show a7i _ _ _ _ _ _ _=_;simp only[a7i,p6 a h,p6 b hb,a1c ha h,ih,d2];rw[a2c h,d8,List.drop_eq_getElem_cons h,List.drop_eq_getElem_cons hb];by_cases hq:a[i]=b[i]
  ·rw[show(a[i]==b[i])=true from beq_iff_eq.2 hq];simp only[List.cons.injEq,hq,true_and,Bool.not_true,d9]
  ·rw[show(a[i]==b[i])=false from beq_false_of_ne hq];simp only[List.cons.injEq,hq,false_and,Bool.not_false,d8,decide_false]
theorem b4t(hN:J0<=N)(a b:List d7)(ha:a.length<=maxLen)(hb:b.length<=maxLen):D7 N a b=some (decide (a=b)):=by
 unfold D7;by_cases he:a.length=b.length
 ·have:=a4x (N:=N) a b ha he a.length N 0 (by omega) (by unfold maxLen at ha;unfold J0 at hN;omega);rw[show((0:Nat):Int)=0 from rfl,List.drop_zero,List.drop_zero]at this;rw[this];simp[he]
 ·have hne:a≠b:=fun e=>he (by rw[e])
  simp only[decide_eq_false hne];have:((a.length:Int) !=(b.length:Int))=true:=by simp;omega
  simp[this]
theorem b9s(l:List d7)(h:l.length<=1000000):K0 N l=some l:=by
 unfold K0;have e:Zf (([]:List d7).length+l.length) .str=true:=decide_eq_true (by show(0+l.length)*(24*1)<=_;omega);rw[e,d8];cases l with
 |nil=>simp
 |cons a l=>simp
def I9(w:List A6)(i:Nat)(k:Int)(s:d7):Bool:=match w[i]? with
 |some t=>t.1==k&&t.2.1==s
 |none=>false
def S9(w:List A6)(i:Nat)(e:Int):Int:=match w[i]? with
 |some t=>t.2.2.2
 |none=>e
def Q1(w:List A6)(i:Nat):Option d7:=match w[i]? with
 |some t=>if(t.1==1&&A5 t.2.1)=true then some t.2.1 else none
 |none=>none
def a2q(w:List A6)(i:Nat):Option d7:=match w[i]? with
 |some t=>if(t.1==2)=true then some t.2.1 else none
 |none=>none
theorem b1C{w:List A6}{i:Nat}(h:i<w.length):m6 (w.drop i) 0=some w[i]:=by
 rw[a9l,List.getElem?_drop];simp[h]
theorem c6j{w:List A6}{i:Nat}(h:i<w.length):decide (((w.drop i).length:Int)>0)=true:=decide_eq_true (by simp;omega)
theorem c6i{w:List A6}{i:Nat}(h:¬i<w.length):decide (((w.drop i).length:Int)>0)=false:=decide_eq_false (by simp;omega)
theorem a5K{w:List A6}{i:Nat}(h:i<w.length):(((w.drop i).length:Int)==0)=false:=by rw[beq_eq_false_iff_ne];simp;omega
theorem b0C{w:List A6}{i:Nat}(h:¬i<w.length):(((w.drop i).length:Int)==0)=true:=by rw[beq_iff_eq];simp;omega
theorem G3{w:List A6}{i:Nat}{k:Int}{s:d7}(h:I9 w i k s=true):i<w.length:=by
 unfold I9 at h;cases hw:w[i]? with
 |none=>rw[hw]at h;cases h
 |some t=>exact(List.getElem?_eq_some_iff.1 hw).1
theorem a9n{w:List A6}{i:Nat}{k:Int}{s:d7}(h:i<w.length):I9 w i k s=(w[i].1==k&&w[i].2.1==s):=by
 unfold I9;rw[List.getElem?_eq_getElem h]
theorem b53{w:List A6}{i:Nat}{k:Int}{s:d7}(h:¬i<w.length):I9 w i k s=false:=by
 unfold I9;rw[List.getElem?_eq_none (by omega)]
theorem b9A{w:List A6}{i:Nat}{e:Int}(h:i<w.length):S9 w i e=w[i].2.2.2:=by
 unfold S9;rw[List.getElem?_eq_getElem h]
theorem b08{w:List A6}{i:Nat}{e:Int}(h:¬i<w.length):S9 w i e=e:=by
 unfold S9;rw[List.getElem?_eq_none (by omega)]
theorem c2e{w:List A6}{i:Nat}(h:i<w.length):slc (w.drop i) 1 ((w.drop i).length:Int)=some (w.drop (i+1)):=by
 have:=b6z (w.drop i) (i:=1) (by simp;omega);rw[List.drop_drop]at this;exact this
theorem c6X(w:List A6)(i:Nat)(k:Int)(s:d7)(e d:Int):Z6 N k s (w.drop i) e d=some (I9 w i k s,w.drop i,e,d):=by
 unfold Z6;by_cases h:i<w.length
 ·rw[c6j h,d8,b1C h,d2,a9n h];cases w[i].1==k<;>simp
 ·rw[c6i h,d9,b53 h]
theorem R4{w:List A6}{i:Nat}{k:Int}{s:d7}{e d:Int}(h:I9 w i k s=true):l4 N k s (w.drop i) e d=some (true,w.drop (i+1),e,d):=by
 unfold l4;rw[c6X,h];simp only[d2,Bool.not_true,d9,c2e (G3 h)]
theorem O9{w:List A6}{i:Nat}{k:Int}{s:d7}{e d:Int}(h:I9 w i k s=false):l4 N k s (w.drop i) e d=some (false,w.drop i,e,d):=by
 unfold l4;rw[c6X,h];simp only[d2,Bool.not_false,d8]
theorem b6w(w:List A6)(i:Nat)(e d:Int):P5 N (w.drop i) e d=some (S9 w i e,w.drop i,e,d):=by
 unfold P5;by_cases h:i<w.length
 ·rw[a5K h,d9,b1C h,d2,b9A h]
 ·rw[b0C h,d8,b08 h]
theorem a2l(w:List A6)(i:Nat)(e d:Int):o9 N (w.drop i) e d=some (.error (S9 w i e)):=by
 unfold o9;rw[b6w]
theorem W8{w:List A6}{i:Nat}{s:d7}{e d:Int}(h:I9 w i 4 s=true):j7 N s (w.drop i) e d=some (.ok (w.drop (i+1),e,d)):=by
 unfold j7;rw[R4 h];simp only[d2,Bool.not_true,d9]
theorem W7{w:List A6}{i:Nat}{s:d7}{e d:Int}(h:I9 w i 4 s=false):j7 N s (w.drop i) e d=some (.error (S9 w i e)):=by
 unfold j7;rw[O9 h];simp only[d2,Bool.not_false,d8,a2l,j9]
theorem d5G{w:List A6}{i:Nat}{s:d7}{e d:Int}(h:I9 w i 1 s=true):L6 N s (w.drop i) e d=some (.ok (w.drop (i+1),e,d)):=by
 unfold L6;rw[R4 h];simp only[d2,Bool.not_true,d9]
theorem d5F{w:List A6}{i:Nat}{s:d7}{e d:Int}(h:I9 w i 1 s=false):L6 N s (w.drop i) e d=some (.error (S9 w i e)):=by
 unfold L6;rw[O9 h];simp only[d2,Bool.not_false,d8,a2l,j9]
theorem S1{w:List A6}{i:Nat}{s:d7}(h:Q1 w i=some s):∃hi:i<w.length,w[i].1=1/\A5 w[i].2.1=true/\w[i].2.1=s:=by
 unfold Q1 at h;cases hw:w[i]? with
 |none=>rw[hw]at h;cases h
 |some t=>
  obtain⟨hi,rfl⟩:=List.getElem?_eq_some_iff.1 hw;rw[hw]at h;simp only[Option.ite_none_right_eq_some,Bool.and_eq_true,beq_iff_eq,Option.some.injEq]at h;exact⟨hi,h.1.1,h.1.2,h.2⟩
theorem a2O{w:List A6}{i:Nat}{s:d7}(h:a2q w i=some s):∃hi:i<w.length,w[i].1=2/\w[i].2.1=s:=by
 unfold a2q at h;cases hw:w[i]? with
 |none=>rw[hw]at h;cases h
 |some t=>
  obtain⟨hi,rfl⟩:=List.getElem?_eq_some_iff.1 hw;rw[hw]at h;simp only[Option.ite_none_right_eq_some,beq_iff_eq,Option.some.injEq]at h;exact⟨hi,h.1,h.2⟩
theorem b6J{w:List A6}(hw:∀t∈w,a2C t){i:Nat}(h:i<w.length):w[i].2.1.length<=maxLen:=by
 have:=(hw _ (List.getElem_mem h)).2;unfold maxLen;omega
theorem a65(hN:J0<=N){w:List A6}(hw:∀t∈w,a2C t){i:Nat}{s:d7}{e d:Int}(h:Q1 w i=some s):m8 N (w.drop i) e d=some (.ok (s,w.drop (i+1),e,d)):=by
 obtain⟨hi,h1,h2,rfl⟩:=S1 h;unfold m8;rw[a5K hi,d9,b1C hi,d2,h1];simp only[d2,L4 hN _ (b6J hw hi),h2,c2e hi,Bool.not_true,d9,show((1:Int) !=1)=false by decide]
theorem a3K(hN:J0<=N){w:List A6}(hw:∀t∈w,a2C t){i:Nat}{e d:Int}(h:Q1 w i=none):m8 N (w.drop i) e d=some (.error (S9 w i e)):=by
 unfold m8;by_cases hi:i<w.length
 ·rw[a5K hi,d9,b1C hi,d2];unfold Q1 at h;rw[List.getElem?_eq_getElem hi]at h;simp only[d2,L4 hN _ (b6J hw hi),a2l,j9];by_cases h1:w[i].1=1
  ·have h2:A5 w[i].2.1=false:=by simpa [h1]using h
   simp only[h1,h2,Bool.not_false,d8,d9,show((1:Int) !=1)=false by decide]
  ·rw[show(w[i].1 !=1)=true by simpa using h1,d8]
 ·rw[b0C hi,d8,a2l,j9]
theorem b6H{w:List A6}{i:Nat}{s:d7}{e d:Int}(h:a2q w i=some s):q9 N (w.drop i) e d=some (.ok (s,w.drop (i+1),e,d)):=by
 obtain⟨hi,h1,h3⟩:=a2O h;unfold q9;rw[a5K hi,d9,b1C hi,d2,h1];simp only[d2,c2e hi,h3,d9,show((2:Int) !=2)=false by decide]
theorem c0y{w:List A6}{i:Nat}{e d:Int}(h:a2q w i=none):q9 N (w.drop i) e d=some (.error (S9 w i e)):=by
 unfold q9;by_cases hi:i<w.length
 ·rw[a5K hi,d9,b1C hi,d2];unfold a2q at h;rw[List.getElem?_eq_getElem hi]at h;simp only[a2l,j9];have h1:w[i].1≠2:=by simpa using h
  rw[show(w[i].1 !=2)=true by simpa using h1,d8]
 ·rw[b0C hi,d8,a2l,j9]
abbrev Mk:Type:=List (Int×Int)
theorem S5(w:List A6)(i:Nat)(k:Int)(s:d7)(e p:Int):D6 N (w,(i:Int),e,false,p) k s=some (I9 w i k s):=by
 unfold D6;simp only[Bool.not_false,d8];by_cases h:i<w.length
 ·rw[a2c h,d8,p6 _ h,d2,a9n h];cases w[i].1==k<;>simp
 ·rw[decide_eq_false (show ¬(i:Int)<(w.length:Int) by omega),d9,b53 h]
theorem c2x(w:List A6)(a:Int)(k:Int)(s:d7)(e p:Int):D6 N (w,a,e,true,p) k s=some false:=by
 unfold D6;simp only[Bool.not_true,d9]
theorem a0P(w:List A6)(i:Nat)(e p:Int)(b:Bool):P3 N (w,(i:Int),e,b,p)=some (S9 w i e):=by
 unfold P3;simp only;by_cases h:i<w.length
 ·rw[a2c h,d8,p6 _ h,d2,b9A h]
 ·rw[decide_eq_false (show ¬(i:Int)<(w.length:Int) by omega),d9,b08 h]
theorem b1P{w:List A6}(hl:w.length<=50000){i:Nat}(h:i<w.length):IntKind.i64.wrap ((i:Int)+1)=((i+1:Nat):Int):=a00 (by omega) (by omega)
theorem C8{w:List A6}(hl:w.length<=50000){i:Nat}{k:Int}{s:d7}{e p:Int}{M:Mk}(h:I9 w i k s=true):k9 N k s (i:Int) e false p w M=some (true,((i+1:Nat):Int),e,false,p,w,M):=by
 unfold k9;rw[S5,h];simp only[d2,d8,b1P hl (G3 h)]
theorem o5{w:List A6}{i:Nat}{k:Int}{s:d7}{e p:Int}{M:Mk}(h:I9 w i k s=false):k9 N k s (i:Int) e false p w M=some (false,(i:Int),e,false,p,w,M):=by
 unfold k9;rw[S5,h];simp only[d2,d9]
theorem N6{w:List A6}{a:Int}{k:Int}{s:d7}{e p:Int}{M:Mk}:k9 N k s a e true p w M=some (false,a,e,true,p,w,M):=by
 unfold k9;rw[c2x];simp only[d2,d9]
theorem a7N{w:List A6}{i:Nat}{e p:Int}{M:Mk}:w9 N (i:Int) e false p w M=some ((i:Int),e,true,S9 w i e,w,M):=by
 unfold w9;simp only[Bool.not_false,d8,a0P,d2]
theorem b0L{w:List A6}{a:Int}{e p:Int}{M:Mk}:w9 N a e true p w M=some (a,e,true,p,w,M):=by
 unfold w9;simp only[Bool.not_true,d9]
theorem b6n{w:List A6}(hl:w.length<=50000){i:Nat}{k:Int}{s:d7}{e p:Int}{M:Mk}(h:I9 w i k s=true):I5 N k s (i:Int) e false p w M=some (((i+1:Nat):Int),e,false,p,w,M):=by
 unfold I5;rw[C8 hl h];simp only[d2,Bool.not_true,d9]
theorem c2z{w:List A6}{i:Nat}{k:Int}{s:d7}{e p:Int}{M:Mk}(h:I9 w i k s=false):I5 N k s (i:Int) e false p w M=some ((i:Int),e,true,S9 w i e,w,M):=by
 unfold I5;rw[o5 h];simp only[d2,Bool.not_false,d8,a7N]
theorem c2y{w:List A6}{a:Int}{k:Int}{s:d7}{e p:Int}{M:Mk}:I5 N k s a e true p w M=some (a,e,true,p,w,M):=by
 unfold I5;rw[N6];simp only[d2,Bool.not_false,d8,b0L]
theorem t6{w:List A6}(hl:w.length<=50000){i:Nat}{s:d7}{e p:Int}{M:Mk}(h:I9 w i 4 s=true):k6 N s (i:Int) e false p w M=some (((i+1:Nat):Int),e,false,p,w,M):=by
 unfold k6;rw[b6n hl h,d2]
theorem Q6{w:List A6}{i:Nat}{s:d7}{e p:Int}{M:Mk}(h:I9 w i 4 s=false):k6 N s (i:Int) e false p w M=some ((i:Int),e,true,S9 w i e,w,M):=by
 unfold k6;rw[c2z h,d2]
theorem E6{w:List A6}{a:Int}{s:d7}{e p:Int}{M:Mk}:k6 N s a e true p w M=some (a,e,true,p,w,M):=by
 unfold k6;rw[c2y,d2]
theorem d4c{w:List A6}(hl:w.length<=50000){i:Nat}(h:i<w.length):m6 w (IntKind.i64.wrap (((i+1:Nat):Int)-1))=some w[i]:=by
 rw[c4Q (by omega),show((i+1:Nat):Int)-1=(i:Int) by omega,p6 _ h]
theorem a0o(hN:J0<=N){w:List A6}(hl:w.length<=50000)(hw:∀t∈w,a2C t){i:Nat}{s:d7}{e p:Int}{M:Mk}(h:Q1 w i=some s):x4 N (i:Int) e false p w M=some (s,((i+1:Nat):Int),e,false,p,w,M):=by
 obtain⟨hi,h1,h2,rfl⟩:=S1 h;unfold x4;rw[decide_eq_false (show ¬(i:Int)>=(w.length:Int) by omega)];simp only[d9,p6 _ hi,d2,h1,b0Z hN _ (b6J hw hi),h2,Bool.not_true,b1P hl hi,d4c hl hi,show((1:Int) !=1)=false by decide]
theorem a2M(hN:J0<=N){w:List A6}(hw:∀t∈w,a2C t){i:Nat}{e p:Int}{M:Mk}(h:Q1 w i=none):x4 N (i:Int) e false p w M=some (([]:d7),(i:Int),e,true,S9 w i e,w,M):=by
 unfold x4;simp only[d9,a7N,d2];by_cases hi:i<w.length
 ·rw[decide_eq_false (show ¬(i:Int)>=(w.length:Int) by omega)];unfold Q1 at h;rw[List.getElem?_eq_getElem hi]at h;simp only[d9,p6 _ hi,d2,b0Z hN _ (b6J hw hi)];by_cases h1:w[i].1=1
  ·have h2:A5 w[i].2.1=false:=by simpa [h1]using h
   simp only[h1,h2,Bool.not_false,d8,d9,show((1:Int) !=1)=false by decide]
  ·rw[show(w[i].1 !=1)=true by simpa using h1,d8]
 ·rw[decide_eq_true (show(i:Int)>=(w.length:Int) by omega),d8]
theorem a7Q{w:List A6}(hl:w.length<=50000){i:Nat}{s:d7}{e p:Int}{M:Mk}(h:a2q w i=some s):P4 N (i:Int) e false p w M=some (s,((i+1:Nat):Int),e,false,p,w,M):=by
 obtain⟨hi,h1,h3⟩:=a2O h;unfold P4;rw[decide_eq_false (show ¬(i:Int)>=(w.length:Int) by omega)];simp only[d9,p6 _ hi,d2,h1,b1P hl hi,d4c hl hi,h3,show((2:Int) !=2)=false by decide]
theorem b6t{w:List A6}{i:Nat}{e p:Int}{M:Mk}(h:a2q w i=none):P4 N (i:Int) e false p w M=some (([]:d7),(i:Int),e,true,S9 w i e,w,M):=by
 unfold P4;simp only[d9,a7N,d2];by_cases hi:i<w.length
 ·rw[decide_eq_false (show ¬(i:Int)>=(w.length:Int) by omega)];unfold a2q at h;rw[List.getElem?_eq_getElem hi]at h;simp only[d9,p6 _ hi,d2];have h1:w[i].1≠2:=by simpa using h
  rw[show(w[i].1 !=2)=true by simpa using h1,d8]
 ·rw[decide_eq_true (show(i:Int)>=(w.length:Int) by omega),d8]
theorem b0a{n s:Nat}(hs:s<=100)(h:n<=1000000):decide (n*(24*s)<=140737488355328)=true:=by
 have h1:n*(24*s)<=1000000*(24*100):=Nat.mul_le_mul h (Nat.mul_le_mul_left 24 hs);exact decide_eq_true (by omega)
theorem a1u{w:List A6}{i:Nat}{x e p:Int}{b:Bool}{M:Mk}(hM:M.length<=200000):U4 N x (i:Int) e b p w M=some ((i:Int),e,b,p,w,M ++ [(S9 w i e,x)]):=by
 unfold U4;simp only[a0P,d2,v8,o3,b0a (s:=Ty.sz (.pr (.int .i64) (.int .i64))) (by decide) (show M.length + [(S9 w i e,x)].length<=1000000 by simp;omega),d8]
def dp1(d:Int)(m:Int×Int):Int:=if m.2>=30 then(if d<0 then m.1 else d)else d
def dp(d:Int)(M:Mk):Int:=M.foldl dp1 d
theorem a16(d:Int)(M K:Mk):dp d (M++K)=dp (dp d M) K:=by unfold dp;rw[List.foldl_append]
theorem a5L(a x:Int)(l:List A6)(e d:Int):Q4 N a x l e d=some (l,e,dp1 d (a,x)):=by
 unfold Q4 dp1;by_cases h:x>=30
 ·rw[decide_eq_true h,d8];by_cases h2:d<0
  ·rw[decide_eq_true h2,d8,if_pos h,if_pos h2]
  ·rw[decide_eq_false h2,d9,if_pos h,if_neg h2]
 ·rw[decide_eq_false h,d9,if_neg h]
end
section
abbrev Key:Type:=Int×d7×Int
inductive LK:d7->List Key->Prop
 |nil {u:d7}:P1 false u=[]->LK u []
 |cons {u v r t:d7} {k n:Int} {l:List Key}:P1 false u=v->a0W v=some (k,t,n,r)->LK r l->LK u ((k,t,n) :: l)
theorem a5c:∀(u:d7) (b:Bool),(P1 b u).length<=u.length
 |[],b=>by cases b<;>simp[P1]
 |c :: r,true=>by rw[P1];have:=a5c r (c !=10);simp;omega
 |c :: r,false=>by
  have h1:=a5c r false;have h2:=a5c r true;rw[P1]
  repeat' split
  all_goals simp only[List.length_cons]at *;omega
theorem d2p{u t r:d7}{k n:Int}(h:a0W u=some (k,t,n,r)):r.length<=u.length:=by
 obtain⟨b,e,_,_⟩:=b2t h;rw[e,List.length_append];omega
theorem LK.lx{u:d7}{ks:List Key}(h:LK u ks):∀L,u.length<=L->∃l,LX L u l/\l.map d48=ks:=by
 induction h with
 |nil h=>exact fun L _=>⟨[],.nil h,rfl⟩
 |@cons u v r t k n l h1 h2 _ ih=>
  intro L hL;have h3:v.length<=L:=by rw[<-h1];exact Nat.le_trans (a5c u false) hL
  obtain⟨l',g1,g2⟩:=ih L (Nat.le_trans (d2p h2) h3);exact⟨_,.cons h1 h2 h3 g1,by rw[List.map_cons,g2];rfl⟩
theorem LK.congr{u u':d7}{l:List Key}(e:P1 false u'=P1 false u)(h:LK u l):LK u' l:=by
 cases h with
 |nil h=>exact .nil (e.trans h)
 |cons h1 h2 h3=>exact .cons (e.trans h1) h2 h3
def bdB(c:UInt8):Bool:=!N4 c&&c !=61
def PcE(r:d7):Prop:=∀c y,r=c :: y->bdB c=true
def BdH:d7->Bool | []=>false|c :: _=>bdB c
theorem PcE.of{b:d7}(h:BdH b=true)(r:d7):PcE (b++r):=by
 cases b with
 |nil=>cases h
 |cons c b=>intro c' y e;cases e;exact h
def PcA(b:d7)(ks:List Key):Prop:=∀r l,PcE r->LK r l->LK (b++r) (ks++l)
def PcB(b:d7)(ks:List Key):Prop:=∀r l,LK r l->LK (b++r) (ks++l)
section
variable{a b:d7}{ks js:List Key}
theorem PcB.lx(h:PcB a ks):PcA a ks:=fun r l _ hl=>h r l hl
theorem PcB.app(h:PcB a ks)(g:PcB b js):PcB (a++b) (ks++js):=fun r l hl=>by rw[List.append_assoc,List.append_assoc];exact h _ _ (g _ _ hl)
theorem PcB.app'(h:PcB a ks)(g:PcA b js):PcA (a++b) (ks++js):=fun r l hb hl=>by rw[List.append_assoc,List.append_assoc];exact h _ _ (g _ _ hb hl)
theorem PcA.app1(h:PcA a ks)(g:PcB b js)(hb:BdH b=true):PcB (a++b) (ks++js):=fun r l hl=>by rw[List.append_assoc,List.append_assoc];exact h _ _ (PcE.of hb r) (g _ _ hl)
theorem PcA.app(h:PcA a ks)(g:PcA b js)(hb:BdH b=true):PcA (a++b) (ks++js):=fun r l hr hl=>by rw[List.append_assoc,List.append_assoc];exact h _ _ (PcE.of hb r) (g _ _ hr hl)
theorem PcB.nil:PcB [] []:=fun _ _ h=>h
end
theorem b7H{c:UInt8}(h:c=32\/c=10):PcB [c] []:=fun r l hl=>by
 refine LK.congr ?_ hl;rcases h with rfl|rfl<;>simp[P1]
theorem a0E:PcB [32] []:=b7H (.inl rfl)
theorem d7i:PcB [10] []:=b7H (.inr rfl)
theorem c6n:∀n,PcB (List.replicate n 32) []
 |0=>PcB.nil
 |n+1=>PcB.app (a:=[32]) (ks:=[]) a0E (c6n n)
theorem a2N{c:UInt8}{r:d7}(h:(c !=32&&c !=9&&c !=10&&c !=13&&c !=35)=true):P1 false (c :: r)=c :: r:=by
 simp only[Bool.and_eq_true,bne_iff_ne]at h;rw[P1,if_neg h.1.1.1.1,if_neg h.1.1.1.2,if_neg h.1.1.2,if_neg h.1.2,if_neg h.2]
def a1v(c:UInt8):Bool:=!(decide (c>=97)&&decide (c<=122)) && !T1 c&&c !=34&&b8i c&&c !=61&&(c !=32&&c !=9&&c !=10&&c !=13&&c !=35)
theorem I7{c:UInt8}(h:a1v c=true):PcB [c] [(4,[c],0)]:=fun r l hl=>by
 unfold a1v at h;obtain⟨h,h6⟩:=Bool.and_eq_true_iff.1 h;obtain⟨h,h5⟩:=Bool.and_eq_true_iff.1 h;obtain⟨h,h4⟩:=Bool.and_eq_true_iff.1 h;obtain⟨h,h3⟩:=Bool.and_eq_true_iff.1 h;obtain⟨h1,h2⟩:=Bool.and_eq_true_iff.1 h;refine .cons (a2N h6) ?_ hl;rw[Bool.not_eq_true']at h1 h2;rw[bne_iff_ne]at h3 h5;show a0W (c :: r)=_;rw[a0W,if_neg (by rw[h1];decide),if_neg (by rw[h2];decide),if_neg h3,if_pos h4,if_neg (fun e=>h5 e.1)]
theorem d1Y:PcB [61,61] [(4,[61,61],0)]:=fun r l hl=>by
 refine .cons (a2N (by decide)) ?_ hl;show a0W (61 :: 61 :: r)=_;rw[a0W,if_neg (by decide),if_neg (by decide),if_neg (by decide),if_pos (by decide),if_pos ⟨rfl,rfl⟩];rfl
theorem d39:PcA [61] [(4,[61],0)]:=fun r l hb hl=>by
 refine .cons (a2N (by decide)) ?_ hl;show a0W (61 :: r)=_;rw[a0W,if_neg (by decide),if_neg (by decide),if_neg (by decide),if_pos (by decide),if_neg (fun e=>?_)];obtain⟨_,e⟩:=e;cases r with
 |nil=>cases e
 |cons c r=>
  have h1:c=61:=by simpa using e
  have h2:=hb c r rfl;rw[h1]at h2;exact absurd h2 (by decide)
theorem b6L(p:UInt8->Bool):∀(b r:d7),(∀c∈b,p c=true)->(∀c y,r=c :: y->p c=false)->(b++r).takeWhile p=b/\(b++r).dropWhile p=r
 |[],[],_,_=>⟨rfl,rfl⟩
 |[],c :: r,_,h=>by simp[List.takeWhile_cons,List.dropWhile_cons,h c r rfl]
 |a :: b,r,h1,h2=>by
  have:=b6L p b r (fun c hc=>h1 c (by simp[hc])) h2;have ha:=h1 a (by simp);rw[List.cons_append,List.takeWhile_cons,List.dropWhile_cons,if_pos ha,if_pos ha,this.1,this.2];exact⟨rfl,rfl⟩
theorem c6Z{c:UInt8}(h:(decide (c>=97)&&decide (c<=122))=true):(c !=32&&c !=9&&c !=10&&c !=13&&c !=35)=true:=by
 simp only[Bool.and_eq_true,decide_eq_true_eq,bne_iff_ne]at h ⊢;refine⟨⟨⟨⟨?_,?_⟩,?_⟩,?_⟩,?_⟩<;>(rintro rfl;exact absurd h.1 (by decide))
def c2W(q:d7):Bool:=(match q with | []=>false|c :: _=>decide (c>=97)&&decide (c<=122))&&q.all N4&&decide (q.length<=40)
theorem a1Q{q:d7}(h:c2W q=true):PcA q [(1,q,0)]:=fun r l hb hl=>by
 cases q with
 |nil=>cases h
 |cons c q=>
  unfold c2W at h;obtain⟨h,h3⟩:=Bool.and_eq_true_iff.1 h;obtain⟨h1,h2⟩:=Bool.and_eq_true_iff.1 h;have h1:(decide (c>=97)&&decide (c<=122))=true:=h1;have ht:=b6L N4 (c :: q) r (fun x hx=>List.all_eq_true.1 h2 x hx) (fun x y e=>by
   have:=hb x y e;unfold bdB at this;simp only[Bool.and_eq_true,Bool.not_eq_true']at this;exact this.1)
  have h3:=of_decide_eq_true h3;refine .cons (a2N (c6Z h1)) ?_ hl;have e:c :: q++r=c :: (q++r):=rfl;rw[<-e]at *;show a0W (c :: (q++r))=_;rw[a0W,if_pos h1];have e1:(c :: (q++r)).takeWhile N4=c :: q:=ht.1;have e2:(c :: (q++r)).dropWhile N4=r:=ht.2;rw[e1,e2,if_neg (by omega)]
theorem d43{c:UInt8}(h:T1 c=true):(c !=32&&c !=9&&c !=10&&c !=13&&c !=35)=true/\¬(decide (c>=97)&&decide (c<=122))=true:=by
 unfold T1 at h;simp only[Bool.and_eq_true,decide_eq_true_eq,bne_iff_ne]at h ⊢;refine⟨⟨⟨⟨⟨?_,?_⟩,?_⟩,?_⟩,?_⟩,fun hc=>?_⟩
 ·rintro rfl;exact absurd h.1 (by decide)
 ·rintro rfl;exact absurd h.1 (by decide)
 ·rintro rfl;exact absurd h.1 (by decide)
 ·rintro rfl;exact absurd h.1 (by decide)
 ·rintro rfl;exact absurd h.1 (by decide)
 ·have h1:=UInt8.le_iff_toNat_le.1 h.2;have h2:=UInt8.le_iff_toNat_le.1 hc.1;simp at h1 h2;omega
theorem d1L:∀(n:Nat),(∀c∈Lib.decDigits n,T1 c=true)/\Lib.decDigits n ≠ []/\(∀acc,c0c acc (Lib.decDigits n)=acc*10 ^ (Lib.decDigits n).length+n)/\((Lib.decDigits n).head? = some 48->n=0):=by
 intro n;induction n using Nat.strongRecOn with
 |_ n ih=>
  have dg:∀d:Nat,d<10->T1 (UInt8.ofNat (48+d))=true/\(UInt8.ofNat (48+d)).toNat=48+d:=by
   intro d hd;have:d=0\/d=1\/d=2\/d=3\/d=4\/d=5\/d=6\/d=7\/d=8\/d=9:=by omega
   rcases this with rfl|rfl|rfl|rfl|rfl|rfl|rfl|rfl|rfl|rfl<;>decide
  by_cases h:n<10
  ·rw[Lib.decDigits_one h];obtain⟨h1,h2⟩:=dg n h;refine⟨fun c hc=>by rw[List.mem_singleton.1 hc];exact h1,by simp,fun acc=>?_,fun e=>?_⟩
   ·simp only[c0c,List.foldl_cons,List.foldl_nil,h2,List.length_cons,List.length_nil];omega
   ·have:UInt8.ofNat (48+n)=48:=by simpa using e
    rw[this]at h2;have h3:(48:UInt8).toNat=48:=by decide
    omega
  ·rw[Lib.decDigits,dif_neg h];obtain⟨i1,i2,i3,i4⟩:=ih (n / 10) (by omega);obtain⟨h1,h2⟩:=dg (n % 10) (by omega);refine⟨fun c hc=>?_,by simp,fun acc=>?_,fun e=>?_⟩
   ·rcases List.mem_append.1 hc with hc|hc
    ·exact i1 c hc
    ·rw[List.mem_singleton.1 hc];exact h1
   ·have:=i3 acc;unfold c0c at this ⊢;rw[List.foldl_append,this];simp only[List.foldl_cons,List.foldl_nil,h2,List.length_append,List.length_cons,List.length_nil,Nat.zero_add,Nat.pow_add,Nat.pow_one];rw[show 48+n % 10-48=n % 10 by omega,Nat.add_mul,Nat.mul_assoc];omega
   ·have:=i4 (by
     cases hd:Lib.decDigits (n / 10)with
     |nil=>exact absurd hd i2
     |cons c t=>rw[hd]at e;simpa using e)
    omega
theorem b5W:∀(k n:Nat),n<10 ^ (k+1)->(Lib.decDigits n).length<=k+1
 |0,n,h=>by rw[Lib.decDigits_one (by omega)];simp
 |k+1,n,h=>by
  by_cases h10:n<10
  ·rw[Lib.decDigits_one h10];simp
  ·rw[Lib.decDigits,dif_neg h10,List.length_append];have:=b5W k (n / 10) (by rw[Nat.pow_succ]at h;omega);simp;omega
theorem d5b{n:Nat}(h:n<=999999999):PcA (Lib.decDigits n) [(3,[],(n:Int))]:=fun r l hb hl=>by
 obtain⟨h1,h2,h3,h4⟩:=d1L n;have h5:=b5W 8 n (by omega);generalize hq:Lib.decDigits n=q at *;cases q with
 |nil=>exact absurd rfl h2
 |cons c q=>
  have hc:=h1 c (by simp);obtain⟨g1,g2⟩:=d43 hc;have ht:=b6L T1 (c :: q) r h1 (fun x y e=>by
   have:=hb x y e;unfold bdB N4 at this;simp only[Bool.and_eq_true,Bool.not_eq_true',Bool.or_eq_false_iff]at this;exact this.1.2.1)
  refine .cons (a2N g1) ?_ hl;show a0W (c :: (q++r))=_;have e1:(c :: (q++r)).takeWhile T1=c :: q:=ht.1;have e2:(c :: (q++r)).dropWhile T1=r:=ht.2;rw[a0W,if_neg g2,if_pos hc,e1,e2,if_neg (by omega),if_neg,h3 0]
  ·simp
  ·rintro⟨rfl,hl2⟩;have hn:=h4 rfl;subst hn;rw[Lib.decDigits_one (by omega)]at hq;cases hq;simp at hl2
theorem b5h:∀(t r acc:d7),t.all V5=true->D8 (rpE t++34 :: r) acc=some (acc++t,r)
 |[],r,acc,_=>by simp[rpE,b6G]
 |c :: t,r,acc,h=>by
  rw[List.all_cons,Bool.and_eq_true_iff]at h;obtain⟨h1,h2⟩:=h;have e:rpE (c :: t)++34 :: r=rpF c++(rpE t++34 :: r):=by unfold rpE;rw[List.flatMap_cons,List.append_assoc]
  have ih:=fun acc=>b5h t r acc h2
  rw[e];unfold rpF;by_cases g1:c=92
  ·subst g1;simp only[if_pos];show D8 (92 :: 92 :: (rpE t++34 :: r)) acc=_;rw[a3U,if_neg (by decide),if_pos rfl,ih];simp
  by_cases g2:c=34
  ·subst g2;show D8 (92 :: 34 :: (rpE t++34 :: r)) acc=_;rw[a3U,if_pos rfl,ih];simp
  by_cases g3:c=10
  ·subst g3;show D8 (92 :: 110 :: (rpE t++34 :: r)) acc=_;rw[a3U,if_neg (by decide),if_neg (by decide),if_pos rfl,ih];simp
  simp only[if_neg g1,if_neg g2,if_neg g3];have hb:¬c<32/\¬c>126:=by
   unfold V5 at h1;simp only[Bool.or_eq_true,beq_iff_eq,Bool.and_eq_true,Bool.not_eq_true',decide_eq_false_iff_not]at h1;rcases h1 with h1|h1
   ·exact absurd h1 g3
   ·exact h1
  show D8 (c :: (rpE t++34 :: r)) acc=_;rw[b6F g2 hb.1 hb.2 g1,ih];simp
theorem b57{t:d7}(h:t.all V5=true):PcB (rpQ t) [(2,t,0)]:=fun r l hl=>by
 refine .cons (a2N (c:=34) (by decide)) ?_ hl;show a0W (34 :: (rpE t ++ [34]++r))=_;rw[a0W,if_neg (by decide),if_neg (by decide),if_pos rfl,List.append_assoc];show(D8 (rpE t++34 :: r) []).map _=_;rw[b5h t r [] h];rfl
end
end Go.Proofs.YtolpmfhiegpohaaGreatDoor
