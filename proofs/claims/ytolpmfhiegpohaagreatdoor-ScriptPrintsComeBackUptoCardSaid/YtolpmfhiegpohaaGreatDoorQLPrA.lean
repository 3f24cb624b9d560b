/- % -/
import Derived.Test.YtolpmfhiegpohaaGreatDoorQBmJ
import Derived.ProofKit
import Derived.OpenShut
import Derived.ShutString
import Derived.DataReads
import Derived.ChangeShapes
import Derived.WideShapes
import Derived.Test.YtolpmfhiegpohaaGreatDoorRows
import Derived.Test.YtolpmfhiegpohaaGreatDoorQFor2
import Derived.Test.YtolpmfhiegpohaaGreatDoorQPaY
import Derived.Test.YtolpmfhiegpohaaGreatDoorQBmBd
import Derived.Lib.ItoaNum
namespace Go.Proofs.YtolpmfhiegpohaaGreatDoor
set_option linter.unusedVariables false
set_option linter.unusedSimpArgs false
open Go Go.RowKit
section
open Go Go.RowKit Go.ChangeShapes Go.WideShapes
def FitG(RR:(i:RC)->i.den->Prop):(t:Ty)->t.den->Prop | .u8,_=>True | .int k,x=>(Lit.int k x).wf=true | .bool,_=>True | .str,x=>x.length<=maxLen | .sl t,xs=>xs.length<=maxLen/\∀x∈xs,FitG RR t x | .pr a b,x=>FitG RR a x.1/\FitG RR b x.2 | .un,_=>True | .mp _,_=>True | .ptr _,_=>True | .np _,_=>True | .nl,_=>True | .clo _ _,_=>True | .rc i,x=>RR i x
def FitR(i:RC)(x:i.den):Prop:=∀RR:(i:RC)->i.den->Prop,(∀j y,FitG RR j.body (j.un y)->RR j y)->RR i x
def Fit:(t:Ty)->t.den->Prop:=FitG FitR
theorem FitG.mono{RR RR':(i:RC)->i.den->Prop}(hR:∀i x,RR i x->RR' i x):∀(t:Ty) (x:t.den),FitG RR t x->FitG RR' t x
 |.u8,_,h=>h
 |.int _,_,h=>h
 |.bool,_,h=>h
 |.str,_,h=>h
 |.sl t,_,h=>⟨h.1,fun x hx=>FitG.mono hR t x (h.2 x hx)⟩
 |.pr a b,_,h=>⟨FitG.mono hR a _ h.1,FitG.mono hR b _ h.2⟩
 |.un,_,h=>h
 |.mp _,_,h=>h
 |.ptr _,_,h=>h
 |.np _,_,h=>h
 |.nl,_,h=>h
 |.clo _ _,_,h=>h
 |.rc i,x,h=>hR i x h
theorem FitR.intro{i:RC}{x:i.den}(h:Fit i.body (i.un x)):FitR i x:=
 fun RR hc=>hc i x (FitG.mono (fun j y hy=>hy RR hc) _ _ h)
mutual
inductive Deep(P:Program)(R:RC->Option TypeId):Ty->TypeId->Prop where
 |u8 {T:TypeId}:P.underlying T=some (.int .u8)->Deep P R .u8 T
 |int {T:TypeId} {k:IntKind}:P.underlying T=some (.int k)->Deep P R (.int k) T
 |bool {T:TypeId}:P.underlying T=some .bool->Deep P R .bool T
 |str {T:TypeId}:P.underlying T=some .string->Deep P R .str T
 |sl {T e:TypeId} {t:Ty}:P.underlying T=some (.slice e)->P.cellsOf e=t.sz->Deep P R t e->Deep P R (.sl t) T
 |st {T:TypeId} {t:Ty} {fs:Array Field}:P.underlying T=some (.struct fs)->P.cellsOf T=t.sz->t.isAgg=true->DeepF P R t fs.toList 0->Deep P R t T
 |rc {T:TypeId} {i:RC}:R i=some T->Deep P R (.rc i) T
inductive DeepF(P:Program)(R:RC->Option TypeId):Ty->List Field->Nat->Prop where
 |nil {o:Nat}:DeepF P R .un [] o
 |one {t:Ty} {f:Field} {o:Nat}:f.offset=o->P.cellsOf f.type=t.sz->Deep P R t f.type->DeepF P R t [f] o
 |single {t:Ty} {f:Field} {o:Nat}:f.offset=o->P.cellsOf f.type=t.sz->Deep P R t f.type->DeepF P R (.pr t .un) [f] o
 |cons {a b:Ty} {f:Field} {fs:List Field} {o:Nat}:f.offset=o->P.cellsOf f.type=a.sz->Deep P R a f.type->DeepF P R b fs (o+a.sz)->DeepF P R (.pr a b) (f :: fs) o
end
def d7H(P:Program)(R:RC->Option TypeId):Prop:=∀i T,R i=some T->∃fs,P.underlying T=some (.struct fs)/\P.cellsOf T=i.sz/\DeepF P R i.body fs.toList 0
abbrev M00:Nat->Nat->Prop:=fun _ _=>False
section
variable{H:Type}{enc:TypeId×Value->H}{P:Program}{w:World}{spare:Nat->Bool}{held:Bool}{R:RC->Option TypeId}
theorem b2K{α:Type}{p:Nat->α->Prop}:∀n,(∀i,i<n->∃x,p i x)->∃l:List α,l.length=n/\∀i (h:i<l.length),p i l[i]
 |0,_=>⟨[],rfl,fun i h=>absurd h (Nat.not_lt_zero _)⟩
 |n+1,h=>by
  obtain⟨l,hl,hp⟩:=b2K n fun i hi=>h i (Nat.lt_succ_of_lt hi)
  obtain⟨x,hx⟩:=h n (Nat.lt_succ_self _);refine⟨l ++ [x],by simp[hl],fun i hi=>?_⟩;rcases Nat.lt_or_ge i l.length with h'|h'
  ·rw[List.getElem_append_left h'];exact hp i h'
  ·have:i=l.length:=by simp at hi;omega
   subst this;simp[hl,hx]
theorem c0X{a:Addr}{n:Nat}{cs:List Value}(h:w.cells? 0 a n=some cs):Pl M00 w a cs:=by
 intro j u hu;refine⟨?_,id⟩;unfold World.cells? at h;rw[if_pos (Nat.zero_le _)]at h;have hl:=mapM_some_length h;have hj:j<n:=by
  rcases Nat.lt_or_ge j cs.length with h'|h'
  ·rw[hl,List.length_range]at h';exact h'
  ·rw[List.getElem?_eq_none h']at hu;cases hu
 have:=mapM_some_get h j j (by rw[List.getElem?_range hj]);rw[this];exact hu
end
theorem d4Y{P:Program}{f:FuncId}{ps:List Sl}{F:SV ps->BV []->Option Bool}{out:Bool->SV [.v .bool]×BV []}(hout:∀z,(out z).1=(z,()))(hs:Sound P GW B0G f ⟨ps,[],[.v .bool],[],Bool,out,F⟩)
  {W:World} {vs:List Value} {x:SV ps} (hg:GW W) (ha:All2 (RepD0 M00 W g0) (a0M id ps x) vs) (hf:F x ()=some true):Calls P f vs.toArray W fun e W'=>e = .returned (.bool true)/\Ext W W':=by
 refine(hs.2 M00 W g0 vs x () true hg (c43 hg) {args:=ha,res:=fun r blk h=>(by cases h),dom:=fun r gx h=>(by cases h),inj:=fun _ _ _ _ _ h=>(by cases h),low:=fun _ _ _ h=>(by cases h),chg:=fun _ _ _ _ h=>(by cases h),mlt:=fun b o h=>h.elim,row:=fun _ _ _ h=>(by cases h)} hf).mono fun e W' hp=>?_
 obtain⟨vs',g',he,hE,_,hF,_⟩:=hp;refine⟨?_,hE.ext fun b hb=>?_⟩
 ·have:=hF.args;rw[hout]at this
  match vs',this with
  |[v],⟨h1,_⟩=>
   have h2:=RepV.plain (t:= .bool) rfl h1;have h3:[v]=[.bool true]:=h2;injection h3 with h3
   rw[he,h3];rfl
 ·obtain⟨r,x,h,_⟩:=hb;cases h
end
section
open Go Go.RowKit Go.ChangeShapes Go.WideShapes
def a0z(rb:(i:RC)->i.den->Nat):(t:Ty)->t.den->Nat | .u8,_=>1 | .int _,_=>1 | .bool,_=>1 | .str,x=>x.length+1 | .sl t,xs=>(xs.map (a0z rb t)).sum+1 | .pr a b,x=>a0z rb a x.1+a0z rb b x.2 | .un,_=>0 | .mp _,_=>0 | .ptr _,_=>0 | .np _,_=>0 | .nl,_=>0 | .clo _ _,_=>0 | .rc i,x=>rb i x
def d7G(rb:(i:RC)->i.den->Nat):Prop:=∀i x,rb i (i.mk x)<=a0z rb i.body x+1
def GValue.bulk:GValue->Nat | .mk _ t _ l cs=>1+(t.length+1+(1+((l.map (·.length+1)).sum+1+((cs.attach.map (fun c=>c.1.1.length+1+GValue.bulk c.1.2)).sum+1))))+1
termination_by v=>SizeOf.sizeOf v
decreasing_by
 have:=List.sizeOf_lt_of_mem c.2;have h2:SizeOf.sizeOf c.1=1+SizeOf.sizeOf c.1.1+SizeOf.sizeOf c.1.2:=by cases c.1;rfl
 simp_wf
 omega
def GExpr.bulk:GExpr->Nat | .mk _ t _ l cs=>1+(t.length+1+(1+((l.map (·.length+1)).sum+1+((cs.attach.map (fun c=>GExpr.bulk c.1)).sum+1))))+1
termination_by v=>SizeOf.sizeOf v
decreasing_by
 have:=List.sizeOf_lt_of_mem c.2
 simp_wf
 omega
def GStmt.bulk:GStmt->Nat | .mk _ n t l a e b f _=>1+(n.length+1+(t.length+1+((l.map (·.length+1)).sum+1+((a.map (fun c=>c.1.length+1+c.2.bulk)).sum+1+(e.bulk+((b.attach.map (fun c=>GStmt.bulk c.1)).sum+1+((f.attach.map (fun c=>GStmt.bulk c.1)).sum+1+1)))))))+1
termination_by v=>SizeOf.sizeOf v
decreasing_by
 all_goals
  have:=List.sizeOf_lt_of_mem c.2
  simp_wf
  omega
def rbC:(i:RC)->i.den->Nat | .value,x=>GValue.bulk x | .expr,x=>GExpr.bulk x | .stmt,x=>GStmt.bulk x | .part,_=>0
theorem a1Q{α β:Type}(f:α->β)(l:List α):l.attach.map (fun c=>f c.1)=l.map f:=by
 rw[show(fun c:{x // x∈l}=>f c.1)=f∘Subtype.val from rfl,<-List.map_map,List.attach_map_subtype_val]
theorem d8d:d7G rbC:=by
 intro i x;cases i with
 |value=>
  obtain⟨k,t,n,l,cs⟩:=x;have e:GValue.bulk (.mk k t n l cs)=a0z rbC RC.value.body ((k,t,n,l,cs):RC.value.body.den)+1:=by
   rw[GValue.bulk,a1Q (fun c:d9×GValue=>c.1.length+1+GValue.bulk c.2) cs];rfl
  exact Nat.le_of_eq e
 |expr=>
  obtain⟨k,t,n,l,cs⟩:=x;have e:GExpr.bulk (.mk k t n l cs)=a0z rbC RC.expr.body ((k,t,n,l,cs):RC.expr.body.den)+1:=by
   rw[GExpr.bulk,a1Q (fun c:GExpr=>GExpr.bulk c) cs];rfl
  exact Nat.le_of_eq e
 |stmt=>
  obtain⟨k,n,t,l,a,e,b,f,p⟩:=x;have e:GStmt.bulk (.mk k n t l a e b f p)=a0z rbC RC.stmt.body ((k,n,t,l,a,e,b,f,p):RC.stmt.body.den)+1:=by
   rw[GStmt.bulk,a1Q (fun c:GStmt=>GStmt.bulk c) b,a1Q (fun c:GStmt=>GStmt.bulk c) f];rfl
  exact Nat.le_of_eq e
 |part=>exact Nat.zero_le _
section
variable{H:Type}{enc:TypeId×Value->H}{P:Program}{w:World}{spare:Nat->Bool}{held:Bool}{R:RC->Option TypeId}{rb:(i:RC)->i.den->Nat}
theorem a6w(d:DataW H)(r:List (DataW H)):Rows.uptoBulkAll (d :: r)=Rows.uptoBulk d+Rows.uptoBulkAll r:=by simp[Rows.uptoBulkAll]
theorem c1E:Rows.uptoBulkAll ([]:List (DataW H))=0:=by simp[Rows.uptoBulkAll]
theorem f6W{α:Type}(f:α->Nat):∀(l:List α) (e:List (DataW H×List MemPlace)),l.length=e.length->(∀i (h:i<l.length) (h':i<e.length),f l[i]<=Rows.uptoBulk e[i].1)->(l.map f).sum<=Rows.uptoBulkAll (e.map (·.1))
 |[],e,_,_=>by simp
 |x :: l,[],h,_=>by simp at h
 |x :: l,y :: e,h,hf=>by
  have h0:=hf 0 (by simp) (by simp);have ih:=f6W f l e (by simpa using h) (fun i h1 h2=>by have:=hf (i+1) (by simpa using h1) (by simpa using h2);simpa using this);simp only[List.map_cons,List.sum_cons,a6w];simp only[List.getElem_cons_zero]at h0;omega
theorem c0r{fuel:Nat}{cs:List Value}
  (ih:∀(t:Ty) (T:TypeId) (cs:List Value) (x:DataW H×List MemPlace),Deep P R t T->DataW.trod enc P w 0 spare held fuel T cs=some x->∃d:t.den,RepC M00 w t d cs/\Fit t d/\a0z rb t d<=Rows.uptoBulk x.1):
  ∀(fs:List Field) (t:Ty) (o:Nat) (xs:List (DataW H×List MemPlace)),DeepF P R t fs o->
   (fs.mapM fun f=>DataW.trod enc P w 0 spare held fuel f.type ((cs.drop f.offset).take (P.cellsOf f.type)))=some xs->∃d:t.den,RepC M00 w t d ((cs.drop o).take t.sz)/\Fit t d/\a0z rb t d<=Rows.uptoBulkAll (xs.map (·.1)):=by
 intro fs;induction fs with
 |nil=>
  intro t o xs hd _;cases hd;exact⟨(),List.take_zero,trivial,Nat.zero_le _⟩
 |cons f fs hfs=>
  intro t o xs hd hm;obtain⟨y,ys,hy,hys,rfl⟩:∃y ys,DataW.trod enc P w 0 spare held fuel f.type ((cs.drop f.offset).take (P.cellsOf f.type))=some y/\(fs.mapM fun f=>DataW.trod enc P w 0 spare held fuel f.type ((cs.drop f.offset).take (P.cellsOf f.type)))=some ys/\xs=y :: ys:=by
   rw[List.mapM_cons]at hm;cases hy:DataW.trod enc P w 0 spare held fuel f.type ((cs.drop f.offset).take (P.cellsOf f.type))with
   |none=>rw[hy]at hm;cases hm
   |some y=>
    rw[hy]at hm;cases hys:(fs.mapM fun f=>DataW.trod enc P w 0 spare held fuel f.type ((cs.drop f.offset).take (P.cellsOf f.type)))with
    |none=>rw[hys]at hm;cases hm
    |some ys=>rw[hys]at hm;exact⟨y,ys,rfl,rfl,(Option.some.inj hm).symm⟩
  rw[List.map_cons,a6w];cases hd with
  |one ho hc h1=>
   rw[ho,hc]at hy;obtain⟨d,h1,h2,h3⟩:=ih _ _ _ _ h1 hy;exact⟨d,h1,h2,by omega⟩
  |single ho hc h1=>
   rw[ho,hc]at hy;obtain⟨d,hd1,hd2,hd3⟩:=ih _ _ _ _ h1 hy;refine⟨(d,()),⟨_,[],(List.append_nil _).symm,hd1,rfl⟩,⟨hd2,trivial⟩,?_⟩;show a0z rb _ d+0<=_;omega
  |@cons a b _ _ _ ho hc h1 h2=>
   rw[ho,hc]at hy;obtain⟨d,hd1,hd2,hd3⟩:=ih _ _ _ _ h1 hy;obtain⟨e,he1,he2,he3⟩:=hfs _ _ _ h2 hys;refine⟨(d,e),⟨_,_,?_,hd1,he1⟩,⟨hd2,he2⟩,?_⟩
   ·show(cs.drop o).take (a.sz+b.sz)=_;rw[List.take_add,List.drop_drop]
   ·show a0z rb a d+a0z rb b e<=_;omega
theorem c7X(hR:d7H P R)(hrb:d7G rb):∀(fuel:Nat) (t:Ty) (T:TypeId) (cs:List Value) (x:DataW H×List MemPlace),Deep P R t T->DataW.trod enc P w 0 spare held fuel T cs=some x->
  ∃d:t.den,RepC M00 w t d cs/\Fit t d/\a0z rb t d<=Rows.uptoBulk x.1:=by
 intro fuel;induction fuel with
 |zero=>intro t T cs x _ h;cases h
 |succ fuel ih=>
  intro t T cs x hd h;have hstruct:∀(t:Ty) (fs:Array Field),P.underlying T=some (.struct fs)->P.cellsOf T=t.sz->DeepF P R t fs.toList 0->∃d:t.den,RepC M00 w t d cs/\Fit t d/\a0z rb t d+1<=Rows.uptoBulk x.1:=fun t fs hu hc hf=>by
   unfold DataW.trod at h;simp only[hu]at h;split at h
   ·rename_i hl;cases hm:(fs.toList.mapM fun f=>DataW.trod enc P w 0 spare held fuel f.type ((cs.drop f.offset).take (P.cellsOf f.type)))with
    |none=>rw[hm]at h;cases h
    |some xs=>
     rw[hm]at h;obtain⟨d,h1,h2,h3⟩:=c0r ih fs.toList t 0 xs hf hm;rw[List.drop_zero,List.take_of_length_le (by omega)]at h1;refine⟨d,h1,h2,?_⟩;injection h with h
     subst h;simp only[Rows.uptoBulk];omega
   ·cases h
  cases hd with
  |u8 hu=>
   have hx:∃n,cs=[.int .u8 n]/\(Lit.int .u8 n).wf=true/\x.1 = .lit (.int .u8 n):=by
    unfold DataW.trod at h;split at h
    all_goals try (simp_all;done)
    rename_i k' n hu2;rw[hu]at hu2;cases hu2;split at h
    ·rename_i hc;obtain⟨rfl,hc⟩:=hc;exact⟨n,rfl,hc,by injection h with h;rw[<-h]⟩
    ·cases h
   obtain⟨n,rfl,hn,hx⟩:=hx;refine⟨UInt8.ofNat n.toNat,?_,trivial,by rw[hx];simp[Rows.uptoBulk,a0z]⟩;show [Value.int .u8 n]=[Value.int .u8 (UInt8.ofNat n.toNat).toNat];simp[Lit.wf,IntKind.min,IntKind.max,IntKind.signed,IntKind.bits]at hn;have:((UInt8.ofNat n.toNat).toNat:Int)=n:=by simp;omega
   rw[this]
  |@int _ k hu=>
   have hx:∃n,cs=[.int k n]/\(Lit.int k n).wf=true/\x.1 = .lit (.int k n):=by
    unfold DataW.trod at h;split at h
    all_goals try (simp_all;done)
    rename_i k1 k' n hu2;rw[hu]at hu2;cases hu2;split at h
    ·rename_i hc;obtain⟨rfl,hc⟩:=hc;exact⟨n,rfl,hc,by injection h with h;rw[<-h]⟩
    ·cases h
   obtain⟨n,rfl,hn,hx⟩:=hx;exact⟨n,rfl,hn,by rw[hx];simp[Rows.uptoBulk,a0z]⟩
  |bool hu=>
   have hx:∃b,cs=[.bool b]/\x.1 = .lit (.bool b):=by
    unfold DataW.trod at h;split at h
    all_goals try (simp_all;done)
    injection h with h
    exact⟨_,rfl,by rw[<-h]⟩
   obtain⟨b,rfl,hx⟩:=hx;exact⟨b,rfl,trivial,by rw[hx];simp[Rows.uptoBulk,a0z]⟩
  |str hu=>
   have hx:∃s:ByteArray,cs=[.string s]/\s.size<=maxLen/\x.1 = .lit (.string s.data.toList):=by
    unfold DataW.trod at h;split at h
    all_goals try (simp_all;done)
    split at h
    ·rename_i hc;injection h with h
     exact⟨_,rfl,hc,by rw[<-h]⟩
    ·cases h
   obtain⟨s,rfl,hn,hx⟩:=hx;refine⟨s.data.toList,?_,?_,by rw[hx];simp[Rows.uptoBulk,a0z]⟩
   ·show [Value.string s]=[Value.string ⟨s.data.toList.toArray⟩];simp
   ·show s.data.toList.length<=maxLen;simpa using hn
  |@sl _ e t hu hc he=>
   have hx:(cs=[.slice none 0 0]/\x.1 = .nil)\/∃a len cap elems rest,cs=[.slice (some a) len cap]/\len<=cap/\cap<=maxLen/\
     ((List.range len).mapM fun i=>(w.cells? 0 (a.add (i*P.cellsOf e)) (P.cellsOf e)).bind (DataW.trod enc P w 0 spare held fuel e))=some elems/\x.1 = .slice (elems.map (·.1)) rest:=by
    unfold DataW.trod at h;split at h
    all_goals try (simp_all;done)
    ·injection h with h
     exact .inl ⟨rfl,by rw[<-h]⟩
    ·rename_i hu2;rw[hu]at hu2;cases hu2;simp only at h;split at h
     ·rename_i hb;right;cases hm:((List.range _).mapM fun i=>(w.cells? 0 (Addr.add _ (i*P.cellsOf e)) (P.cellsOf e)).bind (DataW.trod enc P w 0 spare held fuel e))with
      |none=>rw[hm]at h;cases h
      |some ys=>
       rw[hm]at h;simp only[Option.bind_some,Option.map_eq_some_iff]at h;obtain⟨rest,_,h⟩:=h;exact⟨_,_,_,ys,rest.map (·.1),rfl,hb.2.1,hb.2.2,hm,by rw[<-h]⟩
     ·cases h
   rcases hx with⟨rfl,hx⟩|⟨a,len,cap,elems,rest,rfl,h1,h2,hm,hx⟩
   ·refine⟨[],⟨none,0,rfl,Nat.le_refl _,Nat.zero_le _,fun i h=>absurd h (Nat.not_lt_zero _)⟩,⟨Nat.zero_le _,fun x h=>(by cases h)⟩,?_⟩;rw[hx];simp[Rows.uptoBulk,a0z]
   ·have hl:=mapM_some_length hm;rw[List.length_range]at hl;have hall:∀i,i<len->∃d:t.den,(∃es,RepC M00 w t d es/\Pl M00 w (a.add (i*t.sz)) es)/\Fit t d/\∀h:i<elems.length,a0z rb t d<=Rows.uptoBulk elems[i].1:=fun i hi=>by
     have hi':i<elems.length:=by omega
     have hy:=mapM_some_get hm i i (by rw[List.getElem?_range hi]);rw[List.getElem?_eq_getElem hi']at hy;simp only[hc]at hy;cases hcs:w.cells? 0 (a.add (i*t.sz)) t.sz with
     |none=>rw[hcs]at hy;cases hy
     |some es=>
      rw[hcs]at hy;obtain⟨d,hd1,hd2,hd3⟩:=ih _ _ _ _ he hy;exact⟨d,⟨es,hd1,c0X hcs⟩,hd2,fun _=>hd3⟩
    obtain⟨l,hll,hp⟩:=b2K len hall;refine⟨l,⟨some a,cap,?_,by omega,h2,fun i hi=>?_⟩,⟨?_,fun x hx=>?_⟩,?_⟩
    ·rw[hll]
    ·obtain⟨⟨es,e1,e2⟩,_⟩:=hp i hi;exact⟨a,es,rfl,e1,e2⟩
    ·show l.length<=maxLen;omega
    ·obtain⟨i,hi,rfl⟩:=List.getElem_of_mem hx;exact(hp i hi).2.1
    ·rw[hx];simp only[Rows.uptoBulk,a0z];have:=f6W (a0z rb t) l elems (by omega) (fun i h1 h2=>(hp i h1).2.2 h2);omega
  |st hu hc ha hf=>
   obtain⟨d,h1,h2,h3⟩:=hstruct t _ hu hc hf;exact⟨d,h1,h2,by omega⟩
  |rc hr=>
   obtain⟨fs,hu,hc,hf⟩:=hR _ _ hr;rename_i i;obtain⟨d,h1,h2,h3⟩:=hstruct i.body fs hu (by rw[hc,RC.sz_body]) hf;refine⟨i.mk d,RepC.rc.2 (by rw[RC.un_mk];exact h1),FitR.intro (by rw[RC.un_mk];exact h2),?_⟩;have:=hrb i d;show rb i (i.mk d)<=_;omega
theorem c67(hR:d7H P R)(hrb:d7G rb){r:Reach}{base:Nat}{t:Ty}{T:TypeId}{v:Value}{d:DataW H}{p:List MemPlace}(hd:Deep P R t T)(hv:Value.okWide P w r base T v)(h:DataW.Trod enc P w 0 spare held T v d p):
  ∃x:t.den,RepV M00 w t x v/\Fit t x/\a0z rb t x<=Rows.uptoBulk d:=by
 obtain⟨fuel,hf⟩:=h;obtain⟨x,h1,h2,h3⟩:=c7X hR hrb fuel t T _ _ hd hf;refine⟨x,⟨_,h1,?_⟩,h2,h3⟩;have hagg:∀fs,P.underlying T=some (.struct fs)->t.isAgg=true->v=mkV t v.cells.toList:=fun fs hu ha=>by
  obtain⟨cs,rfl,_⟩:=okWide_struct hu hv;rw[a3b ha];simp[Value.cells]
 have hone:∀c:Value,v=c->c.cells = #[c]->t.isAgg=false->v=mkV t v.cells.toList:=fun c e hc ha=>by
  subst e;rw[hc,a1i ha]
 cases hd with
 |u8 hu=>obtain⟨n,rfl⟩:=okWide_int hu hv;exact hone _ rfl rfl rfl
 |int hu=>obtain⟨n,rfl⟩:=okWide_int hu hv;exact hone _ rfl rfl rfl
 |bool hu=>obtain⟨n,rfl⟩:=okWide_bool hu hv;exact hone _ rfl rfl rfl
 |str hu=>obtain⟨n,rfl⟩:=okWide_string hu hv;exact hone _ rfl rfl rfl
 |sl hu _ _=>obtain⟨a,l,c,rfl⟩:=okWide_slice hu hv;exact hone _ rfl rfl rfl
 |st hu _ ha _=>exact hagg _ hu ha
 |rc hr=>obtain⟨fs,hu,_⟩:=hR _ _ hr;exact hagg _ hu rfl
end
end
section
theorem Q1{n:Int}{m:Nat}(h:n=(m:Int))(hm:m<=1000000):IntKind.i64.wrap n=(m:Int):=by
 rw[h,K5 (by omega) (by omega)]
theorem O7{a b:UInt8}(h:a≠b):(a==b)=false:=by
 rw[d8w];exact decide_eq_false fun e=>h (UInt8.toNat_inj.1 e)
theorem a1v{α:Type}(xs:List α){i j:Nat}(h1:i<=j)(h2:j<=xs.length):slc xs (i:Int) (j:Int)=some ((xs.take j).drop i):=by
 unfold slc;rw[if_pos ⟨by omega,by omega,by omega⟩];rfl
theorem b3t{α:Type}(xs:List α){i:Nat}(h1:i<=xs.length):slc xs (i:Int) (xs.length:Int)=some (xs.drop i):=by
 rw[a1v xs h1 (Nat.le_refl _),List.take_length]
theorem a7l(b c:UInt8)(s:d9):Lib.indexByte (b :: s) c=if b=c then 0 else if Lib.indexByte s c = -1 then -1 else Lib.indexByte s c+1:=by
 rw[Lib.indexByte];by_cases h:b=c<;>simp[h]
theorem c3e(c:UInt8):∀l:d9,Lib.indexByte l c<(l.length:Int)
 |[]=>by simp[Lib.indexByte]
 |b :: l=>by
  have:=c3e c l;rw[a7l];split
  ·simp
  ·split
   ·simp;omega
   ·simp;omega
abbrev A6:Type:=Int×d9×Int×Int
def a42(t:A6):Prop:=0<=t.2.2.2/\t.2.1.length<=50000
theorem b3x{R:Type}(p:UInt8->Bool)(s:d9)(hs:s.length<=50000){k:Int->Option R}{f:Nat->Int->Option R}
  (hstep:∀n (i:Nat) (hi:i<s.length),f (n+1) (i:Int)=if p s[i]=true then f n (IntKind.i64.wrap ((i:Int)+1))else k (i:Int)) (hend:∀n,f (n+1) (s.length:Int)=k (s.length:Int)):
  ∀(d i n:Nat),i+d=s.length->d<n->f n (i:Int)=k ((i+((s.drop i).takeWhile p).length:Nat):Int):=by
 intro d;induction d with
 |zero=>
  intro i n hd hn;obtain⟨n,rfl⟩:∃q,n=q+1:=⟨n-1,by omega⟩;obtain rfl:i=s.length:=by omega
  rw[hend,List.drop_length];rfl
 |succ d ih=>
  intro i n hd hn;obtain⟨n,rfl⟩:∃q,n=q+1:=⟨n-1,by omega⟩;have hi:i<s.length:=by omega
  rw[hstep n i hi,List.drop_eq_getElem_cons hi,List.takeWhile_cons];split
  ·rw[Q1 (m:=i+1) (by omega) (by omega),ih (i+1) n (by omega) (by omega)];congr 1;simp only[List.length_cons];omega
  ·simp
def H6(c:UInt8):Bool:=(decide (c>=97)&&decide (c<=122))||((decide (c>=48)&&decide (c<=57))||(c==95))
def M4(c:UInt8):Bool:=decide (c>=48)&&decide (c<=57)
theorem b4v(N:Nat)(c:UInt8):O1 N c=some (decide (c>=97)&&decide (c<=122)):=by
 unfold O1;cases decide (c>=97)<;>simp
theorem a9E(N:Nat)(c:UInt8):O0 N c=some (M4 c):=by
 unfold O0 M4;cases decide (c>=48)<;>simp
theorem d44(N:Nat)(c:UInt8):a0v N c=some (H6 c):=by
 unfold a0v;rw[b4v,a8,a9E,a8];unfold H6 M4;cases (decide (c>=97)&&decide (c<=122))<;>cases (decide (c>=48)&&decide (c<=57))<;>simp
theorem b8g(p:UInt8->Bool)(s:d9){i:Nat}(hi:i<=s.length):i+((s.drop i).takeWhile p).length<=s.length:=by
 have:=(List.takeWhile_sublist (l:=s.drop i) p).length_le;rw[List.length_drop]at this;omega
theorem b5m(p:UInt8->Bool):∀(l:d9),∀b∈l.takeWhile p,p b=true
 |[],b,h=>by cases h
 |a :: l,b,h=>by
  rw[List.takeWhile_cons]at h;split at h
  ·rename_i hp;rcases List.mem_cons.1 h with rfl|h
   ·exact hp
   ·exact b5m p l b h
  ·cases h
theorem a5R(p:UInt8->Bool)(s:d9){i:Nat}(hi:i<=s.length):(s.take (i+((s.drop i).takeWhile p).length)).drop i=(s.drop i).takeWhile p:=by
 rw[List.drop_take,Nat.add_sub_cancel_left];have h:∀l:d9,l.take (l.takeWhile p).length=l.takeWhile p:=by
  intro l;induction l with
  |nil=>rfl
  |cons a l ih=>
   rw[List.takeWhile_cons];split
   ·rw[List.length_cons,List.take_succ_cons,ih]
   ·rfl
 exact h _
theorem d8n{N:Nat}(hN:60000<=N)(s:d9)(hs:s.length<=50000){k:Int->Option (d9×d9×Int×List A6)}{i:Nat}(hi:i<=s.length):
  e42 N s k N (i:Int)=k ((i+((s.drop i).takeWhile H6).length:Nat):Int):=by
 refine b3x H6 s hs (f:=e42 N s k) (fun n j hj=>?_) (fun n=>?_) (s.length-i) i N (by omega) (by omega)
 ·show c53 _ _ _ _ _=_;unfold c53;rw[S1 hj,d7,m6 s hj,a8,d44,a8,a8e]
 ·show c53 _ _ _ _ _=_;unfold c53;rw[a1A,d6]
theorem c94{N:Nat}(hN:60000<=N)(s:d9)(hs:s.length<=50000)(w:List A6){i:Nat}(hi:i<=s.length):
  T9 N () s (i:Int) w=some ((s.drop i).takeWhile H6,s,((i+((s.drop i).takeWhile H6).length:Nat):Int),w):=by
 unfold T9;rw[d8n hN s hs hi,a1v s (Nat.le_add_right _ _) (b8g H6 s hi),a8,a5R H6 s hi]
theorem d8o{N:Nat}(hN:60000<=N)(s:d9)(hs:s.length<=50000){k:Int->Option (d9×d9×Int×List A6)}{i:Nat}(hi:i<=s.length):
  e2p N s k N (i:Int)=k ((i+((s.drop i).takeWhile M4).length:Nat):Int):=by
 refine b3x M4 s hs (f:=e2p N s k) (fun n j hj=>?_) (fun n=>?_) (s.length-i) i N (by omega) (by omega)
 ·show e2n _ _ _ _ _=_;unfold e2n;rw[S1 hj,d7,m6 s hj,a8,a9E,a8,a8e]
 ·show e2n _ _ _ _ _=_;unfold e2n;rw[a1A,d6]
theorem c95{N:Nat}(hN:60000<=N)(s:d9)(hs:s.length<=50000)(w:List A6){i:Nat}(hi:i<=s.length):
  U0 N () s (i:Int) w=some ((s.drop i).takeWhile M4,s,((i+((s.drop i).takeWhile M4).length:Nat):Int),w):=by
 unfold U0;rw[d8o hN s hs hi,a1v s (Nat.le_add_right _ _) (b8g M4 s hi),a8,a5R M4 s hi]
def b89(acc:Nat)(l:d9):Nat:=l.foldl (fun a b=>a*10+(b.toNat-48)) acc
theorem c9v{N:Nat}{k:Int->Option (Int×d9×Int×Int×d9×Int×Int×List A6)}(c:d9)(hc:c.length<=9)(hd:∀b∈c,M4 b=true):∀(d i n acc:Nat),i+d=c.length->d<n->acc<10 ^ i->
  f6H N c (c.length:Int) k n (i:Int) (acc:Int)=k (b89 acc (c.drop i):Int):=by
 intro d;induction d with
 |zero=>
  intro i n acc h hn ha;obtain⟨n,rfl⟩:∃q,n=q+1:=⟨n-1,by omega⟩;obtain rfl:i=c.length:=by omega
  show f4R _ _ _ _ _ _ _=_;unfold f4R;rw[a1A,d6,List.drop_length];rfl
 |succ d ih=>
  intro i n acc h hn ha;obtain⟨n,rfl⟩:∃q,n=q+1:=⟨n-1,by omega⟩;have hi:i<c.length:=by omega
  have hb:=hd c[i] (List.getElem_mem hi);unfold M4 at hb;simp only[Bool.and_eq_true,decide_eq_true_eq,ge_iff_le,UInt8.le_iff_toNat_le]at hb;have h1:(48:UInt8).toNat=48:=rfl;have h2:(57:UInt8).toNat=57:=rfl;have hp:10 ^ i<=10 ^ 8:=Nat.pow_le_pow_right (by omega) (by omega);have hp9:(10:Nat) ^ 8=100000000:=by decide
  have hsub:(c[i]-48).toNat=c[i].toNat-48:=by
   rw[UInt8.toNat_sub_of_le _ _ (by rw[UInt8.le_iff_toNat_le];omega)];rfl
  show f4R _ _ _ _ _ _ _=_;unfold f4R;rw[S1 hi,d7,m6 c hi,a8];rw[Q1 (n:=(i:Int)+1) (m:=i+1) (by omega) (by omega),hsub,K5 (n:=((c[i].toNat-48:Nat):Int)) (by omega) (by omega),K5 (n:=(10:Int)*(acc:Int)) (by omega) (by omega),K5 (by omega) (by omega)];rw[show(10:Int)*(acc:Int)+((c[i].toNat-48:Nat):Int)=((acc*10+(c[i].toNat-48):Nat):Int) by omega];rw[ih (i+1) n _ (by omega) (by omega) (by rw[Nat.pow_succ];omega),List.drop_eq_getElem_cons hi];rfl
theorem c7E(N:Nat)(l:d9):d93 N l [61,61]=some (l.take 2==[61,61]):=by
 unfold d93 c99
 match l with
 |[]=>simp
 |[a]=>
  simp
 |a :: b :: r=>
  rw[decide_eq_true (show(((a :: b :: r:d9).length:Nat):Int)>=((([61,61]:d9).length:Nat):Int) by simp;omega),d7];rw[show(0:Int)=((0:Nat):Int)from rfl,a1v _ (by simp) (by simp),a8,a8];rfl
end
section
def W6:Bool->d9->d9|_,[]=>[]|true,c :: r=>W6 (c !=10) r|false,c :: r=>if c=32 then W6 false r else if c=9 then W6 false r else if c=10 then W6 false r else if c=13 then W6 false r else if c=35 then W6 true r else c :: r
theorem b74:∀r:d9,W6 true r=if Lib.indexByte r 10<0 then []else W6 false (r.drop (Lib.indexByte r 10).toNat)
 |[]=>by simp[W6,Lib.indexByte]
 |b :: r=>by
  have ih:=b74 r;rw[W6,a7l];by_cases h:b=10
  ·subst h;simp[W6]
  ·have hb:(b !=10)=true:=by simp[h]
   have hg:=Lib.indexByte_ge r 10;rw[hb,ih,if_neg h];by_cases h1:Lib.indexByte r 10 = -1
   ·simp[h1]
   ·rw[if_neg h1,if_neg (show ¬Lib.indexByte r 10<0 by omega),if_neg (show ¬Lib.indexByte r 10+1<0 by omega)];rw[show(Lib.indexByte r 10+1).toNat=(Lib.indexByte r 10).toNat+1 by omega,List.drop_succ_cons]
theorem a5l{n:Int}{m:Nat}(h:n=(m:Int))(hm:m<=4611686018427387905):IntKind.i64.wrap n=(m:Int):=by
 rw[h,K5 (by omega) (by omega)]
def c1h(c:UInt8):Bool:=decide (Lib.indexByte [61,43,40,41,91,93,123,125,44,58,59] c>=0)
def G3:d9->d9->Option (d9×d9) | [],_=>none | [c],acc=>if c=34 then some (acc,[])else none|c :: e :: r,acc=>if c=34 then some (acc,e :: r)else if c<32 then none else if c>126 then none else if c=92 then(if e=34 then G3 r (acc ++ [34])else if e=92 then G3 r (acc ++ [92])else if e=110 then G3 r (acc ++ [10])else none)else G3 (e :: r) (acc ++ [c])
def a2y:d9->Option (Int×d9×Int×d9) | []=>none|c :: r=>if(decide (c>=97)&&decide (c<=122))=true then(if((c :: r).takeWhile H6).length>40 then none else some (1,(c :: r).takeWhile H6,0,(c :: r).dropWhile H6))else if M4 c=true then(if((c :: r).takeWhile M4).length>9 then none else if c=48/\((c :: r).takeWhile M4).length>1 then none else some (3,[],(b89 0 ((c :: r).takeWhile M4):Int),(c :: r).dropWhile M4))else if c=34 then(G3 r []).map fun z=>(2,z.1,0,z.2)else if c1h c=true then(if c=61/\r.head? = some 61 then some (4,[61,61],0,r.tail)else some (4,[c],0,r))else none
theorem c5m(p:UInt8->Bool):∀l:d9,l.dropWhile p=l.drop (l.takeWhile p).length
 |[]=>rfl
 |a :: l=>by
  rw[List.dropWhile_cons,List.takeWhile_cons];split
  ·rw[c5m p l,List.length_cons,List.drop_succ_cons]
  ·rfl
theorem d69(p:UInt8->Bool)(s:d9)(i:Nat):(s.drop i).dropWhile p=s.drop (i+((s.drop i).takeWhile p).length):=by
 rw[c5m,List.drop_drop]
inductive LX(L:Nat):d9->List A6->Prop
 |nil {u:d9}:W6 false u=[]->LX L u []
 |cons {u v r t:d9} {k n:Int} {l:List A6}:W6 false u=v->a2y v=some (k,t,n,r)->v.length<=L->LX L r l->LX L u ((k,t,n,((L-v.length:Nat):Int)) :: l)
end
section
def c8M(c:UInt8):Prop:=c=32\/c=9\/c=10\/c=13\/c=35
def d92(r:d9):Prop:=∀c y,r=c :: y->c8M c
theorem c3O(p:UInt8->Bool)(hp:∀c,c8M c->p c=false):∀(b r:d9),(∀c∈b,p c=true)->d92 r->(b++r).takeWhile p=b/\(b++r).dropWhile p=r
 |[],[],_,_=>⟨rfl,rfl⟩
 |[],c :: r,_,h=>by
  have:=hp c (h c r rfl);simp[List.takeWhile_cons,List.dropWhile_cons,this]
 |a :: b,r,h1,h2=>by
  have:=c3O p hp b r (fun c hc=>h1 c (by simp[hc])) h2;have ha:=h1 a (by simp);rw[List.cons_append,List.takeWhile_cons,List.dropWhile_cons,if_pos ha,if_pos ha,this.1,this.2];exact⟨rfl,rfl⟩
theorem c9t(c:UInt8)(h:c8M c):H6 c=false:=by
 rcases h with h|h|h|h|h<;>subst h<;>decide
theorem d4O(c:UInt8)(h:c8M c):M4 c=false:=by
 rcases h with h|h|h|h|h<;>subst h<;>decide
theorem b9B(r acc:d9):G3 (34 :: r) acc=some (acc,r):=by
 cases r with
 |nil=>simp[G3]
 |cons e r=>simp[G3]
theorem b9A{c:UInt8}(h1:c≠34)(h2:¬c<32)(h3:¬c>126)(h4:c≠92)(r acc:d9):G3 (c :: r) acc=G3 r (acc ++ [c]):=by
 cases r with
 |nil=>simp[G3,h1]
 |cons e r=>rw[G3,if_neg h1,if_neg h2,if_neg h3,if_neg h4]
theorem a6s(e:UInt8)(r acc:d9):G3 (92 :: e :: r) acc=if e=34 then G3 r (acc ++ [34])else if e=92 then G3 r (acc ++ [92])else if e=110 then G3 r (acc ++ [10])else none:=by
 rw[G3,if_neg (by decide),if_neg (by decide),if_neg (by decide),if_pos rfl]
theorem a3s:∀(n:Nat) (u acc t r:d9),u.length<=n->G3 u acc=some (t,r)->∃b,u=b++r/\∀r',G3 (b++r') acc=some (t,r')
 |n,[],acc,t,r,_,h=>by cases h
 |0,c :: u,acc,t,r,hn,h=>by simp at hn
 |n+1,c :: u,acc,t,r,hn,h=>by
  by_cases h34:c=34
  ·subst h34;rw[b9B]at h;cases h;exact⟨[34],rfl,fun r'=>b9B r' _⟩
  by_cases h92:c=92
  ·subst h92
   match u,hn,h with
   |[],_,h=>cases h
   |e :: u,hn,h=>
    rw[a6s]at h;have hn':u.length<=n:=by simp at hn;omega
    by_cases g1:e=34
    ·rw[if_pos g1]at h;obtain⟨b,h1,h2⟩:=a3s n u _ t r hn' h;exact⟨92 :: e :: b,by rw[h1];rfl,fun r'=>by show G3 (92 :: e :: (b++r')) acc=_;rw[a6s,if_pos g1,h2]⟩
    rw[if_neg g1]at h;by_cases g2:e=92
    ·rw[if_pos g2]at h;obtain⟨b,h1,h2⟩:=a3s n u _ t r hn' h;exact⟨92 :: e :: b,by rw[h1];rfl,fun r'=>by show G3 (92 :: e :: (b++r')) acc=_;rw[a6s,if_neg g1,if_pos g2,h2]⟩
    rw[if_neg g2]at h;by_cases g3:e=110
    ·rw[if_pos g3]at h;obtain⟨b,h1,h2⟩:=a3s n u _ t r hn' h;exact⟨92 :: e :: b,by rw[h1];rfl,fun r'=>by show G3 (92 :: e :: (b++r')) acc=_;rw[a6s,if_neg g1,if_neg g2,if_pos g3,h2]⟩
    rw[if_neg g3]at h;cases h
  by_cases hlo:c<32
  ·exfalso
   match u,h with
   |[],h=>simp[G3,h34]at h
   |e :: u,h=>rw[G3,if_neg h34,if_pos hlo]at h;cases h
  by_cases hhi:c>126
  ·exfalso
   match u,h with
   |[],h=>simp[G3,h34]at h
   |e :: u,h=>rw[G3,if_neg h34,if_neg hlo,if_pos hhi]at h;cases h
  rw[b9A h34 hlo hhi h92]at h;obtain⟨b,h1,h2⟩:=a3s n u _ t r (by simp at hn;omega) h;exact⟨c :: b,by rw[h1];rfl,fun r'=>by show G3 (c :: (b++r')) acc=_;rw[b9A h34 hlo hhi h92,h2]⟩
theorem b5l{u t r:d9}{k n:Int}(h:a2y u=some (k,t,n,r)):∃b,u=b++r/\b ≠ []/\∀r',d92 r'->a2y (b++r')=some (k,t,n,r'):=by
 cases u with
 |nil=>cases h
 |cons c u=>
  rw[a2y]at h;by_cases hsm:(decide (c>=97)&&decide (c<=122))=true
  ·rw[if_pos hsm]at h;split at h
   ·cases h
   ·rename_i h40;simp only[Option.some.injEq,Prod.mk.injEq]at h;obtain⟨rfl,rfl,rfl,rfl⟩:=h;have hn:H6 c=true:=by unfold H6;rw[hsm];rfl
    have e:(c :: u).takeWhile H6=c :: u.takeWhile H6:=by rw[List.takeWhile_cons,if_pos hn]
    refine⟨(c :: u).takeWhile H6,(List.takeWhile_append_dropWhile).symm,by rw[e];simp,fun r' hr=>?_⟩;have ht:=c3O H6 c9t ((c :: u).takeWhile H6) r' (b5m H6 _) hr;rw[e]at ht h40 ⊢;rw[List.cons_append]at ht ⊢;rw[a2y,if_pos hsm,ht.1,ht.2,if_neg h40]
  rw[if_neg hsm]at h;by_cases hdg:M4 c=true
  ·rw[if_pos hdg]at h;split at h
   ·cases h
   rename_i h9;split at h
   ·cases h
   rename_i h48;simp only[Option.some.injEq,Prod.mk.injEq]at h;obtain⟨rfl,rfl,rfl,rfl⟩:=h;have e:(c :: u).takeWhile M4=c :: u.takeWhile M4:=by rw[List.takeWhile_cons,if_pos hdg]
   refine⟨(c :: u).takeWhile M4,(List.takeWhile_append_dropWhile).symm,by rw[e];simp,fun r' hr=>?_⟩;have ht:=c3O M4 d4O ((c :: u).takeWhile M4) r' (b5m M4 _) hr;rw[e]at ht h9 h48 ⊢;rw[List.cons_append]at ht ⊢;rw[a2y,if_neg hsm,if_pos hdg,ht.1,ht.2,if_neg h9,if_neg h48]
  rw[if_neg hdg]at h;by_cases h34:c=34
  ·rw[if_pos h34]at h;cases hx:G3 u []with
   |none=>rw[hx]at h;cases h
   |some z=>
    rw[hx]at h;simp only[Option.map_some,Option.some.injEq,Prod.mk.injEq]at h;obtain⟨rfl,rfl,rfl,rfl⟩:=h;obtain⟨b,h1,h2⟩:=a3s u.length u [] z.1 z.2 (Nat.le_refl _) hx;refine⟨c :: b,by rw[List.cons_append,<-h1],by simp,fun r' hr=>?_⟩;rw[List.cons_append,a2y,if_neg hsm,if_neg hdg,if_pos h34,h2];rfl
  rw[if_neg h34]at h;by_cases hs:c1h c=true
  ·rw[if_pos hs]at h;split at h
   ·rename_i h61;simp only[Option.some.injEq,Prod.mk.injEq]at h;obtain⟨rfl,rfl,rfl,rfl⟩:=h;obtain⟨h61,hh⟩:=h61;cases u with
    |nil=>cases hh
    |cons e u=>
     obtain rfl:e=61:=by simpa using hh
     refine⟨[c,61],rfl,by simp,fun r' hr=>?_⟩;rw[List.cons_append,a2y,if_neg hsm,if_neg hdg,if_neg h34,if_pos hs,if_pos ⟨h61,rfl⟩];rfl
   ·simp only[Option.some.injEq,Prod.mk.injEq]at h;obtain⟨rfl,rfl,rfl,rfl⟩:=h;refine⟨[c],rfl,by simp,fun r' hr=>?_⟩;have:¬(c=61/\r'.head? = some 61):=by
     rintro⟨_,hh⟩;cases r' with
     |nil=>cases hh
     |cons e y=>
      obtain rfl:e=61:=by simpa using hh
      have:=hr _ _ rfl;revert this;unfold c8M;decide
    rw[List.cons_append,List.nil_append,a2y,if_neg hsm,if_neg hdg,if_neg h34,if_pos hs,if_neg this]
  ·rw[if_neg hs]at h;cases h
def d7Z(t:A6):Int×d9×Int:=(t.1,t.2.1,t.2.2.1)
end
section
def a11(c:UInt8):d9->List d9
 |[]=>[[]]
 |b :: s=>if b=c then [] :: a11 c s else match a11 c s with
  |x :: xs=>(b :: x) :: xs
  |[]=>[[b]]
theorem c7N(c:UInt8)(s:d9):a11 c s ≠ []:=by
 cases s with
 |nil=>simp[a11]
 |cons b s=>unfold a11;split;simp;split<;>simp
theorem a7m(b c:UInt8)(s:d9):Lib.indexByte (b :: s) c=if b=c then 0 else if Lib.indexByte s c = -1 then -1 else Lib.indexByte s c+1:=by
 have h:=Lib.indexByte_ge s c;rw[Lib.indexByte];by_cases hb:b=c
 ·simp[hb]
 ·simp only[beq_iff_eq,hb,if_false]
theorem b5c(c:UInt8):∀(s:d9),Lib.splitK [c] 0 (Lib.count s [c]) s=a11 c s
 |[]=>by simp[Lib.count_one,Lib.splitK,a11]
 |b :: s=>by
  have ih:=b5c c s;by_cases hb:b=c
  ·subst hb;rw[Lib.count_cons_eq,Nat.add_comm,Lib.splitK,Lib.index_one,a7m];simp only[if_true];show(_ :: Lib.splitK [b] 0 (Lib.count s [b]) s)=_;rw[ih];simp[a11]
  ·rw[Lib.count_cons_ne _ _ _ hb];unfold a11;rw[if_neg hb,<-ih];cases hk:Lib.count s [c]with
   |zero=>simp[Lib.splitK]
   |succ k=>
    rw[Lib.splitK,Lib.splitK,Lib.index_one,Lib.index_one,a7m,if_neg hb];have h0:=Lib.indexByte_ge s c;by_cases h1:Lib.indexByte s c = -1
    ·simp[h1]
    ·have h2:∃n:Nat,Lib.indexByte s c=n:=⟨(Lib.indexByte s c).toNat,by omega⟩;obtain⟨n,hn⟩:=h2;have e:((n:Int)+1).toNat=n+1:=by omega
     have e1:¬((n:Int) = -1):=by omega
     have e2:¬((n:Int)+1 = -1):=by omega
     simp[hn,e,e1,e2,Nat.add_right_comm]
theorem c3K(s:d9)(c:UInt8):a9O s [c]=a11 c s:=by
 unfold a9O;have:=Lib.splitB_data ⟨[c].toArray⟩ 0 (Lib.countB ⟨s.toArray⟩ ⟨[c].toArray⟩) ⟨s.toArray⟩;rw[this];exact b5c c s
theorem b5a(c:UInt8):∀s:d9,(a11 c s).length=s.count c+1
 |[]=>rfl
 |b :: s=>by
  have ih:=b5a c s;unfold a11;by_cases hb:b=c
  ·rw[if_pos hb];simp[hb,ih]
  ·rw[if_neg hb,List.count_cons_of_ne hb,<-ih];have:=c7N c s;cases h:a11 c s with
   |nil=>exact absurd h this
   |cons=>rfl
theorem b0x(s:d9)(c:UInt8)(h:s.length<4294967281):strings_Split s [c]=some (a11 c s):=by
 have hc:s.count c<=s.length:=List.count_le_length;unfold strings_Split;rw[c3K,b5a];refine if_pos ⟨h,by simp,?_,by omega⟩;show _=Lib.count s [c]+1;rw[Lib.count_one]
end
section
variable{N:Nat}
theorem a2O{α:Type}(p:α->Bool)(k:Bool):∀(xs:List α) (j:Nat),a5r (fun _ x r=>if(!p x)=true then false else r) k xs j=(xs.all p&&k)
 |[],_=>by simp[a5r]
 |x :: xs,j=>by
  show(if(!p x)=true then false else a5r _ _ xs (j+1))=_;rw[a2O p k xs (j+1),List.all_cons];cases h:p x<;>simp
theorem b29(hN:I1<=N)(xs:List d9)(hx:xs.length<=maxLen)(x:d9):J0 N xs x=some (b80 (x == ·) xs):=by
 unfold J0;refine T6 (fun _ _=>rfl) xs hx (fun self i h r hr=>?_) (fun self=>?_) hN
 ·simp only[f5X,m6 xs h,N1 hx h,hr,a8];rw[S1 h,d7,a2M]
 ·simp[f5X]
theorem a0x(hN:I1<=N)(xs:List d9)(hx:xs.length<=maxLen)(x:d9):o7 N xs x=some (xs.any (x == ·)):=by
 unfold o7;rw[b29 hN xs hx,a8,a3j]
def a4E(c:UInt8):Bool:=decide (c>=97)&&decide (c<=122)
def b1T(c:UInt8):Bool:=decide (c>=48)&&decide (c<=57)
def nmB(c:UInt8):Bool:=a4E c||(b1T c||c==95)
theorem b7Y(c:UInt8):O1 N c=some (a4E c):=by
 unfold O1 a4E;cases decide (c>=97)<;>simp
theorem c7z(c:UInt8):O0 N c=some (b1T c):=by
 unfold O0 b1T;cases decide (c>=48)<;>simp
def a6U:List d9:=[[109,97,99,114,111],[102,111,114],[105,110],[105,102],[101,108,115,101],[117,115,101],[102,105,108,101,115],[99,104,111,111,115,101]]
def w9(s:d9):Bool:=match s with
 |[]=>false
 |b :: _=>decide (s.length<=40)&&(a4E b&&(s.all nmB && !(a6U.any (s == ·))))
theorem M9(hN:I1<=N)(s:d9)(hs:s.length<=maxLen):G5 N s=some (w9 s):=by
 unfold G5;cases s with
 |nil=>simp[w9]
 |cons b x=>
  have h1:¬(((b :: x).length:Int)<1):=by simp;omega
  rw[c8L h1,b1X,List.getElem?_cons_zero,a8,b7Y,a8];have hL:e49 N (b :: x) ((b :: x).length:Int) (j8 (a2u N) fun t42=>j8 (o7 N t42 (b :: x)) fun t44=>some (!t44)) N 0=some ((b :: x).all nmB && !(a6U.any ((b :: x) == ·))):=by
   have hk:(j8 (a2u N) fun t42=>j8 (o7 N t42 (b :: x)) fun t44=>some (!t44))=some (!(a6U.any ((b :: x) == ·))):=by
    unfold a2u;rw[a8,a0x hN _ (by decide),a8];rfl
   rw[hk,<-a2O nmB _ _ 0];refine T6 (fun _ _=>rfl) (b :: x) hs (fun self i h r hr=>?_) (fun self=>?_) hN
   ·simp only[e4v,m6 _ h,N1 hs h,hr,a8,b7Y,c7z];rw[S1 h,d7];unfold nmB;generalize (b :: x)[i]=c;cases h1:a4E c<;>cases h2:b1T c<;>cases h3:(c==95)<;>simp[bne,h3]
   ·simp only[e4v,a1A,d6]
  rw[hL];show _=some (decide ((b :: x).length<=40)&&(a4E b&&((b :: x).all nmB && !(a6U.any ((b :: x) == ·)))));generalize ((b :: x).all nmB && !(a6U.any ((b :: x) == ·)))=q;by_cases h40:(b :: x).length<=40
  ·rw[c8L (by omega),decide_eq_true h40];cases a4E b<;>simp
  ·rw[d7R (by omega),decide_eq_false h40];rfl
theorem b4u(c:UInt8):X9 N c=some (nmB c):=by
 unfold X9 nmB a4E b1T;simp only[a2M];generalize decide (c>=97)=a1;generalize decide (c<=122)=a2;generalize decide (c>=48)=a3;generalize decide (c<=57)=a4;generalize (c==95)=a5;cases a1<;>cases a2<;>cases a3<;>cases a4<;>cases a5<;>rfl
theorem d4W:strings_Split ([109,97,99,114,111,32,102,111,114,32,105,110,32,105,102,32,101,108,115,101,32,117,115,101,32,102,105,108,101,115,32,99,104,111,111,115,101]:d9) ([32]:d9)=some a6U:=by
 rw[b0x _ _ (by decide)];have:a11 32 ([109,97,99,114,111,32,102,111,114,32,105,110,32,105,102,32,101,108,115,101,32,117,115,101,32,102,105,108,101,115,32,99,104,111,111,115,101]:d9)=a6U:=by decide +kernel
 rw[this]
theorem Y9(n a b:Int):a3q N n a b=some (decide (a<=n)&&decide (n<=b)):=by
 unfold a3q;cases decide (a<=n)<;>simp
theorem a2J(hN:I1<=N)(s:d9)(hs:s.length<=maxLen):a0X N s=some (w9 s):=by
 unfold a0X;rw[Y9,a8];cases s with
 |nil=>simp[w9]
 |cons b x=>
  have h1:decide ((1:Int)<=((b :: x).length:Int))=true:=decide_eq_true (by simp;omega);rw[h1,Bool.true_and,b1X,List.getElem?_cons_zero,a8,a8];have hL:a4y N (b :: x) ((b :: x).length:Int) (j8 (strings_Split ([109,97,99,114,111,32,102,111,114,32,105,110,32,105,102,32,101,108,115,101,32,117,115,101,32,102,105,108,101,115,32,99,104,111,111,115,101]:d9) ([32]:d9)) fun t29=>j8 (o7 N t29 (b :: x)) fun t31=>some (!t31)) N 0=some ((b :: x).all nmB && !(a6U.any ((b :: x) == ·))):=by
   rw[d4W,a8,a0x hN _ (by decide),a8,<-a2O nmB _ _ 0];refine T6 (fun _ _=>rfl) (b :: x) hs (fun self i h r hr=>?_) (fun self=>?_) hN
   ·simp only[a3B,m6 _ h,N1 hs h,hr,a8,b4u];rw[S1 h,d7,a2M]
   ·simp only[a3B,a1A,d6]
  rw[hL];show _=some (decide ((b :: x).length<=40)&&(a4E b&&((b :: x).all nmB && !(a6U.any ((b :: x) == ·)))));generalize ((b :: x).all nmB && !(a6U.any ((b :: x) == ·)))=q;have hs1:decide (b<97) = !decide (b>=97):=by
   by_cases h:b<97
   ·rw[decide_eq_true h,decide_eq_false (UInt8.not_le.2 h)];rfl
   ·rw[decide_eq_false h,decide_eq_true (UInt8.not_lt.1 h)];rfl
  have hs2:decide (b>122) = !decide (b<=122):=by
   by_cases h:b<=122
   ·rw[decide_eq_true h,decide_eq_false (UInt8.not_lt.2 h)];rfl
   ·rw[decide_eq_false h,decide_eq_true (UInt8.not_le.1 h)];rfl
  rw[hs1,hs2];unfold a4E;by_cases h40:(b :: x).length<=40
  ·rw[decide_eq_true (by omega:((b :: x).length:Int)<=40),decide_eq_true h40];cases decide (b>=97)<;>cases decide (b<=122)<;>simp
  ·rw[decide_eq_false (by omega:¬((b :: x).length:Int)<=40),decide_eq_false h40];simp
def O5(b:UInt8):Bool:=b==10||(!decide (b<32) && !decide (b>126))
theorem a0I(hN:I1<=N)(s:d9)(hs:s.length<=maxLen):y8 N s=some (s.all O5):=by
 unfold y8;rw[show s.all O5=(s.all O5&&true) by simp,<-a2O O5 true s 0];refine T6 (fun _ _=>rfl) s hs (fun self i h r hr=>?_) (fun self=>?_) hN
 ·simp only[f6p,m6 s h,N1 hs h,hr,a8];rw[S1 h,d7];unfold O5;cases h1:(s[i]==(10:UInt8))<;>cases h2:decide (s[i]<(32:UInt8))<;>cases h3:decide (s[i]>(126:UInt8))<;>simp[h1,bne]
 ·simp only[f6p,a1A,d6]
theorem a65(a b:List d9)(ha:a.length<=maxLen)(he:a.length=b.length):∀(m n i:Nat),i+m=a.length->m<n->e6n N a b (a.length:Int) (some true) n (i:Int)=some (decide (a.drop i=b.drop i))
 |0,n,i,hi,hn=>by
  obtain⟨n,rfl⟩:∃j,n=j+1:=⟨n-1,by omega⟩;have:i=a.length:=by omega
  subst this;show e2x _ _ _ _ _ _ _=_;simp only[e2x,a1A,d6,List.drop_length];rw[he,List.drop_length];simp
 |m+1,n,i,hi,hn=>by
  obtain⟨n,rfl⟩:∃j,n=j+1:=⟨n-1,by omega⟩;have h:i<a.length:=by omega
  have hb:i<b.length:=by omega
  have ih:=a65 a b ha he m n (i+1) (by omega) (by omega);show e2x _ _ _ _ _ _ _=_;simp only[e2x,m6 a h,m6 b hb,N1 ha h,ih,a8];rw[S1 h,d7,List.drop_eq_getElem_cons h,List.drop_eq_getElem_cons hb];by_cases hq:a[i]=b[i]
  ·rw[show(a[i]==b[i])=true from beq_iff_eq.2 hq];simp only[List.cons.injEq,hq,true_and,Bool.not_true,d6]
  ·rw[show(a[i]==b[i])=false from beq_false_of_ne hq];simp only[List.cons.injEq,hq,false_and,Bool.not_false,d7,decide_false]
theorem b7o(hN:I1<=N)(a b:List d9)(ha:a.length<=maxLen)(hb:b.length<=maxLen):G0 N a b=some (decide (a=b)):=by
 unfold G0;by_cases he:a.length=b.length
 ·have:=a65 (N:=N) a b ha he a.length N 0 (by omega) (by unfold maxLen at ha;unfold I1 at hN;omega);rw[show((0:Nat):Int)=0 from rfl,List.drop_zero,List.drop_zero]at this;rw[this];simp[he]
 ·have hne:a≠b:=fun e=>he (by rw[e])
  simp only[decide_eq_false hne];have:((a.length:Int) !=(b.length:Int))=true:=by simp;omega
  simp[this]
theorem c2y(l:List d9)(h:l.length<=1000000):l8 N l=some l:=by
 unfold l8;have e:Zf (([]:List d9).length+l.length) .str=true:=decide_eq_true (by show(0+l.length)*(24*1)<=_;omega);rw[e,d7];cases l with
 |nil=>simp
 |cons a l=>simp
def N4(w:List A6)(i:Nat)(k:Int)(s:d9):Bool:=match w[i]? with
 |some t=>t.1==k&&t.2.1==s
 |none=>false
def atS(w:List A6)(i:Nat)(e:Int):Int:=match w[i]? with
 |some t=>t.2.2.2
 |none=>e
def X1(w:List A6)(i:Nat):Option d9:=match w[i]? with
 |some t=>if(t.1==1&&w9 t.2.1)=true then some t.2.1 else none
 |none=>none
def a4H(w:List A6)(i:Nat):Option d9:=match w[i]? with
 |some t=>if(t.1==2)=true then some t.2.1 else none
 |none=>none
theorem b4t{w:List A6}{i:Nat}(h:i<w.length):m7 (w.drop i) 0=some w[i]:=by
 rw[b1X,List.getElem?_drop];simp[h]
theorem c9m{w:List A6}{i:Nat}(h:i<w.length):decide (((w.drop i).length:Int)>0)=true:=decide_eq_true (by simp;omega)
theorem c9l{w:List A6}{i:Nat}(h:¬i<w.length):decide (((w.drop i).length:Int)>0)=false:=decide_eq_false (by simp;omega)
theorem a8n{w:List A6}{i:Nat}(h:i<w.length):(((w.drop i).length:Int)==0)=false:=by rw[beq_eq_false_iff_ne];simp;omega
theorem b3j{w:List A6}{i:Nat}(h:¬i<w.length):(((w.drop i).length:Int)==0)=true:=by rw[beq_iff_eq];simp;omega
theorem I5{w:List A6}{i:Nat}{k:Int}{s:d9}(h:N4 w i k s=true):i<w.length:=by
 unfold N4 at h;cases hw:w[i]? with
 |none=>rw[hw]at h;cases h
 |some t=>exact(List.getElem?_eq_some_iff.1 hw).1
theorem b10{w:List A6}{i:Nat}{k:Int}{s:d9}(h:i<w.length):N4 w i k s=(w[i].1==k&&w[i].2.1==s):=by
 unfold N4;rw[List.getElem?_eq_getElem h]
theorem b81{w:List A6}{i:Nat}{k:Int}{s:d9}(h:¬i<w.length):N4 w i k s=false:=by
 unfold N4;rw[List.getElem?_eq_none (by omega)]
theorem c2K{w:List A6}{i:Nat}{e:Int}(h:i<w.length):atS w i e=w[i].2.2.2:=by
 unfold atS;rw[List.getElem?_eq_getElem h]
theorem b3U{w:List A6}{i:Nat}{e:Int}(h:¬i<w.length):atS w i e=e:=by
 unfold atS;rw[List.getElem?_eq_none (by omega)]
theorem c5l{w:List A6}{i:Nat}(h:i<w.length):slc (w.drop i) 1 ((w.drop i).length:Int)=some (w.drop (i+1)):=by
 have:=b3t (w.drop i) (i:=1) (by simp;omega);rw[List.drop_drop]at this;exact this
theorem c91(w:List A6)(i:Nat)(k:Int)(s:d9)(e d:Int):a1n N k s (w.drop i) e d=some (N4 w i k s,w.drop i,e,d):=by
 unfold a1n;by_cases h:i<w.length
 ·rw[c9m h,d7,b4t h,a8,b10 h];cases w[i].1==k<;>simp
 ·rw[c9l h,d6,b81 h]
theorem X6{w:List A6}{i:Nat}{k:Int}{s:d9}{e d:Int}(h:N4 w i k s=true):l6 N k s (w.drop i) e d=some (true,w.drop (i+1),e,d):=by
 unfold l6;rw[c91,h];simp only[a8,Bool.not_true,d6,c5l (I5 h)]
theorem U3{w:List A6}{i:Nat}{k:Int}{s:d9}{e d:Int}(h:N4 w i k s=false):l6 N k s (w.drop i) e d=some (false,w.drop i,e,d):=by
 unfold l6;rw[c91,h];simp only[a8,Bool.not_false,d7]
theorem b9t(w:List A6)(i:Nat)(e d:Int):C5 N (w.drop i) e d=some (atS w i e,w.drop i,e,d):=by
 unfold C5;by_cases h:i<w.length
 ·rw[a8n h,d6,b4t h,a8,c2K h]
 ·rw[b3j h,d7,b3U h]
theorem a4C(w:List A6)(i:Nat)(e d:Int):n8 N (w.drop i) e d=some (.error (atS w i e)):=by
 unfold n8;rw[b9t]
theorem a0P{w:List A6}{i:Nat}{s:d9}{e d:Int}(h:N4 w i 4 s=true):k6 N s (w.drop i) e d=some (.ok (w.drop (i+1),e,d)):=by
 unfold k6;rw[X6 h];simp only[a8,Bool.not_true,d6]
theorem a0O{w:List A6}{i:Nat}{s:d9}{e d:Int}(h:N4 w i 4 s=false):k6 N s (w.drop i) e d=some (.error (atS w i e)):=by
 unfold k6;rw[U3 h];simp only[a8,Bool.not_false,d7,a4C,k7]
theorem d8y{w:List A6}{i:Nat}{s:d9}{e d:Int}(h:N4 w i 1 s=true):Q5 N s (w.drop i) e d=some (.ok (w.drop (i+1),e,d)):=by
 unfold Q5;rw[X6 h];simp only[a8,Bool.not_true,d6]
theorem d8x{w:List A6}{i:Nat}{s:d9}{e d:Int}(h:N4 w i 1 s=false):Q5 N s (w.drop i) e d=some (.error (atS w i e)):=by
 unfold Q5;rw[U3 h];simp only[a8,Bool.not_false,d7,a4C,k7]
theorem a0r{w:List A6}{i:Nat}{s:d9}(h:X1 w i=some s):∃hi:i<w.length,w[i].1=1/\w9 w[i].2.1=true/\w[i].2.1=s:=by
 unfold X1 at h;cases hw:w[i]? with
 |none=>rw[hw]at h;cases h
 |some t=>
  obtain⟨hi,rfl⟩:=List.getElem?_eq_some_iff.1 hw;rw[hw]at h;simp only[Option.ite_none_right_eq_some,Bool.and_eq_true,beq_iff_eq,Option.some.injEq]at h;exact⟨hi,h.1.1,h.1.2,h.2⟩
theorem a5i{w:List A6}{i:Nat}{s:d9}(h:a4H w i=some s):∃hi:i<w.length,w[i].1=2/\w[i].2.1=s:=by
 unfold a4H at h;cases hw:w[i]? with
 |none=>rw[hw]at h;cases h
 |some t=>
  obtain⟨hi,rfl⟩:=List.getElem?_eq_some_iff.1 hw;rw[hw]at h;simp only[Option.ite_none_right_eq_some,beq_iff_eq,Option.some.injEq]at h;exact⟨hi,h.1,h.2⟩
theorem b9E{w:List A6}(hw:∀t∈w,a42 t){i:Nat}(h:i<w.length):w[i].2.1.length<=maxLen:=by
 have:=(hw _ (List.getElem_mem h)).2;unfold maxLen;omega
theorem a9I(hN:I1<=N){w:List A6}(hw:∀t∈w,a42 t){i:Nat}{s:d9}{e d:Int}(h:X1 w i=some s):o4 N (w.drop i) e d=some (.ok (s,w.drop (i+1),e,d)):=by
 obtain⟨hi,h1,h2,rfl⟩:=a0r h;unfold o4;rw[a8n hi,d6,b4t hi,a8,h1];simp only[a8,M9 hN _ (b9E hw hi),h2,c5l hi,Bool.not_true,d6,show((1:Int) !=1)=false by decide]
theorem a6e(hN:I1<=N){w:List A6}(hw:∀t∈w,a42 t){i:Nat}{e d:Int}(h:X1 w i=none):o4 N (w.drop i) e d=some (.error (atS w i e)):=by
 unfold o4;by_cases hi:i<w.length
 ·rw[a8n hi,d6,b4t hi,a8];unfold X1 at h;rw[List.getElem?_eq_getElem hi]at h;simp only[a8,M9 hN _ (b9E hw hi),a4C,k7];by_cases h1:w[i].1=1
  ·have h2:w9 w[i].2.1=false:=by simpa [h1]using h
   simp only[h1,h2,Bool.not_false,d7,d6,show((1:Int) !=1)=false by decide]
  ·rw[show(w[i].1 !=1)=true by simpa using h1,d7]
 ·rw[b3j hi,d7,a4C,k7]
theorem b9C{w:List A6}{i:Nat}{s:d9}{e d:Int}(h:a4H w i=some s):s6 N (w.drop i) e d=some (.ok (s,w.drop (i+1),e,d)):=by
 obtain⟨hi,h1,h3⟩:=a5i h;unfold s6;rw[a8n hi,d6,b4t hi,a8,h1];simp only[a8,c5l hi,h3,d6,show((2:Int) !=2)=false by decide]
theorem c3M{w:List A6}{i:Nat}{e d:Int}(h:a4H w i=none):s6 N (w.drop i) e d=some (.error (atS w i e)):=by
 unfold s6;by_cases hi:i<w.length
 ·rw[a8n hi,d6,b4t hi,a8];unfold a4H at h;rw[List.getElem?_eq_getElem hi]at h;simp only[a4C,k7];have h1:w[i].1≠2:=by simpa using h
  rw[show(w[i].1 !=2)=true by simpa using h1,d7]
 ·rw[b3j hi,d7,a4C,k7]
abbrev Mk:Type:=List (Int×Int)
theorem Y8(w:List A6)(i:Nat)(k:Int)(s:d9)(e p:Int):F9 N (w,(i:Int),e,false,p) k s=some (N4 w i k s):=by
 unfold F9;simp only[Bool.not_false,d7];by_cases h:i<w.length
 ·rw[S1 h,d7,m6 _ h,a8,b10 h];cases w[i].1==k<;>simp
 ·rw[decide_eq_false (show ¬(i:Int)<(w.length:Int) by omega),d6,b81 h]
theorem c5H(w:List A6)(a:Int)(k:Int)(s:d9)(e p:Int):F9 N (w,a,e,true,p) k s=some false:=by
 unfold F9;simp only[Bool.not_true,d6]
theorem a2j(w:List A6)(i:Nat)(e p:Int)(b:Bool):a2H N (w,(i:Int),e,b,p)=some (atS w i e):=by
 unfold a2H;simp only;by_cases h:i<w.length
 ·rw[S1 h,d7,m6 _ h,a8,c2K h]
 ·rw[decide_eq_false (show ¬(i:Int)<(w.length:Int) by omega),d6,b3U h]
theorem b4F{w:List A6}(hl:w.length<=50000){i:Nat}(h:i<w.length):IntKind.i64.wrap ((i:Int)+1)=((i+1:Nat):Int):=Q1 (by omega) (by omega)
theorem F0{w:List A6}(hl:w.length<=50000){i:Nat}{k:Int}{s:d9}{e p:Int}{M:Mk}(h:N4 w i k s=true):l5 N k s (i:Int) e false p w M=some (true,((i+1:Nat):Int),e,false,p,w,M):=by
 unfold l5;rw[Y8,h];simp only[a8,d7,b4F hl (I5 h)]
theorem p8{w:List A6}{i:Nat}{k:Int}{s:d9}{e p:Int}{M:Mk}(h:N4 w i k s=false):l5 N k s (i:Int) e false p w M=some (false,(i:Int),e,false,p,w,M):=by
 unfold l5;rw[Y8,h];simp only[a8,d6]
theorem S3{w:List A6}{a:Int}{k:Int}{s:d9}{e p:Int}{M:Mk}:l5 N k s a e true p w M=some (false,a,e,true,p,w,M):=by
 unfold l5;rw[c5H];simp only[a8,d6]
theorem a8v{w:List A6}{i:Nat}{e p:Int}{M:Mk}:v8 N (i:Int) e false p w M=some ((i:Int),e,true,atS w i e,w,M):=by
 unfold v8;simp only[Bool.not_false,d7,a2j,a8]
theorem b0p{w:List A6}{a:Int}{e p:Int}{M:Mk}:v8 N a e true p w M=some (a,e,true,p,w,M):=by
 unfold v8;simp only[Bool.not_true,d6]
theorem b9l{w:List A6}(hl:w.length<=50000){i:Nat}{k:Int}{s:d9}{e p:Int}{M:Mk}(h:N4 w i k s=true):M8 N k s (i:Int) e false p w M=some (((i+1:Nat):Int),e,false,p,w,M):=by
 unfold M8;rw[F0 hl h];simp only[a8,Bool.not_true,d6]
theorem c5J{w:List A6}{i:Nat}{k:Int}{s:d9}{e p:Int}{M:Mk}(h:N4 w i k s=false):M8 N k s (i:Int) e false p w M=some ((i:Int),e,true,atS w i e,w,M):=by
 unfold M8;rw[p8 h];simp only[a8,Bool.not_false,d7,a8v]
theorem c5I{w:List A6}{a:Int}{k:Int}{s:d9}{e p:Int}{M:Mk}:M8 N k s a e true p w M=some (a,e,true,p,w,M):=by
 unfold M8;rw[S3];simp only[a8,Bool.not_false,d7,b0p]
theorem x7{w:List A6}(hl:w.length<=50000){i:Nat}{s:d9}{e p:Int}{M:Mk}(h:N4 w i 4 s=true):k8 N s (i:Int) e false p w M=some (((i+1:Nat):Int),e,false,p,w,M):=by
 unfold k8;rw[b9l hl h,a8]
theorem W9{w:List A6}{i:Nat}{s:d9}{e p:Int}{M:Mk}(h:N4 w i 4 s=false):k8 N s (i:Int) e false p w M=some ((i:Int),e,true,atS w i e,w,M):=by
 unfold k8;rw[c5J h,a8]
theorem G8{w:List A6}{a:Int}{s:d9}{e p:Int}{M:Mk}:k8 N s a e true p w M=some (a,e,true,p,w,M):=by
 unfold k8;rw[c5I,a8]
theorem d7e{w:List A6}(hl:w.length<=50000){i:Nat}(h:i<w.length):m7 w (IntKind.i64.wrap (((i+1:Nat):Int)-1))=some w[i]:=by
 rw[c72 (by omega),show((i+1:Nat):Int)-1=(i:Int) by omega,m6 _ h]
theorem a1M(hN:I1<=N){w:List A6}(hl:w.length<=50000)(hw:∀t∈w,a42 t){i:Nat}{s:d9}{e p:Int}{M:Mk}(h:X1 w i=some s):y7 N (i:Int) e false p w M=some (s,((i+1:Nat):Int),e,false,p,w,M):=by
 obtain⟨hi,h1,h2,rfl⟩:=a0r h;unfold y7;rw[decide_eq_false (show ¬(i:Int)>=(w.length:Int) by omega)];simp only[d6,m6 _ hi,a8,h1,a2J hN _ (b9E hw hi),h2,Bool.not_true,b4F hl hi,d7e hl hi,show((1:Int) !=1)=false by decide]
theorem a5g(hN:I1<=N){w:List A6}(hw:∀t∈w,a42 t){i:Nat}{e p:Int}{M:Mk}(h:X1 w i=none):y7 N (i:Int) e false p w M=some (([]:d9),(i:Int),e,true,atS w i e,w,M):=by
 unfold y7;simp only[d6,a8v,a8];by_cases hi:i<w.length
 ·rw[decide_eq_false (show ¬(i:Int)>=(w.length:Int) by omega)];unfold X1 at h;rw[List.getElem?_eq_getElem hi]at h;simp only[d6,m6 _ hi,a8,a2J hN _ (b9E hw hi)];by_cases h1:w[i].1=1
  ·have h2:w9 w[i].2.1=false:=by simpa [h1]using h
   simp only[h1,h2,Bool.not_false,d7,d6,show((1:Int) !=1)=false by decide]
  ·rw[show(w[i].1 !=1)=true by simpa using h1,d7]
 ·rw[decide_eq_true (show(i:Int)>=(w.length:Int) by omega),d7]
theorem b0s{w:List A6}(hl:w.length<=50000){i:Nat}{s:d9}{e p:Int}{M:Mk}(h:a4H w i=some s):a0a N (i:Int) e false p w M=some (s,((i+1:Nat):Int),e,false,p,w,M):=by
 obtain⟨hi,h1,h3⟩:=a5i h;unfold a0a;rw[decide_eq_false (show ¬(i:Int)>=(w.length:Int) by omega)];simp only[d6,m6 _ hi,a8,h1,b4F hl hi,d7e hl hi,h3,show((2:Int) !=2)=false by decide]
theorem b9q{w:List A6}{i:Nat}{e p:Int}{M:Mk}(h:a4H w i=none):a0a N (i:Int) e false p w M=some (([]:d9),(i:Int),e,true,atS w i e,w,M):=by
 unfold a0a;simp only[d6,a8v,a8];by_cases hi:i<w.length
 ·rw[decide_eq_false (show ¬(i:Int)>=(w.length:Int) by omega)];unfold a4H at h;rw[List.getElem?_eq_getElem hi]at h;simp only[d6,m6 _ hi,a8];have h1:w[i].1≠2:=by simpa using h
  rw[show(w[i].1 !=2)=true by simpa using h1,d7]
 ·rw[decide_eq_true (show(i:Int)>=(w.length:Int) by omega),d7]
theorem b2O{n s:Nat}(hs:s<=100)(h:n<=1000000):decide (n*(24*s)<=140737488355328)=true:=by
 have h1:n*(24*s)<=1000000*(24*100):=Nat.mul_le_mul h (Nat.mul_le_mul_left 24 hs);exact decide_eq_true (by omega)
theorem a3r{w:List A6}{i:Nat}{x e p:Int}{b:Bool}{M:Mk}(hM:M.length<=200000):a0t N x (i:Int) e b p w M=some ((i:Int),e,b,p,w,M ++ [(atS w i e,x)]):=by
 unfold a0t;simp only[a2j,a8,C2,p7,b2O (s:=Ty.sz (.pr (.int .i64) (.int .i64))) (by decide) (show M.length + [(atS w i e,x)].length<=1000000 by simp;omega),d7]
def dp1(d:Int)(m:Int×Int):Int:=if m.2>=30 then(if d<0 then m.1 else d)else d
def dp(d:Int)(M:Mk):Int:=M.foldl dp1 d
theorem a4n(d:Int)(M K:Mk):dp d (M++K)=dp (dp d M) K:=by unfold dp;rw[List.foldl_append]
theorem a8o(a x:Int)(l:List A6)(e d:Int):W5 N a x l e d=some (l,e,dp1 d (a,x)):=by
 unfold W5 dp1;by_cases h:x>=30
 ·rw[decide_eq_true h,d7];by_cases h2:d<0
  ·rw[decide_eq_true h2,d7,if_pos h,if_pos h2]
  ·rw[decide_eq_false h2,d6,if_pos h,if_neg h2]
 ·rw[decide_eq_false h,d6,if_neg h]
end
section
abbrev Key:Type:=Int×d9×Int
inductive LK:d9->List Key->Prop
 |nil {u:d9}:W6 false u=[]->LK u []
 |cons {u v r t:d9} {k n:Int} {l:List Key}:W6 false u=v->a2y v=some (k,t,n,r)->LK r l->LK u ((k,t,n) :: l)
theorem a7G:∀(u:d9) (b:Bool),(W6 b u).length<=u.length
 |[],b=>by cases b<;>simp[W6]
 |c :: r,true=>by rw[W6];have:=a7G r (c !=10);simp;omega
 |c :: r,false=>by
  have h1:=a7G r false;have h2:=a7G r true;rw[W6]
  repeat' split
  all_goals simp only[List.length_cons]at *;omega
theorem d5s{u t r:d9}{k n:Int}(h:a2y u=some (k,t,n,r)):r.length<=u.length:=by
 obtain⟨b,e,_,_⟩:=b5l h;rw[e,List.length_append];omega
theorem LK.lx{u:d9}{ks:List Key}(h:LK u ks):∀L,u.length<=L->∃l,LX L u l/\l.map d7Z=ks:=by
 induction h with
 |nil h=>exact fun L _=>⟨[],.nil h,rfl⟩
 |@cons u v r t k n l h1 h2 _ ih=>
  intro L hL;have h3:v.length<=L:=by rw[<-h1];exact Nat.le_trans (a7G u false) hL
  obtain⟨l',g1,g2⟩:=ih L (Nat.le_trans (d5s h2) h3);exact⟨_,.cons h1 h2 h3 g1,by rw[List.map_cons,g2];rfl⟩
theorem LK.congr{u u':d9}{l:List Key}(e:W6 false u'=W6 false u)(h:LK u l):LK u' l:=by
 cases h with
 |nil h=>exact .nil (e.trans h)
 |cons h1 h2 h3=>exact .cons (e.trans h1) h2 h3
def bdB(c:UInt8):Bool:=!H6 c&&c !=61
def PcE(r:d9):Prop:=∀c y,r=c :: y->bdB c=true
def BdH:d9->Bool | []=>false|c :: _=>bdB c
theorem PcE.of{b:d9}(h:BdH b=true)(r:d9):PcE (b++r):=by
 cases b with
 |nil=>cases h
 |cons c b=>intro c' y e;cases e;exact h
def PcA(b:d9)(ks:List Key):Prop:=∀r l,PcE r->LK r l->LK (b++r) (ks++l)
def PcB(b:d9)(ks:List Key):Prop:=∀r l,LK r l->LK (b++r) (ks++l)
section
variable{a b:d9}{ks js:List Key}
theorem PcB.lx(h:PcB a ks):PcA a ks:=fun r l _ hl=>h r l hl
theorem PcB.app(h:PcB a ks)(g:PcB b js):PcB (a++b) (ks++js):=fun r l hl=>by rw[List.append_assoc,List.append_assoc];exact h _ _ (g _ _ hl)
theorem PcB.app'(h:PcB a ks)(g:PcA b js):PcA (a++b) (ks++js):=fun r l hb hl=>by rw[List.append_assoc,List.append_assoc];exact h _ _ (g _ _ hb hl)
theorem PcA.app1(h:PcA a ks)(g:PcB b js)(hb:BdH b=true):PcB (a++b) (ks++js):=fun r l hl=>by rw[List.append_assoc,List.append_assoc];exact h _ _ (PcE.of hb r) (g _ _ hl)
theorem PcA.app(h:PcA a ks)(g:PcA b js)(hb:BdH b=true):PcA (a++b) (ks++js):=fun r l hr hl=>by rw[List.append_assoc,List.append_assoc];exact h _ _ (PcE.of hb r) (g _ _ hr hl)
theorem PcB.nil:PcB [] []:=fun _ _ h=>h
end
theorem c0K{c:UInt8}(h:c=32\/c=10):PcB [c] []:=fun r l hl=>by
 refine LK.congr ?_ hl;rcases h with rfl|rfl<;>simp[W6]
theorem a2G:PcB [32] []:=c0K (.inl rfl)
theorem e0g:PcB [10] []:=c0K (.inr rfl)
theorem c9q:∀n,PcB (List.replicate n 32) []
 |0=>PcB.nil
 |n+1=>PcB.app (a:=[32]) (ks:=[]) a2G (c9q n)
theorem a8w{c:UInt8}{r:d9}(h:(c !=32&&c !=9&&c !=10&&c !=13&&c !=35)=true):W6 false (c :: r)=c :: r:=by
 simp only[Bool.and_eq_true,bne_iff_ne]at h;rw[W6,if_neg h.1.1.1.1,if_neg h.1.1.1.2,if_neg h.1.1.2,if_neg h.1.2,if_neg h.2]
def a4D(c:UInt8):Bool:=!(decide (c>=97)&&decide (c<=122)) && !M4 c&&c !=34&&c1h c&&c !=61&&(c !=32&&c !=9&&c !=10&&c !=13&&c !=35)
theorem Q8{c:UInt8}(h:a4D c=true):PcB [c] [(4,[c],0)]:=fun r l hl=>by
 unfold a4D at h;obtain⟨h,h6⟩:=Bool.and_eq_true_iff.1 h;obtain⟨h,h5⟩:=Bool.and_eq_true_iff.1 h;obtain⟨h,h4⟩:=Bool.and_eq_true_iff.1 h;obtain⟨h,h3⟩:=Bool.and_eq_true_iff.1 h;obtain⟨h1,h2⟩:=Bool.and_eq_true_iff.1 h;refine .cons (a8w h6) ?_ hl;rw[Bool.not_eq_true']at h1 h2;rw[bne_iff_ne]at h3 h5;show a2y (c :: r)=_;rw[a2y,if_neg (by rw[h1];decide),if_neg (by rw[h2];decide),if_neg h3,if_pos h4,if_neg (fun e=>h5 e.1)]
theorem d41:PcB [61,61] [(4,[61,61],0)]:=fun r l hl=>by
 refine .cons (a8w (by decide)) ?_ hl;show a2y (61 :: 61 :: r)=_;rw[a2y,if_neg (by decide),if_neg (by decide),if_neg (by decide),if_pos (by decide),if_pos ⟨rfl,rfl⟩];rfl
theorem e0f:PcA [61] [(4,[61],0)]:=fun r l hb hl=>by
 refine .cons (a8w (by decide)) ?_ hl;show a2y (61 :: r)=_;rw[a2y,if_neg (by decide),if_neg (by decide),if_neg (by decide),if_pos (by decide),if_neg (fun e=>?_)];obtain⟨_,e⟩:=e;cases r with
 |nil=>cases e
 |cons c r=>
  have h1:c=61:=by simpa using e
  have h2:=hb c r rfl;rw[h1]at h2;exact absurd h2 (by decide)
theorem b9F(p:UInt8->Bool):∀(b r:d9),(∀c∈b,p c=true)->(∀c y,r=c :: y->p c=false)->(b++r).takeWhile p=b/\(b++r).dropWhile p=r
 |[],[],_,_=>⟨rfl,rfl⟩
 |[],c :: r,_,h=>by simp[List.takeWhile_cons,List.dropWhile_cons,h c r rfl]
 |a :: b,r,h1,h2=>by
  have:=b9F p b r (fun c hc=>h1 c (by simp[hc])) h2;have ha:=h1 a (by simp);rw[List.cons_append,List.takeWhile_cons,List.dropWhile_cons,if_pos ha,if_pos ha,this.1,this.2];exact⟨rfl,rfl⟩
theorem c93{c:UInt8}(h:(decide (c>=97)&&decide (c<=122))=true):(c !=32&&c !=9&&c !=10&&c !=13&&c !=35)=true:=by
 simp only[Bool.and_eq_true,decide_eq_true_eq,bne_iff_ne]at h ⊢;refine⟨⟨⟨⟨?_,?_⟩,?_⟩,?_⟩,?_⟩<;>(rintro rfl;exact absurd h.1 (by decide))
def c57(q:d9):Bool:=(match q with | []=>false|c :: _=>decide (c>=97)&&decide (c<=122))&&q.all H6&&decide (q.length<=40)
theorem a3T{q:d9}(h:c57 q=true):PcA q [(1,q,0)]:=fun r l hb hl=>by
 cases q with
 |nil=>cases h
 |cons c q=>
  unfold c57 at h;obtain⟨h,h3⟩:=Bool.and_eq_true_iff.1 h;obtain⟨h1,h2⟩:=Bool.and_eq_true_iff.1 h;have h1:(decide (c>=97)&&decide (c<=122))=true:=h1;have ht:=b9F H6 (c :: q) r (fun x hx=>List.all_eq_true.1 h2 x hx) (fun x y e=>by
   have:=hb x y e;unfold bdB at this;simp only[Bool.and_eq_true,Bool.not_eq_true']at this;exact this.1)
  have h3:=of_decide_eq_true h3;refine .cons (a8w (c93 h1)) ?_ hl;have e:c :: q++r=c :: (q++r):=rfl;rw[<-e]at *;show a2y (c :: (q++r))=_;rw[a2y,if_pos h1];have e1:(c :: (q++r)).takeWhile H6=c :: q:=ht.1;have e2:(c :: (q++r)).dropWhile H6=r:=ht.2;rw[e1,e2,if_neg (by omega)]
theorem d7V{c:UInt8}(h:M4 c=true):(c !=32&&c !=9&&c !=10&&c !=13&&c !=35)=true/\¬(decide (c>=97)&&decide (c<=122))=true:=by
 unfold M4 at h;simp only[Bool.and_eq_true,decide_eq_true_eq,bne_iff_ne]at h ⊢;refine⟨⟨⟨⟨⟨?_,?_⟩,?_⟩,?_⟩,?_⟩,fun hc=>?_⟩
 ·rintro rfl;exact absurd h.1 (by decide)
 ·rintro rfl;exact absurd h.1 (by decide)
 ·rintro rfl;exact absurd h.1 (by decide)
 ·rintro rfl;exact absurd h.1 (by decide)
 ·rintro rfl;exact absurd h.1 (by decide)
 ·have h1:=UInt8.le_iff_toNat_le.1 h.2;have h2:=UInt8.le_iff_toNat_le.1 hc.1;simp at h1 h2;omega
theorem d4N:∀(n:Nat),(∀c∈Lib.decDigits n,M4 c=true)/\Lib.decDigits n ≠ []/\(∀acc,b89 acc (Lib.decDigits n)=acc*10 ^ (Lib.decDigits n).length+n)/\((Lib.decDigits n).head? = some 48->n=0):=by
 intro n;induction n using Nat.strongRecOn with
 |_ n ih=>
  have dg:∀d:Nat,d<10->M4 (UInt8.ofNat (48+d))=true/\(UInt8.ofNat (48+d)).toNat=48+d:=by
   intro d hd;have:d=0\/d=1\/d=2\/d=3\/d=4\/d=5\/d=6\/d=7\/d=8\/d=9:=by omega
   rcases this with rfl|rfl|rfl|rfl|rfl|rfl|rfl|rfl|rfl|rfl<;>decide
  by_cases h:n<10
  ·rw[Lib.decDigits_one h];obtain⟨h1,h2⟩:=dg n h;refine⟨fun c hc=>by rw[List.mem_singleton.1 hc];exact h1,by simp,fun acc=>?_,fun e=>?_⟩
   ·simp only[b89,List.foldl_cons,List.foldl_nil,h2,List.length_cons,List.length_nil];omega
   ·have:UInt8.ofNat (48+n)=48:=by simpa using e
    rw[this]at h2;have h3:(48:UInt8).toNat=48:=by decide
    omega
  ·rw[Lib.decDigits,dif_neg h];obtain⟨i1,i2,i3,i4⟩:=ih (n / 10) (by omega);obtain⟨h1,h2⟩:=dg (n % 10) (by omega);refine⟨fun c hc=>?_,by simp,fun acc=>?_,fun e=>?_⟩
   ·rcases List.mem_append.1 hc with hc|hc
    ·exact i1 c hc
    ·rw[List.mem_singleton.1 hc];exact h1
   ·have:=i3 acc;unfold b89 at this ⊢;rw[List.foldl_append,this];simp only[List.foldl_cons,List.foldl_nil,h2,List.length_append,List.length_cons,List.length_nil,Nat.zero_add,Nat.pow_add,Nat.pow_one];rw[show 48+n % 10-48=n % 10 by omega,Nat.add_mul,Nat.mul_assoc];omega
   ·have:=i4 (by
     cases hd:Lib.decDigits (n / 10)with
     |nil=>exact absurd hd i2
     |cons c t=>rw[hd]at e;simpa using e)
    omega
theorem b8T:∀(k n:Nat),n<10 ^ (k+1)->(Lib.decDigits n).length<=k+1
 |0,n,h=>by rw[Lib.decDigits_one (by omega)];simp
 |k+1,n,h=>by
  by_cases h10:n<10
  ·rw[Lib.decDigits_one h10];simp
  ·rw[Lib.decDigits,dif_neg h10,List.length_append];have:=b8T k (n / 10) (by rw[Nat.pow_succ]at h;omega);simp;omega
theorem d72{n:Nat}(h:n<=999999999):PcA (Lib.decDigits n) [(3,[],(n:Int))]:=fun r l hb hl=>by
 obtain⟨h1,h2,h3,h4⟩:=d4N n;have h5:=b8T 8 n (by omega);generalize hq:Lib.decDigits n=q at *;cases q with
 |nil=>exact absurd rfl h2
 |cons c q=>
  have hc:=h1 c (by simp);obtain⟨g1,g2⟩:=d7V hc;have ht:=b9F M4 (c :: q) r h1 (fun x y e=>by
   have:=hb x y e;unfold bdB H6 at this;simp only[Bool.and_eq_true,Bool.not_eq_true',Bool.or_eq_false_iff]at this;exact this.1.2.1)
  refine .cons (a8w g1) ?_ hl;show a2y (c :: (q++r))=_;have e1:(c :: (q++r)).takeWhile M4=c :: q:=ht.1;have e2:(c :: (q++r)).dropWhile M4=r:=ht.2;rw[a2y,if_neg g2,if_pos hc,e1,e2,if_neg (by omega),if_neg,h3 0]
  ·simp
  ·rintro⟨rfl,hl2⟩;have hn:=h4 rfl;subst hn;rw[Lib.decDigits_one (by omega)]at hq;cases hq;simp at hl2
theorem b8e:∀(t r acc:d9),t.all O5=true->G3 (rpE t++34 :: r) acc=some (acc++t,r)
 |[],r,acc,_=>by simp[rpE,b9B]
 |c :: t,r,acc,h=>by
  rw[List.all_cons,Bool.and_eq_true_iff]at h;obtain⟨h1,h2⟩:=h;have e:rpE (c :: t)++34 :: r=rpF c++(rpE t++34 :: r):=by unfold rpE;rw[List.flatMap_cons,List.append_assoc]
  have ih:=fun acc=>b8e t r acc h2
  rw[e];unfold rpF;by_cases g1:c=92
  ·subst g1;simp only[if_pos];show G3 (92 :: 92 :: (rpE t++34 :: r)) acc=_;rw[a6s,if_neg (by decide),if_pos rfl,ih];simp
  by_cases g2:c=34
  ·subst g2;show G3 (92 :: 34 :: (rpE t++34 :: r)) acc=_;rw[a6s,if_pos rfl,ih];simp
  by_cases g3:c=10
  ·subst g3;show G3 (92 :: 110 :: (rpE t++34 :: r)) acc=_;rw[a6s,if_neg (by decide),if_neg (by decide),if_pos rfl,ih];simp
  simp only[if_neg g1,if_neg g2,if_neg g3];have hb:¬c<32/\¬c>126:=by
   unfold O5 at h1;simp only[Bool.or_eq_true,beq_iff_eq,Bool.and_eq_true,Bool.not_eq_true',decide_eq_false_iff_not]at h1;rcases h1 with h1|h1
   ·exact absurd h1 g3
   ·exact h1
  show G3 (c :: (rpE t++34 :: r)) acc=_;rw[b9A g2 hb.1 hb.2 g1,ih];simp
theorem b85{t:d9}(h:t.all O5=true):PcB (rpQ t) [(2,t,0)]:=fun r l hl=>by
 refine .cons (a8w (c:=34) (by decide)) ?_ hl;show a2y (34 :: (rpE t ++ [34]++r))=_;rw[a2y,if_neg (by decide),if_neg (by decide),if_pos rfl,List.append_assoc];show(G3 (rpE t++34 :: r) []).map _=_;rw[b8e t r [] h];rfl
end
end Go.Proofs.YtolpmfhiegpohaaGreatDoor
