/- % -/
import Derived.WalkKit
import Derived.Lib.Hide
import Derived.Deep.Draws
import Derived.Maps.AppendAt
import Derived.OwnWalk
import Derived.Test.YtckdohagilcloaaGreatDoorQBm1
import Derived.MapKept
namespace Go.Proofs.YtckdohagilcloaaGreatDoor
set_option linter.unusedVariables false
set_option linter.unusedSimpArgs false
open Go Go.RowKit
section
theorem b8G(a:Addr)(n:Nat):(a.add n).block=a.block:=by unfold Addr.add;split<;>rfl
theorem a1Z(a:Addr)(i j:Nat):(a.add i).add j=a.add (i+j):=by
 unfold Addr.add;by_cases hi:i=0<;>by_cases hj:j=0<;>simp[hi,hj,Nat.add_assoc]
def Ext(w w':World):Prop:=Below w.heap.size w w'
theorem Ext.refl(w:World):Ext w w:=Below.refl _ _
theorem Ext.size{w w':World}(h:Ext w w'):w.heap.size<=w'.heap.size:=Below.size h
theorem Ext.trans{a b c:World}(h:Ext a b)(k:Ext b c):Ext a c:=Below.trans h (Below.mono k h.size)
theorem Ext.alloc{a w:World}(h:Ext a w)(o:Obj):Ext a (w.alloc o):=Below.alloc h h.size o
theorem Ext.drew{a w:World}(h:Ext a w):Ext a w.drew:=Below.drew h
theorem Ext.drewN{a w:World}(h:Ext a w)(n:Nat):Ext a (w.drewN n):=⟨h.os,h.tape,h.output,h.size,h.block⟩
theorem Ext.set_{a w:World}(h:Ext a w){p:Addr}(hp:a.heap.size<=p.block)(u:Value):Ext a (w.setCell p u):=Below.setCell h hp u
theorem Ext.grown{a w w':World}{row:Option Nat}(h:Ext a w)(hg:w.grownBy w' row)(hr:∀k,row=some k->a.heap.size<=k):Ext a w':=Below.grown h hg h.size hr
theorem Ext.cell{w w':World}(h:Ext w w'){a:Addr}{v:Value}(hc:w.cell? a=some v):w'.cell? a=some v:=
 (Below.cell h (World.block_lt_of_cell? w a hc)).trans hc
theorem Ext.own{w w':World}(h:Ext w w'){base:Nat}{e:TypeId}{size:Nat}{v:Value}{n:Nat}{xs:List Value}(ho:w.ownsRow base e size v n xs):w'.ownsRow base e size v n xs:=by
 obtain⟨h1,h2⟩:=ho;refine⟨h1,?_⟩;rcases h2 with h2|⟨g,cap,cur,hv,hg,hh,r⟩
 ·exact Or.inl h2
 ·have hlt:g<w.heap.size:=by
   rcases Nat.lt_or_ge g w.heap.size with h'|h'
   ·exact h'
   ·rw[Array.getElem?_eq_none h']at hh;cases hh
  exact Or.inr ⟨g,cap,cur,hv,hg,(h.block g hlt).trans hh,r⟩
def Row(w:World)(A:Option Addr)(xs:List Value):Prop:=xs ≠ []->∃ad,A=some ad/\∀j u,xs[j]? = some u->w.cell? (ad.add j)=some u
theorem Row.nil(w:World)(A:Option Addr):Row w A []:=fun h=>absurd rfl h
theorem Row.ext{w w':World}{A:Option Addr}{xs:List Value}(hr:Row w A xs)(h:Ext w w'):Row w' A xs:=fun hn=>
 let ⟨ad,e,hc⟩:=hr hn;⟨ad,e,fun j u hu=>h.cell (hc j u hu)⟩
theorem Row.at_{w:World}{A:Option Addr}{xs:List Value}(hr:Row w A xs){k:Nat}{u:Value}(hk:xs[k]? = some u):∃ad,A=some ad/\w.cell? (ad.add k)=some u:=by
 obtain⟨ad,e,hc⟩:=hr (by rintro rfl;simp at hk);exact⟨ad,e,hc k u hk⟩
theorem Row.drop{w:World}{A:Option Addr}{xs:List Value}(hr:Row w A xs)(k:Nat):Row w (A.map (·.add k)) (xs.drop k):=fun hn=>by
 obtain⟨ad,rfl,hc⟩:=hr (by rintro rfl;simp at hn);exact⟨ad.add k,rfl,fun j u hu=>by rw[a1Z];exact hc _ u (by rw[<-hu,List.getElem?_drop])⟩
theorem Row.take{w:World}{A:Option Addr}{xs:List Value}(hr:Row w A xs)(k:Nat):Row w A (xs.take k):=fun hn=>by
 obtain⟨ad,rfl,hc⟩:=hr (by rintro rfl;simp at hn);refine⟨ad,rfl,fun j u hu=>hc _ u ?_⟩;rw[List.getElem?_take]at hu;split at hu
 ·exact hu
 ·cases hu
theorem Row.of_own{w:World}{base:Nat}{e:TypeId}{size:Nat}{A:Option Addr}{n c:Nat}{xs:List Value}(h:w.ownsRow base e size (.slice A n c) n xs):Row w A xs:=fun hn=>by
 rcases h.2 with⟨_,rfl⟩|⟨g,cap,cur,hv,_⟩
 ·exact absurd (List.eq_nil_of_length_eq_zero (by simpa using h.1)) hn
 ·injection hv with hA
  subst hA;exact⟨_,rfl,h.cells (g:=g) rfl⟩
def bcs(l:List UInt8):List Value:=l.map fun x=> .int .u8 x.toNat
theorem c6l(l:List UInt8):(bcs l).length=l.length:=by simp[bcs]
theorem c4r(l:List UInt8){k:Nat}(h:k<l.length):(bcs l)[k]? = some (.int .u8 l[k].toNat):=by
 unfold bcs;rw[List.getElem?_map,List.getElem?_eq_getElem h];rfl
def Bs(w:World)(v:Value)(l:List UInt8):Prop:=∃A c,v = .slice A l.length c/\l.length<=c/\c<=maxLen/\Row w A (bcs l)
theorem Bs.ext{w w':World}{v:Value}{l:List UInt8}(hb:Bs w v l)(h:Ext w w'):Bs w' v l:=
 let ⟨A,c,e,h1,h2,hr⟩:=hb;⟨A,c,e,h1,h2,hr.ext h⟩
theorem Bs.nil(w:World):Bs w (.slice none 0 0) []:=⟨none,0,rfl,Nat.le_refl _,Nat.zero_le _,Row.nil _ _⟩
def Vs(w:World)(v:Value)(xs:List Value):Prop:=∃A c,v = .slice A xs.length c/\xs.length<=c/\c<=maxLen/\Row w A xs
theorem Vs.ext{w w':World}{v:Value}{xs:List Value}(hb:Vs w v xs)(h:Ext w w'):Vs w' v xs:=
 let ⟨A,c,e,h1,h2,hr⟩:=hb;⟨A,c,e,h1,h2,hr.ext h⟩
theorem Vs.nil(w:World):Vs w (.slice none 0 0) []:=⟨none,0,rfl,Nat.le_refl _,Nat.zero_le _,Row.nil _ _⟩
theorem Vs.of_own{w:World}{base:Nat}{e:TypeId}{v:Value}{n:Nat}{xs:List Value}(h:w.ownsRow base e 1 v n xs):Vs w v xs:=by
 have hn:xs.length=n:=by have:=h.1;omega
 have h':=h;rcases h.2 with⟨rfl,rfl⟩|⟨g,cap,cur,rfl,_,_,h1,h2,_⟩
 ·rw[List.eq_nil_of_length_eq_zero hn];exact Vs.nil w
 ·exact⟨_,cap,by rw[hn],by omega,h2,Row.of_own h'⟩
theorem c4E(l:List UInt8):∀s:ByteArray,(l.map fun x=>(x.toNat:Int)).foldl (fun r n=>r.push (UInt8.ofNat n.toNat)) s=⟨s.data++l.toArray⟩:=by
 induction l with
 |nil=>intro s;simp
 |cons x l ih=>
  intro s;simp only[List.map_cons,List.foldl_cons];rw[ih];simp[ByteArray.push,UInt8.ofNat_toNat]
theorem a8k{P:Program}(w:World)(src dst e:TypeId)(A:Option Addr)(c:Nat)(l:List UInt8)
  (hs:P.underlying src=some (.slice e)) (he:P.underlying e=some (.int .u8)) (hd:P.underlying dst=some .string) (hr:Row w A (bcs l)):
  (convert src dst (.slice A l.length c)).run P w = .ok (.string ⟨l.toArray⟩) w:=by
 rw[run_convert_bytes_string w src dst e A l.length c hs he hd];rcases A with _|ad
 ·have:l=[]:=by
   rcases l with _|⟨x,l⟩
   ·rfl
   ·obtain⟨ad,h,_⟩:=hr (by simp[bcs]);cases h
  subst this;rfl
 ·have hl:=run_loadCells (P:=P) w ad l.length (fun j=> .int .u8 ((l[j]?.map UInt8.toNat).getD 0)) (fun j hj=>by
   obtain⟨ad',h,hc⟩:=hr.at_ (c4r l hj);injection h with h
   subst h;rw[hc,List.getElem?_eq_getElem hj];rfl)
  have e1:(List.range l.length).map (fun j=>Value.int .u8 ((l[j]?.map UInt8.toNat).getD 0:Nat))=((l.map fun x=>(x.toNat:Int)).map (Value.int .u8)):=by
   apply List.ext_getElem
   ·simp
   ·intro i h1 h2;have hi:i<l.length:=by simpa using h1
    simp[List.getElem?_eq_getElem hi]
  rw[e1]at hl;rw[run_bytesToString w ad l.length c _ hl,c4E];rw[show ByteArray.empty.data = #[]from rfl,Array.empty_append]
theorem Bs.cut{w:World}{A:Option Addr}{c n:Nat}{l:List UInt8}(hr:Row w A (bcs l))(hc:l.length<=c)(hm:c<=maxLen)(hn:n<=l.length):
  Bs w (.slice (if c=n then A else Option.map (fun x=>x.add n) A) (l.length-n) (c-n)) (l.drop n):=by
 refine⟨_,c-n,by rw[List.length_drop],by rw[List.length_drop];omega,by omega,?_⟩;by_cases h:c=n
 ·rw[List.drop_eq_nil_of_le (by omega)];exact Row.nil _ _
 ·rw[if_neg h];unfold bcs;rw[List.map_drop];exact hr.drop n
end
section
def ElemT(P:Program)(t e:TypeId)(size bytes:Nat):Prop:=P.underlying t=some (.slice e)/\0<size/\0<bytes/\∃i z,P.info? e=some i/\i.zero=some z/\i.size=size/\i.bytes=bytes/\z.cells.size=size
theorem ElemT.mk_{P:Program}{t e:TypeId}{z:Value}{size bytes:Nat}(ht:P.underlying t=some (.slice e))(hi:(P.info? e).map (fun i=>(i.zero,i.size,i.bytes))=some (some z,size,bytes))
  (hz:z.cells.size=size) (h0:0<size) (h1:0<bytes):ElemT P t e size bytes:=by
 obtain⟨i,a,b,c,d⟩:=info_parts hi;exact⟨ht,h0,h1,i,z,a,b,c,d,hz⟩
theorem a6f(P:Program)(w:World)(base:Nat)(t ty e:TypeId)(size bytes:Nat)(hT:ElemT P t e size bytes)
  (v:Value) (n:Nat) (xs:List Value) (hown:w.ownsRow base e size v n xs) (c:Nat):
  (Builtin.append_ #[t,t] ty #[v,.slice none 0 c]).run P w = .ok v w:=by
 obtain⟨ht,hsz,hb,i,z,hi,hz,hsize,hby,hzs⟩:=hT;rcases hown.2 with⟨rfl,rfl⟩|⟨g,cap,cur,rfl,_,_,hnc,_⟩
 ·simp[Builtin.append_,run_underlying ht,sizeOf,typeInfo,hi,Builtin.lenOf,Builtin.firstCells]
 ·simp[Builtin.append_,run_underlying ht,sizeOf,typeInfo,hi,Builtin.lenOf,Builtin.firstCells,hnc,storeCells]
section
variable{P:Program}{w0 w:World}
theorem e1b(t ty e:TypeId)(size bytes:Nat)(hT:ElemT P t e size bytes)
  (v:Value) (n:Nat) (xs:List Value) (hown:w.ownsRow w0.heap.size e size v n xs) (hE:Ext w0 w)
  (A:Option Addr) (m c:Nat) (news:List Value) (hl:news.length=m*size) (hr:Row w A news) (h1:∀u∈news,u.oneCell'=true) (hb:(n+m)*bytes<=140737488355328):
  ∃v' w',(Builtin.append_ #[t,t] ty #[v,.slice A m c]).run P w = .ok v' w'/\w'.ownsRow w0.heap.size e size v' (n+m) (xs++news)/\Ext w0 w'/\w.grownBy w' v.ownBlock/\
   (v'.ownBlock=v.ownBlock\/v'.ownBlock=some w.heap.size)/\(m=0->v'=v):=by
 have hT':=hT;obtain⟨ht,hsz,hbp,i,z,hi,hz,hsize,hby,hzs⟩:=hT;rcases A with _|ad
 ·have hn:news=[]:=by
   rcases news with _|⟨x,l⟩
   ·rfl
   ·obtain⟨ad,h,_⟩:=hr (by simp);cases h
  subst hn;have hm:m=0:=by
   rcases Nat.eq_zero_or_pos m with h|h
   ·exact h
   ·have:=Nat.mul_pos h hsz;simp at hl;omega
  subst hm;exact⟨v,w,a6f P w _ t ty e size bytes hT' v n xs hown c,by simpa using hown,hE,World.grownBy.refl w _,.inl rfl,fun _=>rfl⟩
 ·have hcells:∀j u,news[j]? = some u->w.cell? (ad.add j)=some u:=by
   intro j u hu;obtain⟨ad',h,hc⟩:=hr.at_ hu;injection h with h
   subst h;exact hc
  have h63:n+m<=maxLen:=by
   have:n+m<=(n+m)*bytes:=Nat.le_mul_of_pos_right _ hbp;unfold maxLen;omega
  by_cases hm:m=0
  ·subst hm;have hn:news=[]:=List.eq_nil_of_length_eq_zero (by simpa using hl);subst hn;refine⟨v,w,?_,by simpa using hown,hE,World.grownBy.refl w _,.inl rfl,fun _=>rfl⟩;rcases hown.2 with⟨rfl,rfl⟩|⟨g,cap,cur,rfl,_,_,hnc,_⟩
   ·simp[Builtin.append_,run_underlying ht,sizeOf,typeInfo,hi,Builtin.lenOf,Builtin.firstCells,loadCells,loadCellsFrom]
   ·simp[Builtin.append_,run_underlying ht,sizeOf,typeInfo,hi,Builtin.lenOf,Builtin.firstCells,hnc,storeCells,loadCells,loadCellsFrom]
  ·obtain⟨v',w',hrun,h2,h3,_,h5⟩:=run_append_own_at (P:=P) w w0.heap.size t ty e i z size bytes ht hi hz hsize hby hzs hsz v n xs hown ad m c news hl hcells h1 h63 hb hE.size;exact⟨v',w',hrun,h2,hE.grown h3 (fun k hk=>(hown.lt k hk).1),h3,h5,fun h=>absurd h hm⟩
theorem d4T{ops:Array Oper}{rest:List Oper}{o:Oper}{a:Act}{Q:Exit->Act->World->Prop}(hgd:o.guard=none){s x:Operand}
  {t e:TypeId} {size bytes:Nat} (hT:ElemT P t e size bytes)
  (ho:o.op = .call {callee:= .builtin .append,args:=#[s,x],argTypes:=#[t,t]})
  {v:Value} {n:Nat} {xs:List Value} (hown:w.ownsRow w0.heap.size e size v n xs) (hE:Ext w0 w) (hs:a.eval s=v)
  {A:Option Addr} {m c:Nat} {news:List Value} (hr:Row w A news) (hx:a.eval x = .slice A m c) (hl:news.length=m*size) (h1:∀u∈news,u.oneCell'=true) (hb:(n+m)*bytes<=140737488355328)
  (h:∀v' w',w'.ownsRow w0.heap.size e size v' (n+m) (xs++news)->Ext w0 w'->w.grownBy w' v.ownBlock->Hid (v'.ownBlock=v.ownBlock\/v'.ownBlock=some w.heap.size)->Hid (m=0->v'=v)->wpList P ops Q rest (a.put o.dst v') w'):
  wpList P ops Q (o :: rest) a w:=by
 refine wpList_plain hgd fun K hK=>?_
 obtain⟨v',w',hrun,h2,h3,h4,h5,h6⟩:=e1b (P:=P) t o.type e size bytes hT v n xs hown hE A m c news hl hr h1 hb;unfold Oper.wp execOp;simp only[ho,resolve,invoke,builtin,Sem.run_bind,Sem.run_pure,Result.andThen_ok,List.map_toArray,List.map_cons,List.map_nil,hs,hx,hrun];exact hK _ _ (h v' w' h2 h3 h4 (Lib.hid h5) (Lib.hid h6))
theorem b9G{ops:Array Oper}{rest:List Oper}{o:Oper}{a:Act}{Q:Exit->Act->World->Prop}(hgd:o.guard=none){s x:Operand}
  {t e:TypeId} {size bytes:Nat} (hT:ElemT P t e size bytes)
  (ho:o.op = .call {callee:= .builtin .append,args:=#[s,x],argTypes:=#[t,t]})
  {v:Value} {n:Nat} {xs:List Value} (hown:w.ownsRow w0.heap.size e size v n xs) (hE:Ext w0 w) (hs:a.eval s=v)
  {cs:Array Value} (hx:a.eval x = .slice (some ⟨w.heap.size,0,none⟩) 1 1) (hl:cs.size=size) (h1:cs.toList.all Value.oneCell'=true) (hb:(n+1)*bytes<=140737488355328)
  (h:∀v' w',w'.ownsRow w0.heap.size e size v' (n+1) (xs++cs.toList)->Ext w0 w'->w.grownBy w' v.ownBlock->Hid (v' ≠ .slice none 0 0)->Hid (v'.ownBlock=v.ownBlock\/∃k,v'.ownBlock=some k/\w.heap.size<=k)->wpList P ops Q rest (a.put o.dst v') w'):
  wpList P ops Q (o :: rest) a (w.alloc (.cells cs e)):=by
 refine d4T (w0:=w0) hgd hT ho (hown.alloc _) (hE.alloc _) hs (A:=some ⟨w.heap.size,0,none⟩) (m:=1) (c:=1) (news:=cs.toList) (fun _=>⟨_,rfl,fun j u hu=>?_⟩) hx (by simpa using hl) (fun u hu=>List.all_eq_true.1 h1 u hu) hb ?_
 ·have:((⟨w.heap.size,0,none⟩:Addr).add j)=⟨w.heap.size,j,none⟩:=by unfold Addr.add;split<;>simp_all
  rw[this,World.cell?_alloc_new];simpa using hu
 ·intro v' w' h2 h3 h4 h5 _;refine h v' w' h2 h3 ?_ (Lib.hid ?_) (Lib.hid ?_)
  ·exact(World.grownBy_alloc w _ _).trans h4
  ·rintro rfl;rcases h2.2 with⟨_,h⟩|⟨g,cap,cur,h,_⟩
   ·omega
   ·cases h
  ·rcases h5.out with h5|h5
   ·exact .inl h5
   ·exact .inr ⟨_,h5,by simp⟩
end
theorem Row.of_own'{w:World}{base:Nat}{e:TypeId}{size:Nat}{v:Value}{n:Nat}{xs:List Value}(h:w.ownsRow base e size v n xs):∃A c,v = .slice A n c/\n<=c/\c<=maxLen/\Row w A xs:=by
 have h':=h;rcases h.2 with⟨rfl,rfl⟩|⟨g,cap,cur,rfl,_,_,h1,h2,_⟩
 ·exact⟨none,0,rfl,Nat.le_refl _,Nat.zero_le _,Row.of_own h'⟩
 ·exact⟨_,cap,rfl,h1,h2,Row.of_own h'⟩
end
section
def All2{α β:Type}(R:α->β->Prop):List α->List β->Prop | [],[]=>True|a :: l,b :: m=>R a b/\All2 R l m|_,_=>False
theorem All2.len{α β:Type}{R:α->β->Prop}:∀{l:List α} {m:List β},All2 R l m->l.length=m.length
 |[],[],_=>rfl
 |a :: l,b :: m,h=>by simp only[List.length_cons];rw[All2.len h.2]
 |[],b :: m,h=>h.elim
 |a :: l,[],h=>h.elim
theorem All2.get{α β:Type}{R:α->β->Prop}:∀{l:List α} {m:List β},All2 R l m->∀{i:Nat} {a:α},l[i]? = some a->∃b,m[i]? = some b/\R a b
 |[],[],_,i,a,h=>by simp at h
 |x :: l,y :: m,h,0,a,ha=>by simp at ha;subst ha;exact⟨y,rfl,h.1⟩
 |x :: l,y :: m,h,i+1,a,ha=>by simpa using All2.get h.2 (i:=i) (by simpa using ha)
 |[],b :: m,h,_,_,_=>h.elim
 |a :: l,[],h,_,_,_=>h.elim
theorem All2.get'{α β:Type}{R:α->β->Prop}:∀{l:List α} {m:List β},All2 R l m->∀{i:Nat} {b:β},m[i]? = some b->∃a,l[i]? = some a/\R a b
 |[],[],_,i,a,h=>by simp at h
 |x :: l,y :: m,h,0,a,ha=>by simp at ha;subst ha;exact⟨x,rfl,h.1⟩
 |x :: l,y :: m,h,i+1,a,ha=>by simpa using All2.get' h.2 (i:=i) (by simpa using ha)
 |[],b :: m,h,_,_,_=>h.elim
 |a :: l,[],h,_,_,_=>h.elim
theorem All2.set{α β:Type}{R:α->β->Prop}:∀{l:List α} {m:List β},All2 R l m->∀(i:Nat) {a:α} {b:β},R a b->All2 R (l.set i a) (m.set i b)
 |[],[],_,i,a,b,_=>by simp[All2]
 |x :: l,y :: m,h,0,a,b,hr=>⟨hr,h.2⟩
 |x :: l,y :: m,h,i+1,a,b,hr=>⟨h.1,All2.set h.2 i hr⟩
 |[],b :: m,h,_,_,_,_=>h.elim
 |a :: l,[],h,_,_,_,_=>h.elim
theorem All2.setL{α β:Type}{R:α->β->Prop}{l:List α}{m:List β}(h:All2 R l m){i:Nat}{a:α}{b:β}(hm:m[i]? = some b)(hr:R a b):All2 R (l.set i a) m:=by
 have:=h.set i hr;obtain⟨hi,e⟩:=List.getElem?_eq_some_iff.1 hm;have e2:m.set i b=m:=by rw[<-e];exact List.set_getElem_self hi
 rwa [e2]at this
theorem All2.mono{α β:Type}{R R':α->β->Prop}(hR:∀a b,R a b->R' a b):∀{l:List α} {m:List β},All2 R l m->All2 R' l m
 |[],[],_=>True.intro
 |x :: l,y :: m,h=>⟨hR _ _ h.1,All2.mono hR h.2⟩
 |[],b :: m,h=>h.elim
 |a :: l,[],h=>h.elim
theorem All2.mapL{α β γ:Type}{R:α->β->Prop}{R':γ->β->Prop}(f:α->γ)(hR:∀a b,R a b->R' (f a) b):∀{l:List α} {m:List β},All2 R l m->All2 R' (l.map f) m
 |[],[],_=>True.intro
 |x :: l,y :: m,h=>⟨hR _ _ h.1,All2.mapL f hR h.2⟩
 |[],b :: m,h=>h.elim
 |a :: l,[],h=>h.elim
theorem All2.append{α β:Type}{R:α->β->Prop}:∀{l:List α} {m:List β} {l':List α} {m':List β},All2 R l m->All2 R l' m'->All2 R (l++l') (m++m')
 |[],[],_,_,_,h=>h
 |x :: l,y :: m,_,_,h,h'=>⟨h.1,All2.append h.2 h'⟩
 |[],b :: m,_,_,h,_=>h.elim
 |a :: l,[],_,_,h,_=>h.elim
theorem All2.take{α β:Type}{R:α->β->Prop}:∀(n:Nat) {l:List α} {m:List β},All2 R l m->All2 R (l.take n) (m.take n)
 |0,_,_,_=>by simp[All2]
 |n+1,[],[],_=>by simp[All2]
 |n+1,x :: l,y :: m,h=>⟨h.1,All2.take n h.2⟩
 |_+1,[],b :: m,h=>h.elim
 |_+1,a :: l,[],h=>h.elim
theorem All2.drop{α β:Type}{R:α->β->Prop}:∀(n:Nat) {l:List α} {m:List β},All2 R l m->All2 R (l.drop n) (m.drop n)
 |0,_,_,h=>h
 |n+1,[],[],_=>by simp[All2]
 |n+1,x :: l,y :: m,h=>All2.drop n h.2
 |_+1,[],b :: m,h=>h.elim
 |_+1,a :: l,[],h=>h.elim
theorem All2.replicate{α β:Type}{R:α->β->Prop}{a:α}{b:β}(h:R a b):∀n,All2 R (List.replicate n a) (List.replicate n b)
 |0=>True.intro
 |n+1=>⟨h,All2.replicate h n⟩
def Step(M:Nat->Nat->Prop)(w:World)(M':Nat->Nat->Prop)(w':World):Prop:=(∀ad u,w.cell? ad=some u->¬M ad.block ad.off->w'.cell? ad=some u/\¬M' ad.block ad.off)/\(∀b es c,w.heap[b]? = some (.map es c)->¬M b 0->w'.heap[b]? = some (.map es c)/\¬M' b 0)
theorem Step.refl(M:Nat->Nat->Prop)(w:World):Step M w M w:=⟨fun _ _ h h'=>⟨h,h'⟩,fun _ _ _ h h'=>⟨h,h'⟩⟩
theorem Step.trans{M M' M'':Nat->Nat->Prop}{w w' w'':World}(h:Step M w M' w')(h':Step M' w' M'' w''):Step M w M'' w'':=
 ⟨fun _ _ a b=>let ⟨c,d⟩:=h.1 _ _ a b;h'.1 _ _ c d,fun _ _ _ a b=>let ⟨c,d⟩:=h.2 _ _ _ a b;h'.2 _ _ _ c d⟩
theorem z8{w:World}{b:Nat}{o:Obj}(h:w.heap[b]? = some o):b<w.heap.size:=by
 rcases Nat.lt_or_ge b w.heap.size with h'|h'
 ·exact h'
 ·rw[Array.getElem?_eq_none h']at h;cases h
theorem Step.ext{M:Nat->Nat->Prop}{w w':World}(h:Ext w w'):Step M w M w':=
 ⟨fun _ _ a b=>⟨h.cell a,b⟩,fun b _ _ a c=>⟨(h.block b (z8 a)).trans a,c⟩⟩
def Pl(M:Nat->Nat->Prop)(w:World)(ad:Addr)(cs:List Value):Prop:=∀j u,cs[j]? = some u->w.cell? (ad.add j)=some u/\¬M (ad.add j).block (ad.add j).off
theorem Pl.step{M M':Nat->Nat->Prop}{w w':World}{ad:Addr}{cs:List Value}(h:Pl M w ad cs)(hs:Step M w M' w'):Pl M' w' ad cs:=
 fun j u hu=>let ⟨a,b⟩:=h j u hu;hs.1 _ _ a b
theorem Pl.drop{M:Nat->Nat->Prop}{w:World}{ad:Addr}{cs:List Value}(h:Pl M w ad cs)(k:Nat):Pl M w (ad.add k) (cs.drop k):=
 fun j u hu=>by rw[a1Z];exact h _ u (by rw[<-hu,List.getElem?_drop])
theorem Pl.take{M:Nat->Nat->Prop}{w:World}{ad:Addr}{cs:List Value}(h:Pl M w ad cs)(k:Nat):Pl M w ad (cs.take k):=
 fun j u hu=>h _ u (by
  rw[List.getElem?_take]at hu;split at hu
  ·exact hu
  ·cases hu)
def mkV(t:Ty)(cs:List Value):Value:=match t.isAgg,cs with
 |true,cs=> .agg cs.toArray
 |false,c :: _=>c
 |false,[]=>undef
def RepG(RR:(i:RC)->i.den->List Value->Prop)(M:Nat->Nat->Prop)(w:World):(t:Ty)->t.den->List Value->Prop
 |.u8,x,cs=>cs=[.int .u8 x.toNat]
 |.int k,x,cs=>cs=[.int k x]
 |.bool,x,cs=>cs=[.bool x]
 |.str,x,cs=>cs=[.string ⟨x.toArray⟩]
 |.sl t,xs,cs=>∃A c,cs=[.slice A xs.length c]/\xs.length<=c/\c<=maxLen/\
   ∀i (h:i<xs.length),∃ad es,A=some ad/\RepG RR M w t xs[i] es/\Pl M w (ad.add (i*t.sz)) es
 |.pr a b,x,cs=>∃c1 c2,cs=c1++c2/\RepG RR M w a x.1 c1/\RepG RR M w b x.2 c2
 |.un,_,cs=>cs=[]
 |.mp e,m,cs=>∃b es c,cs=[.map (some b)]/\w.heap[b]? = some (.map es c)/\¬M b 0/\
   All2 (fun x y=>y.key = .string ⟨x.1.toArray⟩/\∃cs,RepG RR M w e x.2 cs/\y.val=mkV e cs) m es.toList/\MapKept.Stamped es c
 |.ptr t,x,cs=>∃ad es,cs=[.pointer (some ad)]/\RepG RR M w t x es/\Pl M w ad es
 |.np t,x,cs=>match x with
  |none=>cs=[.pointer none]
  |some x=>∃ad es,cs=[.pointer (some ad)]/\RepG RR M w t x es/\Pl M w ad es
 |.nl,_,cs=>cs=[.slice none 0 0]
 |.clo f t,x,cs=>∃caps:Array Value,cs=[.func (.func f) #[] caps]/\RepG RR M w t x caps.toList
 |.rc i,x,cs=>RR i x cs
def RRs(M:Nat->Nat->Prop)(w:World)(i:RC)(x:i.den)(cs:List Value):Prop:=∀RR:(i:RC)->i.den->List Value->Prop,(∀j y ds,RepG RR M w j.body (j.un y) ds->RR j y ds)->RR i x cs
def RepC(M:Nat->Nat->Prop)(w:World):(t:Ty)->t.den->List Value->Prop:=RepG (RRs M w) M w
theorem RepG.mono{RR RR':(i:RC)->i.den->List Value->Prop}{M M':Nat->Nat->Prop}{w w':World}(hs:Step M w M' w')(hR:∀i x cs,RR i x cs->RR' i x cs):
  ∀(t:Ty) (x:t.den) (cs:List Value),RepG RR M w t x cs->RepG RR' M' w' t x cs
 |.u8,_,_,h=>h
 |.int _,_,_,h=>h
 |.bool,_,_,h=>h
 |.str,_,_,h=>h
 |.sl t,_,_,h=>by
  obtain⟨A,c,rfl,h1,h2,h3⟩:=h;refine⟨A,c,rfl,h1,h2,fun i hi=>?_⟩;obtain⟨ad,es,e,hr,hp⟩:=h3 i hi;exact⟨ad,es,e,RepG.mono hs hR t _ _ hr,hp.step hs⟩
 |.pr a b,x,_,h=>by
  obtain⟨c1,c2,rfl,h1,h2⟩:=h;exact⟨c1,c2,rfl,RepG.mono hs hR a _ _ h1,RepG.mono hs hR b _ _ h2⟩
 |.un,_,_,h=>h
 |.mp e,_,_,h=>by
  obtain⟨b,es,c,rfl,h1,h2,h3,h6⟩:=h;obtain⟨h4,h5⟩:=hs.2 _ _ _ h1 h2;exact⟨b,es,c,rfl,h4,h5,h3.mono fun x y ⟨a,cs,hr,hv⟩=>⟨a,cs,RepG.mono hs hR e _ _ hr,hv⟩,h6⟩
 |.ptr t,_,_,h=>by
  obtain⟨ad,es,rfl,h1,h2⟩:=h;exact⟨ad,es,rfl,RepG.mono hs hR t _ _ h1,h2.step hs⟩
 |.np t,x,_,h=>by
  cases x with
  |none=>exact h
  |some x=>
   obtain⟨ad,es,rfl,h1,h2⟩:=h;exact⟨ad,es,rfl,RepG.mono hs hR t _ _ h1,h2.step hs⟩
 |.nl,_,_,h=>h
 |.clo _ t,_,_,h=>by
  obtain⟨c,rfl,h1⟩:=h;exact⟨c,rfl,RepG.mono hs hR t _ _ h1⟩
 |.rc i,x,cs,h=>hR i x cs h
theorem RRs.intro{M:Nat->Nat->Prop}{w:World}{i:RC}{x:i.den}{cs:List Value}(h:RepC M w i.body (i.un x) cs):RRs M w i x cs:=
 fun RR hRR=>hRR _ _ _ (RepG.mono (Step.refl M w) (fun _ _ _ h=>h RR hRR) _ _ _ h)
theorem RRs.elim{M:Nat->Nat->Prop}{w:World}{i:RC}{x:i.den}{cs:List Value}(h:RRs M w i x cs):RepC M w i.body (i.un x) cs:=
 h (fun i x cs=>RepC M w i.body (i.un x) cs) fun _ _ _ h'=>RepG.mono (Step.refl M w) (fun _ _ _ h2=>RRs.intro h2) _ _ _ h'
theorem RRs.step{M M':Nat->Nat->Prop}{w w':World}(hs:Step M w M' w'){i:RC}{x:i.den}{cs:List Value}(h:RRs M w i x cs):RRs M' w' i x cs:=
 h (fun i x cs=>RRs M' w' i x cs) fun _ _ _ h'=>RRs.intro (RepG.mono hs (fun _ _ _ h=>h) _ _ _ h')
theorem RepC.rc{M:Nat->Nat->Prop}{w:World}{i:RC}{x:i.den}{cs:List Value}:RepC M w (.rc i) x cs↔RepC M w i.body (i.un x) cs:=⟨RRs.elim,RRs.intro⟩
theorem RepG.len{RR:(i:RC)->i.den->List Value->Prop}{M:Nat->Nat->Prop}{w:World}(hR:∀i x cs,RR i x cs->cs.length=i.sz):∀(t:Ty) (x:t.den) (cs:List Value),RepG RR M w t x cs->cs.length=t.sz
 |.u8,_,_,h=>by rw[h];rfl
 |.int _,_,_,h=>by rw[h];rfl
 |.bool,_,_,h=>by rw[h];rfl
 |.str,_,_,h=>by rw[h];rfl
 |.sl _,_,_,h=>by obtain⟨A,c,rfl,_⟩:=h;rfl
 |.pr a b,x,_,h=>by obtain⟨c1,c2,rfl,h1,h2⟩:=h;rw[List.length_append,RepG.len hR a _ _ h1,RepG.len hR b _ _ h2];rfl
 |.un,_,_,h=>by rw[h];rfl
 |.mp _,_,_,h=>by obtain⟨b,es,c,rfl,_⟩:=h;rfl
 |.ptr _,_,_,h=>by obtain⟨ad,es,rfl,_⟩:=h;rfl
 |.np _,x,_,h=>by
  cases x with
  |none=>rw[show _=_ from h];rfl
  |some x=>obtain⟨ad,es,rfl,_⟩:=h;rfl
 |.nl,_,_,h=>by rw[h];rfl
 |.clo _ _,_,_,h=>by obtain⟨c,rfl,_⟩:=h;rfl
 |.rc i,x,cs,h=>hR i x cs h
theorem RRs.len{M:Nat->Nat->Prop}{w:World}{i:RC}{x:i.den}{cs:List Value}(h:RRs M w i x cs):cs.length=i.sz:=
 h (fun i _ cs=>cs.length=i.sz) fun j y ds h'=>(RepG.len (fun _ _ _ h=>h) _ _ _ h').trans (RC.sz_body j)
theorem RepC.len{M:Nat->Nat->Prop}{w:World}(t:Ty)(x:t.den)(cs:List Value)(h:RepC M w t x cs):cs.length=t.sz:=RepG.len (fun _ _ _ h=>RRs.len h) t x cs h
theorem RepG.one{RR:(i:RC)->i.den->List Value->Prop}{M:Nat->Nat->Prop}{w:World}(hR:∀i x cs,RR i x cs->∀u∈cs,u.oneCell'=true):∀(t:Ty) (x:t.den) (cs:List Value),RepG RR M w t x cs->∀u∈cs,u.oneCell'=true
 |.u8,_,_,h=>by rw[h];simp[Value.oneCell']
 |.int _,_,_,h=>by rw[h];simp[Value.oneCell']
 |.bool,_,_,h=>by rw[h];simp[Value.oneCell']
 |.str,_,_,h=>by rw[h];simp[Value.oneCell']
 |.sl _,_,_,h=>by obtain⟨A,c,rfl,_⟩:=h;simp[Value.oneCell']
 |.pr a b,x,_,h=>by
  obtain⟨c1,c2,rfl,h1,h2⟩:=h;intro u hu;rcases List.mem_append.1 hu with hu|hu
  ·exact RepG.one hR a _ _ h1 u hu
  ·exact RepG.one hR b _ _ h2 u hu
 |.un,_,_,h=>by rw[h];simp
 |.mp _,_,_,h=>by obtain⟨b,es,c,rfl,_⟩:=h;simp[Value.oneCell']
 |.ptr _,_,_,h=>by obtain⟨ad,es,rfl,_⟩:=h;simp[Value.oneCell']
 |.np _,x,_,h=>by
  cases x with
  |none=>rw[show _=_ from h];simp[Value.oneCell']
  |some x=>obtain⟨ad,es,rfl,_⟩:=h;simp[Value.oneCell']
 |.nl,_,_,h=>by rw[h];simp[Value.oneCell']
 |.clo _ _,_,_,h=>by obtain⟨c,rfl,_⟩:=h;simp[Value.oneCell']
 |.rc i,x,cs,h=>hR i x cs h
theorem RepC.one{M:Nat->Nat->Prop}{w:World}(t:Ty)(x:t.den)(cs:List Value)(h:RepC M w t x cs):∀u∈cs,u.oneCell'=true:=
 RepG.one (fun _ _ _ h=>h (fun _ _ cs=>∀u∈cs,u.oneCell'=true) fun j y ds h'=>RepG.one (fun _ _ _ h=>h) _ _ _ h') t x cs h
theorem RepC.step{M M':Nat->Nat->Prop}{w w':World}(hs:Step M w M' w')(t:Ty)(x:t.den)(cs:List Value)(h:RepC M w t x cs):RepC M' w' t x cs:=
 RepG.mono hs (fun _ _ _ h=>RRs.step hs h) t x cs h
def RepV(M:Nat->Nat->Prop)(w:World)(t:Ty)(x:t.den)(v:Value):Prop:=∃cs,RepC M w t x cs/\v=mkV t cs
theorem RepV.step{M M':Nat->Nat->Prop}{w w':World}(hs:Step M w M' w'){t:Ty}{x:t.den}{v:Value}(h:RepV M w t x v):RepV M' w' t x v:=
 let ⟨cs,h1,h2⟩:=h;⟨cs,RepC.step hs t x cs h1,h2⟩
theorem T6{t:Ty}(h:t.isAgg=false):t.sz=1:=by cases t<;>first|rfl|simp[Ty.isAgg]at h
theorem a1q{t:Ty}(h:t.isAgg=false)(c:Value):mkV t [c]=c:=by simp[mkV,h]
theorem a2d{t:Ty}(h:t.isAgg=true)(cs:List Value):mkV t cs = .agg cs.toArray:=by simp[mkV,h]
theorem RepV.plain{M:Nat->Nat->Prop}{w:World}{t:Ty}{x:t.den}{v:Value}(ht:t.isAgg=false)(h:RepV M w t x v):RepC M w t x [v]:=by
 obtain⟨cs,h1,rfl⟩:=h;have hl:=RepC.len t x cs h1;rw[T6 ht]at hl
 match cs,hl with
 |[c],_=>rw[a1q ht];exact h1
theorem RepC.toV{M:Nat->Nat->Prop}{w:World}{t:Ty}{x:t.den}{v:Value}(ht:t.isAgg=false)(h:RepC M w t x [v]):RepV M w t x v:=⟨[v],h,(a1q ht v).symm⟩
theorem RepV.cells{M:Nat->Nat->Prop}{w:World}{t:Ty}{x:t.den}{v:Value}(h:RepV M w t x v):RepC M w t x v.cells.toList:=by
 obtain⟨cs,h1,rfl⟩:=h;cases ht:t.isAgg
 ·have hl:=RepC.len t x cs h1;rw[T6 ht]at hl
  match cs,hl with
  |[c],_=>
   rw[a1q ht];have:=RepC.one t x _ h1 c (by simp);cases c<;>first|exact h1|simp[Value.oneCell']at this
 ·rw[a2d ht];exact h1
structure GB where
 blk:Option Nat
 lo:Nat
 v:Value
abbrev Gh:=Nat->Option GB
def S8(b:Nat):Value:= .pointer (some ⟨b,0,none⟩)
def RepD0(M:Nat->Nat->Prop)(w:World)(g:Gh):D->Value->Prop | .dead,_=>True | .skip,v=>v=undef | .bl b,v=>v = .bool b | .v t x,v=>RepV M w t x v | .nilS,v=>v = .slice none 0 0 | .nilP,v=>v = .pointer none | .row r,v=>∃x A n c,g r=some x/\v=x.v/\v = .slice A n c | .elp r z i o,v=>∃x b n c,g r=some x/\x.v = .slice (some ⟨b,0,none⟩) n c/\0<=i/\i<n/\v = .pointer (some ⟨b,i.toNat*z+o,none⟩) | .tl r z i,v=>∃x b n c,g r=some x/\x.v = .slice (some ⟨b,0,none⟩) n c/\0<=i/\i<=n/\v = .slice (some ⟨b,(if c=i.toNat then 0 else i.toNat*z),none⟩) (n-i.toNat) (c-i.toNat) | .box r off,v=>∃x b,g r=some x/\x.v=S8 b/\v = .pointer (some ⟨b,off,none⟩) | .at_ t x,v=>∃ad cs,v = .pointer (some ad)/\RepC M w t x cs/\Pl M w ad cs | .mref r,v=>∃x b,g r=some x/\x.v = .map (some b)/\v = .map (some b) | .fnc f l,v=>∃cs:Array Value,v = .func (.func f) #[] cs/\All2 (fun r u=>∃x b,g r=some x/\x.v=S8 b/\u=S8 b) l cs.toList | .tup _ _,_=>False
def RepD(M:Nat->Nat->Prop)(w:World)(g:Gh):D->Value->Prop
 |.tup b l,v=>∃vs,v=(match b with|true=> .agg vs|false=> .tuple vs)/\All2 (RepD0 M w g) l vs.toList
 |d,v=>RepD0 M w g d v
theorem RepD.of0{M:Nat->Nat->Prop}{w:World}{g:Gh}{d:D}{v:Value}(hd:∀b l,d ≠ .tup b l):RepD M w g d v↔RepD0 M w g d v:=by
 cases d<;>first|exact Iff.rfl|exact absurd rfl (hd _ _)
theorem RepD0.toD{M:Nat->Nat->Prop}{w:World}{g:Gh}{d:D}{v:Value}(h:RepD0 M w g d v):RepD M w g d v:=by
 cases d<;>first|exact h|exact h.elim
theorem RepD.lift{M M':Nat->Nat->Prop}{w w':World}{g g':Gh}{f:D->D}(hf:∀d v,RepD0 M w g d v->RepD0 M' w' g' (f d) v)(h1:∀b l,f (.tup b l) = .tup b l:=by intro _ _;rfl){d:D}{v:Value}(h:RepD M w g d v):RepD M' w' g' (a3Z f d) v:=by
 by_cases hd:∃b l,d = .tup b l
 ·obtain⟨b,l,rfl⟩:=hd;obtain⟨vs,e,ha⟩:=h;exact⟨vs,e,ha.mapL f hf⟩
 ·have hd':∀b l,d ≠ .tup b l:=fun b l e=>hd ⟨b,l,e⟩
  have e:a3Z f d=f d:=by cases d<;>first|rfl|exact absurd rfl (hd' _ _)
  rw[e];exact(hf _ _ ((RepD.of0 hd').1 h)).toD
theorem RepD0.step{M M':Nat->Nat->Prop}{w w':World}{g:Gh}(hs:Step M w M' w'):∀{d:D} {v:Value},RepD0 M w g d v->RepD0 M' w' g d v
 |.dead,_,_=>True.intro
 |.skip,_,h=>h
 |.bl _,_,h=>h
 |.v _ _,_,h=>RepV.step hs h
 |.nilS,_,h=>h
 |.nilP,_,h=>h
 |.box _ _,_,h=>h
 |.at_ _ _,_,h=>let ⟨ad,cs,a,b,c⟩:=h;⟨ad,cs,a,RepC.step hs _ _ _ b,c.step hs⟩
 |.mref _,_,h=>h
 |.row _,_,h=>h
 |.elp _ _ _ _,_,h=>h
 |.tl _ _ _,_,h=>h
 |.fnc _ _,_,h=>h
 |.tup _ _,_,h=>h.elim
theorem RepD.step{M M':Nat->Nat->Prop}{w w':World}{g:Gh}(hs:Step M w M' w'){d:D}{v:Value}(h:RepD M w g d v):RepD M' w' g d v:=by
 by_cases hd:∃b l,d = .tup b l
 ·obtain⟨b,l,rfl⟩:=hd;obtain⟨vs,e,ha⟩:=h;exact⟨vs,e,ha.mono fun _ _=>RepD0.step hs⟩
 ·have hd':∀b l,d ≠ .tup b l:=fun b l e=>hd ⟨b,l,e⟩
  exact((RepD.of0 hd').1 h).step hs |>.toD
theorem a5g{M:Nat->Nat->Prop}{w:World}{g:Gh}{d:D}{v:Value}(h:RepD0 M w g d v):RepD0 M w g (nob d) v:=by
 cases d with
 |bl b=>
  have h':v = .bool b:=h;subst h';exact RepC.toV (t:= .bool) rfl rfl
 |_=>exact h
theorem a4J{M:Nat->Nat->Prop}{w:World}{g:Gh}{d:D}{v:Value}(h:RepD M w g d v):RepD M w g (nob d) v:=by
 cases d with
 |bl b=>
  have h':v = .bool b:=h;subst h';exact RepC.toV (t:= .bool) rfl rfl
 |_=>exact h
end
section
def U3(f:RC->List Value):Ty->List Value | .u8=>[.int .u8 0] | .int k=>[.int k 0] | .bool=>[.bool false] | .str=>[.string ⟨#[]⟩] | .sl _=>[.slice none 0 0] | .pr a b=>U3 f a++U3 f b | .un=>[] | .mp _=>[.map none] | .ptr _=>[.pointer none] | .np _=>[.pointer none] | .nl=>[.slice none 0 0] | .clo _ _=>[.nilFunc] | .rc i=>f i
def a84:Nat->Ty->List Value|0=>U3 fun _=>[]|n+1=>U3 fun i=>a84 n i.body
def I5:Ty->List Value:=a84 2
def a2K:Ty->TypeDesc->Bool | .u8,.int .u8=>true | .int k,.int j=>k==j | .bool,.bool=>true | .str,.string=>true | .sl _,.slice _=>true | .pr _ _,.struct _=>true | .un,.struct _=>true | .mp _,.map _ _=>true | .ptr _,.pointer _=>true | .np _,.pointer _=>true | .nl,.slice _=>true | .clo _ _,.func _ _ _=>true | .rc _,.struct _=>true|_,_=>false
def TyOk(P:Program)(T:TypeId)(t:Ty):Prop:=∃d,(P.info? T).map (fun i=>(i.size,i.zero))=some (t.sz,some (mkV t (I5 t)))/\P.underlying T=some d/\a2K t d=true
def ElOk(P:Program)(T e:TypeId)(t:Ty):Prop:=TyOk P e t/\∃bytes,ElemT P T e t.sz bytes/\bytes<=24*t.sz
def c6b(P:Program)(T:TypeId)(f off:Nat)(t:Ty):Prop:=∃fs fd,P.underlying T=some (.struct fs)/\fs[f]? = some fd/\fd.offset=off/\TyOk P fd.type t/\0<t.sz
def e9V(P:Program)(T:TypeId)(e:Ty):Prop:=∃k el,P.underlying T=some (.map k el)/\P.underlying k=some .string/\TyOk P el e
def cellsOf:(t:Ty)->t.den->List Value | .u8,x=>[.int .u8 x.toNat] | .int k,x=>[.int k x] | .bool,x=>[.bool x] | .str,x=>[.string ⟨x.toArray⟩] | .pr a b,x=>cellsOf a x.1++cellsOf b x.2|_,_=>[]
def a4X:Ty->Bool | .u8=>true | .int _=>true | .bool=>true | .str=>true | .pr a b=>a4X a&&a4X b | .un=>true|_=>false
def CmpOk(P:Program)(T:TypeId)(t:Ty):Prop:=a4X t=true/\t.isAgg=true/\∀(x y:t.den) (ox oy:Operand) (w:World),
 (do eqGuard .eql T ox oy (.agg (cellsOf t x).toArray) (.agg (cellsOf t y).toArray);binOp .eql T (.agg (cellsOf t x).toArray) (.agg (cellsOf t y).toArray):Sem Value).run P w = .ok (.bool (eqb t x y)) w/\
 (do eqGuard .neq T ox oy (.agg (cellsOf t x).toArray) (.agg (cellsOf t y).toArray);binOp .neq T (.agg (cellsOf t x).toArray) (.agg (cellsOf t y).toArray):Sem Value).run P w = .ok (.bool (!(eqb t x y))) w
structure ExtX(X:Nat->Prop)(w w':World):Prop where
 os:w'.os=w.os
 tape:w'.tape=w.tape
 output:w'.output=w.output
 size:w.heap.size<=w'.heap.size
 block:∀k,k<w.heap.size->¬X k->w'.heap[k]? = w.heap[k]?
theorem ExtX.of_ext{X:Nat->Prop}{w w':World}(h:Ext w w'):ExtX X w w':=⟨h.os,h.tape,h.output,h.size,fun k hk _=>h.block k hk⟩
theorem ExtX.ext{X:Nat->Prop}{w w':World}(h:ExtX X w w')(hX:∀b,¬X b):Ext w w':=⟨h.os,h.tape,h.output,h.size,fun k hk=>h.block k hk (hX k)⟩
theorem ExtX.refl(X:Nat->Prop)(w:World):ExtX X w w:=⟨rfl,rfl,rfl,Nat.le_refl _,fun _ _ _=>rfl⟩
theorem ExtX.wider{X Y:Nat->Prop}{w w':World}(h:ExtX X w w')(hX:∀k,X k->Y k):ExtX Y w w':=⟨h.os,h.tape,h.output,h.size,fun k hk hn=>h.block k hk fun hx=>hn (hX k hx)⟩
theorem ExtX.trans{X Y:Nat->Prop}{a b c:World}(h:ExtX X a b)(k:ExtX Y b c)(hY:∀n,n<a.heap.size->Y n->X n):ExtX X a c:=
 ⟨k.os.trans h.os,k.tape.trans h.tape,k.output.trans h.output,Nat.le_trans h.size k.size,fun n hn hx=>(k.block n (Nat.lt_of_lt_of_le hn h.size) fun hy=>hx (hY n hn hy)).trans (h.block n hn hx)⟩
theorem Z6{w w':World}{ad:Addr}(h:w'.heap[ad.block]? = w.heap[ad.block]?):w'.cell? ad=w.cell? ad:=World.cell?_of_block h
def Z4(g:Gh)(b:Nat):Prop:=∃r x,g r=some x/\x.blk=some b
def u9(M0:Nat->Nat->Prop)(g:Gh)(b o:Nat):Prop:=M0 b o\/∃r x,g r=some x/\x.blk=some b/\x.lo<=o
def RepB(M:Nat->Nat->Prop)(w:World)(g:Gh)(x:GB):Blk->Prop
 |.cells ds=>∃b vs el,x=⟨some b,0,S8 b⟩/\w.heap[b]? = some (.cells vs el)/\All2 (RepD0 M w g) ds vs.toList
 |.map e m=>∃b es c,x=⟨some b,0,.map (some b)⟩/\w.heap[b]? = some (.map es c)/\All2 (fun x y=>y.key = .string ⟨x.1.toArray⟩/\RepV M w e x.2 y.val) m es.toList/\MapKept.Stamped es c
 |.bld T ds=>∃b p vs,x=⟨some b,0,S8 b⟩/\w.heap[b]? = some (.cells (p :: vs).toArray T)/\(p = .pointer none\/p=S8 b)/\All2 (RepD0 M w g) ds vs
 |.row e t ex xs=>0<t.sz/\∃cs,w.ownsRow 0 e t.sz x.v xs.length cs/\x.blk=x.v.ownBlock/\x.lo=(match ex with|true=>0|false=>xs.length*t.sz)/\
   ∀i (h:i<xs.length),RepC M w t xs[i] ((cs.drop (i*t.sz)).take t.sz)
 |.iter e l cur=>∃ib b es c since seen c0,x=⟨some ib,0,S8 ib⟩/\w.heap[ib]? = some (.mapIter (some b) since seen c0)/\w.heap[b]? = some (.map es c)/\¬M b 0/\(∀y∈es.toList,y.born<since)/\since<=c0/\since<=c/\MapKept.Stamped es c/\
   All2 (fun p y=>y.key = .string ⟨p.1.toArray⟩/\RepV M w e p.2 y.val) l (es.toList.filter fun y=>!seen.contains y.born)/\
   ∀p,cur=some p->c0=c/\∃(seen':Array Nat) (y:MapEntry),seen=seen'.push y.born/\y∈es.toList/\y.key = .string ⟨p.1.toArray⟩/\RepV M w e p.2 y.val
def a79:Value->Bool | .pointer _=>true | .map _=>true|_=>false
def a2T(ν:Nat->Nat):(l:List Sb)->BV l->Nat->Option Blk | [],_,_=>none|s :: _,y,0=>c1f ν s y.1|_ :: l,y,n+1=>a2T ν l y.2 n
structure Frag(B0:Nat)(M:Nat->Nat->Prop)(w:World)(g:Gh)(ps:List Sl)(bs:List Sb)(x:SV ps)(y:BV bs)(vs:List Value):Prop where
 args:All2 (RepD0 M w g) (a0E id ps x) vs
 res:∀r blk,a2T id bs y r=some blk->∃gx,g r=some gx/\RepB M w g gx blk
 dom:∀r gx,g r=some gx->r<bs.length
 inj:∀r r' x x' b,g r=some x->g r'=some x'->x.blk=some b->x'.blk=some b->r=r'
 low:∀r x b,g r=some x->x.blk=some b->B0<=b/\b<w.heap.size
 chg:∀r x b o,g r=some x->x.blk=some b->(M b o↔x.lo<=o)
 mlt:∀b o,M b o->b<w.heap.size
 row:∀r x b,g r=some x->x.blk=some b->0<x.lo->∀es c,w.heap[b]? ≠ some (.map es c)
def y6(M:Nat->Nat->Prop)(g g':Gh)(b o:Nat):Prop:=(M b o/\¬Z4 g b)\/∃r x,g' r=some x/\x.blk=some b/\x.lo<=o
def b12(vs:List Value):Value:=if h:vs.length=1 then vs[0]else .tuple vs.toArray
def Sound(P:Program)(G:World->Prop)(B0:Nat)(f:FuncId)(F:AF):Prop:=(∀(args:Array Value) (w:World),(callFunc f args).run P w = .ok (.enter f args) w)/\∀(M:Nat->Nat->Prop) (w:World) (g:Gh) (vs:List Value) (x:SV F.ps) (y:BV F.bs) (z:F.R),G w->B0<=w.heap.size->Frag B0 M w g F.ps F.bs x y vs->F.f x y=some z->Calls P f vs.toArray w fun e w'=>∃vs' g',e = .returned (b12 vs')/\ExtX (Z4 g) w w'/\Step M w (y6 M g g') w'/\Frag B0 (y6 M g g') w' g' F.rs F.cs (F.out z).1 (F.out z).2 vs'/\(∀r x,g r=some x->(a79 x.v=true\/a4F F.bs F.cs=true)->g' r=some x)/\∀b,Z4 g' b->Z4 g b\/w.heap.size<=b
def d29(T:TypeId)(c:Int):List PanicEntry:=[{v:= .iface T (.agg #[.int .i64 c]),recovered:=false}]
def SoundP(P:Program)(G:World->Prop)(B0:Nat)(T:TypeId)(f:FuncId)(F:PF):Prop:=(∀(args:Array Value) (w:World),(callFunc f args).run P w = .ok (.enter f args) w)/\∀(M:Nat->Nat->Prop) (w:World) (g:Gh) (vs:List Value) (x:SV F.ps) (y:BV F.bs),G w->B0<=w.heap.size->Frag B0 M w g F.ps F.bs x y vs->(∀(z:F.R),F.f x y=some (.ok z)->Calls P f vs.toArray w fun e w'=>∃vs' g',e = .returned (b12 vs')/\ExtX (Z4 g) w w'/\Step M w (y6 M g g') w'/\Frag B0 (y6 M g g') w' g' F.rs F.cs (F.out z).1 (F.out z).2 vs'/\(∀r x,g r=some x->(a79 x.v=true\/a4F F.bs F.cs=true)->g' r=some x)/\∀b,Z4 g' b->Z4 g b\/w.heap.size<=b)/\∀c,F.f x y=some (.error c)->Calls P f vs.toArray w fun e w'=>e = .panicked (d29 T c)/\ExtX (Z4 g) w w'/\Step M w M w'
structure EnvOk(P:Program)(G:World->Prop)(B0:Nat)(E:Env):Prop where
 ty:∀T t,E.ty T=some t->TyOk P T t
 el:∀T e t,E.el T=some (e,t)->ElOk P T e t
 fld:∀T f off t,E.fld T f=some (off,t)->c6b P T f off t
 mp:∀T e,E.ty T=some (.mp e)->e9V P T e
 bld:∀T t,E.ty T=some t->t.isAgg=true->∃fs places,P.underlying T=some (.struct fs)/\fs.toList.mapM (fun f=>(P.info? f.type).map fun i=>(f.offset,i.size))=some places
 ptr:∀T t,E.ty T=some t->a6d t=true->(P.info? (P.pointee T)).isSome=true
 cmp:∀T t,E.cmp T=some t->CmpOk P T t
 fn:∀f q F,E.fn f q=some F->Sound P G B0 f F
 stable:∀w w' X,G w->ExtX X w w'->(∀b,X b->B0<=b)->G w'
 mixed:P.follows .mixedOrders=true
 dyn:∀st f q ds F l,E.dyn st f q ds=some (F,l)->Sound P G B0 f F:=by intro _ _ _ _ _ _ h;cases h
 pf:∀f q F,E.pf f q=some F->SoundP P G B0 E.bad f F:=by intro _ _ _ h;cases h
theorem EnvOk.jk{P:Program}{G:World->Prop}{B0:Nat}{E:Env}(h:EnvOk P G B0 E)(j:Nat->Option Nat):EnvOk P G B0 (E.jk j):=
 {ty:=h.ty,el:=h.el,fld:=h.fld,mp:=h.mp,bld:=h.bld,ptr:=h.ptr,cmp:=h.cmp,fn:=h.fn,stable:=h.stable,mixed:=h.mixed,dyn:=h.dyn,pf:=h.pf}
structure Sim(df:List Deferred)(G:World->Prop)(B0:Nat)(M0:Nat->Nat->Prop)(w0:World)(gi:Gh)(g:Gh)(st:St)(a:Act)(w:World):Prop where
 defers:a.defers=df
 sz:a.tmps.size=st.n
 fr:∀t d,v6 st.fr t=some d->RepD (u9 M0 g) w g d (a.tmps.getD t undef)
 inb:∀t d,v6 st.fr t=some d->t<st.n
 hp:∀r blk,v6 st.hp r=some blk->∃x,g r=some x/\RepB (u9 M0 g) w g x blk
 low:∀r x b,g r=some x->x.blk=some b->B0<=b/\b<w.heap.size/\(Z4 gi b\/w0.heap.size<=b)
 inj:∀r r' x x' b,g r=some x->g r'=some x'->x.blk=some b->x'.blk=some b->r=r'
 row:∀r x b,g r=some x->x.blk=some b->0<x.lo->∀es c,w.heap[b]? ≠ some (.map es c)
 m0:∀b o,M0 b o->b<w0.heap.size/\¬Z4 gi b
 pin:∀r x,gi r=some x->a79 x.v=true->g r=some x
 gin:∀r x,gi r=some x->a79 x.v=true->r<1000
 gil:∀b,Z4 gi b->B0<=b
 ext:ExtX (Z4 gi) w0 w
 stp:Step (u9 M0 gi) w0 (u9 M0 g) w
 gg:G w0
 b0:B0<=w0.heap.size
def Pans{R:Type}[BothC R](df:List Deferred)(T:TypeId)(M0:Nat->Nat->Prop)(w0:World)(gi:Gh)(r:R)(Q:Exit->Act->World->Prop):Prop:=∀c a w',a.defers=df->ExtX (Z4 gi) w0 w'->Step (u9 M0 gi) w0 (u9 M0 gi) w'->(∃ρ st,BothC.pa c ρ st=some r)->Q (.panic (d29 T c)) a w'
theorem Pans.none{R:Type}[BothC R]{df:List Deferred}{T:TypeId}{M0:Nat->Nat->Prop}{w0:World}{gi:Gh}{r:R}{Q:Exit->Act->World->Prop}(h:∀c ρ st,(BothC.pa c ρ st:Option R)=none):Pans df T M0 w0 gi r Q:=
 fun c _ _ _ _ _ ⟨ρ,st,h'⟩=>by rw[h c ρ st]at h';cases h'
def a88{R:Type}[BothC R](df:List Deferred)(G:World->Prop)(B0:Nat)(T:TypeId)(M0:Nat->Nat->Prop)(w0:World)(gi:Gh)(r:R)(Q:Exit->Act->World->Prop):Prop:=∀c ρ g st a w w',Sim df G B0 M0 w0 gi g st a w->ExtX (fun b=>∃r x,r∈ρ/\g r=some x/\x.blk=some b) w w'->Step (u9 M0 g) w (u9 M0 g) w'->BothC.pa c ρ st=some r->Q (.panic (d29 T c)) a w'
theorem Pans.up{R:Type}[BothC R]{df:List Deferred}{G:World->Prop}{B0:Nat}{T:TypeId}{M0:Nat->Nat->Prop}{w0:World}{gi:Gh}{r:R}{Q:Exit->Act->World->Prop}(hP:Pans df T M0 w0 gi r Q):a88 df G B0 T M0 w0 gi r Q:=by
 intro c ρ g st a w w' hs hX hS hp;refine hP c a w' hs.defers (hs.ext.trans hX fun n hn' hxn=>?_) ⟨fun ad u hc hm=>?_,fun b es cc hc hm=>?_⟩ ⟨ρ,st,hp⟩
 ·obtain⟨j,x,_,h4,h5⟩:=hxn;rcases(hs.low _ _ _ h4 h5).2.2 with h7|h7
  ·exact h7
  ·omega
 ·obtain⟨h4,h5⟩:=hs.stp.1 ad u hc hm;exact⟨(hS.1 ad u h4 h5).1,hm⟩
 ·obtain⟨h4,h5⟩:=hs.stp.2 b es cc hc hm;exact⟨(hS.2 b es cc h4 h5).1,hm⟩
structure KeepR(M:Nat->Nat->Prop)(g:Gh)(hp:List (Nat×Blk))(w w':World):Prop where
 cell:∀ad u,w.cell? ad=some u->¬M ad.block ad.off->w'.cell? ad=some u
 map:∀b es c,w.heap[b]? = some (.map es c)->¬M b 0->w'.heap[b]? = some (.map es c)
 nm:∀r blk x b,v6 hp r=some blk->g r=some x->x.blk=some b->b<w.heap.size->w'.heap[b]? = w.heap[b]?
theorem KeepR.of_ext{M:Nat->Nat->Prop}{g:Gh}{hp:List (Nat×Blk)}{w w':World}(h:Ext w w'):KeepR M g hp w w':=
 ⟨fun _ _ a _=>h.cell a,fun b _ _ a _=>(h.block b (z8 a)).trans a,fun _ _ _ b _ _ _ hb=>h.block b hb⟩
theorem KeepR.step{M:Nat->Nat->Prop}{g:Gh}{hp:List (Nat×Blk)}{w w':World}(h:KeepR M g hp w w'):Step M w M w':=
 ⟨fun _ _ a b=>⟨h.cell _ _ a b,b⟩,fun _ _ _ a b=>⟨h.map _ _ _ a b,b⟩⟩
theorem KeepR.own{M:Nat->Nat->Prop}{g:Gh}{hp:List (Nat×Blk)}{w w':World}(h:KeepR M g hp w w'){r:Nat}{blk:Blk}{x:GB}(h1:v6 hp r=some blk)(h2:g r=some x)(h3:x.blk=x.v.ownBlock){base:Nat}{e:TypeId}{sz n:Nat}{cs:List Value}
  (ho:w.ownsRow base e sz x.v n cs):w'.ownsRow base e sz x.v n cs:=by
 refine⟨ho.1,?_⟩;rcases ho.2 with h0|⟨gg,cap,cur,h5,h6,h7,h8⟩
 ·exact .inl h0
 ·exact .inr ⟨gg,cap,cur,h5,h6,(h.nm r blk x gg h1 h2 (by rw[h3,h5];rfl) (z8 h7)).trans h7,h8⟩
def Gh.set(g:Gh)(r:Nat)(y:Option GB):Gh:=fun i=>if i=r then y else g i
theorem Gh.set_same(g:Gh)(r:Nat)(y:Option GB):g.set r y r=y:=if_pos rfl
theorem Gh.set_other(g:Gh){r i:Nat}(y:Option GB)(h:i≠r):g.set r y i=g i:=if_neg h
theorem Gh.set_self(g:Gh)(r:Nat){y:Option GB}(h:g r=y):g.set r y=g:=by
 funext i;unfold Gh.set;split
 ·rename_i e;rw[e,h]
 ·rfl
section
variable{P:Program}{df:List Deferred}{G:World->Prop}{B0:Nat}{E:Env}{M0:Nat->Nat->Prop}{w0:World}{gi g:Gh}{st:St}{a:Act}{w:World}
theorem Addr.add_box(b o n:Nat):((⟨b,o,none⟩:Addr).add n)=⟨b,o+n,none⟩:=by unfold Addr.add;split<;>simp_all
theorem Sim.size(h:Sim df G B0 M0 w0 gi g st a w):w0.heap.size<=w.heap.size:=h.ext.size
theorem Sim.mlt(hs:Sim df G B0 M0 w0 gi g st a w){b o:Nat}(h:u9 M0 g b o):b<w.heap.size:=by
 rcases h with h|⟨r,x,h1,h2,_⟩
 ·exact Nat.lt_of_lt_of_le (hs.m0 _ _ h).1 hs.size
 ·exact(hs.low _ _ _ h1 h2).2.1
theorem Sim.m0x(hs:Sim df G B0 M0 w0 gi g st a w){b o r:Nat}{x:GB}(h:M0 b o)(h1:g r=some x)(h2:x.blk=some b):False:=by
 have h3:=hs.m0 _ _ h;rcases(hs.low _ _ _ h1 h2).2.2 with h4|h4
 ·exact h3.2 h4
 ·omega
theorem Sim.chg(hs:Sim df G B0 M0 w0 gi g st a w){r b o:Nat}{x:GB}(h1:g r=some x)(h2:x.blk=some b):u9 M0 g b o↔x.lo<=o:=by
 constructor
 ·rintro(h|⟨r',x',h3,h4,h5⟩)
  ·exact(hs.m0x h h1 h2).elim
  ·have:=hs.inj _ _ _ _ _ h1 h3 h2 h4;subst this;rw[h1]at h3;cases h3;exact h5
 ·exact fun h=> .inr ⟨r,x,h1,h2,h⟩
theorem Sim.slot(h:Sim df G B0 M0 w0 gi g st a w){t:Nat}{d:D}(hd:v6 st.fr t=some d):RepD (u9 M0 g) w g d (a.tmps.getD t undef):=h.fr t d hd
theorem b3B{M:Nat->Nat->Prop}(v:Value):RepD M w g (a6D v) v:=by
 cases v with
 |bool b=>exact RepD0.toD (d:= .bl b) rfl
 |int k n=>
  cases k
  case u8=>
   simp only[a6D];split
   ·rename_i hn;refine RepC.toV (t:= .u8) rfl ?_;show [Value.int .u8 n]=[Value.int .u8 (UInt8.ofNat n.toNat).toNat];have:((UInt8.ofNat n.toNat).toNat:Int)=n:=by simp;omega
    rw[this]
   ·trivial
  all_goals exact RepC.toV (t:= .int _) rfl rfl
 |string s=>
  refine RepC.toV (t:= .str) rfl ?_;show [Value.string s]=[Value.string ⟨s.data.toList.toArray⟩];simp
 |slice A n c=>
  cases A with
  |some ad=>trivial
  |none=>
   match n,c with
   |0,0=>exact RepD0.toD (d:= .nilS) rfl
   |n+1,_=>trivial
   |0,c+1=>trivial
 |_=>trivial
theorem Sim.ev(h:Sim df G B0 M0 w0 gi g st a w)(x:Operand):RepD (u9 M0 g) w g (st.ev x) (a.eval x):=by
 cases x with
 |tmp t=>
  simp only[St.ev,Act.eval];split
  ·rename_i d hd;exact h.slot hd
  ·trivial
 |const v=>
  by_cases hv:v = .pointer none
  ·subst hv;exact RepD0.toD (d:= .nilP) rfl
  ·have e:st.ev (.const v)=a6D v:=by
    unfold St.ev;split<;>simp_all
   rw[e];exact b3B v
 |func f=>exact RepC.toV (t:= .clo f .un) rfl ⟨#[],rfl,rfl⟩
 |_=>trivial
theorem Sim.put(h:Sim df G B0 M0 w0 gi g st a w)(dst:Option Tmp){d:D}{v:Value}(hd:RepD (u9 M0 g) w g d v):Sim df G B0 M0 w0 gi g (st.put dst d) (a.put dst v) w:=by
 cases dst with
 |none=>exact h
 |some t=>
  unfold St.put;dsimp only;split
  ·rename_i ht;have ht':t<st.n:=by rw[<-Nat.blt_eq];exact ht
   refine{h with sz:=?_,fr:=?_,inb:=?_}
   ·show(a.tmps.setIfInBounds t v).size=st.n;rw[Array.size_setIfInBounds];exact h.sz
   ·intro i d' hi;change v6 (a4S st.fr t d) i=some d' at hi;show RepD _ _ _ d' ((a.tmps.setIfInBounds t v).getD i undef);by_cases hit:i=t
    ·subst hit;rw[R3]at hi;cases hi;have:(a.tmps.setIfInBounds i v).getD i undef=v:=by
      rw[Array.getD_eq_getD_getElem?,Array.getElem?_setIfInBounds,if_pos rfl,if_pos (by rw[h.sz];exact ht')];rfl
     rw[this];exact hd
    ·rw[H9 _ _ hit]at hi;have:(a.tmps.setIfInBounds t v).getD i undef=a.tmps.getD i undef:=by
      rw[Array.getD_eq_getD_getElem?,Array.getElem?_setIfInBounds,if_neg (Ne.symm hit),<-Array.getD_eq_getD_getElem?]
     rw[this];exact h.fr i d' hi
   ·intro i d' hi;change v6 (a4S st.fr t d) i=some d' at hi;by_cases hit:i=t
    ·subst hit;exact ht'
    ·rw[H9 _ _ hit]at hi;exact h.inb i d' hi
  ·rename_i ht;have ht':st.n<=t:=Nat.le_of_not_lt fun h'=>by rw[<-Nat.blt_eq]at h';rw[h']at ht;cases ht
   have:a.put (some t) v=a:=by
    have e:a.tmps.setIfInBounds t v=a.tmps:=Array.setIfInBounds_eq_of_size_le (by rw[h.sz];exact ht');show{a with tmps:=a.tmps.setIfInBounds t v}=a;rw[e]
   rw[this];exact h
theorem Sim.reput(h:Sim df G B0 M0 w0 gi g st a w){t:Nat}{d:D}(hd:RepD (u9 M0 g) w g d (a.tmps.getD t undef)):Sim df G B0 M0 w0 gi g (st.put (some t) d) a w:=by
 unfold St.put;dsimp only;split
 ·rename_i ht;refine{h with fr:=?_,inb:=?_}
  ·intro i d' hi;change v6 (a4S st.fr t d) i=some d' at hi;by_cases hit:i=t
   ·subst hit;rw[R3]at hi;cases hi;exact hd
   ·rw[H9 _ _ hit]at hi;exact h.fr i d' hi
  ·intro i d' hi;change v6 (a4S st.fr t d) i=some d' at hi;by_cases hit:i=t
   ·subst hit;show i<st.n;rw[<-Nat.blt_eq];exact ht
   ·rw[H9 _ _ hit]at hi;exact h.inb i d' hi
 ·exact h
theorem RepC.of_own{M:Nat->Nat->Prop}{t:Ty}{xs:List t.den}{base:Nat}{e:TypeId}{v:Value}{cs:List Value}(hz:0<t.sz)(ho:w.ownsRow base e t.sz v xs.length cs)
  (hm:∀b o,v.ownBlock=some b->o<xs.length*t.sz->¬M b o) (hr:∀i (h:i<xs.length),RepC M w t xs[i] ((cs.drop (i*t.sz)).take t.sz)):RepC M w (.sl t) xs [v]:=by
 obtain⟨A,c,rfl,h1,h2,hrow⟩:=Row.of_own' ho;refine⟨A,c,rfl,h1,h2,fun i hi=>?_⟩;have hlen:=ho.1;have hpos:i*t.sz+t.sz<=xs.length*t.sz:=by
  have:(i+1)*t.sz<=xs.length*t.sz:=Nat.mul_le_mul_right _ hi;rw[Nat.add_mul]at this;omega
 have hne:cs ≠ []:=by rintro rfl;simp at hlen;omega
 obtain⟨ad,rfl,hc⟩:=hrow hne;refine⟨ad,_,rfl,hr i hi,fun j u hu=>?_⟩;have hj:j<t.sz:=by
  rcases Nat.lt_or_ge j t.sz with h'|h'
  ·exact h'
  ·rw[List.getElem?_take,if_neg (by omega)]at hu;cases hu
 rw[List.getElem?_take,if_pos hj,List.getElem?_drop]at hu;rw[a1Z];refine⟨hc _ _ hu,?_⟩;rcases ho.2 with⟨e0,_⟩|⟨gg,cap,cur,e0,_⟩
 ·cases e0
 ·simp only[Value.slice.injEq,Option.some.injEq]at e0;obtain⟨e1,_,_⟩:=e0;subst e1;rw[Addr.add_box];exact hm _ _ rfl (by simp only[Nat.zero_add];omega)
theorem Sim.dat(hs:Sim df G B0 M0 w0 gi g st a w){d:D}{v:Value}(h:RepD (u9 M0 g) w g d v){t:Ty}{x:t.den}(hx:st.dat t d=some x):RepV (u9 M0 g) w t x v:=by
 cases d with
 |v t' y=>
  simp only[St.dat]at hx;split at hx
  ·rename_i e;subst e;cases hx;exact h
  ·cases hx
 |row r=>
  simp only[St.dat]at hx;split at hx
  ·rename_i e t' xs hb;split at hx
   ·rename_i e';subst e';cases hx;obtain⟨gx,h1,hz,cs,h2,h3,h4,h5⟩:=hs.hp _ _ hb;obtain⟨gx',_,_,_,h6,h7,_⟩:=h;rw[h1]at h6;cases h6;subst h7;refine RepC.toV (t:= .sl t') rfl (RepC.of_own hz h2 (fun b o hb ho hm=>?_) h5);have:=(hs.chg h1 (by rw[h3];exact hb)).1 hm;have h4':gx.lo=xs.length*t'.sz:=h4;change o<xs.length*t'.sz at ho;omega
   ·cases hx
  ·cases hx
 |nilS=>
  simp only[St.dat]at hx;split at hx
  ·cases hx;have h':v = .slice none 0 0:=h;subst h';exact RepC.toV (t:= .sl _) rfl ⟨none,0,rfl,Nat.le_refl _,Nat.zero_le _,fun i hi=>absurd hi (by simp)⟩
  ·cases hx;have h':v = .slice none 0 0:=h;subst h';exact RepC.toV (t:= .nl) rfl rfl
  ·cases hx
 |nilP=>
  simp only[St.dat]at hx;split at hx
  ·cases hx;have h':v = .pointer none:=h;subst h';exact RepC.toV (t:= .np _) rfl rfl
  ·cases hx
 |at_ t' y=>
  simp only[St.dat]at hx;obtain⟨ad,cs,rfl,b,c⟩:=h;split at hx
  ·rename_i e;subst e;cases hx;exact RepC.toV (t:= .ptr t') rfl ⟨ad,cs,rfl,b,c⟩
  ·split at hx
   ·rename_i e;subst e;cases hx;exact RepC.toV (t:= .np t') rfl ⟨ad,cs,rfl,b,c⟩
   ·cases hx
 |bl b=>
  simp only[St.dat]at hx;split at hx
  ·cases hx;have h':v = .bool b:=h;subst h';exact RepC.toV (t:= .bool) rfl rfl
  ·cases hx
 |_=>simp[St.dat]at hx
theorem RepB.step{M M':Nat->Nat->Prop}{w':World}(hs:Step M w M' w'){x:GB}(hb:∀b,x.blk=some b->w'.heap[b]? = w.heap[b]?):∀{blk:Blk},RepB M w g x blk->RepB M' w' g x blk
 |.cells ds,⟨b,vs,el,e,h1,h2⟩=>⟨b,vs,el,e,(hb b (by rw[e])).trans h1,h2.mono fun _ _=>RepD0.step hs⟩
 |.map _ m,⟨b,es,c,e,h1,h2,h3⟩=>⟨b,es,c,e,(hb b (by rw[e])).trans h1,h2.mono fun _ _ ⟨a,b⟩=>⟨a,b.step hs⟩,h3⟩
 |.bld T ds,⟨b,p,vs,e,h1,h0,h2⟩=>⟨b,p,vs,e,(hb b (by rw[e])).trans h1,h0,h2.mono fun _ _=>RepD0.step hs⟩
 |.iter e l cur,⟨ib,b,es,c,since,seen,c0,e1,h1,h2,h3,h4,h5,h6,h7,h8,h11⟩=>
  let ⟨h9,h10⟩:=hs.2 _ _ _ h2 h3
  ⟨ib,b,es,c,since,seen,c0,e1,(hb ib (by rw[e1])).trans h1,h9,h10,h4,h5,h6,h7,h8.mono fun _ _ ⟨a,b⟩=>⟨a,b.step hs⟩,fun p hp=>let ⟨e,s',y,a,b,d,v⟩:=h11 p hp;⟨e,s',y,a,b,d,v.step hs⟩⟩
 |.row e t ex xs,⟨hz,cs,h1,h2,h3,h4⟩=>by
  refine⟨hz,cs,⟨h1.1,?_⟩,h2,h3,fun i hi=>RepC.step hs _ _ _ (h4 i hi)⟩;rcases h1.2 with h0|⟨gg,cap,cur,h5,h6,h7,h8⟩
  ·exact .inl h0
  ·exact .inr ⟨gg,cap,cur,h5,h6,(hb gg (by rw[h2,h5];rfl)).trans h7,h8⟩
theorem RepB.past{M:Nat->Nat->Prop}{x:GB}:∀{blk:Blk},RepB M w g x blk->RepB M w g x blk.past
 |.cells _,h=>h
 |.bld _ _,h=>h
 |.map _ _,h=>h
 |.row _ _ _ _,h=>h
 |.iter e l cur,⟨ib,b,es,c,since,seen,c0,e1,h1,h2,h3,h4,h5,h6,h7,h8,_⟩=>⟨ib,b,es,c,since,seen,c0,e1,h1,h2,h3,h4,h5,h6,h7,h8,fun p hp=>by cases hp⟩
theorem Sim.later(h:Sim df G B0 M0 w0 gi g st a w){w':World}(he:Ext w w'):Sim df G B0 M0 w0 gi g st a w':=by
 have hs:Step (u9 M0 g) w (u9 M0 g) w':=Step.ext he;refine{h with fr:=fun t d hd=>(h.fr t d hd).step hs,hp:=fun r blk hb=>?_,low:=fun r x b h1 h2=>?_,row:=fun r x b h1 h2 h3 es c=>by rw[he.block b (h.low _ _ _ h1 h2).2.1];exact h.row r x b h1 h2 h3 es c,ext:=h.ext.trans (ExtX.of_ext he (X:=Z4 gi)) fun _ _ h=>h,stp:=h.stp.trans hs}
 ·obtain⟨x,h1,h2⟩:=h.hp r blk hb;exact⟨x,h1,h2.step hs fun b hb=>he.block b (h.low _ _ _ h1 hb).2.1⟩
 ·have:=h.low _ _ _ h1 h2;exact⟨this.1,Nat.lt_of_lt_of_le this.2.1 he.size,this.2.2⟩
theorem RepD.v_plain{M:Nat->Nat->Prop}{t:Ty}{x:t.den}{v:Value}(ht:t.isAgg=false)(h:RepD M w g (.v t x) v):RepC M w t x [v]:=RepV.plain ht h
theorem RepD.int{M:Nat->Nat->Prop}{k:IntKind}{x:Int}{v:Value}(h:RepD M w g (.v (.int k) x) v):v = .int k x:=by simpa [RepC,RepG]using RepD.v_plain rfl h
theorem RepD.u8{M:Nat->Nat->Prop}{x:UInt8}{v:Value}(h:RepD M w g (.v .u8 x) v):v = .int .u8 x.toNat:=by simpa [RepC,RepG]using RepD.v_plain rfl h
theorem RepD.bool{M:Nat->Nat->Prop}{x:Bool}{v:Value}(h:RepD M w g (.v .bool x) v):v = .bool x:=by simpa [RepC,RepG]using RepD.v_plain rfl h
theorem RepD.str{M:Nat->Nat->Prop}{x:List UInt8}{v:Value}(h:RepD M w g (.v .str x) v):v = .string ⟨x.toArray⟩:=by simpa [RepC,RepG]using RepD.v_plain rfl h
theorem a0P{M:Nat->Nat->Prop}(k:IntKind)(x:Int):RepD M w g (.v (.int k) x) (.int k x):=RepC.toV (t:= .int k) rfl rfl
theorem b3D{M:Nat->Nat->Prop}(x:UInt8):RepD M w g (.v .u8 x) (.int .u8 x.toNat):=RepC.toV (t:= .u8) rfl rfl
theorem J5{M:Nat->Nat->Prop}(x:Bool):RepD M w g (.v .bool x) (.bool x):=RepC.toV (t:= .bool) rfl rfl
theorem b0t{M:Nat->Nat->Prop}(x:List UInt8):RepD M w g (.v .str x) (.string ⟨x.toArray⟩):=RepC.toV (t:= .str) rfl rfl
theorem RepD.sl{M:Nat->Nat->Prop}{t:Ty}{xs:List t.den}{v:Value}(h:RepD M w g (.v (.sl t) xs) v):RepC M w (.sl t) xs [v]:=RepD.v_plain rfl h
end
end
section
section
variable{P:Program}{df:List Deferred}{G:World->Prop}{B0:Nat}{E:Env}{M0:Nat->Nat->Prop}{w0:World}{gi g:Gh}{st:St}{a:Act}{w:World}
structure Turn(g:Gh)(r:Nat)(y:Option GB)(w w':World):Prop where
 os:w'.os=w.os
 tape:w'.tape=w.tape
 output:w'.output=w.output
 size:w.heap.size<=w'.heap.size
 other:∀b,b<w.heap.size->(∀x,g r=some x->x.blk≠some b)->w'.heap[b]? = w.heap[b]?
 blk:∀z b,y=some z->z.blk=some b->b<w'.heap.size/\(w.heap.size<=b\/∃x,g r=some x/\x.blk=some b)
 keep:∀x b,g r=some x->x.blk=some b->0<x.lo->(∀o u s,o<x.lo->w.cell? ⟨b,o,s⟩=some u->w'.cell? ⟨b,o,s⟩=some u)/\∀z,y=some z->z.blk=some b->x.lo<=z.lo
 row:∀z b,y=some z->z.blk=some b->0<z.lo->∀es c,w'.heap[b]? ≠ some (.map es c)
theorem Turn.step(hs:Sim df G B0 M0 w0 gi g st a w){r:Nat}{y:Option GB}{w':World}(ht:Turn g r y w w'):Step (u9 M0 g) w (u9 M0 (g.set r y)) w':=by
 have hnot:∀b o,b<w.heap.size->¬u9 M0 g b o->¬u9 M0 (g.set r y) b o:=by
  intro b o hb hm h;rcases h with h|⟨r',z,h1,h2,h3⟩
  ·exact hm (.inl h)
  ·by_cases hr:r'=r
   ·subst hr;rw[Gh.set_same]at h1;rcases(ht.blk z b h1 h2).2 with h4|⟨x,h4,h5⟩
    ·omega
    ·have h6:¬x.lo<=o:=fun h6=>hm (.inr ⟨_,x,h4,h5,h6⟩)
     have:=(ht.keep x b h4 h5 (by omega)).2 z h1 h2;omega
   ·rw[Gh.set_other _ _ hr]at h1;exact hm (.inr ⟨r',z,h1,h2,h3⟩)
 refine⟨fun ad u hc hm=>⟨?_,hnot _ _ (World.block_lt_of_cell? w ad hc) hm⟩,fun b es c hc hm=>⟨?_,hnot _ _ (z8 hc) hm⟩⟩
 ·by_cases hx:∃x,g r=some x/\x.blk=some ad.block
  ·obtain⟨x,h1,h2⟩:=hx;have h6:¬x.lo<=ad.off:=fun h6=>hm (.inr ⟨_,x,h1,h2,h6⟩)
   have hlt:ad.off<x.lo:=by omega
   exact(ht.keep x _ h1 h2 (by omega)).1 _ u _ hlt hc
  ·rw[Z6 (ht.other _ (World.block_lt_of_cell? w ad hc) fun x h1 h2=>hx ⟨x,h1,h2⟩)];exact hc
 ·by_cases hx:∃x,g r=some x/\x.blk=some b
  ·obtain⟨x,h1,h2⟩:=hx;have h6:¬x.lo<=0:=fun h6=>hm (.inr ⟨_,x,h1,h2,h6⟩)
   exact absurd hc (hs.row _ _ _ h1 h2 (by omega) _ _)
  ·rw[ht.other _ (z8 hc) fun x h1 h2=>hx ⟨x,h1,h2⟩];exact hc
theorem RepB.turn(hs:Sim df G B0 M0 w0 gi g st a w){r:Nat}{y:Option GB}{w':World}(ht:Turn g r y w w'){φ:D->D}(hφ:∀d v,RepD0 (u9 M0 g) w g d v->RepD0 (u9 M0 (g.set r y)) w' (g.set r y) (φ d) v)
  {r':Nat} {x:GB} (hr:r'≠r) (hx:g r'=some x) {blk:Blk} (h:RepB (u9 M0 g) w g x blk):RepB (u9 M0 (g.set r y)) w' (g.set r y) x (blk.lift φ):=by
 have hst:=ht.step hs;have hb:∀b,x.blk=some b->w'.heap[b]? = w.heap[b]?:=fun b h1=>ht.other b (hs.low _ _ _ hx h1).2.1 fun x' h2 h3=>hr (hs.inj _ _ _ _ _ hx h2 h1 h3)
 cases blk with
 |cells ds=>
  obtain⟨b,vs,el,e,h1,h2⟩:=h;exact⟨b,vs,el,e,(hb b (by rw[e])).trans h1,h2.mapL φ hφ⟩
 |bld T ds=>
  obtain⟨b,p,vs,e,h1,h0,h2⟩:=h;exact⟨b,p,vs,e,(hb b (by rw[e])).trans h1,h0,h2.mapL φ hφ⟩
 |map e m=>exact RepB.step (blk:= .map e m) hst hb h |> fun⟨b,es,c,h1,h2,h3⟩=>⟨b,es,c,h1,h2,h3⟩
 |row e t ex xs=>exact RepB.step (g:=g) (blk:= .row e t ex xs) hst hb h
 |iter e l cur=>exact RepB.step (g:=g) (blk:= .iter e l cur) hst hb h
theorem Sim.turn(hs:Sim df G B0 M0 w0 gi g st a w){r:Nat}{y:Option GB}{w':World}(ht:Turn g r y w w'){φ:D->D}(hφ:∀d v,RepD0 (u9 M0 g) w g d v->RepD0 (u9 M0 (g.set r y)) w' (g.set r y) (φ d) v)
  (hφt:∀b l,φ (.tup b l) = .tup b l) (hpin:∀x,gi r=some x->a79 x.v=true->y=some x) {st':St} (hn:st'.n=st.n) (hfr:∀t d,v6 st'.fr t=some d->∃d0,v6 st.fr t=some d0/\d=a3Z φ d0)
  (hhp:∀r' blk,v6 st'.hp r'=some blk->(r'=r/\∃z,y=some z/\RepB (u9 M0 (g.set r y)) w' (g.set r y) z blk)\/(r'≠r/\∃blk0,v6 st.hp r'=some blk0/\blk=blk0.lift φ)):
  Sim df G B0 M0 w0 gi (g.set r y) st' a w':=by
 have hb0:=hs.b0;have hsz:=hs.size;refine{defers:=hs.defers,sz:=hs.sz.trans hn.symm,inb:=fun t d h=>by obtain⟨d0,h1,_⟩:=hfr t d h;rw[hn];exact hs.inb t d0 h1,fr:=?_,hp:=?_,low:=?_,inj:=?_,row:=?_,m0:=hs.m0,pin:=?_,gin:=hs.gin,gil:=hs.gil,ext:=?_,stp:=hs.stp.trans (ht.step hs),gg:=hs.gg,b0:=hb0}
 ·intro t d h;obtain⟨d0,h1,rfl⟩:=hfr t d h;exact RepD.lift hφ hφt (hs.fr t d0 h1)
 ·intro r' blk h;rcases hhp r' blk h with⟨rfl,z,h1,h2⟩|⟨hr,blk0,h1,rfl⟩
  ·exact⟨z,by rw[Gh.set_same];exact h1,h2⟩
  ·obtain⟨x,h2,h3⟩:=hs.hp _ _ h1;exact⟨x,by rw[Gh.set_other _ _ hr];exact h2,RepB.turn hs ht hφ hr h2 h3⟩
 ·intro r' x b h1 h2;by_cases hr:r'=r
  ·subst hr;rw[Gh.set_same]at h1;obtain⟨h3,h4⟩:=ht.blk x b h1 h2;rcases h4 with h4|⟨x',h4,h5⟩
   ·exact⟨by omega,h3,.inr (by omega)⟩
   ·have:=hs.low _ _ _ h4 h5;exact⟨this.1,h3,this.2.2⟩
  ·rw[Gh.set_other _ _ hr]at h1;have:=hs.low _ _ _ h1 h2;exact⟨this.1,Nat.lt_of_lt_of_le this.2.1 ht.size,this.2.2⟩
 ·have key:∀r' x z b,r'≠r->g r'=some x->y=some z->x.blk=some b->z.blk=some b->False:=by
   intro r' x z b hr h1 h2 h3 h4;rcases(ht.blk z b h2 h4).2 with h5|⟨x',h5,h6⟩
   ·have:=(hs.low _ _ _ h1 h3).2.1;omega
   ·exact hr (hs.inj _ _ _ _ _ h1 h5 h3 h6)
  intro r1 r2 x1 x2 b h1 h2 h3 h4;by_cases hr1:r1=r<;>by_cases hr2:r2=r
  ·rw[hr1,hr2]
  ·subst hr1;rw[Gh.set_same]at h1;rw[Gh.set_other _ _ hr2]at h2;exact(key _ _ _ _ hr2 h2 h1 h4 h3).elim
  ·subst hr2;rw[Gh.set_same]at h2;rw[Gh.set_other _ _ hr1]at h1;exact(key _ _ _ _ hr1 h1 h2 h3 h4).elim
  ·rw[Gh.set_other _ _ hr1]at h1;rw[Gh.set_other _ _ hr2]at h2;exact hs.inj _ _ _ _ _ h1 h2 h3 h4
 ·intro r' x b h1 h2 h3 es c;by_cases hr:r'=r
  ·subst hr;rw[Gh.set_same]at h1;exact ht.row x b h1 h2 h3 es c
  ·rw[Gh.set_other _ _ hr]at h1;rw[ht.other b (hs.low _ _ _ h1 h2).2.1 fun x' h4 h5=>hr (hs.inj _ _ _ _ _ h1 h4 h2 h5)];exact hs.row r' x b h1 h2 h3 es c
 ·intro r' x h1 h2;by_cases hr:r'=r
  ·subst hr;rw[Gh.set_same];exact hpin x h1 h2
  ·rw[Gh.set_other _ _ hr];exact hs.pin r' x h1 h2
 ·refine hs.ext.trans (b:=w) (Y:=fun b=>∃x,g r=some x/\x.blk=some b) ⟨ht.os,ht.tape,ht.output,ht.size,fun k hk hx=>ht.other k hk fun x h1 h2=>hx ⟨x,h1,h2⟩⟩ ?_;rintro b hb ⟨x,h1,h2⟩;rcases(hs.low _ _ _ h1 h2).2.2 with h3|h3
  ·exact h3
  ·omega
theorem a30{φ:D->D}{t:Nat}{d:D}(h:v6 (st.lift φ).fr t=some d):∃d0,v6 st.fr t=some d0/\d=a3Z φ d0:=by
 change v6 (a4u (a3Z φ) st.fr) t=some d at h;rw[b59]at h;cases h0:v6 st.fr t with
 |none=>rw[h0]at h;cases h
 |some d0=>rw[h0]at h;cases h;exact⟨d0,rfl,rfl⟩
theorem a9x{φ:D->D}{r:Nat}{b:Blk}(h:v6 (st.lift φ).hp r=some b):∃b0,v6 st.hp r=some b0/\b=b0.lift φ:=by
 change v6 (a4u (Blk.lift φ) st.hp) r=some b at h;rw[b59]at h;cases h0:v6 st.hp r with
 |none=>rw[h0]at h;cases h
 |some d0=>rw[h0]at h;cases h;exact⟨d0,rfl,rfl⟩
theorem Sim.turnB(hs:Sim df G B0 M0 w0 gi g st a w){r:Nat}{z:GB}{w':World}(ht:Turn g r (some z) w w'){φ:D->D}(hφ:∀d v,RepD0 (u9 M0 g) w g d v->RepD0 (u9 M0 (g.set r (some z))) w' (g.set r (some z)) (φ d) v)
  (hφt:∀b l,φ (.tup b l) = .tup b l) (hpin:∀x,gi r=some x->a79 x.v=true->z=x) {blk:Blk} (hblk:RepB (u9 M0 (g.set r (some z))) w' (g.set r (some z)) z blk):
  Sim df G B0 M0 w0 gi (g.set r (some z)) ((st.lift φ).setB r blk) a w':=by
 refine hs.turn ht hφ hφt (fun x h1 h2=>by rw[hpin x h1 h2]) rfl (fun t d h=>a30 h) fun r' b h=>?_
 change v6 (a4S (st.lift φ).hp r blk) r'=some b at h;by_cases hr:r'=r
 ·subst hr;rw[R3]at h;cases h;exact .inl ⟨rfl,z,rfl,hblk⟩
 ·rw[H9 _ _ hr]at h;exact .inr ⟨hr,a9x h⟩
theorem c1g(d:D):a3Z id d=d:=by cases d<;>simp[a3Z]
theorem b1z(b:Blk):b.lift id=b:=by cases b<;>simp[Blk.lift]
theorem b8V(st:St):st.lift id=st:=by
 obtain⟨n,fr,hp⟩:=st;have h1:∀l:List (Nat×D),a4u (a3Z id) l=l:=fun l=>by
  induction l with
  |nil=>rfl
  |cons p l ih=>show(p.1,a3Z id p.2) :: a4u (a3Z id) l=_;rw[ih,c1g]
 have h2:∀l:List (Nat×Blk),a4u (Blk.lift id) l=l:=fun l=>by
  induction l with
  |nil=>rfl
  |cons p l ih=>show(p.1,Blk.lift id p.2) :: a4u (Blk.lift id) l=_;rw[ih,b1z]
 show St.mk n (a4u (a3Z id) fr) (a4u (Blk.lift id) hp)=_;rw[h1,h2]
theorem Sim.setB(hs:Sim df G B0 M0 w0 gi g st a w){r:Nat}{x:GB}(hx:g r=some x){w':World}(hos:w'.os=w.os)(htp:w'.tape=w.tape)(hout:w'.output=w.output)(hsize:w.heap.size<=w'.heap.size)
  (hother:∀b,b<w.heap.size->x.blk≠some b->w'.heap[b]? = w.heap[b]?)
  (hkeep:∀b,x.blk=some b->0<x.lo->(∀o u s,o<x.lo->w.cell? ⟨b,o,s⟩=some u->w'.cell? ⟨b,o,s⟩=some u)/\(∀es c,w'.heap[b]? ≠ some (.map es c)))
  {blk:Blk} (hblk:Step (u9 M0 g) w (u9 M0 g) w'->RepB (u9 M0 g) w' g x blk):Sim df G B0 M0 w0 gi g (st.setB r blk) a w':=by
 have hg:g.set r (some x)=g:=Gh.set_self g r hx;have ht:Turn g r (some x) w w':=⟨hos,htp,hout,hsize,fun b hb h=>hother b hb (h x hx),fun z b h1 h2=>by
   cases h1;exact⟨Nat.lt_of_lt_of_le (hs.low _ _ _ hx h2).2.1 hsize,.inr ⟨x,hx,h2⟩⟩,fun x' b h1 h2 h3=>by
   rw[hx]at h1;cases h1;exact⟨(hkeep b h2 h3).1,fun z h4 _=>by cases h4;exact Nat.le_refl _⟩,fun z b h1 h2 h3=>by cases h1;exact(hkeep b h2 h3).2⟩
 have hst:=ht.step hs;rw[hg]at hst;have:=hs.turnB (φ:=id) ht (fun d v h=>by rw[hg];exact RepD0.step hst h) (fun _ _=>rfl) (fun x' h1 h2=>by have:=hs.pin r x' h1 h2;rw[hx]at this;cases this;rfl) (blk:=blk) (by rw[hg];exact hblk hst);rw[hg,b8V]at this;exact this
theorem C0{l:List Nat}{i:Nat}:w9 l i=true↔i∈l:=by
 induction l with
 |nil=>simp[w9]
 |cons j l ih=>
  unfold w9;split
  ·rename_i h;have:=Nat.eq_of_beq_eq_true h;subst this;simp
  ·rename_i h;have hne:¬i=j:=fun e=>by subst e;simp at h
   rw[ih];simp[hne]
theorem RepD0.forget'{M M':Nat->Nat->Prop}{w':World}{g':Gh}{l:List Nat}(hst:Step M w M' w')(hg:∀r,r∉l->∀x,g r=some x->g' r=some x){d:D}{v:Value}(h:RepD0 M w g d v):RepD0 M' w' g' (forget l d) v:=by
 have hne:∀r,w9 l r=false->∀x,g r=some x->g' r=some x:=fun r hr=>hg r fun hm=>by rw[C0.2 hm]at hr;cases hr
 cases d with
 |box r o=>
  simp only[Go.Proofs.YtckdohagilcloaaGreatDoor.forget];split
  ·trivial
  ·rename_i hr;obtain⟨x,b,h1,h2⟩:=h;exact⟨x,b,hne r hr x h1,h2⟩
 |mref r=>
  simp only[Go.Proofs.YtckdohagilcloaaGreatDoor.forget];split
  ·trivial
  ·rename_i hr;obtain⟨x,b,h1,h2⟩:=h;exact⟨x,b,hne r hr x h1,h2⟩
 |row r=>
  simp only[Go.Proofs.YtckdohagilcloaaGreatDoor.forget];split
  ·trivial
  ·rename_i hr;obtain⟨x,A,n,c,h1,h2⟩:=h;exact⟨x,A,n,c,hne r hr x h1,h2⟩
 |elp r z i o=>
  simp only[Go.Proofs.YtckdohagilcloaaGreatDoor.forget];split
  ·trivial
  ·rename_i hr;obtain⟨x,b,n,c,h1,h2⟩:=h;exact⟨x,b,n,c,hne r hr x h1,h2⟩
 |tl r z i=>
  simp only[Go.Proofs.YtckdohagilcloaaGreatDoor.forget];split
  ·trivial
  ·rename_i hr;obtain⟨x,b,n,c,h1,h2⟩:=h;exact⟨x,b,n,c,hne r hr x h1,h2⟩
 |fnc f ns=>
  simp only[Go.Proofs.YtckdohagilcloaaGreatDoor.forget];split
  ·trivial
  ·rename_i hr;obtain⟨cs,e,ha⟩:=h;refine⟨cs,e,?_⟩;clear e;revert hr ha;generalize cs.toList=us;induction ns generalizing us with
   |nil=>intro _ ha;cases us with|nil=>trivial|cons _ _=>exact ha.elim
   |cons n ns ih=>
    intro hr ha;cases us with
    |nil=>exact ha.elim
    |cons u us=>
     simp only[List.any_cons,Bool.or_eq_false_iff]at hr;obtain⟨⟨x,b,h1,h2⟩,h3⟩:=ha;exact⟨⟨x,b,hne n hr.1 x h1,h2⟩,ih us hr.2 h3⟩
 |dead=>trivial
 |skip=>exact h
 |bl b=>exact h
 |v t x=>exact RepV.step hst h
 |nilS=>exact h
 |nilP=>exact h
 |at_ t x=>obtain⟨ad,cs,a,b,c⟩:=h;exact⟨ad,cs,a,RepC.step hst _ _ _ b,c.step hst⟩
 |tup b l=>exact h.elim
theorem RepD0.forget{M M':Nat->Nat->Prop}{w':World}{g':Gh}{l:List Nat}(hst:Step M w M' w')(hg:∀r,r∉l->g' r=g r){d:D}{v:Value}(h:RepD0 M w g d v):RepD0 M' w' g' (Go.Proofs.YtckdohagilcloaaGreatDoor.forget l d) v:=
 RepD0.forget' hst (fun r hr x hx=>(hg r hr).trans hx) h
theorem Turn.new(hs:Sim df G B0 M0 w0 gi g st a w)(r:Nat){z:GB}{w':World}(he:Ext w w')(hz:∀b,z.blk=some b->w.heap.size<=b/\b<w'.heap.size/\∀es c,0<z.lo->w'.heap[b]? ≠ some (.map es c)):Turn g r (some z) w w':=by
 refine⟨he.os,he.tape,he.output,he.size,fun b hb _=>he.block b hb,fun z' b h1 h2=>?_,fun x b h1 h2 h3=>⟨fun o u s _ hc=>he.cell hc,fun z' h4 h5=>?_⟩,fun z' b h1 h2 h3 es c=>?_⟩
 ·cases h1;exact⟨(hz b h2).2.1,.inl (hz b h2).1⟩
 ·cases h4;have:=(hs.low _ _ _ h1 h2).2.1;have:=(hz b h5).1;omega
 ·cases h1;exact(hz b h2).2.2 es c h3
theorem Sim.newB(hs:Sim df G B0 M0 w0 gi g st a w){r:Nat}(hr:1000<=r){z:GB}{w':World}(he:Ext w w')(hz:∀b,z.blk=some b->w.heap.size<=b/\b<w'.heap.size/\∀es c,0<z.lo->w'.heap[b]? ≠ some (.map es c))
  {blk:Blk} (hblk:Step (u9 M0 g) w (u9 M0 (g.set r (some z))) w'->RepB (u9 M0 (g.set r (some z))) w' (g.set r (some z)) z blk):Sim df G B0 M0 w0 gi (g.set r (some z)) (st.new r blk) a w':=by
 have ht:=Turn.new hs r he hz;have hst:=ht.step hs;exact hs.turnB ht (φ:=forget [r]) (fun d v h=>RepD0.forget hst (fun i hi=>Gh.set_other _ _ fun e=>hi (by simp[e])) h) (fun _ _=>rfl)
  (fun x h1 h2=>absurd (hs.gin _ _ h1 h2) (by omega)) (hblk hst)
theorem Sim.gone(hs:Sim df G B0 M0 w0 gi g st a w){r:Nat}(hr:∀x,gi r=some x->a79 x.v=true->False){φ:D->D}(hφ:∀d v,Step (u9 M0 g) w (u9 M0 (g.set r none)) w->RepD0 (u9 M0 g) w g d v->RepD0 (u9 M0 (g.set r none)) w (g.set r none) (φ d) v)
  (hφt:∀b l,φ (.tup b l) = .tup b l):Sim df G B0 M0 w0 gi (g.set r none) ((st.lift φ).delB r) a w:=by
 have ht:Turn g r none w w:=⟨rfl,rfl,rfl,Nat.le_refl _,fun _ _ _=>rfl,fun z b h=>(by cases h),fun x b _ _ _=>⟨fun _ _ _ _ h=>h,fun z h=>(by cases h)⟩,fun z b h=>(by cases h)⟩;have hst:=ht.step hs;refine hs.turn ht (φ:=φ) (fun d v h=>hφ d v hst h) hφt (fun x h1 h2=>(hr x h1 h2).elim) rfl (fun t d h=>a30 h) fun r' b h=>?_
 change v6 (b5M (st.lift φ).hp r) r'=some b at h;by_cases hr:r'=r
 ·subst hr;rw[a6y]at h;cases h
 ·rw[a52 _ hr]at h;exact .inr ⟨hr,a9x h⟩
end
end
end Go.Proofs.YtckdohagilcloaaGreatDoor
