/- % -/
import Derived.Test.YtckdohagilcloaaGreatDoorQLPaC
import Derived.Test.YtckdohagilcloaaGreatDoorQLBl1
import Derived.Test.YtckdohagilcloaaGreatDoorQLWe
import Derived.Test.YtckdohagilcloaaGreatDoorQWeF19
import Derived.Test.YtckdohagilcloaaGreatDoorQBmSt
namespace Go.Proofs.YtckdohagilcloaaGreatDoor
set_option linter.unusedVariables false
set_option linter.unusedSimpArgs false
open Go Go.RowKit
section
variable{N:Nat}
def a9I(a b:GValue):Bool:=a.kind==b.kind&&(a.text==b.text&&(a.number==b.number&&(decide (a.list=b.list)&&b.cases.isEmpty)))
theorem c49{a:GValue}(h:a.cases=[]):a9I a a=true:=by simp[a9I,h]
theorem b8B(hN:z7<=N)(d:Nat)(a b:GValue)(ha:a.cases=[])(hla:a.list.length<=maxLen)(hlb:b.list.length<=maxLen):G0 N (d+1) a b=some (a9I a b):=by
 show R0 N _ a b=_;unfold R0 a9I;rw[b58 hN _ _ hla hlb,c8,ha];have hL:∀r c k,b0K N r ((([]:List T8).length:Nat):Int) [] c k N 0=k:=fun r c k=>by
  obtain⟨n,rfl⟩:∃n,N=n+1:=⟨N-1,by unfold z7 at hN;omega⟩;show a4f _ _ _ _ _ _ _ _=_;simp[a4f]
 rw[hL];have hk:(a.kind !=b.kind) = !(a.kind==b.kind):=rfl;have hn:(a.number !=b.number) = !(a.number==b.number):=rfl;have hcs:(((([]:List T8).length:Nat):Int) !=(b.cases.length:Int)) = !b.cases.isEmpty:=by
  cases hb:b.cases with
  |nil=>rfl
  |cons=>simp;omega
 rw[hk,hn,hcs];cases a.kind==b.kind<;>cases a.text==b.text<;>cases a.number==b.number<;>cases decide (a.list=b.list)<;>cases b.cases.isEmpty<;>simp
theorem b2H(l:List T8)(h:l.length<=1000):S3 N l=some l:=by
 unfold S3;have e:Zf (([]:List T8).length+l.length) (.pr .str (.rc .value))=true:=decide_eq_true (by show(0+l.length)*(24*6)<=_;omega);rw[e,d9];cases l with
 |nil=>simp
 |cons a l=>simp
theorem e5y(hN:z7<=N)(d:Nat)(v:GValue)(h:v.cases=[])(hl:v.list.length<=1000000):R7 N (d+1) v=some v:=by
 show a0I N _ v=_;unfold a0I;rw[a8y _ hl,c8,h,b2H [] (by simp),c8];obtain⟨n,rfl⟩:∃n,N=n+1:=⟨N-1,by unfold z7 at hN;omega⟩;show a4i _ _ _ _ _ _ _=_;simp only[a4i];rw[show decide ((0:Int)<(([]:List T8).length:Int))=false by simp,g9,<-h,GValue.eta]
def a9H:List T8->List T8->Bool | [],[]=>true|x :: l,y :: m=>(x.1==y.1&&a9I x.2 y.2)&&a9H l m|_,_=>false
def b6P(a b:GValue):Bool:=a.kind==b.kind&&(a.text==b.text&&(a.number==b.number&&(decide (a.list=b.list)&&a9H a.cases b.cases)))
theorem b6Q:∀{l m:List T8},l.length≠m.length->a9H l m=false
 |[],[],h=>absurd rfl h
 |[],_ :: _,_=>rfl
 |_ :: _,[],_=>rfl
 |x :: l,y :: m,h=>by
  show((x.1==y.1&&a9I x.2 y.2)&&a9H l m)=false;rw[b6Q (l:=l) (m:=m) (by simpa using h)];simp
theorem b3N:∀{l:List T8},(∀k∈l,k.2.cases=[])->a9H l l=true
 |[],_=>rfl
 |x :: l,h=>by
  show((x.1==x.1&&a9I x.2 x.2)&&a9H l l)=true;rw[c49 (h x (by simp)),b3N fun k hk=>h k (by simp[hk])];simp
theorem c48{a:GValue}(h:∀k∈a.cases,k.2.cases=[]):b6P a a=true:=by
 unfold b6P;rw[b3N h];simp
theorem b3O(hN:z7<=N)(d:Nat)(k:Option Bool)(l m:List T8)(hl:l.length<=maxLen)(he:l.length=m.length)(h1:∀k∈l,k.2.cases=[]/\k.2.list.length<=maxLen)(h2:∀k∈m,k.2.list.length<=maxLen)(hk:k=some true):∀(q n i:Nat),i+q=l.length->q<n->b0K N (G0 N (d+1)) (l.length:Int) l m k n (i:Int)=some (a9H (l.drop i) (m.drop i))
 |0,n,i,hi,hn=>by
  obtain⟨n,rfl⟩:∃j,n=j+1:=⟨n-1,by omega⟩;have:i=l.length:=by omega
  subst this;show a4f _ _ _ _ _ _ _ _=_;simp only[a4f,P6,g9,List.drop_length];rw[he,List.drop_length,hk];rfl
 |q+1,n,i,hi,hn=>by
  obtain⟨n,rfl⟩:∃j,n=j+1:=⟨n-1,by omega⟩;have h:i<l.length:=by omega
  have hb:i<m.length:=by omega
  have ih:=b3O hN d k l m hl he h1 h2 hk q n (i+1) (by omega) (by omega);have hp:=h1 _ (List.getElem_mem h);show a4f _ _ _ _ _ _ _ _=_;simp only[a4f,m7 l h,m7 m hb,u5 hl h,ih,c8,b8B hN d _ _ hp.1 hp.2 (h2 _ (List.getElem_mem hb))];rw[I1 h,d9,List.drop_eq_getElem_cons h,List.drop_eq_getElem_cons hb];show _=some ((l[i].1==m[i].1&&a9I l[i].2 m[i].2)&&a9H _ _);cases l[i].1==m[i].1<;>cases a9I l[i].2 m[i].2<;>simp
theorem c4j(hN:z7<=N){a b:GValue}(ha:∀k∈a.cases,k.2.cases=[]/\k.2.list.length<=maxLen)(hb:∀k∈b.cases,k.2.list.length<=maxLen)(la:a.list.length<=maxLen)(lb:b.list.length<=maxLen)(ca:a.cases.length<=maxLen):G0 N N a b=some (b6P a b):=by
 obtain⟨d,hd⟩:∃d,N=d+2:=⟨N-2,by unfold z7 at hN;omega⟩;have e:G0 N N a b=R0 N (G0 N (d+1)) a b:=by
  conv=>lhs;arg 2;rw[hd]
  rfl
 rw[e];unfold R0 b6P;rw[b58 hN _ _ la lb,c8];have hk:(a.kind !=b.kind) = !(a.kind==b.kind):=rfl;have hn:(a.number !=b.number) = !(a.number==b.number):=rfl;rw[hk,hn];have hC:(br ((a.cases.length:Int) !=(b.cases.length:Int)) (some false) (b0K N (G0 N (d+1)) (a.cases.length:Int) a.cases b.cases (some true) N 0))=some (a9H a.cases b.cases):=by
  by_cases he:a.cases.length=b.cases.length
  ·rw[show((a.cases.length:Int) !=(b.cases.length:Int))=false by simp[he],g9];have:=b3O hN d (some true) a.cases b.cases ca he ha hb rfl a.cases.length N 0 (by omega) (by unfold maxLen at ca;unfold z7 at hN;omega);simpa using this
  ·rw[show((a.cases.length:Int) !=(b.cases.length:Int))=true by simp;omega,d9,b6Q he]
 rw[hC];cases a.kind==b.kind<;>cases a.text==b.text<;>cases a.number==b.number<;>cases decide (a.list=b.list)<;>simp
theorem c4G{v:GValue}(g:GoodV v):∀k∈v.cases,k.2.cases=[]/\k.2.list.length<=maxLen:=fun k hk=>⟨(g.cases k hk).2.1,Nat.le_trans (g.cases k hk).1.list (by decide)⟩
theorem c9d{v:GValue}(g:GoodV v):v.list.length<=maxLen:=Nat.le_trans g.list (by decide)
theorem c05{v:GValue}(g:GoodV v):v.cases.length<=maxLen:=Nat.le_trans g.few (by decide)
theorem a4c{t:y7}(h:S4 t=0):∀a∈t.2.2,a0B a.2=0:=by
 unfold S4 at h;split at h
 ·cases h
 ·split at h
  ·cases h
  ·split at h
   ·cases h
   ·have:=(a7m (q:=fun _ a=>a0B a.2=0) (body:=a54 t.2.2) (fun i x r hx=>by
     unfold a54 at hx;split at hx
     ·cases hx
     ·split at hx
      ·rename_i h1 h2;exact absurd hx (by simpa using h2)
      ·rename_i h1 h2;exact⟨by simpa using h2,a7t hx⟩) t.2.2 _ 0 h).1
    intro a ha;obtain⟨i,hi,rfl⟩:=List.mem_iff_getElem.1 ha;exact this i hi
theorem c1r(hN:z7<=N)(d:Nat)(l:List T8)(hl:l.length<=maxLen)(h1:∀k∈l,k.2.cases=[]/\k.2.list.length<=1000000)(k:List T8->Option GValue):∀(q n i:Nat),i+q=l.length->q<n->b94 N (R7 N (d+1)) (l.length:Int) k n (i:Int) l=k l
 |0,n,i,hi,hn=>by
  obtain⟨n,rfl⟩:∃j,n=j+1:=⟨n-1,by omega⟩;have:i=l.length:=by omega
  subst this;show a4i _ _ _ _ _ _ _=_;simp only[a4i,P6,g9]
 |q+1,n,i,hi,hn=>by
  obtain⟨n,rfl⟩:∃j,n=j+1:=⟨n-1,by omega⟩;have h:i<l.length:=by omega
  have ih:=c1r hN d l hl h1 k q n (i+1) (by omega) (by omega);have hp:=h1 _ (List.getElem_mem h);have hb:decide ((0:Int)<=(i:Int)/\(i:Int)<(l.length:Int))=true:=decide_eq_true ⟨by omega,by omega⟩;have hs:a3F l (i:Int) (l[i].1,l[i].2)=l:=by
   unfold a3F;exact List.set_getElem_self (by simpa using h)
  show a4i _ _ _ _ _ _ _=_;simp only[a4i,m7 l h,u5 hl h,c8,e5y hN d _ hp.1 hp.2];rw[I1 h,d9,hb,d9,d9,hs,ih]
theorem f5A(hN:z7<=N){v:GValue}(g:GoodV v):R7 N N v=some v:=by
 obtain⟨d,hd⟩:∃d,N=d+2:=⟨N-2,by unfold z7 at hN;omega⟩;have e:R7 N N v=a0I N (R7 N (d+1)) v:=by
  conv=>lhs;arg 2;rw[hd]
  rfl
 rw[e];unfold a0I;have hl:=g.few;rw[a8y _ (by have:=g.list;omega),c8,b2H _ (by omega),c8];have:=c1r hN d v.cases (c05 g) (fun k hk=>⟨(g.cases k hk).2.1,by have:=(g.cases k hk).1.list;omega⟩) (fun o=>some (GValue.mk v.kind v.text v.number v.list o)) v.cases.length N 0 (by omega) (by unfold z7 at hN;omega);rw[show((0:Nat):Int)=0 from rfl]at this;rw[this,GValue.eta]
def a9c(n:d3):List a2I->Option GValue | []=>none|a :: l=>if a.1==n then some a.2 else a9c n l
def a2p(t:y7)(n:d3):GValue×Bool:=match a9c n t.2.2 with
 |some v=>(v,true)
 |none=>(a97,false)
theorem b6b{n:d3}:∀{l:List a2I} {v:GValue},a9c n l=some v->∃a∈l,a.2=v
 |[],_,h=>by cases h
 |a :: l,v,h=>by
  unfold a9c at h;split at h
  ·cases h;exact⟨a,by simp,rfl⟩
  ·obtain⟨b,hb,e⟩:=b6b h;exact⟨b,by simp[hb],e⟩
theorem b2R{β:Type}(n:d3)(f:GValue->β)(z:β):∀(l:List a2I) (j:Nat),N0 (fun _ (a:a2I) r=>if(a.1==n)=true then f a.2 else r) z l j=(match a9c n l with|some v=>f v|none=>z)
 |[],_=>rfl
 |a :: l,j=>by
  show(if(a.1==n)=true then f a.2 else N0 _ z l (j+1))=_;rw[b2R n f z l (j+1)];have e:a9c n (a :: l)=if(a.1==n)=true then some a.2 else a9c n l:=rfl
  rw[e];by_cases h:(a.1==n)=true
  ·rw[if_pos h,if_pos h]
  ·rw[if_neg h,if_neg h]
theorem c0y(hN:z7<=N)(t:y7)(ht:t.2.2.length<=maxLen)(n:d3):a17 N t n=some (a2p t n):=by
 unfold a17 a2p;have e:(match a9c n t.2.2 with|some v=>(v,true)|none=>(a97,false))=N0 (fun _ (a:a2I) r=>if(a.1==n)=true then(a.2,true)else r) (a97,false) t.2.2 0:=(b2R n (fun v=>(v,true)) (a97,false) t.2.2 0).symm;rw[e];refine A8 (fun _ _=>rfl) t.2.2 ht (fun self i h r' hr=>?_) (fun self=>?_) hN
 ·simp only[b2C,m7 _ h,u5 ht h,hr,c8,GValue.eta];rw[I1 h,d9,B9]
 ·simp only[b2C,P6,g9];rfl
theorem c0r(hN:z7<=N)(a b:List a2I)(ha:a.length<=100000)(hb:b.length<=100000):Y2 N [a,b]=some (a++b):=by
 obtain⟨d,rfl⟩:∃d,N=d+3:=⟨N-3,by unfold z7 at hN;omega⟩;have e0:IntKind.i64.wrap ((0:Int)+(a.length:Int))=(a.length:Int):=by rw[Int.zero_add];exact M8 (by omega) (by omega)
 have e1:IntKind.i64.wrap ((a.length:Int)+(b.length:Int))=((a.length+b.length:Nat):Int):=by rw[Int.natCast_add];exact M8 (by omega) (by omega)
 have g0:n8 [a,b] (0:Int)=some a:=rfl;have g1:n8 [a,b] (1:Int)=some b:=rfl;have w1:IntKind.i64.wrap ((0:Int)+1)=1:=by decide
 have w2:IntKind.i64.wrap ((1:Int)+1)=2:=by decide
 have t0:decide ((0:Int)<2)=true:=rfl;have t1:decide ((1:Int)<2)=true:=rfl;have t2:decide ((2:Int)<2)=false:=rfl;have n0:decide ((a.length:Int)<0)=false:=decide_eq_false (by omega);have n1:decide (((a.length+b.length:Nat):Int)<0)=false:=decide_eq_false (by omega);have p0:Zf (([]:List a2I).length+a.length) (.pr .str (.rc .value))=true:=decide_eq_true (by show(0+a.length)*(24*6)<=_;omega);have p1:Zf (a.length+b.length) (.pr .str (.rc .value))=true:=decide_eq_true (by show(a.length+b.length)*(24*6)<=_;omega);have h0:∀k,b74 (d+3) [a,b] 2 k (d+3) 0 0=k ((a.length+b.length:Nat):Int):=by
  intro k;simp only[b74,c55,t0,t1,t2,g0,g1,w1,w2,e0,e1,n0,n1,c8,d9,g9]
 have h1:∀k,b76 (d+3) [a,b] 2 k (d+3) 0 []=k (a++b):=by
  intro k;simp only[b76,c56,t0,t1,t2,g0,g1,w1,w2,p0,p1,c8,d9,g9,List.nil_append]
 have hg:W8 ((a.length+b.length:Nat):Int)=some []:=by
  unfold W8 b6q;exact if_pos ⟨by omega,by show((a.length+b.length:Nat):Int)*((24*6:Nat):Int)<=_;omega⟩
 show b74 (d+3) [a,b] 2 _ (d+3) 0 0=_;rw[h0,hg,c8];show b76 (d+3) [a,b] 2 _ (d+3) 0 []=_;rw[h1]
structure GoodT(t:y7):Prop where
 few:t.2.2.length<=30
 vals:∀a∈t.2.2,a0B a.2=0
 asc:t.2.2.Pairwise fun a b=>a.1<b.1
theorem b3r{α β:Type}(f:α->β)(l:List α){i:Nat}(h:i<l.length):(l.take (i+1)).map f=(l.take i).map f ++ [f l[i]]:=by
 rw[List.take_succ_eq_append_getElem h,List.map_append];rfl
theorem a8A{t:y7}(ht:GoodT t)(n:d3):(∀k∈(a2p t n).1.cases,k.2.cases=[]/\k.2.list.length<=maxLen)/\(a2p t n).1.list.length<=maxLen/\(a2p t n).1.cases.length<=maxLen:=by
 unfold a2p;cases h:a9c n t.2.2 with
 |none=>exact⟨fun k hk=>(by cases hk),Nat.zero_le _,Nat.zero_le _⟩
 |some v=>
  obtain⟨a,ha,rfl⟩:=b6b h;have g:=f0j (ht.vals a ha);exact⟨c4G g,c9d g,c05 g⟩
def a9k(t u:y7)(n:d3):Bool:=((a2p t n).2 !=(a2p u n).2) || !(b6P (a2p t n).1 (a2p u n).1)
def d3O(t u:y7):List d3:=if t.2.1==u.2.1 then []else [[107,105,110,100]]
def b6c(t:y7):List d3:=t.2.2.map (·.1)
def b89(t u:y7):List d3:=d3O t u++(a6g (b6c t++b6c u)).filter (a9k t u)
theorem b0i{α:Type}(p:α->Bool)(l:List α){i:Nat}(h:i<l.length):(l.take (i+1)).filter p=(l.take i).filter p++if p l[i]=true then [l[i]]else []:=by
 rw[List.take_succ_eq_append_getElem h,List.filter_append];congr 1;cases hp:p l[i]<;>simp[hp]
theorem b50(hN:z7<=N)(t u:y7)(ht:GoodT t)(hu:GoodT u):Z2 N t u=some (b89 t u):=by
 have hlt:=ht.few;have hlu:=hu.few;unfold Z2;rw[c0r hN _ _ (by omega) (by omega),c8];have h0:∀k,b4r N ((t.2.2++u.2.2).length:Int) (t.2.2++u.2.2) k N 0 []=k ((t.2.2++u.2.2).map (·.1)):=by
  intro k;have hL:(t.2.2++u.2.2).length<=60:=by rw[List.length_append];omega
  generalize t.2.2++u.2.2=L at hL ⊢;have hm:L.length<=maxLen:=Nat.le_trans hL (by decide);have:=a5c (f:=fun n i w=>b4r N (L.length:Int) L k n i w) (T:=fun self i w=>a9R N (L.length:Int) L k self i w) (fun _ _ _=>rfl) hm (fun i=>(L.take i).map (·.1)) (r:=k (L.map (·.1))) (fun self i hi hr=>?_) (fun self=>?_) hN
  ·simpa using this
  ·rw[b3r _ _ hi]at hr;have hw:((L.take i).map (·.1)).length<=60:=by rw[List.length_map,List.length_take];omega
   generalize (L.take i).map (·.1)=w at hr hw ⊢;simp only[a9R,m7 _ hi,u5 hm hi,c8];have hsz:(w.length + [L[i].1].length)*(24*Ty.sz .str)<=140737488355328:=by
    rw[List.length_singleton];show _*24<=_;omega
   rw[I1 hi,d9,a1d hsz];exact hr
  ·simp only[a9R,P6,g9,List.take_length]
 rw[h0];have hlen:((t.2.2++u.2.2).map (·.1)).length<=60:=by rw[List.length_map,List.length_append];omega
 have hns:(t.2.2++u.2.2).map (·.1)=b6c t++b6c u:=List.map_append;rw[hns]at hlen ⊢;unfold b89;generalize b6c t++b6c u=ns at hlen ⊢;unfold w6 q8;rw[if_pos (by omega),c8,c8,a9g];have hcl:(a6g ns).length<=60:=by
  have:=d4D ns [];unfold a6g;rw[List.length_mergeSort,List.length_map];simp only[List.length_nil]at this;omega
 generalize a6g ns=cs at hcl ⊢;have htm:t.2.2.length<=maxLen:=by unfold maxLen;omega
 have hum:u.2.2.length<=maxLen:=by unfold maxLen;omega
 have hcm:cs.length<=maxLen:=Nat.le_trans hcl (by decide);have h1:∀w0:List d3,w0.length<=1->b0U N (cs.length:Int) t.1 t.2.1 t.2.2 u.1 u.2.1 u.2.2 cs (fun w=>some w) N 0 w0=some (w0++cs.filter (a9k t u)):=by
  intro w0 hw0;have:=a5c (f:=fun n i w=>b0U N (cs.length:Int) t.1 t.2.1 t.2.2 u.1 u.2.1 u.2.2 cs (fun w=>some w) n i w) (T:=fun self i w=>a9S N (cs.length:Int) t.1 t.2.1 t.2.2 u.1 u.2.1 u.2.2 cs (fun w=>some w) self i w) (fun _ _ _=>rfl) hcm (fun i=>w0++(cs.take i).filter (a9k t u)) (r:=some (w0++cs.filter (a9k t u))) (fun self i hi hr=>?_) (fun self=>?_) hN
  ·simpa using this
  ·rw[b0i _ _ hi,<-List.append_assoc]at hr;have hw:(w0++(cs.take i).filter (a9k t u)).length<=61:=by
    rw[List.length_append];have:=List.length_filter_le (a9k t u) (cs.take i);rw[List.length_take]at this;omega
   generalize w0++(cs.take i).filter (a9k t u)=w at hr hw ⊢;have hsz:(w.length + [cs[i]].length)*(24*Ty.sz .str)<=140737488355328:=by
    rw[List.length_singleton];show _*24<=_;omega
   have a1:a17 N (t.1,t.2.1,t.2.2) cs[i]=some (a2p t cs[i]):=c0y hN t htm cs[i];have a2:a17 N (u.1,u.2.1,u.2.2) cs[i]=some (a2p u cs[i]):=c0y hN u hum cs[i];have f1:=a8A ht cs[i];have f2:=a8A hu cs[i];simp only[a9S,m7 _ hi,u5 hcm hi,c8,GValue.eta,a1,a2,c4j hN f1.1 (fun k hk=>(f2.1 k hk).2) f1.2.1 f2.2.1 f1.2.2];rw[I1 hi,d9,a1d ⟨by omega,by omega⟩];unfold a9k at hr;cases h1:(a2p t cs[i]).2 !=(a2p u cs[i]).2<;>cases h2:b6P (a2p t cs[i]).1 (a2p u cs[i]).1<;>simp only[h1,h2,Bool.not_true,Bool.not_false,Bool.or_true,Bool.or_false,Bool.true_or,if_true,Bool.false_eq_true,if_false,List.append_nil,d9,g9]at hr ⊢
   ·rw[a1d hsz];exact hr
   ·exact hr
   ·rw[a1d hsz];exact hr
   ·rw[a1d hsz];exact hr
  ·simp only[a9S,P6,g9,List.take_length]
 unfold d3O;cases hk:t.2.1==u.2.1
 ·simp only[Bool.not_false,d9,c8];rw[a1d (by simp[Ty.sz])];exact h1 [[107,105,110,100]] (by simp)
 ·simp only[Bool.not_true,g9,c8];exact h1 [] (by simp)
theorem f0k{t:y7}(h:S4 t=0):GoodT t:=⟨(a5u h).1,a4c h,(a5u h).2.2⟩
theorem c0x{t:y7}(ht:GoodT t)(n:d3):∀k∈(a2p t n).1.cases,k.2.cases=[]:=fun k hk=>((a8A ht n).1 k hk).1
theorem c1q{t:y7}(ht:GoodT t):b89 t t=[]:=by
 unfold b89 d3O;rw[beq_self_eq_true,if_pos rfl,List.nil_append,List.filter_eq_nil_iff];intro n _;unfold a9k;rw[c48 (c0x ht n)];simp
end
section
variable{N:Nat}
theorem a3m{l:List d3}{sep:d3}(h1:(Lib.join l sep).length<=1000000000000)(h2:l.length<=1000000000):strings_Join l sep=some (Lib.join l sep):=by
 unfold strings_Join;rw[if_pos ⟨by omega,by omega⟩]
section
variable{r:GExpr->Option d3}
end
end
section
variable{N:Nat}
end
section
theorem e3D{N:Nat}(s:d3)(hs:s.length<=50000)(w:List K6):∀(d i n:Nat),i+d=s.length->d<n->
  ∃j:Nat,i<=j/\j<=s.length/\s.drop j=S0 false (s.drop i)/\b8a N s w (fun o=>some (s,o,w)) n (i:Int)=some (s,(j:Int),w):=by
 intro d;induction d using Nat.strongRecOn with
 |_ d ih=>
  intro i n hd hn;obtain⟨n,rfl⟩:∃q,n=q+1:=⟨n-1,by omega⟩;show ∃j:Nat,_/\_/\_/\b1l N s w _ (b8a N s w _ n) (i:Int)=_;unfold b1l;by_cases hi:i<s.length
  ·rw[I1 hi,d9,m7 s hi,List.drop_eq_getElem_cons hi];simp only[c8];have next:∃j:Nat,i<=j/\j<=s.length/\s.drop j=S0 false (s.drop (i+1))/\b8a N s w (fun o=>some (s,o,w)) n (IntKind.i64.wrap ((i:Int)+1))=some (s,(j:Int),w):=by
    rw[a0C (m:=i+1) (by omega) (by omega)];obtain⟨j,h1,h2,h3,h4⟩:=ih (d-1) (by omega) (i+1) n (by omega) (by omega);exact⟨j,by omega,h2,h3,h4⟩
   simp only[S0];by_cases h32:s[i]=32
   ·simpa [h32]using next
   by_cases h9:s[i]=9
   ·simpa [h9]using next
   by_cases h10:s[i]=10
   ·simpa [h10]using next
   by_cases h13:s[i]=13
   ·simpa [h13]using next
   rw[if_neg h32,if_neg h9,if_neg h10,if_neg h13];by_cases h35:s[i]=35
   ·rw[if_pos h35];simp only[h35,b9r s (Nat.le_of_lt hi),c8];simp only[show((35:UInt8)==32)=false by decide,show((35:UInt8)==9)=false by decide,show((35:UInt8)==10)=false by decide,show((35:UInt8)==13)=false by decide,show((35:UInt8)==35)=true by decide,d9,g9];have hid:Lib.indexByte (s.drop i) 10=if Lib.indexByte (s.drop (i+1)) 10 = -1 then -1 else Lib.indexByte (s.drop (i+1)) 10+1:=by
     rw[List.drop_eq_getElem_cons hi,b3m,if_neg h10]
    have hlt:=d3J 10 (s.drop (i+1));rw[List.length_drop]at hlt;have hg:=Lib.indexByte_ge (s.drop (i+1)) 10;unfold strings_IndexByte;simp only[c8];rw[hid,b6R];by_cases hneg:Lib.indexByte (s.drop (i+1)) 10 = -1
    ·rw[if_pos hneg,if_pos (by omega),decide_eq_true (by omega),d9,a0C (n:=(s.length:Int)-(i:Int)) (m:=s.length-i) (by omega) (by omega),a0C (m:=s.length) (by omega) (by omega)];refine⟨s.length,by omega,Nat.le_refl _,List.drop_length,?_⟩;obtain⟨n,rfl⟩:∃q,n=q+1:=⟨n-1,by omega⟩;show b1l N s w _ _ _=_;unfold b1l;rw[P6,g9]
    ·obtain⟨q,hq⟩:∃q:Nat,Lib.indexByte (s.drop (i+1)) 10=(q:Int):=⟨(Lib.indexByte (s.drop (i+1)) 10).toNat,by omega⟩;rw[if_neg hneg,hq,if_neg (by omega),decide_eq_false (by omega),g9,a0C (m:=i+1+q) (by omega) (by omega)];obtain⟨j,h1,h2,h3,h4⟩:=ih (d-(1+q)) (by omega) (i+1+q) n (by omega) (by omega);refine⟨j,by omega,h2,?_,h4⟩;rw[h3,Int.toNat_natCast,List.drop_drop]
   ·rw[if_neg h35];refine⟨i,Nat.le_refl _,by omega,List.drop_eq_getElem_cons hi,?_⟩;simp only[a4e h32,a4e h9,a4e h10,a4e h13,a4e h35,g9]
  ·obtain rfl:i=s.length:=by omega
   rw[P6,g9];exact⟨s.length,Nat.le_refl _,Nat.le_refl _,by rw[List.drop_length];rfl,rfl⟩
theorem f0O{N:Nat}(s:d3)(hs:s.length<=50000)(w:List K6):∀(d i m:Nat) (acc:d3),i+d=s.length->d<m->acc.length<=i->
  (∃(txt:d3) (j:Nat),i<j/\j<=s.length/\D0 (s.drop i) acc=some (txt,s.drop j)/\txt.length<=s.length/\b5q N s w (fun o=>some (([]:d3),false,s,o,w)) m (i:Int) acc=some (txt,true,s,(j:Int),w))\/
  (D0 (s.drop i) acc=none/\∃txt p,b5q N s w (fun o=>some (([]:d3),false,s,o,w)) m (i:Int) acc=some (txt,false,s,p,w)):=by
 intro d;induction d using Nat.strongRecOn with
 |_ d ih=>
  intro i m acc hd hm ha;obtain⟨m,rfl⟩:∃q,m=q+1:=⟨m-1,by omega⟩;show(∃(txt:d3) (j:Nat),_/\_/\_/\_/\b5r N s w _ (b5q N s w _ m) (i:Int) acc=_)\/(D0 (s.drop i) acc=none/\∃txt p,b5r N s w _ (b5q N s w _ m) (i:Int) acc=_);unfold b5r;by_cases hi:i<s.length
  ·simp only[I1 hi,d9,m7 s hi,c8,a0C (n:=(i:Int)+1) (m:=i+1) (by omega) (by omega)];by_cases h34:s[i]=34
   ·left;refine⟨acc,i+1,by omega,by omega,?_,by omega,?_⟩
    ·rw[List.drop_eq_getElem_cons hi];cases h:s.drop (i+1)with
     |nil=>simp[D0,h34]
     |cons e r=>simp[D0,h34]
    ·simp[h34]
   simp only[a4e h34,g9];by_cases h92:s[i]=92
   ·simp only[h92,show decide ((92:UInt8)<32)=false by decide,show decide ((92:UInt8)>126)=false by decide,show((92:UInt8)==92)=true by decide,show((92:UInt8) !=92)=false by decide,d9,g9];by_cases hi1:i+1<s.length
    ·have hne:(((i+1:Nat):Int)==(s.length:Int))=false:=by
      rw[beq_eq_false_iff_ne];omega
     simp only[hne,g9,I1 hi1,d9,m7 s hi1,c8,a0C (n:=((i+1:Nat):Int)+1) (m:=i+2) (by omega) (by omega)];have hsl:slc s ((i+1:Nat):Int) ((i+2:Nat):Int)=some [s[i+1]]:=by
      rw[a8R s (by omega) (by omega),List.drop_take,show i+2-(i+1)=1 by omega,List.drop_eq_getElem_cons hi1];rfl
     have hb:∀c:UInt8,Zf (acc.length + [c].length) .u8=true:=fun c=>decide_eq_true (by simp[Ty.sz];omega)
     have hb2:∀c:UInt8,decide (acc.length + [c].length<=9223372036854775807)=true:=fun c=>decide_eq_true (by simp;omega)
     have next:∀c:UInt8,_:=fun c=>ih (d-2) (by omega) (i+2) m (acc ++ [c]) (by omega) (by omega) (by simp;omega)
     simp only[hsl,c8,hb,hb2,d9];have hT:D0 (s.drop i) acc=if s[i+1]=34 then D0 (s.drop (i+2)) (acc ++ [34])else if s[i+1]=92 then D0 (s.drop (i+2)) (acc ++ [92])else if s[i+1]=110 then D0 (s.drop (i+2)) (acc ++ [10])else none:=by
      rw[List.drop_eq_getElem_cons hi,List.drop_eq_getElem_cons hi1,h92,D0,if_neg (by decide),if_neg (by decide),if_neg (by decide),if_pos rfl]
     rw[hT];by_cases g34:s[i+1]=34
     ·have nx:=next 34
      simp only[g34,show((34:UInt8)==34)=true by decide,d9,if_true];rcases nx with⟨txt,j,h1,h2,h3,h5,h4⟩|h
      ·exact .inl ⟨txt,j,by omega,h2,h3,h5,h4⟩
      ·exact .inr h
     simp only[a4e g34,g9,if_neg g34];by_cases g92:s[i+1]=92
     ·have nx:=next 92
      simp only[g92,show((92:UInt8)==92)=true by decide,d9,if_true];rcases nx with⟨txt,j,h1,h2,h3,h5,h4⟩|h
      ·exact .inl ⟨txt,j,by omega,h2,h3,h5,h4⟩
      ·exact .inr h
     simp only[a4e g92,g9,if_neg g92];by_cases g110:s[i+1]=110
     ·have nx:=next 10
      simp only[g110,show((110:UInt8)==110)=true by decide,d9,if_true];rcases nx with⟨txt,j,h1,h2,h3,h5,h4⟩|h
      ·exact .inl ⟨txt,j,by omega,h2,h3,h5,h4⟩
      ·exact .inr h
     simp only[a4e g110,g9,if_neg g110];exact .inr ⟨by first|rfl|trivial,_,_,rfl⟩
    ·have he:i+1=s.length:=by omega
     have hT0:D0 (s.drop i) acc=none:=by
      rw[List.drop_eq_getElem_cons hi,List.drop_eq_nil_of_le (by omega),h92];simp[D0]
     simp only[he,beq_self_eq_true,d9,P6,g9];exact .inr ⟨hT0,_,_,rfl⟩
   have hne92:(s[i] !=92)=true:=by rw[bne,a4e h92];rfl
   simp only[a4e h92,hne92,g9,d9];by_cases hlo:s[i]<32
   ·have hT0:D0 (s.drop i) acc=none:=by
     rw[List.drop_eq_getElem_cons hi];cases s.drop (i+1)with
     |nil=>simp[D0,h34]
     |cons e r=>rw[D0,if_neg h34,if_pos hlo]
    simp only[decide_eq_true hlo,d9];exact .inr ⟨hT0,_,_,rfl⟩
   by_cases hhi:s[i]>126
   ·have hT0:D0 (s.drop i) acc=none:=by
     rw[List.drop_eq_getElem_cons hi];cases s.drop (i+1)with
     |nil=>simp[D0,h34]
     |cons e r=>rw[D0,if_neg h34,if_neg hlo,if_pos hhi]
    simp only[decide_eq_false hlo,decide_eq_true hhi,d9,g9];exact .inr ⟨hT0,_,_,rfl⟩
   simp only[decide_eq_false hlo,decide_eq_false hhi,g9];rw[show Zf (acc.length + [s[i]].length) .u8=true from decide_eq_true (by simp[Ty.sz];omega),d9];rcases ih (d-1) (by omega) (i+1) m (acc ++ [s[i]]) (by omega) (by omega) (by simp;omega)with⟨txt,j,h1,h2,h3,h5,h4⟩|h
   ·refine .inl ⟨txt,j,by omega,h2,?_,h5,h4⟩;rw[<-h3,List.drop_eq_getElem_cons hi];cases h:s.drop (i+1)with
    |nil=>rw[h]at h3;cases h3
    |cons e r=>rw[D0,if_neg h34,if_neg hlo,if_neg hhi,if_neg h92]
   ·refine .inr ⟨?_,h.2⟩;have h3:=h.1;rw[List.drop_eq_getElem_cons hi];cases hc:s.drop (i+1)with
    |nil=>simp[D0,h34]
    |cons e r=>rw[D0,if_neg h34,if_neg hlo,if_neg hhi,if_neg h92,<-hc];exact h3
  ·obtain rfl:i=s.length:=by omega
   simp only[P6,g9];exact .inr ⟨by rw[List.drop_length];rfl,_,_,rfl⟩
theorem f6q{N:Nat}(hN:60000<=N)(s:d3)(hs:s.length<=50000)(w:List K6){i:Nat}(hi:i<s.length):
  (∃(t:K6) (j:Nat),i<j/\j<=s.length/\t.2.2.2=(i:Int)/\a1R (s.drop i)=some (t.1,t.2.1,t.2.2.1,s.drop j)/\I2 N s (i:Int) w=some (t,0,s,(j:Int),w)/\t.2.1.length<=50000)\/
  (a1R (s.drop i)=none/\∃(t:K6) (e:Int) (q:d3×Int×List K6),e≠0/\I2 N s (i:Int) w=some (t,e,q)):=by
 have hT:a1R (s.drop i)=_:=congrArg a1R (List.drop_eq_getElem_cons hi);rw[a1R,<-List.drop_eq_getElem_cons hi]at hT;unfold I2;simp only[m7 s hi,c8,b3o,a8K];by_cases hsm:(decide (s[i]>=97)&&decide (s[i]<=122))=true
 ·have hsm':=hsm;rw[if_pos hsm]at hT;simp only[Bool.and_eq_true]at hsm;simp only[hsm.1,hsm.2,Bool.and_self,d9,d4G hN s hs w (Nat.le_of_lt hi),c8];have hle:=c6W O4 s (Nat.le_of_lt hi);have hpos:0<((s.drop i).takeWhile O4).length:=by
   rw[List.drop_eq_getElem_cons hi,List.takeWhile_cons,if_pos (by unfold O4;rw[hsm'];rfl)];simp
  by_cases hg:((((s.drop i).takeWhile O4).length:Nat):Int)>40
  ·rw[if_pos (by omega)]at hT;simp only[decide_eq_true hg,d9];exact .inr ⟨hT,_,2,_,by decide,rfl⟩
  ·simp only[decide_eq_false hg,g9];rw[if_neg (by omega)]at hT;exact .inl ⟨(1,(s.drop i).takeWhile O4,0,(i:Int)),i+((s.drop i).takeWhile O4).length,by omega,hle,rfl,by rw[hT,e3p],rfl,by simp only;omega⟩
 rw[if_neg hsm]at hT;have hsm':(decide (s[i]>=97)&&decide (s[i]<=122))=false:=by simpa using hsm
 simp only[hsm',g9];by_cases hdg:V9 s[i]=true
 ·rw[if_pos hdg]at hT;simp only[hdg,d9];unfold a0a;rw[d4H hN s hs w (Nat.le_of_lt hi)];simp only[c8];have hle:=c6W V9 s (Nat.le_of_lt hi);have hc0:(s.drop i).takeWhile V9=s[i] :: (s.drop (i+1)).takeWhile V9:=by
   rw[List.drop_eq_getElem_cons hi,List.takeWhile_cons,if_pos hdg]
  have hall:∀b∈(s.drop i).takeWhile V9,V9 b=true:=b9z V9 _;rw[e3p]at hT;generalize hc:(s.drop i).takeWhile V9=c at *;have hpos:0<c.length:=by rw[hc0];simp
  have g0:n8 c 0=some s[i]:=by rw[hc0];rfl
  simp only[g0,c8];by_cases h9:(c.length:Int)>9
  ·rw[decide_eq_true h9,decide_eq_true (show(c.length:Int)>1 by omega)];rw[if_pos (by omega)]at hT;simp only[d9];by_cases h48:s[i]=48
   ·simp only[h48,show((48:UInt8)==48)=true by decide,d9,c8];exact .inr ⟨hT,_,10,_,by decide,rfl⟩
   ·simp only[a4e h48,g9,c8];exact .inr ⟨hT,_,2,_,by decide,rfl⟩
  ·rw[decide_eq_false h9];rw[if_neg (by omega)]at hT;have hl:=fun k=>d30 (N:=N) (k:=k) c (by omega) hall c.length 0 N 0 (by omega) (by omega) (by simp)
   simp only[List.drop_zero,show((0:Nat):Int)=0 from rfl]at hl;simp only[g9,hl,c8];by_cases h1:(c.length:Int)>1
   ·simp only[decide_eq_true h1,d9];by_cases h48:s[i]=48
    ·simp only[h48,show((48:UInt8)==48)=true by decide,d9,c8];rw[if_pos ⟨h48,by omega⟩]at hT;exact .inr ⟨hT,_,10,_,by decide,rfl⟩
    ·simp only[a4e h48,g9,c8];rw[if_neg (fun h=>h48 h.1)]at hT;exact .inl ⟨(3,[],(c4T 0 c:Int),(i:Int)),i+c.length,by omega,hle,rfl,hT,rfl,by simp⟩
   ·simp only[decide_eq_false h1,g9,c8];rw[if_neg (fun h=>h1 (by omega))]at hT;refine .inl ⟨(3,[],(c4T 0 c:Int),(i:Int)),i+c.length,by omega,hle,rfl,hT,?_,by simp⟩
    first|rfl|(cases (s[i]==48)<;>simp)
 rw[if_neg hdg]at hT;have hdg':V9 s[i]=false:=by simpa using hdg
 simp only[hdg',g9];by_cases h34:s[i]=34
 ·rw[if_pos h34]at hT;simp only[h34,show((34:UInt8)==34)=true by decide,d9];unfold a0T;rw[a0C (n:=(i:Int)+1) (m:=i+1) (by omega) (by omega)];rcases f0O (N:=N) s hs w (s.length-(i+1)) (i+1) N [] (by omega) (by omega) (by simp)with⟨txt,j,h1,h2,h3,h5,h4⟩|⟨h3,txt,p,h4⟩
  ·simp only[h4,c8,Bool.not_true,g9];rw[h3]at hT;exact .inl ⟨(2,txt,0,(i:Int)),j,by omega,h2,rfl,hT,rfl,by simp only;omega⟩
  ·simp only[h4,c8,Bool.not_false,d9];rw[h3]at hT;exact .inr ⟨hT,_,10,_,by decide,rfl⟩
 rw[if_neg h34]at hT;simp only[a4e h34,g9];unfold strings_IndexByte;simp only[c8];by_cases hsg:Lib.indexByte [61,43,40,41,91,93,123,125,44,58,59] s[i]>=0
 ·rw[if_pos (by unfold c1M;exact decide_eq_true hsg)]at hT;simp only[decide_eq_true hsg,d9,b9r s (Nat.le_of_lt hi),c8,c9w,a0C (n:=(i:Int)+1) (m:=i+1) (by omega) (by omega)];have hsl:(s.take (i+1)).drop i=[s[i]]:=by
   rw[List.drop_take,show i+1-i=1 by omega,List.drop_eq_getElem_cons hi];rfl
  rw[a8R s (i:=i) (j:=i+1) (by omega) (by omega),hsl];simp only[c8];by_cases hi1:i+1<s.length
  ·have hh:(s.drop (i+1)).head? = some s[i+1]:=by rw[List.drop_eq_getElem_cons hi1];rfl
   have ht2:(s.drop i).take 2=[s[i],s[i+1]]:=by
    rw[List.drop_eq_getElem_cons hi,List.drop_eq_getElem_cons hi1];rfl
   rw[ht2];simp only[a0C (n:=(i:Int)+2) (m:=i+2) (by omega) (by omega)];have hs2:(s.take (i+2)).drop i=[s[i],s[i+1]]:=by
    rw[List.drop_take,show i+2-i=2 by omega,List.drop_eq_getElem_cons hi,List.drop_eq_getElem_cons hi1];rfl
   rw[a8R s (i:=i) (j:=i+2) (by omega) (by omega),hs2];simp only[c8];rw[hh]at hT;by_cases h61:s[i]=61
   ·by_cases g61:s[i+1]=61
    ·simp only[h61,g61,show(([61,61]:d3)==[61,61])=true by decide,d9];rw[if_pos ⟨h61,by rw[g61]⟩,List.tail_drop]at hT;exact .inl ⟨(4,[61,61],0,(i:Int)),i+2,by omega,by omega,rfl,hT,rfl,by simp⟩
    ·have:(([61,s[i+1]]:d3)==([61,61]:d3))=false:=by
      rw[beq_eq_false_iff_ne];intro e;exact g61 (by simpa using(List.cons.inj (List.cons.inj e).2).1)
     rw[if_neg (fun h=>g61 (Option.some.inj h.2)),h61]at hT;simp only[this,h61,g9];exact .inl ⟨(4,[61],0,(i:Int)),i+1,by omega,by omega,rfl,hT,rfl,by simp⟩
   ·have:([s[i],s[i+1]]==([61,61]:d3))=false:=by
     rw[beq_eq_false_iff_ne];intro e;exact h61 (List.cons.inj e).1
    rw[if_neg (fun h=>h61 h.1)]at hT;simp only[this,g9];exact .inl ⟨(4,[s[i]],0,(i:Int)),i+1,by omega,by omega,rfl,hT,rfl,by simp⟩
  ·have he:i+1=s.length:=by omega
   have hh:(s.drop (i+1)).head? = none:=by rw[he,List.drop_length];rfl
   have ht2:(s.drop i).take 2=[s[i]]:=by
    rw[List.drop_eq_getElem_cons hi,he,List.drop_length];rfl
   rw[hh,if_neg (fun h=>by cases h.2)]at hT;rw[ht2,show(([s[i]]:d3)==[61,61])=false by rw[beq_eq_false_iff_ne];intro e;simp at e];simp only[g9];exact .inl ⟨((4,[s[i]],0,(i:Int)):K6),i+1,by omega,by omega,rfl,hT,rfl,by simp⟩
 ·rw[if_neg (by unfold c1M;simpa using hsg)]at hT;simp only[decide_eq_false hsg,g9];exact .inr ⟨hT,_,10,_,by decide,rfl⟩
theorem e1i{u t r:d3}{k n:Int}(h:a1R u=some (k,t,n,r)):r.length<u.length:=by
 obtain⟨b,e,hb,_⟩:=b33 h;have:=List.length_pos_iff.2 hb;rw[e,List.length_append];omega
theorem LX.len{L:Nat}{u:d3}{l:List K6}(h:LX L u l):l.length<=u.length:=by
 induction h with
 |nil _=>simp
 |cons h1 h2 h3 _ ih=>
  have:=e1i h2;rw[List.length_cons];rename_i u v r t k n l _;have g:(S0 false u).length<=u.length:=a6T u false;rw[h1]at g;omega
theorem c6p{N:Nat}(s:d3)(hs:s.length<=50000){i j:Nat}(hi:i<=s.length)(hj:j<=s.length)(hN:60000<=N)(h:s.drop j=S0 false (s.drop i))(w:List K6):Z9 N s (i:Int) w=some (s,(j:Int),w):=by
 obtain⟨q,q1,q2,q3,q4⟩:=e3D (N:=N) s hs w (s.length-i) i N (by omega) (by omega);have e:q=j:=by
  rw[<-h]at q3;have:=congrArg List.length q3;rw[List.length_drop,List.length_drop]at this;omega
 subst e;exact q4
theorem f0Y{N:Nat}(hN:60000<=N)(s:d3)(hs:s.length<=50000){u:d3}{l:List K6}(h:LX s.length u l):∀i,u=s.drop i->i<=s.length->(∀t∈l,e9Y t)/\∀(m:Nat) (out:List K6),out.length+l.length<=50000->s.length-i<m->
  b4J N s m s (i:Int) out=some (out++l,0,0):=by
 induction h with
 |@nil u h1=>
  refine fun i hu hi=>⟨fun t ht=>by simp at ht,fun m out ho hm=>?_⟩
  obtain⟨m,rfl⟩:∃q,m=q+1:=⟨m-1,by omega⟩;show a7J N s _ _ _ out=_;unfold a7J;rw[c6p s hs hi (Nat.le_refl _) hN (by rw[List.drop_length,<-hu,h1]) out,c8];simp only[beq_self_eq_true,d9,List.append_nil]
 |@cons u v r t k n l h1 h2 h3 h4 ih=>
  have key:∀i,u=s.drop i->i<=s.length->∃j,j<s.length/\s.drop j=v/\s.length-v.length=j/\i<=j:=fun i hu hi=>by
   obtain⟨q,q1,q2,q3,q4⟩:=e3D (N:=N) s hs [] (s.length-i) i N (by omega) (by omega);rw[<-hu,h1]at q3;have hq:q<s.length:=by
    rcases Nat.lt_or_ge q s.length with h|h
    ·exact h
    ·rw[List.drop_eq_nil_of_le h]at q3;rw[<-q3]at h2;cases h2
   refine⟨q,hq,q3,?_,q1⟩;rw[<-q3,List.length_drop];omega
  have tokj:∀j,j<s.length->s.drop j=v->s.length-v.length=j->t.length<=50000/\∃q:Nat,j<q/\q<=s.length/\r=s.drop q/\∀w,I2 N s (j:Int) w=some ((k,t,n,((s.length-v.length:Nat):Int)),0,s,(q:Int),w):=fun j hj hv hp=>by
   have go:∀w,∃q:Nat,j<q/\q<=s.length/\r=s.drop q/\I2 N s (j:Int) w=some ((k,t,n,((s.length-v.length:Nat):Int)),0,s,(q:Int),w)/\t.length<=50000:=fun w=>by
    rcases f6q hN s hs w hj with⟨t',q,g1,g2,g3,g4,g5,g6⟩|⟨g0,_⟩
    ·rw[hv,h2]at g4;simp only[Option.some.injEq,Prod.mk.injEq]at g4;obtain⟨e1,e2,e3,e4⟩:=g4;obtain⟨a,b,c,d⟩:=t';simp only at e1 e2 e3 g3 g6;subst e1 e2 e3 g3;exact⟨q,g1,g2,e4,by rw[g5,hp],g6⟩
    ·rw[hv,h2]at g0;cases g0
   obtain⟨q,q1,q2,q3,_,q5⟩:=go [];refine⟨q5,q,q1,q2,q3,fun w=>?_⟩;obtain⟨q',p1,p2,p3,p4,_⟩:=go w;have:q'=q:=by
    have:=congrArg List.length (p3.symm.trans q3);rw[List.length_drop,List.length_drop]at this;omega
   rw[p4,this]
  intro i hu hi;obtain⟨j,j1,j2,j3,j4⟩:=key i hu hi;obtain⟨ht,q,q1,q2,q3,q4⟩:=tokj j j1 j2 j3;obtain⟨ih1,ih2⟩:=ih q q3 q2;refine⟨fun z hz=>?_,fun m out ho hm=>?_⟩
  ·rcases List.mem_cons.1 hz with rfl|hz
   ·exact⟨by simp only;omega,ht⟩
   ·exact ih1 z hz
  ·obtain⟨m,rfl⟩:∃q,m=q+1:=⟨m-1,by omega⟩;rw[List.length_cons]at ho;show a7J N s (b4J N s m) _ _ out=_;unfold a7J;rw[c6p s hs hi (Nat.le_of_lt j1) hN (by rw[j2,<-hu,h1]) out,c8];have hmem:∀z:K6,Zf (out.length + [z].length) (.pr (.int .i64) (.pr .str (.pr (.int .i64) (.int .i64))))=true:=fun z=>decide_eq_true (by simp[Ty.sz];omega)
   simp only[show((j:Int)==(s.length:Int))=false by rw[beq_eq_false_iff_ne];omega,g9,show((out.length:Int)==50000)=false by rw[beq_eq_false_iff_ne];omega,q4,c8,bne_self_eq_false,N7,hmem,d9];rw[ih2 m _ (by simp;omega) (by omega)];simp
end
section
variable{N:Nat}
theorem c5a(s:GStmt):D8 N (erS s)=D8 N s:=by
 unfold D8;simp only[c0U]
theorem d4F(s:GStmt):H8 N (erS s)=H8 N s:=by
 unfold H8;simp only[a9n]
theorem d4C(s:GStmt)(x:Int):C3 N (erS s) x=C3 N s x:=by
 unfold C3 E8;simp only[GStmt.eta2];simp only[c5a,d4F,c0U,d3x,d3y,c4C,a9n,b3b,b3a,b8O,b8N]
theorem b1L{r:List GStmt->Option Int}(hr:∀l,r (erL l)=r l)(l:List GStmt)(c:Int)(k:Int->Option Int):∀(n:Nat) (s i:Int),a3M N r (erL l) c k n s i=a3M N r l c k n s i
 |0,_,_=>rfl
 |n+1,s,i=>by
  have ih:=b1L hr l c k n;show Q3 _ _ _ _ _ _ _ _=Q3 _ _ _ _ _ _ _ _;unfold Q3;simp only[c6x,c6r,GStmt.eta2];simp only[c5a,hr,ih,a9n,b3b,b3a,b8O]
theorem c1K:∀(d:Nat) (l:List GStmt),A4 N d (erL l)=A4 N d l
 |0,_=>rfl
 |d+1,l=>by
  show J6 _ _ _=J6 _ _ _;unfold J6;rw[b1L (c1K d),b8N]
theorem b3T{r:List GStmt->Int->Option Int}(hr:∀l x,r (erL l) x=r l x)(x:Int)(l:List GStmt)(c:Int)(k:Option Int):∀(n:Nat) (i:Int),b1T N r x (erL l) c k n i=b1T N r x l c k n i
 |0,_=>rfl
 |n+1,i=>by
  have ih:=b3T hr x l c k n;show Y6 _ _ _ _ _ _ _ _=Y6 _ _ _ _ _ _ _ _;unfold Y6;simp only[c6x,c6r,GStmt.eta2];simp only[d4C,c5a,hr,ih,a9n,b3b,b3a,b8O]
theorem c6O:∀(d:Nat) (l:List GStmt) (x:Int),s6 N d (erL l) x=s6 N d l x
 |0,_,_=>rfl
 |d+1,l,x=>by
  show x7 _ _ _ _=x7 _ _ _ _;unfold x7;rw[b3T (c6O d),b8N]
theorem c1J(l:List GStmt):t8 N (erL l)=t8 N l:=by
 unfold t8;simp only[c1K,c6O]
end
section
variable{N:Nat}
def hdB(k:Int)(s:d3):List K6->Bool|t :: _=>t.1==k&&t.2.1==s | []=>false
theorem c07(k:Int)(s:d3)(t:K6)(r:List K6):hdB k s (t :: r)=(t.1==k&&t.2.1==s):=rfl
theorem a9J(t:K6)(r:List K6):slc (t :: r) 1 ((t :: r).length:Int)=some r:=by
 have:=b9r (t :: r) (i:=1) (by simp);exact this
theorem d36(t:K6)(r:List K6):decide (((t :: r).length:Int)>0)=true:=decide_eq_true (by simp)
theorem a15(t:K6)(r:List K6):(((t :: r).length:Int)==0)=false:=by rw[beq_eq_false_iff_ne];simp;try omega
theorem a2s(t:K6)(r:List K6):n8 (t :: r) 0=some t:=by rw[a4D];rfl
theorem e3s(k:Int)(s:d3)(l:List K6)(e d:Int):a0K N k s l e d=some (hdB k s l,l,e,d):=by
 unfold a0K;cases l with
 |nil=>
  rw[show decide (((([]:List K6).length:Nat):Int)>0)=false by decide,g9];rfl
 |cons t r=>
  rw[d36,d9,a2s,c8,c07];cases t.1==k<;>simp
theorem a67{t:K6}{r:List K6}{k:Int}{s:d3}{e d:Int}(h:hdB k s (t :: r)=true):n3 N k s (t :: r) e d=some (true,r,e,d):=by
 unfold n3;rw[e3s,h];simp only[c8,Bool.not_true,g9,a9J]
theorem a1i{l:List K6}{k:Int}{s:d3}{e d:Int}(h:hdB k s l=false):n3 N k s l e d=some (false,l,e,d):=by
 unfold n3;rw[e3s,h];simp only[c8,Bool.not_false,d9]
theorem a5o{t:K6}{r:List K6}{s:d3}{e d:Int}(h:hdB 4 s (t :: r)=true):l8 N s (t :: r) e d=some (r,e,d):=by
 unfold l8;rw[a67 h];simp only[c8,Bool.not_true,g9]
theorem d21(t:K6)(r:List K6)(e d:Int):W6 N (t :: r) e d=some (t.2.2.2,t :: r,e,d):=by
 unfold W6;rw[a15,g9,a2s,c8]
theorem c4N(hN:z7<=N){t:K6}{r:List K6}{e d:Int}(h1:t.1=1)(h2:B7 t.2.1=true):E0 N (t :: r) e d=some (t.2.1,r,e,d):=by
 unfold E0;rw[a15,g9,a2s,c8,h1];simp only[c8,G4 hN _ (show t.2.1.length<=maxLen by have:=W0 h2;unfold maxLen;omega),h2,a9J,Bool.not_true,g9,show((1:Int) !=1)=false by decide]
theorem c5g{t:K6}{r:List K6}{e d:Int}(h1:t.1=2):B1 N (t :: r) e d=some (t.2.1,r,e,d):=by
 unfold B1;rw[a15,g9,a2s,c8,h1];simp only[c8,a9J,g9,show((2:Int) !=2)=false by decide]
theorem b8W{a x:Int}(hx:x<30)(l:List K6)(e d:Int):R9 N a x l e d=some (l,e,d):=by
 unfold R9;rw[decide_eq_false (by omega),g9]
def NoOp(r:List K6):Prop:=hdB 4 [43] r=false/\hdB 4 [61,61] r=false
theorem L1{t:K6}{r:List K6}{k k':Int}{s s':d3}{n:Int}(h:a6p t=(k,s,n)):hdB k' s' (t :: r)=(k==k'&&s==s'):=by
 unfold a6p at h;injection h with h1 h2
 injection h2 with h2 h3
 rw[c07,h1,h2]
theorem NoOp.sign{t:K6}{r:List K6}{c:UInt8}{n:Int}(h:a6p t=(4,[c],n))(h1:([c]==([43]:d3))=false)(h2:([c]==([61,61]:d3))=false):NoOp (t :: r):=by
 refine⟨?_,?_⟩
 ·rw[L1 h,h1];rfl
 ·rw[L1 h,h2];rfl
def MkE(N m:Nat)(g:GPart)(E:GExpr):Prop:=∀n,m<n->∀x:Int,0<=x->x+m<=29->∀(l:List K6) (e d:Int),D9 N n g x l e d=some (E,l,e,d)
theorem MkE.up{m k:Nat}{g:GPart}{E:GExpr}(h:MkE N m g E)(hm:m<=k):MkE N k g E:=fun n hn x h0 hx l e d=>h n (by omega) x h0 (by omega) l e d
abbrev GE:Type:=GPart×GExpr
theorem c1n{m n:Nat}(hk:m<n){c:Int}(h0:0<=c)(hc:c+m<=29)(zs:List GE)(hz:zs.length<=50000)(hg:∀z∈zs,MkE N m z.1 z.2)
  (K:List K6->Int->Int->List GExpr->Option (GExpr×List K6×Int×Int)) (l:List K6) (e d:Int):∀(u f j:Nat),j+u=zs.length->u<f->
  b8f N (D9 N n) c (zs.map (·.1)) (zs.length:Int) K f (j:Int) l e d ((zs.take j).map (·.2))=K l e d (zs.map (·.2))
 |0,f,j,hj,hf=>by
  obtain⟨f,rfl⟩:∃q,f=q+1:=⟨f-1,by omega⟩;obtain rfl:j=zs.length:=by omega
  show a7e _ _ _ _ _ _ _ _ _ _ _ _=_;unfold a7e;rw[Q5,g9,List.take_length]
 |u+1,f,j,hj,hf=>by
  obtain⟨f,rfl⟩:∃q,f=q+1:=⟨f-1,by omega⟩;have h:j<zs.length:=by omega
  have ih:=c1n hk h0 hc zs hz hg K l e d u f (j+1) (by omega) (by omega);show a7e _ _ _ _ _ _ _ _ _ _ _ _=_;unfold a7e;have hm:=hg _ (List.getElem_mem h) n hk c h0 hc l e d;rw[L4 h,d9,m7 _ (by simpa using h),c8];simp only[List.getElem_map,GPart.eta,hm,c8];rw[f5K (show((zs.take j).map (·.2)).length<=50000 by simp;omega),d9,a0C (m:=j+1) (by omega) (by omega)];rw[show(zs.take j).map (·.2) ++ [zs[j].2]=(zs.take (j+1)).map (·.2) by rw[List.take_succ_eq_append_getElem h,List.map_append];rfl];exact ih
theorem c6C(hN:z7<=N){kind a:Int}{keys:List d3}(h0:kind≠0)(h7:kind≠7){t:d3}{num:Int}{m:Nat}(zs:List GE)(hz:zs.length<=50000)(hg:∀z∈zs,MkE N m z.1 z.2):
  MkE N (m+1) (.mk kind t num keys a (zs.map (·.1))) (.mk kind t num keys (zs.map (·.2))):=fun n hn x hx0 hx l e d=>by
 obtain⟨n,rfl⟩:∃q,n=q+1:=⟨n-1,by omega⟩;show I4 N (D9 N n) _ _ _ _ _=_;unfold I4;simp only[d35,b9c,b9d,b0s,b9a,b9b];rw[b8W (by omega),c8,show(kind==0)=false by simpa using h0,show(kind !=7)=true by simpa using h7,g9,d9,M8 (n:=x+1) (by omega) (by omega)];have:=c1n (N:=N) (m:=m) (n:=n) (c:=x+1) (by omega) (by omega) (by omega) zs hz hg (fun o0_0_0 o0_0_1 o0_0_2 o0_w900001=>some (GExpr.mk kind t num keys o0_w900001,o0_0_0,o0_0_1,o0_0_2)) l e d zs.length N 0 (by omega) (by unfold z7 at hN;omega);simp only[List.take_zero,List.map_nil,Int.natCast_zero]at this;rw[List.length_map];exact this
theorem b83(hN:z7<=N){kind a:Int}(h0:kind≠0)(h7:kind≠7){t:d3}{num:Int}:MkE N 0 (.mk kind t num [] a []) (.mk kind t num [] []):=fun n hn x hx0 hx l e d=>by
 obtain⟨n,rfl⟩:∃q,n=q+1:=⟨n-1,by omega⟩;obtain⟨f,hf,_⟩:=c0z hN;show I4 N (D9 N n) _ _ _ _ _=_;unfold I4;simp only[d35,b9c,b9d,b0s,b9a,b9b];rw[b8W (by omega),c8,show(kind==0)=false by simpa using h0,show(kind !=7)=true by simpa using h7,g9,d9];have:∀(M:Nat) (c:Int) (K:List K6->Int->Int->List GExpr->Option (GExpr×List K6×Int×Int)),b8f M (D9 N n) c [] ((([]:List GPart).length:Nat):Int) K (f+1) 0 l e d []=K l e d []:=fun M c K=>by
  show a7e _ _ _ _ _ _ _ _ _ _ _ _=_;unfold a7e;rw[show decide ((0:Int)<((([]:List GPart).length:Nat):Int))=false by simp,g9]
 conv=>lhs;arg 7;rw[hf]
 exact this N _ _
abbrev SO:Type:=List K6->Int->Int->Option (GPart×List K6×Int×Int)
def PSe(N:Nat)(S:SO)(m:Nat)(E:GExpr)(ks:List Key):Prop:=∀(ts r:List K6) (e d:Int),ts.map a6p=ks->NoOp r->∃g,S (ts++r) e d=some (g,r,e,d)/\MkE N m g E
def POe(N:Nat)(S:SO)(m:Nat)(E:GExpr)(ks:List Key):Prop:=∀(ts r:List K6) (e d:Int),ts.map a6p=ks->∃g,x8 N S (ts++r) e d=some (g,r,e,d)/\MkE N m g E
theorem PSe.up{S:SO}{m k:Nat}{E:GExpr}{ks:List Key}(h:PSe N S m E ks)(hm:m<=k):PSe N S k E ks:=fun ts r e d h1 h2=>by
 obtain⟨g,a,b⟩:=h ts r e d h1 h2;exact⟨g,a,b.up hm⟩
theorem c9M{f:Nat}(hf:N=f+1){S:SO}{c:Int}{k0:List K6->Int->Int->Int->d3->Int->List d3->Unit->List GPart->Option (GPart×List K6×Int×Int)}{l:List K6}{e d k n:Int}{t:d3}{ks:List d3}{gs:List GPart}:
  b4c N S c k0 N l e d k t n ks () gs=b2l N S c k0 (b4c N S c k0 f) l e d k t n ks () gs:=by subst hf;rfl
theorem b6H(hN:z7<=N){S:SO}{m:Nat}{E:GExpr}{ks:List Key}(h:POe N S m E ks):PSe N (D4 N S) m E ks:=fun ts r e d ht hr=>by
 obtain⟨g,h1,h2⟩:=h ts r e d ht;refine⟨g,?_,h2⟩;obtain⟨f,hf,_⟩:=c0z hN;unfold D4 a0i;rw[h1,c8,c9M hf];unfold b2l;rw[a1i hr.1,c8,g9,c8,a1i hr.2,c8];simp only[Bool.not_false,d9,b9c,b9d,b0s,b9a,d35,b9b,GPart.eta]
theorem b9f(hN:z7<=N)(S:SO)(s:d3):POe N S 0 (R1 s) [(2,s,0)]:=fun ts r e d ht=>by
 obtain⟨t,rfl,hk⟩:=List.map_eq_singleton_iff.1 ht;have k1:t.1=2:=congrArg (·.1) hk;have k2:t.2.1=s:=congrArg (·.2.1) hk;refine⟨.mk 1 s 0 [] t.2.2.2 [],?_,b83 hN (by decide) (by decide)⟩;show x8 N S (t :: r) e d=_;unfold x8;rw[d21,c8];simp only[a15,g9,a2s,c8,k1,beq_self_eq_true,d9,c5g k1,k2]
theorem e53(hN:z7<=N)(S:SO)(n:Int):POe N S 0 (.mk 2 [] n [] []) [(3,[],n)]:=fun ts r e d ht=>by
 obtain⟨t,rfl,hk⟩:=List.map_eq_singleton_iff.1 ht;have k1:t.1=3:=congrArg (·.1) hk;have k2:t.2.2.1=n:=congrArg (·.2.2) hk;refine⟨.mk 2 [] n [] t.2.2.2 [],?_,b83 hN (by decide) (by decide)⟩;show x8 N S (t :: r) e d=_;unfold x8;rw[d21,c8];simp only[a15,g9,a2s,c8,k1,show((3:Int)==2)=false by decide,show((3:Int)==3)=true by decide,d9,a9J,k2]
theorem f02{r:SO}{k n a:Int}{t:d3}{l l':List K6}{e d e' d':Int}{g:GPart}(h:r l e d=some (g,l',e',d')):
  H0 N r k t n a l e d=some (k,t,n,a,l',e',d',[g]):=by
 unfold H0 s7;simp only[h,c8,N7,K7,show Zf [zP].length (.rc .part)=true by decide,show decide ((0:Int)<=0/\(0:Int)<([zP].length:Int))=true by decide,d9,show n8 [zP] 0=some zP from rfl,c8,show a3F [zP] 0 g=[g]from rfl]
theorem f04{r:SO}{k n a:Int}{t:d3}{ks:List d3}{l l':List K6}{e d e' d':Int}{g:GPart}(h:r l e d=some (g,l',e',d')):
  H3 N r k t n a ks l e d=some (k,t,n,a,ks,l',e',d',[g]):=by
 unfold H3 r7;simp only[h,c8,N7,K7,show Zf [zP].length (.rc .part)=true by decide,show decide ((0:Int)<=0/\(0:Int)<([zP].length:Int))=true by decide,d9,show n8 [zP] 0=some zP from rfl,c8,show a3F [zP] 0 g=[g]from rfl]
theorem f03{r:SO}{k n a:Int}{t:d3}{ps:List GPart}{l l':List K6}{e d e' d':Int}{g:GPart}(hp:ps.length<=50000)(h:r l e d=some (g,l',e',d')):
  L5 N r k t n a ps l e d=some (k,t,n,a,ps ++ [g],l',e',d'):=by
 unfold L5 q9;simp only[h,c8,N7,K7,f0g hp,c4I,d9,b3j,c8,b3R]
theorem f05{r:SO}{k n a:Int}{t:d3}{ks:List d3}{ps:List GPart}{l l':List K6}{e d e' d':Int}{g:GPart}(hp:ps.length<=50000)(h:r l e d=some (g,l',e',d')):
  H4 N r k t n a ks ps l e d=some (k,t,n,a,ks,ps ++ [g],l',e',d'):=by
 unfold H4 r8;simp only[h,c8,N7,K7,f0g hp,c4I,d9,b3j,c8,b3R]
theorem a5a(x:List Key):∀xs:List (List Key),a1o (x :: xs)=x++(xs.map fun y=>S5 44 :: y).flatten
 |[]=>by simp[a1o]
 |y :: ys=>by
  rw[a1o,a5a y ys];simp
theorem a3n{ts r:List K6}{xs:List (List Key)}(h:ts.map a6p=(xs.map fun y=>S5 44 :: y).flatten)(hr:NoOp r):NoOp (ts++r):=by
 cases xs with
 |nil=>
  have:ts=[]:=List.map_eq_nil_iff.1 h;rw[this];exact hr
 |cons y ys=>
  rw[List.map_cons,List.flatten_cons,List.cons_append]at h;obtain⟨t,ts',rfl,h1,h2⟩:=List.map_eq_cons_iff.1 h;exact NoOp.sign h1 (by decide) (by decide)
abbrev EK:Type:=GExpr×List Key
theorem b6K{S:SO}{m:Nat}{k n a:Int}{t:d3}{K:List K6->Int->Int->Int->d3->Int->Int->List GPart->Option (List K6×Int×Int×Int×d3×Int×Int×List GPart)}:
  ∀(Es:List EK),(∀z∈Es,PSe N S m z.1 z.2)->∀(ts r:List K6) (e d:Int) (gs:List GPart) (f:Nat),ts.map a6p=((Es.map (·.2)).map fun y=>S5 44 :: y).flatten->hdB 4 [44] r=false->NoOp r->gs.length+Es.length<=50000->Es.length<f->
  ∃zs:List GE,zs.map (·.2)=Es.map (·.1)/\(∀z∈zs,MkE N m z.1 z.2)/\c3Q N S K f (ts++r) e d k t n a gs=K r e d k t n a (gs++zs.map (·.1))
 |[],_,ts,r,e,d,gs,f,ht,hc,hr,_,hf=>by
  have:ts=[]:=List.map_eq_nil_iff.1 ht;subst this;obtain⟨f,rfl⟩:∃q,f=q+1:=⟨f-1,by simp at hf;omega⟩;refine⟨[],rfl,(fun z hz=>by cases hz),?_⟩;show b1q _ _ _ _ r _ _ _ _ _ _ _=_;unfold b1q;rw[a1i hc,c8];simp
 |z :: Es,hS,ts,r,e,d,gs,f,ht,hc,hr,hl,hf=>by
  obtain⟨f,rfl⟩:∃q,f=q+1:=⟨f-1,by simp at hf;omega⟩;rw[List.map_cons,List.map_cons,List.flatten_cons,List.cons_append]at ht;obtain⟨c,ts',rfl,h1,h2⟩:=List.map_eq_cons_iff.1 ht;obtain⟨t1,t2,rfl,h3,h4⟩:=List.map_eq_append_iff.1 h2;obtain⟨g,s1,s2⟩:=hS z (by simp) t1 (t2++r) e d h3 (a3n h4 hr);simp only[List.length_cons]at hl hf;obtain⟨zs,i1,i2,i3⟩:=b6K Es (fun z hz=>hS z (List.mem_cons_of_mem _ hz)) t2 r e d (gs ++ [g]) f h4 hc hr (by simp;omega) (by omega);refine⟨(g,z.1) :: zs,by rw[List.map_cons,i1,List.map_cons],fun y hy=>?_,?_⟩
  ·rcases List.mem_cons.1 hy with rfl|hy
   ·exact s2
   ·exact i2 y hy
  ·show b1q _ _ _ _ (c :: ((t1++t2)++r)) _ _ _ _ _ _ _=_;unfold b1q;rw[a67 (by rw[L1 h1];rfl),c8];simp only[d9,List.append_assoc];rw[f03 (by omega) s1,c8,i3];simp
theorem e0Y(hN:z7<=N)(S:SO)(hS:∀s,PSe N S 0 (R1 s) [(2,s,0)])(l:List d3)(hl:l.length<=1000):POe N S 1 (.mk 4 [] 0 [] (l.map R1)) (tkE (.mk 4 [] 0 [] (l.map R1))):=fun ts r e d ht=>by
 rw[e3F,List.map_map,List.append_assoc]at ht;have etx:∀l:List d3,l.map (tkE∘R1)=l.map fun s=>[(2,s,0)]:=fun l=>List.map_congr_left fun s _=>by show tkE (R1 s)=_;unfold R1;rw[c6U]
 rw[etx]at ht;have ht:ts.map a6p=S5 91 :: (a1o (l.map fun s=>[((2:Int),s,(0:Int))]) ++ [S5 93]):=ht;obtain⟨b,ts',rfl,h1,h2⟩:=List.map_eq_cons_iff.1 ht;obtain⟨t1,t2,rfl,h3,h4⟩:=List.map_eq_append_iff.1 h2;obtain⟨c,rfl,h5⟩:=List.map_eq_singleton_iff.1 h4;have b1:b.1=4:=congrArg (·.1) h1;have hend:NoOp (c :: r):=NoOp.sign h5 (by decide) (by decide);have main:∀(g:List GPart),L0 N S [93] true (t1++c :: r) e d 4 [] 0 b.2.2.2=some (r,e,d,4,[],0,b.2.2.2,g)->x8 N S (b :: (t1 ++ [c])++r) e d=some (.mk 4 [] 0 [] b.2.2.2 g,r,e,d):=fun g hg=>by
  show x8 N S (b :: ((t1 ++ [c])++r)) e d=_;rw[List.append_assoc];show x8 N S (b :: (t1++c :: r)) e d=_;unfold x8;rw[d21,c8];simp only[a15,g9,a2s,c8,b1,show((4:Int)==2)=false by decide,show((4:Int)==3)=false by decide];rw[a1i (by rw[L1 h1];rfl),c8];simp only[g9];rw[a67 (by rw[L1 h1];rfl),c8];simp only[d9];rw[hg,c8]
 cases l with
 |nil=>
  have:t1=[]:=List.map_eq_nil_iff.1 h3;subst this;refine⟨.mk 4 [] 0 [] b.2.2.2 [],main [] ?_,(b83 hN (by decide) (by decide)).up (by omega)⟩;show L0 N S [93] true (c :: r) e d 4 [] 0 b.2.2.2=_;unfold L0;rw[d9,a67 (by rw[L1 h5];rfl),c8];simp only[d9]
 |cons s l=>
  rw[List.map_cons,a5a]at h3;obtain⟨u1,u2,rfl,g1,g2⟩:=List.map_eq_append_iff.1 h3;obtain⟨q,rfl,q1⟩:=List.map_eq_singleton_iff.1 g1;have g2':u2.map a6p=((((l.map fun s=>(R1 s,[((2:Int),s,(0:Int))])):List EK).map (·.2)).map fun y=>S5 44 :: y).flatten:=by rw[g2,List.map_map,List.map_map,List.map_map];rfl
  obtain⟨g,s1,s2⟩:=hS s [q] (u2++c :: r) e d g1 (a3n g2 hend);have hlp:=fun K=>b6K (S:=S) (m:=0) (k:=4) (n:=0) (a:=b.2.2.2) (t:=[]) (K:=K) (l.map fun s=>(R1 s,[((2:Int),s,(0:Int))])) (fun z hz=>by
   obtain⟨s,_,rfl⟩:=List.mem_map.1 hz;exact hS s) u2 (c :: r) e d [g] N g2' (by rw[L1 h5];rfl) hend (by simp at hl ⊢;omega) (by simp at hl ⊢;unfold z7 at hN;omega)
  obtain⟨zs,i1,i2,i3⟩:=hlp (fun o0_0_0 o0_0_1 o0_0_2 o0_1_0 o0_1_1 o0_1_2 o0_1_5 o0_w101500=>
     k8 (l8 N [93] o0_0_0 o0_0_1 o0_0_2) fun t22=>
     some (t22.1,t22.2.1,t22.2.2,o0_1_0,o0_1_1,o0_1_2,o0_1_5,o0_w101500))
  have hmk:=c6C hN (kind:=4) (a:=b.2.2.2) (keys:=[]) (t:=[]) (num:=0) (m:=0) (by decide) (by decide) ((g,R1 s) :: zs) (by have:=congrArg List.length i1;simp at this hl ⊢;omega) (fun z hz=>by
   rcases List.mem_cons.1 hz with rfl|hz
   ·exact s2
   ·exact i2 z hz)
  have e2:((g,R1 s) :: zs).map (·.2)=(s :: l).map R1:=by rw[List.map_cons,i1,List.map_map,List.map_cons];rfl
  rw[e2]at hmk;refine⟨_,main (((g,R1 s) :: zs).map (·.1)) ?_,hmk⟩;rw[List.append_assoc];unfold L0;rw[d9,a1i (l:=[q]++(u2++c :: r)) (by show hdB 4 [93] (q :: _)=_;rw[L1 q1];rfl),c8];simp only[g9];rw[f02 s1,c8];refine i3.trans ?_;rw[a5o (by rw[L1 h5];rfl),c8];rfl
end
section
variable{N:Nat}
theorem f5J{s:d3}:Zf [s].length .str=true:=decide_eq_true (by show 1*(24*1)<=_;omega)
theorem e6z{S:SO}{k n a:Int}{t:d3}{t0 t1:K6}{l l':List K6}{e d e' d':Int}{g:GPart}(h0:t0.1=2)(h1:hdB 4 [58] (t1 :: l)=true)(h:S l e d=some (g,l',e',d')):
  P8 N S k t n a (t0 :: t1 :: l) e d=some (k,t,n,a,l',e',d',[t0.2.1],[g]):=by
 unfold P8;simp only[c5g h0,c8,f5J,d9,a5o h1,f04 h,N7,K7]
theorem e6y{S:SO}{k n a:Int}{t:d3}{ks:List d3}{gs:List GPart}{t0 t1:K6}{l l':List K6}{e d e' d':Int}{g:GPart}(h0:t0.1=2)(h1:hdB 4 [58] (t1 :: l)=true)(hk:ks.length<=50000)(hg:gs.length<=50000)(h:S l e d=some (g,l',e',d')):
  S2 N S k t n a ks gs (t0 :: t1 :: l) e d=some (k,t,n,a,ks ++ [t0.2.1],gs ++ [g],l',e',d'):=by
 unfold S2;simp only[c5g h0,c8,b5U hk,d9,a5o h1,f05 hg h,N7,K7]
abbrev EK3:Type:=d3×GExpr×List Key
def ck(z:EK3):List Key:=(2,z.1,0) :: S5 58 :: z.2.2
theorem b6L{S:SO}{m:Nat}{k n a:Int}{t:d3}{K:List K6->Int->Int->Int->d3->Int->Int->List d3->List GPart->Option (List K6×Int×Int×Int×d3×Int×List d3×Int×List GPart)}:
  ∀(Es:List EK3),(∀z∈Es,PSe N S m z.2.1 z.2.2)->∀(ts r:List K6) (e d:Int) (ks:List d3) (gs:List GPart) (f:Nat),ts.map a6p=((Es.map ck).map fun y=>S5 44 :: y).flatten->hdB 4 [44] r=false->NoOp r->ks.length+Es.length<=50000->gs.length+Es.length<=50000->Es.length<f->
  ∃zs:List GE,zs.map (·.2)=Es.map (·.2.1)/\(∀z∈zs,MkE N m z.1 z.2)/\c3S N S K f (ts++r) e d k t n a ks gs=K r e d k t n a (ks++Es.map (·.1)) (gs++zs.map (·.1))
 |[],_,ts,r,e,d,ks,gs,f,ht,hc,hr,_,_,hf=>by
  have:ts=[]:=List.map_eq_nil_iff.1 ht;subst this;obtain⟨f,rfl⟩:∃q,f=q+1:=⟨f-1,by simp at hf;omega⟩;refine⟨[],rfl,(fun z hz=>by cases hz),?_⟩;show b1r _ _ _ _ r _ _ _ _ _ _ _ _=_;unfold b1r;rw[a1i hc,c8];simp
 |z :: Es,hS,ts,r,e,d,ks,gs,f,ht,hc,hr,hl,hl2,hf=>by
  obtain⟨f,rfl⟩:∃q,f=q+1:=⟨f-1,by simp at hf;omega⟩;rw[List.map_cons,List.map_cons,List.flatten_cons,List.cons_append]at ht;obtain⟨c,ts',rfl,h1,h2⟩:=List.map_eq_cons_iff.1 ht;obtain⟨u1,t2,rfl,h3,h4⟩:=List.map_eq_append_iff.1 h2;obtain⟨c0,u2,rfl,h5,h6⟩:=List.map_eq_cons_iff.1 h3;obtain⟨c1,t1,rfl,h7,h8⟩:=List.map_eq_cons_iff.1 h6;have k1:c0.1=2:=congrArg (·.1) h5;have k2:c0.2.1=z.1:=congrArg (·.2.1) h5;obtain⟨g,s1,s2⟩:=hS z (by simp) t1 (t2++r) e d h8 (a3n h4 hr);simp only[List.length_cons]at hl hl2 hf;obtain⟨zs,i1,i2,i3⟩:=b6L Es (fun z hz=>hS z (List.mem_cons_of_mem _ hz)) t2 r e d (ks ++ [z.1]) (gs ++ [g]) f h4 hc hr (by simp;omega) (by simp;omega) (by omega);refine⟨(g,z.2.1) :: zs,by rw[List.map_cons,i1,List.map_cons],fun y hy=>?_,?_⟩
  ·rcases List.mem_cons.1 hy with rfl|hy
   ·exact s2
   ·exact i2 y hy
  ·show b1r _ _ _ _ (c :: ((c0 :: c1 :: t1++t2)++r)) _ _ _ _ _ _ _ _=_;unfold b1r;rw[a67 (by rw[L1 h1];rfl),c8];simp only[d9,List.append_assoc,List.cons_append];rw[e6y k1 (by rw[L1 h7];rfl) (by omega) (by omega) s1,c8,k2,i3];simp
theorem c9u(hN:z7<=N){S:SO}{m:Nat}(Es:List EK3)(h0:0<Es.length)(hl:Es.length<=1000)(hS:∀z∈Es,PSe N S m z.2.1 z.2.2):POe N S (m+1) (.mk 6 [] 0 (Es.map (·.1)) (Es.map (·.2.1))) ([nmT [99,104,111,111,115,101],S5 123]++a1o (Es.map ck) ++ [S5 125]):=fun ts r e d ht=>by
 rw[List.append_assoc]at ht;have ht:ts.map a6p=nmT [99,104,111,111,115,101] :: S5 123 :: (a1o (Es.map ck) ++ [S5 125]):=ht;obtain⟨b,ts1,rfl,h1,h2⟩:=List.map_eq_cons_iff.1 ht;obtain⟨b2,ts',rfl,h1',h2'⟩:=List.map_eq_cons_iff.1 h2;obtain⟨t1,t2,rfl,h3,h4⟩:=List.map_eq_append_iff.1 h2';obtain⟨c,rfl,h5⟩:=List.map_eq_singleton_iff.1 h4;have b1:b.1=1:=congrArg (·.1) h1;have hend:NoOp (c :: r):=NoOp.sign h5 (by decide) (by decide);cases Es with
 |nil=>simp at h0
 |cons z Es=>
  rw[List.map_cons,a5a]at h3;obtain⟨u1,u2,rfl,g1,g2⟩:=List.map_eq_append_iff.1 h3;obtain⟨c0,v2,rfl,g5,g6⟩:=List.map_eq_cons_iff.1 g1;obtain⟨c1,u3,rfl,g7,g8⟩:=List.map_eq_cons_iff.1 g6;have k1:c0.1=2:=congrArg (·.1) g5;have k2:c0.2.1=z.1:=congrArg (·.2.1) g5;obtain⟨g,s1,s2⟩:=hS z (by simp) u3 (u2++c :: r) e d g8 (a3n g2 hend);simp only[List.length_cons]at hl;obtain⟨zs,i1,i2,i3⟩:=b6L (S:=S) (m:=m) (k:=6) (n:=0) (a:=b.2.2.2) (t:=[]) (K:=fun o0_0_0 o0_0_1 o0_0_2 o0_1_0 o0_1_1 o0_1_2 o0_1_5 o0_w101500 o0_w101501=>
    k8 (l8 N [125] o0_0_0 o0_0_1 o0_0_2) fun t22_2=>
    some (t22_2.1,t22_2.2.1,t22_2.2.2,o0_1_0,o0_1_1,o0_1_2,o0_w101500,o0_1_5,o0_w101501)) Es (fun z hz=>hS z (List.mem_cons_of_mem _ hz)) u2 (c :: r) e d [z.1] [g] N g2 (by rw[L1 h5];rfl) hend (by simp;omega) (by simp;omega) (by unfold z7 at hN;omega)
  have hmk:=c6C hN (kind:=6) (a:=b.2.2.2) (keys:=(z :: Es).map (·.1)) (t:=[]) (num:=0) (m:=m) (by decide) (by decide) ((g,z.2.1) :: zs) (by have:=congrArg List.length i1;simp at this ⊢;omega) (fun y hy=>by
   rcases List.mem_cons.1 hy with rfl|hy
   ·exact s2
   ·exact i2 y hy)
  have e2:((g,z.2.1) :: zs).map (·.2)=(z :: Es).map (·.2.1):=by rw[List.map_cons,i1,List.map_cons]
  rw[e2]at hmk;refine⟨_,?_,hmk⟩;have el:b :: b2 :: ((c0 :: c1 :: u3++u2) ++ [c])++r=b :: b2 :: c0 :: c1 :: (u3++(u2++c :: r)):=by simp
  rw[el];unfold x8;rw[d21,c8];simp only[a15,g9,a2s,c8,b1,show((1:Int)==2)=false by decide,show((1:Int)==3)=false by decide];rw[a1i (by rw[L1 h1];rfl),c8];simp only[g9];rw[a1i (by rw[L1 h1];rfl),c8];simp only[g9];rw[a1i (by rw[L1 h1];rfl),c8];simp only[g9];rw[a67 (by rw[L1 h1];rfl),c8];simp only[d9];rw[a5o (by rw[L1 h1'];rfl),c8];have hrow:V6 N S [125] false (c0 :: c1 :: (u3++(u2++c :: r))) e d 6 [] 0 b.2.2.2=some (r,e,d,6,[],0,(z :: Es).map (·.1),b.2.2.2,((g,z.2.1) :: zs).map (·.1)):=by
   unfold V6;rw[g9,e6z k1 (by rw[L1 g7];rfl) s1,c8,k2];refine i3.trans ?_;rw[a5o (by rw[L1 h5];rfl),c8];rfl
  simp only[hrow,c8]
theorem f0z(hN:z7<=N)(d:Nat){v:GValue}(h:RV0 v):PSe N (u0 N (d+2)) 1 (vE0 v) (tkE (vE0 v)):=by
 show PSe N (D4 N (u0 N (d+1))) 1 _ _;rcases h with⟨t,h1,_,rfl⟩|⟨n,h1,rfl⟩|⟨l,h1,h2,rfl⟩
 ·rw[c16];have:tkE (R1 t)=[(2,t,0)]:=by unfold R1;rw[c6U]
  rw[this];exact(b6H hN (b9f hN _ t)).up (by omega)
 ·rw[c2a,e3E];exact(b6H hN (e53 hN _ n)).up (by omega)
 ·rw[c2b];refine b6H hN (e0Y hN _ (fun s=>?_) l h1);show PSe N (D4 N (u0 N d)) 0 _ _;exact b6H hN (b9f hN _ s)
theorem e3x(hN:z7<=N)(s:d3):PSe N (u0 N N) 2 (R1 s) (tkE (R1 s)):=by
 obtain⟨d,hd⟩:∃d,N=d+1:=⟨N-1,by unfold z7 at hN;omega⟩;have e:u0 N N=D4 N (u0 N d):=by
  conv=>lhs;arg 2;rw[hd]
  rfl
 have:tkE (R1 s)=[(2,s,0)]:=by unfold R1;rw[c6U]
 rw[e,this];exact(b6H hN (b9f hN _ s)).up (by omega)
theorem f6j(hN:z7<=N){v:GValue}(h:RV v):PSe N (u0 N N) 2 (vE v) (tkE (vE v)):=by
 obtain⟨d,hd⟩:∃d,N=d+3:=⟨N-3,by unfold z7 at hN;omega⟩;have e:u0 N N=u0 N (d+3):=by
  conv=>lhs;arg 2;rw[hd]
 rw[e];rcases h with h|⟨cs,h1,h2,h3,rfl⟩
 ·rw[b9C h];exact(f0z hN (d+1) h).up (by omega)
 ·show PSe N (D4 N (u0 N (d+2))) 2 _ _;rw[c5l,e3G,a5Y];have:=c9u hN (S:=u0 N (d+2)) (m:=1) (cs.map fun c=>(c.1,vE0 c.2,tkE (vE0 c.2))) (by simpa using h1) (by rw[List.length_map];omega) (fun z hz=>by
   obtain⟨c,hc,rfl⟩:=List.mem_map.1 hz;exact f0z hN d (h3 c hc).2.2)
  have q1:(cs.map fun c:T8=>(c.1,vE0 c.2,tkE (vE0 c.2))).map (·.1)=cs.map (·.1):=by rw[List.map_map];rfl
  have q2:(cs.map fun c:T8=>(c.1,vE0 c.2,tkE (vE0 c.2))).map (·.2.1)=cs.map fun c=>vE0 c.2:=by rw[List.map_map];rfl
  have q3:(cs.map fun c:T8=>(c.1,vE0 c.2,tkE (vE0 c.2))).map ck=((cs.map (·.1)).zip (cs.map fun c=>vE0 c.2)).map fun z=>[(2,z.1,0),S5 58]++tkE z.2:=by
   rw[List.zip_map',List.map_map,List.map_map];rfl
  rw[q1,q2,q3]at this;exact b6H hN this
def PV(N:Nat)(E:GExpr)(ks:List Key):Prop:=∀(ts r:List K6) (e d:Int),ts.map a6p=ks->NoOp r->B5 N 0 (ts++r) e d=some (E,r,e,d)
theorem d4b(hN:z7<=N){E:GExpr}{ks:List Key}(h:PSe N (u0 N N) 2 E ks):PV N E ks:=fun ts r e d ht hr=>by
 obtain⟨g,h1,h2⟩:=h ts r e d ht hr;unfold B5;rw[h1,c8];simp only[show IntKind.i64.wrap ((0:Int)+1)=1 by decide,h2 N (by unfold z7 at hN;omega) 1 (by omega) (by omega),c8,GExpr.eta]
theorem f07(hN:z7<=N){t0 t1:K6}{l l':List K6}{e d e' d' x0 x1 x2 x3:Int}{s1 s2 s3:d3}{E:GExpr}(h0:t0.1=1)(hn:B7 t0.2.1=true)(h1:hdB 4 [61] (t1 :: l)=true)(hv:B5 N 0 l e d=some (E,l',e',d')):
  J9 N 0 (t0 :: t1 :: l) e d x0 s1 s2 x1 s3 x2 x3=some (0,l',e',d',x0,s1,s2,x1,s3,x2,x3,[(t0.2.1,E)]):=by
 have hf:∀z:Ag,Zf [z].length (.pr .str (.rc .expr))=true:=fun z=>a58 (by decide) (by simp)
 unfold J9 q6;simp only[c4N hN h0 hn,c8,a5o h1,hv,GExpr.eta,hf,d9,N7,K7]
theorem f08(hN:z7<=N){t0 t1:K6}{l l':List K6}{e d e' d' x0 x1 x2 x3:Int}{s1 s2 s3:d3}{E:GExpr}{w:List Ag}(h0:t0.1=1)(hn:B7 t0.2.1=true)(h1:hdB 4 [61] (t1 :: l)=true)(hw:w.length<=50000)(hv:B5 N 0 l e d=some (E,l',e',d')):
  M7 N 0 (t0 :: t1 :: l) e d x0 s1 s2 x1 s3 x2 x3 w=some (0,l',e',d',x0,s1,s2,x1,s3,x2,x3,w ++ [(t0.2.1,E)]):=by
 unfold M7 o4;simp only[c4N hN h0 hn,c8,a5o h1,hv,GExpr.eta,e5R hw,d9,N7,K7]
def ak(z:EK3):List Key:=nmT z.1 :: S5 61 :: z.2.2
abbrev KA4:Type:=List K6->Int->Int->Int->Int->d3->d3->Int->d3->Int->Int->List Ag->Option (List K6×Int×Int×Int×Int×d3×d3×List Ag×Int×d3×Int×Int)
theorem b6M(hN:z7<=N){x0 x1 x2 x3:Int}{s1 s2 s3:d3}{K:KA4}:
  ∀(Es:List EK3),(∀z∈Es,B7 z.1=true/\PV N z.2.1 z.2.2)->∀(ts r:List K6) (e d:Int) (w:List Ag) (f:Nat),ts.map a6p=((Es.map ak).map fun y=>S5 44 :: y).flatten->hdB 4 [44] r=false->NoOp r->w.length+Es.length<=50000->Es.length<f->
  c3U N K f (ts++r) e d 0 x0 s1 s2 x1 s3 x2 x3 w=K r e d 0 x0 s1 s2 x1 s3 x2 x3 (w++Es.map fun z=>(z.1,z.2.1))
 |[],_,ts,r,e,d,w,f,ht,hc,hr,_,hf=>by
  have:ts=[]:=List.map_eq_nil_iff.1 ht;subst this;obtain⟨f,rfl⟩:∃q,f=q+1:=⟨f-1,by simp at hf;omega⟩;show b1s _ _ _ r _ _ _ _ _ _ _ _ _ _ _=_;unfold b1s;rw[a1i hc,c8];simp
 |z :: Es,hS,ts,r,e,d,w,f,ht,hc,hr,hl,hf=>by
  obtain⟨f,rfl⟩:∃q,f=q+1:=⟨f-1,by simp at hf;omega⟩;rw[List.map_cons,List.map_cons,List.flatten_cons,List.cons_append]at ht;obtain⟨c,ts',rfl,h1,h2⟩:=List.map_eq_cons_iff.1 ht;obtain⟨u1,t2,rfl,h3,h4⟩:=List.map_eq_append_iff.1 h2;obtain⟨c0,u2,rfl,h5,h6⟩:=List.map_eq_cons_iff.1 h3;obtain⟨c1,t1,rfl,h7,h8⟩:=List.map_eq_cons_iff.1 h6;have k1:c0.1=1:=congrArg (·.1) h5;have k2:c0.2.1=z.1:=congrArg (·.2.1) h5;obtain⟨n1,v1⟩:=hS z (by simp);have hv:=v1 t1 (t2++r) e d h8 (a3n h4 hr);simp only[List.length_cons]at hl hf;have ih:=b6M hN (x0:=x0) (x1:=x1) (x2:=x2) (x3:=x3) (s1:=s1) (s2:=s2) (s3:=s3) (K:=K) Es (fun z hz=>hS z (List.mem_cons_of_mem _ hz)) t2 r e d (w ++ [(z.1,z.2.1)]) f h4 hc hr (by simp;omega) (by omega);show b1s _ _ _ (c :: ((c0 :: c1 :: t1++t2)++r)) _ _ _ _ _ _ _ _ _ _ _=_;unfold b1s;rw[a67 (by rw[L1 h1];rfl),c8];simp only[d9,List.append_assoc,List.cons_append];rw[f08 hN k1 (by rw[k2];exact n1) (by rw[L1 h7];rfl) (by omega) hv,c8,k2,ih];simp
def stA(t:y7)(a:Int):GStmt:= .mk 2 a0H [] [] (X2 t) zE [] [] a
theorem e6n(t:y7)(a:Int):erS (stA t a)=erS (stT t):=by
 unfold stA stT;rw[a4l,a4l];rfl
theorem e5J(hN:z7<=N)(q:d3)(hq:B7 q=true)(z:EK3)(Es:List EK3)(hl:Es.length<=1000)(hS:∀y∈z :: Es,B7 y.1=true/\PV N y.2.1 y.2.2)(hne:∀w∈([[109,97,99,114,111],[102,111,114],[105,102],[117,115,101]]:List d3),(q==w)=false)(ts r:List K6)(e d:Int)(ht:ts.map a6p=[nmT q,S5 40]++a1o ((z :: Es).map ak) ++ [S5 41,S5 59]):
  ∃a,x9 N 0 (ts++r) e d=some (.mk 2 q [] [] ((z :: Es).map fun y=>(y.1,y.2.1)) zE [] [] a,r,e,d):=by
 rw[List.append_assoc]at ht;have ht:ts.map a6p=nmT q :: S5 40 :: (a1o ((z :: Es).map ak) ++ [S5 41,S5 59]):=ht;obtain⟨b,ts1,rfl,h1,h2⟩:=List.map_eq_cons_iff.1 ht;obtain⟨b2,ts',rfl,h1',h2'⟩:=List.map_eq_cons_iff.1 h2;obtain⟨t1,t2,rfl,h3,h4⟩:=List.map_eq_append_iff.1 h2';obtain⟨c,t3,rfl,h5,h6⟩:=List.map_eq_cons_iff.1 h4;obtain⟨c',rfl,h7⟩:=List.map_eq_singleton_iff.1 h6;have b1:b.1=1:=congrArg (·.1) h1;have bq:b.2.1=q:=congrArg (·.2.1) h1;have hend:NoOp (c :: c' :: r):=NoOp.sign h5 (by decide) (by decide);rw[List.map_cons,a5a]at h3;obtain⟨u1,u2,rfl,g1,g2⟩:=List.map_eq_append_iff.1 h3;obtain⟨c0,v2,rfl,g5,g6⟩:=List.map_eq_cons_iff.1 g1;obtain⟨c1,u3,rfl,g7,g8⟩:=List.map_eq_cons_iff.1 g6;have k1:c0.1=1:=congrArg (·.1) g5;have k2:c0.2.1=z.1:=congrArg (·.2.1) g5;obtain⟨n1,v1⟩:=hS z (by simp);have hv:=v1 u3 (u2++c :: c' :: r) e d g8 (a3n g2 hend);refine⟨b.2.2.2,?_⟩;have el:b :: b2 :: ((c0 :: c1 :: u3++u2) ++ [c,c'])++r=b :: b2 :: c0 :: c1 :: (u3++(u2++c :: c' :: r)):=by simp
 rw[el];unfold x9;rw[d21,c8];simp only;rw[b8W (by omega),c8];simp only;have nk:∀w∈([[109,97,99,114,111],[102,111,114],[105,102],[117,115,101]]:List d3),hdB 1 w (b :: b2 :: c0 :: c1 :: (u3++(u2++c :: c' :: r)))=false:=fun w hw=>by
  rw[L1 h1,hne w hw];rfl
 rw[a1i (nk _ (by simp)),c8];simp only[g9];rw[a1i (nk _ (by simp)),c8];simp only[g9];rw[a1i (nk _ (by simp)),c8];simp only[g9];rw[a1i (nk _ (by simp)),c8];simp only[g9];rw[c4N hN b1 (by rw[bq];exact hq),c8,bq];have hrow:∀x:Int,V7 N [41] true (c0 :: c1 :: (u3++(u2++c :: c' :: r))) e d 0 2 q [] 0 [] 0 x=some (c' :: r,e,d,0,2,q,[],(z :: Es).map (fun y=>(y.1,y.2.1)),0,[],0,x):=fun x=>by
  unfold V7;rw[d9,a1i (by rw[L1 g5];rfl),c8];simp only[g9];rw[f07 hN k1 (by rw[k2];exact n1) (by rw[L1 g7];rfl) hv,c8,k2];have:=b6M hN (x0:=2) (s1:=q) (s2:=[]) (x1:=0) (s3:=[]) (x2:=0) (x3:=x) (K:=fun o0_0_0 o0_0_1 o0_0_2 o0_2_0 o0_4_0 o0_4_1 o0_4_2 o0_4_5 o0_4_6 o0_4_7 o0_4_12 o0_w101500=>
     k8 (l8 N [41] o0_0_0 o0_0_1 o0_0_2) fun t22=>
     some (t22.1,t22.2.1,t22.2.2,o0_2_0,o0_4_0,o0_4_1,o0_4_2,o0_w101500,o0_4_5,o0_4_6,o0_4_7,o0_4_12)) Es (fun y hy=>hS y (List.mem_cons_of_mem _ hy)) u2 (c :: c' :: r) e d [(z.1,z.2.1)] N g2 (by rw[L1 h5];rfl) hend (by simp;omega) (by unfold z7 at hN;omega)
  refine this.trans ?_;rw[a5o (by rw[L1 h5];rfl),c8];rfl
 unfold a0s;rw[a67 (by rw[L1 h1'];rfl),c8];simp only[d9];rw[hrow,c8];simp only;rw[a5o (by rw[L1 h7];rfl),c8,c8]
theorem e6o(hN:z7<=N){t:y7}(h:RT t)(ts r:List K6)(e d:Int)(ht:ts.map a6p=tkS (stT t)):∃a,x9 N 0 (ts++r) e d=some (stA t a,r,e,d):=by
 unfold stT at ht;rw[c6V]at ht;have hA:(X2 t).map (d20 tkE)=((X2 t).map fun c=>((c.1,c.2,tkE c.2):EK3)).map ak:=by rw[List.map_map];rfl
 have hE:X2 t=(a00,R1 t.1) :: (a1L,R1 t.2.1) :: t.2.2.map b2Q:=rfl;have:=e5J hN a0H (by decide) (a00,R1 t.1,tkE (R1 t.1)) (((a1L,R1 t.2.1) :: t.2.2.map b2Q).map fun c=>((c.1,c.2,tkE c.2):EK3)) (by have:=h.few;simp;omega) (fun y hy=>by
  rcases List.mem_cons.1 hy with rfl|hy
  ·exact⟨(by decide:B7 a00=true),d4b hN (e3x hN _)⟩
  ·obtain⟨c,hc,rfl⟩:=List.mem_map.1 hy;rcases List.mem_cons.1 hc with rfl|hc
   ·exact⟨(by decide:B7 a1L=true),d4b hN (e3x hN _)⟩
   ·obtain⟨a,ha,rfl⟩:=List.mem_map.1 hc;exact⟨(h.attrs a ha).1,d4b hN (f6j hN (h.attrs a ha).2)⟩) (by decide) ts r e d (by
  rw[ht,hA,hE];rfl)
 obtain⟨a,ha⟩:=this;refine⟨a,ha.trans ?_⟩;unfold stA;rw[hE,<-List.map_cons (f:=fun c:Ag=>((c.1,c.2,tkE c.2):EK3)) (a:=(a00,R1 t.1)),List.map_map];have:((a00,R1 t.1) :: (a1L,R1 t.2.1) :: t.2.2.map b2Q).map ((fun y:EK3=>(y.1,y.2.1))∘fun c:Ag=>((c.1,c.2,tkE c.2):EK3))=(a00,R1 t.1) :: (a1L,R1 t.2.1) :: t.2.2.map b2Q:=(List.map_congr_left fun _ _=>rfl).trans (List.map_id _);rw[this]
end
end Go.Proofs.YtckdohagilcloaaGreatDoor
