/- % -/
import Derived.Test.YtolpmfhiegpohaaGreatDoorQLPrG
import Derived.Test.YtolpmfhiegpohaaGreatDoorQFor2
import Derived.Test.YtolpmfhiegpohaaGreatDoorQLPrA
namespace Go.Proofs.YtolpmfhiegpohaaGreatDoor
set_option linter.unusedVariables false
set_option linter.unusedSimpArgs false
open Go Go.RowKit
section
variable{N:Nat}
theorem a7k{n m:Nat}(h:n+m<=2000000000000:=by first|omega|(simp only[List.length_append,List.length_cons,List.length_nil];omega)):decide (n+m<=9223372036854775807)=true:=decide_eq_true (by omega)
theorem brN{R:Type}{k j:Int}{x y:Option R}(h:(k==j)=false:=by rfl):br (k==j) x y=y:=by rw[h,d6]
theorem brY{R:Type}{k j:Int}{x y:Option R}(h:(k==j)=true:=by rfl):br (k==j) x y=x:=by rw[h,d7]
theorem a8k{l:List d9}{sep:d9}(h1:(Lib.join l sep).length<=1000000000000)(h2:l.length<=1000000000):strings_Join l sep=some (Lib.join l sep):=by
 unfold strings_Join;rw[if_pos ⟨by omega,by omega⟩]
theorem a9K{t:d9}(h:t.length<=zz):N5 t=some (rpQ t):=by
 unfold N5;rw[if_pos (by unfold zz at h;omega)]
theorem a1y{sep:d9}:∀{l:List d9} {s:d9},s∈l->s.length<=(Lib.join l sep).length
 |[],_,h=>by cases h
 |[x],s,h=>by rw[List.mem_singleton.1 h,Lib.join_one];exact Nat.le_refl _
 |x :: y :: r,s,h=>by
  rw[a59,List.length_append,List.length_append];rcases List.mem_cons.1 h with rfl|h
  ·omega
  ·have:=a1y (sep:=sep) h;omega
section
variable{r:GExpr->Option d9}
theorem b4j(hN:I1<=N){es:List GExpr}(hl:es.length<=1000000)(hr:∀c∈es,r c=some (Q2 c)){K:List d9->Option d9}:∀(u f j:Nat) (w:List d9),j+u=es.length->u<f->w.length=j->
  f5U N r es (es.length:Int) K f (j:Int) w=K (w++(es.drop j).map Q2)
 |0,f,j,w,hj,hf,hw=>by
  obtain⟨f,rfl⟩:∃q,f=q+1:=⟨f-1,by omega⟩;obtain rfl:j=es.length:=by omega
  show f15 _ _ _ _ _ _ _ _=_;unfold f15;rw[Z9,d6,List.drop_length,List.map_nil,List.append_nil]
 |u+1,f,j,w,hj,hf,hw=>by
  obtain⟨f,rfl⟩:∃q,f=q+1:=⟨f-1,by omega⟩;have h:j<es.length:=by omega
  have ih:=b4j hN hl hr (K:=K) u f (j+1) (w ++ [Q2 es[j]]) (by omega) (by omega) (by simp;omega);show f15 _ _ _ _ _ _ _ _=_;unfold f15;rw[V8 h,d7,m6 _ h,a8,GExpr.eta,hr _ (List.getElem_mem h),a8,c5r (by omega),d7,a5l (n:=(j:Int)+1) (m:=j+1) (by omega) (by omega),ih,List.drop_eq_getElem_cons h,List.map_cons,List.append_assoc];rfl
theorem c0q(hN:I1<=N){es:List GExpr}(hl:es.length<=1000000)(hr:∀c∈es,r c=some (Q2 c))(hb:(Lib.join (es.map Q2) [44,32]).length<=1000000000000):a1m N r es=some (Lib.join (es.map Q2) [44,32]):=by
 unfold a1m;have:=b4j hN hl hr (K:=fun o0_w1003=>j8 (strings_Join o0_w1003 ([44,32]:d9)) fun t19=>some t19) es.length N 0 [] (by omega) (by unfold I1 at hN;omega) rfl;rw[show((0:Nat):Int)=0 from rfl]at this;rw[this,List.drop_zero,List.nil_append,a8k hb (by simp;omega),a8]
theorem b3o{k n:Int}{t:d9}{ks:List d9}{es:List GExpr}{j:Nat}(h:j<es.length)(hr:r es[j]=some (Q2 es[j]))(hb:(Q2 es[j]).length<=1000000000000):L6 N r (j:Int) (GExpr.mk k t n ks es)=some (a6h (Z7 k es[j].kind (j:Int)) (Q2 es[j])):=by
 unfold L6;rw[(c3f h).1,a8];simp only[E9];simp only[m6 _ h,a8,hr];cases Z7 k es[j].kind (j:Int)with
 |false=>rw[d6];rfl
 |true=>
  rw[d7,a7k,d7,a7k,d7];rfl
theorem b36(hN:I1<=N){c1:GExpr}{ks:List d9}{es:List GExpr}(hc:c1.kids=es)(hk:ks.length=es.length)(hl:es.length<=1000000)(hq:∀q∈ks,q.length<=zz)(hr:∀c∈es,r c=some (Q2 c)){K:List d9->Option d9}(hp:∀z∈ks.zip es,(rpQ z.1 ++ [58,32]++Q2 z.2).length<=1000000000000):∀(u f j:Nat) (w:List d9),j+u=ks.length->u<f->w.length=j->
  e5d N r c1 ks (ks.length:Int) K f (j:Int) w=K (w++((ks.zip es).drop j).map fun z=>rpQ z.1 ++ [58,32]++Q2 z.2)
 |0,f,j,w,hj,hf,hw=>by
  obtain⟨f,rfl⟩:∃q,f=q+1:=⟨f-1,by omega⟩;obtain rfl:j=ks.length:=by omega
  show a6O _ _ _ _ _ _ _ _ _=_;unfold a6O;rw[Z9,d6,List.drop_eq_nil_of_le (by rw[List.length_zip];omega),List.map_nil,List.append_nil]
 |u+1,f,j,w,hj,hf,hw=>by
  obtain⟨f,rfl⟩:∃q,f=q+1:=⟨f-1,by omega⟩;have h:j<ks.length:=by omega
  have h2:j<es.length:=by omega
  have h3:j<(ks.zip es).length:=by rw[List.length_zip];omega
  have hpj:=hp _ (List.getElem_mem h3);rw[List.getElem_zip]at hpj;simp only at hpj;have ih:=b36 hN hc hk hl hq hr (K:=K) hp u f (j+1) (w ++ [rpQ ks[j] ++ [58,32]++Q2 es[j]]) (by omega) (by omega) (by simp;omega);show a6O _ _ _ _ _ _ _ _ _=_;unfold a6O;have hlen:(rpQ ks[j]).length+2+(Q2 es[j]).length<=1000000000000:=by
   simp only[List.length_append,List.length_cons,List.length_nil]at hpj;omega
  rw[V8 h,d7,m6 _ h,a8,hc,m6 _ h2,a8,a9K (hq _ (List.getElem_mem h)),a8,a7k,d7,hr _ (List.getElem_mem h2),a8,a7k,d7,c5r (by omega),d7,a5l (n:=(j:Int)+1) (m:=j+1) (by omega) (by omega),ih,List.drop_eq_getElem_cons h3,List.map_cons,List.append_assoc,List.getElem_zip];rfl
end
theorem a9A(hN:I1<=N):∀(k x j n:Nat) (e:GExpr),WE k x e->ZE j e->j<=n->(Q2 e).length<=1000000000000->y0 N n e=some (Q2 e)
 |0,_,_,_,_,h,_,_,_=>h.elim
 |k+1,x,0,_,_,_,h,_,_=>h.elim
 |k+1,x,j+1,0,_,_,_,h,_=>absurd h (by omega)
 |k+1,x,j+1,n+1,e,⟨_,h⟩,⟨z1,z2,z3,z4,z5⟩,hn,hb=>by
  have ih:=fun(x:Nat) (c:GExpr) (hc:WE k x c) (hz:ZE j c) (hl:(Q2 c).length<=1000000000000)=>a9A hN k x j n c hc hz (by omega) hl
  show J4 N (y0 N n) e=_;rcases h with⟨t,h1,rfl⟩|⟨m,h1,rfl⟩|⟨t,h1,rfl⟩|⟨es,rfl,h1⟩|⟨a,b,rfl,h1,h2⟩|⟨ks,es,h1,h2,h3,rfl,h4⟩|⟨a,b,rfl,h1,h2⟩|⟨a,b,rfl,h1,h2⟩
  ·unfold J4;simp only[E4,Z3]at *;rw[brY,a9K z1,a8,c5y]
  ·unfold J4;simp only[E4,R9]at *;rw[brN,brY,c9D];unfold strconv_Itoa;rw[if_pos ⟨by omega,by omega⟩,a8]
  ·unfold J4;simp only[E4,Z3]at *;rw[brN,brN,brY,c5z]
  ·rw[c5A]at hb ⊢;simp only[E9]at *;simp only[List.length_append,List.length_cons,List.length_nil]at hb;have hj:(Lib.join (es.map Q2) [44,32]).length<=1000000000000:=by omega
   have hE:=c0q hN (r:=y0 N n) z4 (fun c hc=>ih _ c (h1 c hc) (z5 c hc) (by have:=a1y (sep:=[44,32]) (List.mem_map_of_mem (f:=Q2) hc);omega)) hj;unfold J4;simp only[E4,E9];rw[brN,brN,brN,brY,hE,a8,a7k,d7,a7k,d7]
  ·rw[c5B]at hb ⊢;simp only[E9]at *;simp only[List.length_append,List.length_cons,List.length_nil]at hb;have hj:(Lib.join ([a,b].map Q2) [44,32]).length<=1000000000000:=by omega
   have hE:=c0q hN (r:=y0 N n) z4 (fun c hc=>ih _ c (by
    simp only[List.mem_cons,List.mem_nil_iff,or_false]at hc;rcases hc with rfl|rfl
    ·exact h1
    ·exact h2) (z5 c hc) (by have:=a1y (sep:=[44,32]) (List.mem_map_of_mem (f:=Q2) hc);omega)) hj
   unfold J4;simp only[E4,E9];rw[brN,brN,brN,brN,brY,hE,a8,a7k,d7,a7k,d7]
  ·rw[c5C,a5n]at hb ⊢;simp only[E9,Y1]at *;have hb:(([99,104,111,111,115,101,32,123]:d9)++Lib.join ((ks.zip es).map fun z=>rpQ z.1 ++ [58,32]++Q2 z.2) [44,32]++([125]:d9)).length<=1000000000000:=hb;rw[List.length_append,List.length_append]at hb;simp only[List.length_cons,List.length_nil]at hb;have hj:(Lib.join ((ks.zip es).map fun z=>rpQ z.1 ++ [58,32]++Q2 z.2) [44,32]).length<=1000000000000:=by omega
   have hp:∀z∈ks.zip es,(rpQ z.1 ++ [58,32]++Q2 z.2).length<=1000000000000:=fun z hz=>by
    have:=a1y (sep:=[44,32]) (List.mem_map_of_mem (f:=fun z:d9×GExpr=>rpQ z.1 ++ [58,32]++Q2 z.2) hz);omega
   have hr:∀c∈es,y0 N n c=some (Q2 c):=fun c hc=>ih _ c (h4 c hc) (z5 c hc) (by
    obtain⟨i,hi,rfl⟩:=List.getElem_of_mem hc;have h3:i<(ks.zip es).length:=by rw[List.length_zip];omega
    have:=hp _ (List.getElem_mem h3);rw[List.getElem_zip]at this;simp only[List.length_append,List.length_cons,List.length_nil]at this;omega)
   have hL:=b36 hN (r:=y0 N n) (c1:=GExpr.mk 6 [] 0 ks es) (es:=es) rfl h1 z4 z3 hr (K:=fun o0_w1004=>
          j8 (strings_Join o0_w1004 ([44,32]:d9)) fun t77=>
          br (decide (([99,104,111,111,115,101,32,123]:d9).length+t77.length<=9223372036854775807))
           (br (decide ((([99,104,111,111,115,101,32,123]:d9)++t77).length+([125]:d9).length<=9223372036854775807))
            (some ((([99,104,111,111,115,101,32,123]:d9)++t77)++([125]:d9)))
            none)
           none) hp ks.length N 0 [] (by omega) (by unfold I1 at hN;omega) rfl
   rw[show((0:Nat):Int)=0 from rfl]at hL;unfold J4;simp only[GExpr.eta,E4,E9,Y1,Z3,R9];rw[brN,brN,brN,brN,brN,brN,brN,hL,List.drop_zero,List.nil_append,a8k hj (by rw[List.length_map,List.length_zip];omega),a8,a7k,d7,a7k,d7]
  ·rw[c5D]at hb ⊢;simp only[E9]at *;simp only[List.length_append,List.length_cons,List.length_nil]at hb;have hpar:∀b s,(s:d9).length<=(a6h b s).length:=fun b s=>by cases b<;>simp[a6h];omega
   have pa:=hpar (Z7 7 a.kind 0) (Q2 a);have pc:=hpar (Z7 7 b.kind 1) (Q2 b);have qa:=b3o (N:=N) (r:=y0 N n) (k:=7) (n:=0) (t:=[]) (ks:=[]) (es:=[a,b]) (j:=0) (by simp) (ih _ a h1 (z5 a (by simp)) (by omega)) (by show(Q2 a).length<=_;omega);have qb:=b3o (N:=N) (r:=y0 N n) (k:=7) (n:=0) (t:=[]) (ks:=[]) (es:=[a,b]) (j:=1) (by simp) (ih _ b h2 (z5 b (by simp)) (by omega)) (by show(Q2 b).length<=_;omega);have qa:L6 N (y0 N n) 0 (GExpr.mk 7 [] 0 [] [a,b])=some (a6h (Z7 7 a.kind 0) (Q2 a)):=qa;have qb:L6 N (y0 N n) 1 (GExpr.mk 7 [] 0 [] [a,b])=some (a6h (Z7 7 b.kind 1) (Q2 b)):=qb;unfold J4;simp only[GExpr.eta,E4,E9,Y1,Z3,R9];rw[brN,brN,brN,brN,brN,brY,qa,a8,a7k,d7,qb,a8,a7k,d7]
  ·rw[c5E]at hb ⊢;simp only[E9]at *;simp only[List.length_append,List.length_cons,List.length_nil]at hb;have hpar:∀b s,(s:d9).length<=(a6h b s).length:=fun b s=>by cases b<;>simp[a6h];omega
   have pa:=hpar (Z7 8 a.kind 0) (Q2 a);have pc:=hpar (Z7 8 b.kind 1) (Q2 b);have qa:=b3o (N:=N) (r:=y0 N n) (k:=8) (n:=0) (t:=[]) (ks:=[]) (es:=[a,b]) (j:=0) (by simp) (ih _ a h1 (z5 a (by simp)) (by omega)) (by show(Q2 a).length<=_;omega);have qb:=b3o (N:=N) (r:=y0 N n) (k:=8) (n:=0) (t:=[]) (ks:=[]) (es:=[a,b]) (j:=1) (by simp) (ih _ b h2 (z5 b (by simp)) (by omega)) (by show(Q2 b).length<=_;omega);have qa:L6 N (y0 N n) 0 (GExpr.mk 8 [] 0 [] [a,b])=some (a6h (Z7 8 a.kind 0) (Q2 a)):=qa;have qb:L6 N (y0 N n) 1 (GExpr.mk 8 [] 0 [] [a,b])=some (a6h (Z7 8 b.kind 1) (Q2 b)):=qb;unfold J4;simp only[GExpr.eta,E4,E9,Y1,Z3,R9];rw[brN,brN,brN,brN,brN,brN,brY,qa,a8,a7k,d7,qb,a8,a7k,d7]
end
section
variable{N:Nat}
theorem d5c:∀d:Nat,Lib.repeatL [32,32] d=List.replicate (2*d) 32:=fun d=>by
 have:=Lib.repeatL_replicate 32 2 d;rw[Nat.mul_comm]at this;exact this
theorem F6(d:Nat)(s:d9):(lnS d s).length=2*d+s.length+1:=by
 unfold lnS;rw[List.length_append,List.length_append,List.length_replicate];rfl
theorem a4s{d:Nat}(hd:d<=1000){s w:d9}(h:w.length+s.length<=2000000000000):x6 N (d:Int) s w=some (w++lnS d s):=by
 unfold x6 strings_Repeat;rw[if_pos ⟨by omega,by omega,by simp only[List.length_cons,List.length_nil,Int.toNat_natCast];omega⟩,a8,Int.toNat_natCast,d5c];have e1:decide ((List.replicate (2*d) (32:UInt8)).length+s.length<=9223372036854775807)=true:=decide_eq_true (by rw[List.length_replicate];omega);have e2:decide ((List.replicate (2*d) (32:UInt8)++s).length+([10]:d9).length<=9223372036854775807)=true:=decide_eq_true (by rw[List.length_append,List.length_replicate];simp only[List.length_cons,List.length_nil];omega);rw[e1,d7,e2,d7];unfold X8;rw[if_pos (by rw[List.length_append,List.length_append,List.length_replicate];simp only[List.length_cons,List.length_nil];omega),a8];rfl
theorem a84{n m:Nat}{i:Decidable (n+m<=9223372036854775807)}(h:n+m<=2000000000000:=by first|omega|(simp only[List.length_append,List.length_cons,List.length_nil];omega)):@decide _ i=true:=@decide_eq_true _ i (by omega)
theorem e2G{p:Prop}{i:Decidable p}(h:p):@decide p i=true:=@decide_eq_true _ i h
theorem e2F{p:Prop}{i:Decidable p}(h:¬p):@decide p i=false:=@decide_eq_false _ i h
abbrev PrC:Type:=Int->List GStmt->List UInt8->Option (List UInt8)
def d7F(r:PrC)(k j d:Nat):Prop:=∀b:List GStmt,b.length<=1000000->(∀c∈b,WS k (d+1) c)->(∀c∈b,ZS j c)->∀w:List UInt8,w.length+(Y6 b (d+1)).length<=1000000000000->r ((d+1:Nat):Int) b w=some (w++Y6 b (d+1))
theorem a43{r:PrC}{k j d:Nat}(hB:d7F r k j d)(hd:d<=30){s w:d9}{b:List GStmt}(h1:b.length<=1000000)(h2:∀c∈b,WS k (d+1) c)(h3:∀c∈b,ZS j c)(h:w.length+(lnS d (s ++ [32,123])).length+(Y6 b (d+1)).length<=1000000000000):
  I9 N r (d:Int) s b w=some (w++(lnS d (s ++ [32,123])++Y6 b (d+1))):=by
 rw[F6,List.length_append]at h;simp only[List.length_cons,List.length_nil]at h;unfold I9;rw[a7k,d7,a4s (by omega) (by rw[List.length_append];simp only[List.length_cons,List.length_nil];omega),a8,a7X (show d<=1000 by omega),hB b h1 h2 h3 _ (by rw[List.length_append,F6,List.length_append];simp only[List.length_cons,List.length_nil];omega),a8,List.append_assoc]
theorem b3T(hN:I1<=N){r:PrC}{m x:Nat}{ag:List Ag}(hl:ag.length<=1000000)(hw:∀c∈ag,w9 c.1=true/\WE m x c.2)(hz:∀q∈ag,q.1.length<=zz/\ZE zz q.2)(hb:(Lib.join (ag.map (a82 Q2)) [44,32]).length<=1000000000000){K:List d9->Option (List UInt8)}:∀(u f j:Nat) (w:List d9),j+u=ag.length->u<f->w.length=j->
  e51 N r ag (ag.length:Int) K f (j:Int) w=K (w++(ag.drop j).map (a82 Q2))
 |0,f,j,w,hj,hf,hw2=>by
  obtain⟨f,rfl⟩:∃q,f=q+1:=⟨f-1,by omega⟩;obtain rfl:j=ag.length:=by omega
  show e4q _ _ _ _ _ _ _ _=_;unfold e4q;rw[Z9,d6,List.drop_length,List.map_nil,List.append_nil]
 |u+1,f,j,w,hj,hf,hw2=>by
  obtain⟨f,rfl⟩:∃q,f=q+1:=⟨f-1,by omega⟩;have h:j<ag.length:=by omega
  have hmem:=List.getElem_mem h;have hlen:=a1y (sep:=[44,32]) (List.mem_map_of_mem (f:=a82 Q2) hmem);have e1:(a82 Q2 ag[j]).length=ag[j].1.length+3+(Q2 ag[j].2).length:=by
   unfold a82;rw[List.length_append,List.length_append];rfl
  have hp:=a9A hN m x zz N ag[j].2 (hw _ hmem).2 (hz _ hmem).2 (by unfold I1 at hN;unfold zz;omega) (by omega);have ih:=b3T hN (r:=r) hl hw hz hb (K:=K) u f (j+1) (w ++ [a82 Q2 ag[j]]) (by omega) (by omega) (by simp;omega);show e4q _ _ _ _ _ _ _ _=_;unfold e4q;rw[V8 h,d7,m6 _ h,a8,a7k,d7,GExpr.eta,hp,a8,a7k,d7,c5r (by omega),d7,a5l (n:=(j:Int)+1) (m:=j+1) (by omega) (by omega)];have ih2:e51 N r ag (ag.length:Int) K f ((j+1:Nat):Int) (w ++ [ag[j].1 ++ [32,61,32]++Q2 ag[j].2])=_:=ih;rw[ih2,List.drop_eq_getElem_cons h,List.map_cons,List.append_assoc];rfl
theorem b92(hN:I1<=N){r:PrC}{m x:Nat}{ag:List Ag}(hl:ag.length<=1000000)(hw:∀c∈ag,w9 c.1=true/\WE m x c.2)(hz:∀q∈ag,q.1.length<=zz/\ZE zz q.2)(hb:(Lib.join (ag.map (a82 Q2)) [44,32]).length<=1000000000000){K:List d9->Option (List UInt8)}:
  e51 N r ag (ag.length:Int) K N 0 []=K (ag.map (a82 Q2)):=by
 have:=b3T hN (r:=r) hl hw hz hb (K:=K) ag.length N 0 [] (by omega) (by unfold I1 at hN;omega) rfl;exact this
theorem c7x(hN:I1<=N){r:PrC}{k j d:Nat}{s:GStmt}(hw:WS (k+1) d s)(hz:ZS (j+1) s)(hB:d7F r k j d){w:List UInt8}(hb:w.length+(prS s d).length<=1000000000000)
  {x2:List GStmt} {c12 i:Int} {k0:List UInt8->Option (List UInt8)} {self:Int->List UInt8->Option (List UInt8)} (h1:decide (i<c12)=true) (h2:m7 x2 i=some s):
  a6N N r (d:Int) x2 c12 k0 self i w=self (IntKind.i64.wrap (i+1)) (w++prS s d):=by
 obtain⟨z1,z2,z3,z4,z5,z6,z7,z8,z9,z10,z11⟩:=hz;obtain⟨hd,hw⟩:=hw;have E:∀{m:Nat} {e:GExpr},WE m (d+1) e->ZE zz e->(Q2 e).length<=1000000000000->y0 N N e=some (Q2 e):=fun{m e} a b c=>a9A hN m (d+1) zz N e a b (by unfold I1 at hN;unfold zz;omega) c
 have close:∀v:List UInt8,v.length<=1000000000000->x6 N (d:Int) [125] v=some (v++lnS d [125]):=fun v hv=>a4s (by omega) (by simp only[List.length_cons,List.length_nil];omega)
 rcases hw with⟨q,G,a,m,g1,g2,rfl⟩|⟨q,ag,a,m,g1,g2,rfl⟩|⟨q,ps,b,a,g1,g2,g3,rfl⟩|⟨q,G,b,a,m,g1,g2,g3,rfl⟩|⟨G,b,l,a,m,g1,g2,g3,rfl⟩|⟨t,a,g1,rfl⟩
 ·rw[c01]at hb ⊢;rw[F6]at hb;simp only[S0,a0p,a0q,O9,a0m,a0o,a0n,a1R,List.length_append,List.length_cons,List.length_nil]at *;have hE:=E g2 z7 (by omega);unfold a6N;rw[h1,d7,h2,a8];rw[S0,a0p,a0q,O9,a0m,a0o,a0n,a1R];rw[brY,a84,d7,GExpr.eta,hE,a8,a84,d7,a84,d7,a4s (by omega) (by simp only[List.length_append,List.length_cons,List.length_nil];omega),a8]
 ·rw[c02]at hb ⊢;rw[F6]at hb;simp only[S0,a0p,a0q,O9,a0m,a0o,a0n,a1R,List.length_append,List.length_cons,List.length_nil]at *;unfold a6N;rw[h1,d7,h2,a8];rw[S0,a0p,a0q,O9,a0m,a0o,a0n,a1R];rw[brN,brY,b92 hN (r:=r) z5 g2 z6 (by omega),a84,d7,a8k (by omega) (by rw[List.length_map];omega),a8,a84,d7,a84,d7,a4s (by omega) (by simp only[List.length_append,List.length_cons,List.length_nil];omega),a8]
 ·rw[c03]at hb ⊢;rw[List.length_append,List.length_append,F6 d [125]]at hb;have hb0:=hb;rw[F6]at hb;simp only[S0,a0p,a0q,O9,a0m,a0o,a0n,a1R,List.length_append,List.length_cons,List.length_nil]at z1 z2 z3 z4 z5 z6 z7 z8 z9 z10 z11 hb;unfold a6N;rw[h1,d7,h2,a8];rw[S0,a0p,a0q,O9,a0m,a0o,a0n,a1R];rw[brN,brN,brN,brY,a84,d7,a84,d7,a8k (by omega) (by unfold zz at z3;omega),a8,a84,d7,a84,d7,
   a43 hB (by omega) z8 g3 z9 (by omega),a8,close _ (by rw[List.length_append,List.length_append];omega),a8]
  simp only[List.append_assoc]
 ·rw[c04]at hb ⊢;rw[List.length_append,List.length_append,F6 d [125]]at hb;have hb0:=hb;rw[F6]at hb;simp only[S0,a0p,a0q,O9,a0m,a0o,a0n,a1R,List.length_append,List.length_cons,List.length_nil]at z1 z2 z3 z4 z5 z6 z7 z8 z9 z10 z11 hb;have hE:=E g2 z7 (by omega);unfold a6N;rw[h1,d7,h2,a8];rw[S0,a0p,a0q,O9,a0m,a0o,a0n,a1R];rw[brN,brN,brN,brN,brY,a84,d7,a84,d7,GExpr.eta,hE,a8,a84,d7,
   a43 hB (by omega) z8 g3 z9 (by omega),a8,close _ (by rw[List.length_append,List.length_append];omega),a8]
  simp only[List.append_assoc]
 ·rw[c05]at hb ⊢;rw[List.length_append,List.length_append,List.length_append,F6 d [125]]at hb;have hb0:=hb;rw[F6]at hb;simp only[S0,a0p,a0q,O9,a0m,a0o,a0n,a1R]at z1 z2 z3 z4 z5 z6 z7 z8 z9 z10 z11;rw[List.length_append,List.length_append]at hb;simp only[List.length_cons,List.length_nil]at hb hb0;have hE:=E g1 z7 (by omega);unfold a6N;rw[h1,d7,h2,a8];rw[S0,a0p,a0q,O9,a0m,a0o,a0n,a1R];rw[brN,brN,brN,brN,brN,brY,GExpr.eta,hE,a8,a84,d7,
   a43 hB (by omega) z8 g2 z9 (by omega),a8]
  cases l with
  |nil=>
   rw[e2F (by simp),d6,close _ (by rw[List.length_append,List.length_append];omega),a8];simp
  |cons c l=>
   simp only[List.isEmpty_cons,Bool.false_eq_true,if_false,List.length_append]at hb0 ⊢;rw[e2G (by rw[List.length_cons];omega),d7,a43 hB (by omega) z10 g3 z11 (by simp only[List.length_append];omega),a8,close _ (by simp only[List.length_append];omega),a8];simp only[List.append_assoc]
 ·rw[c06]at hb ⊢;rw[F6]at hb;simp only[S0,a0p,a0q,O9,a0m,a0o,a0n,a1R,List.length_append,List.length_cons,List.length_nil]at *;unfold a6N;rw[h1,d7,h2,a8];rw[S0,a0p,a0q,O9,a0m,a0o,a0n,a1R];rw[brN,brN,brY,a9K z2,a8,a84,d7,a84,d7,a4s (by omega) (by simp only[List.length_append,List.length_cons,List.length_nil];omega),a8]
theorem b5d(hN:I1<=N){r:PrC}{k j d:Nat}(hB:d7F r k j d){l:List GStmt}(hl:l.length<=1000000)(hw:∀c∈l,WS (k+1) d c)(hz:∀c∈l,ZS (j+1) c):∀(u f i:Nat) (w:List UInt8),i+u=l.length->u<f->w.length+(Y6 (l.drop i) d).length<=1000000000000->
  e8w N r (d:Int) l (l.length:Int) (fun o=>some o) f (i:Int) w=some (w++Y6 (l.drop i) d)
 |0,f,i,w,hi,hf,hb=>by
  obtain⟨f,rfl⟩:∃q,f=q+1:=⟨f-1,by omega⟩;obtain rfl:i=l.length:=by omega
  show a6N _ _ _ _ _ _ _ _ _=_;unfold a6N;rw[Z9,d6,List.drop_length,a7y,List.append_nil]
 |u+1,f,i,w,hi,hf,hb=>by
  obtain⟨f,rfl⟩:∃q,f=q+1:=⟨f-1,by omega⟩;have h:i<l.length:=by omega
  rw[List.drop_eq_getElem_cons h,a4f,List.length_append]at hb;have ih:=b5d hN hB hl hw hz u f (i+1) (w++prS l[i] d) (by omega) (by omega) (by rw[List.length_append];omega);show a6N _ _ _ _ _ _ _ _ _=_;rw[c7x hN (hw _ (List.getElem_mem h)) (hz _ (List.getElem_mem h)) hB (by omega) (V8 h) (m6 _ h),a5l (n:=(i:Int)+1) (m:=i+1) (by omega) (by omega),ih,List.drop_eq_getElem_cons h,a4f,List.append_assoc]
theorem b4P(hN:I1<=N):∀(k j n d:Nat) (l:List GStmt) (w:List UInt8),j<n->l.length<=1000000->(∀c∈l,WS k d c)->(∀c∈l,ZS j c)->w.length+(Y6 l d).length<=1000000000000->D6 N n (d:Int) l w=some (w++Y6 l d)
 |_,_,0,_,_,_,h,_,_,_,_=>absurd h (by omega)
 |k,j,n+1,d,[],w,_,_,_,_,_=>by
  show I0 N _ _ _ _=_;unfold I0;obtain⟨f,hf,_⟩:=a4k hN;rw[hf];show a6N _ _ _ _ _ _ _ _ _=_;unfold a6N;rw[show decide ((0:Int)<((([]:List GStmt).length:Nat):Int))=false by simp,d6,a7y,List.append_nil]
 |0,_,n+1,_,c :: l,_,_,_,h,_,_=>(h c (by simp)).elim
 |_+1,0,n+1,_,c :: l,_,_,_,_,h,_=>(h c (by simp)).elim
 |k+1,j+1,n+1,d,c :: l,w,hn,hl,hw,hz,hb=>by
  have:=b5d hN (r:=D6 N n) (k:=k) (j:=j) (d:=d) (fun b b1 b2 b3 v hv=>b4P hN k j n (d+1) b v (by omega) b1 b2 b3 hv) hl hw hz (c :: l).length N 0 w (by omega) (by unfold I1 at hN;omega) hb;exact this
theorem c9H(hN:I1<=N){l:List GStmt}(hl:l.length<=1000000)(hz:∀s∈l,ZS zz s):∃c,B3 N l=some c/\((c≠0/\U6 N l=some ([],c))\/(c=0/\(∀s∈l,WS zz 0 s)/\((Y6 l 0).length<=1000000000000->U6 N l=some (if(Y6 l 0).length>50000 then(([]:d9),(2:Int))else(Y6 l 0,0))))):=by
 obtain⟨c,h1,h2⟩:=c2W hN l hl hz;refine⟨c,h1,?_⟩;unfold U6;rw[h1,a8];by_cases h:c=0
 ·refine .inr ⟨h,h2 h,fun hb=>?_⟩;rw[h,bne_self_eq_false,d6];have hp:=b4P hN zz zz N 0 l [] (by unfold I1 at hN;unfold zz;omega) hl (h2 h) hz (by simpa using hb);rw[show((0:Nat):Int)=0 from rfl]at hp;rw[hp,a8,List.nil_append];by_cases h5:(Y6 l 0).length>50000
  ·rw[if_pos h5,decide_eq_true (by omega),d7]
  ·rw[if_neg h5,decide_eq_false (by omega),d6]
 ·refine .inl ⟨h,?_⟩;rw[show(c !=0)=true by simpa using h,d7]
end
section
theorem f5z{N:Nat}(s:d9)(hs:s.length<=50000)(w:List A6):∀(d i n:Nat),i+d=s.length->d<n->
  ∃j:Nat,i<=j/\j<=s.length/\s.drop j=W6 false (s.drop i)/\e4Z N s w (fun o=>some (s,o,w)) n (i:Int)=some (s,(j:Int),w):=by
 intro d;induction d using Nat.strongRecOn with
 |_ d ih=>
  intro i n hd hn;obtain⟨n,rfl⟩:∃q,n=q+1:=⟨n-1,by omega⟩;show ∃j:Nat,_/\_/\_/\c5a N s w _ (e4Z N s w _ n) (i:Int)=_;unfold c5a;by_cases hi:i<s.length
  ·rw[S1 hi,d7,m6 s hi,List.drop_eq_getElem_cons hi];simp only[a8];have next:∃j:Nat,i<=j/\j<=s.length/\s.drop j=W6 false (s.drop (i+1))/\e4Z N s w (fun o=>some (s,o,w)) n (IntKind.i64.wrap ((i:Int)+1))=some (s,(j:Int),w):=by
    rw[Q1 (m:=i+1) (by omega) (by omega)];obtain⟨j,h1,h2,h3,h4⟩:=ih (d-1) (by omega) (i+1) n (by omega) (by omega);exact⟨j,by omega,h2,h3,h4⟩
   simp only[W6];by_cases h32:s[i]=32
   ·simpa [h32]using next
   by_cases h9:s[i]=9
   ·simpa [h9]using next
   by_cases h10:s[i]=10
   ·simpa [h10]using next
   by_cases h13:s[i]=13
   ·simpa [h13]using next
   rw[if_neg h32,if_neg h9,if_neg h10,if_neg h13];by_cases h35:s[i]=35
   ·rw[if_pos h35];simp only[h35,b3t s (Nat.le_of_lt hi),a8];simp only[show((35:UInt8)==32)=false by decide,show((35:UInt8)==9)=false by decide,show((35:UInt8)==10)=false by decide,show((35:UInt8)==13)=false by decide,show((35:UInt8)==35)=true by decide,d7,d6];have hid:Lib.indexByte (s.drop i) 10=if Lib.indexByte (s.drop (i+1)) 10 = -1 then -1 else Lib.indexByte (s.drop (i+1)) 10+1:=by
     rw[List.drop_eq_getElem_cons hi,a7l,if_neg h10]
    have hlt:=c3e 10 (s.drop (i+1));rw[List.length_drop]at hlt;have hg:=Lib.indexByte_ge (s.drop (i+1)) 10;unfold strings_IndexByte;simp only[a8];rw[hid,b74];by_cases hneg:Lib.indexByte (s.drop (i+1)) 10 = -1
    ·rw[if_pos hneg,if_pos (by omega),decide_eq_true (by omega),d7,Q1 (n:=(s.length:Int)-(i:Int)) (m:=s.length-i) (by omega) (by omega),Q1 (m:=s.length) (by omega) (by omega)];refine⟨s.length,by omega,Nat.le_refl _,List.drop_length,?_⟩;obtain⟨n,rfl⟩:∃q,n=q+1:=⟨n-1,by omega⟩;show c5a N s w _ _ _=_;unfold c5a;rw[a1A,d6]
    ·obtain⟨q,hq⟩:∃q:Nat,Lib.indexByte (s.drop (i+1)) 10=(q:Int):=⟨(Lib.indexByte (s.drop (i+1)) 10).toNat,by omega⟩;rw[if_neg hneg,hq,if_neg (by omega),decide_eq_false (by omega),d6,Q1 (m:=i+1+q) (by omega) (by omega)];obtain⟨j,h1,h2,h3,h4⟩:=ih (d-(1+q)) (by omega) (i+1+q) n (by omega) (by omega);refine⟨j,by omega,h2,?_,h4⟩;rw[h3,Int.toNat_natCast,List.drop_drop]
   ·rw[if_neg h35];refine⟨i,Nat.le_refl _,by omega,List.drop_eq_getElem_cons hi,?_⟩;simp only[O7 h32,O7 h9,O7 h10,O7 h13,O7 h35,d6]
  ·obtain rfl:i=s.length:=by omega
   rw[a1A,d6];exact⟨s.length,Nat.le_refl _,Nat.le_refl _,by rw[List.drop_length];rfl,rfl⟩
theorem f51{N:Nat}(s:d9)(hs:s.length<=50000)(w:List A6):∀(d i m:Nat) (acc:d9),i+d=s.length->d<m->acc.length<=i->
  (∃(txt:d9) (j:Nat),i<j/\j<=s.length/\G3 (s.drop i) acc=some (txt,s.drop j)/\txt.length<=s.length/\b5T N s w (fun o=>some (([]:d9),false,s,o,w)) m (i:Int) acc=some (txt,true,s,(j:Int),w))\/
  (G3 (s.drop i) acc=none/\∃txt p,b5T N s w (fun o=>some (([]:d9),false,s,o,w)) m (i:Int) acc=some (txt,false,s,p,w)):=by
 intro d;induction d using Nat.strongRecOn with
 |_ d ih=>
  intro i m acc hd hm ha;obtain⟨m,rfl⟩:∃q,m=q+1:=⟨m-1,by omega⟩;show(∃(txt:d9) (j:Nat),_/\_/\_/\_/\b5U N s w _ (b5T N s w _ m) (i:Int) acc=_)\/(G3 (s.drop i) acc=none/\∃txt p,b5U N s w _ (b5T N s w _ m) (i:Int) acc=_);unfold b5U;by_cases hi:i<s.length
  ·simp only[S1 hi,d7,m6 s hi,a8,Q1 (n:=(i:Int)+1) (m:=i+1) (by omega) (by omega)];by_cases h34:s[i]=34
   ·left;refine⟨acc,i+1,by omega,by omega,?_,by omega,?_⟩
    ·rw[List.drop_eq_getElem_cons hi];cases h:s.drop (i+1)with
     |nil=>simp[G3,h34]
     |cons e r=>simp[G3,h34]
    ·simp[h34]
   simp only[O7 h34,d6];by_cases h92:s[i]=92
   ·simp only[h92,show decide ((92:UInt8)<32)=false by decide,show decide ((92:UInt8)>126)=false by decide,show((92:UInt8)==92)=true by decide,show((92:UInt8) !=92)=false by decide,d7,d6];by_cases hi1:i+1<s.length
    ·have hne:(((i+1:Nat):Int)==(s.length:Int))=false:=by
      rw[beq_eq_false_iff_ne];omega
     simp only[hne,d6,S1 hi1,d7,m6 s hi1,a8,Q1 (n:=((i+1:Nat):Int)+1) (m:=i+2) (by omega) (by omega)];have hsl:slc s ((i+1:Nat):Int) ((i+2:Nat):Int)=some [s[i+1]]:=by
      rw[a1v s (by omega) (by omega),List.drop_take,show i+2-(i+1)=1 by omega,List.drop_eq_getElem_cons hi1];rfl
     have hb:∀c:UInt8,Zf (acc.length + [c].length) .u8=true:=fun c=>decide_eq_true (by simp[Ty.sz];omega)
     have hb2:∀c:UInt8,decide (acc.length + [c].length<=9223372036854775807)=true:=fun c=>decide_eq_true (by simp;omega)
     have next:∀c:UInt8,_:=fun c=>ih (d-2) (by omega) (i+2) m (acc ++ [c]) (by omega) (by omega) (by simp;omega)
     simp only[hsl,a8,hb,hb2,d7];have hT:G3 (s.drop i) acc=if s[i+1]=34 then G3 (s.drop (i+2)) (acc ++ [34])else if s[i+1]=92 then G3 (s.drop (i+2)) (acc ++ [92])else if s[i+1]=110 then G3 (s.drop (i+2)) (acc ++ [10])else none:=by
      rw[List.drop_eq_getElem_cons hi,List.drop_eq_getElem_cons hi1,h92,G3,if_neg (by decide),if_neg (by decide),if_neg (by decide),if_pos rfl]
     rw[hT];by_cases g34:s[i+1]=34
     ·have nx:=next 34
      simp only[g34,show((34:UInt8)==34)=true by decide,d7,if_true];rcases nx with⟨txt,j,h1,h2,h3,h5,h4⟩|h
      ·exact .inl ⟨txt,j,by omega,h2,h3,h5,h4⟩
      ·exact .inr h
     simp only[O7 g34,d6,if_neg g34];by_cases g92:s[i+1]=92
     ·have nx:=next 92
      simp only[g92,show((92:UInt8)==92)=true by decide,d7,if_true];rcases nx with⟨txt,j,h1,h2,h3,h5,h4⟩|h
      ·exact .inl ⟨txt,j,by omega,h2,h3,h5,h4⟩
      ·exact .inr h
     simp only[O7 g92,d6,if_neg g92];by_cases g110:s[i+1]=110
     ·have nx:=next 10
      simp only[g110,show((110:UInt8)==110)=true by decide,d7,if_true];rcases nx with⟨txt,j,h1,h2,h3,h5,h4⟩|h
      ·exact .inl ⟨txt,j,by omega,h2,h3,h5,h4⟩
      ·exact .inr h
     simp only[O7 g110,d6,if_neg g110];exact .inr ⟨by first|rfl|trivial,_,_,rfl⟩
    ·have he:i+1=s.length:=by omega
     have hT0:G3 (s.drop i) acc=none:=by
      rw[List.drop_eq_getElem_cons hi,List.drop_eq_nil_of_le (by omega),h92];simp[G3]
     simp only[he,beq_self_eq_true,d7,a1A,d6];exact .inr ⟨hT0,_,_,rfl⟩
   have hne92:(s[i] !=92)=true:=by rw[bne,O7 h92];rfl
   simp only[O7 h92,hne92,d6,d7];by_cases hlo:s[i]<32
   ·have hT0:G3 (s.drop i) acc=none:=by
     rw[List.drop_eq_getElem_cons hi];cases s.drop (i+1)with
     |nil=>simp[G3,h34]
     |cons e r=>rw[G3,if_neg h34,if_pos hlo]
    simp only[decide_eq_true hlo,d7];exact .inr ⟨hT0,_,_,rfl⟩
   by_cases hhi:s[i]>126
   ·have hT0:G3 (s.drop i) acc=none:=by
     rw[List.drop_eq_getElem_cons hi];cases s.drop (i+1)with
     |nil=>simp[G3,h34]
     |cons e r=>rw[G3,if_neg h34,if_neg hlo,if_pos hhi]
    simp only[decide_eq_false hlo,decide_eq_true hhi,d7,d6];exact .inr ⟨hT0,_,_,rfl⟩
   simp only[decide_eq_false hlo,decide_eq_false hhi,d6];rw[show Zf (acc.length + [s[i]].length) .u8=true from decide_eq_true (by simp[Ty.sz];omega),d7];rcases ih (d-1) (by omega) (i+1) m (acc ++ [s[i]]) (by omega) (by omega) (by simp;omega)with⟨txt,j,h1,h2,h3,h5,h4⟩|h
   ·refine .inl ⟨txt,j,by omega,h2,?_,h5,h4⟩;rw[<-h3,List.drop_eq_getElem_cons hi];cases h:s.drop (i+1)with
    |nil=>rw[h]at h3;cases h3
    |cons e r=>rw[G3,if_neg h34,if_neg hlo,if_neg hhi,if_neg h92]
   ·refine .inr ⟨?_,h.2⟩;have h3:=h.1;rw[List.drop_eq_getElem_cons hi];cases hc:s.drop (i+1)with
    |nil=>simp[G3,h34]
    |cons e r=>rw[G3,if_neg h34,if_neg hlo,if_neg hhi,if_neg h92,<-hc];exact h3
  ·obtain rfl:i=s.length:=by omega
   simp only[a1A,d6];exact .inr ⟨by rw[List.drop_length];rfl,_,_,rfl⟩
theorem f6s{N:Nat}(hN:60000<=N)(s:d9)(hs:s.length<=50000)(w:List A6){i:Nat}(hi:i<s.length):
  (∃(t:A6) (j:Nat),i<j/\j<=s.length/\t.2.2.2=(i:Int)/\a2y (s.drop i)=some (t.1,t.2.1,t.2.2.1,s.drop j)/\a0i N s (i:Int) w=some (t,0,s,(j:Int),w)/\t.2.1.length<=50000)\/
  (a2y (s.drop i)=none/\∃(t:A6) (e:Int) (q:d9×Int×List A6),e≠0/\a0i N s (i:Int) w=some (t,e,q)):=by
 have hT:a2y (s.drop i)=_:=congrArg a2y (List.drop_eq_getElem_cons hi);rw[a2y,<-List.drop_eq_getElem_cons hi]at hT;unfold a0i;simp only[m6 s hi,a8,b4v,a9E];by_cases hsm:(decide (s[i]>=97)&&decide (s[i]<=122))=true
 ·have hsm':=hsm;rw[if_pos hsm]at hT;simp only[Bool.and_eq_true]at hsm;simp only[hsm.1,hsm.2,Bool.and_self,d7,c94 hN s hs w (Nat.le_of_lt hi),a8];have hle:=b8g H6 s (Nat.le_of_lt hi);have hpos:0<((s.drop i).takeWhile H6).length:=by
   rw[List.drop_eq_getElem_cons hi,List.takeWhile_cons,if_pos (by unfold H6;rw[hsm'];rfl)];simp
  by_cases hg:((((s.drop i).takeWhile H6).length:Nat):Int)>40
  ·rw[if_pos (by omega)]at hT;simp only[decide_eq_true hg,d7];exact .inr ⟨hT,_,2,_,by decide,rfl⟩
  ·simp only[decide_eq_false hg,d6];rw[if_neg (by omega)]at hT;exact .inl ⟨(1,(s.drop i).takeWhile H6,0,(i:Int)),i+((s.drop i).takeWhile H6).length,by omega,hle,rfl,by rw[hT,d69],rfl,by simp only;omega⟩
 rw[if_neg hsm]at hT;have hsm':(decide (s[i]>=97)&&decide (s[i]<=122))=false:=by simpa using hsm
 simp only[hsm',d6];by_cases hdg:M4 s[i]=true
 ·rw[if_pos hdg]at hT;simp only[hdg,d7];unfold X0;rw[c95 hN s hs w (Nat.le_of_lt hi)];simp only[a8];have hle:=b8g M4 s (Nat.le_of_lt hi);have hc0:(s.drop i).takeWhile M4=s[i] :: (s.drop (i+1)).takeWhile M4:=by
   rw[List.drop_eq_getElem_cons hi,List.takeWhile_cons,if_pos hdg]
  have hall:∀b∈(s.drop i).takeWhile M4,M4 b=true:=b5m M4 _;rw[d69]at hT;generalize hc:(s.drop i).takeWhile M4=c at *;have hpos:0<c.length:=by rw[hc0];simp
  have g0:m7 c 0=some s[i]:=by rw[hc0];rfl
  simp only[g0,a8];by_cases h9:(c.length:Int)>9
  ·rw[decide_eq_true h9,decide_eq_true (show(c.length:Int)>1 by omega)];rw[if_pos (by omega)]at hT;simp only[d7];by_cases h48:s[i]=48
   ·simp only[h48,show((48:UInt8)==48)=true by decide,d7,a8];exact .inr ⟨hT,_,10,_,by decide,rfl⟩
   ·simp only[O7 h48,d6,a8];exact .inr ⟨hT,_,2,_,by decide,rfl⟩
  ·rw[decide_eq_false h9];rw[if_neg (by omega)]at hT;have hl:=fun k=>c9v (N:=N) (k:=k) c (by omega) hall c.length 0 N 0 (by omega) (by omega) (by simp)
   simp only[List.drop_zero,show((0:Nat):Int)=0 from rfl]at hl;simp only[d6,hl,a8];by_cases h1:(c.length:Int)>1
   ·simp only[decide_eq_true h1,d7];by_cases h48:s[i]=48
    ·simp only[h48,show((48:UInt8)==48)=true by decide,d7,a8];rw[if_pos ⟨h48,by omega⟩]at hT;exact .inr ⟨hT,_,10,_,by decide,rfl⟩
    ·simp only[O7 h48,d6,a8];rw[if_neg (fun h=>h48 h.1)]at hT;exact .inl ⟨(3,[],(b89 0 c:Int),(i:Int)),i+c.length,by omega,hle,rfl,hT,rfl,by simp⟩
   ·simp only[decide_eq_false h1,d6,a8];rw[if_neg (fun h=>h1 (by omega))]at hT;refine .inl ⟨(3,[],(b89 0 c:Int),(i:Int)),i+c.length,by omega,hle,rfl,hT,?_,by simp⟩
    first|rfl|(cases (s[i]==48)<;>simp)
 rw[if_neg hdg]at hT;have hdg':M4 s[i]=false:=by simpa using hdg
 simp only[hdg',d6];by_cases h34:s[i]=34
 ·rw[if_pos h34]at hT;simp only[h34,show((34:UInt8)==34)=true by decide,d7];unfold Z4;rw[Q1 (n:=(i:Int)+1) (m:=i+1) (by omega) (by omega)];rcases f51 (N:=N) s hs w (s.length-(i+1)) (i+1) N [] (by omega) (by omega) (by simp)with⟨txt,j,h1,h2,h3,h5,h4⟩|⟨h3,txt,p,h4⟩
  ·simp only[h4,a8,Bool.not_true,d6];rw[h3]at hT;exact .inl ⟨(2,txt,0,(i:Int)),j,by omega,h2,rfl,hT,rfl,by simp only;omega⟩
  ·simp only[h4,a8,Bool.not_false,d7];rw[h3]at hT;exact .inr ⟨hT,_,10,_,by decide,rfl⟩
 rw[if_neg h34]at hT;simp only[O7 h34,d6];unfold strings_IndexByte;simp only[a8];by_cases hsg:Lib.indexByte [61,43,40,41,91,93,123,125,44,58,59] s[i]>=0
 ·rw[if_pos (by unfold c1h;exact decide_eq_true hsg)]at hT;simp only[decide_eq_true hsg,d7,b3t s (Nat.le_of_lt hi),a8,c7E,Q1 (n:=(i:Int)+1) (m:=i+1) (by omega) (by omega)];have hsl:(s.take (i+1)).drop i=[s[i]]:=by
   rw[List.drop_take,show i+1-i=1 by omega,List.drop_eq_getElem_cons hi];rfl
  rw[a1v s (i:=i) (j:=i+1) (by omega) (by omega),hsl];simp only[a8];by_cases hi1:i+1<s.length
  ·have hh:(s.drop (i+1)).head? = some s[i+1]:=by rw[List.drop_eq_getElem_cons hi1];rfl
   have ht2:(s.drop i).take 2=[s[i],s[i+1]]:=by
    rw[List.drop_eq_getElem_cons hi,List.drop_eq_getElem_cons hi1];rfl
   rw[ht2];simp only[Q1 (n:=(i:Int)+2) (m:=i+2) (by omega) (by omega)];have hs2:(s.take (i+2)).drop i=[s[i],s[i+1]]:=by
    rw[List.drop_take,show i+2-i=2 by omega,List.drop_eq_getElem_cons hi,List.drop_eq_getElem_cons hi1];rfl
   rw[a1v s (i:=i) (j:=i+2) (by omega) (by omega),hs2];simp only[a8];rw[hh]at hT;by_cases h61:s[i]=61
   ·by_cases g61:s[i+1]=61
    ·simp only[h61,g61,show(([61,61]:d9)==[61,61])=true by decide,d7];rw[if_pos ⟨h61,by rw[g61]⟩,List.tail_drop]at hT;exact .inl ⟨(4,[61,61],0,(i:Int)),i+2,by omega,by omega,rfl,hT,rfl,by simp⟩
    ·have:(([61,s[i+1]]:d9)==([61,61]:d9))=false:=by
      rw[beq_eq_false_iff_ne];intro e;exact g61 (by simpa using(List.cons.inj (List.cons.inj e).2).1)
     rw[if_neg (fun h=>g61 (Option.some.inj h.2)),h61]at hT;simp only[this,h61,d6];exact .inl ⟨(4,[61],0,(i:Int)),i+1,by omega,by omega,rfl,hT,rfl,by simp⟩
   ·have:([s[i],s[i+1]]==([61,61]:d9))=false:=by
     rw[beq_eq_false_iff_ne];intro e;exact h61 (List.cons.inj e).1
    rw[if_neg (fun h=>h61 h.1)]at hT;simp only[this,d6];exact .inl ⟨(4,[s[i]],0,(i:Int)),i+1,by omega,by omega,rfl,hT,rfl,by simp⟩
  ·have he:i+1=s.length:=by omega
   have hh:(s.drop (i+1)).head? = none:=by rw[he,List.drop_length];rfl
   have ht2:(s.drop i).take 2=[s[i]]:=by
    rw[List.drop_eq_getElem_cons hi,he,List.drop_length];rfl
   rw[hh,if_neg (fun h=>by cases h.2)]at hT;rw[ht2,show(([s[i]]:d9)==[61,61])=false by rw[beq_eq_false_iff_ne];intro e;simp at e];simp only[d6];exact .inl ⟨((4,[s[i]],0,(i:Int)):A6),i+1,by omega,by omega,rfl,hT,rfl,by simp⟩
 ·rw[if_neg (by unfold c1h;simpa using hsg)]at hT;simp only[decide_eq_false hsg,d6];exact .inr ⟨hT,_,10,_,by decide,rfl⟩
theorem d5t{u t r:d9}{k n:Int}(h:a2y u=some (k,t,n,r)):r.length<u.length:=by
 obtain⟨b,e,hb,_⟩:=b5l h;have:=List.length_pos_iff.2 hb;rw[e,List.length_append];omega
theorem LX.len{L:Nat}{u:d9}{l:List A6}(h:LX L u l):l.length<=u.length:=by
 induction h with
 |nil _=>simp
 |cons h1 h2 h3 _ ih=>
  have:=d5t h2;rw[List.length_cons];rename_i u v r t k n l _;have g:(W6 false u).length<=u.length:=a7G u false;rw[h1]at g;omega
theorem f4g{N:Nat}(s:d9)(hs:s.length<=50000){i j:Nat}(hi:i<=s.length)(hj:j<=s.length)(hN:60000<=N)(h:s.drop j=W6 false (s.drop i))(w:List A6):L1 N s (i:Int) w=some (s,(j:Int),w):=by
 obtain⟨q,q1,q2,q3,q4⟩:=f5z (N:=N) s hs w (s.length-i) i N (by omega) (by omega);have e:q=j:=by
  rw[<-h]at q3;have:=congrArg List.length q3;rw[List.length_drop,List.length_drop]at this;omega
 subst e;exact q4
theorem f52{N:Nat}(hN:60000<=N)(s:d9)(hs:s.length<=50000){u:d9}{l:List A6}(h:LX s.length u l):∀i,u=s.drop i->i<=s.length->(∀t∈l,a42 t)/\∀(m:Nat) (out:List A6),out.length+l.length<=50000->s.length-i<m->
  e6V N s m s (i:Int) out=some (out++l,0,0):=by
 induction h with
 |@nil u h1=>
  refine fun i hu hi=>⟨fun t ht=>by simp at ht,fun m out ho hm=>?_⟩
  obtain⟨m,rfl⟩:∃q,m=q+1:=⟨m-1,by omega⟩;show e4A N s _ _ _ out=_;unfold e4A;rw[f4g s hs hi (Nat.le_refl _) hN (by rw[List.drop_length,<-hu,h1]) out,a8];simp only[beq_self_eq_true,d7,List.append_nil]
 |@cons u v r t k n l h1 h2 h3 h4 ih=>
  have key:∀i,u=s.drop i->i<=s.length->∃j,j<s.length/\s.drop j=v/\s.length-v.length=j/\i<=j:=fun i hu hi=>by
   obtain⟨q,q1,q2,q3,q4⟩:=f5z (N:=N) s hs [] (s.length-i) i N (by omega) (by omega);rw[<-hu,h1]at q3;have hq:q<s.length:=by
    rcases Nat.lt_or_ge q s.length with h|h
    ·exact h
    ·rw[List.drop_eq_nil_of_le h]at q3;rw[<-q3]at h2;cases h2
   refine⟨q,hq,q3,?_,q1⟩;rw[<-q3,List.length_drop];omega
  have tokj:∀j,j<s.length->s.drop j=v->s.length-v.length=j->t.length<=50000/\∃q:Nat,j<q/\q<=s.length/\r=s.drop q/\∀w,a0i N s (j:Int) w=some ((k,t,n,((s.length-v.length:Nat):Int)),0,s,(q:Int),w):=fun j hj hv hp=>by
   have go:∀w,∃q:Nat,j<q/\q<=s.length/\r=s.drop q/\a0i N s (j:Int) w=some ((k,t,n,((s.length-v.length:Nat):Int)),0,s,(q:Int),w)/\t.length<=50000:=fun w=>by
    rcases f6s hN s hs w hj with⟨t',q,g1,g2,g3,g4,g5,g6⟩|⟨g0,_⟩
    ·rw[hv,h2]at g4;simp only[Option.some.injEq,Prod.mk.injEq]at g4;obtain⟨e1,e2,e3,e4⟩:=g4;obtain⟨a,b,c,d⟩:=t';simp only at e1 e2 e3 g3 g6;subst e1 e2 e3 g3;exact⟨q,g1,g2,e4,by rw[g5,hp],g6⟩
    ·rw[hv,h2]at g0;cases g0
   obtain⟨q,q1,q2,q3,_,q5⟩:=go [];refine⟨q5,q,q1,q2,q3,fun w=>?_⟩;obtain⟨q',p1,p2,p3,p4,_⟩:=go w;have:q'=q:=by
    have:=congrArg List.length (p3.symm.trans q3);rw[List.length_drop,List.length_drop]at this;omega
   rw[p4,this]
  intro i hu hi;obtain⟨j,j1,j2,j3,j4⟩:=key i hu hi;obtain⟨ht,q,q1,q2,q3,q4⟩:=tokj j j1 j2 j3;obtain⟨ih1,ih2⟩:=ih q q3 q2;refine⟨fun z hz=>?_,fun m out ho hm=>?_⟩
  ·rcases List.mem_cons.1 hz with rfl|hz
   ·exact⟨by simp only;omega,ht⟩
   ·exact ih1 z hz
  ·obtain⟨m,rfl⟩:∃q,m=q+1:=⟨m-1,by omega⟩;rw[List.length_cons]at ho;show e4A N s (e6V N s m) _ _ out=_;unfold e4A;rw[f4g s hs hi (Nat.le_of_lt j1) hN (by rw[j2,<-hu,h1]) out,a8];have hmem:∀z:A6,Zf (out.length + [z].length) (.pr (.int .i64) (.pr .str (.pr (.int .i64) (.int .i64))))=true:=fun z=>decide_eq_true (by simp[Ty.sz];omega)
   simp only[show((j:Int)==(s.length:Int))=false by rw[beq_eq_false_iff_ne];omega,d6,show((out.length:Int)==50000)=false by rw[beq_eq_false_iff_ne];omega,q4,a8,bne_self_eq_false,C2,hmem,d7];rw[ih2 m _ (by simp;omega) (by omega)];simp
end
section
variable{N:Nat}
theorem c9P:∀t:d9,t.length<=(rpE t).length
 |[]=>by simp
 |c :: t=>by
  have ih:=c9P t;have e:rpE (c :: t)=rpF c++rpE t:=by unfold rpE;rw[List.flatMap_cons]
  have h1:=b0r c;rw[e,List.length_append,List.length_cons];omega
theorem c3A(t:d9):t.length+2<=(rpQ t).length:=by
 have:=c9P t;unfold rpQ;simp only[List.length_append,List.length_cons,List.length_nil];omega
theorem a7p{c d:UInt8}:∀(l:List d9),l.length<=(Lib.join l [c,d]).length+1
 |[]=>by simp
 |[x]=>by simp
 |x :: y :: r=>by
  have ih:=a7p (c:=c) (d:=d) (y :: r);rw[a59,List.length_append,List.length_append,List.length_cons];simp only[List.length_cons,List.length_nil]at *;omega
theorem b3m(b:Bool)(s:d9):s.length<=(a6h b s).length:=by cases b<;>simp[a6h];omega
theorem b7H:∀(k x n:Nat) (e:GExpr),WE k x e->(Q2 e).length<n->n<=50001->EOk n e
 |0,_,_,_,h,_,_=>h.elim
 |k+1,x,0,_,_,h,_=>absurd h (by omega)
 |k+1,x,n+1,e,⟨_,h⟩,hn,hm=>by
  have ih:=fun(x:Nat) (c:GExpr) (hc:WE k x c) (hl:(Q2 c).length<n)=>b7H k x n c hc hl (by omega)
  rcases h with⟨t,h1,rfl⟩|⟨m,h1,rfl⟩|⟨t,h1,rfl⟩|⟨es,rfl,h1⟩|⟨a,b,rfl,h1,h2⟩|⟨ks,es,h1,h2,h3,rfl,h4⟩|⟨a,b,rfl,h1,h2⟩|⟨a,b,rfl,h1,h2⟩
  ·rw[c5y]at hn;have:=c3A t;exact .inl ⟨t,by omega,rfl⟩
  ·exact .inr (.inl ⟨_,rfl⟩)
  ·rw[c5z]at hn;exact .inr (.inr (.inl ⟨t,by omega,h1,rfl⟩))
  ·rw[c5A,List.length_append,List.length_append]at hn;simp only[List.length_cons,List.length_nil]at hn;have hc:=a7p (c:=44) (d:=32) (es.map Q2);rw[List.length_map]at hc;refine .inr (.inr (.inr (.inl ⟨es,by omega,rfl,fun c hc=>ih _ c (h1 c hc) ?_⟩)));have:=a1y (sep:=[44,32]) (List.mem_map_of_mem (f:=Q2) hc);omega
  ·rw[c5B,List.length_append,List.length_append]at hn;simp only[List.length_cons,List.length_nil]at hn;have g1:=a1y (sep:=[44,32]) (List.mem_map_of_mem (f:=Q2) (show a ∈ [a,b] by simp));have g2:=a1y (sep:=[44,32]) (List.mem_map_of_mem (f:=Q2) (show b ∈ [a,b] by simp));exact .inr (.inr (.inr (.inr (.inl ⟨a,b,rfl,ih _ a h1 (by omega),ih _ b h2 (by omega)⟩))))
  ·rw[c5C,a5n]at hn;have hn:(([99,104,111,111,115,101,32,123]:d9)++Lib.join ((ks.zip es).map fun z=>rpQ z.1 ++ [58,32]++Q2 z.2) [44,32]++([125]:d9)).length<n+1:=hn;rw[List.length_append,List.length_append]at hn;simp only[List.length_cons,List.length_nil]at hn;have hc:=a7p (c:=44) (d:=32) ((ks.zip es).map fun z=>rpQ z.1 ++ [58,32]++Q2 z.2);rw[List.length_map,List.length_zip]at hc;have hp:∀i (hi:i<es.length) (hk:i<ks.length),(rpQ ks[i]).length+(Q2 es[i]).length<n:=fun i hi hk=>by
    have h3:i<(ks.zip es).length:=by rw[List.length_zip];omega
    have:=a1y (sep:=[44,32]) (List.mem_map_of_mem (f:=fun z:d9×GExpr=>rpQ z.1 ++ [58,32]++Q2 z.2) (List.getElem_mem h3));rw[List.getElem_zip]at this;simp only[List.length_append,List.length_cons,List.length_nil]at this;omega
   refine .inr (.inr (.inr (.inr (.inr (.inl ⟨ks,es,h1,h2,by omega,fun q hq=>?_,rfl,fun c hc=>?_⟩)))))
   ·obtain⟨i,hi,rfl⟩:=List.getElem_of_mem hq;have:=hp i (by omega) hi;have:=c3A ks[i];omega
   ·obtain⟨i,hi,rfl⟩:=List.getElem_of_mem hc;have:=hp i hi (by omega);exact ih _ _ (h4 _ hc) (by omega)
  ·rw[c5D,List.length_append,List.length_append]at hn;simp only[List.length_cons,List.length_nil]at hn;have g1:=b3m (Z7 7 a.kind 0) (Q2 a);have g2:=b3m (Z7 7 b.kind 1) (Q2 b);exact .inr (.inr (.inr (.inr (.inr (.inr (.inl ⟨a,b,rfl,ih _ a h1 (by omega),ih _ b h2 (by omega)⟩))))))
  ·rw[c5E,List.length_append,List.length_append]at hn;simp only[List.length_cons,List.length_nil]at hn;have g1:=b3m (Z7 8 a.kind 0) (Q2 a);have g2:=b3m (Z7 8 b.kind 1) (Q2 b);exact .inr (.inr (.inr (.inr (.inr (.inr (.inr ⟨a,b,rfl,ih _ a h1 (by omega),ih _ b h2 (by omega)⟩))))))
theorem d4R{k x n:Nat}{e:GExpr}(h:WE k x e)(hn:(Q2 e).length<n)(hm:n<=50001):EOk 60000 e:=(b7H k x n e h hn hm).mono (by omega)
theorem b4M{d:Nat}:∀{l:List GStmt} {s:GStmt},s∈l->(prS s d).length<=(Y6 l d).length
 |[],_,h=>by cases h
 |a :: l,s,h=>by
  rw[a4f,List.length_append];rcases List.mem_cons.1 h with rfl|h
  ·omega
  ·have:=b4M (d:=d) h;omega
theorem d5a{k x d:Nat}{s:GStmt}(h:WS k x s):0<(prS s d).length:=by
 cases k with
 |zero=>exact h.elim
 |succ k=>
  rcases h.2 with⟨q,E,a,m,h1,h2,rfl⟩|⟨q,ag,a,m,h1,h2,rfl⟩|⟨q,ps,b,a,h1,h2,h3,rfl⟩|⟨q,E,b,a,m,h1,h2,h3,rfl⟩|⟨E,b,l,a,m,h1,h2,h3,rfl⟩|⟨t,a,h1,rfl⟩
  ·rw[c01,F6];omega
  ·rw[c02,F6];omega
  ·rw[c03,List.length_append,F6];omega
  ·rw[c04,List.length_append,F6];omega
  ·rw[c05,List.length_append,F6];omega
  ·rw[c06,F6];omega
theorem b4L{k x d:Nat}:∀{l:List GStmt},(∀s∈l,WS k x s)->l.length<=(Y6 l d).length
 |[],_=>by simp
 |s :: l,h=>by
  have h1:=d5a (d:=d) (h s (by simp));have h2:=b4L (d:=d) fun c hc=>h c (List.mem_cons_of_mem s hc)
  rw[a4f,List.length_append,List.length_cons];omega
theorem b9Z(q:Ag):(a82 Q2 q).length=q.1.length+3+(Q2 q.2).length:=by
 unfold a82;rw[List.length_append,List.length_append];rfl
theorem b76:∀(k x d n:Nat) (s:GStmt),WS k x s->(prS s d).length<n->n<=50001->SOk n s
 |0,_,_,_,_,h,_,_=>h.elim
 |k+1,x,d,0,_,_,h,_=>absurd h (by omega)
 |k+1,x,d,n+1,s,⟨_,h⟩,hn,hm=>by
  have ih:=fun(l:List GStmt) (hw:∀c∈l,WS k (x+1) c) (hl:(Y6 l (d+1)).length<n) (c:GStmt) (hc:c∈l)=>b76 k (x+1) (d+1) n c (hw c hc) (Nat.lt_of_le_of_lt (b4M hc) hl) (by omega)
  have cnt:=fun(l:List GStmt) (hw:∀c∈l,WS k (x+1) c)=>b4L (d:=d+1) hw
  rcases h with⟨q,E,a,m,h1,h2,rfl⟩|⟨q,ag,a,m,h1,h2,rfl⟩|⟨q,ps,b,a,h1,h2,h3,rfl⟩|⟨q,E,b,a,m,h1,h2,h3,rfl⟩|⟨E,b,l,a,m,h1,h2,h3,rfl⟩|⟨t,a,h1,rfl⟩
  ·rw[c01,F6]at hn;simp only[List.length_append,List.length_cons,List.length_nil]at hn;exact .inl ⟨q,E,a,h1,d4R h2 (n:=n) (by omega) (by omega),rfl⟩
  ·rw[c02,F6]at hn;simp only[List.length_append,List.length_cons,List.length_nil]at hn;have hc:=a7p (c:=44) (d:=32) (ag.map (a82 Q2));rw[List.length_map]at hc;refine .inr (.inl ⟨q,ag,a,h1,by omega,fun c hc=>⟨(h2 c hc).1,d4R (h2 c hc).2 (n:=n) ?_ (by omega)⟩,rfl⟩);have:=a1y (sep:=[44,32]) (List.mem_map_of_mem (f:=a82 Q2) hc);rw[b9Z]at this;omega
  ·rw[c03,List.length_append,List.length_append,F6]at hn;simp only[List.length_append,List.length_cons,List.length_nil]at hn;have hc:=a7p (c:=44) (d:=32) ps;have hb:=cnt b h3;exact .inr (.inr (.inl ⟨q,ps,b,a,h1,by omega,h2,by omega,ih b h3 (by omega),rfl⟩))
  ·rw[c04,List.length_append,List.length_append,F6]at hn;simp only[List.length_append,List.length_cons,List.length_nil]at hn;have hb:=cnt b h3;exact .inr (.inr (.inr (.inl ⟨q,E,b,a,h1,d4R h2 (n:=n) (by omega) (by omega),by omega,ih b h3 (by omega),rfl⟩)))
  ·rw[c05,List.length_append,List.length_append,List.length_append,F6]at hn;have hl:(Y6 l (d+1)).length<=(if l.isEmpty=true then([]:d9)else lnS d ([125,32,101,108,115,101] ++ [32,123])++Y6 l (d+1)).length:=by
    cases l with
    |nil=>rw[a7y];simp
    |cons c l=>simp only[List.isEmpty_cons,Bool.false_eq_true,if_false,List.length_append];omega
   simp only[List.length_append,List.length_cons,List.length_nil]at hn hl;have hb:=cnt b h2;have hb2:=cnt l h3;exact .inr (.inr (.inr (.inr (.inl ⟨E,b,l,a,d4R h1 (n:=n) (by omega) (by omega),by omega,ih b h2 (by omega),by omega,ih l h3 (by omega),rfl⟩))))
  ·rw[c06,F6]at hn;simp only[List.length_append,List.length_cons,List.length_nil]at hn;have:=c3A t;exact .inr (.inr (.inr (.inr (.inr ⟨t,a,by omega,rfl⟩))))
theorem f4c(s:GStmt):K7 N (erS s)=K7 N s:=by
 unfold K7;simp only[a7g]
theorem f4Z(s:GStmt):R6 N (erS s)=R6 N s:=by
 unfold R6;simp only[a5C]
theorem f4T(s:GStmt)(x:Int):H9 N (erS s) x=H9 N s x:=by
 unfold H9;simp only[GStmt.eta2];simp only[f4c,f4Z,a7g,b4i,c0n,a4o,a5C,b0f,b0e,b3h,a8g]
theorem f2f{r:List GStmt->Option Int}(hr:∀l,r (erL l)=r l)(l:List GStmt)(c:Int)(k:Int->Option Int):∀(n:Nat) (s i:Int),c6W N r (erL l) c k n s i=c6W N r l c k n s i
 |0,_,_=>rfl
 |n+1,s,i=>by
  have ih:=f2f hr l c k n;show b6N _ _ _ _ _ _ _ _=b6N _ _ _ _ _ _ _ _;unfold b6N;simp only[b8W,b8Q,GStmt.eta2];simp only[f4c,hr,ih,a5C,b0f,b0e,b3h]
theorem f3f:∀(d:Nat) (l:List GStmt),C9 N d (erL l)=C9 N d l
 |0,_=>rfl
 |d+1,l=>by
  show a05 _ _ _=a05 _ _ _;unfold a05;rw[f2f (f3f d),a8g]
theorem f2i{r:List GStmt->Int->Option Int}(hr:∀l x,r (erL l) x=r l x)(x:Int)(l:List GStmt)(c:Int)(k:Option Int):∀(n:Nat) (i:Int),f4n N r x (erL l) c k n i=f4n N r x l c k n i
 |0,_=>rfl
 |n+1,i=>by
  have ih:=f2i hr x l c k n;show a47 _ _ _ _ _ _ _ _=a47 _ _ _ _ _ _ _ _;unfold a47;simp only[b8W,b8Q,GStmt.eta2];simp only[f4T,f4c,hr,ih,a5C,b0f,b0e,b3h]
theorem f4i:∀(d:Nat) (l:List GStmt) (x:Int),x8 N d (erL l) x=x8 N d l x
 |0,_,_=>rfl
 |d+1,l,x=>by
  show L5 _ _ _ _=L5 _ _ _ _;unfold L5;rw[f2i (f4i d),a8g]
theorem f3e(l:List GStmt):B3 N (erL l)=B3 N l:=by
 unfold B3;simp only[f3f,f4i]
theorem f4S(hN:I1<=N){s:d9}{x:List A6}{G:List GStmt}{T:Mk}(t1:a0K N s=some (x,0,0))(V:Wc N x (s.length:Int))
  (eP:a1t N 0 0 (s.length:Int) false 0 x=some ((x.length:Int),(s.length:Int),false,0,x,G,T)) (hT:∀m∈T,m.2<30) (hc:B3 N G=some 0):
  G.length<=50000/\(∀g∈G,SOk 50001 g)/\U5 N s=some (G,0,0):=by
 have hx:=V.wl;have hb:1000000<N:=by unfold I1 at hN;omega
 have lp:=b7Z V (p:=0)
  (K:=fun o0_0_0 o0_0_1 o0_0_2 o0_w950001=>some (.ok (o0_w950001,(0:Int),true,o0_0_0,o0_0_1,o0_0_2,(0:Int),true,o0_w950001)))
  (k0:=fun o0_0_1 o0_0_2 o0_0_3 o0_0_4 o0_w1 o0_w1005 o0_w950001=>some (o0_0_1,o0_0_2,o0_0_3,o0_0_4,o0_w1,o0_w1005,o0_w950001))
  x.length 0 N N [] [] (by omega) (by omega) (by omega) (by simp) (by simp) Pos.nil (by simp)
 have eY:M6 N x (s.length:Int) (-1) 0 false=f6f N (fun o0_0_0 o0_0_1 o0_0_2 o0_w950001=>some (.ok (o0_w950001,(0:Int),true,o0_0_0,o0_0_1,o0_0_2,(0:Int),true,o0_w950001))) N (x.drop 0) (s.length:Int) (dp (-1) []) []:=rfl;have eP2:a1t N 0 0 (s.length:Int) false 0 x=C0 N 0 (fun o0_0_1 o0_0_2 o0_0_3 o0_0_4 o0_w1 o0_w1005 o0_w950001=>some (o0_0_1,o0_0_2,o0_0_3,o0_0_4,o0_w1,o0_w1005,o0_w950001)) N ((0:Nat):Int) (s.length:Int) false 0 x [] []:=rfl;rcases lp with⟨Hs,T',h1,h2,h3,h4,u1,u2⟩|⟨c,u1,u2⟩
 ·rw[<-eY]at u1;rw[<-eP2,eP]at u2;simp only[Option.some.injEq,Prod.mk.injEq]at u2;obtain⟨_,_,_,_,_,rfl,rfl⟩:=u2;have aOk:F8 N x (s.length:Int) (-1)=some (G,0,true,dp (-1) T):=by
   unfold F8;rw[u1]
  refine⟨h1,h4,?_⟩;have e1:a1l N s=some (G,0,0):=by
   unfold a1l;rw[t1,a8];simp only[bne_self_eq_false,d6,aOk,a8,Bool.not_true];rw[c0g T hT,decide_eq_false (by decide),d6,hc,a8,bne_self_eq_false,d6]
  unfold U5;rw[e1]
 ·exfalso;rw[<-eP2,eP]at u2;rcases u2 with⟨b,ys,L,u2⟩|⟨j,ys,L,hj,_,u2⟩
  ·simp at u2
  ·simp only[Option.some.injEq,Prod.mk.injEq]at u2;omega
theorem f6B(hN:I1<=N){k:Nat}{l:List GStmt}(hw:∀s∈l,WS k 0 s){S:d9}(hS:LK S (J7 l))(hl:S.length<=50000)(hc:B3 N l=some 0):
  ∃m:List GStmt,m.length<=50000/\(∀s∈m,SOk 50001 s)/\erL m=erL l/\U5 N S=some (m,0,0)/\B3 N m=some 0/\∃toks,LX S.length S toks/\∀s l',l=s :: l'->∃g G',m=g :: G'/\g.at_=atS toks 0 (S.length:Int):=by
 have hb:1000000<N:=by unfold I1 at hN;omega
 obtain⟨toks,t1,t2⟩:=hS.lx S.length (Nat.le_refl _);have hx:toks.length<=50000:=Nat.le_trans t1.len hl;obtain⟨hok,f1⟩:=f52 (N:=N) (by omega) S hl t1 0 rfl (Nat.zero_le _);have f2:a0K N S=some (toks,0,0):=by
  unfold a0K;rw[decide_eq_false (show ¬(S.length:Int)>50000 by omega),d6];exact f1 N [] (by simpa using hx) (by omega)
 have V:Wc N toks (S.length:Int):=⟨hN,hx,hok,by omega⟩;have hlen:toks.length=(J7 l).length:=by rw[<-t2,List.length_map]
 have hcnt:=c1w hw;obtain⟨T,G,g1,g2,g3,g4⟩:=c52 V (k:=k) (x:=0) (p:=0) (K:=fun o0_0_1 o0_0_2 o0_0_3 o0_0_4 o0_w1 o0_w1005 o0_w950001=>some (o0_0_1,o0_0_2,o0_0_3,o0_0_4,o0_w1,o0_w1005,o0_w950001))
  l N 0 [] [] hw (by omega) (by simp) (by simp) ⟨[],by simp[t2]⟩ (by omega)
 rw[Nat.zero_add,<-hlen]at g4;have c3:B3 N G=some 0:=by rw[<-f3e,g3.1,f3e,hc]
 obtain⟨h1,h2,h3⟩:=f4S hN f2 V g4 (fun m hm=>by have:=(g1 m hm).2.2;omega) c3;exact⟨G,h1,h2,g3.1,h3,c3,toks,t1,g3.2⟩
theorem again(hN:I1<=N){l:List GStmt}(hw:∀s∈l,WS zz 0 s)(hl:(Y6 l 0).length<=50000)(hc:B3 N l=some 0):
  l.length<=50000/\(∀s∈l,SOk 50001 s)/\∃m:List GStmt,m.length<=50000/\(∀s∈m,SOk 50001 s)/\erL m=erL l/\U5 N (Y6 l 0)=some (m,0,0)/\B3 N m=some 0:=
 ⟨Nat.le_trans (b4L (d:=0) hw) hl,fun s h=>b76 zz 0 0 50001 s (hw s h) (Nat.lt_succ_of_le (Nat.le_trans (b4M h) hl)) (Nat.le_refl _),let ⟨m,h1,h2,h3,h4,h5,_⟩:=f6B hN hw (d42 hw) hl hc;⟨m,h1,h2,h3,h4,h5⟩⟩
end
section
variable{N:Nat}
theorem a5p(k:Int)(t:d9)(n:Int)(l:List d9)(cs:List GExpr):GExpr.bulk (.mk k t n l cs)=t.length+(l.map fun q:d9=>q.length+1).sum+(cs.map GExpr.bulk).sum+6:=by
 rw[GExpr.bulk,a1Q (fun c:GExpr=>GExpr.bulk c) cs];show 1+(t.length+1+(1+((l.map fun q:d9=>q.length+1).sum+1+((cs.map GExpr.bulk).sum+1))))+1=_;omega
theorem a7a(k:Int)(n t:d9)(l:List d9)(a:List Ag)(e:GExpr)(b f:List GStmt)(p:Int):GStmt.bulk (.mk k n t l a e b f p)=n.length+t.length+(l.map fun q:d9=>q.length+1).sum+(a.map fun c:Ag=>c.1.length+1+c.2.bulk).sum+e.bulk+(b.map GStmt.bulk).sum+(f.map GStmt.bulk).sum+9:=by
 rw[GStmt.bulk,a1Q (fun c:GStmt=>GStmt.bulk c) b,a1Q (fun c:GStmt=>GStmt.bulk c) f];show 1+(n.length+1+(t.length+1+((l.map fun q:d9=>q.length+1).sum+1+((a.map fun c:Ag=>c.1.length+1+c.2.bulk).sum+1+(e.bulk+((b.map GStmt.bulk).sum+1+((f.map GStmt.bulk).sum+1+1)))))))+1=_;omega
theorem a5f{α:Type}(f:α->Nat):∀{l:List α} {x:α},x∈l->f x<=(l.map f).sum
 |[],_,h=>by cases h
 |a :: l,x,h=>by
  rw[List.map_cons,List.sum_cons];rcases List.mem_cons.1 h with rfl|h
  ·omega
  ·have:=a5f f h;omega
theorem a6b{α:Type}(f:α->Nat)(q:Nat):∀(l:List α),(∀x∈l,q<=f x)->q*l.length<=(l.map f).sum
 |[],_=>by simp
 |a :: l,h=>by
  have:=h a (by simp);have:=a6b f q l fun x hx=>h x (List.mem_cons_of_mem _ hx)
  rw[List.map_cons,List.sum_cons,List.length_cons,Nat.mul_add];omega
theorem c5n(e:GExpr):6<=e.bulk:=by obtain⟨k,t,n,l,cs⟩:=e;rw[a5p];omega
theorem c5L(s:GStmt):15<=s.bulk:=by obtain⟨k,n,t,l,a,e,b,f,p⟩:=s;have:=c5n e;rw[a7a];omega
theorem c61:∀(k:Nat) (e:GExpr),e.bulk<=1048576->e.bulk<=k->ZE k e
 |0,e,_,h=>by have:=c5n e;omega
 |k+1,.mk kd t n l cs,h1,h2=>by
  rw[a5p]at h1 h2;have g1:=a6b (fun q:d9=>q.length+1) 1 l fun _ _=>by omega
  have g2:=a6b GExpr.bulk 6 cs fun c _=>by have:=c5n c;omega
  refine⟨by unfold zz;simp only[Z3];omega,by unfold zz;simp only[Y1];omega,fun q hq=>?_,by simp only[E9];omega,fun c hc=>?_⟩
  ·have:=a5f (l:=l) (fun q:d9=>q.length+1) hq;unfold zz;omega
  ·have:=a5f (l:=cs) GExpr.bulk hc;exact c61 k c (by omega) (by omega)
theorem d7z{e:GExpr}(h:e.bulk<=1048576):ZE zz e:=c61 zz e h (by unfold zz;omega)
theorem b9R:∀(k:Nat) (s:GStmt),s.bulk<=1048576->s.bulk<=k->ZS k s
 |0,s,_,h=>by have:=c5L s;omega
 |k+1,.mk kd n t l a e b f p,h1,h2=>by
  rw[a7a]at h1 h2;have g1:=a6b (fun q:d9=>q.length+1) 1 l fun _ _=>by omega
  have g2:=a6b (fun c:Ag=>c.1.length+1+c.2.bulk) 7 a fun c _=>by have:=c5n c.2;omega
  have g3:=a6b GStmt.bulk 15 b fun c _=>by have:=c5L c;omega
  have g4:=a6b GStmt.bulk 15 f fun c _=>by have:=c5L c;omega
  refine⟨by unfold zz;simp only[a0p];omega,by unfold zz;simp only[a0q];omega,by unfold zz;simp only[O9];omega,fun q hq=>?_,by simp only[a0m];omega,fun q hq=>?_,d7z (by simp only[a0o];omega),by simp only[a0n];omega,fun c hc=>?_,by simp only[a1R];omega,fun c hc=>?_⟩
  ·have:=a5f (l:=l) (fun q:d9=>q.length+1) hq;unfold zz;omega
  ·have:=a5f (l:=a) (fun c:Ag=>c.1.length+1+c.2.bulk) hq;exact⟨by unfold zz;omega,d7z (by omega)⟩
  ·have:=a5f (l:=b) GStmt.bulk hc;exact b9R k c (by omega) (by omega)
  ·have:=a5f (l:=f) GStmt.bulk hc;exact b9R k c (by omega) (by omega)
theorem c9Q:∀t:d9,(rpE t).length<=2*t.length
 |[]=>by simp[rpE]
 |c :: t=>by
  have ih:=c9Q t;have e:rpE (c :: t)=rpF c++rpE t:=by unfold rpE;rw[List.flatMap_cons]
  have h1:=b0r c;have h2:(if a88 c=true then 1 else 0)<=1:=by split<;>omega
  rw[e,List.length_append,List.length_cons];omega
theorem c3B(t:d9):(rpQ t).length<=2*t.length+2:=by
 have:=c9Q t;unfold rpQ;simp only[List.length_append,List.length_cons,List.length_nil];omega
theorem a8l{α:Type}(f:α->d9)(g:α->Nat)(c d:UInt8):∀(l:List α),(∀x∈l,(f x).length+2<=g x)->(Lib.join (l.map f) [c,d]).length<=(l.map g).sum
 |[],_=>by simp[Lib.join]
 |[x],h=>by
  have:=h x (by simp);rw[List.map_cons,List.map_nil,Lib.join_one,List.map_cons,List.map_nil,List.sum_cons,List.sum_nil];omega
 |x :: y :: r,h=>by
  have h1:=h x (by simp);have ih:=a8l f g c d (y :: r) fun z hz=>h z (List.mem_cons_of_mem _ hz)
  simp only[List.map_cons,List.sum_cons]at ih ⊢;rw[a59,List.length_append,List.length_append];simp only[List.length_cons,List.length_nil];omega
theorem a6r{α:Type}(g:α->Nat)(q:Nat):∀(l:List α),(l.map fun x=>q*g x).sum=q*(l.map g).sum
 |[]=>by simp
 |x :: l=>by rw[List.map_cons,List.map_cons,List.sum_cons,List.sum_cons,a6r g q l,Nat.mul_add]
theorem c5Q{α β:Type}(f:α->Nat)(g:β->Nat):∀(l:List α) (m:List β),((l.zip m).map fun z=>f z.1+g z.2).sum<=(l.map f).sum+(m.map g).sum
 |[],_=>by simp
 |_ :: _,[]=>by simp
 |x :: l,y :: m=>by
  have:=c5Q f g l m;rw[List.zip_cons_cons,List.map_cons,List.map_cons,List.map_cons,List.sum_cons,List.sum_cons,List.sum_cons];simp only;omega
theorem b3n(b:Bool)(s:d9):(a6h b s).length<=s.length+2:=by cases b<;>simp[a6h]
theorem a7w:∀(k x:Nat) (e:GExpr),WE k x e->(Q2 e).length+10<=32*e.bulk
 |0,_,_,h=>h.elim
 |k+1,x,e,⟨_,h⟩=>by
  have ih:=fun x c hc=>a7w k x c hc
  rcases h with⟨t,h1,rfl⟩|⟨m,h1,rfl⟩|⟨t,h1,rfl⟩|⟨es,rfl,h1⟩|⟨a,b,rfl,h1,h2⟩|⟨ks,es,h1,h2,h3,rfl,h4⟩|⟨a,b,rfl,h1,h2⟩|⟨a,b,rfl,h1,h2⟩
  ·have:=c3B t;rw[c5y,a5p];omega
  ·have e:Lib.itoa (m:Int)=Lib.decDigits m:=by unfold Lib.itoa;rw[if_neg (by omega)];simp
   have:=b8T 8 m (by omega);rw[c9D,a5p,e];omega
  ·rw[c5z,a5p];omega
  ·have hj:=a8l Q2 (fun c=>32*c.bulk) 44 32 es fun c hc=>by have:=ih _ c (h1 c hc);omega
   rw[a6r]at hj;rw[c5A,a5p,List.length_append,List.length_append];simp only[List.length_cons,List.length_nil];omega
  ·have hj:=a8l Q2 (fun c=>32*c.bulk) 44 32 [a,b] fun c hc=>by
    simp only[List.mem_cons,List.mem_nil_iff,or_false]at hc;rcases hc with rfl|rfl
    ·have:=ih _ _ h1;omega
    ·have:=ih _ _ h2;omega
   rw[a6r]at hj;rw[c5B,a5p,List.length_append,List.length_append];simp only[List.length_cons,List.length_nil];omega
  ·have hj:=a8l (fun z:d9×GExpr=>rpQ z.1 ++ [58,32]++Q2 z.2) (fun z=>32*(z.1.length+1)+32*z.2.bulk) 44 32 (ks.zip es) fun z hz=>by
    have g1:=ih _ _ (h4 _ (List.of_mem_zip hz).2);have g2:=c3B z.1;simp only[List.length_append,List.length_cons,List.length_nil];omega
   have hs:=c5Q (fun q:d9=>32*(q.length+1)) (fun c:GExpr=>32*c.bulk) ks es;rw[a6r (fun q:d9=>q.length+1),a6r GExpr.bulk]at hs;rw[c5C,a5p,a5n,List.length_append,List.length_append];have hj:(Lib.join ((ks.zip es).map fun z=>rpQ z.1 ++ [58,32]++Q2 z.2) [44,32]).length<=_:=hj;simp only[List.length_cons,List.length_nil];show 8+(Lib.join ((ks.zip es).map fun z=>rpQ z.1 ++ [58,32]++Q2 z.2) [44,32]).length+1+10<=_;omega
  ·have g1:=ih _ _ h1;have g2:=ih _ _ h2;have q1:=b3n (Z7 7 a.kind 0) (Q2 a);have q2:=b3n (Z7 7 b.kind 1) (Q2 b);rw[c5D,a5p,List.length_append,List.length_append];simp only[List.length_cons,List.length_nil,List.map_cons,List.map_nil,List.sum_cons,List.sum_nil];omega
  ·have g1:=ih _ _ h1;have g2:=ih _ _ h2;have q1:=b3n (Z7 8 a.kind 0) (Q2 a);have q2:=b3n (Z7 8 b.kind 1) (Q2 b);rw[c5E,a5p,List.length_append,List.length_append];simp only[List.length_cons,List.length_nil,List.map_cons,List.map_nil,List.sum_cons,List.sum_nil];omega
theorem b2f{k x d:Nat}(ih:∀c,WS k x c->(prS c d).length<=32*c.bulk):∀l:List GStmt,(∀c∈l,WS k x c)->(Y6 l d).length<=32*(l.map GStmt.bulk).sum
 |[],_=>by rw[a7y];simp
 |s :: l,h=>by
  have h1:=ih s (h s (by simp));have h2:=b2f ih l fun c hc=>h c (List.mem_cons_of_mem _ hc)
  rw[a4f,List.length_append,List.map_cons,List.sum_cons];omega
theorem c07:∀(k x d:Nat) (s:GStmt),d<=x->WS k x s->(prS s d).length<=32*s.bulk
 |0,_,_,_,_,h=>h.elim
 |k+1,x,d,s,hd,⟨hx,h⟩=>by
  have ihs:=fun(l:List GStmt) (hl:∀c∈l,WS k (x+1) c)=>b2f (d:=d+1) (fun c hc=>c07 k (x+1) (d+1) c (by omega) hc) l hl
  rcases h with⟨q,E,a,m,h1,h2,rfl⟩|⟨q,ag,a,m,h1,h2,rfl⟩|⟨q,ps,b,a,h1,h2,h3,rfl⟩|⟨q,E,b,a,m,h1,h2,h3,rfl⟩|⟨E,b,l,a,m,h1,h2,h3,rfl⟩|⟨t,a,h1,rfl⟩
  ·have hE:=a7w _ _ _ h2;rw[c01,F6,a7a];simp only[List.length_append,List.length_cons,List.length_nil];omega
  ·have hj:=a8l (a82 Q2) (fun c:Ag=>32*(c.1.length+1+c.2.bulk)) 44 32 ag fun c hc=>by
    have:=a7w _ _ _ (h2 c hc).2;rw[b9Z];omega
   rw[a6r]at hj;rw[c02,F6,a7a];simp only[List.length_append,List.length_cons,List.length_nil];omega
  ·have hj:=a8l (fun p:d9=>p) (fun p=>32*(p.length+1)) 44 32 ps fun c hc=>by omega
   rw[a6r (fun p:d9=>p.length+1),List.map_id']at hj;have hb:=ihs b h3;rw[c03,List.length_append,List.length_append,F6,F6,a7a];simp only[List.length_append,List.length_cons,List.length_nil];omega
  ·have hE:=a7w _ _ _ h2;have hb:=ihs b h3;rw[c04,List.length_append,List.length_append,F6,F6,a7a];simp only[List.length_append,List.length_cons,List.length_nil];omega
  ·have hE:=a7w _ _ _ h1;have hb:=ihs b h2;have hb2:=ihs l h3;have hl:(if l.isEmpty=true then([]:d9)else lnS d ([125,32,101,108,115,101] ++ [32,123])++Y6 l (d+1)).length<=(Y6 l (d+1)).length+2*d+9:=by
    cases l with
    |nil=>simp
    |cons c l=>
     simp only[List.isEmpty_cons,Bool.false_eq_true,if_false];rw[List.length_append,F6];simp only[List.length_append,List.length_cons,List.length_nil];omega
   rw[c05,List.length_append,List.length_append,List.length_append,F6,F6,a7a];simp only[List.length_append,List.length_cons,List.length_nil]at hl ⊢;omega
  ·have:=c3B t;rw[c06,F6,a7a];simp only[List.length_append,List.length_cons,List.length_nil];omega
theorem c7F{l:List GStmt}(h:∀c∈l,WS zz 0 c):(Y6 l 0).length<=32*(l.map GStmt.bulk).sum:=b2f (fun c hc=>c07 zz 0 0 c (Nat.le_refl _) hc) l h
end
end Go.Proofs.YtolpmfhiegpohaaGreatDoor
