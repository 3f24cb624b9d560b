/- % -/
import Derived.Test.YtolpmfhiegpohaaGreatDoorQLPrG
import Derived.Test.YtolpmfhiegpohaaGreatDoorQFor2
import Derived.Test.YtolpmfhiegpohaaGreatDoorQLPrA
namespace Go.Proofs.YtolpmfhiegpohaaGreatDoor
set_option linter.unusedVariables false
set_option linter.unusedSimpArgs false
open Go Go.RowKit
section
variable{N:Nat}
theorem a4M{n m:Nat}(h:n+m<=2000000000000:=by first|omega|(simp only[List.length_append,List.length_cons,List.length_nil];omega)):decide (n+m<=9223372036854775807)=true:=decide_eq_true (by omega)
theorem brN{R:Type}{k j:Int}{x y:Option R}(h:(k==j)=false:=by rfl):br (k==j) x y=y:=by rw[h,d9]
theorem brY{R:Type}{k j:Int}{x y:Option R}(h:(k==j)=true:=by rfl):br (k==j) x y=x:=by rw[h,d8]
theorem a5H{l:List d7}{sep:d7}(h1:(Lib.join l sep).length<=1000000000000)(h2:l.length<=1000000000):strings_Join l sep=some (Lib.join l sep):=by
 unfold strings_Join;rw[if_pos ⟨by omega,by omega⟩]
theorem a68{t:d7}(h:t.length<=zz):J1 t=some (rpQ t):=by
 unfold J1;rw[if_pos (by unfold zz at h;omega)]
theorem a0b{sep:d7}:∀{l:List d7} {s:d7},s∈l->s.length<=(Lib.join l sep).length
 |[],_,h=>by cases h
 |[x],s,h=>by rw[List.mem_singleton.1 h,Lib.join_one];exact Nat.le_refl _
 |x :: y :: r,s,h=>by
  rw[a19,List.length_append,List.length_append];rcases List.mem_cons.1 h with rfl|h
  ·omega
  ·have:=a0b (sep:=sep) h;omega
section
variable{r:GExpr->Option d7}
theorem b1s(hN:J0<=N){es:List GExpr}(hl:es.length<=1000000)(hr:∀c∈es,r c=some (L0 c)){K:List d7->Option d7}:∀(u f j:Nat) (w:List d7),j+u=es.length->u<f->w.length=j->
  b2z N r es (es.length:Int) K f (j:Int) w=K (w++(es.drop j).map L0)
 |0,f,j,w,hj,hf,hw=>by
  obtain⟨f,rfl⟩:∃q,f=q+1:=⟨f-1,by omega⟩;obtain rfl:j=es.length:=by omega
  show a34 _ _ _ _ _ _ _ _=_;unfold a34;rw[a1r,d9,List.drop_length,List.map_nil,List.append_nil]
 |u+1,f,j,w,hj,hf,hw=>by
  obtain⟨f,rfl⟩:∃q,f=q+1:=⟨f-1,by omega⟩;have h:j<es.length:=by omega
  have ih:=b1s hN hl hr (K:=K) u f (j+1) (w ++ [L0 es[j]]) (by omega) (by omega) (by simp;omega);show a34 _ _ _ _ _ _ _ _=_;unfold a34;rw[a0D h,d8,p6 _ h,d2,GExpr.eta,hr _ (List.getElem_mem h),d2,c2i (by omega),d8,a4q (n:=(j:Int)+1) (m:=j+1) (by omega) (by omega),ih,List.drop_eq_getElem_cons h,List.map_cons,List.append_assoc];rfl
theorem b7v(hN:J0<=N){es:List GExpr}(hl:es.length<=1000000)(hr:∀c∈es,r c=some (L0 c))(hb:(Lib.join (es.map L0) [44,32]).length<=1000000000000):Z5 N r es=some (Lib.join (es.map L0) [44,32]):=by
 unfold Z5;have:=b1s hN hl hr (K:=fun o0_w1003=>j8 (strings_Join o0_w1003 ([44,32]:d7)) fun t19=>some t19) es.length N 0 [] (by omega) (by unfold J0 at hN;omega) rfl;rw[show((0:Nat):Int)=0 from rfl]at this;rw[this,List.drop_zero,List.nil_append,a5H hb (by simp;omega),d2]
theorem b0H{k n:Int}{t:d7}{ks:List d7}{es:List GExpr}{j:Nat}(h:j<es.length)(hr:r es[j]=some (L0 es[j]))(hb:(L0 es[j]).length<=1000000000000):I0 N r (j:Int) (GExpr.mk k t n ks es)=some (a3M (T9 k es[j].kind (j:Int)) (L0 es[j])):=by
 unfold I0;rw[(c6d h).1,d2];simp only[E5];simp only[p6 _ h,d2,hr];cases T9 k es[j].kind (j:Int)with
 |false=>rw[d9];rfl
 |true=>
  rw[d8,a4M,d8,a4M,d8];rfl
theorem b1l(hN:J0<=N){c1:GExpr}{ks:List d7}{es:List GExpr}(hc:c1.kids=es)(hk:ks.length=es.length)(hl:es.length<=1000000)(hq:∀q∈ks,q.length<=zz)(hr:∀c∈es,r c=some (L0 c)){K:List d7->Option d7}(hp:∀z∈ks.zip es,(rpQ z.1 ++ [58,32]++L0 z.2).length<=1000000000000):∀(u f j:Nat) (w:List d7),j+u=ks.length->u<f->w.length=j->
  b9f N r c1 ks (ks.length:Int) K f (j:Int) w=K (w++((ks.zip es).drop j).map fun z=>rpQ z.1 ++ [58,32]++L0 z.2)
 |0,f,j,w,hj,hf,hw=>by
  obtain⟨f,rfl⟩:∃q,f=q+1:=⟨f-1,by omega⟩;obtain rfl:j=ks.length:=by omega
  show a7r _ _ _ _ _ _ _ _ _=_;unfold a7r;rw[a1r,d9,List.drop_eq_nil_of_le (by rw[List.length_zip];omega),List.map_nil,List.append_nil]
 |u+1,f,j,w,hj,hf,hw=>by
  obtain⟨f,rfl⟩:∃q,f=q+1:=⟨f-1,by omega⟩;have h:j<ks.length:=by omega
  have h2:j<es.length:=by omega
  have h3:j<(ks.zip es).length:=by rw[List.length_zip];omega
  have hpj:=hp _ (List.getElem_mem h3);rw[List.getElem_zip]at hpj;simp only at hpj;have ih:=b1l hN hc hk hl hq hr (K:=K) hp u f (j+1) (w ++ [rpQ ks[j] ++ [58,32]++L0 es[j]]) (by omega) (by omega) (by simp;omega);show a7r _ _ _ _ _ _ _ _ _=_;unfold a7r;have hlen:(rpQ ks[j]).length+2+(L0 es[j]).length<=1000000000000:=by
   simp only[List.length_append,List.length_cons,List.length_nil]at hpj;omega
  rw[a0D h,d8,p6 _ h,d2,hc,p6 _ h2,d2,a68 (hq _ (List.getElem_mem h)),d2,a4M,d8,hr _ (List.getElem_mem h2),d2,a4M,d8,c2i (by omega),d8,a4q (n:=(j:Int)+1) (m:=j+1) (by omega) (by omega),ih,List.drop_eq_getElem_cons h3,List.map_cons,List.append_assoc,List.getElem_zip];rfl
end
theorem a6W(hN:J0<=N):∀(k x j n:Nat) (e:GExpr),WE k x e->ZE j e->j<=n->(L0 e).length<=1000000000000->v6 N n e=some (L0 e)
 |0,_,_,_,_,h,_,_,_=>h.elim
 |k+1,x,0,_,_,_,h,_,_=>h.elim
 |k+1,x,j+1,0,_,_,_,h,_=>absurd h (by omega)
 |k+1,x,j+1,n+1,e,⟨_,h⟩,⟨z1,z2,z3,z4,z5⟩,hn,hb=>by
  have ih:=fun(x:Nat) (c:GExpr) (hc:WE k x c) (hz:ZE j c) (hl:(L0 c).length<=1000000000000)=>a6W hN k x j n c hc hz (by omega) hl
  show H1 N (v6 N n) e=_;rcases h with⟨t,h1,rfl⟩|⟨m,h1,rfl⟩|⟨t,h1,rfl⟩|⟨es,rfl,h1⟩|⟨a,b,rfl,h1,h2⟩|⟨ks,es,h1,h2,h3,rfl,h4⟩|⟨a,b,rfl,h1,h2⟩|⟨a,b,rfl,h1,h2⟩
  ·unfold H1;simp only[F5,a0l]at *;rw[brY,a68 z1,d2,b7Y]
  ·unfold H1;simp only[F5,W4]at *;rw[brN,brY,c6A];unfold strconv_Itoa;rw[if_pos ⟨by omega,by omega⟩,d2]
  ·unfold H1;simp only[F5,a0l]at *;rw[brN,brN,brY,c2p]
  ·rw[c2q]at hb ⊢;simp only[E5]at *;simp only[List.length_append,List.length_cons,List.length_nil]at hb;have hj:(Lib.join (es.map L0) [44,32]).length<=1000000000000:=by omega
   have hE:=b7v hN (r:=v6 N n) z4 (fun c hc=>ih _ c (h1 c hc) (z5 c hc) (by have:=a0b (sep:=[44,32]) (List.mem_map_of_mem (f:=L0) hc);omega)) hj;unfold H1;simp only[F5,E5];rw[brN,brN,brN,brY,hE,d2,a4M,d8,a4M,d8]
  ·rw[c2r]at hb ⊢;simp only[E5]at *;simp only[List.length_append,List.length_cons,List.length_nil]at hb;have hj:(Lib.join ([a,b].map L0) [44,32]).length<=1000000000000:=by omega
   have hE:=b7v hN (r:=v6 N n) z4 (fun c hc=>ih _ c (by
    simp only[List.mem_cons,List.mem_nil_iff,or_false]at hc;rcases hc with rfl|rfl
    ·exact h1
    ·exact h2) (z5 c hc) (by have:=a0b (sep:=[44,32]) (List.mem_map_of_mem (f:=L0) hc);omega)) hj
   unfold H1;simp only[F5,E5];rw[brN,brN,brN,brN,brY,hE,d2,a4M,d8,a4M,d8]
  ·rw[c2s,a2S]at hb ⊢;simp only[E5,Z3]at *;have hb:(([99,104,111,111,115,101,32,123]:d7)++Lib.join ((ks.zip es).map fun z=>rpQ z.1 ++ [58,32]++L0 z.2) [44,32]++([125]:d7)).length<=1000000000000:=hb;rw[List.length_append,List.length_append]at hb;simp only[List.length_cons,List.length_nil]at hb;have hj:(Lib.join ((ks.zip es).map fun z=>rpQ z.1 ++ [58,32]++L0 z.2) [44,32]).length<=1000000000000:=by omega
   have hp:∀z∈ks.zip es,(rpQ z.1 ++ [58,32]++L0 z.2).length<=1000000000000:=fun z hz=>by
    have:=a0b (sep:=[44,32]) (List.mem_map_of_mem (f:=fun z:d7×GExpr=>rpQ z.1 ++ [58,32]++L0 z.2) hz);omega
   have hr:∀c∈es,v6 N n c=some (L0 c):=fun c hc=>ih _ c (h4 c hc) (z5 c hc) (by
    obtain⟨i,hi,rfl⟩:=List.getElem_of_mem hc;have h3:i<(ks.zip es).length:=by rw[List.length_zip];omega
    have:=hp _ (List.getElem_mem h3);rw[List.getElem_zip]at this;simp only[List.length_append,List.length_cons,List.length_nil]at this;omega)
   have hL:=b1l hN (r:=v6 N n) (c1:=GExpr.mk 6 [] 0 ks es) (es:=es) rfl h1 z4 z3 hr (K:=fun o0_w1004=>
          j8 (strings_Join o0_w1004 ([44,32]:d7)) fun t77=>
          br (decide (([99,104,111,111,115,101,32,123]:d7).length+t77.length<=9223372036854775807))
           (br (decide ((([99,104,111,111,115,101,32,123]:d7)++t77).length+([125]:d7).length<=9223372036854775807))
            (some ((([99,104,111,111,115,101,32,123]:d7)++t77)++([125]:d7)))
            none)
           none) hp ks.length N 0 [] (by omega) (by unfold J0 at hN;omega) rfl
   rw[show((0:Nat):Int)=0 from rfl]at hL;unfold H1;simp only[GExpr.eta,F5,E5,Z3,a0l,W4];rw[brN,brN,brN,brN,brN,brN,brN,hL,List.drop_zero,List.nil_append,a5H hj (by rw[List.length_map,List.length_zip];omega),d2,a4M,d8,a4M,d8]
  ·rw[c2t]at hb ⊢;simp only[E5]at *;simp only[List.length_append,List.length_cons,List.length_nil]at hb;have hpar:∀b s,(s:d7).length<=(a3M b s).length:=fun b s=>by cases b<;>simp[a3M];omega
   have pa:=hpar (T9 7 a.kind 0) (L0 a);have pc:=hpar (T9 7 b.kind 1) (L0 b);have qa:=b0H (N:=N) (r:=v6 N n) (k:=7) (n:=0) (t:=[]) (ks:=[]) (es:=[a,b]) (j:=0) (by simp) (ih _ a h1 (z5 a (by simp)) (by omega)) (by show(L0 a).length<=_;omega);have qb:=b0H (N:=N) (r:=v6 N n) (k:=7) (n:=0) (t:=[]) (ks:=[]) (es:=[a,b]) (j:=1) (by simp) (ih _ b h2 (z5 b (by simp)) (by omega)) (by show(L0 b).length<=_;omega);have qa:I0 N (v6 N n) 0 (GExpr.mk 7 [] 0 [] [a,b])=some (a3M (T9 7 a.kind 0) (L0 a)):=qa;have qb:I0 N (v6 N n) 1 (GExpr.mk 7 [] 0 [] [a,b])=some (a3M (T9 7 b.kind 1) (L0 b)):=qb;unfold H1;simp only[GExpr.eta,F5,E5,Z3,a0l,W4];rw[brN,brN,brN,brN,brN,brY,qa,d2,a4M,d8,qb,d2,a4M,d8]
  ·rw[c2u]at hb ⊢;simp only[E5]at *;simp only[List.length_append,List.length_cons,List.length_nil]at hb;have hpar:∀b s,(s:d7).length<=(a3M b s).length:=fun b s=>by cases b<;>simp[a3M];omega
   have pa:=hpar (T9 8 a.kind 0) (L0 a);have pc:=hpar (T9 8 b.kind 1) (L0 b);have qa:=b0H (N:=N) (r:=v6 N n) (k:=8) (n:=0) (t:=[]) (ks:=[]) (es:=[a,b]) (j:=0) (by simp) (ih _ a h1 (z5 a (by simp)) (by omega)) (by show(L0 a).length<=_;omega);have qb:=b0H (N:=N) (r:=v6 N n) (k:=8) (n:=0) (t:=[]) (ks:=[]) (es:=[a,b]) (j:=1) (by simp) (ih _ b h2 (z5 b (by simp)) (by omega)) (by show(L0 b).length<=_;omega);have qa:I0 N (v6 N n) 0 (GExpr.mk 8 [] 0 [] [a,b])=some (a3M (T9 8 a.kind 0) (L0 a)):=qa;have qb:I0 N (v6 N n) 1 (GExpr.mk 8 [] 0 [] [a,b])=some (a3M (T9 8 b.kind 1) (L0 b)):=qb;unfold H1;simp only[GExpr.eta,F5,E5,Z3,a0l,W4];rw[brN,brN,brN,brN,brN,brN,brY,qa,d2,a4M,d8,qb,d2,a4M,d8]
end
section
variable{N:Nat}
theorem d19:∀d:Nat,Lib.repeatL [32,32] d=List.replicate (2*d) 32:=fun d=>by
 have:=Lib.repeatL_replicate 32 2 d;rw[Nat.mul_comm]at this;exact this
theorem D4(d:Nat)(s:d7):(lnS d s).length=2*d+s.length+1:=by
 unfold lnS;rw[List.length_append,List.length_append,List.length_replicate];rfl
theorem a2b{d:Nat}(hd:d<=1000){s w:d7}(h:w.length+s.length<=2000000000000):s9 N (d:Int) s w=some (w++lnS d s):=by
 unfold s9 strings_Repeat;rw[if_pos ⟨by omega,by omega,by simp only[List.length_cons,List.length_nil,Int.toNat_natCast];omega⟩,d2,Int.toNat_natCast,d19];have e1:decide ((List.replicate (2*d) (32:UInt8)).length+s.length<=9223372036854775807)=true:=decide_eq_true (by rw[List.length_replicate];omega);have e2:decide ((List.replicate (2*d) (32:UInt8)++s).length+([10]:d7).length<=9223372036854775807)=true:=decide_eq_true (by rw[List.length_append,List.length_replicate];simp only[List.length_cons,List.length_nil];omega);rw[e1,d8,e2,d8];unfold R7;rw[if_pos (by rw[List.length_append,List.length_append,List.length_replicate];simp only[List.length_cons,List.length_nil];omega),d2];rfl
theorem a6u{n m:Nat}{i:Decidable (n+m<=9223372036854775807)}(h:n+m<=2000000000000:=by first|omega|(simp only[List.length_append,List.length_cons,List.length_nil];omega)):@decide _ i=true:=@decide_eq_true _ i (by omega)
theorem d9E{p:Prop}{i:Decidable p}(h:p):@decide p i=true:=@decide_eq_true _ i h
theorem d9D{p:Prop}{i:Decidable p}(h:¬p):@decide p i=false:=@decide_eq_false _ i h
abbrev PrC:Type:=Int->List GStmt->List UInt8->Option (List UInt8)
def d4L(r:PrC)(k j d:Nat):Prop:=∀b:List GStmt,b.length<=1000000->(∀c∈b,WS k (d+1) c)->(∀c∈b,ZS j c)->∀w:List UInt8,w.length+(R3 b (d+1)).length<=1000000000000->r ((d+1:Nat):Int) b w=some (w++R3 b (d+1))
theorem a2D{r:PrC}{k j d:Nat}(hB:d4L r k j d)(hd:d<=30){s w:d7}{b:List GStmt}(h1:b.length<=1000000)(h2:∀c∈b,WS k (d+1) c)(h3:∀c∈b,ZS j c)(h:w.length+(lnS d (s ++ [32,123])).length+(R3 b (d+1)).length<=1000000000000):
  G7 N r (d:Int) s b w=some (w++(lnS d (s ++ [32,123])++R3 b (d+1))):=by
 rw[D4,List.length_append]at h;simp only[List.length_cons,List.length_nil]at h;unfold G7;rw[a4M,d8,a2b (by omega) (by rw[List.length_append];simp only[List.length_cons,List.length_nil];omega),d2,a5r (show d<=1000 by omega),hB b h1 h2 h3 _ (by rw[List.length_append,D4,List.length_append];simp only[List.length_cons,List.length_nil];omega),d2,List.append_assoc]
theorem b07(hN:J0<=N){r:PrC}{m x:Nat}{ag:List Ag}(hl:ag.length<=1000000)(hw:∀c∈ag,A5 c.1=true/\WE m x c.2)(hz:∀q∈ag,q.1.length<=zz/\ZE zz q.2)(hb:(Lib.join (ag.map (a3v L0)) [44,32]).length<=1000000000000){K:List d7->Option (List UInt8)}:∀(u f j:Nat) (w:List d7),j+u=ag.length->u<f->w.length=j->
  c1u N r ag (ag.length:Int) K f (j:Int) w=K (w++(ag.drop j).map (a3v L0))
 |0,f,j,w,hj,hf,hw2=>by
  obtain⟨f,rfl⟩:∃q,f=q+1:=⟨f-1,by omega⟩;obtain rfl:j=ag.length:=by omega
  show b3I _ _ _ _ _ _ _ _=_;unfold b3I;rw[a1r,d9,List.drop_length,List.map_nil,List.append_nil]
 |u+1,f,j,w,hj,hf,hw2=>by
  obtain⟨f,rfl⟩:∃q,f=q+1:=⟨f-1,by omega⟩;have h:j<ag.length:=by omega
  have hmem:=List.getElem_mem h;have hlen:=a0b (sep:=[44,32]) (List.mem_map_of_mem (f:=a3v L0) hmem);have e1:(a3v L0 ag[j]).length=ag[j].1.length+3+(L0 ag[j].2).length:=by
   unfold a3v;rw[List.length_append,List.length_append];rfl
  have hp:=a6W hN m x zz N ag[j].2 (hw _ hmem).2 (hz _ hmem).2 (by unfold J0 at hN;unfold zz;omega) (by omega);have ih:=b07 hN (r:=r) hl hw hz hb (K:=K) u f (j+1) (w ++ [a3v L0 ag[j]]) (by omega) (by omega) (by simp;omega);show b3I _ _ _ _ _ _ _ _=_;unfold b3I;rw[a0D h,d8,p6 _ h,d2,a4M,d8,GExpr.eta,hp,d2,a4M,d8,c2i (by omega),d8,a4q (n:=(j:Int)+1) (m:=j+1) (by omega) (by omega)];have ih2:c1u N r ag (ag.length:Int) K f ((j+1:Nat):Int) (w ++ [ag[j].1 ++ [32,61,32]++L0 ag[j].2])=_:=ih;rw[ih2,List.drop_eq_getElem_cons h,List.map_cons,List.append_assoc];rfl
theorem b68(hN:J0<=N){r:PrC}{m x:Nat}{ag:List Ag}(hl:ag.length<=1000000)(hw:∀c∈ag,A5 c.1=true/\WE m x c.2)(hz:∀q∈ag,q.1.length<=zz/\ZE zz q.2)(hb:(Lib.join (ag.map (a3v L0)) [44,32]).length<=1000000000000){K:List d7->Option (List UInt8)}:
  c1u N r ag (ag.length:Int) K N 0 []=K (ag.map (a3v L0)):=by
 have:=b07 hN (r:=r) hl hw hz hb (K:=K) ag.length N 0 [] (by omega) (by unfold J0 at hN;omega) rfl;exact this
theorem c4p(hN:J0<=N){r:PrC}{k j d:Nat}{s:GStmt}(hw:WS (k+1) d s)(hz:ZS (j+1) s)(hB:d4L r k j d){w:List UInt8}(hb:w.length+(prS s d).length<=1000000000000)
  {x2:List GStmt} {c12 i:Int} {k0:List UInt8->Option (List UInt8)} {self:Int->List UInt8->Option (List UInt8)} (h1:decide (i<c12)=true) (h2:m6 x2 i=some s):
  a2x N r (d:Int) x2 c12 k0 self i w=self (IntKind.i64.wrap (i+1)) (w++prS s d):=by
 obtain⟨z1,z2,z3,z4,z5,z6,z7,z8,z9,z10,z11⟩:=hz;obtain⟨hd,hw⟩:=hw;have E:∀{m:Nat} {e:GExpr},WE m (d+1) e->ZE zz e->(L0 e).length<=1000000000000->v6 N N e=some (L0 e):=fun{m e} a b c=>a6W hN m (d+1) zz N e a b (by unfold J0 at hN;unfold zz;omega) c
 have close:∀v:List UInt8,v.length<=1000000000000->s9 N (d:Int) [125] v=some (v++lnS d [125]):=fun v hv=>a2b (by omega) (by simp only[List.length_cons,List.length_nil];omega)
 rcases hw with⟨q,G,a,m,g1,g2,rfl⟩|⟨q,ag,a,m,g1,g2,rfl⟩|⟨q,ps,b,a,g1,g2,g3,rfl⟩|⟨q,G,b,a,m,g1,g2,g3,rfl⟩|⟨G,b,l,a,m,g1,g2,g3,rfl⟩|⟨t,a,g1,rfl⟩
 ·rw[b70]at hb ⊢;rw[D4]at hb;simp only[S0,U1,U3,K3,O7,X3,R9,X9,List.length_append,List.length_cons,List.length_nil]at *;have hE:=E g2 z7 (by omega);unfold a2x;rw[h1,d8,h2,d2];rw[S0,U1,U3,K3,O7,X3,R9,X9];rw[brY,a6u,d8,GExpr.eta,hE,d2,a6u,d8,a6u,d8,a2b (by omega) (by simp only[List.length_append,List.length_cons,List.length_nil];omega),d2]
 ·rw[b71]at hb ⊢;rw[D4]at hb;simp only[S0,U1,U3,K3,O7,X3,R9,X9,List.length_append,List.length_cons,List.length_nil]at *;unfold a2x;rw[h1,d8,h2,d2];rw[S0,U1,U3,K3,O7,X3,R9,X9];rw[brN,brY,b68 hN (r:=r) z5 g2 z6 (by omega),a6u,d8,a5H (by omega) (by rw[List.length_map];omega),d2,a6u,d8,a6u,d8,a2b (by omega) (by simp only[List.length_append,List.length_cons,List.length_nil];omega),d2]
 ·rw[b72]at hb ⊢;rw[List.length_append,List.length_append,D4 d [125]]at hb;have hb0:=hb;rw[D4]at hb;simp only[S0,U1,U3,K3,O7,X3,R9,X9,List.length_append,List.length_cons,List.length_nil]at z1 z2 z3 z4 z5 z6 z7 z8 z9 z10 z11 hb;unfold a2x;rw[h1,d8,h2,d2];rw[S0,U1,U3,K3,O7,X3,R9,X9];rw[brN,brN,brN,brY,a6u,d8,a6u,d8,a5H (by omega) (by unfold zz at z3;omega),d2,a6u,d8,a6u,d8,
   a2D hB (by omega) z8 g3 z9 (by omega),d2,close _ (by rw[List.length_append,List.length_append];omega),d2]
  simp only[List.append_assoc]
 ·rw[b73]at hb ⊢;rw[List.length_append,List.length_append,D4 d [125]]at hb;have hb0:=hb;rw[D4]at hb;simp only[S0,U1,U3,K3,O7,X3,R9,X9,List.length_append,List.length_cons,List.length_nil]at z1 z2 z3 z4 z5 z6 z7 z8 z9 z10 z11 hb;have hE:=E g2 z7 (by omega);unfold a2x;rw[h1,d8,h2,d2];rw[S0,U1,U3,K3,O7,X3,R9,X9];rw[brN,brN,brN,brN,brY,a6u,d8,a6u,d8,GExpr.eta,hE,d2,a6u,d8,
   a2D hB (by omega) z8 g3 z9 (by omega),d2,close _ (by rw[List.length_append,List.length_append];omega),d2]
  simp only[List.append_assoc]
 ·rw[b74]at hb ⊢;rw[List.length_append,List.length_append,List.length_append,D4 d [125]]at hb;have hb0:=hb;rw[D4]at hb;simp only[S0,U1,U3,K3,O7,X3,R9,X9]at z1 z2 z3 z4 z5 z6 z7 z8 z9 z10 z11;rw[List.length_append,List.length_append]at hb;simp only[List.length_cons,List.length_nil]at hb hb0;have hE:=E g1 z7 (by omega);unfold a2x;rw[h1,d8,h2,d2];rw[S0,U1,U3,K3,O7,X3,R9,X9];rw[brN,brN,brN,brN,brN,brY,GExpr.eta,hE,d2,a6u,d8,
   a2D hB (by omega) z8 g2 z9 (by omega),d2]
  cases l with
  |nil=>
   rw[d9D (by simp),d9,close _ (by rw[List.length_append,List.length_append];omega),d2];simp
  |cons c l=>
   simp only[List.isEmpty_cons,Bool.false_eq_true,if_false,List.length_append]at hb0 ⊢;rw[d9E (by rw[List.length_cons];omega),d8,a2D hB (by omega) z10 g3 z11 (by simp only[List.length_append];omega),d2,close _ (by simp only[List.length_append];omega),d2];simp only[List.append_assoc]
 ·rw[b75]at hb ⊢;rw[D4]at hb;simp only[S0,U1,U3,K3,O7,X3,R9,X9,List.length_append,List.length_cons,List.length_nil]at *;unfold a2x;rw[h1,d8,h2,d2];rw[S0,U1,U3,K3,O7,X3,R9,X9];rw[brN,brN,brY,a68 z2,d2,a6u,d8,a6u,d8,a2b (by omega) (by simp only[List.length_append,List.length_cons,List.length_nil];omega),d2]
theorem b2k(hN:J0<=N){r:PrC}{k j d:Nat}(hB:d4L r k j d){l:List GStmt}(hl:l.length<=1000000)(hw:∀c∈l,WS (k+1) d c)(hz:∀c∈l,ZS (j+1) c):∀(u f i:Nat) (w:List UInt8),i+u=l.length->u<f->w.length+(R3 (l.drop i) d).length<=1000000000000->
  d0I N r (d:Int) l (l.length:Int) (fun o=>some o) f (i:Int) w=some (w++R3 (l.drop i) d)
 |0,f,i,w,hi,hf,hb=>by
  obtain⟨f,rfl⟩:∃q,f=q+1:=⟨f-1,by omega⟩;obtain rfl:i=l.length:=by omega
  show a2x _ _ _ _ _ _ _ _ _=_;unfold a2x;rw[a1r,d9,List.drop_length,a40,List.append_nil]
 |u+1,f,i,w,hi,hf,hb=>by
  obtain⟨f,rfl⟩:∃q,f=q+1:=⟨f-1,by omega⟩;have h:i<l.length:=by omega
  rw[List.drop_eq_getElem_cons h,a0F,List.length_append]at hb;have ih:=b2k hN hB hl hw hz u f (i+1) (w++prS l[i] d) (by omega) (by omega) (by rw[List.length_append];omega);show a2x _ _ _ _ _ _ _ _ _=_;rw[c4p hN (hw _ (List.getElem_mem h)) (hz _ (List.getElem_mem h)) hB (by omega) (a0D h) (p6 _ h),a4q (n:=(i:Int)+1) (m:=i+1) (by omega) (by omega),ih,List.drop_eq_getElem_cons h,a0F,List.append_assoc]
theorem b1Y(hN:J0<=N):∀(k j n d:Nat) (l:List GStmt) (w:List UInt8),j<n->l.length<=1000000->(∀c∈l,WS k d c)->(∀c∈l,ZS j c)->w.length+(R3 l d).length<=1000000000000->C1 N n (d:Int) l w=some (w++R3 l d)
 |_,_,0,_,_,_,h,_,_,_,_=>absurd h (by omega)
 |k,j,n+1,d,[],w,_,_,_,_,_=>by
  show F7 N _ _ _ _=_;unfold F7;obtain⟨f,hf,_⟩:=a3y hN;rw[hf];show a2x _ _ _ _ _ _ _ _ _=_;unfold a2x;rw[show decide ((0:Int)<((([]:List GStmt).length:Nat):Int))=false by simp,d9,a40,List.append_nil]
 |0,_,n+1,_,c :: l,_,_,_,h,_,_=>(h c (by simp)).elim
 |_+1,0,n+1,_,c :: l,_,_,_,_,h,_=>(h c (by simp)).elim
 |k+1,j+1,n+1,d,c :: l,w,hn,hl,hw,hz,hb=>by
  have:=b2k hN (r:=C1 N n) (k:=k) (j:=j) (d:=d) (fun b b1 b2 b3 v hv=>b1Y hN k j n (d+1) b v (by omega) b1 b2 b3 hv) hl hw hz (c :: l).length N 0 w (by omega) (by unfold J0 at hN;omega) hb;exact this
theorem b77(hN:J0<=N){l:List GStmt}(hl:l.length<=1000000)(hz:∀s∈l,ZS zz s):∃c,m7 N l=some c/\((c≠0/\M4 N l=some ([],c))\/(c=0/\(∀s∈l,WS zz 0 s)/\((R3 l 0).length<=1000000000000->M4 N l=some (if(R3 l 0).length>50000 then(([]:d7),(2:Int))else(R3 l 0,0))))):=by
 obtain⟨c,h1,h2⟩:=b1m hN l hl hz;refine⟨c,h1,?_⟩;unfold M4;rw[h1,d2];by_cases h:c=0
 ·refine .inr ⟨h,h2 h,fun hb=>?_⟩;rw[h,bne_self_eq_false,d9];have hp:=b1Y hN zz zz N 0 l [] (by unfold J0 at hN;unfold zz;omega) hl (h2 h) hz (by simpa using hb);rw[show((0:Nat):Int)=0 from rfl]at hp;rw[hp,d2,List.nil_append];by_cases h5:(R3 l 0).length>50000
  ·rw[if_pos h5,decide_eq_true (by omega),d8]
  ·rw[if_neg h5,decide_eq_false (by omega),d9]
 ·refine .inl ⟨h,?_⟩;rw[show(c !=0)=true by simpa using h,d8]
end
section
theorem c6Y{N:Nat}(s:d7)(hs:s.length<=50000)(w:List A6):∀(d i n:Nat),i+d=s.length->d<n->
  ∃j:Nat,i<=j/\j<=s.length/\s.drop j=P1 false (s.drop i)/\b2M N s w (fun o=>some (s,o,w)) n (i:Int)=some (s,(j:Int),w):=by
 intro d;induction d using Nat.strongRecOn with
 |_ d ih=>
  intro i n hd hn;obtain⟨n,rfl⟩:∃q,n=q+1:=⟨n-1,by omega⟩;show ∃j:Nat,_/\_/\_/\a7j N s w _ (b2M N s w _ n) (i:Int)=_;unfold a7j;by_cases hi:i<s.length
  ·rw[a2c hi,d8,p6 s hi,List.drop_eq_getElem_cons hi];simp only[d2];have next:∃j:Nat,i<=j/\j<=s.length/\s.drop j=P1 false (s.drop (i+1))/\b2M N s w (fun o=>some (s,o,w)) n (IntKind.i64.wrap ((i:Int)+1))=some (s,(j:Int),w):=by
    rw[a00 (m:=i+1) (by omega) (by omega)];obtain⟨j,h1,h2,h3,h4⟩:=ih (d-1) (by omega) (i+1) n (by omega) (by omega);exact⟨j,by omega,h2,h3,h4⟩
   simp only[P1];by_cases h32:s[i]=32
   ·simpa [h32]using next
   by_cases h9:s[i]=9
   ·simpa [h9]using next
   by_cases h10:s[i]=10
   ·simpa [h10]using next
   by_cases h13:s[i]=13
   ·simpa [h13]using next
   rw[if_neg h32,if_neg h9,if_neg h10,if_neg h13];by_cases h35:s[i]=35
   ·rw[if_pos h35];simp only[h35,b6z s (Nat.le_of_lt hi),d2];simp only[show((35:UInt8)==32)=false by decide,show((35:UInt8)==9)=false by decide,show((35:UInt8)==10)=false by decide,show((35:UInt8)==13)=false by decide,show((35:UInt8)==35)=true by decide,d8,d9];have hid:Lib.indexByte (s.drop i) 10=if Lib.indexByte (s.drop (i+1)) 10 = -1 then -1 else Lib.indexByte (s.drop (i+1)) 10+1:=by
     rw[List.drop_eq_getElem_cons hi,b1D,if_neg h10]
    have hlt:=c6c 10 (s.drop (i+1));rw[List.length_drop]at hlt;have hg:=Lib.indexByte_ge (s.drop (i+1)) 10;unfold strings_IndexByte;simp only[d2];rw[hid,b47];by_cases hneg:Lib.indexByte (s.drop (i+1)) 10 = -1
    ·rw[if_pos hneg,if_pos (by omega),decide_eq_true (by omega),d8,a00 (n:=(s.length:Int)-(i:Int)) (m:=s.length-i) (by omega) (by omega),a00 (m:=s.length) (by omega) (by omega)];refine⟨s.length,by omega,Nat.le_refl _,List.drop_length,?_⟩;obtain⟨n,rfl⟩:∃q,n=q+1:=⟨n-1,by omega⟩;show a7j N s w _ _ _=_;unfold a7j;rw[a4T,d9]
    ·obtain⟨q,hq⟩:∃q:Nat,Lib.indexByte (s.drop (i+1)) 10=(q:Int):=⟨(Lib.indexByte (s.drop (i+1)) 10).toNat,by omega⟩;rw[if_neg hneg,hq,if_neg (by omega),decide_eq_false (by omega),d9,a00 (m:=i+1+q) (by omega) (by omega)];obtain⟨j,h1,h2,h3,h4⟩:=ih (d-(1+q)) (by omega) (i+1+q) n (by omega) (by omega);refine⟨j,by omega,h2,?_,h4⟩;rw[h3,Int.toNat_natCast,List.drop_drop]
   ·rw[if_neg h35];refine⟨i,Nat.le_refl _,by omega,List.drop_eq_getElem_cons hi,?_⟩;simp only[a2Q h32,a2Q h9,a2Q h10,a2Q h13,a2Q h35,d9]
  ·obtain rfl:i=s.length:=by omega
   rw[a4T,d9];exact⟨s.length,Nat.le_refl _,Nat.le_refl _,by rw[List.drop_length];rfl,rfl⟩
theorem d7p{N:Nat}(s:d7)(hs:s.length<=50000)(w:List A6):∀(d i m:Nat) (acc:d7),i+d=s.length->d<m->acc.length<=i->
  (∃(txt:d7) (j:Nat),i<j/\j<=s.length/\D8 (s.drop i) acc=some (txt,s.drop j)/\txt.length<=s.length/\b0p N s w (fun o=>some (([]:d7),false,s,o,w)) m (i:Int) acc=some (txt,true,s,(j:Int),w))\/
  (D8 (s.drop i) acc=none/\∃txt p,b0p N s w (fun o=>some (([]:d7),false,s,o,w)) m (i:Int) acc=some (txt,false,s,p,w)):=by
 intro d;induction d using Nat.strongRecOn with
 |_ d ih=>
  intro i m acc hd hm ha;obtain⟨m,rfl⟩:∃q,m=q+1:=⟨m-1,by omega⟩;show(∃(txt:d7) (j:Nat),_/\_/\_/\_/\a9V N s w _ (b0p N s w _ m) (i:Int) acc=_)\/(D8 (s.drop i) acc=none/\∃txt p,a9V N s w _ (b0p N s w _ m) (i:Int) acc=_);unfold a9V;by_cases hi:i<s.length
  ·simp only[a2c hi,d8,p6 s hi,d2,a00 (n:=(i:Int)+1) (m:=i+1) (by omega) (by omega)];by_cases h34:s[i]=34
   ·left;refine⟨acc,i+1,by omega,by omega,?_,by omega,?_⟩
    ·rw[List.drop_eq_getElem_cons hi];cases h:s.drop (i+1)with
     |nil=>simp[D8,h34]
     |cons e r=>simp[D8,h34]
    ·simp[h34]
   simp only[a2Q h34,d9];by_cases h92:s[i]=92
   ·simp only[h92,show decide ((92:UInt8)<32)=false by decide,show decide ((92:UInt8)>126)=false by decide,show((92:UInt8)==92)=true by decide,show((92:UInt8) !=92)=false by decide,d8,d9];by_cases hi1:i+1<s.length
    ·have hne:(((i+1:Nat):Int)==(s.length:Int))=false:=by
      rw[beq_eq_false_iff_ne];omega
     simp only[hne,d9,a2c hi1,d8,p6 s hi1,d2,a00 (n:=((i+1:Nat):Int)+1) (m:=i+2) (by omega) (by omega)];have hsl:slc s ((i+1:Nat):Int) ((i+2:Nat):Int)=some [s[i+1]]:=by
      rw[a7e s (by omega) (by omega),List.drop_take,show i+2-(i+1)=1 by omega,List.drop_eq_getElem_cons hi1];rfl
     have hb:∀c:UInt8,Zf (acc.length + [c].length) .u8=true:=fun c=>decide_eq_true (by simp[Ty.sz];omega)
     have hb2:∀c:UInt8,decide (acc.length + [c].length<=9223372036854775807)=true:=fun c=>decide_eq_true (by simp;omega)
     have next:∀c:UInt8,_:=fun c=>ih (d-2) (by omega) (i+2) m (acc ++ [c]) (by omega) (by omega) (by simp;omega)
     simp only[hsl,d2,hb,hb2,d8];have hT:D8 (s.drop i) acc=if s[i+1]=34 then D8 (s.drop (i+2)) (acc ++ [34])else if s[i+1]=92 then D8 (s.drop (i+2)) (acc ++ [92])else if s[i+1]=110 then D8 (s.drop (i+2)) (acc ++ [10])else none:=by
      rw[List.drop_eq_getElem_cons hi,List.drop_eq_getElem_cons hi1,h92,D8,if_neg (by decide),if_neg (by decide),if_neg (by decide),if_pos rfl]
     rw[hT];by_cases g34:s[i+1]=34
     ·have nx:=next 34
      simp only[g34,show((34:UInt8)==34)=true by decide,d8,if_true];rcases nx with⟨txt,j,h1,h2,h3,h5,h4⟩|h
      ·exact .inl ⟨txt,j,by omega,h2,h3,h5,h4⟩
      ·exact .inr h
     simp only[a2Q g34,d9,if_neg g34];by_cases g92:s[i+1]=92
     ·have nx:=next 92
      simp only[g92,show((92:UInt8)==92)=true by decide,d8,if_true];rcases nx with⟨txt,j,h1,h2,h3,h5,h4⟩|h
      ·exact .inl ⟨txt,j,by omega,h2,h3,h5,h4⟩
      ·exact .inr h
     simp only[a2Q g92,d9,if_neg g92];by_cases g110:s[i+1]=110
     ·have nx:=next 10
      simp only[g110,show((110:UInt8)==110)=true by decide,d8,if_true];rcases nx with⟨txt,j,h1,h2,h3,h5,h4⟩|h
      ·exact .inl ⟨txt,j,by omega,h2,h3,h5,h4⟩
      ·exact .inr h
     simp only[a2Q g110,d9,if_neg g110];exact .inr ⟨by first|rfl|trivial,_,_,rfl⟩
    ·have he:i+1=s.length:=by omega
     have hT0:D8 (s.drop i) acc=none:=by
      rw[List.drop_eq_getElem_cons hi,List.drop_eq_nil_of_le (by omega),h92];simp[D8]
     simp only[he,beq_self_eq_true,d8,a4T,d9];exact .inr ⟨hT0,_,_,rfl⟩
   have hne92:(s[i] !=92)=true:=by rw[bne,a2Q h92];rfl
   simp only[a2Q h92,hne92,d9,d8];by_cases hlo:s[i]<32
   ·have hT0:D8 (s.drop i) acc=none:=by
     rw[List.drop_eq_getElem_cons hi];cases s.drop (i+1)with
     |nil=>simp[D8,h34]
     |cons e r=>rw[D8,if_neg h34,if_pos hlo]
    simp only[decide_eq_true hlo,d8];exact .inr ⟨hT0,_,_,rfl⟩
   by_cases hhi:s[i]>126
   ·have hT0:D8 (s.drop i) acc=none:=by
     rw[List.drop_eq_getElem_cons hi];cases s.drop (i+1)with
     |nil=>simp[D8,h34]
     |cons e r=>rw[D8,if_neg h34,if_neg hlo,if_pos hhi]
    simp only[decide_eq_false hlo,decide_eq_true hhi,d8,d9];exact .inr ⟨hT0,_,_,rfl⟩
   simp only[decide_eq_false hlo,decide_eq_false hhi,d9];rw[show Zf (acc.length + [s[i]].length) .u8=true from decide_eq_true (by simp[Ty.sz];omega),d8];rcases ih (d-1) (by omega) (i+1) m (acc ++ [s[i]]) (by omega) (by omega) (by simp;omega)with⟨txt,j,h1,h2,h3,h5,h4⟩|h
   ·refine .inl ⟨txt,j,by omega,h2,?_,h5,h4⟩;rw[<-h3,List.drop_eq_getElem_cons hi];cases h:s.drop (i+1)with
    |nil=>rw[h]at h3;cases h3
    |cons e r=>rw[D8,if_neg h34,if_neg hlo,if_neg hhi,if_neg h92]
   ·refine .inr ⟨?_,h.2⟩;have h3:=h.1;rw[List.drop_eq_getElem_cons hi];cases hc:s.drop (i+1)with
    |nil=>simp[D8,h34]
    |cons e r=>rw[D8,if_neg h34,if_neg hlo,if_neg hhi,if_neg h92,<-hc];exact h3
  ·obtain rfl:i=s.length:=by omega
   simp only[a4T,d9];exact .inr ⟨by rw[List.drop_length];rfl,_,_,rfl⟩
theorem d7q{N:Nat}(hN:60000<=N)(s:d7)(hs:s.length<=50000)(w:List A6){i:Nat}(hi:i<s.length):
  (∃(t:A6) (j:Nat),i<j/\j<=s.length/\t.2.2.2=(i:Int)/\a0W (s.drop i)=some (t.1,t.2.1,t.2.2.1,s.drop j)/\I4 N s (i:Int) w=some (t,0,s,(j:Int),w)/\t.2.1.length<=50000)\/
  (a0W (s.drop i)=none/\∃(t:A6) (e:Int) (q:d7×Int×List A6),e≠0/\I4 N s (i:Int) w=some (t,e,q)):=by
 have hT:a0W (s.drop i)=_:=congrArg a0W (List.drop_eq_getElem_cons hi);rw[a0W,<-List.drop_eq_getElem_cons hi]at hT;unfold I4;simp only[p6 s hi,d2,b1F,a60];by_cases hsm:(decide (s[i]>=97)&&decide (s[i]<=122))=true
 ·have hsm':=hsm;rw[if_pos hsm]at hT;simp only[Bool.and_eq_true]at hsm;simp only[hsm.1,hsm.2,Bool.and_self,d8,c61 hN s hs w (Nat.le_of_lt hi),d2];have hle:=c2R N4 s (Nat.le_of_lt hi);have hpos:0<((s.drop i).takeWhile N4).length:=by
   rw[List.drop_eq_getElem_cons hi,List.takeWhile_cons,if_pos (by unfold N4;rw[hsm'];rfl)];simp
  by_cases hg:((((s.drop i).takeWhile N4).length:Nat):Int)>40
  ·rw[if_pos (by omega)]at hT;simp only[decide_eq_true hg,d8];exact .inr ⟨hT,_,2,_,by decide,rfl⟩
  ·simp only[decide_eq_false hg,d9];rw[if_neg (by omega)]at hT;exact .inl ⟨(1,(s.drop i).takeWhile N4,0,(i:Int)),i+((s.drop i).takeWhile N4).length,by omega,hle,rfl,by rw[hT,d35],rfl,by simp only;omega⟩
 rw[if_neg hsm]at hT;have hsm':(decide (s[i]>=97)&&decide (s[i]<=122))=false:=by simpa using hsm
 simp only[hsm',d9];by_cases hdg:T1 s[i]=true
 ·rw[if_pos hdg]at hT;simp only[hdg,d8];unfold Q7;rw[c62 hN s hs w (Nat.le_of_lt hi)];simp only[d2];have hle:=c2R T1 s (Nat.le_of_lt hi);have hc0:(s.drop i).takeWhile T1=s[i] :: (s.drop (i+1)).takeWhile T1:=by
   rw[List.drop_eq_getElem_cons hi,List.takeWhile_cons,if_pos hdg]
  have hall:∀b∈(s.drop i).takeWhile T1,T1 b=true:=b6K T1 _;rw[d35]at hT;generalize hc:(s.drop i).takeWhile T1=c at *;have hpos:0<c.length:=by rw[hc0];simp
  have g0:m6 c 0=some s[i]:=by rw[hc0];rfl
  simp only[g0,d2];by_cases h9:(c.length:Int)>9
  ·rw[decide_eq_true h9,decide_eq_true (show(c.length:Int)>1 by omega)];rw[if_pos (by omega)]at hT;simp only[d8];by_cases h48:s[i]=48
   ·simp only[h48,show((48:UInt8)==48)=true by decide,d8,d2];exact .inr ⟨hT,_,10,_,by decide,rfl⟩
   ·simp only[a2Q h48,d9,d2];exact .inr ⟨hT,_,2,_,by decide,rfl⟩
  ·rw[decide_eq_false h9];rw[if_neg (by omega)]at hT;have hl:=fun k=>c6r (N:=N) (k:=k) c (by omega) hall c.length 0 N 0 (by omega) (by omega) (by simp)
   simp only[List.drop_zero,show((0:Nat):Int)=0 from rfl]at hl;simp only[d9,hl,d2];by_cases h1:(c.length:Int)>1
   ·simp only[decide_eq_true h1,d8];by_cases h48:s[i]=48
    ·simp only[h48,show((48:UInt8)==48)=true by decide,d8,d2];rw[if_pos ⟨h48,by omega⟩]at hT;exact .inr ⟨hT,_,10,_,by decide,rfl⟩
    ·simp only[a2Q h48,d9,d2];rw[if_neg (fun h=>h48 h.1)]at hT;exact .inl ⟨(3,[],(c0c 0 c:Int),(i:Int)),i+c.length,by omega,hle,rfl,hT,rfl,by simp⟩
   ·simp only[decide_eq_false h1,d9,d2];rw[if_neg (fun h=>h1 (by omega))]at hT;refine .inl ⟨(3,[],(c0c 0 c:Int),(i:Int)),i+c.length,by omega,hle,rfl,hT,?_,by simp⟩
    first|rfl|(cases (s[i]==48)<;>simp)
 rw[if_neg hdg]at hT;have hdg':T1 s[i]=false:=by simpa using hdg
 simp only[hdg',d9];by_cases h34:s[i]=34
 ·rw[if_pos h34]at hT;simp only[h34,show((34:UInt8)==34)=true by decide,d8];unfold T0;rw[a00 (n:=(i:Int)+1) (m:=i+1) (by omega) (by omega)];rcases d7p (N:=N) s hs w (s.length-(i+1)) (i+1) N [] (by omega) (by omega) (by simp)with⟨txt,j,h1,h2,h3,h5,h4⟩|⟨h3,txt,p,h4⟩
  ·simp only[h4,d2,Bool.not_true,d9];rw[h3]at hT;exact .inl ⟨(2,txt,0,(i:Int)),j,by omega,h2,rfl,hT,rfl,by simp only;omega⟩
  ·simp only[h4,d2,Bool.not_false,d8];rw[h3]at hT;exact .inr ⟨hT,_,10,_,by decide,rfl⟩
 rw[if_neg h34]at hT;simp only[a2Q h34,d9];unfold strings_IndexByte;simp only[d2];by_cases hsg:Lib.indexByte [61,43,40,41,91,93,123,125,44,58,59] s[i]>=0
 ·rw[if_pos (by unfold b8i;exact decide_eq_true hsg)]at hT;simp only[decide_eq_true hsg,d8,b6z s (Nat.le_of_lt hi),d2,c4x,a00 (n:=(i:Int)+1) (m:=i+1) (by omega) (by omega)];have hsl:(s.take (i+1)).drop i=[s[i]]:=by
   rw[List.drop_take,show i+1-i=1 by omega,List.drop_eq_getElem_cons hi];rfl
  rw[a7e s (i:=i) (j:=i+1) (by omega) (by omega),hsl];simp only[d2];by_cases hi1:i+1<s.length
  ·have hh:(s.drop (i+1)).head? = some s[i+1]:=by rw[List.drop_eq_getElem_cons hi1];rfl
   have ht2:(s.drop i).take 2=[s[i],s[i+1]]:=by
    rw[List.drop_eq_getElem_cons hi,List.drop_eq_getElem_cons hi1];rfl
   rw[ht2];simp only[a00 (n:=(i:Int)+2) (m:=i+2) (by omega) (by omega)];have hs2:(s.take (i+2)).drop i=[s[i],s[i+1]]:=by
    rw[List.drop_take,show i+2-i=2 by omega,List.drop_eq_getElem_cons hi,List.drop_eq_getElem_cons hi1];rfl
   rw[a7e s (i:=i) (j:=i+2) (by omega) (by omega),hs2];simp only[d2];rw[hh]at hT;by_cases h61:s[i]=61
   ·by_cases g61:s[i+1]=61
    ·simp only[h61,g61,show(([61,61]:d7)==[61,61])=true by decide,d8];rw[if_pos ⟨h61,by rw[g61]⟩,List.tail_drop]at hT;exact .inl ⟨(4,[61,61],0,(i:Int)),i+2,by omega,by omega,rfl,hT,rfl,by simp⟩
    ·have:(([61,s[i+1]]:d7)==([61,61]:d7))=false:=by
      rw[beq_eq_false_iff_ne];intro e;exact g61 (by simpa using(List.cons.inj (List.cons.inj e).2).1)
     rw[if_neg (fun h=>g61 (Option.some.inj h.2)),h61]at hT;simp only[this,h61,d9];exact .inl ⟨(4,[61],0,(i:Int)),i+1,by omega,by omega,rfl,hT,rfl,by simp⟩
   ·have:([s[i],s[i+1]]==([61,61]:d7))=false:=by
     rw[beq_eq_false_iff_ne];intro e;exact h61 (List.cons.inj e).1
    rw[if_neg (fun h=>h61 h.1)]at hT;simp only[this,d9];exact .inl ⟨(4,[s[i]],0,(i:Int)),i+1,by omega,by omega,rfl,hT,rfl,by simp⟩
  ·have he:i+1=s.length:=by omega
   have hh:(s.drop (i+1)).head? = none:=by rw[he,List.drop_length];rfl
   have ht2:(s.drop i).take 2=[s[i]]:=by
    rw[List.drop_eq_getElem_cons hi,he,List.drop_length];rfl
   rw[hh,if_neg (fun h=>by cases h.2)]at hT;rw[ht2,show(([s[i]]:d7)==[61,61])=false by rw[beq_eq_false_iff_ne];intro e;simp at e];simp only[d9];exact .inl ⟨((4,[s[i]],0,(i:Int)):A6),i+1,by omega,by omega,rfl,hT,rfl,by simp⟩
 ·rw[if_neg (by unfold b8i;simpa using hsg)]at hT;simp only[decide_eq_false hsg,d9];exact .inr ⟨hT,_,10,_,by decide,rfl⟩
theorem d2q{u t r:d7}{k n:Int}(h:a0W u=some (k,t,n,r)):r.length<u.length:=by
 obtain⟨b,e,hb,_⟩:=b2t h;have:=List.length_pos_iff.2 hb;rw[e,List.length_append];omega
theorem LX.len{L:Nat}{u:d7}{l:List A6}(h:LX L u l):l.length<=u.length:=by
 induction h with
 |nil _=>simp
 |cons h1 h2 h3 _ ih=>
  have:=d2q h2;rw[List.length_cons];rename_i u v r t k n l _;have g:(P1 false u).length<=u.length:=a5c u false;rw[h1]at g;omega
theorem c19{N:Nat}(s:d7)(hs:s.length<=50000){i j:Nat}(hi:i<=s.length)(hj:j<=s.length)(hN:60000<=N)(h:s.drop j=P1 false (s.drop i))(w:List A6):L1 N s (i:Int) w=some (s,(j:Int),w):=by
 obtain⟨q,q1,q2,q3,q4⟩:=c6Y (N:=N) s hs w (s.length-i) i N (by omega) (by omega);have e:q=j:=by
  rw[<-h]at q3;have:=congrArg List.length q3;rw[List.length_drop,List.length_drop]at this;omega
 subst e;exact q4
theorem d7r{N:Nat}(hN:60000<=N)(s:d7)(hs:s.length<=50000){u:d7}{l:List A6}(h:LX s.length u l):∀i,u=s.drop i->i<=s.length->(∀t∈l,a2C t)/\∀(m:Nat) (out:List A6),out.length+l.length<=50000->s.length-i<m->
  b0r N s m s (i:Int) out=some (out++l,0,0):=by
 induction h with
 |@nil u h1=>
  refine fun i hu hi=>⟨fun t ht=>by simp at ht,fun m out ho hm=>?_⟩
  obtain⟨m,rfl⟩:∃q,m=q+1:=⟨m-1,by omega⟩;show a39 N s _ _ _ out=_;unfold a39;rw[c19 s hs hi (Nat.le_refl _) hN (by rw[List.drop_length,<-hu,h1]) out,d2];simp only[beq_self_eq_true,d8,List.append_nil]
 |@cons u v r t k n l h1 h2 h3 h4 ih=>
  have key:∀i,u=s.drop i->i<=s.length->∃j,j<s.length/\s.drop j=v/\s.length-v.length=j/\i<=j:=fun i hu hi=>by
   obtain⟨q,q1,q2,q3,q4⟩:=c6Y (N:=N) s hs [] (s.length-i) i N (by omega) (by omega);rw[<-hu,h1]at q3;have hq:q<s.length:=by
    rcases Nat.lt_or_ge q s.length with h|h
    ·exact h
    ·rw[List.drop_eq_nil_of_le h]at q3;rw[<-q3]at h2;cases h2
   refine⟨q,hq,q3,?_,q1⟩;rw[<-q3,List.length_drop];omega
  have tokj:∀j,j<s.length->s.drop j=v->s.length-v.length=j->t.length<=50000/\∃q:Nat,j<q/\q<=s.length/\r=s.drop q/\∀w,I4 N s (j:Int) w=some ((k,t,n,((s.length-v.length:Nat):Int)),0,s,(q:Int),w):=fun j hj hv hp=>by
   have go:∀w,∃q:Nat,j<q/\q<=s.length/\r=s.drop q/\I4 N s (j:Int) w=some ((k,t,n,((s.length-v.length:Nat):Int)),0,s,(q:Int),w)/\t.length<=50000:=fun w=>by
    rcases d7q hN s hs w hj with⟨t',q,g1,g2,g3,g4,g5,g6⟩|⟨g0,_⟩
    ·rw[hv,h2]at g4;simp only[Option.some.injEq,Prod.mk.injEq]at g4;obtain⟨e1,e2,e3,e4⟩:=g4;obtain⟨a,b,c,d⟩:=t';simp only at e1 e2 e3 g3 g6;subst e1 e2 e3 g3;exact⟨q,g1,g2,e4,by rw[g5,hp],g6⟩
    ·rw[hv,h2]at g0;cases g0
   obtain⟨q,q1,q2,q3,_,q5⟩:=go [];refine⟨q5,q,q1,q2,q3,fun w=>?_⟩;obtain⟨q',p1,p2,p3,p4,_⟩:=go w;have:q'=q:=by
    have:=congrArg List.length (p3.symm.trans q3);rw[List.length_drop,List.length_drop]at this;omega
   rw[p4,this]
  intro i hu hi;obtain⟨j,j1,j2,j3,j4⟩:=key i hu hi;obtain⟨ht,q,q1,q2,q3,q4⟩:=tokj j j1 j2 j3;obtain⟨ih1,ih2⟩:=ih q q3 q2;refine⟨fun z hz=>?_,fun m out ho hm=>?_⟩
  ·rcases List.mem_cons.1 hz with rfl|hz
   ·exact⟨by simp only;omega,ht⟩
   ·exact ih1 z hz
  ·obtain⟨m,rfl⟩:∃q,m=q+1:=⟨m-1,by omega⟩;rw[List.length_cons]at ho;show a39 N s (b0r N s m) _ _ out=_;unfold a39;rw[c19 s hs hi (Nat.le_of_lt j1) hN (by rw[j2,<-hu,h1]) out,d2];have hmem:∀z:A6,Zf (out.length + [z].length) (.pr (.int .i64) (.pr .str (.pr (.int .i64) (.int .i64))))=true:=fun z=>decide_eq_true (by simp[Ty.sz];omega)
   simp only[show((j:Int)==(s.length:Int))=false by rw[beq_eq_false_iff_ne];omega,d9,show((out.length:Int)==50000)=false by rw[beq_eq_false_iff_ne];omega,q4,d2,bne_self_eq_false,v8,hmem,d8];rw[ih2 m _ (by simp;omega) (by omega)];simp
end
section
variable{N:Nat}
theorem c6K:∀t:d7,t.length<=(rpE t).length
 |[]=>by simp
 |c :: t=>by
  have ih:=c6K t;have e:rpE (c :: t)=rpF c++rpE t:=by unfold rpE;rw[List.flatMap_cons]
  have h1:=a7P c;rw[e,List.length_append,List.length_cons];omega
theorem c0k(t:d7):t.length+2<=(rpQ t).length:=by
 have:=c6K t;unfold rpQ;simp only[List.length_append,List.length_cons,List.length_nil];omega
theorem a4Q{c d:UInt8}:∀(l:List d7),l.length<=(Lib.join l [c,d]).length+1
 |[]=>by simp
 |[x]=>by simp
 |x :: y :: r=>by
  have ih:=a4Q (c:=c) (d:=d) (y :: r);rw[a19,List.length_append,List.length_append,List.length_cons];simp only[List.length_cons,List.length_nil]at *;omega
theorem b0F(b:Bool)(s:d7):s.length<=(a3M b s).length:=by cases b<;>simp[a3M];omega
theorem b4L:∀(k x n:Nat) (e:GExpr),WE k x e->(L0 e).length<n->n<=50001->EOk n e
 |0,_,_,_,h,_,_=>h.elim
 |k+1,x,0,_,_,h,_=>absurd h (by omega)
 |k+1,x,n+1,e,⟨_,h⟩,hn,hm=>by
  have ih:=fun(x:Nat) (c:GExpr) (hc:WE k x c) (hl:(L0 c).length<n)=>b4L k x n c hc hl (by omega)
  rcases h with⟨t,h1,rfl⟩|⟨m,h1,rfl⟩|⟨t,h1,rfl⟩|⟨es,rfl,h1⟩|⟨a,b,rfl,h1,h2⟩|⟨ks,es,h1,h2,h3,rfl,h4⟩|⟨a,b,rfl,h1,h2⟩|⟨a,b,rfl,h1,h2⟩
  ·rw[b7Y]at hn;have:=c0k t;exact .inl ⟨t,by omega,rfl⟩
  ·exact .inr (.inl ⟨_,rfl⟩)
  ·rw[c2p]at hn;exact .inr (.inr (.inl ⟨t,by omega,h1,rfl⟩))
  ·rw[c2q,List.length_append,List.length_append]at hn;simp only[List.length_cons,List.length_nil]at hn;have hc:=a4Q (c:=44) (d:=32) (es.map L0);rw[List.length_map]at hc;refine .inr (.inr (.inr (.inl ⟨es,by omega,rfl,fun c hc=>ih _ c (h1 c hc) ?_⟩)));have:=a0b (sep:=[44,32]) (List.mem_map_of_mem (f:=L0) hc);omega
  ·rw[c2r,List.length_append,List.length_append]at hn;simp only[List.length_cons,List.length_nil]at hn;have g1:=a0b (sep:=[44,32]) (List.mem_map_of_mem (f:=L0) (show a ∈ [a,b] by simp));have g2:=a0b (sep:=[44,32]) (List.mem_map_of_mem (f:=L0) (show b ∈ [a,b] by simp));exact .inr (.inr (.inr (.inr (.inl ⟨a,b,rfl,ih _ a h1 (by omega),ih _ b h2 (by omega)⟩))))
  ·rw[c2s,a2S]at hn;have hn:(([99,104,111,111,115,101,32,123]:d7)++Lib.join ((ks.zip es).map fun z=>rpQ z.1 ++ [58,32]++L0 z.2) [44,32]++([125]:d7)).length<n+1:=hn;rw[List.length_append,List.length_append]at hn;simp only[List.length_cons,List.length_nil]at hn;have hc:=a4Q (c:=44) (d:=32) ((ks.zip es).map fun z=>rpQ z.1 ++ [58,32]++L0 z.2);rw[List.length_map,List.length_zip]at hc;have hp:∀i (hi:i<es.length) (hk:i<ks.length),(rpQ ks[i]).length+(L0 es[i]).length<n:=fun i hi hk=>by
    have h3:i<(ks.zip es).length:=by rw[List.length_zip];omega
    have:=a0b (sep:=[44,32]) (List.mem_map_of_mem (f:=fun z:d7×GExpr=>rpQ z.1 ++ [58,32]++L0 z.2) (List.getElem_mem h3));rw[List.getElem_zip]at this;simp only[List.length_append,List.length_cons,List.length_nil]at this;omega
   refine .inr (.inr (.inr (.inr (.inr (.inl ⟨ks,es,h1,h2,by omega,fun q hq=>?_,rfl,fun c hc=>?_⟩)))))
   ·obtain⟨i,hi,rfl⟩:=List.getElem_of_mem hq;have:=hp i (by omega) hi;have:=c0k ks[i];omega
   ·obtain⟨i,hi,rfl⟩:=List.getElem_of_mem hc;have:=hp i hi (by omega);exact ih _ _ (h4 _ hc) (by omega)
  ·rw[c2t,List.length_append,List.length_append]at hn;simp only[List.length_cons,List.length_nil]at hn;have g1:=b0F (T9 7 a.kind 0) (L0 a);have g2:=b0F (T9 7 b.kind 1) (L0 b);exact .inr (.inr (.inr (.inr (.inr (.inr (.inl ⟨a,b,rfl,ih _ a h1 (by omega),ih _ b h2 (by omega)⟩))))))
  ·rw[c2u,List.length_append,List.length_append]at hn;simp only[List.length_cons,List.length_nil]at hn;have g1:=b0F (T9 8 a.kind 0) (L0 a);have g2:=b0F (T9 8 b.kind 1) (L0 b);exact .inr (.inr (.inr (.inr (.inr (.inr (.inr ⟨a,b,rfl,ih _ a h1 (by omega),ih _ b h2 (by omega)⟩))))))
theorem d1O{k x n:Nat}{e:GExpr}(h:WE k x e)(hn:(L0 e).length<n)(hm:n<=50001):EOk 60000 e:=(b4L k x n e h hn hm).mono (by omega)
theorem b1V{d:Nat}:∀{l:List GStmt} {s:GStmt},s∈l->(prS s d).length<=(R3 l d).length
 |[],_,h=>by cases h
 |a :: l,s,h=>by
  rw[a0F,List.length_append];rcases List.mem_cons.1 h with rfl|h
  ·omega
  ·have:=b1V (d:=d) h;omega
theorem d17{k x d:Nat}{s:GStmt}(h:WS k x s):0<(prS s d).length:=by
 cases k with
 |zero=>exact h.elim
 |succ k=>
  rcases h.2 with⟨q,E,a,m,h1,h2,rfl⟩|⟨q,ag,a,m,h1,h2,rfl⟩|⟨q,ps,b,a,h1,h2,h3,rfl⟩|⟨q,E,b,a,m,h1,h2,h3,rfl⟩|⟨E,b,l,a,m,h1,h2,h3,rfl⟩|⟨t,a,h1,rfl⟩
  ·rw[b70,D4];omega
  ·rw[b71,D4];omega
  ·rw[b72,List.length_append,D4];omega
  ·rw[b73,List.length_append,D4];omega
  ·rw[b74,List.length_append,D4];omega
  ·rw[b75,D4];omega
theorem b1U{k x d:Nat}:∀{l:List GStmt},(∀s∈l,WS k x s)->l.length<=(R3 l d).length
 |[],_=>by simp
 |s :: l,h=>by
  have h1:=d17 (d:=d) (h s (by simp));have h2:=b1U (d:=d) fun c hc=>h c (List.mem_cons_of_mem s hc)
  rw[a0F,List.length_append,List.length_cons];omega
theorem b65(q:Ag):(a3v L0 q).length=q.1.length+3+(L0 q.2).length:=by
 unfold a3v;rw[List.length_append,List.length_append];rfl
theorem b49:∀(k x d n:Nat) (s:GStmt),WS k x s->(prS s d).length<n->n<=50001->SOk n s
 |0,_,_,_,_,h,_,_=>h.elim
 |k+1,x,d,0,_,_,h,_=>absurd h (by omega)
 |k+1,x,d,n+1,s,⟨_,h⟩,hn,hm=>by
  have ih:=fun(l:List GStmt) (hw:∀c∈l,WS k (x+1) c) (hl:(R3 l (d+1)).length<n) (c:GStmt) (hc:c∈l)=>b49 k (x+1) (d+1) n c (hw c hc) (Nat.lt_of_le_of_lt (b1V hc) hl) (by omega)
  have cnt:=fun(l:List GStmt) (hw:∀c∈l,WS k (x+1) c)=>b1U (d:=d+1) hw
  rcases h with⟨q,E,a,m,h1,h2,rfl⟩|⟨q,ag,a,m,h1,h2,rfl⟩|⟨q,ps,b,a,h1,h2,h3,rfl⟩|⟨q,E,b,a,m,h1,h2,h3,rfl⟩|⟨E,b,l,a,m,h1,h2,h3,rfl⟩|⟨t,a,h1,rfl⟩
  ·rw[b70,D4]at hn;simp only[List.length_append,List.length_cons,List.length_nil]at hn;exact .inl ⟨q,E,a,h1,d1O h2 (n:=n) (by omega) (by omega),rfl⟩
  ·rw[b71,D4]at hn;simp only[List.length_append,List.length_cons,List.length_nil]at hn;have hc:=a4Q (c:=44) (d:=32) (ag.map (a3v L0));rw[List.length_map]at hc;refine .inr (.inl ⟨q,ag,a,h1,by omega,fun c hc=>⟨(h2 c hc).1,d1O (h2 c hc).2 (n:=n) ?_ (by omega)⟩,rfl⟩);have:=a0b (sep:=[44,32]) (List.mem_map_of_mem (f:=a3v L0) hc);rw[b65]at this;omega
  ·rw[b72,List.length_append,List.length_append,D4]at hn;simp only[List.length_append,List.length_cons,List.length_nil]at hn;have hc:=a4Q (c:=44) (d:=32) ps;have hb:=cnt b h3;exact .inr (.inr (.inl ⟨q,ps,b,a,h1,by omega,h2,by omega,ih b h3 (by omega),rfl⟩))
  ·rw[b73,List.length_append,List.length_append,D4]at hn;simp only[List.length_append,List.length_cons,List.length_nil]at hn;have hb:=cnt b h3;exact .inr (.inr (.inr (.inl ⟨q,E,b,a,h1,d1O h2 (n:=n) (by omega) (by omega),by omega,ih b h3 (by omega),rfl⟩)))
  ·rw[b74,List.length_append,List.length_append,List.length_append,D4]at hn;have hl:(R3 l (d+1)).length<=(if l.isEmpty=true then([]:d7)else lnS d ([125,32,101,108,115,101] ++ [32,123])++R3 l (d+1)).length:=by
    cases l with
    |nil=>rw[a40];simp
    |cons c l=>simp only[List.isEmpty_cons,Bool.false_eq_true,if_false,List.length_append];omega
   simp only[List.length_append,List.length_cons,List.length_nil]at hn hl;have hb:=cnt b h2;have hb2:=cnt l h3;exact .inr (.inr (.inr (.inr (.inl ⟨E,b,l,a,d1O h1 (n:=n) (by omega) (by omega),by omega,ih b h2 (by omega),by omega,ih l h3 (by omega),rfl⟩))))
  ·rw[b75,D4]at hn;simp only[List.length_append,List.length_cons,List.length_nil]at hn;have:=c0k t;exact .inr (.inr (.inr (.inr (.inr ⟨t,a,by omega,rfl⟩))))
theorem c0s(s:GStmt):S6 N (erS s)=S6 N s:=by
 unfold S6;simp only[b1q]
theorem c60(s:GStmt):J8 N (erS s)=J8 N s:=by
 unfold J8;simp only[a4H]
theorem c6V(s:GStmt)(x:Int):E0 N (erS s) x=E0 N s x:=by
 unfold E0;simp only[GStmt.eta2];simp only[c0s,c60,b1q,b7r,b7s,b1r,a4H,a7D,a7C,b0z,a2F]
theorem b0j{r:List GStmt->Option Int}(hr:∀l,r (erL l)=r l)(l:List GStmt)(c:Int)(k:Int->Option Int):∀(n:Nat) (s i:Int),a5x N r (erL l) c k n s i=a5x N r l c k n s i
 |0,_,_=>rfl
 |n+1,s,i=>by
  have ih:=b0j hr l c k n;show X1 _ _ _ _ _ _ _ _=X1 _ _ _ _ _ _ _ _;unfold X1;simp only[b51,b5U,GStmt.eta2];simp only[c0s,hr,ih,a4H,a7D,a7C,b0z]
theorem b8h:∀(d:Nat) (l:List GStmt),t7 N d (erL l)=t7 N d l
 |0,_=>rfl
 |d+1,l=>by
  show E8 _ _ _=E8 _ _ _;unfold E8;rw[b0j (b8h d),a2F]
theorem b2j{r:List GStmt->Int->Option Int}(hr:∀l x,r (erL l) x=r l x)(x:Int)(l:List GStmt)(c:Int)(k:Option Int):∀(n:Nat) (i:Int),a6Q N r x (erL l) c k n i=a6Q N r x l c k n i
 |0,_=>rfl
 |n+1,i=>by
  have ih:=b2j hr x l c k n;show X0 _ _ _ _ _ _ _ _=X0 _ _ _ _ _ _ _ _;unfold X0;simp only[b51,b5U,GStmt.eta2];simp only[c6V,c0s,hr,ih,a4H,a7D,a7C,b0z]
theorem c2B:∀(d:Nat) (l:List GStmt) (x:Int),l7 N d (erL l) x=l7 N d l x
 |0,_,_=>rfl
 |d+1,l,x=>by
  show n7 _ _ _ _=n7 _ _ _ _;unfold n7;rw[b2j (c2B d),a2F]
theorem b8g(l:List GStmt):m7 N (erL l)=m7 N l:=by
 unfold m7;simp only[b8h,c2B]
theorem c6w(hN:J0<=N){s:d7}{x:List A6}{G:List GStmt}{T:Mk}(t1:M5 N s=some (x,0,0))(V:Wc N x (s.length:Int))
  (eP:a1M N 0 0 (s.length:Int) false 0 x=some ((x.length:Int),(s.length:Int),false,0,x,G,T)) (hT:∀m∈T,m.2<30) (hc:m7 N G=some 0):
  G.length<=50000/\(∀g∈G,SOk 50001 g)/\D9 N s=some (G,0,0):=by
 have hx:=V.wl;have hb:1000000<N:=by unfold J0 at hN;omega
 have lp:=a9A V (p:=0)
  (K:=fun o0_0_0 o0_0_1 o0_0_2 o0_w950001=>some (.ok (o0_w950001,(0:Int),true,o0_0_0,o0_0_1,o0_0_2,(0:Int),true,o0_w950001)))
  (k0:=fun o0_0_1 o0_0_2 o0_0_3 o0_0_4 o0_w1 o0_w1005 o0_w950001=>some (o0_0_1,o0_0_2,o0_0_3,o0_0_4,o0_w1,o0_w1005,o0_w950001))
  x.length 0 N N [] [] (by omega) (by omega) (by omega) (by simp) (by simp) Pos.nil (by simp) (by simp)
 have eY:G6 N x (s.length:Int) (-1) 0 false=b0q N (fun o0_0_0 o0_0_1 o0_0_2 o0_w950001=>some (.ok (o0_w950001,(0:Int),true,o0_0_0,o0_0_1,o0_0_2,(0:Int),true,o0_w950001))) N (x.drop 0) (s.length:Int) (dp (-1) []) []:=rfl;have eP2:a1M N 0 0 (s.length:Int) false 0 x=A8 N 0 (fun o0_0_1 o0_0_2 o0_0_3 o0_0_4 o0_w1 o0_w1005 o0_w950001=>some (o0_0_1,o0_0_2,o0_0_3,o0_0_4,o0_w1,o0_w1005,o0_w950001)) N ((0:Nat):Int) (s.length:Int) false 0 x [] []:=rfl;rcases lp with⟨Hs,T',h1,h2,h3,h4,u1,u2⟩|⟨c,u1,u2⟩
 ·rw[<-eY]at u1;rw[<-eP2,eP]at u2;simp only[Option.some.injEq,Prod.mk.injEq]at u2;obtain⟨_,_,_,_,_,rfl,rfl⟩:=u2;have aOk:y8 N x (s.length:Int) (-1)=some (G,0,true,dp (-1) T):=by
   unfold y8;rw[u1]
  refine⟨h1,h4.1,?_⟩;have e1:M3 N s=some (G,0,0):=by
   unfold M3;rw[t1,d2];simp only[bne_self_eq_false,d9,aOk,d2,Bool.not_true];rw[b7m T hT,decide_eq_false (by decide),d9,hc,d2,bne_self_eq_false,d9]
  unfold D9;rw[e1]
 ·exfalso;rw[<-eP2,eP]at u2;rcases u2 with⟨b,ys,L,u2⟩|⟨j,ys,L,hj,_,u2⟩
  ·simp at u2
  ·simp only[Option.some.injEq,Prod.mk.injEq]at u2;omega
theorem b4u(hN:J0<=N){k:Nat}{l:List GStmt}(hw:∀s∈l,WS k 0 s){S:d7}(hS:LK S (H2 l))(hl:S.length<=50000)(hc:m7 N l=some 0):
  ∃m:List GStmt,m.length<=50000/\(∀s∈m,SOk 50001 s)/\erL m=erL l/\D9 N S=some (m,0,0)/\m7 N m=some 0/\∃toks,LX S.length S toks/\∀s l',l=s :: l'->∃g G',m=g :: G'/\g.at_=S9 toks 0 (S.length:Int):=by
 have hb:1000000<N:=by unfold J0 at hN;omega
 obtain⟨toks,t1,t2⟩:=hS.lx S.length (Nat.le_refl _);have hx:toks.length<=50000:=Nat.le_trans t1.len hl;obtain⟨hok,f1⟩:=d7r (N:=N) (by omega) S hl t1 0 rfl (Nat.zero_le _);have f2:M5 N S=some (toks,0,0):=by
  unfold M5;rw[decide_eq_false (show ¬(S.length:Int)>50000 by omega),d9];exact f1 N [] (by simpa using hx) (by omega)
 have V:Wc N toks (S.length:Int):=⟨hN,hx,hok,by omega⟩;have hlen:toks.length=(H2 l).length:=by rw[<-t2,List.length_map]
 have hcnt:=b2s hw;obtain⟨T,G,g1,g2,g3,g4⟩:=c2Q V (k:=k) (x:=0) (p:=0) (K:=fun o0_0_1 o0_0_2 o0_0_3 o0_0_4 o0_w1 o0_w1005 o0_w950001=>some (o0_0_1,o0_0_2,o0_0_3,o0_0_4,o0_w1,o0_w1005,o0_w950001))
  l N 0 [] [] hw (by omega) (by simp) (by simp) ⟨[],by simp[t2]⟩ (by omega)
 rw[Nat.zero_add,<-hlen]at g4;have c3:m7 N G=some 0:=by rw[<-b8g,g3.1,b8g,hc]
 obtain⟨h1,h2,h3⟩:=c6w hN f2 V g4 (fun m hm=>by have:=(g1 m hm).2.2;omega) c3;exact⟨G,h1,h2,g3.1,h3,c3,toks,t1,g3.2⟩
theorem again(hN:J0<=N){l:List GStmt}(hw:∀s∈l,WS zz 0 s)(hl:(R3 l 0).length<=50000)(hc:m7 N l=some 0):
  l.length<=50000/\(∀s∈l,SOk 50001 s)/\∃m:List GStmt,m.length<=50000/\(∀s∈m,SOk 50001 s)/\erL m=erL l/\D9 N (R3 l 0)=some (m,0,0)/\m7 N m=some 0:=
 ⟨Nat.le_trans (b1U (d:=0) hw) hl,fun s h=>b49 zz 0 0 50001 s (hw s h) (Nat.lt_succ_of_le (Nat.le_trans (b1V h) hl)) (Nat.le_refl _),let ⟨m,h1,h2,h3,h4,h5,_⟩:=b4u hN hw (d1Z hw) hl hc;⟨m,h1,h2,h3,h4,h5⟩⟩
end
section
variable{N:Nat}
theorem c6L:∀t:d7,(rpE t).length<=2*t.length
 |[]=>by simp[rpE]
 |c :: t=>by
  have ih:=c6L t;have e:rpE (c :: t)=rpF c++rpE t:=by unfold rpE;rw[List.flatMap_cons]
  have h1:=a7P c;have h2:(if a6x c=true then 1 else 0)<=1:=by split<;>omega
  rw[e,List.length_append,List.length_cons];omega
theorem c0l(t:d7):(rpQ t).length<=2*t.length+2:=by
 have:=c6L t;unfold rpQ;simp only[List.length_append,List.length_cons,List.length_nil];omega
theorem a5I{α:Type}(f:α->d7)(g:α->Nat)(c d:UInt8):∀(l:List α),(∀x∈l,(f x).length+2<=g x)->(Lib.join (l.map f) [c,d]).length<=(l.map g).sum
 |[],_=>by simp[Lib.join]
 |[x],h=>by
  have:=h x (by simp);rw[List.map_cons,List.map_nil,Lib.join_one,List.map_cons,List.map_nil,List.sum_cons,List.sum_nil];omega
 |x :: y :: r,h=>by
  have h1:=h x (by simp);have ih:=a5I f g c d (y :: r) fun z hz=>h z (List.mem_cons_of_mem _ hz)
  simp only[List.map_cons,List.sum_cons]at ih ⊢;rw[a19,List.length_append,List.length_append];simp only[List.length_cons,List.length_nil];omega
theorem a3T{α:Type}(g:α->Nat)(q:Nat):∀(l:List α),(l.map fun x=>q*g x).sum=q*(l.map g).sum
 |[]=>by simp
 |x :: l=>by rw[List.map_cons,List.map_cons,List.sum_cons,List.sum_cons,a3T g q l,Nat.mul_add]
theorem c2G{α β:Type}(f:α->Nat)(g:β->Nat):∀(l:List α) (m:List β),((l.zip m).map fun z=>f z.1+g z.2).sum<=(l.map f).sum+(m.map g).sum
 |[],_=>by simp
 |_ :: _,[]=>by simp
 |x :: l,y :: m=>by
  have:=c2G f g l m;rw[List.zip_cons_cons,List.map_cons,List.map_cons,List.map_cons,List.sum_cons,List.sum_cons,List.sum_cons];simp only;omega
theorem b0G(b:Bool)(s:d7):(a3M b s).length<=s.length+2:=by cases b<;>simp[a3M]
theorem a4Y:∀(k x:Nat) (e:GExpr),WE k x e->(L0 e).length+10<=32*e.bulk
 |0,_,_,h=>h.elim
 |k+1,x,e,⟨_,h⟩=>by
  have ih:=fun x c hc=>a4Y k x c hc
  rcases h with⟨t,h1,rfl⟩|⟨m,h1,rfl⟩|⟨t,h1,rfl⟩|⟨es,rfl,h1⟩|⟨a,b,rfl,h1,h2⟩|⟨ks,es,h1,h2,h3,rfl,h4⟩|⟨a,b,rfl,h1,h2⟩|⟨a,b,rfl,h1,h2⟩
  ·have:=c0l t;rw[b7Y,a0M];omega
  ·have e:Lib.itoa (m:Int)=Lib.decDigits m:=by unfold Lib.itoa;rw[if_neg (by omega)];simp
   have:=b5W 8 m (by omega);rw[c6A,a0M,e];omega
  ·rw[c2p,a0M];omega
  ·have hj:=a5I L0 (fun c=>32*c.bulk) 44 32 es fun c hc=>by have:=ih _ c (h1 c hc);omega
   rw[a3T]at hj;rw[c2q,a0M,List.length_append,List.length_append];simp only[List.length_cons,List.length_nil];omega
  ·have hj:=a5I L0 (fun c=>32*c.bulk) 44 32 [a,b] fun c hc=>by
    simp only[List.mem_cons,List.mem_nil_iff,or_false]at hc;rcases hc with rfl|rfl
    ·have:=ih _ _ h1;omega
    ·have:=ih _ _ h2;omega
   rw[a3T]at hj;rw[c2r,a0M,List.length_append,List.length_append];simp only[List.length_cons,List.length_nil];omega
  ·have hj:=a5I (fun z:d7×GExpr=>rpQ z.1 ++ [58,32]++L0 z.2) (fun z=>32*(z.1.length+1)+32*z.2.bulk) 44 32 (ks.zip es) fun z hz=>by
    have g1:=ih _ _ (h4 _ (List.of_mem_zip hz).2);have g2:=c0l z.1;simp only[List.length_append,List.length_cons,List.length_nil];omega
   have hs:=c2G (fun q:d7=>32*(q.length+1)) (fun c:GExpr=>32*c.bulk) ks es;rw[a3T (fun q:d7=>q.length+1),a3T GExpr.bulk]at hs;rw[c2s,a0M,a2S,List.length_append,List.length_append];have hj:(Lib.join ((ks.zip es).map fun z=>rpQ z.1 ++ [58,32]++L0 z.2) [44,32]).length<=_:=hj;simp only[List.length_cons,List.length_nil];show 8+(Lib.join ((ks.zip es).map fun z=>rpQ z.1 ++ [58,32]++L0 z.2) [44,32]).length+1+10<=_;omega
  ·have g1:=ih _ _ h1;have g2:=ih _ _ h2;have q1:=b0G (T9 7 a.kind 0) (L0 a);have q2:=b0G (T9 7 b.kind 1) (L0 b);rw[c2t,a0M,List.length_append,List.length_append];simp only[List.length_cons,List.length_nil,List.map_cons,List.map_nil,List.sum_cons,List.sum_nil];omega
  ·have g1:=ih _ _ h1;have g2:=ih _ _ h2;have q1:=b0G (T9 8 a.kind 0) (L0 a);have q2:=b0G (T9 8 b.kind 1) (L0 b);rw[c2u,a0M,List.length_append,List.length_append];simp only[List.length_cons,List.length_nil,List.map_cons,List.map_nil,List.sum_cons,List.sum_nil];omega
theorem a9z{k x d:Nat}(ih:∀c,WS k x c->(prS c d).length<=32*c.bulk):∀l:List GStmt,(∀c∈l,WS k x c)->(R3 l d).length<=32*(l.map GStmt.bulk).sum
 |[],_=>by rw[a40];simp
 |s :: l,h=>by
  have h1:=ih s (h s (by simp));have h2:=a9z ih l fun c hc=>h c (List.mem_cons_of_mem _ hc)
  rw[a0F,List.length_append,List.map_cons,List.sum_cons];omega
theorem b76:∀(k x d:Nat) (s:GStmt),d<=x->WS k x s->(prS s d).length<=32*s.bulk
 |0,_,_,_,_,h=>h.elim
 |k+1,x,d,s,hd,⟨hx,h⟩=>by
  have ihs:=fun(l:List GStmt) (hl:∀c∈l,WS k (x+1) c)=>a9z (d:=d+1) (fun c hc=>b76 k (x+1) (d+1) c (by omega) hc) l hl
  rcases h with⟨q,E,a,m,h1,h2,rfl⟩|⟨q,ag,a,m,h1,h2,rfl⟩|⟨q,ps,b,a,h1,h2,h3,rfl⟩|⟨q,E,b,a,m,h1,h2,h3,rfl⟩|⟨E,b,l,a,m,h1,h2,h3,rfl⟩|⟨t,a,h1,rfl⟩
  ·have hE:=a4Y _ _ _ h2;rw[b70,D4,a04];simp only[List.length_append,List.length_cons,List.length_nil];omega
  ·have hj:=a5I (a3v L0) (fun c:Ag=>32*(c.1.length+1+c.2.bulk)) 44 32 ag fun c hc=>by
    have:=a4Y _ _ _ (h2 c hc).2;rw[b65];omega
   rw[a3T]at hj;rw[b71,D4,a04];simp only[List.length_append,List.length_cons,List.length_nil];omega
  ·have hj:=a5I (fun p:d7=>p) (fun p=>32*(p.length+1)) 44 32 ps fun c hc=>by omega
   rw[a3T (fun p:d7=>p.length+1),List.map_id']at hj;have hb:=ihs b h3;rw[b72,List.length_append,List.length_append,D4,D4,a04];simp only[List.length_append,List.length_cons,List.length_nil];omega
  ·have hE:=a4Y _ _ _ h2;have hb:=ihs b h3;rw[b73,List.length_append,List.length_append,D4,D4,a04];simp only[List.length_append,List.length_cons,List.length_nil];omega
  ·have hE:=a4Y _ _ _ h1;have hb:=ihs b h2;have hb2:=ihs l h3;have hl:(if l.isEmpty=true then([]:d7)else lnS d ([125,32,101,108,115,101] ++ [32,123])++R3 l (d+1)).length<=(R3 l (d+1)).length+2*d+9:=by
    cases l with
    |nil=>simp
    |cons c l=>
     simp only[List.isEmpty_cons,Bool.false_eq_true,if_false];rw[List.length_append,D4];simp only[List.length_append,List.length_cons,List.length_nil];omega
   rw[b74,List.length_append,List.length_append,List.length_append,D4,D4,a04];simp only[List.length_append,List.length_cons,List.length_nil]at hl ⊢;omega
  ·have:=c0l t;rw[b75,D4,a04];simp only[List.length_append,List.length_cons,List.length_nil];omega
theorem c4y{l:List GStmt}(h:∀c∈l,WS zz 0 c):(R3 l 0).length<=32*(l.map GStmt.bulk).sum:=a9z (fun c hc=>b76 zz 0 0 c (Nat.le_refl _) hc) l h
end
end Go.Proofs.YtolpmfhiegpohaaGreatDoor
