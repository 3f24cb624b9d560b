/- Law 48: both count alike. -/
import Derived.Test.YtolpmfhiegpohaaGreatDoorQLPaB
namespace Go.Proofs.YtolpmfhiegpohaaGreatDoor
set_option linter.unusedVariables false
set_option linter.unusedSimpArgs false
open Go Go.RowKit
section
variable{N:Nat}
abbrev W64:Int->Int:=IntKind.i64.wrap
theorem W_l(a b:Int):IntKind.i64.wrap (IntKind.i64.wrap a+b)=IntKind.i64.wrap (a+b):=by
 simp only[IntKind.wrap,IntKind.signed,IntKind.bits]
 simp
 split<;>split<;>split<;>omega
theorem W_r(a b:Int):IntKind.i64.wrap (a+IntKind.i64.wrap b)=IntKind.i64.wrap (a+b):=by
 rw[Int.add_comm,W_l,Int.add_comm]
theorem W_m(a b c:Int):IntKind.i64.wrap (a+(IntKind.i64.wrap b+IntKind.i64.wrap c))=IntKind.i64.wrap (a+(b+c)):=by
 rw[<-W_r a (IntKind.i64.wrap b+IntKind.i64.wrap c),W_l,W_r b c,W_r]
theorem GStmt.eta(s:GStmt):GStmt.mk s.kind s.name s.text s.params s.args s.expr s.body s.els s.at_=s:=by cases s;rfl
theorem EOk.kids{k:Nat}{e:GExpr}(h:EOk (k+1) e):e.kids.length<=50000/\∀c∈e.kids,EOk k c:=by
 have two:∀a b:GExpr,EOk k a->EOk k b->∀c ∈ [a,b],EOk k c:=fun a b ha hb c hc=>by
  rcases List.mem_cons.1 hc with rfl|hc
  ·exact ha
  ·rw[List.mem_singleton.1 hc];exact hb
 rcases h with⟨t,h1,rfl⟩|⟨m,rfl⟩|⟨t,h1,h2,rfl⟩|⟨es,h1,rfl,h3⟩|⟨a,b,rfl,h2,h3⟩|⟨ks,es,h0,hp,h1,h4,rfl,h3⟩|⟨a,b,rfl,h2,h3⟩|⟨a,b,rfl,h2,h3⟩
 ·exact⟨by simp[L1],by simp[L1]⟩
 ·exact⟨by simp[L1],by simp[L1]⟩
 ·exact⟨by simp[L1],by simp[L1]⟩
 ·exact⟨h1,h3⟩
 ·exact⟨by simp[L1],two a b h2 h3⟩
 ·exact⟨h1,h3⟩
 ·exact⟨by simp[L1],two a b h2 h3⟩
 ·exact⟨by simp[L1],two a b h2 h3⟩
theorem b7y{S R:GExpr->Option Int}{es:List GExpr}(hl:es.length<=50000)(hc:∀c∈es,∃v,S c=some (W64 v)/\R c=some (W64 v)):∀(u j:Nat),j+u=es.length->∃c:Int,∀(f1 f2:Nat),u<f1->u<f2->∀z:Int,
  b4N N S es (es.length:Int) (fun o=>some o) f1 (W64 z) (j:Int)=some (W64 (z+c))/\b4Q N R es (es.length:Int) (fun o=>some o) f2 (W64 z) (j:Int)=some (W64 (z+c))
 |0,j,hj=>⟨0,fun f1 f2 h1 h2 z=>by
  obtain⟨f1,rfl⟩:∃q,f1=q+1:=⟨f1-1,by omega⟩
  obtain⟨f2,rfl⟩:∃q,f2=q+1:=⟨f2-1,by omega⟩
  obtain rfl:j=es.length:=by omega
  show a3T _ _ _ _ _ _ _ _=_/\a3Y _ _ _ _ _ _ _ _=_
  unfold a3T a3Y
  rw[a1f,d6,d6,Int.add_zero]
  exact⟨rfl,rfl⟩⟩
 |u+1,j,hj=>by
  have h:j<es.length:=by omega
  obtain⟨c,ih⟩:=b7y hl hc u (j+1) (by omega)
  obtain⟨v,e1,e2⟩:=hc _ (List.getElem_mem h)
  refine⟨v+c,fun f1 f2 h1 h2 z=>?_⟩
  obtain⟨f1,rfl⟩:∃q,f1=q+1:=⟨f1-1,by omega⟩
  obtain⟨f2,rfl⟩:∃q,f2=q+1:=⟨f2-1,by omega⟩
  show a3T _ _ _ _ _ _ _ _=_/\a3Y _ _ _ _ _ _ _ _=_
  unfold a3T a3Y
  rw[a0Z h,d4,d4,o9 _ h]
  simp only[b9,GExpr.eta,e1,e2,O4 (n:=(j:Int)+1) (m:=j+1) (by omega) (by omega),W64,W_l,W_r]
  have:=ih f1 f2 (by omega) (by omega) (z+v)
  rw[<-Int.add_assoc]
  exact this
theorem b0W(hN:L7<=N):∀(k:Nat) (e:GExpr),EOk k e->∀n,k<=n->∃v,Q3 N n e=some (W64 v)/\T1 N n e=some (W64 v)
 |0,e,h,_,_=>h.elim
 |k+1,e,h,n,hn=>by
  obtain⟨n,rfl⟩:∃q,n=q+1:=⟨n-1,by omega⟩
  obtain⟨h1,h2⟩:=h.kids
  obtain⟨c,hc⟩:=b7y (N:=N) (S:=Q3 N n) (R:=T1 N n) h1 (fun c hc=>b0W hN k c (h2 c hc) n (by omega)) e.kids.length 0 (by omega)
  have:=hc N N (by unfold L7 at hN;omega) (by unfold L7 at hN;omega) 1
  exact⟨1+c,this.1,this.2⟩
theorem b4g(hN:L7<=N){SB RB:List GStmt->Option Int}{ag:List Ag}(hl:ag.length<=50000)(hc:∀q∈ag,EOk 60000 q.2):∀(u j:Nat),j+u=ag.length->∃c:Int,∀(f1 f2:Nat),u<f1->u<f2->∀(z:Int) (K1 K2:Int->Option Int),
  b1k N SB ag (ag.length:Int) K1 f1 (W64 z) (j:Int)=K1 (W64 (z+c))/\b1E N RB ag (ag.length:Int) K2 f2 (W64 z) (j:Int)=K2 (W64 (z+c))
 |0,j,hj=>⟨0,fun f1 f2 h1 h2 z K1 K2=>by
  obtain⟨f1,rfl⟩:∃q,f1=q+1:=⟨f1-1,by omega⟩
  obtain⟨f2,rfl⟩:∃q,f2=q+1:=⟨f2-1,by omega⟩
  obtain rfl:j=ag.length:=by omega
  show a3M _ _ _ _ _ _ _ _=_/\a3W _ _ _ _ _ _ _ _=_
  unfold a3M a3W
  rw[a1f,d6,d6,Int.add_zero]
  exact⟨rfl,rfl⟩⟩
 |u+1,j,hj=>by
  have h:j<ag.length:=by omega
  obtain⟨c,ih⟩:=b4g hN (SB:=SB) (RB:=RB) hl hc u (j+1) (by omega)
  obtain⟨v,e1,e2⟩:=b0W hN 60000 _ (hc _ (List.getElem_mem h)) N (by unfold L7 at hN;omega)
  refine⟨v+c,fun f1 f2 h1 h2 z K1 K2=>?_⟩
  obtain⟨f1,rfl⟩:∃q,f1=q+1:=⟨f1-1,by omega⟩
  obtain⟨f2,rfl⟩:∃q,f2=q+1:=⟨f2-1,by omega⟩
  show a3M _ _ _ _ _ _ _ _=_/\a3W _ _ _ _ _ _ _ _=_
  unfold a3M a3W
  rw[a0Z h,d4,d4,o9 _ h]
  simp only[b9,GExpr.eta,e1,e2,O4 (n:=(j:Int)+1) (m:=j+1) (by omega) (by omega),W64,W_l,W_r]
  have:=ih f1 f2 (by omega) (by omega) (z+v) K1 K2
  rw[<-Int.add_assoc]
  exact this
def b8M(G:GStmt):Bool:=G.kind==1||(G.kind==4||G.kind==5)
structure SParts(k:Nat)(G:GStmt):Prop where
 args:G.args.length<=50000/\∀q∈G.args,EOk 60000 q.2
 expr:(b8M G=true/\EOk 60000 G.expr)\/(b8M G=false/\G.expr=zE)
 body:G.body.length<=50000/\∀c∈G.body,SOk k c
 els:G.els.length<=50000/\∀c∈G.els,SOk k c
 kind:G.kind=1\/G.kind=2\/G.kind=3\/G.kind=4\/G.kind=5\/G.kind=6
theorem SOk.parts{k:Nat}{G:GStmt}(h:SOk (k+1) G):SParts k G:=by
 rcases h with⟨q,E,a,h1,h2,rfl⟩|⟨q,ag,a,h1,h2,h3,rfl⟩|⟨q,ps,b,a,h1,h2,h3,h4,h5,rfl⟩|⟨q,E,b,a,h1,h2,h3,h4,rfl⟩|⟨E,b,l,a,h1,h2,h3,h4,h5,rfl⟩|⟨t,a,h1,rfl⟩
 ·exact⟨⟨by simp[GStmt.args],by simp[GStmt.args]⟩,.inl ⟨rfl,h2⟩,⟨by simp[GStmt.body],by simp[GStmt.body]⟩,⟨by simp[GStmt.els],by simp[GStmt.els]⟩,.inl rfl⟩
 ·exact⟨⟨h2,fun q hq=>(h3 q hq).2⟩,.inr ⟨rfl,rfl⟩,⟨by simp[GStmt.body],by simp[GStmt.body]⟩,⟨by simp[GStmt.els],by simp[GStmt.els]⟩,.inr (.inl rfl)⟩
 ·exact⟨⟨by simp[GStmt.args],by simp[GStmt.args]⟩,.inr ⟨rfl,rfl⟩,⟨h4,h5⟩,⟨by simp[GStmt.els],by simp[GStmt.els]⟩,.inr (.inr (.inl rfl))⟩
 ·exact⟨⟨by simp[GStmt.args],by simp[GStmt.args]⟩,.inl ⟨rfl,h2⟩,⟨h3,h4⟩,⟨by simp[GStmt.els],by simp[GStmt.els]⟩,.inr (.inr (.inr (.inl rfl)))⟩
 ·exact⟨⟨by simp[GStmt.args],by simp[GStmt.args]⟩,.inl ⟨rfl,h1⟩,⟨h2,h3⟩,⟨h4,h5⟩,.inr (.inr (.inr (.inr (.inl rfl))))⟩
 ·exact⟨⟨by simp[GStmt.args],by simp[GStmt.args]⟩,.inr ⟨rfl,rfl⟩,⟨by simp[GStmt.body],by simp[GStmt.body]⟩,⟨by simp[GStmt.els],by simp[GStmt.els]⟩,.inr (.inr (.inr (.inr (.inr rfl))))⟩
theorem c9v{k:Nat}{G:GStmt}(h:SParts k G):∃hs,F9 N G=some hs/\hs.2.2.2.2.1=b8M G:=by
 unfold F9 b8M
 rcases h.kind with e|e|e|e|e|e<;>rw[e]<;>simp
theorem e1J{k:Nat}{G:GStmt}(P:SParts k G):(br (G.kind==1) (some true) (br (G.kind==4) (some true) (br (G.kind==5) (some true) (f5 (O0 N G.expr) fun t40=>some (!t40)))))=some (b8M G):=by
 rcases P.expr with⟨hE,hOk⟩|⟨hE,hz⟩
 ·rw[hE]
  unfold b8M at hE
  simp only[Bool.or_eq_true]at hE
  rcases hE with e|e|e
  ·rw[e];simp
  ·rw[e];cases G.kind==1<;>simp
  ·rw[e];cases G.kind==1<;>cases G.kind==4<;>simp
 ·rw[hE,hz]
  unfold b8M at hE
  simp only[Bool.or_eq_false_iff]at hE
  rw[hE.1,hE.2.1,hE.2.2]
  simp[O0,a0R,a3g,a0E,a1m,L1]
theorem b3F(hN:L7<=N){SB RB:List GStmt->Option Int}{k:Nat}{Gs:List GStmt}(hl:Gs.length<=50000)(hG:∀G∈Gs,SParts k G)
  (hB:∀l:List GStmt,l.length<=50000->(∀c∈l,SOk k c)->∃v,SB l=some (W64 v)/\RB l=some (W64 v)):∀(u j:Nat),j+u=Gs.length->∃c:Int,∀(f1 f2:Nat),u<f1->u<f2->∀z:Int,
  a5m N SB Gs (Gs.length:Int) (fun o=>some o) f1 (W64 z) (j:Int)=some (W64 (z+c))/\a5o N RB Gs (Gs.length:Int) (fun o=>some o) f2 (W64 z) (j:Int)=some (W64 (z+c))
 |0,j,hj=>⟨0,fun f1 f2 h1 h2 z=>by
  obtain⟨f1,rfl⟩:∃q,f1=q+1:=⟨f1-1,by omega⟩
  obtain⟨f2,rfl⟩:∃q,f2=q+1:=⟨f2-1,by omega⟩
  obtain rfl:j=Gs.length:=by omega
  show a0s _ _ _ _ _ _ _ _=_/\a0u _ _ _ _ _ _ _ _=_
  unfold a0s a0u
  rw[a1f,d6,d6,Int.add_zero]
  exact⟨rfl,rfl⟩⟩
 |u+1,j,hj=>by
  have h:j<Gs.length:=by omega
  obtain⟨c,ih⟩:=b3F hN hl hG hB u (j+1) (by omega)
  have P:=hG _ (List.getElem_mem h)
  obtain⟨cb,b1,b2⟩:=hB _ P.body.1 P.body.2
  obtain⟨ce,l1,l2⟩:=hB _ P.els.1 P.els.2
  obtain⟨hs,q1,q2⟩:=c9v (N:=N) P
  obtain⟨ca,ha⟩:=b4g hN (SB:=SB) (RB:=RB) P.args.1 P.args.2 Gs[j].args.length 0 (by omega)
  have hbN:1000000<N:=by unfold L7 at hN;omega
  have ha':=fun z K1 K2=>ha N N (by have:=P.args.1;omega) (by have:=P.args.1;omega) z K1 K2
  have hw:=O4 (n:=(j:Int)+1) (m:=j+1) (by omega) (by omega)
  have hc:=e1J (N:=N) P
  have ha1:=fun z K1=>(ha' z K1 (fun _=>none)).1
  have ha2:=fun z K2=>(ha' z (fun _=>none) K2).2
  rcases P.expr with⟨hE,hOk⟩|⟨hE,hz⟩
  ·obtain⟨m,m1,m2⟩:=b0W hN 60000 _ hOk N (by omega)
   refine⟨1+cb+ce+m+ca+c,fun f1 f2 h1 h2 z=>?_⟩
   obtain⟨f1,rfl⟩:∃q,f1=q+1:=⟨f1-1,by omega⟩
   obtain⟨f2,rfl⟩:∃q,f2=q+1:=⟨f2-1,by omega⟩
   have ih':=ih f1 f2 (by omega) (by omega) (z+(1+cb+ce+m+ca))
   show a0s _ _ _ _ _ _ _ _=_/\a0u _ _ _ _ _ _ _ _=_
   unfold a0s a0u
   rw[a0Z h,d4,d4,o9 _ h]
   rw[hE]at hc q2
   simp only[b9,GExpr.eta,GStmt.eta,q1,q2,hc,d4,m1,m2,b1,b2,l1,l2,W64,W_l,W_r,W_m,hw]
   rw[show(0:Int)=((0:Nat):Int)from rfl,ha1,ha2]
   simp only[W64,W_l,W_r,W_m]
   have e1:IntKind.i64.wrap (z+(1+IntKind.i64.wrap cb+IntKind.i64.wrap ce)+m+ca)=IntKind.i64.wrap (z+(1+cb+ce+m+ca)):=by
    rw[show z+(1+IntKind.i64.wrap cb+IntKind.i64.wrap ce)+m+ca=(z+1+m+ca)+(IntKind.i64.wrap cb+IntKind.i64.wrap ce) by omega,W_m]
    congr 1;omega
   rw[e1,show z+1+m+ca+(cb+ce)=z+(1+cb+ce+m+ca) by omega,show z+(1+cb+ce+m+ca+c)=z+(1+cb+ce+m+ca)+c by omega]
   exact ih'
  ·refine⟨1+cb+ce+ca+c,fun f1 f2 h1 h2 z=>?_⟩
   obtain⟨f1,rfl⟩:∃q,f1=q+1:=⟨f1-1,by omega⟩
   obtain⟨f2,rfl⟩:∃q,f2=q+1:=⟨f2-1,by omega⟩
   have ih':=ih f1 f2 (by omega) (by omega) (z+(1+cb+ce+ca))
   show a0s _ _ _ _ _ _ _ _=_/\a0u _ _ _ _ _ _ _ _=_
   unfold a0s a0u
   rw[a0Z h,d4,d4,o9 _ h]
   rw[hE]at hc q2
   simp only[b9,GExpr.eta,GStmt.eta,q1,q2,hc,d6,b1,b2,l1,l2,W64,W_l,W_r,W_m,hw]
   rw[show(0:Int)=((0:Nat):Int)from rfl,ha1,ha2]
   simp only[W64,W_l,W_r,W_m]
   have e1:IntKind.i64.wrap (z+(1+IntKind.i64.wrap cb+IntKind.i64.wrap ce)+ca)=IntKind.i64.wrap (z+(1+cb+ce+ca)):=by
    rw[show z+(1+IntKind.i64.wrap cb+IntKind.i64.wrap ce)+ca=(z+1+ca)+(IntKind.i64.wrap cb+IntKind.i64.wrap ce) by omega,W_m]
    congr 1;omega
   rw[e1,show z+1+ca+(cb+ce)=z+(1+cb+ce+ca) by omega,show z+(1+cb+ce+ca+c)=z+(1+cb+ce+ca)+c by omega]
   exact ih'
theorem b3E(hN:L7<=N):∀(k:Nat) (Gs:List GStmt),Gs.length<=50000->(∀G∈Gs,SOk k G)->∀n,k<n->∃v,F8 N n Gs=some (W64 v)/\M5 N n Gs=some (W64 v)
 |k,Gs,hl,hG,0,hn=>absurd hn (by omega)
 |0,Gs,hl,hG,n+1,hn=>by
  have:Gs=[]:=List.eq_nil_iff_forall_not_mem.2 fun G hg=>hG G hg
  subst this
  obtain⟨f,hf,_⟩:=a7Y hN
  refine⟨0,?_,?_⟩
  ·show a5m N (F8 N n) [] _ _ N 0 0=_
   have:a5m N (F8 N n) [] ((([]:List GStmt).length:Nat):Int) (fun o=>some o) N 0 0=a0s N (F8 N n) [] ((([]:List GStmt).length:Nat):Int) (fun o=>some o) (a5m N (F8 N n) [] ((([]:List GStmt).length:Nat):Int) (fun o=>some o) f) 0 0:=by
    conv=>lhs;arg 6;rw[hf]
    rfl
   rw[this];simp[a0s];rfl
  ·show a5o N (M5 N n) [] _ _ N 0 0=_
   have:a5o N (M5 N n) [] ((([]:List GStmt).length:Nat):Int) (fun o=>some o) N 0 0=a0u N (M5 N n) [] ((([]:List GStmt).length:Nat):Int) (fun o=>some o) (a5o N (M5 N n) [] ((([]:List GStmt).length:Nat):Int) (fun o=>some o) f) 0 0:=by
    conv=>lhs;arg 6;rw[hf]
    rfl
   rw[this];simp[a0u];rfl
 |k+1,Gs,hl,hG,n+1,hn=>by
  obtain⟨c,hc⟩:=b3F hN (SB:=F8 N n) (RB:=M5 N n) hl (fun G hg=>(hG G hg).parts) (fun l h1 h2=>b3E hN k l h1 h2 n (by omega)) Gs.length 0 (by omega)
  have:=hc N N (by unfold L7 at hN;omega) (by unfold L7 at hN;omega) 0
  exact⟨0+c,this.1,this.2⟩
end
noncomputable section
variable{N:Nat}
section
variable(k a:Int)(q t:c8)(ps:List c8)(ag:List Ag)(E:GExpr)(b l:List GStmt)
theorem a3i:(GStmt.mk k q t ps ag E b l a).kind=k:=rfl
theorem d5Z:(GStmt.mk k q t ps ag E b l a).name=q:=rfl
theorem d50:(GStmt.mk k q t ps ag E b l a).text=t:=rfl
theorem b7s:(GStmt.mk k q t ps ag E b l a).params=ps:=rfl
theorem d5W:(GStmt.mk k q t ps ag E b l a).args=ag:=rfl
theorem d5Y:(GStmt.mk k q t ps ag E b l a).expr=E:=rfl
theorem d5X:(GStmt.mk k q t ps ag E b l a).body=b:=rfl
theorem e1L:(GStmt.mk k q t ps ag E b l a).at_=a:=rfl
theorem d9d:(GStmt.mk k q t ps ag E b l a).els=l:=rfl
end
theorem a1G{s:c8}(h:E6 s=true):s.length<=40:=by
 unfold E6 at h
 cases s with
 |nil=>cases h
 |cons b x=>
  simp only[Bool.and_eq_true,decide_eq_true_eq]at h
  exact h.1
theorem a00{s:c8}(h:E6 s=true):(s==([]:c8))=false:=by
 cases s with
 |nil=>cases h
 |cons b x=>rfl
theorem a2M{α R:Type}{p:α->Bool}{v k:R}:∀(l:List α) (j:Nat),(∀s∈l,p s=true)->a2v (fun _ s r=>if(!p s)=true then v else r) k l j=k
 |[],_,_=>rfl
 |s :: l,j,h=>by
  show(if(!p s)=true then v else a2v _ k l (j+1))=k
  rw[h s (List.mem_cons_self ..),a2M l (j+1) fun y hy=>h y (List.mem_cons_of_mem _ hy)]
  simp
theorem b9R{α β R:Type}(f:α->β)(body:Nat->β->R->R)(k:R):∀(l:List α) (j:Nat),a2v body k (l.map f) j=a2v (fun i x r=>body i (f x) r) k l j
 |[],_=>rfl
 |x :: l,j=>by
  show body j (f x) (a2v body k (l.map f) (j+1))=_
  rw[b9R f body k l (j+1)];rfl
theorem cn0(hN:L7<=N)(l:List c8)(hl:l.length<=50000)(h:∀s∈l,E6 s=true)(k:Int):c1W N l (l.length:Int) (some k) N 0=some k:=by
 have hx:l.length<=maxLen:=by unfold maxLen;omega
 rw[<-a2M (v:=5) (k:=k) l 0 h]
 refine N6 (fun _ _=>rfl) l hx (fun self i hi r hr=>?_) (fun self=>?_) hN
 ·have:=a1G (h _ (List.getElem_mem hi))
  unfold b6t
  simp only[o9 l hi,I5 hx hi,hr,b9,a0z hN _ (show l[i].length<=maxLen by unfold maxLen;omega)]
  rw[P9 hi,d4,a1J]
 ·simp only[b6t,a0Y,d6,a2M (v:=(5:Int)) (k:=k) l 0 h]
theorem cn1(hN:L7<=N)(l:List Ag)(hl:l.length<=50000)(h:∀s∈l,E6 s.1=true)(k:Int):b8y N l (l.length:Int) (some k) N 0=some k:=by
 have hx:l.length<=maxLen:=by unfold maxLen;omega
 rw[<-a2M (p:=fun s:Ag=>E6 s.1) (v:=5) (k:=k) l 0 h]
 refine N6 (fun _ _=>rfl) l hx (fun self i hi r hr=>?_) (fun self=>?_) hN
 ·have:=a1G (h _ (List.getElem_mem hi))
  unfold b6v
  simp only[o9 l hi,I5 hx hi,hr,b9,a0z hN _ (show l[i].1.length<=maxLen by unfold maxLen;omega)]
  rw[P9 hi,d4,a1J]
 ·simp only[b6v,a0Y,d6,a2M (p:=fun s:Ag=>E6 s.1) (v:=(5:Int)) (k:=k) l 0 h]
theorem tw0(hN:L7<=N)(l:List c8)(hl:l.length<=50000)(k:Bool):b4V N l (l.length:Int) l (some k) N 0=some (if l.Nodup then k else true):=by
 have hx:l.length<=maxLen:=by unfold maxLen;omega
 rw[<-b8K true k l]
 refine N6 (fun _ _=>rfl) l hx (fun self i h r hr=>?_) (fun self=>?_) hN
 ·unfold a9k
  simp only[o9 l h,I5 hx h,hr,b9,b4j l (Nat.le_of_lt h),Q8 hN (l.take i) (by rw[List.length_take];omega)]
  rw[P9 h,d4,a1J]
 ·simp[a9k]
theorem b9Q{α R:Type}(p:α->Bool)(v k:R):∀(l:List α) (j:Nat),a2v (fun _ s r=>if p s=true then v else r) k l j=if l.any p=true then v else k
 |[],_=>rfl
 |s :: l,j=>by
  show(if p s=true then v else a2v _ k l (j+1))=_
  rw[b9Q p v k l (j+1),List.any_cons]
  cases p s<;>simp
theorem tw2(hN:L7<=N)(l:List Ag)(hl:l.length<=50000)(s:c8)(k:Bool):b4X N l (l.length:Int) s (some k) N 0=some (if(l.any fun z=>s==z.1)=true then true else k):=by
 have hx:l.length<=maxLen:=by unfold maxLen;omega
 rw[<-b9Q (fun z:Ag=>s==z.1) true k l 0]
 refine N6 (fun _ _=>rfl) l hx (fun self i h r hr=>?_) (fun self=>?_) hN
 ·unfold a9m
  simp only[o9 l h,I5 hx h,hr,b9]
  rw[P9 h,d4,a1J]
 ·simp[a9m]
theorem tw1(hN:L7<=N)(l:List Ag)(hl:l.length<=50000)(k:Bool):b4W N l (l.length:Int) l (some k) N 0=some (if(l.map (·.1)).Nodup then k else true):=by
 have hx:l.length<=maxLen:=by unfold maxLen;omega
 rw[<-b8K true k (l.map (·.1)),b9R]
 refine N6 (fun _ _=>rfl) l hx (fun self i h r hr=>?_) (fun self=>?_) hN
 ·unfold a9l
  simp only[o9 l h,I5 hx h,hr,b9,b4j l (Nat.le_of_lt h)]
  rw[tw2 hN (l.take i) (by rw[List.length_take];omega),P9 h,d4,<-List.map_take,List.any_map]
  rfl
 ·simp[a9l]
def c5q(N:Nat)(R:GStmt->Int->Option Int)(G:GStmt)(x:Int):Option Int:=b5d N R x G.args (G.args.length:Int) (f5 (E0 N R G.body (x+1)) fun t85=>br (t85 !=(0:Int)) (some t85) (f5 (E0 N R G.els (x+1)) fun t93=>some t93)) N (0:Int)
def c90(N:Nat)(R:GStmt->Int->Option Int)(G:GStmt)(x:Int):Option Int:=br (b8M G) (f5 (w4 N N G.expr (x+1)) fun t61=>br (t61 !=(0:Int)) (some t61) (c5q N R G x)) (c5q N R G x)
theorem a2i{R:Type}(c:Bool)(x:Option R):br c x x=x:=by cases c<;>simp
theorem a4W(E:GExpr):(∃z,I7 N E=some z)/\∃z,O0 N E=some z:=by
 unfold I7 O0
 cases (E.kind==0)<;>cases (E.text==([]:c8))<;>cases (E.number==0)<;>cases ((E.keys.length:Int)==0)<;>simp
theorem b9U:I7 N zE=some true/\O0 N zE=some true:=by
 unfold I7 O0
 simp[a0R,a3g,a0E,a1m,L1]
theorem c8Y(hN:L7<=N){k:Nat}{G:GStmt}(h:SOk (k+1) G){x:Int}(hx0:0<=x){R:GStmt->Int->Option Int}:
  ∃al,J7 N G x=some al/\(al=0->x<30)/\y9 N R G x=if al≠0 then some al else c90 N R G x:=by
 have hP:=h.parts
 have e1:=a0H hN [] (show([]:c8).length<=maxLen by simp)
 have e2:=Y1 hN [] (show([]:c8).length<=maxLen by simp)
 have e3:=b0J hN [] (by simp) (by simp)
 have e4:=a2W (N:=N) [] (by simp)
 have e5:=fun k=>tw0 hN [] (by simp) k
 have e6:=fun k=>tw1 hN [] (by simp) k
 have e7:=fun k=>cn0 hN [] (by simp) (by simp) k
 have e8:=fun k=>cn1 hN [] (by simp) (by simp) k
 simp only[List.length_nil,Int.natCast_zero,List.map_nil,List.nodup_nil,if_true]at e5 e6 e7 e8
 have nm:=fun{q:c8} (hq:E6 q=true)=>Q0 hN q (by have:=a1G hq;unfold maxLen;omega)
 have nmR:=fun{q:c8} (hq:E6 q=true)=>a0z hN q (by have:=a1G hq;unfold maxLen;omega)
 have no:=c2S hN G hP.args.1
 by_cases hx:x>=30
 ·refine⟨2,?_,fun h=>absurd h (by decide),?_⟩
  ·unfold J7
   rw[decide_eq_true hx,d4]
  ·unfold y9
   rw[decide_eq_true hx,d4,if_pos (by decide)]
 have hlt:x<30:=by omega
 have hw:IntKind.i64.wrap (x+1)=x+1:=D8 (by omega) (by omega)
 unfold J7 y9 X3 a1S a1r a1s G8 c90 c5q b8M
 have z1:=(b9U (N:=N)).1
 have z2:=(b9U (N:=N)).2
 rcases h with⟨q,E,a,h1,h2,rfl⟩|⟨q,ag,a,h1,h2,h3,rfl⟩|⟨q,ps,b,a,h1,h2,h3,h4,h5,rfl⟩|⟨q,E,b,a,h1,h2,h3,h4,rfl⟩|⟨E,b,l,a,h1,h2,h3,h4,h5,rfl⟩|⟨t,a,h1,rfl⟩
 all_goals simp only[a3i,d5Z,d50,b7s,d5W,d5Y,d5X,d9d,e1L,decide_eq_false hx,GExpr.eta,List.map_nil]at no ⊢
 ·obtain⟨_,z,hz⟩:=a4W (N:=N) E
  refine⟨0,?_,fun _=>hlt,?_⟩
  ·simp[F9,a3i,nm h1,h1,no,e1,e3,e4,a00 h1]
  ·simp[nmR h1,h1,e2,e5,e6,a00 h1,hw,hz,a2i]
 ·refine⟨if(ag.length:Int)>30 then 2 else if(ag.map (·.1)).Nodup then 0 else 7,?_,fun _=>hlt,?_⟩
  ·have c1:=b0J hN (ag.map (·.1)) (by simpa using h2) (fun q hq=>by
    obtain⟨c,hc,rfl⟩:=List.mem_map.1 hq
    have:=a1G (h3 c hc).1;omega)
   have c2:((ag.map (·.1)).any fun q=>!E6 q)=false:=by
    rw[List.any_eq_false]
    intro q hq
    obtain⟨c,hc,rfl⟩:=List.mem_map.1 hq
    simp[(h3 c hc).1]
   have c3:=a2W (N:=N) (ag.map (·.1)) (by simp;omega)
   rw[c2]at c1
   simp[F9,a3i,nm h1,h1,no,e1,e3,e4,c1,c3,z1,a00 h1]
   by_cases g1:(30:Int)<(ag.length:Int)<;>by_cases g2:(ag.map (·.1)).Nodup<;>simp[g1,g2]
  ·have c4:=fun k=>cn1 hN ag h2 (fun s hs=>(h3 s hs).1) k
   have c5:=fun k=>tw1 hN ag h2 k
   simp[nmR h1,h1,e2,e5,e6,c4,c5,z2,a00 h1,hw,a2i]
   by_cases g1:(30:Int)<(ag.length:Int)<;>by_cases g2:(ag.map (·.1)).Nodup<;>simp[g1,g2,e5,a2i]
 ·refine⟨if(ps.length:Int)>30 then 2 else if ps.Nodup then 0 else 7,?_,fun _=>hlt,?_⟩
  ·have c1:=b0J hN ps (by simpa using h2) (fun q hq=>by have:=a1G (h3 q hq);omega)
   have c2:(ps.any fun q=>!E6 q)=false:=by
    rw[List.any_eq_false]
    intro q hq
    simp[h3 q hq]
   have c3:=a2W (N:=N) ps (by omega)
   rw[c2]at c1
   simp[F9,a3i,nm h1,h1,no,e1,e3,e4,c1,c3,z1,a00 h1]
   by_cases g1:(30:Int)<(ps.length:Int)<;>by_cases g2:ps.Nodup<;>simp[g1,g2]
  ·have c4:=fun k=>cn0 hN ps h2 h3 k
   have c5:=fun k=>tw0 hN ps h2 k
   simp[nmR h1,h1,e2,e5,e6,c4,c5,z2,a00 h1,hw,a2i]
   by_cases g1:(30:Int)<(ps.length:Int)<;>by_cases g2:ps.Nodup<;>simp[g1,g2,e6,c5,a2i]
 ·obtain⟨_,z,hz⟩:=a4W (N:=N) E
  refine⟨0,?_,fun _=>hlt,?_⟩
  ·simp[F9,a3i,nm h1,h1,no,e1,e3,e4,a00 h1]
  ·simp[nmR h1,h1,e2,e5,e6,a00 h1,hw,hz,a2i]
 ·obtain⟨_,z,hz⟩:=a4W (N:=N) E
  refine⟨0,?_,fun _=>hlt,?_⟩
  ·simp[F9,a3i,no,e1,e3,e4]
  ·simp[e2,e5,e6,hw,hz,a2i]
 ·have t1:=a0H hN t (show t.length<=maxLen by unfold maxLen;omega)
  have t2:=Y1 hN t (show t.length<=maxLen by unfold maxLen;omega)
  obtain⟨bt,hbt⟩:∃b,b=t.all T8:=⟨_,rfl⟩
  rw[<-hbt]at t1 t2
  refine⟨if bt=true then 0 else 3,?_,fun _=>hlt,?_⟩
  ·simp[F9,a3i,no,e1,e3,e4,t1,z1]
   cases bt<;>simp
  ·simp[e2,e5,e6,hw,t2,z2]
   cases bt<;>cases (t==([]:c8))<;>simp[e5,e6,a2i]
theorem b7i(hN:L7<=N){SB:List GStmt->Int->Option Int}{R:GStmt->Int->Option Int}{x:Int}(hx:0<=x)(hx2:x<30){ag:List Ag}(hl:ag.length<=50000)(hc:∀q∈ag,EOk 60000 q.2):∀(u j:Nat),j+u=ag.length->∃v:Int,∀(f1 f2:Nat),u<f1->u<f2->∀K1 K2:Option Int,
  b2H N SB x ag (ag.length:Int) K1 f1 (j:Int)=(if v≠0 then some v else K1)/\b5d N R x ag (ag.length:Int) K2 f2 (j:Int)=(if v≠0 then some v else K2)
 |0,j,hj=>⟨0,fun f1 f2 h1 h2 K1 K2=>by
  obtain⟨f1,rfl⟩:∃q,f1=q+1:=⟨f1-1,by omega⟩
  obtain⟨f2,rfl⟩:∃q,f2=q+1:=⟨f2-1,by omega⟩
  obtain rfl:j=ag.length:=by omega
  show a8y _ _ _ _ _ _ _ _=_/\a8D _ _ _ _ _ _ _ _=_
  unfold a8y a8D
  rw[a1f,d6,d6]
  exact⟨rfl,rfl⟩⟩
 |u+1,j,hj=>by
  have h:j<ag.length:=by omega
  obtain⟨v,ih⟩:=b7i hN (SB:=SB) (R:=R) hx hx2 hl hc u (j+1) (by omega)
  obtain⟨q,e1,e2⟩:=a70 hN 60000 _ (hc _ (List.getElem_mem h)) N (by unfold L7 at hN;omega) (x+1) (by omega)
  refine⟨if q≠0 then q else v,fun f1 f2 h1 h2 K1 K2=>?_⟩
  obtain⟨f1,rfl⟩:∃q,f1=q+1:=⟨f1-1,by omega⟩
  obtain⟨f2,rfl⟩:∃q,f2=q+1:=⟨f2-1,by omega⟩
  obtain⟨i1,i2⟩:=ih f1 f2 (by omega) (by omega) K1 K2
  show a8y _ _ _ _ _ _ _ _=_/\a8D _ _ _ _ _ _ _ _=_
  unfold a8y a8D
  rw[a0Z h,d4,d4,o9 _ h]
  simp only[b9,GExpr.eta,D8 (n:=x+1) (by omega) (by omega),e1,e2,O4 (n:=(j:Int)+1) (m:=j+1) (by omega) (by omega),i1,i2]
  by_cases hq:q=0
  ·subst hq;simp
  ·rw[show(q !=0)=true by simpa using hq];simp[hq]
def Cl(N k:Nat)(SB:List GStmt->Int->Option Int)(R:GStmt->Int->Option Int):Prop:=∀l:List GStmt,l.length<=50000->(∀c∈l,SOk k c)->∀x:Int,0<=x->∃v,SB l x=some v/\E0 N R l x=some v
theorem c6Q(hN:L7<=N){k:Nat}{SB:List GStmt->Int->Option Int}{R:GStmt->Int->Option Int}(hB:Cl N k SB R){G:GStmt}(h:SOk (k+1) G){x:Int}(hx:0<=x):
  ∃v,y9 N R G x=some v/\∀cont:Option Int,(f5 (J7 N G x) fun t22=>br (t22 !=(0:Int)) (some t22) (f5 (F9 N G) fun t27=>br (t27.2.2.2.2.1)
    (f5 (y0 N N G.expr (x+1)) fun t33=>
    br (t33 !=(0:Int))
     (some t33)
     (b2H N SB x G.args (G.args.length:Int) (f5 (SB G.body (x+1)) fun t57=>
       br (t57 !=(0:Int))
        (some t57)
        (f5 (SB G.els (x+1)) fun t65=>
        br (t65 !=(0:Int))
         (some t65)
         cont)) N (0:Int)))
    (b2H N SB x G.args (G.args.length:Int) (f5 (SB G.body (x+1)) fun t57=>
       br (t57 !=(0:Int))
        (some t57)
        (f5 (SB G.els (x+1)) fun t65=>
        br (t65 !=(0:Int))
         (some t65)
         cont)) N (0:Int))))=if v≠0 then some v else cont:=by
 have P:=h.parts
 obtain⟨al,a1,a2,a3⟩:=c8Y hN h hx (R:=R)
 rw[a3,a1]
 simp only[b9]
 by_cases ha:al=0
 case neg=>exact⟨al,by rw[if_pos ha],fun cont=>by rw[show(al !=0)=true by simpa using ha,d4,if_pos ha]⟩
 have hx2:=a2 ha
 subst ha
 rw[if_neg (by simp)]
 obtain⟨hs,q1,q2⟩:=c9v (N:=N) P
 obtain⟨vb,b1,b2⟩:=hB _ P.body.1 P.body.2 (x+1) (by omega)
 obtain⟨ve,l1,l2⟩:=hB _ P.els.1 P.els.2 (x+1) (by omega)
 obtain⟨va,hva⟩:=b7i hN (SB:=SB) (R:=R) hx hx2 P.args.1 P.args.2 G.args.length 0 (by omega)
 have hva':=fun K1 K2=>hva N N (by have:=P.args.1;unfold L7 at hN;omega) (by have:=P.args.1;unfold L7 at hN;omega) K1 K2
 have v1:=fun K1=>(hva' K1 none).1
 have v2:=fun K2=>(hva' none K2).2
 simp only[Int.natCast_zero]at v1 v2
 unfold c90 c5q
 simp only[q1,b9,q2,b1,b2,l1,l2,v1,v2,bne_self_eq_false,d6]
 have tail:∃v,(if va≠0 then some va else br (vb !=0) (some vb) (some ve))=some v/\∀cont:Option Int,(if va≠0 then some va else br (vb !=0) (some vb) (br (ve !=0) (some ve) cont))=if v≠0 then some v else cont:=by
  by_cases h1:va=0
  ·subst h1
   by_cases h2:vb=0
   ·subst h2
    refine⟨ve,by simp,fun cont=>?_⟩
    by_cases h3:ve=0
    ·subst h3;simp
    ·rw[show(ve !=0)=true by simpa using h3];simp[h3]
   ·exact⟨vb,by rw[show(vb !=0)=true by simpa using h2];simp,fun cont=>by rw[show(vb !=0)=true by simpa using h2];simp[h2]⟩
  ·exact⟨va,by simp[h1],fun cont=>by simp[h1]⟩
 rcases P.expr with⟨hE,hOk⟩|⟨hE,hz⟩
 ·rw[hE]
  obtain⟨w,w1,w2⟩:=a70 hN 60000 _ hOk N (by unfold L7 at hN;omega) (x+1) (by omega)
  simp only[d4,w1,w2,b9]
  by_cases hw:w=0
  ·subst hw
   simp only[bne_self_eq_false,d6]
   exact tail
  ·rw[show(w !=0)=true by simpa using hw]
   exact⟨w,by simp,fun cont=>by simp[hw]⟩
 ·rw[hE]
  simp only[d6]
  exact tail
theorem b3B(hN:L7<=N){k:Nat}{SB:List GStmt->Int->Option Int}{R:GStmt->Int->Option Int}(hB:Cl N k SB R){x:Int}(hx:0<=x){Gs:List GStmt}(hl:Gs.length<=50000)(hG:∀G∈Gs,SOk (k+1) G):∀(u j:Nat),j+u=Gs.length->∃v:Int,∀(f1 f2:Nat),u<f1->u<f2->
  c1j N SB x Gs (Gs.length:Int) (some 0) f1 (j:Int)=some v/\b4D N (y9 N R) x Gs (Gs.length:Int) (some 0) f2 (j:Int)=some v
 |0,j,hj=>⟨0,fun f1 f2 h1 h2=>by
  obtain⟨f1,rfl⟩:∃q,f1=q+1:=⟨f1-1,by omega⟩
  obtain⟨f2,rfl⟩:∃q,f2=q+1:=⟨f2-1,by omega⟩
  obtain rfl:j=Gs.length:=by omega
  show a19 _ _ _ _ _ _ _ _=_/\a0t _ _ _ _ _ _ _ _=_
  unfold a19 a0t
  rw[a1f,d6,d6]
  exact⟨rfl,rfl⟩⟩
 |u+1,j,hj=>by
  have h:j<Gs.length:=by omega
  obtain⟨v,ih⟩:=b3B hN hB hx hl hG u (j+1) (by omega)
  obtain⟨q,r1,s1⟩:=c6Q hN hB (hG _ (List.getElem_mem h)) hx
  by_cases hx30:x<30
  case neg=>
   obtain⟨al,a1,a2,a3⟩:=c8Y hN (hG _ (List.getElem_mem h)) hx (R:=R)
   have hal:al≠0:=fun e=>hx30 (a2 e)
   rw[if_pos hal]at a3
   refine⟨al,fun f1 f2 h1 h2=>?_⟩
   obtain⟨f1,rfl⟩:∃q,f1=q+1:=⟨f1-1,by omega⟩
   obtain⟨f2,rfl⟩:∃q,f2=q+1:=⟨f2-1,by omega⟩
   show a19 _ _ _ _ _ _ _ _=_/\a0t _ _ _ _ _ _ _ _=_
   unfold a19 a0t
   rw[a0Z h,d4,d4,o9 _ h]
   simp[GExpr.eta,GStmt.eta,a1,a3,show(al !=0)=true by simpa using hal]
  refine⟨if q≠0 then q else v,fun f1 f2 h1 h2=>?_⟩
  obtain⟨f1,rfl⟩:∃q,f1=q+1:=⟨f1-1,by omega⟩
  obtain⟨f2,rfl⟩:∃q,f2=q+1:=⟨f2-1,by omega⟩
  obtain⟨i1,i2⟩:=ih f1 f2 (by omega) (by omega)
  show a19 _ _ _ _ _ _ _ _=_/\a0t _ _ _ _ _ _ _ _=_
  unfold a19 a0t
  rw[a0Z h,d4,d4,o9 _ h]
  simp only[b9,GExpr.eta,GStmt.eta,r1,D8 (n:=x+1) (by omega) (by omega),O4 (n:=(j:Int)+1) (m:=j+1) (by omega) (by omega),i1,i2]
  rw[s1]
  by_cases hq:q=0
  ·subst hq;simp
  ·rw[show(q !=0)=true by simpa using hq];simp[hq]
theorem b3A(hN:L7<=N):∀(k n:Nat),k<n->Cl N k (D0 N n) (D4 N n)
 |k,0,h=>absurd h (by omega)
 |0,n+1,h=>fun l hl hG x hx=>by
  have:l=[]:=List.eq_nil_iff_forall_not_mem.2 fun G hg=>hG G hg
  subst this
  obtain⟨f,rfl,_⟩:=a7Y hN
  refine⟨0,?_,?_⟩
  ·show a19 (f+1) _ _ _ _ _ _ _=_
   simp[a19]
  ·show a0t (f+1) _ _ _ _ _ _ _=_
   simp[a0t]
 |k+1,n+1,h=>fun l hl hG x hx=>by
  obtain⟨v,hv⟩:=b3B hN (b3A hN k n (by omega)) hx hl hG l.length 0 (by omega)
  exact⟨v,hv N N (by unfold L7 at hN;omega) (by unfold L7 at hN;omega)⟩
theorem d89(hN:L7<=N)(Gs:List GStmt)(hl:Gs.length<=50000)(hG:∀G∈Gs,SOk 50001 G):∃c,K8 N Gs=some c/\J4 N Gs=some c:=by
 have hb:1000000<N:=by unfold L7 at hN;omega
 obtain⟨v,v1,v2⟩:=b3E hN 50001 Gs hl hG N (by omega)
 obtain⟨c,c1,c2⟩:=b3A hN 50001 N (by omega) Gs hl hG 0 (by omega)
 unfold K8 J4
 rw[v1,v2,c1,c2]
 simp only[b9]
 cases decide (W64 v>50000)
 ·exact⟨c,by simp,by simp⟩
 ·exact⟨2,by simp,by simp⟩
end
section
variable{N:Nat}
theorem EOk.keys{k:Nat}{e:GExpr}(h:EOk (k+1) e):e.keys.length<=50000:=by
 rcases h with⟨t,h1,rfl⟩|⟨m,rfl⟩|⟨t,h1,h2,rfl⟩|⟨es,h1,rfl,h3⟩|⟨a,b,rfl,h2,h3⟩|⟨ks,es,h0,hp,h1,h4,rfl,h3⟩|⟨a,b,rfl,h2,h3⟩|⟨a,b,rfl,h2,h3⟩<;>simp[a1m]
 omega
theorem b7F{R:GExpr->GExpr->Option Bool}{es:List GExpr}(hl:es.length<=50000)(h:∀c∈es,R c c=some true):∀(u f j:Nat),j+u=es.length->u<f->c1Y N R (es.length:Int) es es (some true) f (j:Int)=some true
 |0,f,j,hj,hf=>by
  obtain⟨f,rfl⟩:∃q,f=q+1:=⟨f-1,by omega⟩
  obtain rfl:j=es.length:=by omega
  show a8P _ _ _ _ _ _ _ _=_
  unfold a8P
  rw[a1f,d6]
 |u+1,f,j,hj,hf=>by
  obtain⟨f,rfl⟩:∃q,f=q+1:=⟨f-1,by omega⟩
  have hlt:j<es.length:=by omega
  have ih:=b7F hl h u f (j+1) (by omega) (by omega)
  show a8P _ _ _ _ _ _ _ _=_
  unfold a8P
  rw[a0Z hlt,d4,o9 _ hlt]
  simp only[b9,h _ (List.getElem_mem hlt),Bool.not_true,d6,O4 (n:=(j:Int)+1) (m:=j+1) (by omega) (by omega),ih]
theorem c93(hN:L7<=N){R:GExpr->GExpr->Option Bool}{e:GExpr}(h1:e.keys.length<=50000)(h2:e.kids.length<=50000)(h:∀c∈e.kids,R c c=some true):R3 N R e e=some true:=by
 unfold R3
 have hk:=b7F (N:=N) h2 h e.kids.length N 0 (by omega) (by unfold L7 at hN;omega)
 rw[b7a hN e.keys e.keys (by unfold maxLen;omega) (by unfold maxLen;omega)]
 simp only[Int.natCast_zero]at hk
 simp only[bne_self_eq_false,d6,beq_self_eq_true,Bool.not_true,b9,decide_true,hk]
theorem b09(hN:L7<=N):∀(k:Nat) (e:GExpr),EOk k e->∀n,k<=n->I6 N n e e=some true
 |0,e,h,_,_=>h.elim
 |k+1,e,h,n,hn=>by
  obtain⟨n,rfl⟩:∃q,n=q+1:=⟨n-1,by omega⟩
  obtain⟨h1,h2⟩:=h.kids
  exact c93 hN h.keys h1 fun c hc=>b09 hN k c (h2 c hc) n (by omega)
theorem c7b(hN:L7<=N){n:Nat}(hn:0<n):I6 N n zE zE=some true:=by
 obtain⟨n,rfl⟩:∃q,n=q+1:=⟨n-1,by omega⟩
 exact c93 hN (by simp[a1m]) (by simp[L1]) (by simp[L1])
theorem b7E(hN:L7<=N){RR:List GStmt->List GStmt->Bool->Option Bool}{ag:List Ag}(hl:ag.length<=50000)(h:∀q∈ag,EOk 60000 q.2)(K:Option Bool):∀(u f j:Nat),j+u=ag.length->u<f->c1G N RR (ag.length:Int) ag ag K f (j:Int)=K
 |0,f,j,hj,hf=>by
  obtain⟨f,rfl⟩:∃q,f=q+1:=⟨f-1,by omega⟩
  obtain rfl:j=ag.length:=by omega
  show a8L _ _ _ _ _ _ _ _=_
  unfold a8L
  rw[a1f,d6]
 |u+1,f,j,hj,hf=>by
  obtain⟨f,rfl⟩:∃q,f=q+1:=⟨f-1,by omega⟩
  have hlt:j<ag.length:=by omega
  have ih:=b7E hN (RR:=RR) hl h K u f (j+1) (by omega) (by omega)
  have hs:=b09 hN 60000 _ (h _ (List.getElem_mem hlt)) N (by unfold L7 at hN;omega)
  show a8L _ _ _ _ _ _ _ _=_
  unfold a8L
  rw[a0Z hlt,d4,o9 _ hlt]
  simp only[b9,beq_self_eq_true,Bool.not_true,d6,hs,O4 (n:=(j:Int)+1) (m:=j+1) (by omega) (by omega),ih]
theorem SOk.params{k:Nat}{G:GStmt}(h:SOk (k+1) G):G.params.length<=50000:=by
 rcases h with⟨q,E,a,h1,h2,rfl⟩|⟨q,ag,a,h1,h2,h3,rfl⟩|⟨q,ps,b,a,h1,h2,h3,h4,h5,rfl⟩|⟨q,E,b,a,h1,h2,h3,h4,rfl⟩|⟨E,b,l,a,h1,h2,h3,h4,h5,rfl⟩|⟨t,a,h1,rfl⟩<;>simp[b7s]
 omega
theorem b7G(hN:L7<=N){k:Nat}{RR:List GStmt->List GStmt->Bool->Option Bool}(hB:∀l:List GStmt,l.length<=50000->(∀c∈l,SOk k c)->RR l l true=some true){Gs:List GStmt}(hl:Gs.length<=50000)(hG:∀G∈Gs,SOk (k+1) G):∀(u f j:Nat),j+u=Gs.length->u<f->
  c1F N RR Gs true Gs (Gs.length:Int) (some true) f (j:Int)=some true
 |0,f,j,hj,hf=>by
  obtain⟨f,rfl⟩:∃q,f=q+1:=⟨f-1,by omega⟩
  obtain rfl:j=Gs.length:=by omega
  show a4j _ _ _ _ _ _ _ _ _=_
  unfold a4j
  rw[a1f,d6]
 |u+1,f,j,hj,hf=>by
  obtain⟨f,rfl⟩:∃q,f=q+1:=⟨f-1,by omega⟩
  have hlt:j<Gs.length:=by omega
  have ih:=b7G hN hB hl hG u f (j+1) (by omega) (by omega)
  have hS:=hG _ (List.getElem_mem hlt)
  have P:=hS.parts
  have e1:I6 N N Gs[j].expr Gs[j].expr=some true:=by
   rcases P.expr with⟨_,h⟩|⟨_,h⟩
   ·exact b09 hN 60000 _ h N (by unfold L7 at hN;omega)
   ·rw[h];exact c7b hN (by unfold L7 at hN;omega)
  have ha:=fun K=>b7E hN (RR:=RR) P.args.1 P.args.2 K Gs[j].args.length N 0 (by omega) (by have:=P.args.1;unfold L7 at hN;omega)
  simp only[Int.natCast_zero]at ha
  show a4j _ _ _ _ _ _ _ _ _=_
  unfold a4j
  rw[a0Z hlt,d4,o9 _ hlt]
  simp only[b9,bne_self_eq_false,d6,beq_self_eq_true,Bool.not_true,b7a hN Gs[j].params Gs[j].params (by have:=hS.params;unfold maxLen;omega) (by have:=hS.params;unfold maxLen;omega),decide_true,d4,GExpr.eta,e1,hB _ P.body.1 P.body.2,hB _ P.els.1 P.els.2,ha,O4 (n:=(j:Int)+1) (m:=j+1) (by omega) (by omega),ih]
theorem b7H(hN:L7<=N):∀(k n:Nat),k<n->∀Gs:List GStmt,Gs.length<=50000->(∀G∈Gs,SOk k G)->H7 N n Gs Gs true=some true
 |k,0,h,_,_,_=>absurd h (by omega)
 |0,n+1,h,Gs,hl,hG=>by
  have:Gs=[]:=List.eq_nil_iff_forall_not_mem.2 fun G hg=>hG G hg
  subst this
  show E7 N _ _ _ _=_
  obtain⟨f,rfl,_⟩:=a7Y hN
  unfold E7
  simp only[bne_self_eq_false,d6]
  show a4j (f+1) _ _ _ _ _ _ _ _=_
  simp[a4j]
 |k+1,n+1,h,Gs,hl,hG=>by
  show E7 N _ _ _ _=_
  have:=b7G hN (RR:=H7 N n) (fun l h1 h2=>b7H hN k n (by omega) l h1 h2) hl hG Gs.length N 0 (by omega) (by unfold L7 at hN;omega)
  unfold E7
  simp only[bne_self_eq_false,d6]
  exact this
theorem a1q(s:c8)(_:Fit .str s):∃N,M3 N s=some true:=by
 refine⟨L7,?_⟩
 have hN:L7<=L7:=Nat.le_refl _
 obtain⟨Gs,a,f,h1,h2,p1,p2⟩:=c20 hN s (fun Gs hl hG=>d89 hN Gs hl hG)
 have hs:=b7H hN 50001 L7 (by unfold L7;omega) Gs h1 h2
 unfold M3
 rw[p1,p2,b9,b9]
 simp only[beq_self_eq_true,d4,hs,b9,show a3n=some true from rfl]
end
end Go.Proofs.YtolpmfhiegpohaaGreatDoor
