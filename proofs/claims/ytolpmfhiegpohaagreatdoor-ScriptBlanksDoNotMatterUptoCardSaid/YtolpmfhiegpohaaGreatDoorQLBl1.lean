/- Law 48: both count alike. -/
import Derived.Test.YtolpmfhiegpohaaGreatDoorQLPaB
import Derived.Test.YtolpmfhiegpohaaGreatDoorQLPa2
namespace Go.Proofs.YtolpmfhiegpohaaGreatDoor
set_option linter.unusedVariables false
set_option linter.unusedSimpArgs false
open Go Go.RowKit
section
variable{N:Nat}
abbrev W64:Int->Int:=IntKind.i64.wrap
theorem W_l(a b:Int):IntKind.i64.wrap (IntKind.i64.wrap a+b)=IntKind.i64.wrap (a+b):=by
 simp only[IntKind.wrap,IntKind.signed,IntKind.bits]
 simp
 split<;>split<;>split<;>omega
theorem W_r(a b:Int):IntKind.i64.wrap (a+IntKind.i64.wrap b)=IntKind.i64.wrap (a+b):=by
 rw[Int.add_comm,W_l,Int.add_comm]
theorem W_m(a b c:Int):IntKind.i64.wrap (a+(IntKind.i64.wrap b+IntKind.i64.wrap c))=IntKind.i64.wrap (a+(b+c)):=by
 rw[<-W_r a (IntKind.i64.wrap b+IntKind.i64.wrap c),W_l,W_r b c,W_r]
theorem GStmt.eta(s:GStmt):GStmt.mk s.kind s.name s.text s.params s.args s.expr s.body s.els s.at_=s:=by cases s;rfl
theorem EOk.kids{k:Nat}{e:GExpr}(h:EOk (k+1) e):e.kids.length<=50000/\∀c∈e.kids,EOk k c:=by
 have two:∀a b:GExpr,EOk k a->EOk k b->∀c ∈ [a,b],EOk k c:=fun a b ha hb c hc=>by
  rcases List.mem_cons.1 hc with rfl|hc
  ·exact ha
  ·rw[List.mem_singleton.1 hc];exact hb
 rcases h with⟨t,h1,rfl⟩|⟨m,rfl⟩|⟨t,h1,h2,rfl⟩|⟨es,h1,rfl,h3⟩|⟨a,b,rfl,h2,h3⟩|⟨ks,es,h0,hp,h1,h4,rfl,h3⟩|⟨a,b,rfl,h2,h3⟩|⟨a,b,rfl,h2,h3⟩
 ·exact⟨by simp[L1],by simp[L1]⟩
 ·exact⟨by simp[L1],by simp[L1]⟩
 ·exact⟨by simp[L1],by simp[L1]⟩
 ·exact⟨h1,h3⟩
 ·exact⟨by simp[L1],two a b h2 h3⟩
 ·exact⟨h1,h3⟩
 ·exact⟨by simp[L1],two a b h2 h3⟩
 ·exact⟨by simp[L1],two a b h2 h3⟩
theorem b7y{S R:GExpr->Option Int}{es:List GExpr}(hl:es.length<=50000)(hc:∀c∈es,∃v,S c=some (W64 v)/\R c=some (W64 v)):∀(u j:Nat),j+u=es.length->∃c:Int,∀(f1 f2:Nat),u<f1->u<f2->∀z:Int,
  e9t N S es (es.length:Int) (fun o=>some o) f1 (W64 z) (j:Int)=some (W64 (z+c))/\e1I N R es (es.length:Int) (fun o=>some o) f2 (W64 z) (j:Int)=some (W64 (z+c))
 |0,j,hj=>⟨0,fun f1 f2 h1 h2 z=>by
  obtain⟨f1,rfl⟩:∃q,f1=q+1:=⟨f1-1,by omega⟩
  obtain⟨f2,rfl⟩:∃q,f2=q+1:=⟨f2-1,by omega⟩
  obtain rfl:j=es.length:=by omega
  show e56 _ _ _ _ _ _ _ _=_/\d5C _ _ _ _ _ _ _ _=_
  unfold e56 d5C
  rw[a1f,d6,d6,Int.add_zero]
  exact⟨rfl,rfl⟩⟩
 |u+1,j,hj=>by
  have h:j<es.length:=by omega
  obtain⟨c,ih⟩:=b7y hl hc u (j+1) (by omega)
  obtain⟨v,e1,e2⟩:=hc _ (List.getElem_mem h)
  refine⟨v+c,fun f1 f2 h1 h2 z=>?_⟩
  obtain⟨f1,rfl⟩:∃q,f1=q+1:=⟨f1-1,by omega⟩
  obtain⟨f2,rfl⟩:∃q,f2=q+1:=⟨f2-1,by omega⟩
  show e56 _ _ _ _ _ _ _ _=_/\d5C _ _ _ _ _ _ _ _=_
  unfold e56 d5C
  rw[a0Z h,d4,d4,o9 _ h]
  simp only[b9,GExpr.eta,e1,e2,O4 (n:=(j:Int)+1) (m:=j+1) (by omega) (by omega),W64,W_l,W_r]
  have:=ih f1 f2 (by omega) (by omega) (z+v)
  rw[<-Int.add_assoc]
  exact this
theorem b0W(hN:L7<=N):∀(k:Nat) (e:GExpr),EOk k e->∀n,k<=n->∃v,Q3 N n e=some (W64 v)/\T1 N n e=some (W64 v)
 |0,e,h,_,_=>h.elim
 |k+1,e,h,n,hn=>by
  obtain⟨n,rfl⟩:∃q,n=q+1:=⟨n-1,by omega⟩
  obtain⟨h1,h2⟩:=h.kids
  obtain⟨c,hc⟩:=b7y (N:=N) (S:=Q3 N n) (R:=T1 N n) h1 (fun c hc=>b0W hN k c (h2 c hc) n (by omega)) e.kids.length 0 (by omega)
  have:=hc N N (by unfold L7 at hN;omega) (by unfold L7 at hN;omega) 1
  exact⟨1+c,this.1,this.2⟩
theorem b4g(hN:L7<=N){SB RB:List GStmt->Option Int}{ag:List Ag}(hl:ag.length<=50000)(hc:∀q∈ag,EOk 60000 q.2):∀(u j:Nat),j+u=ag.length->∃c:Int,∀(f1 f2:Nat),u<f1->u<f2->∀(z:Int) (K1 K2:Int->Option Int),
  e8U N SB ag (ag.length:Int) K1 f1 (W64 z) (j:Int)=K1 (W64 (z+c))/\e1n N RB ag (ag.length:Int) K2 f2 (W64 z) (j:Int)=K2 (W64 (z+c))
 |0,j,hj=>⟨0,fun f1 f2 h1 h2 z K1 K2=>by
  obtain⟨f1,rfl⟩:∃q,f1=q+1:=⟨f1-1,by omega⟩
  obtain⟨f2,rfl⟩:∃q,f2=q+1:=⟨f2-1,by omega⟩
  obtain rfl:j=ag.length:=by omega
  show e54 _ _ _ _ _ _ _ _=_/\d5B _ _ _ _ _ _ _ _=_
  unfold e54 d5B
  rw[a1f,d6,d6,Int.add_zero]
  exact⟨rfl,rfl⟩⟩
 |u+1,j,hj=>by
  have h:j<ag.length:=by omega
  obtain⟨c,ih⟩:=b4g hN (SB:=SB) (RB:=RB) hl hc u (j+1) (by omega)
  obtain⟨v,e1,e2⟩:=b0W hN 60000 _ (hc _ (List.getElem_mem h)) N (by unfold L7 at hN;omega)
  refine⟨v+c,fun f1 f2 h1 h2 z K1 K2=>?_⟩
  obtain⟨f1,rfl⟩:∃q,f1=q+1:=⟨f1-1,by omega⟩
  obtain⟨f2,rfl⟩:∃q,f2=q+1:=⟨f2-1,by omega⟩
  show e54 _ _ _ _ _ _ _ _=_/\d5B _ _ _ _ _ _ _ _=_
  unfold e54 d5B
  rw[a0Z h,d4,d4,o9 _ h]
  simp only[b9,GExpr.eta,e1,e2,O4 (n:=(j:Int)+1) (m:=j+1) (by omega) (by omega),W64,W_l,W_r]
  have:=ih f1 f2 (by omega) (by omega) (z+v) K1 K2
  rw[<-Int.add_assoc]
  exact this
def b8M(G:GStmt):Bool:=G.kind==1||(G.kind==4||G.kind==5)
structure SParts(k:Nat)(G:GStmt):Prop where
 args:G.args.length<=50000/\∀q∈G.args,EOk 60000 q.2
 expr:(b8M G=true/\EOk 60000 G.expr)\/(b8M G=false/\G.expr=zE)
 body:G.body.length<=50000/\∀c∈G.body,SOk k c
 els:G.els.length<=50000/\∀c∈G.els,SOk k c
 kind:G.kind=1\/G.kind=2\/G.kind=3\/G.kind=4\/G.kind=5\/G.kind=6
theorem SOk.parts{k:Nat}{G:GStmt}(h:SOk (k+1) G):SParts k G:=by
 rcases h with⟨q,E,a,h1,h2,rfl⟩|⟨q,ag,a,h1,h2,h3,rfl⟩|⟨q,ps,b,a,h1,h2,h3,h4,h5,rfl⟩|⟨q,E,b,a,h1,h2,h3,h4,rfl⟩|⟨E,b,l,a,h1,h2,h3,h4,h5,rfl⟩|⟨t,a,h1,rfl⟩
 ·exact⟨⟨by simp[GStmt.args],by simp[GStmt.args]⟩,.inl ⟨rfl,h2⟩,⟨by simp[GStmt.body],by simp[GStmt.body]⟩,⟨by simp[GStmt.els],by simp[GStmt.els]⟩,.inl rfl⟩
 ·exact⟨⟨h2,fun q hq=>(h3 q hq).2⟩,.inr ⟨rfl,rfl⟩,⟨by simp[GStmt.body],by simp[GStmt.body]⟩,⟨by simp[GStmt.els],by simp[GStmt.els]⟩,.inr (.inl rfl)⟩
 ·exact⟨⟨by simp[GStmt.args],by simp[GStmt.args]⟩,.inr ⟨rfl,rfl⟩,⟨h4,h5⟩,⟨by simp[GStmt.els],by simp[GStmt.els]⟩,.inr (.inr (.inl rfl))⟩
 ·exact⟨⟨by simp[GStmt.args],by simp[GStmt.args]⟩,.inl ⟨rfl,h2⟩,⟨h3,h4⟩,⟨by simp[GStmt.els],by simp[GStmt.els]⟩,.inr (.inr (.inr (.inl rfl)))⟩
 ·exact⟨⟨by simp[GStmt.args],by simp[GStmt.args]⟩,.inl ⟨rfl,h1⟩,⟨h2,h3⟩,⟨h4,h5⟩,.inr (.inr (.inr (.inr (.inl rfl))))⟩
 ·exact⟨⟨by simp[GStmt.args],by simp[GStmt.args]⟩,.inr ⟨rfl,rfl⟩,⟨by simp[GStmt.body],by simp[GStmt.body]⟩,⟨by simp[GStmt.els],by simp[GStmt.els]⟩,.inr (.inr (.inr (.inr (.inr rfl))))⟩
theorem c9v{k:Nat}{G:GStmt}(h:SParts k G):∃hs,F9 N G=some hs/\hs.2.2.2.2.1=b8M G:=by
 unfold F9 b8M
 rcases h.kind with e|e|e|e|e|e<;>rw[e]<;>simp
theorem e1J{k:Nat}{G:GStmt}(P:SParts k G):(br (G.kind==1) (some true) (br (G.kind==4) (some true) (br (G.kind==5) (some true) (f5 (O0 N G.expr) fun t40=>some (!t40)))))=some (b8M G):=by
 rcases P.expr with⟨hE,hOk⟩|⟨hE,hz⟩
 ·rw[hE]
  unfold b8M at hE
  simp only[Bool.or_eq_true]at hE
  rcases hE with e|e|e
  ·rw[e];simp
  ·rw[e];cases G.kind==1<;>simp
  ·rw[e];cases G.kind==1<;>cases G.kind==4<;>simp
 ·rw[hE,hz]
  unfold b8M at hE
  simp only[Bool.or_eq_false_iff]at hE
  rw[hE.1,hE.2.1,hE.2.2]
  simp[O0,a0R,a3g,a0E,a1m,L1]
theorem b3F(hN:L7<=N){SB RB:List GStmt->Option Int}{k:Nat}{Gs:List GStmt}(hl:Gs.length<=50000)(hG:∀G∈Gs,SParts k G)
  (hB:∀l:List GStmt,l.length<=50000->(∀c∈l,SOk k c)->∃v,SB l=some (W64 v)/\RB l=some (W64 v)):∀(u j:Nat),j+u=Gs.length->∃c:Int,∀(f1 f2:Nat),u<f1->u<f2->∀z:Int,
  b6b N SB Gs (Gs.length:Int) (fun o=>some o) f1 (W64 z) (j:Int)=some (W64 (z+c))/\c42 N RB Gs (Gs.length:Int) (fun o=>some o) f2 (W64 z) (j:Int)=some (W64 (z+c))
 |0,j,hj=>⟨0,fun f1 f2 h1 h2 z=>by
  obtain⟨f1,rfl⟩:∃q,f1=q+1:=⟨f1-1,by omega⟩
  obtain⟨f2,rfl⟩:∃q,f2=q+1:=⟨f2-1,by omega⟩
  obtain rfl:j=Gs.length:=by omega
  show b6c _ _ _ _ _ _ _ _=_/\a4B _ _ _ _ _ _ _ _=_
  unfold b6c a4B
  rw[a1f,d6,d6,Int.add_zero]
  exact⟨rfl,rfl⟩⟩
 |u+1,j,hj=>by
  have h:j<Gs.length:=by omega
  obtain⟨c,ih⟩:=b3F hN hl hG hB u (j+1) (by omega)
  have P:=hG _ (List.getElem_mem h)
  obtain⟨cb,b1,b2⟩:=hB _ P.body.1 P.body.2
  obtain⟨ce,l1,l2⟩:=hB _ P.els.1 P.els.2
  obtain⟨hs,q1,q2⟩:=c9v (N:=N) P
  obtain⟨ca,ha⟩:=b4g hN (SB:=SB) (RB:=RB) P.args.1 P.args.2 Gs[j].args.length 0 (by omega)
  have hbN:1000000<N:=by unfold L7 at hN;omega
  have ha':=fun z K1 K2=>ha N N (by have:=P.args.1;omega) (by have:=P.args.1;omega) z K1 K2
  have hw:=O4 (n:=(j:Int)+1) (m:=j+1) (by omega) (by omega)
  have hc:=e1J (N:=N) P
  have ha1:=fun z K1=>(ha' z K1 (fun _=>none)).1
  have ha2:=fun z K2=>(ha' z (fun _=>none) K2).2
  rcases P.expr with⟨hE,hOk⟩|⟨hE,hz⟩
  ·obtain⟨m,m1,m2⟩:=b0W hN 60000 _ hOk N (by omega)
   refine⟨1+cb+ce+m+ca+c,fun f1 f2 h1 h2 z=>?_⟩
   obtain⟨f1,rfl⟩:∃q,f1=q+1:=⟨f1-1,by omega⟩
   obtain⟨f2,rfl⟩:∃q,f2=q+1:=⟨f2-1,by omega⟩
   have ih':=ih f1 f2 (by omega) (by omega) (z+(1+cb+ce+m+ca))
   show b6c _ _ _ _ _ _ _ _=_/\a4B _ _ _ _ _ _ _ _=_
   unfold b6c a4B
   rw[a0Z h,d4,d4,o9 _ h]
   rw[hE]at hc q2
   simp only[b9,GExpr.eta,GStmt.eta,q1,q2,hc,d4,m1,m2,b1,b2,l1,l2,W64,W_l,W_r,W_m,hw]
   rw[show(0:Int)=((0:Nat):Int)from rfl,ha1,ha2]
   simp only[W64,W_l,W_r,W_m]
   have e1:IntKind.i64.wrap (z+(1+IntKind.i64.wrap cb+IntKind.i64.wrap ce)+m+ca)=IntKind.i64.wrap (z+(1+cb+ce+m+ca)):=by
    rw[show z+(1+IntKind.i64.wrap cb+IntKind.i64.wrap ce)+m+ca=(z+1+m+ca)+(IntKind.i64.wrap cb+IntKind.i64.wrap ce) by omega,W_m]
    congr 1;omega
   rw[e1,show z+1+m+ca+(cb+ce)=z+(1+cb+ce+m+ca) by omega,show z+(1+cb+ce+m+ca+c)=z+(1+cb+ce+m+ca)+c by omega]
   exact ih'
  ·refine⟨1+cb+ce+ca+c,fun f1 f2 h1 h2 z=>?_⟩
   obtain⟨f1,rfl⟩:∃q,f1=q+1:=⟨f1-1,by omega⟩
   obtain⟨f2,rfl⟩:∃q,f2=q+1:=⟨f2-1,by omega⟩
   have ih':=ih f1 f2 (by omega) (by omega) (z+(1+cb+ce+ca))
   show b6c _ _ _ _ _ _ _ _=_/\a4B _ _ _ _ _ _ _ _=_
   unfold b6c a4B
   rw[a0Z h,d4,d4,o9 _ h]
   rw[hE]at hc q2
   simp only[b9,GExpr.eta,GStmt.eta,q1,q2,hc,d6,b1,b2,l1,l2,W64,W_l,W_r,W_m,hw]
   rw[show(0:Int)=((0:Nat):Int)from rfl,ha1,ha2]
   simp only[W64,W_l,W_r,W_m]
   have e1:IntKind.i64.wrap (z+(1+IntKind.i64.wrap cb+IntKind.i64.wrap ce)+ca)=IntKind.i64.wrap (z+(1+cb+ce+ca)):=by
    rw[show z+(1+IntKind.i64.wrap cb+IntKind.i64.wrap ce)+ca=(z+1+ca)+(IntKind.i64.wrap cb+IntKind.i64.wrap ce) by omega,W_m]
    congr 1;omega
   rw[e1,show z+1+ca+(cb+ce)=z+(1+cb+ce+ca) by omega,show z+(1+cb+ce+ca+c)=z+(1+cb+ce+ca)+c by omega]
   exact ih'
theorem b3E(hN:L7<=N):∀(k:Nat) (Gs:List GStmt),Gs.length<=50000->(∀G∈Gs,SOk k G)->∀n,k<n->∃v,F8 N n Gs=some (W64 v)/\M5 N n Gs=some (W64 v)
 |k,Gs,hl,hG,0,hn=>absurd hn (by omega)
 |0,Gs,hl,hG,n+1,hn=>by
  have:Gs=[]:=List.eq_nil_iff_forall_not_mem.2 fun G hg=>hG G hg
  subst this
  obtain⟨f,hf,_⟩:=a7Y hN
  refine⟨0,?_,?_⟩
  ·show b6b N (F8 N n) [] _ _ N 0 0=_
   have:b6b N (F8 N n) [] ((([]:List GStmt).length:Nat):Int) (fun o=>some o) N 0 0=b6c N (F8 N n) [] ((([]:List GStmt).length:Nat):Int) (fun o=>some o) (b6b N (F8 N n) [] ((([]:List GStmt).length:Nat):Int) (fun o=>some o) f) 0 0:=by
    conv=>lhs;arg 6;rw[hf]
    rfl
   rw[this];simp[b6c];rfl
  ·show c42 N (M5 N n) [] _ _ N 0 0=_
   have:c42 N (M5 N n) [] ((([]:List GStmt).length:Nat):Int) (fun o=>some o) N 0 0=a4B N (M5 N n) [] ((([]:List GStmt).length:Nat):Int) (fun o=>some o) (c42 N (M5 N n) [] ((([]:List GStmt).length:Nat):Int) (fun o=>some o) f) 0 0:=by
    conv=>lhs;arg 6;rw[hf]
    rfl
   rw[this];simp[a4B];rfl
 |k+1,Gs,hl,hG,n+1,hn=>by
  obtain⟨c,hc⟩:=b3F hN (SB:=F8 N n) (RB:=M5 N n) hl (fun G hg=>(hG G hg).parts) (fun l h1 h2=>b3E hN k l h1 h2 n (by omega)) Gs.length 0 (by omega)
  have:=hc N N (by unfold L7 at hN;omega) (by unfold L7 at hN;omega) 0
  exact⟨0+c,this.1,this.2⟩
end
noncomputable section
variable{N:Nat}
section
variable(k a:Int)(q t:c8)(ps:List c8)(ag:List Ag)(E:GExpr)(b l:List GStmt)
theorem a3i:(GStmt.mk k q t ps ag E b l a).kind=k:=rfl
theorem d5Z:(GStmt.mk k q t ps ag E b l a).name=q:=rfl
theorem d50:(GStmt.mk k q t ps ag E b l a).text=t:=rfl
theorem b7s:(GStmt.mk k q t ps ag E b l a).params=ps:=rfl
theorem d5W:(GStmt.mk k q t ps ag E b l a).args=ag:=rfl
theorem d5Y:(GStmt.mk k q t ps ag E b l a).expr=E:=rfl
theorem d5X:(GStmt.mk k q t ps ag E b l a).body=b:=rfl
theorem e1L:(GStmt.mk k q t ps ag E b l a).at_=a:=rfl
theorem d9d:(GStmt.mk k q t ps ag E b l a).els=l:=rfl
end
theorem a1G{s:c8}(h:E6 s=true):s.length<=40:=by
 unfold E6 at h
 cases s with
 |nil=>cases h
 |cons b x=>
  simp only[Bool.and_eq_true,decide_eq_true_eq]at h
  exact h.1
theorem a00{s:c8}(h:E6 s=true):(s==([]:c8))=false:=by
 cases s with
 |nil=>cases h
 |cons b x=>rfl
theorem a2M{α R:Type}{p:α->Bool}{v k:R}:∀(l:List α) (j:Nat),(∀s∈l,p s=true)->a2v (fun _ s r=>if(!p s)=true then v else r) k l j=k
 |[],_,_=>rfl
 |s :: l,j,h=>by
  show(if(!p s)=true then v else a2v _ k l (j+1))=k
  rw[h s (List.mem_cons_self ..),a2M l (j+1) fun y hy=>h y (List.mem_cons_of_mem _ hy)]
  simp
theorem b9R{α β R:Type}(f:α->β)(body:Nat->β->R->R)(k:R):∀(l:List α) (j:Nat),a2v body k (l.map f) j=a2v (fun i x r=>body i (f x) r) k l j
 |[],_=>rfl
 |x :: l,j=>by
  show body j (f x) (a2v body k (l.map f) (j+1))=_
  rw[b9R f body k l (j+1)];rfl
theorem cn0(hN:L7<=N)(l:List c8)(hl:l.length<=50000)(h:∀s∈l,E6 s=true)(k:Int):e1o N l (l.length:Int) (some k) N 0=some k:=by
 have hx:l.length<=maxLen:=by unfold maxLen;omega
 rw[<-a2M (v:=5) (k:=k) l 0 h]
 refine N6 (fun _ _=>rfl) l hx (fun self i hi r hr=>?_) (fun self=>?_) hN
 ·have:=a1G (h _ (List.getElem_mem hi))
  unfold e0y
  simp only[o9 l hi,I5 hx hi,hr,b9,a0z hN _ (show l[i].length<=maxLen by unfold maxLen;omega)]
  rw[P9 hi,d4,a1J]
 ·simp only[e0y,a0Y,d6,a2M (v:=(5:Int)) (k:=k) l 0 h]
theorem cn1(hN:L7<=N)(l:List Ag)(hl:l.length<=50000)(h:∀s∈l,E6 s.1=true)(k:Int):d5H N l (l.length:Int) (some k) N 0=some k:=by
 have hx:l.length<=maxLen:=by unfold maxLen;omega
 rw[<-a2M (p:=fun s:Ag=>E6 s.1) (v:=5) (k:=k) l 0 h]
 refine N6 (fun _ _=>rfl) l hx (fun self i hi r hr=>?_) (fun self=>?_) hN
 ·have:=a1G (h _ (List.getElem_mem hi))
  unfold e07
  simp only[o9 l hi,I5 hx hi,hr,b9,a0z hN _ (show l[i].1.length<=maxLen by unfold maxLen;omega)]
  rw[P9 hi,d4,a1J]
 ·simp only[e07,a0Y,d6,a2M (p:=fun s:Ag=>E6 s.1) (v:=(5:Int)) (k:=k) l 0 h]
theorem tw0(hN:L7<=N)(l:List c8)(hl:l.length<=50000)(k:Bool):e1Q N l (l.length:Int) l (some k) N 0=some (if l.Nodup then k else true):=by
 have hx:l.length<=maxLen:=by unfold maxLen;omega
 rw[<-b8K true k l]
 refine N6 (fun _ _=>rfl) l hx (fun self i h r hr=>?_) (fun self=>?_) hN
 ·unfold e1s
  simp only[o9 l h,I5 hx h,hr,b9,b4j l (Nat.le_of_lt h),Q8 hN (l.take i) (by rw[List.length_take];omega)]
  rw[P9 h,d4,a1J]
 ·simp[e1s]
theorem b9Q{α R:Type}(p:α->Bool)(v k:R):∀(l:List α) (j:Nat),a2v (fun _ s r=>if p s=true then v else r) k l j=if l.any p=true then v else k
 |[],_=>rfl
 |s :: l,j=>by
  show(if p s=true then v else a2v _ k l (j+1))=_
  rw[b9Q p v k l (j+1),List.any_cons]
  cases p s<;>simp
theorem tw2(hN:L7<=N)(l:List Ag)(hl:l.length<=50000)(s:c8)(k:Bool):e2y N l (l.length:Int) s (some k) N 0=some (if(l.any fun z=>s==z.1)=true then true else k):=by
 have hx:l.length<=maxLen:=by unfold maxLen;omega
 rw[<-b9Q (fun z:Ag=>s==z.1) true k l 0]
 refine N6 (fun _ _=>rfl) l hx (fun self i h r hr=>?_) (fun self=>?_) hN
 ·unfold e1u
  simp only[o9 l h,I5 hx h,hr,b9]
  rw[P9 h,d4,a1J]
 ·simp[e1u]
theorem tw1(hN:L7<=N)(l:List Ag)(hl:l.length<=50000)(k:Bool):e1R N l (l.length:Int) l (some k) N 0=some (if(l.map (·.1)).Nodup then k else true):=by
 have hx:l.length<=maxLen:=by unfold maxLen;omega
 rw[<-b8K true k (l.map (·.1)),b9R]
 refine N6 (fun _ _=>rfl) l hx (fun self i h r hr=>?_) (fun self=>?_) hN
 ·unfold e1t
  simp only[o9 l h,I5 hx h,hr,b9,b4j l (Nat.le_of_lt h)]
  rw[tw2 hN (l.take i) (by rw[List.length_take];omega),P9 h,d4,<-List.map_take,List.any_map]
  rfl
 ·simp[e1t]
def c5q(N:Nat)(R:GStmt->Int->Option Int)(G:GStmt)(x:Int):Option Int:=c14 N R x G.args (G.args.length:Int) (f5 (E0 N R G.body (x+1)) fun t85=>br (t85 !=(0:Int)) (some t85) (f5 (E0 N R G.els (x+1)) fun t93=>some t93)) N (0:Int)
def c90(N:Nat)(R:GStmt->Int->Option Int)(G:GStmt)(x:Int):Option Int:=br (b8M G) (f5 (b2N N N G.expr (x+1)) fun t61=>br (t61 !=(0:Int)) (some t61) (c5q N R G x)) (c5q N R G x)
theorem a2i{R:Type}(c:Bool)(x:Option R):br c x x=x:=by cases c<;>simp
theorem a4W(E:GExpr):(∃z,I7 N E=some z)/\∃z,O0 N E=some z:=by
 unfold I7 O0
 cases (E.kind==0)<;>cases (E.text==([]:c8))<;>cases (E.number==0)<;>cases ((E.keys.length:Int)==0)<;>simp
theorem b9U:I7 N zE=some true/\O0 N zE=some true:=by
 unfold I7 O0
 simp[a0R,a3g,a0E,a1m,L1]
theorem c8Y(hN:L7<=N){k:Nat}{G:GStmt}(h:SOk (k+1) G){x:Int}(hx0:0<=x){R:GStmt->Int->Option Int}:
  ∃al,J7 N G x=some al/\(al=0->x<30)/\y9 N R G x=if al≠0 then some al else c90 N R G x:=by
 have hP:=h.parts
 have e1:=a0H hN [] (show([]:c8).length<=maxLen by simp)
 have e2:=Y1 hN [] (show([]:c8).length<=maxLen by simp)
 have e3:=b0J hN [] (by simp) (by simp)
 have e4:=a2W (N:=N) [] (by simp)
 have e5:=fun k=>tw0 hN [] (by simp) k
 have e6:=fun k=>tw1 hN [] (by simp) k
 have e7:=fun k=>cn0 hN [] (by simp) (by simp) k
 have e8:=fun k=>cn1 hN [] (by simp) (by simp) k
 simp only[List.length_nil,Int.natCast_zero,List.map_nil,List.nodup_nil,if_true]at e5 e6 e7 e8
 have nm:=fun{q:c8} (hq:E6 q=true)=>Q0 hN q (by have:=a1G hq;unfold maxLen;omega)
 have nmR:=fun{q:c8} (hq:E6 q=true)=>a0z hN q (by have:=a1G hq;unfold maxLen;omega)
 have no:=c2S hN G hP.args.1
 by_cases hx:x>=30
 ·refine⟨2,?_,fun h=>absurd h (by decide),?_⟩
  ·unfold J7
   rw[decide_eq_true hx,d4]
  ·unfold y9
   rw[decide_eq_true hx,d4,if_pos (by decide)]
 have hlt:x<30:=by omega
 have hw:IntKind.i64.wrap (x+1)=x+1:=D8 (by omega) (by omega)
 unfold J7 y9 X3 a1S a1r a1s G8 c90 c5q b8M
 have z1:=(b9U (N:=N)).1
 have z2:=(b9U (N:=N)).2
 rcases h with⟨q,E,a,h1,h2,rfl⟩|⟨q,ag,a,h1,h2,h3,rfl⟩|⟨q,ps,b,a,h1,h2,h3,h4,h5,rfl⟩|⟨q,E,b,a,h1,h2,h3,h4,rfl⟩|⟨E,b,l,a,h1,h2,h3,h4,h5,rfl⟩|⟨t,a,h1,rfl⟩
 all_goals simp only[a3i,d5Z,d50,b7s,d5W,d5Y,d5X,d9d,e1L,decide_eq_false hx,GExpr.eta,List.map_nil]at no ⊢
 ·obtain⟨_,z,hz⟩:=a4W (N:=N) E
  refine⟨0,?_,fun _=>hlt,?_⟩
  ·simp[F9,a3i,nm h1,h1,no,e1,e3,e4,a00 h1]
  ·simp[nmR h1,h1,e2,e5,e6,a00 h1,hw,hz,a2i]
 ·refine⟨if(ag.length:Int)>30 then 2 else if(ag.map (·.1)).Nodup then 0 else 7,?_,fun _=>hlt,?_⟩
  ·have c1:=b0J hN (ag.map (·.1)) (by simpa using h2) (fun q hq=>by
    obtain⟨c,hc,rfl⟩:=List.mem_map.1 hq
    have:=a1G (h3 c hc).1;omega)
   have c2:((ag.map (·.1)).any fun q=>!E6 q)=false:=by
    rw[List.any_eq_false]
    intro q hq
    obtain⟨c,hc,rfl⟩:=List.mem_map.1 hq
    simp[(h3 c hc).1]
   have c3:=a2W (N:=N) (ag.map (·.1)) (by simp;omega)
   rw[c2]at c1
   simp[F9,a3i,nm h1,h1,no,e1,e3,e4,c1,c3,z1,a00 h1]
   by_cases g1:(30:Int)<(ag.length:Int)<;>by_cases g2:(ag.map (·.1)).Nodup<;>simp[g1,g2]
  ·have c4:=fun k=>cn1 hN ag h2 (fun s hs=>(h3 s hs).1) k
   have c5:=fun k=>tw1 hN ag h2 k
   simp[nmR h1,h1,e2,e5,e6,c4,c5,z2,a00 h1,hw,a2i]
   by_cases g1:(30:Int)<(ag.length:Int)<;>by_cases g2:(ag.map (·.1)).Nodup<;>simp[g1,g2,e5,a2i]
 ·refine⟨if(ps.length:Int)>30 then 2 else if ps.Nodup then 0 else 7,?_,fun _=>hlt,?_⟩
  ·have c1:=b0J hN ps (by simpa using h2) (fun q hq=>by have:=a1G (h3 q hq);omega)
   have c2:(ps.any fun q=>!E6 q)=false:=by
    rw[List.any_eq_false]
    intro q hq
    simp[h3 q hq]
   have c3:=a2W (N:=N) ps (by omega)
   rw[c2]at c1
   simp[F9,a3i,nm h1,h1,no,e1,e3,e4,c1,c3,z1,a00 h1]
   by_cases g1:(30:Int)<(ps.length:Int)<;>by_cases g2:ps.Nodup<;>simp[g1,g2]
  ·have c4:=fun k=>cn0 hN ps h2 h3 k
   have c5:=fun k=>tw0 hN ps h2 k
   simp[nmR h1,h1,e2,e5,e6,c4,c5,z2,a00 h1,hw,a2i]
   by_cases g1:(30:Int)<(ps.length:Int)<;>by_cases g2:ps.Nodup<;>simp[g1,g2,e6,c5,a2i]
 ·obtain⟨_,z,hz⟩:=a4W (N:=N) E
  refine⟨0,?_,fun _=>hlt,?_⟩
  ·simp[F9,a3i,nm h1,h1,no,e1,e3,e4,a00 h1]
  ·simp[nmR h1,h1,e2,e5,e6,a00 h1,hw,hz,a2i]
 ·obtain⟨_,z,hz⟩:=a4W (N:=N) E
  refine⟨0,?_,fun _=>hlt,?_⟩
  ·simp[F9,a3i,no,e1,e3,e4]
  ·simp[e2,e5,e6,hw,hz,a2i]
 ·have t1:=a0H hN t (show t.length<=maxLen by unfold maxLen;omega)
  have t2:=Y1 hN t (show t.length<=maxLen by unfold maxLen;omega)
  obtain⟨bt,hbt⟩:∃b,b=t.all T8:=⟨_,rfl⟩
  rw[<-hbt]at t1 t2
  refine⟨if bt=true then 0 else 3,?_,fun _=>hlt,?_⟩
  ·simp[F9,a3i,no,e1,e3,e4,t1,z1]
   cases bt<;>simp
  ·simp[e2,e5,e6,hw,t2,z2]
   cases bt<;>cases (t==([]:c8))<;>simp[e5,e6,a2i]
theorem b7i(hN:L7<=N){SB:List GStmt->Int->Option Int}{R:GStmt->Int->Option Int}{x:Int}(hx:0<=x)(hx2:x<30){ag:List Ag}(hl:ag.length<=50000)(hc:∀q∈ag,EOk 60000 q.2):∀(u j:Nat),j+u=ag.length->∃v:Int,∀(f1 f2:Nat),u<f1->u<f2->∀K1 K2:Option Int,
  e7b N SB x ag (ag.length:Int) K1 f1 (j:Int)=(if v≠0 then some v else K1)/\c14 N R x ag (ag.length:Int) K2 f2 (j:Int)=(if v≠0 then some v else K2)
 |0,j,hj=>⟨0,fun f1 f2 h1 h2 K1 K2=>by
  obtain⟨f1,rfl⟩:∃q,f1=q+1:=⟨f1-1,by omega⟩
  obtain⟨f2,rfl⟩:∃q,f2=q+1:=⟨f2-1,by omega⟩
  obtain rfl:j=ag.length:=by omega
  show e5X _ _ _ _ _ _ _ _=_/\b6S _ _ _ _ _ _ _ _=_
  unfold e5X b6S
  rw[a1f,d6,d6]
  exact⟨rfl,rfl⟩⟩
 |u+1,j,hj=>by
  have h:j<ag.length:=by omega
  obtain⟨v,ih⟩:=b7i hN (SB:=SB) (R:=R) hx hx2 hl hc u (j+1) (by omega)
  obtain⟨q,e1,e2⟩:=a70 hN 60000 _ (hc _ (List.getElem_mem h)) N (by unfold L7 at hN;omega) (x+1) (by omega)
  refine⟨if q≠0 then q else v,fun f1 f2 h1 h2 K1 K2=>?_⟩
  obtain⟨f1,rfl⟩:∃q,f1=q+1:=⟨f1-1,by omega⟩
  obtain⟨f2,rfl⟩:∃q,f2=q+1:=⟨f2-1,by omega⟩
  obtain⟨i1,i2⟩:=ih f1 f2 (by omega) (by omega) K1 K2
  show e5X _ _ _ _ _ _ _ _=_/\b6S _ _ _ _ _ _ _ _=_
  unfold e5X b6S
  rw[a0Z h,d4,d4,o9 _ h]
  simp only[b9,GExpr.eta,D8 (n:=x+1) (by omega) (by omega),e1,e2,O4 (n:=(j:Int)+1) (m:=j+1) (by omega) (by omega),i1,i2]
  by_cases hq:q=0
  ·subst hq;simp
  ·rw[show(q !=0)=true by simpa using hq];simp[hq]
def Cl(N k:Nat)(SB:List GStmt->Int->Option Int)(R:GStmt->Int->Option Int):Prop:=∀l:List GStmt,l.length<=50000->(∀c∈l,SOk k c)->∀x:Int,0<=x->∃v,SB l x=some v/\E0 N R l x=some v
theorem c6Q(hN:L7<=N){k:Nat}{SB:List GStmt->Int->Option Int}{R:GStmt->Int->Option Int}(hB:Cl N k SB R){G:GStmt}(h:SOk (k+1) G){x:Int}(hx:0<=x):
  ∃v,y9 N R G x=some v/\∀cont:Option Int,(f5 (J7 N G x) fun t22=>br (t22 !=(0:Int)) (some t22) (f5 (F9 N G) fun t27=>br (t27.2.2.2.2.1)
    (f5 (y0 N N G.expr (x+1)) fun t33=>
    br (t33 !=(0:Int))
     (some t33)
     (e7b N SB x G.args (G.args.length:Int) (f5 (SB G.body (x+1)) fun t57=>
       br (t57 !=(0:Int))
        (some t57)
        (f5 (SB G.els (x+1)) fun t65=>
        br (t65 !=(0:Int))
         (some t65)
         cont)) N (0:Int)))
    (e7b N SB x G.args (G.args.length:Int) (f5 (SB G.body (x+1)) fun t57=>
       br (t57 !=(0:Int))
        (some t57)
        (f5 (SB G.els (x+1)) fun t65=>
        br (t65 !=(0:Int))
         (some t65)
         cont)) N (0:Int))))=if v≠0 then some v else cont:=by
 have P:=h.parts
 obtain⟨al,a1,a2,a3⟩:=c8Y hN h hx (R:=R)
 rw[a3,a1]
 simp only[b9]
 by_cases ha:al=0
 case neg=>exact⟨al,by rw[if_pos ha],fun cont=>by rw[show(al !=0)=true by simpa using ha,d4,if_pos ha]⟩
 have hx2:=a2 ha
 subst ha
 rw[if_neg (by simp)]
 obtain⟨hs,q1,q2⟩:=c9v (N:=N) P
 obtain⟨vb,b1,b2⟩:=hB _ P.body.1 P.body.2 (x+1) (by omega)
 obtain⟨ve,l1,l2⟩:=hB _ P.els.1 P.els.2 (x+1) (by omega)
 obtain⟨va,hva⟩:=b7i hN (SB:=SB) (R:=R) hx hx2 P.args.1 P.args.2 G.args.length 0 (by omega)
 have hva':=fun K1 K2=>hva N N (by have:=P.args.1;unfold L7 at hN;omega) (by have:=P.args.1;unfold L7 at hN;omega) K1 K2
 have v1:=fun K1=>(hva' K1 none).1
 have v2:=fun K2=>(hva' none K2).2
 simp only[Int.natCast_zero]at v1 v2
 unfold c90 c5q
 simp only[q1,b9,q2,b1,b2,l1,l2,v1,v2,bne_self_eq_false,d6]
 have tail:∃v,(if va≠0 then some va else br (vb !=0) (some vb) (some ve))=some v/\∀cont:Option Int,(if va≠0 then some va else br (vb !=0) (some vb) (br (ve !=0) (some ve) cont))=if v≠0 then some v else cont:=by
  by_cases h1:va=0
  ·subst h1
   by_cases h2:vb=0
   ·subst h2
    refine⟨ve,by simp,fun cont=>?_⟩
    by_cases h3:ve=0
    ·subst h3;simp
    ·rw[show(ve !=0)=true by simpa using h3];simp[h3]
   ·exact⟨vb,by rw[show(vb !=0)=true by simpa using h2];simp,fun cont=>by rw[show(vb !=0)=true by simpa using h2];simp[h2]⟩
  ·exact⟨va,by simp[h1],fun cont=>by simp[h1]⟩
 rcases P.expr with⟨hE,hOk⟩|⟨hE,hz⟩
 ·rw[hE]
  obtain⟨w,w1,w2⟩:=a70 hN 60000 _ hOk N (by unfold L7 at hN;omega) (x+1) (by omega)
  simp only[d4,w1,w2,b9]
  by_cases hw:w=0
  ·subst hw
   simp only[bne_self_eq_false,d6]
   exact tail
  ·rw[show(w !=0)=true by simpa using hw]
   exact⟨w,by simp,fun cont=>by simp[hw]⟩
 ·rw[hE]
  simp only[d6]
  exact tail
theorem b3B(hN:L7<=N){k:Nat}{SB:List GStmt->Int->Option Int}{R:GStmt->Int->Option Int}(hB:Cl N k SB R){x:Int}(hx:0<=x){Gs:List GStmt}(hl:Gs.length<=50000)(hG:∀G∈Gs,SOk (k+1) G):∀(u j:Nat),j+u=Gs.length->∃v:Int,∀(f1 f2:Nat),u<f1->u<f2->
  e9o N SB x Gs (Gs.length:Int) (some 0) f1 (j:Int)=some v/\d5A N (y9 N R) x Gs (Gs.length:Int) (some 0) f2 (j:Int)=some v
 |0,j,hj=>⟨0,fun f1 f2 h1 h2=>by
  obtain⟨f1,rfl⟩:∃q,f1=q+1:=⟨f1-1,by omega⟩
  obtain⟨f2,rfl⟩:∃q,f2=q+1:=⟨f2-1,by omega⟩
  obtain rfl:j=Gs.length:=by omega
  show e32 _ _ _ _ _ _ _ _=_/\a2c _ _ _ _ _ _ _ _=_
  unfold e32 a2c
  rw[a1f,d6,d6]
  exact⟨rfl,rfl⟩⟩
 |u+1,j,hj=>by
  have h:j<Gs.length:=by omega
  obtain⟨v,ih⟩:=b3B hN hB hx hl hG u (j+1) (by omega)
  obtain⟨q,r1,s1⟩:=c6Q hN hB (hG _ (List.getElem_mem h)) hx
  by_cases hx30:x<30
  case neg=>
   obtain⟨al,a1,a2,a3⟩:=c8Y hN (hG _ (List.getElem_mem h)) hx (R:=R)
   have hal:al≠0:=fun e=>hx30 (a2 e)
   rw[if_pos hal]at a3
   refine⟨al,fun f1 f2 h1 h2=>?_⟩
   obtain⟨f1,rfl⟩:∃q,f1=q+1:=⟨f1-1,by omega⟩
   obtain⟨f2,rfl⟩:∃q,f2=q+1:=⟨f2-1,by omega⟩
   show e32 _ _ _ _ _ _ _ _=_/\a2c _ _ _ _ _ _ _ _=_
   unfold e32 a2c
   rw[a0Z h,d4,d4,o9 _ h]
   simp[GExpr.eta,GStmt.eta,a1,a3,show(al !=0)=true by simpa using hal]
  refine⟨if q≠0 then q else v,fun f1 f2 h1 h2=>?_⟩
  obtain⟨f1,rfl⟩:∃q,f1=q+1:=⟨f1-1,by omega⟩
  obtain⟨f2,rfl⟩:∃q,f2=q+1:=⟨f2-1,by omega⟩
  obtain⟨i1,i2⟩:=ih f1 f2 (by omega) (by omega)
  show e32 _ _ _ _ _ _ _ _=_/\a2c _ _ _ _ _ _ _ _=_
  unfold e32 a2c
  rw[a0Z h,d4,d4,o9 _ h]
  simp only[b9,GExpr.eta,GStmt.eta,r1,D8 (n:=x+1) (by omega) (by omega),O4 (n:=(j:Int)+1) (m:=j+1) (by omega) (by omega),i1,i2]
  rw[s1]
  by_cases hq:q=0
  ·subst hq;simp
  ·rw[show(q !=0)=true by simpa using hq];simp[hq]
theorem b3A(hN:L7<=N):∀(k n:Nat),k<n->Cl N k (D0 N n) (D4 N n)
 |k,0,h=>absurd h (by omega)
 |0,n+1,h=>fun l hl hG x hx=>by
  have:l=[]:=List.eq_nil_iff_forall_not_mem.2 fun G hg=>hG G hg
  subst this
  obtain⟨f,rfl,_⟩:=a7Y hN
  refine⟨0,?_,?_⟩
  ·show e32 (f+1) _ _ _ _ _ _ _=_
   simp[e32]
  ·show a2c (f+1) _ _ _ _ _ _ _=_
   simp[a2c]
 |k+1,n+1,h=>fun l hl hG x hx=>by
  obtain⟨v,hv⟩:=b3B hN (b3A hN k n (by omega)) hx hl hG l.length 0 (by omega)
  exact⟨v,hv N N (by unfold L7 at hN;omega) (by unfold L7 at hN;omega)⟩
theorem d89(hN:L7<=N)(Gs:List GStmt)(hl:Gs.length<=50000)(hG:∀G∈Gs,SOk 50001 G):∃c,K8 N Gs=some c/\J4 N Gs=some c:=by
 have hb:1000000<N:=by unfold L7 at hN;omega
 obtain⟨v,v1,v2⟩:=b3E hN 50001 Gs hl hG N (by omega)
 obtain⟨c,c1,c2⟩:=b3A hN 50001 N (by omega) Gs hl hG 0 (by omega)
 unfold K8 J4
 rw[v1,v2,c1,c2]
 simp only[b9]
 cases decide (W64 v>50000)
 ·exact⟨c,by simp,by simp⟩
 ·exact⟨2,by simp,by simp⟩
end
section
variable{N:Nat}
theorem EOk.keys{k:Nat}{e:GExpr}(h:EOk (k+1) e):e.keys.length<=50000:=by
 rcases h with⟨t,h1,rfl⟩|⟨m,rfl⟩|⟨t,h1,h2,rfl⟩|⟨es,h1,rfl,h3⟩|⟨a,b,rfl,h2,h3⟩|⟨ks,es,h0,hp,h1,h4,rfl,h3⟩|⟨a,b,rfl,h2,h3⟩|⟨a,b,rfl,h2,h3⟩<;>simp[a1m]
 omega
theorem b7F{R:GExpr->GExpr->Option Bool}{es:List GExpr}(hl:es.length<=50000)(h:∀c∈es,R c c=some true):∀(u f j:Nat),j+u=es.length->u<f->e9r N R (es.length:Int) es es (some true) f (j:Int)=some true
 |0,f,j,hj,hf=>by
  obtain⟨f,rfl⟩:∃q,f=q+1:=⟨f-1,by omega⟩
  obtain rfl:j=es.length:=by omega
  show e53 _ _ _ _ _ _ _ _=_
  unfold e53
  rw[a1f,d6]
 |u+1,f,j,hj,hf=>by
  obtain⟨f,rfl⟩:∃q,f=q+1:=⟨f-1,by omega⟩
  have hlt:j<es.length:=by omega
  have ih:=b7F hl h u f (j+1) (by omega) (by omega)
  show e53 _ _ _ _ _ _ _ _=_
  unfold e53
  rw[a0Z hlt,d4,o9 _ hlt]
  simp only[b9,h _ (List.getElem_mem hlt),Bool.not_true,d6,O4 (n:=(j:Int)+1) (m:=j+1) (by omega) (by omega),ih]
theorem c93(hN:L7<=N){R:GExpr->GExpr->Option Bool}{e:GExpr}(h1:e.keys.length<=50000)(h2:e.kids.length<=50000)(h:∀c∈e.kids,R c c=some true):R3 N R e e=some true:=by
 unfold R3
 have hk:=b7F (N:=N) h2 h e.kids.length N 0 (by omega) (by unfold L7 at hN;omega)
 rw[b7a hN e.keys e.keys (by unfold maxLen;omega) (by unfold maxLen;omega)]
 simp only[Int.natCast_zero]at hk
 simp only[bne_self_eq_false,d6,beq_self_eq_true,Bool.not_true,b9,decide_true,hk]
theorem b09(hN:L7<=N):∀(k:Nat) (e:GExpr),EOk k e->∀n,k<=n->I6 N n e e=some true
 |0,e,h,_,_=>h.elim
 |k+1,e,h,n,hn=>by
  obtain⟨n,rfl⟩:∃q,n=q+1:=⟨n-1,by omega⟩
  obtain⟨h1,h2⟩:=h.kids
  exact c93 hN h.keys h1 fun c hc=>b09 hN k c (h2 c hc) n (by omega)
theorem c7b(hN:L7<=N){n:Nat}(hn:0<n):I6 N n zE zE=some true:=by
 obtain⟨n,rfl⟩:∃q,n=q+1:=⟨n-1,by omega⟩
 exact c93 hN (by simp[a1m]) (by simp[L1]) (by simp[L1])
theorem b7E(hN:L7<=N){RR:List GStmt->List GStmt->Bool->Option Bool}{ag:List Ag}(hl:ag.length<=50000)(h:∀q∈ag,EOk 60000 q.2)(K:Option Bool):∀(u f j:Nat),j+u=ag.length->u<f->e9p N RR (ag.length:Int) ag ag K f (j:Int)=K
 |0,f,j,hj,hf=>by
  obtain⟨f,rfl⟩:∃q,f=q+1:=⟨f-1,by omega⟩
  obtain rfl:j=ag.length:=by omega
  show e51 _ _ _ _ _ _ _ _=_
  unfold e51
  rw[a1f,d6]
 |u+1,f,j,hj,hf=>by
  obtain⟨f,rfl⟩:∃q,f=q+1:=⟨f-1,by omega⟩
  have hlt:j<ag.length:=by omega
  have ih:=b7E hN (RR:=RR) hl h K u f (j+1) (by omega) (by omega)
  have hs:=b09 hN 60000 _ (h _ (List.getElem_mem hlt)) N (by unfold L7 at hN;omega)
  show e51 _ _ _ _ _ _ _ _=_
  unfold e51
  rw[a0Z hlt,d4,o9 _ hlt]
  simp only[b9,beq_self_eq_true,Bool.not_true,d6,hs,O4 (n:=(j:Int)+1) (m:=j+1) (by omega) (by omega),ih]
theorem SOk.params{k:Nat}{G:GStmt}(h:SOk (k+1) G):G.params.length<=50000:=by
 rcases h with⟨q,E,a,h1,h2,rfl⟩|⟨q,ag,a,h1,h2,h3,rfl⟩|⟨q,ps,b,a,h1,h2,h3,h4,h5,rfl⟩|⟨q,E,b,a,h1,h2,h3,h4,rfl⟩|⟨E,b,l,a,h1,h2,h3,h4,h5,rfl⟩|⟨t,a,h1,rfl⟩<;>simp[b7s]
 omega
end
section
variable{N:Nat}
def z0(_:Int):Int:=0
def eK(t:A4):A4:=(t.1,(t.2.1,(t.2.2.1,z0 t.2.2.2)))
def eT(w:List A4):List A4:=w.map eK
def eMk(m:Int×Int):Int×Int:=(z0 m.1,m.2)
def eM(M:List (Int×Int)):List (Int×Int):=M.map eMk
abbrev PS:Type:=Int×Int×Bool×Int×List A4×List (Int×Int)
def eS(t:PS):PS:=(t.1,(z0 t.2.1,(t.2.2.1,(z0 t.2.2.2.1,(eT t.2.2.2.2.1,eM t.2.2.2.2.2)))))
def eX{α:Type}(t:α×PS):α×PS:=(t.1,eS t.2)
abbrev PQ(α:Type):Type:=Int×Int×Bool×Int×List A4×List (Int×Int)×α
def eP{α:Type}(f:α->α)(t:PQ α):PQ α:=(t.1,(z0 t.2.1,(t.2.2.1,(z0 t.2.2.2.1,(eT t.2.2.2.2.1,(eM t.2.2.2.2.2.1,f t.2.2.2.2.2.2))))))
mutual
def erS:GStmt->GStmt | .mk k n t ps ag x b e a=> .mk k n t ps ag x (erL b) (erL e) (z0 a)
def erL:List GStmt->List GStmt | []=>[]|s :: l=>erS s :: erL l
end
theorem e6a:∀l:List GStmt,erL l=l.map erS
 |[]=>by rw[erL];rfl
 |s :: l=>by rw[erL,e6a l];rfl
theorem e4b(k:Int)(n t:c8)(ps:List c8)(ag:List (c8×GExpr))(x:GExpr)(b e:List GStmt)(a:Int):erS (.mk k n t ps ag x b e a) = .mk k n t ps ag x (erL b) (erL e) (z0 a):=by rw[erS]
theorem e6b:erL []=[]:=by rw[erL]
theorem f0p(l:List GStmt)(s:GStmt):erL (l ++ [s])=erL l ++ [erS s]:=by rw[e6a,e6a,List.map_append];rfl
theorem e5o(l:List GStmt):(erL l).length=l.length:=by rw[e6a,List.length_map]
theorem e7t{α β:Type}(f:α->β)(l:List α)(i:Int):l6 (l.map f) i=(l6 l i).map f:=by
 unfold l6
 split
 ·rw[List.getElem?_map]
 ·rfl
theorem e86(l:List GStmt)(i:Int):l6 (erL l) i=(l6 l i).map erS:=by rw[e6a,e7t]
theorem e4M(w:List A4):(eT w).length=w.length:=by unfold eT;rw[List.length_map]
theorem e7p(w:List A4)(i:Int):l6 (eT w) i=(l6 w i).map eK:=e7t eK w i
theorem e7o(M:List (Int×Int)):(eM M).length=M.length:=by unfold eM;rw[List.length_map]
theorem f1s(M:List (Int×Int))(i:Int):l6 (eM M) i=(l6 M i).map eMk:=e7t eMk M i
theorem f4O(M:List (Int×Int))(a d:Int):eM (M ++ [(a,d)])=eM M ++ [(z0 a,d)]:=by unfold eM;rw[List.map_append];rfl
theorem b0G{α β R:Type}(x:Option α)(f:α->β)(k:β->Option R):f5 (x.map f) k=f5 x (fun t=>k (f t)):=by cases x<;>simp[f5]
theorem b6H{α R S:Type}(x:Option α)(k:α->Option R)(f:R->S):(f5 x k).map f=f5 x (fun t=>(k t).map f):=by cases x<;>simp[f5]
theorem c7m{R S:Type}(c:Bool)(x y:Option R)(f:R->S):(br c x y).map f=br c (x.map f) (y.map f):=by cases c<;>simp
theorem e9y(a e p k:Int)(b:Bool)(w:List A4)(s:c8):y5 N (eT w,(a,(z0 e,(b,z0 p)))) k s=y5 N (w,(a,(e,(b,p)))) k s:=by
 unfold y5
 simp only[e4M,e7p,b0G,eK]
theorem e9x(a e p:Int)(b:Bool)(w:List A4):H9 N (eT w,(a,(z0 e,(b,z0 p))))=(H9 N (w,(a,(e,(b,p))))).map z0:=by
 unfold H9
 simp only[e4M,e7p,b0G,c7m,b6H,eK,Option.map_some]
theorem f0q(x a e p:Int)(b:Bool)(w:List A4)(M:List (Int×Int)):M6 N x a (z0 e) b (z0 p) (eT w) (eM M)=(M6 N x a e b p w M).map eS:=by
 unfold M6
 simp only[x7,o7,e9x,b0G,b6H,c7m,Option.map_some,Option.map_none,eS,f4O,e7o,List.length_cons,List.length_nil]
theorem e36(k:Int)(s:c8)(a e p:Int)(b:Bool)(w:List A4)(M:List (Int×Int)):j5 N k s a (z0 e) b (z0 p) (eT w) (eM M)=(j5 N k s a e b p w M).map eX:=by
 unfold j5
 simp only[e9y,b0G,b6H,c7m,Option.map_some,eX,eS]
theorem e63(a e p:Int)(b:Bool)(w:List A4)(M:List (Int×Int)):q8 N a (z0 e) b (z0 p) (eT w) (eM M)=(q8 N a e b p w M).map eS:=by
 unfold q8
 simp only[e9x,b0G,b6H,c7m,Option.map_some,eX,eS]
theorem e7u(a e p:Int)(b:Bool)(w:List A4)(M:List (Int×Int)):r8 N a (z0 e) b (z0 p) (eT w) (eM M)=(r8 N a e b p w M).map eX:=by
 unfold r8
 simp only[e63,e4M,e7p,eK,b0G,b6H,c7m,Option.map_some,eX,eS]
theorem f1D(a e p:Int)(b:Bool)(w:List A4)(M:List (Int×Int)):I1 N a (z0 e) b (z0 p) (eT w) (eM M)=(I1 N a e b p w M).map eX:=by
 unfold I1
 simp only[e63,e4M,e7p,eK,b0G,b6H,c7m,Option.map_some,eX,eS]
theorem f1x(k:Int)(s:c8)(a e p:Int)(b:Bool)(w:List A4)(M:List (Int×Int)):C9 N k s a (z0 e) b (z0 p) (eT w) (eM M)=(C9 N k s a e b p w M).map eS:=by
 unfold C9
 simp only[e36,e63,b0G,b6H,c7m,Option.map_some,eX,eS]
theorem e31(s:c8)(a e p:Int)(b:Bool)(w:List A4)(M:List (Int×Int)):j7 N s a (z0 e) b (z0 p) (eT w) (eM M)=(j7 N s a e b p w M).map eS:=by
 unfold j7
 simp only[f1x,b0G,b6H,c7m,Option.map_some,eX,eS]
theorem e68:∀(n:Nat) (a e p:Int) (b:Bool) (w:List A4) (M:List (Int×Int)) (ps:List c8),
  a0T N (fun a e b p w M ps=>f5 (j7 N ([41]:c8) a e b p w M) fun t=>some (t.1,(t.2.1,(t.2.2.1,(t.2.2.2.1,(t.2.2.2.2.1,(t.2.2.2.2.2,ps))))))) n a (z0 e) b (z0 p) (eT w) (eM M) ps =
  (a0T N (fun a e b p w M ps=>f5 (j7 N ([41]:c8) a e b p w M) fun t=>some (t.1,(t.2.1,(t.2.2.1,(t.2.2.2.1,(t.2.2.2.2.1,(t.2.2.2.2.2,ps))))))) n a e b p w M ps).map (eP id)
 |0,_,_,_,_,_,_,_=>rfl
 |n+1,a,e,p,b,w,M,ps=>by
  have ih:=e68 n
  show b2h _ _ _ _ _ _ _ _ _ _=(b2h _ _ _ _ _ _ _ _ _ _).map _
  unfold b2h
  simp only[ih,e9y,e7u,e36,e31,b0G,b6H,c7m,Option.map_some,Option.map_none,eX,eS,eP,id]
theorem f1y(a e p:Int)(b:Bool)(w:List A4)(M:List (Int×Int)):I0 N a (z0 e) b (z0 p) (eT w) (eM M)=(I0 N a e b p w M).map (eP id):=by
 unfold I0
 simp only[e31,b0G,b6H,c7m,Option.map_some,eS,e68]
abbrev RXT:Type:=Int->Int->Int->Bool->Int->List A4->List (Int×Int)->Option (GExpr×PS)
abbrev HX(r:RXT):Prop:=∀(x a e p:Int) (b:Bool) (w:List A4) (M:List (Int×Int)),r x a (z0 e) b (z0 p) (eT w) (eM M)=(r x a e b p w M).map eX
theorem e67{r:RXT}(hr:HX r)(x:Int):∀(n:Nat) (a e p:Int) (b:Bool) (w:List A4) (M:List (Int×Int)) (ks:List c8) (gs:List GExpr),
  a2r N r x (fun a e b p w M ks gs=>f5 (j7 N ([125]:c8) a e b p w M) fun t=>some (GExpr.mk (6:Int) ([]:c8) (0:Int) ks gs,t)) n a (z0 e) b (z0 p) (eT w) (eM M) ks gs =
  (a2r N r x (fun a e b p w M ks gs=>f5 (j7 N ([125]:c8) a e b p w M) fun t=>some (GExpr.mk (6:Int) ([]:c8) (0:Int) ks gs,t)) n a e b p w M ks gs).map eX
 |0,_,_,_,_,_,_,_,_=>rfl
 |n+1,a,e,p,b,w,M,ks,gs=>by
  have ih:=e67 hr x n
  show V3 _ _ _ _ _ _ _ _ _ _ _ _ _=(V3 _ _ _ _ _ _ _ _ _ _ _ _ _).map _
  unfold V3
  simp only[List.length_cons,List.length_nil,x7,GExpr.eta]
  generalize decide ((ks.length+(0+1))*(24*Ty.sz .str)<=140737488355328)=A
  generalize decide ((gs.length+(0+1))*(24*Ty.sz (.rc .expr))<=140737488355328)=B
  cases A<;>cases B<;>simp only[d4,d6,o7,ih,hr,f1D,e36,e31,b0G,b6H,c7m,Option.map_some,Option.map_none,eX,eS]
theorem f1r{r:RXT}(hr:HX r)(x a e p:Int)(b:Bool)(w:List A4)(M:List (Int×Int)):H8 N r x a (z0 e) b (z0 p) (eT w) (eM M)=(H8 N r x a e b p w M).map eX:=by
 unfold H8
 simp only[e31,b0G,b6H,c7m,Option.map_some,eS,e67 hr]
theorem e9h{r:RXT}(hr:HX r)(x:Int):∀(n:Nat) (a e p:Int) (b:Bool) (w:List A4) (M:List (Int×Int)) (gs:List GExpr),
  a9c N r x (fun a e b p w M gs=>f5 (j7 N ([93]:c8) a e b p w M) fun t=>some (GExpr.mk (4:Int) ([]:c8) (0:Int) ([]:List c8) gs,t)) n a (z0 e) b (z0 p) (eT w) (eM M) gs =
  (a9c N r x (fun a e b p w M gs=>f5 (j7 N ([93]:c8) a e b p w M) fun t=>some (GExpr.mk (4:Int) ([]:c8) (0:Int) ([]:List c8) gs,t)) n a e b p w M gs).map eX
 |0,_,_,_,_,_,_,_=>rfl
 |n+1,a,e,p,b,w,M,gs=>by
  have ih:=e9h hr x n
  show b2O _ _ _ _ _ _ _ _ _ _ _ _=(b2O _ _ _ _ _ _ _ _ _ _ _ _).map _
  unfold b2O
  simp only[ih,hr,e9y,e36,e31,GExpr.eta,List.length_cons,List.length_nil,b0G,b6H,c7m,Option.map_some,Option.map_none,eX,eS]
theorem f4y{r:RXT}(hr:HX r)(x a e p:Int)(b:Bool)(w:List A4)(M:List (Int×Int)):K4 N r x a (z0 e) b (z0 p) (eT w) (eM M)=(K4 N r x a e b p w M).map eX:=by
 unfold K4
 simp only[hr,f0q,e63,e36,e31,e7u,f1r hr,e9h hr,e4M,e7p,eK,GExpr.eta,b0G,b6H,c7m,Option.map_some,Option.map_none,eX,eS]
theorem e9l{r:RXT}(hr:HX r)(x:Int):∀(n:Nat) (a e p:Int) (b:Bool) (w:List A4) (M:List (Int×Int)) (k:Int) (t:c8) (m:Int) (ks:List c8) (gs:List GExpr),
  c16 N r x (fun a e b p w M k t n ks gs=>some (GExpr.mk k t n ks gs,(a,(e,(b,(p,(w,M))))))) n a (z0 e) b (z0 p) (eT w) (eM M) k t m ks gs =
  (c16 N r x (fun a e b p w M k t n ks gs=>some (GExpr.mk k t n ks gs,(a,(e,(b,(p,(w,M))))))) n a e b p w M k t m ks gs).map eX
 |0,_,_,_,_,_,_,_,_,_,_,_=>rfl
 |n+1,a,e,p,b,w,M,k,t,m,ks,gs=>by
  have ih:=e9l hr x n
  show b2P _ _ _ _ _ _ _ _ _ _ _ _ _ _ _ _=(b2P _ _ _ _ _ _ _ _ _ _ _ _ _ _ _ _).map _
  unfold b2P
  simp only[ih,f4y hr,e36,GExpr.eta,b0G,b6H,c7m,Option.map_some,Option.map_none,eX,eS]
theorem f4A{r:RXT}(hr:HX r)(x a e p:Int)(b:Bool)(w:List A4)(M:List (Int×Int)):K5 N r x a (z0 e) b (z0 p) (eT w) (eM M)=(K5 N r x a e b p w M).map eX:=by
 unfold K5
 simp only[f4y hr,e9l hr,b0G,b6H,c7m,Option.map_some,eX,eS]
theorem f4P(M:List (Int×Int))(i a d:Int):B8 (eM M) i (z0 a,d)=eM (B8 M i (a,d)):=by
 unfold B8 eM
 simp[List.map_set,eMk]
theorem e7s{r:RXT}(hr:HX r)(x a e p:Int)(b:Bool)(w:List A4)(G:GExpr):∀(n:Nat) (i:Int) (M:List (Int×Int)),
  c49 N r (fun o=>f5 (K5 N r x a (z0 e) b (z0 p) (eT w) o) fun t=>some (GExpr.mk (8:Int) ([]:c8) (0:Int) ([]:List c8) [G,t.1],t.2)) n i (eM M) =
  (c49 N r (fun o=>f5 (K5 N r x a e b p w o) fun t=>some (GExpr.mk (8:Int) ([]:c8) (0:Int) ([]:List c8) [G,t.1],t.2)) n i M).map eX
 |0,_,_=>rfl
 |n+1,i,M=>by
  have ih:=e7s hr x a e p b w G n
  show a7T _ _ _ _ _ _=(a7T _ _ _ _ _ _).map _
  unfold a7T
  simp only[ih,f4A hr,e7o,f1s,eMk,f4P,b0G,b6H,c7m,Option.map_some,Option.map_none,eX,eS]
theorem f3z{r:RXT}(hr:HX r)(x a e p:Int)(b:Bool)(w:List A4)(M:List (Int×Int)):C0 N r x a (z0 e) b (z0 p) (eT w) (eM M)=(C0 N r x a e b p w M).map eX:=by
 unfold C0
 simp only[f4A hr,e36,GExpr.eta,e7o,b0G,b6H,c7m,Option.map_some,eX,eS,e7s hr]
theorem e87:∀(d:Nat) (x a e p:Int) (b:Bool) (w:List A4) (M:List (Int×Int)),r7 N d x a (z0 e) b (z0 p) (eT w) (eM M)=(r7 N d x a e b p w M).map eX
 |0,_,_,_,_,_,_,_=>rfl
 |d+1,x,a,e,p,b,w,M=>f3z (e87 d) x a e p b w M
theorem e8D(x:Int):∀(n:Nat) (a e p:Int) (b:Bool) (w:List A4) (M:List (Int×Int)) (ps:List (c8×GExpr)),
  a1P N x (fun a e b p w M ps=>f5 (j7 N ([41]:c8) a e b p w M) fun t=>some (t.1,(t.2.1,(t.2.2.1,(t.2.2.2.1,(t.2.2.2.2.1,(t.2.2.2.2.2,ps))))))) n a (z0 e) b (z0 p) (eT w) (eM M) ps =
  (a1P N x (fun a e b p w M ps=>f5 (j7 N ([41]:c8) a e b p w M) fun t=>some (t.1,(t.2.1,(t.2.2.1,(t.2.2.2.1,(t.2.2.2.2.1,(t.2.2.2.2.2,ps))))))) n a e b p w M ps).map (eP id)
 |0,_,_,_,_,_,_,_=>rfl
 |n+1,a,e,p,b,w,M,ps=>by
  have ih:=e8D x n
  show b6G _ _ _ _ _ _ _ _ _ _ _=(b6G _ _ _ _ _ _ _ _ _ _ _).map _
  unfold b6G
  simp only[ih,e9y,e7u,e87,e36,e31,GExpr.eta,List.length_cons,List.length_nil,b0G,b6H,c7m,Option.map_some,Option.map_none,eX,eS,eP,id]
theorem f4N(x a e p:Int)(b:Bool)(w:List A4)(M:List (Int×Int)):U7 N x a (z0 e) b (z0 p) (eT w) (eM M)=(U7 N x a e b p w M).map (eP id):=by
 unfold U7
 simp only[e31,b0G,b6H,c7m,Option.map_some,eS,e8D]
abbrev PL:Type:=Int×Int×Bool×Int×Int×c8×c8×List (c8×GExpr)×Int×c8×Int×List c8×List GExpr×Int×List A4×List (Int×Int)
def eL(t:PL):PL:=(t.1,(z0 t.2.1,(t.2.2.1,(z0 t.2.2.2.1,(t.2.2.2.2.1,(t.2.2.2.2.2.1,(t.2.2.2.2.2.2.1,(t.2.2.2.2.2.2.2.1,(t.2.2.2.2.2.2.2.2.1,(t.2.2.2.2.2.2.2.2.2.1,(t.2.2.2.2.2.2.2.2.2.2.1,(t.2.2.2.2.2.2.2.2.2.2.2.1,(t.2.2.2.2.2.2.2.2.2.2.2.2.1,(z0 t.2.2.2.2.2.2.2.2.2.2.2.2.2.1,(eT t.2.2.2.2.2.2.2.2.2.2.2.2.2.2.1,eM t.2.2.2.2.2.2.2.2.2.2.2.2.2.2.2)))))))))))))))
theorem f3A(x a e p:Int)(b:Bool)(k:Int)(n t:c8)(k5:Int)(k6:c8)(k7 at_:Int)(w:List A4)(M:List (Int×Int)):
  J5 N x a (z0 e) b (z0 p) k n t k5 k6 k7 (z0 at_) (eT w) (eM M)=(J5 N x a e b p k n t k5 k6 k7 at_ w M).map eL:=by
 unfold J5
 simp only[e9y,e7u,e36,e87,e31,f4N,e63,b0G,b6H,c7m,Option.map_some,eX,eS,eP,eL,id]
def eB(t:List GStmt×PS):List GStmt×PS:=(erL t.1,eS t.2)
def eG(t:GStmt×PS):GStmt×PS:=(erS t.1,eS t.2)
abbrev RBT:Type:=Int->Int->Int->Bool->Int->List A4->List (Int×Int)->Option (List GStmt×PS)
abbrev HB(r:RBT):Prop:=∀(x a e p:Int) (b:Bool) (w:List A4) (M:List (Int×Int)),r x a (z0 e) b (z0 p) (eT w) (eM M)=(r x a e b p w M).map eB
theorem e7a{r:RBT}(hr:HB r)(x a e p:Int)(b:Bool)(w:List A4)(M:List (Int×Int)):s6 N r x a (z0 e) b (z0 p) (eT w) (eM M)=(s6 N r x a e b p w M).map eG:=by
 unfold s6
 simp only[hr,e9x,f0q,e36,e7u,f1y,f1x,e87,f1D,e31,f3A,GExpr.eta,b0G,b6H,c7m,Option.map_some,Option.map_none,eX,eS,eP,eL,eB,eG,id,e4b,e6b]
theorem e6e{r:RBT}(hr:HB r)(x:Int):∀(n:Nat) (a e p:Int) (b:Bool) (w:List A4) (M:List (Int×Int)) (gs:List GStmt),
  b0E N r x (fun a e b p w M gs=>some (a,(e,(b,(p,(w,(M,gs))))))) n a (z0 e) b (z0 p) (eT w) (eM M) (erL gs) =
  (b0E N r x (fun a e b p w M gs=>some (a,(e,(b,(p,(w,(M,gs))))))) n a e b p w M gs).map (eP erL)
 |0,_,_,_,_,_,_,_=>rfl
 |n+1,a,e,p,b,w,M,gs=>by
  have ih:=e6e hr x n
  show a1w _ _ _ _ _ _ _ _ _ _ _ _=(a1w _ _ _ _ _ _ _ _ _ _ _ _).map _
  unfold a1w
  simp only[e9y,e7a hr,GStmt.eta2,e4M,e5o,List.length_cons,List.length_nil,b0G,b6H,c7m,Option.map_some,Option.map_none,eG,eS,eP]
  simp only[<-f0p,ih,eP]
theorem f3x{r:RBT}(hr:HB r)(x a e p:Int)(b:Bool)(w:List A4)(M:List (Int×Int)):x4 N r x a (z0 e) b (z0 p) (eT w) (eM M)=(x4 N r x a e b p w M).map eB:=by
 have hp:=fun(a e p:Int) (b:Bool) (w:List A4) (M:List (Int×Int))=>e6e (N:=N) hr x N a e p b w M []
 rw[e6b]at hp
 unfold x4 H5
 simp only[e31,hp,b0G,b6H,c7m,Option.map_some,eS,eP,eB]
theorem e9b:∀(d:Nat) (x a e p:Int) (b:Bool) (w:List A4) (M:List (Int×Int)),D7 N d x a (z0 e) b (z0 p) (eT w) (eM M)=(D7 N d x a e b p w M).map eB
 |0,_,_,_,_,_,_,_=>rfl
 |d+1,x,a,e,p,b,w,M=>f3x (e9b d) x a e p b w M
def eQ(t:Int×Int×Bool×Int×List A4×List GStmt×List (Int×Int)):Int×Int×Bool×Int×List A4×List GStmt×List (Int×Int):=(t.1,(z0 t.2.1,(t.2.2.1,(z0 t.2.2.2.1,(eT t.2.2.2.2.1,(erL t.2.2.2.2.2.1,eM t.2.2.2.2.2.2))))))
theorem e8F(x:Int):∀(n:Nat) (a e p:Int) (b:Bool) (w:List A4) (gs:List GStmt) (M:List (Int×Int)),
  a7U N x (fun a e b p w gs M=>some (a,(e,(b,(p,(w,(gs,M))))))) n a (z0 e) b (z0 p) (eT w) (erL gs) (eM M) =
  (a7U N x (fun a e b p w gs M=>some (a,(e,(b,(p,(w,(gs,M))))))) n a e b p w gs M).map eQ
 |0,_,_,_,_,_,_,_=>rfl
 |n+1,a,e,p,b,w,gs,M=>by
  have ih:=e8F x n
  show a3a _ _ _ _ _ _ _ _ _ _ _=(a3a _ _ _ _ _ _ _ _ _ _ _).map _
  unfold a3a
  simp only[e9y,e7a (e9b N),GStmt.eta2,e4M,e5o,List.length_cons,List.length_nil,b0G,b6H,c7m,Option.map_some,Option.map_none,eG,eS,eQ]
  simp only[<-f0p,ih,eQ]
theorem f08(x a e p:Int)(b:Bool)(w:List A4):P5 N x a (z0 e) b (z0 p) (eT w)=(P5 N x a e b p w).map eQ:=by
 have:=e8F (N:=N) x N a e p b w [] []
 rw[e6b]at this
 exact this
end
section
def b98:Bool->c8->c8|_,[]=>[]|true,c :: r=>b98 (c !=10) r|false,c :: r=>if c=32 then b98 false r else if c=9 then b98 false r else if c=10 then b98 false r else if c=13 then b98 false r else if c=35 then b98 true r else c :: r
theorem e8G:∀r:c8,b98 true r=if Lib.indexByte r 10<0 then []else b98 false (r.drop (Lib.indexByte r 10).toNat)
 |[]=>by simp[b98,Lib.indexByte]
 |b :: r=>by
  have ih:=e8G r
  rw[b98,b3T]
  by_cases h:b=10
  ·subst h;simp[b98]
  ·have hb:(b !=10)=true:=by simp[h]
   have hg:=Lib.indexByte_ge r 10
   rw[hb,ih,if_neg h]
   by_cases h1:Lib.indexByte r 10 = -1
   ·simp[h1]
   ·rw[if_neg h1,if_neg (show ¬Lib.indexByte r 10<0 by omega),if_neg (show ¬Lib.indexByte r 10+1<0 by omega)]
    rw[show(Lib.indexByte r 10+1).toNat=(Lib.indexByte r 10).toNat+1 by omega,List.drop_succ_cons]
theorem f4B{n:Int}{m:Nat}(h:n=(m:Int))(hm:m<=4611686018427387905):IntKind.i64.wrap n=(m:Int):=by
 rw[h,D8 (by omega) (by omega)]
theorem e4Z{N:Nat}(s:c8)(hs:s.length<=4611686018427387904):∀(d i m:Nat),i+d=s.length->d<m->
  ∃j:Nat,i<=j/\j<=s.length/\s.drop j=b98 false (s.drop i)/\e5V N s (fun o=>some o) m (i:Int)=some (j:Int):=by
 intro d
 induction d using Nat.strongRecOn with
 |_ d ih=>
  intro i m hd hm
  obtain⟨m,rfl⟩:∃q,m=q+1:=⟨m-1,by omega⟩
  show ∃j:Nat,_/\_/\_/\e58 N s _ (e5V N s _ m) (i:Int)=_
  unfold e58
  by_cases hi:i<s.length
  ·rw[P9 hi,d4,o9 s hi,List.drop_eq_getElem_cons hi]
   have next:∃j:Nat,i<=j/\j<=s.length/\s.drop j=b98 false (s.drop (i+1))/\e5V N s (fun o=>some o) m (IntKind.i64.wrap ((i:Int)+1))=some (j:Int):=by
    rw[f4B (m:=i+1) (by omega) (by omega)]
    obtain⟨j,h1,h2,h3,h4⟩:=ih (d-1) (by omega) (i+1) m (by omega) (by omega)
    exact⟨j,by omega,h2,h3,h4⟩
   unfold strings_IndexByte
   simp only[b9,c6L,b98]
   by_cases h32:s[i]=32
   ·simpa [h32]using next
   by_cases h9:s[i]=9
   ·simpa [h9]using next
   by_cases h10:s[i]=10
   ·simpa [h10]using next
   by_cases h13:s[i]=13
   ·simpa [h13]using next
   rw[if_neg h32,if_neg h9,if_neg h10,if_neg h13]
   by_cases h35:s[i]=35
   ·rw[if_pos h35]
    simp only[h35,b85 s (Nat.le_of_lt hi),b9,show((35:UInt8)==35)=true by decide,d4]
    have hid:Lib.indexByte (s.drop i) 10=if Lib.indexByte (s.drop (i+1)) 10 = -1 then -1 else Lib.indexByte (s.drop (i+1)) 10+1:=by
     rw[List.drop_eq_getElem_cons hi,b3T,if_neg h10]
    have hlt:=c9x 10 (s.drop (i+1))
    rw[List.length_drop]at hlt
    have hg:=Lib.indexByte_ge (s.drop (i+1)) 10
    rw[hid,e8G]
    by_cases hneg:Lib.indexByte (s.drop (i+1)) 10 = -1
    ·rw[if_pos hneg,if_pos (by omega),decide_eq_true (by omega),d4]
     exact⟨s.length,by omega,Nat.le_refl _,List.drop_length,rfl⟩
    ·obtain⟨q,hq⟩:∃q:Nat,Lib.indexByte (s.drop (i+1)) 10=(q:Int):=⟨(Lib.indexByte (s.drop (i+1)) 10).toNat,by omega⟩
     rw[if_neg hneg,hq,if_neg (by omega),decide_eq_false (by omega),d6,f4B (m:=i+1+q) (by omega) (by omega)]
     obtain⟨j,h1,h2,h3,h4⟩:=ih (d-(1+q)) (by omega) (i+1+q) m (by omega) (by omega)
     refine⟨j,by omega,h2,?_,h4⟩
     rw[h3,Int.toNat_natCast,List.drop_drop]
   ·rw[if_neg h35]
    refine⟨i,Nat.le_refl _,by omega,List.drop_eq_getElem_cons hi,?_⟩
    simp only[U3 h32,U3 h9,U3 h10,U3 h13,U3 h35,d6,Bool.or_false]
  ·obtain rfl:i=s.length:=by omega
   rw[a0Y,d6]
   exact⟨s.length,Nat.le_refl _,Nat.le_refl _,by rw[List.drop_length];rfl,rfl⟩
def f1A(c:UInt8):Bool:=decide (Lib.indexByte [61,43,40,41,91,93,123,125,44,58,59] c>=0)
def c6F:c8->c8->Option (c8×c8) | [],_=>none | [c],acc=>if c=34 then some (acc,[])else none|c :: e :: r,acc=>if c=34 then some (acc,e :: r)else if c<32 then none else if c>126 then none else if c=92 then(if e=34 then c6F r (acc ++ [34])else if e=92 then c6F r (acc ++ [92])else if e=110 then c6F r (acc ++ [10])else none)else c6F (e :: r) (acc ++ [c])
def e64:c8->Option (Int×c8×Int×c8) | []=>none|c :: r=>if(decide (c>=97)&&decide (c<=122))=true then(if((c :: r).takeWhile Z5).length>40 then none else some (1,(c :: r).takeWhile Z5,0,(c :: r).dropWhile Z5))else if X8 c=true then(if((c :: r).takeWhile X8).length>9 then none else if c=48/\((c :: r).takeWhile X8).length>1 then none else some (3,[],(d9l 0 ((c :: r).takeWhile X8):Int),(c :: r).dropWhile X8))else if c=34 then(c6F r []).map fun z=>(2,z.1,0,z.2)else if f1A c=true then(if c=61/\r.head? = some 61 then some (4,[61,61],0,r.tail)else some (4,[c],0,r))else none
theorem f0o(p:UInt8->Bool):∀l:c8,l.dropWhile p=l.drop (l.takeWhile p).length
 |[]=>rfl
 |a :: l=>by
  rw[List.dropWhile_cons,List.takeWhile_cons]
  split
  ·rw[f0o p l,List.length_cons,List.drop_succ_cons]
  ·rfl
theorem f4w(p:UInt8->Bool)(s:c8)(i:Nat):(s.drop i).dropWhile p=s.drop (i+((s.drop i).takeWhile p).length):=by
 rw[f0o,List.drop_drop]
theorem f1E{N:Nat}(s:c8)(hs:s.length<=50000)(at0:Int):∀(d i m:Nat) (acc:c8),i+d=s.length->d<m->acc.length<=i->
  (∃(txt:c8) (j:Nat),i<j/\j<=s.length/\c6F (s.drop i) acc=some (txt,s.drop j)/\b0F N s 2 0 at0 (fun t=>some ((2,(t,(0,at0))),(0,10))) m (i:Int) acc=some ((2,(txt,(0,at0))),((j:Int),0)))\/
  (∃t e,b0F N s 2 0 at0 (fun t=>some ((2,(t,(0,at0))),(0,10))) m (i:Int) acc=some (t,(e,10))):=by
 intro d
 induction d using Nat.strongRecOn with
 |_ d ih=>
  intro i m acc hd hm ha
  obtain⟨m,rfl⟩:∃q,m=q+1:=⟨m-1,by omega⟩
  show(∃(txt:c8) (j:Nat),_/\_/\_/\c19 N s 2 0 at0 _ (b0F N s 2 0 at0 _ m) (i:Int) acc=_)\/(∃t e,c19 N s 2 0 at0 _ (b0F N s 2 0 at0 _ m) (i:Int) acc=_)
  unfold c19
  by_cases hi:i<s.length
  ·simp only[P9 hi,d4,o9 s hi,b9,O4 (n:=(i:Int)+1) (m:=i+1) (by omega) (by omega)]
   by_cases h34:s[i]=34
   ·left
    refine⟨acc,i+1,by omega,by omega,?_,?_⟩
    ·rw[List.drop_eq_getElem_cons hi]
     cases h:s.drop (i+1)with
     |nil=>simp[c6F,h34]
     |cons e r=>simp[c6F,h34]
    ·simp[h34]
   simp only[U3 h34,d6]
   by_cases h92:s[i]=92
   ·simp only[h92,show decide ((92:UInt8)<32)=false by decide,show decide ((92:UInt8)>126)=false by decide,show((92:UInt8)==92)=true by decide,show((92:UInt8) !=92)=false by decide,d4,d6]
    by_cases hi1:i+1<s.length
    ·have hne:(((i+1:Nat):Int)==(s.length:Int))=false:=by
      rw[beq_eq_false_iff_ne];omega
     simp only[hne,d6,P9 hi1,d4,o9 s hi1,b9,O4 (n:=((i+1:Nat):Int)+1) (m:=i+2) (by omega) (by omega)]
     have hsl:slc s ((i+1:Nat):Int) ((i+2:Nat):Int)=some [s[i+1]]:=by
      rw[a2y s (by omega) (by omega),List.drop_take,show i+2-(i+1)=1 by omega,List.drop_eq_getElem_cons hi1];rfl
     have hb2:∀c:UInt8,decide (acc.length + [c].length<=9223372036854775807)=true:=fun c=>decide_eq_true (by simp;omega)
     have next:∀c:UInt8,_:=fun c=>ih (d-2) (by omega) (i+2) m (acc ++ [c]) (by omega) (by omega) (by simp;omega)
     simp only[hsl,b9,hb2,d4]
     have hT:c6F (s.drop i) acc=if s[i+1]=34 then c6F (s.drop (i+2)) (acc ++ [34])else if s[i+1]=92 then c6F (s.drop (i+2)) (acc ++ [92])else if s[i+1]=110 then c6F (s.drop (i+2)) (acc ++ [10])else none:=by
      rw[List.drop_eq_getElem_cons hi,List.drop_eq_getElem_cons hi1,h92,c6F,if_neg (by decide),if_neg (by decide),if_neg (by decide),if_pos rfl]
     rw[hT]
     by_cases g34:s[i+1]=34
     ·have nx:=next 34
      simp only[g34,show((34:UInt8)==34)=true by decide,d4,if_true]
      rcases nx with⟨txt,j,h1,h2,h3,h4⟩|h
      ·exact .inl ⟨txt,j,by omega,h2,h3,h4⟩
      ·exact .inr h
     simp only[U3 g34,d6,if_neg g34]
     by_cases g92:s[i+1]=92
     ·have nx:=next 92
      simp only[g92,show((92:UInt8)==92)=true by decide,d4,if_true]
      rcases nx with⟨txt,j,h1,h2,h3,h4⟩|h
      ·exact .inl ⟨txt,j,by omega,h2,h3,h4⟩
      ·exact .inr h
     simp only[U3 g92,d6,if_neg g92]
     by_cases g110:s[i+1]=110
     ·have nx:=next 10
      simp only[g110,show((110:UInt8)==110)=true by decide,d4,if_true]
      rcases nx with⟨txt,j,h1,h2,h3,h4⟩|h
      ·exact .inl ⟨txt,j,by omega,h2,h3,h4⟩
      ·exact .inr h
     simp only[U3 g110,d6,if_neg g110]
     exact .inr ⟨_,_,rfl⟩
    ·have he:i+1=s.length:=by omega
     simp only[he,beq_self_eq_true,d4,a0Y,d6]
     exact .inr ⟨_,_,rfl⟩
   have hne92:(s[i] !=92)=true:=by rw[bne,U3 h92];rfl
   simp only[U3 h92,hne92,d6,d4]
   by_cases hlo:s[i]<32
   ·simp only[decide_eq_true hlo,d4]
    exact .inr ⟨_,_,rfl⟩
   by_cases hhi:s[i]>126
   ·simp only[decide_eq_false hlo,decide_eq_true hhi,d4,d6]
    exact .inr ⟨_,_,rfl⟩
   simp only[decide_eq_false hlo,decide_eq_false hhi,d6]
   have hsl:slc s (i:Int) ((i+1:Nat):Int)=some [s[i]]:=by
    rw[a2y s (by omega) (by omega),List.drop_take,show i+1-i=1 by omega,List.drop_eq_getElem_cons hi];rfl
   rw[hsl,b9,decide_eq_true (show acc.length + [s[i]].length<=9223372036854775807 by simp;omega),d4]
   rcases ih (d-1) (by omega) (i+1) m (acc ++ [s[i]]) (by omega) (by omega) (by simp;omega)with⟨txt,j,h1,h2,h3,h4⟩|h
   ·refine .inl ⟨txt,j,by omega,h2,?_,h4⟩
    rw[<-h3,List.drop_eq_getElem_cons hi]
    cases h:s.drop (i+1)with
    |nil=>rw[h]at h3;cases h3
    |cons e r=>rw[c6F,if_neg h34,if_neg hlo,if_neg hhi,if_neg h92]
   ·exact .inr h
  ·obtain rfl:i=s.length:=by omega
   simp only[a0Y,d6]
   exact .inr ⟨_,_,rfl⟩
theorem f0u{N:Nat}(hN:60000<=N)(s:c8)(hs:s.length<=50000){i:Nat}(hi:i<s.length):
  (∃(t:A4) (j:Nat),i<j/\j<=s.length/\t.2.2.2=(i:Int)/\e64 (s.drop i)=some (t.1,t.2.1,t.2.2.1,s.drop j)/\a0N N s (i:Int)=some (t,((j:Int),0)))\/
  (∃(t:A4) (x e:Int),e≠0/\a0N N s (i:Int)=some (t,(x,e))):=by
 have hT:e64 (s.drop i)=_:=congrArg e64 (List.drop_eq_getElem_cons hi)
 rw[e64,<-List.drop_eq_getElem_cons hi]at hT
 unfold a0N
 simp only[o9 s hi,b9,b2v]
 by_cases hsm:(decide (s[i]>=97)&&decide (s[i]<=122))=true
 ·have hsm':=hsm
  rw[if_pos hsm]at hT
  simp only[Bool.and_eq_true]at hsm
  simp only[hsm.1,hsm.2,Bool.and_self,d4,b9,d6h hN s hs (Nat.le_of_lt hi)]
  have hle:=c5u Z5 s (Nat.le_of_lt hi)
  have hpos:0<((s.drop i).takeWhile Z5).length:=by
   rw[List.drop_eq_getElem_cons hi,List.takeWhile_cons,if_pos (by unfold Z5;rw[hsm'];rfl)]
   simp
  rw[a2y s (Nat.le_add_right _ _) hle,b9,a9a Z5 s (Nat.le_of_lt hi),O4 (n:=((i+((s.drop i).takeWhile Z5).length:Nat):Int)-(i:Int)) (m:=((s.drop i).takeWhile Z5).length) (by omega) (by omega)]
  by_cases hg:((((s.drop i).takeWhile Z5).length:Nat):Int)>40
  ·simp only[decide_eq_true hg,d4]
   exact .inr ⟨_,_,2,by decide,rfl⟩
  ·simp only[decide_eq_false hg,d6]
   rw[if_neg (by omega)]at hT
   exact .inl ⟨(1,((s.drop i).takeWhile Z5,(0,(i:Int)))),i+((s.drop i).takeWhile Z5).length,by omega,hle,rfl,by rw[hT,f4w],rfl⟩
 rw[if_neg hsm]at hT
 have hsm':(decide (s[i]>=97)&&decide (s[i]<=122))=false:=by simpa using hsm
 have hcomm:∀(X Y:Option (A4×Int×Int)),br (decide (s[i]>=97)) (br (decide (s[i]<=122)) X Y) Y=Y:=by
  intro X Y
  rcases Bool.and_eq_false_iff.1 hsm' with h|h<;>rw[h]
  ·rw[d6]
  ·cases decide (s[i]>=97)<;>simp
 simp only[hsm',d6,hcomm]
 by_cases hdg:X8 s[i]=true
 ·rw[if_pos hdg]at hT
  simp only[hdg,d4]
  rw[d6i hN s hs (Nat.le_of_lt hi)]
  have hle:=c5u X8 s (Nat.le_of_lt hi)
  rw[a2y s (Nat.le_add_right _ _) hle,b9,a9a X8 s (Nat.le_of_lt hi),O4 (n:=((i+((s.drop i).takeWhile X8).length:Nat):Int)-(i:Int)) (m:=((s.drop i).takeWhile X8).length) (by omega) (by omega)]
  have hc0:(s.drop i).takeWhile X8=s[i] :: (s.drop (i+1)).takeWhile X8:=by
   rw[List.drop_eq_getElem_cons hi,List.takeWhile_cons,if_pos hdg]
  have hall:∀b∈(s.drop i).takeWhile X8,X8 b=true:=d0b X8 _
  rw[f4w]at hT
  generalize hc:(s.drop i).takeWhile X8=c at *
  have hpos:0<c.length:=by rw[hc0];simp
  by_cases h9:(c.length:Int)>9
  ·rw[decide_eq_true h9,decide_eq_true (show(c.length:Int)>1 by omega)]
   simp only[d4]
   by_cases h48:s[i]=48
   ·simp only[h48,show((48:UInt8)==48)=true by decide,d4,b9]
    exact .inr ⟨_,_,10,by decide,rfl⟩
   ·simp only[U3 h48,d6,b9]
    exact .inr ⟨_,_,2,by decide,rfl⟩
  ·rw[decide_eq_false h9]
   rw[if_neg (by omega)]at hT
   simp only[d6,c82 (by omega) (by intro e;rw[e]at hpos;simp at hpos) hall,b9]
   by_cases h1:(c.length:Int)>1
   ·simp only[decide_eq_true h1,d4]
    by_cases h48:s[i]=48
    ·simp only[h48,show((48:UInt8)==48)=true by decide,d4,b9]
     exact .inr ⟨_,_,10,by decide,rfl⟩
    ·simp only[U3 h48,d6,b9]
     rw[if_neg (fun h=>h48 h.1)]at hT
     exact .inl ⟨(3,([],((d9l 0 c:Int),(i:Int)))),i+c.length,by omega,hle,rfl,hT,rfl⟩
   ·simp only[decide_eq_false h1,d6,b9]
    rw[if_neg (fun h=>h1 (by omega))]at hT
    refine .inl ⟨(3,([],((d9l 0 c:Int),(i:Int)))),i+c.length,by omega,hle,rfl,hT,?_⟩
    cases (s[i]==48)<;>simp
 rw[if_neg hdg]at hT
 have hdg':X8 s[i]=false:=by simpa using hdg
 simp only[hdg',d6]
 by_cases h34:s[i]=34
 ·rw[if_pos h34]at hT
  simp only[h34,show((34:UInt8)==34)=true by decide,d4]
  unfold T4
  rw[O4 (n:=(i:Int)+1) (m:=i+1) (by omega) (by omega)]
  rcases f1E (N:=N) s hs (i:Int) (s.length-(i+1)) (i+1) N [] (by omega) (by omega) (by simp)with⟨txt,j,h1,h2,h3,h4⟩|⟨t,e,h4⟩
  ·simp only[h4,b9]
   rw[h3]at hT
   exact .inl ⟨(2,(txt,(0,(i:Int)))),j,by omega,h2,rfl,hT,rfl⟩
  ·simp only[h4,b9]
   exact .inr ⟨_,_,10,by decide,rfl⟩
 rw[if_neg h34]at hT
 simp only[U3 h34,d6]
 unfold strings_IndexByte
 simp only[b9]
 by_cases hsg:Lib.indexByte [61,43,40,41,91,93,123,125,44,58,59] s[i]>=0
 ·rw[if_pos (by unfold f1A;exact decide_eq_true hsg)]at hT
  simp only[decide_eq_true hsg,d4,b9,O4 (n:=(i:Int)+1) (m:=i+1) (by omega) (by omega)]
  have hsl:(s.take (i+1)).drop i=[s[i]]:=by
   rw[List.drop_take,show i+1-i=1 by omega,List.drop_eq_getElem_cons hi];rfl
  rw[a2y s (i:=i) (j:=i+1) (by omega) (by omega),hsl]
  simp only[b9]
  by_cases hi1:i+1<s.length
  ·have hh:(s.drop (i+1)).head? = some s[i+1]:=by rw[List.drop_eq_getElem_cons hi1];rfl
   rw[P9 hi1,d4,o9 s hi1,b9]
   simp only[O4 (n:=((i+1:Nat):Int)+1) (m:=i+2) (by omega) (by omega)]
   have hs2:(s.take (i+2)).drop i=[s[i],s[i+1]]:=by
    rw[List.drop_take,show i+2-i=2 by omega,List.drop_eq_getElem_cons hi,List.drop_eq_getElem_cons hi1];rfl
   rw[a2y s (i:=i) (j:=i+2) (by omega) (by omega),hs2]
   simp only[b9]
   rw[hh]at hT
   by_cases h61:s[i]=61
   ·by_cases g61:s[i+1]=61
    ·simp only[h61,g61,show((61:UInt8)==61)=true by decide,d4]
     rw[if_pos ⟨h61,by rw[g61]⟩,List.tail_drop]at hT
     exact .inl ⟨(4,([61,61],(0,(i:Int)))),i+2,by omega,by omega,rfl,hT,rfl⟩
    ·rw[if_neg (fun h=>g61 (Option.some.inj h.2)),h61]at hT
     simp only[h61,U3 g61,show((61:UInt8)==61)=true by decide,d4,d6]
     exact .inl ⟨(4,([61],(0,(i:Int)))),i+1,by omega,by omega,rfl,hT,rfl⟩
   ·rw[if_neg (fun h=>h61 h.1)]at hT
    simp only[U3 h61,d6]
    exact .inl ⟨(4,([s[i]],(0,(i:Int)))),i+1,by omega,by omega,rfl,hT,rfl⟩
  ·have he:i+1=s.length:=by omega
   have hh:(s.drop (i+1)).head? = none:=by rw[he,List.drop_length];rfl
   rw[hh,if_neg (fun h=>by cases h.2)]at hT
   rw[decide_eq_false (show ¬((i+1:Nat):Int)<(s.length:Int) by omega)]
   simp only[d6]
   refine .inl ⟨((4,([s[i]],(0,(i:Int)))):A4),i+1,by omega,by omega,rfl,hT,?_⟩
   cases (s[i]==61)<;>simp
 ·simp only[decide_eq_false hsg,d6]
  exact .inr ⟨_,_,10,by decide,rfl⟩
inductive LX(L:Nat):c8->List A4->Prop
 |nil {u:c8}:b98 false u=[]->LX L u []
 |cons {u v r t:c8} {k n:Int} {l:List A4}:b98 false u=v->e64 v=some (k,t,n,r)->v.length<=L->LX L r l->LX L u ((k,t,n,((L-v.length:Nat):Int)) :: l)
theorem f1F{N:Nat}(hN:60000<=N)(s:c8)(hs:s.length<=50000):∀(d i m j:Nat) (out x:List A4) (a:Int),j+d=s.length->d<m->out.length<=50000->j<=s.length->
  s.drop j=b98 false (s.drop i)->c8M N s (fun o=>some (0,(0,o))) m (j:Int) out=some (a,(0,x))->∃l,x=out++l/\LX s.length (s.drop i) l:=by
 intro d
 induction d using Nat.strongRecOn with
 |_ d ih=>
  intro i m j out x a hd hm ho hj hsk h
  obtain⟨m,rfl⟩:∃q,m=q+1:=⟨m-1,by omega⟩
  replace h:c8O N s _ (c8M N s _ m) (j:Int) out=_:=h
  unfold c8O at h
  by_cases hjl:j<s.length
  ·rw[P9 hjl,d4]at h
   rcases f0u hN s hs hjl with⟨t,q,g1,g2,g3,g4,g5⟩|⟨t,y,e,g1,g2⟩
   ·rw[g5,b9]at h
    by_cases hfull:(out.length:Int)>=50000
    ·rw[decide_eq_true hfull,d4]at h
     simp at h
    ·have hmem:decide ((out.length + [t].length)*(24*Ty.sz (.pr (.int .i64) (.pr .str (.pr (.int .i64) (.int .i64)))))<=140737488355328)=true:=decide_eq_true (by simp[Ty.sz];omega)
     obtain⟨j',k1,k2,k3,k4⟩:=e4Z (N:=N) s (by omega) (s.length-q) q N (by omega) (by omega)
     have hsk':a1H N s (q:Int)=some (j':Int):=k4
     simp only[decide_eq_false hfull,d6,show((0:Int) !=0)=false by decide,hmem,d4,hsk',b9]at h
     obtain⟨l,rfl,hl⟩:=ih (s.length-j') (by omega) q m j' (out ++ [t]) x a (by omega) (by omega) (by simp;omega) k2 k3 h
     refine⟨t :: l,by simp,?_⟩
     have:=LX.cons (L:=s.length) hsk.symm g4 (by simp) hl
     rw[List.length_drop,show s.length-(s.length-j)=j by omega,<-g3]at this
     exact this
   ·rw[g2,b9]at h
    by_cases hfull:(out.length:Int)>=50000
    ·rw[decide_eq_true hfull,d4]at h
     simp at h
    ·have h0:(e !=0)=true:=by simpa using g1
     simp only[decide_eq_false hfull,d6,h0,d4]at h
     simp at h
     exact absurd h.2.1 g1
  ·obtain rfl:j=s.length:=by omega
   simp only[a0Y,d6]at h
   simp only[Option.some.injEq,Prod.mk.injEq]at h
   rw[List.drop_length]at hsk
   exact⟨[],by rw[h.2.2,List.append_nil],.nil hsk.symm⟩
theorem e7z{N:Nat}(hN:60000<=N){s:c8}{x:List A4}{a:Int}(h:a03 N s=some (a,(0,x))):s.length<=50000/\LX s.length s x:=by
 unfold a03 at h
 by_cases hs:(s.length:Int)>50000
 ·rw[decide_eq_true hs,d4]at h
  simp at h
 ·rw[decide_eq_false hs,d6]at h
  have hs':s.length<=50000:=by omega
  obtain⟨j,k1,k2,k3,k4⟩:=e4Z (N:=N) s (by omega) s.length 0 N (by omega) (by omega)
  have hsk:a1H N s 0=some (j:Int):=k4
  rw[hsk,b9]at h
  obtain⟨l,rfl,hl⟩:=f1F hN s hs' (s.length-j) 0 N j [] x a (by omega) (by omega) (by simp) k2 k3 h
  exact⟨hs',by simpa using hl⟩
theorem e9m{N:Nat}(hN:60000<=N)(s:c8)(hs:s.length<=50000):∀(m:Nat) (j:Nat) (out x:List A4) (a f:Int),j<=s.length->
  c8M N s (fun o=>some (0,(0,o))) m (j:Int) out=some (a,(f,x))->f=0\/x=[]
 |0,j,out,x,a,f,hj,h=>by cases h
 |m+1,j,out,x,a,f,hj,h=>by
  replace h:c8O N s _ (c8M N s _ m) (j:Int) out=_:=h
  unfold c8O at h
  by_cases hjl:j<s.length
  ·rw[P9 hjl,d4]at h
   rcases f0u hN s hs hjl with⟨t,q,g1,g2,g3,g4,g5⟩|⟨t,y,e,g1,g2⟩
   ·rw[g5,b9]at h
    by_cases hfull:(out.length:Int)>=50000
    ·rw[decide_eq_true hfull,d4]at h
     simp only[Option.some.injEq,Prod.mk.injEq]at h
     exact .inr h.2.2.symm
    ·have hmem:decide ((out.length + [t].length)*(24*Ty.sz (.pr (.int .i64) (.pr .str (.pr (.int .i64) (.int .i64)))))<=140737488355328)=true:=decide_eq_true (by simp[Ty.sz];omega)
     obtain⟨j',k1,k2,k3,k4⟩:=e4Z (N:=N) s (by omega) (s.length-q) q N (by omega) (by omega)
     have hsk':a1H N s (q:Int)=some (j':Int):=k4
     simp only[decide_eq_false hfull,d6,show((0:Int) !=0)=false by decide,hmem,d4,hsk',b9]at h
     exact e9m hN s hs m j' _ x a f k2 h
   ·rw[g2,b9]at h
    by_cases hfull:(out.length:Int)>=50000
    ·rw[decide_eq_true hfull,d4]at h
     simp only[Option.some.injEq,Prod.mk.injEq]at h
     exact .inr h.2.2.symm
    ·have h0:(e !=0)=true:=by simpa using g1
     simp only[decide_eq_false hfull,d6,h0,d4]at h
     simp only[Option.some.injEq,Prod.mk.injEq]at h
     exact .inr h.2.2.symm
  ·obtain rfl:j=s.length:=by omega
   simp only[a0Y,d6]at h
   simp only[Option.some.injEq,Prod.mk.injEq]at h
   exact .inl h.2.1.symm
theorem e9B{N:Nat}(hN:60000<=N){s:c8}{x:List A4}{a f:Int}(h:a03 N s=some (a,(f,x))):f=0\/x=[]:=by
 unfold a03 at h
 by_cases hs:(s.length:Int)>50000
 ·rw[decide_eq_true hs,d4]at h
  simp only[Option.some.injEq,Prod.mk.injEq]at h
  exact .inr h.2.2.symm
 ·rw[decide_eq_false hs,d6]at h
  have hs':s.length<=50000:=by omega
  obtain⟨j,k1,k2,k3,k4⟩:=e4Z (N:=N) s (by omega) s.length 0 N (by omega) (by omega)
  have hsk:a1H N s 0=some (j:Int):=k4
  rw[hsk,b9]at h
  exact e9m hN s hs' N j [] x a f k2 h
end
end Go.Proofs.YtolpmfhiegpohaaGreatDoor
