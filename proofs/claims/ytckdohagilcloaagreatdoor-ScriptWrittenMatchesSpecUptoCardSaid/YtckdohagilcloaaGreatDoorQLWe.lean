/- % -/
import Derived.Test.YtckdohagilcloaaGreatDoorQLPaC
import Derived.Test.YtckdohagilcloaaGreatDoorQLPaB
import Derived.Test.YtckdohagilcloaaGreatDoorQLBl1
namespace Go.Proofs.YtckdohagilcloaaGreatDoor
set_option linter.unusedVariables false
set_option linter.unusedSimpArgs false
open Go Go.RowKit
noncomputable section
variable{N:Nat}
section
variable(k a:Int)(q t:d3)(ps:List d3)(ag:List Ag)(E:GExpr)(b l:List GStmt)
theorem a1D:(GStmt.mk k q t ps ag E b l a).kind=k:=rfl
theorem b8R:(GStmt.mk k q t ps ag E b l a).name=q:=rfl
theorem c6A:(GStmt.mk k q t ps ag E b l a).text=t:=rfl
theorem b0k:(GStmt.mk k q t ps ag E b l a).params=ps:=rfl
theorem a4Z:(GStmt.mk k q t ps ag E b l a).args=ag:=rfl
theorem c6z:(GStmt.mk k q t ps ag E b l a).expr=E:=rfl
theorem b17:(GStmt.mk k q t ps ag E b l a).body=b:=rfl
theorem f0l:(GStmt.mk k q t ps ag E b l a).at_=a:=rfl
theorem b8Q:(GStmt.mk k q t ps ag E b l a).els=l:=rfl
end
theorem a2v{s:d3}(h:B7 s=true):(s==([]:d3))=false:=by
 cases s with
 |nil=>cases h
 |cons b x=>rfl
theorem a4B{α R:Type}{p:α->Bool}{v k:R}:∀(l:List α) (j:Nat),(∀s∈l,p s=true)->N0 (fun _ s r=>if(!p s)=true then v else r) k l j=k
 |[],_,_=>rfl
 |s :: l,j,h=>by
  show(if(!p s)=true then v else N0 _ k l (j+1))=k;rw[h s (List.mem_cons_self ..),a4B l (j+1) fun y hy=>h y (List.mem_cons_of_mem _ hy)];simp
theorem c04{α β R:Type}(f:α->β)(body:Nat->β->R->R)(k:R):∀(l:List α) (j:Nat),N0 body k (l.map f) j=N0 (fun i x r=>body i (f x) r) k l j
 |[],_=>rfl
 |x :: l,j=>by
  show body j (f x) (N0 body k (l.map f) (j+1))=_;rw[c04 f body k l (j+1)];rfl
theorem cn0(hN:z7<=N)(l:List d3)(hl:l.length<=50000)(h:∀s∈l,B7 s=true)(k:Int):b9Q N l (l.length:Int) (some k) N 0=some k:=by
 have hx:l.length<=maxLen:=by unfold maxLen;omega
 rw[<-a4B (v:=5) (k:=k) l 0 h];refine A8 (fun _ _=>rfl) l hx (fun self i hi r hr=>?_) (fun self=>?_) hN
 ·have:=W0 (h _ (List.getElem_mem hi));unfold b2s;simp only[m7 l hi,u5 hx hi,hr,c8,a1Y hN _ (show l[i].length<=maxLen by unfold maxLen;omega)];rw[I1 hi,d9,B9]
 ·simp only[b2s,P6,g9,a4B (v:=(5:Int)) (k:=k) l 0 h]
theorem cn1(hN:z7<=N)(l:List Ag)(hl:l.length<=50000)(h:∀s∈l,B7 s.1=true)(k:Int):b4p N l (l.length:Int) (some k) N 0=some k:=by
 have hx:l.length<=maxLen:=by unfold maxLen;omega
 rw[<-a4B (p:=fun s:Ag=>B7 s.1) (v:=5) (k:=k) l 0 h];refine A8 (fun _ _=>rfl) l hx (fun self i hi r hr=>?_) (fun self=>?_) hN
 ·have:=W0 (h _ (List.getElem_mem hi));unfold b2t;simp only[m7 l hi,u5 hx hi,hr,c8,a1Y hN _ (show l[i].1.length<=maxLen by unfold maxLen;omega)];rw[I1 hi,d9,B9]
 ·simp only[b2t,P6,g9,a4B (p:=fun s:Ag=>B7 s.1) (v:=(5:Int)) (k:=k) l 0 h]
theorem tw0(hN:z7<=N)(l:List d3)(hl:l.length<=50000)(k:Bool):b9Z N l (l.length:Int) l (some k) N 0=some (if l.Nodup then k else true):=by
 have hx:l.length<=maxLen:=by unfold maxLen;omega
 rw[<-b8M true k l];refine A8 (fun _ _=>rfl) l hx (fun self i h r hr=>?_) (fun self=>?_) hN
 ·unfold b2x;simp only[m7 l h,u5 hx h,hr,c8,a6V l (Nat.le_of_lt h),Y3 hN (l.take i) (by rw[List.length_take];omega)];rw[I1 h,d9,B9]
 ·simp[b2x]
theorem c03{α R:Type}(p:α->Bool)(v k:R):∀(l:List α) (j:Nat),N0 (fun _ s r=>if p s=true then v else r) k l j=if l.any p=true then v else k
 |[],_=>rfl
 |s :: l,j=>by
  show(if p s=true then v else N0 _ k l (j+1))=_;rw[c03 p v k l (j+1),List.any_cons];cases p s<;>simp
theorem tw2(hN:z7<=N)(l:List Ag)(hl:l.length<=50000)(s:d3)(k:Bool):b91 N l (l.length:Int) s (some k) N 0=some (if(l.any fun z=>s==z.1)=true then true else k):=by
 have hx:l.length<=maxLen:=by unfold maxLen;omega
 rw[<-c03 (fun z:Ag=>s==z.1) true k l 0];refine A8 (fun _ _=>rfl) l hx (fun self i h r hr=>?_) (fun self=>?_) hN
 ·unfold b2z;simp only[m7 l h,u5 hx h,hr,c8];rw[I1 h,d9,B9]
 ·simp[b2z]
theorem tw1(hN:z7<=N)(l:List Ag)(hl:l.length<=50000)(k:Bool):b90 N l (l.length:Int) l (some k) N 0=some (if(l.map (·.1)).Nodup then k else true):=by
 have hx:l.length<=maxLen:=by unfold maxLen;omega
 rw[<-b8M true k (l.map (·.1)),c04];refine A8 (fun _ _=>rfl) l hx (fun self i h r hr=>?_) (fun self=>?_) hN
 ·unfold b2y;simp only[m7 l h,u5 hx h,hr,c8,a6V l (Nat.le_of_lt h)];rw[tw2 hN (l.take i) (by rw[List.length_take];omega),I1 h,d9,<-List.map_take,List.any_map];rfl
 ·simp[b2y]
def c6Q(N:Nat)(R:GStmt->Int->Option Int)(G:GStmt)(x:Int):Option Int:=b78 N R x G.args (G.args.length:Int) (k8 (J0 N R G.body (x+1)) fun t85=>br (t85 !=(0:Int)) (some t85) (k8 (J0 N R G.els (x+1)) fun t93=>some t93)) N (0:Int)
def d4m(N:Nat)(R:GStmt->Int->Option Int)(G:GStmt)(x:Int):Option Int:=br (b8S G) (k8 (A9 N N G.expr (x+1)) fun t61=>br (t61 !=(0:Int)) (some t61) (c6Q N R G x)) (c6Q N R G x)
theorem a3V{R:Type}(c:Bool)(x:Option R):br c x x=x:=by cases c<;>simp
theorem a6H(E:GExpr):(∃z,Q7 N E=some z)/\∃z,T1 N E=some z:=by
 unfold Q7 T1;cases (E.kind==0)<;>cases (E.text==([]:d3))<;>cases (E.number==0)<;>cases ((E.keys.length:Int)==0)<;>simp
theorem c09:Q7 N zE=some true/\T1 N zE=some true:=by
 unfold Q7 T1;simp[F4,Q1,G3,O3,C6]
theorem d2Z(hN:z7<=N){k:Nat}{G:GStmt}(h:SOk (k+1) G){x:Int}(hx0:0<=x){R:GStmt->Int->Option Int}:
  ∃al,C3 N G x=some al/\(al=0->x<30)/\F2 N R G x=if al≠0 then some al else d4m N R G x:=by
 have hP:=h.parts;have e1:=Q9 hN [] (show([]:d3).length<=maxLen by simp);have e2:=U1 hN [] (show([]:d3).length<=maxLen by simp);have e3:=b0d hN [] (by simp) (by simp);have e4:=a1S (N:=N) [] (by simp);have e5:=fun k=>tw0 hN [] (by simp) k
 have e6:=fun k=>tw1 hN [] (by simp) k
 have e7:=fun k=>cn0 hN [] (by simp) (by simp) k
 have e8:=fun k=>cn1 hN [] (by simp) (by simp) k
 simp only[List.length_nil,Int.natCast_zero,List.map_nil,List.nodup_nil,if_true]at e5 e6 e7 e8;have nm:=fun{q:d3} (hq:B7 q=true)=>G4 hN q (by have:=W0 hq;unfold maxLen;omega)
 have nmR:=fun{q:d3} (hq:B7 q=true)=>a1Y hN q (by have:=W0 hq;unfold maxLen;omega)
 have no:=c4O hN G hP.args.1;by_cases hx:x>=30
 ·refine⟨2,?_,fun h=>absurd h (by decide),?_⟩
  ·unfold C3 E8;rw[decide_eq_true hx,d9]
  ·unfold F2;rw[decide_eq_true hx,d9,if_pos (by decide)]
 have hlt:x<30:=by omega
 have hw:IntKind.i64.wrap (x+1)=x+1:=M8 (by omega) (by omega);unfold C3 E8 F2 a2L a3C a23 a5m C8 d4m c6Q b8S;have z1:=(c09 (N:=N)).1;have z2:=(c09 (N:=N)).2;rcases h with⟨q,E,a,h1,h2,rfl⟩|⟨q,ag,a,h1,h2,h3,rfl⟩|⟨q,ps,b,a,h1,h2,h3,h4,h5,rfl⟩|⟨q,E,b,a,h1,h2,h3,h4,rfl⟩|⟨E,b,l,a,h1,h2,h3,h4,h5,rfl⟩|⟨t,a,h1,rfl⟩
 all_goals simp only[a1D,b8R,c6A,b0k,a4Z,c6z,b17,b8Q,f0l,decide_eq_false hx,GExpr.eta,List.map_nil]at no ⊢
 ·obtain⟨_,z,hz⟩:=a6H (N:=N) E;refine⟨0,?_,fun _=>hlt,?_⟩
  ·simp[D8,a1D,nm h1,h1,no,e1,e3,e4,a2v h1]
  ·simp[nmR h1,h1,e2,e5,e6,a2v h1,hw,hz,a3V]
 ·refine⟨if(ag.length:Int)>30 then 2 else if(ag.map (·.1)).Nodup then 0 else 7,?_,fun _=>hlt,?_⟩
  ·have c1:=b0d hN (ag.map (·.1)) (by simpa using h2) (fun q hq=>by
    obtain⟨c,hc,rfl⟩:=List.mem_map.1 hq;have:=W0 (h3 c hc).1;omega)
   have c2:((ag.map (·.1)).any fun q=>!B7 q)=false:=by
    rw[List.any_eq_false];intro q hq;obtain⟨c,hc,rfl⟩:=List.mem_map.1 hq;simp[(h3 c hc).1]
   have c3:=a1S (N:=N) (ag.map (·.1)) (by simp;omega);rw[c2]at c1;simp[D8,a1D,nm h1,h1,no,e1,e3,e4,c1,c3,z1,a2v h1];by_cases g1:(30:Int)<(ag.length:Int)<;>by_cases g2:(ag.map (·.1)).Nodup<;>simp[g1,g2]
  ·have c4:=fun k=>cn1 hN ag h2 (fun s hs=>(h3 s hs).1) k
   have c5:=fun k=>tw1 hN ag h2 k
   simp[nmR h1,h1,e2,e5,e6,c4,c5,z2,a2v h1,hw,a3V];by_cases g1:(30:Int)<(ag.length:Int)<;>by_cases g2:(ag.map (·.1)).Nodup<;>simp[g1,g2,e5,a3V]
 ·refine⟨if(ps.length:Int)>30 then 2 else if ps.Nodup then 0 else 7,?_,fun _=>hlt,?_⟩
  ·have c1:=b0d hN ps (by simpa using h2) (fun q hq=>by have:=W0 (h3 q hq);omega);have c2:(ps.any fun q=>!B7 q)=false:=by
    rw[List.any_eq_false];intro q hq;simp[h3 q hq]
   have c3:=a1S (N:=N) ps (by omega);rw[c2]at c1;simp[D8,a1D,nm h1,h1,no,e1,e3,e4,c1,c3,z1,a2v h1];by_cases g1:(30:Int)<(ps.length:Int)<;>by_cases g2:ps.Nodup<;>simp[g1,g2]
  ·have c4:=fun k=>cn0 hN ps h2 h3 k
   have c5:=fun k=>tw0 hN ps h2 k
   simp[nmR h1,h1,e2,e5,e6,c4,c5,z2,a2v h1,hw,a3V];by_cases g1:(30:Int)<(ps.length:Int)<;>by_cases g2:ps.Nodup<;>simp[g1,g2,e6,c5,a3V]
 ·obtain⟨_,z,hz⟩:=a6H (N:=N) E;refine⟨0,?_,fun _=>hlt,?_⟩
  ·simp[D8,a1D,nm h1,h1,no,e1,e3,e4,a2v h1]
  ·simp[nmR h1,h1,e2,e5,e6,a2v h1,hw,hz,a3V]
 ·obtain⟨_,z,hz⟩:=a6H (N:=N) E;refine⟨0,?_,fun _=>hlt,?_⟩
  ·simp[D8,a1D,no,e1,e3,e4]
  ·simp[e2,e5,e6,hw,hz,a3V]
 ·have t1:=Q9 hN t (show t.length<=maxLen by unfold maxLen;omega);have t2:=U1 hN t (show t.length<=maxLen by unfold maxLen;omega);obtain⟨bt,hbt⟩:∃b,b=t.all y0:=⟨_,rfl⟩;rw[<-hbt]at t1 t2;refine⟨if bt=true then 0 else 3,?_,fun _=>hlt,?_⟩
  ·simp[D8,a1D,no,e1,e3,e4,t1,z1];cases bt<;>simp
  ·simp[e2,e5,e6,hw,t2,z2];cases bt<;>cases (t==([]:d3))<;>simp[e5,e6,a3V]
theorem b6k(hN:z7<=N){SB:List GStmt->Int->Option Int}{R:GStmt->Int->Option Int}{x:Int}(hx:0<=x)(hx2:x<30){ag:List Ag}(hl:ag.length<=50000)(hc:∀q∈ag,EOk 60000 q.2):∀(u j:Nat),j+u=ag.length->∃v:Int,∀(f1 f2:Nat),u<f1->u<f2->∀K1 K2:Option Int,
  a6m N SB x ag (ag.length:Int) K1 f1 (j:Int)=(if v≠0 then some v else K1)/\b78 N R x ag (ag.length:Int) K2 f2 (j:Int)=(if v≠0 then some v else K2)
 |0,j,hj=>⟨0,fun f1 f2 h1 h2 K1 K2=>by
  obtain⟨f1,rfl⟩:∃q,f1=q+1:=⟨f1-1,by omega⟩;obtain⟨f2,rfl⟩:∃q,f2=q+1:=⟨f2-1,by omega⟩;obtain rfl:j=ag.length:=by omega
  show a2S _ _ _ _ _ _ _ _=_/\b1k _ _ _ _ _ _ _ _=_;unfold a2S b1k;rw[Q5,g9,g9];exact⟨rfl,rfl⟩⟩
 |u+1,j,hj=>by
  have h:j<ag.length:=by omega
  obtain⟨v,ih⟩:=b6k hN (SB:=SB) (R:=R) hx hx2 hl hc u (j+1) (by omega);obtain⟨q,e1,e2⟩:=a8D hN 60000 _ (hc _ (List.getElem_mem h)) N (by unfold z7 at hN;omega) (x+1) (by omega);refine⟨if q≠0 then q else v,fun f1 f2 h1 h2 K1 K2=>?_⟩;obtain⟨f1,rfl⟩:∃q,f1=q+1:=⟨f1-1,by omega⟩;obtain⟨f2,rfl⟩:∃q,f2=q+1:=⟨f2-1,by omega⟩;obtain⟨i1,i2⟩:=ih f1 f2 (by omega) (by omega) K1 K2;show a2S _ _ _ _ _ _ _ _=_/\b1k _ _ _ _ _ _ _ _=_;unfold a2S b1k;rw[L4 h,d9,d9,m7 _ h];simp only[c8,GExpr.eta,M8 (n:=x+1) (by omega) (by omega),e1,e2,a0C (n:=(j:Int)+1) (m:=j+1) (by omega) (by omega),i1,i2];by_cases hq:q=0
  ·subst hq;simp
  ·rw[show(q !=0)=true by simpa using hq];simp[hq]
def Cl(N k:Nat)(SB:List GStmt->Int->Option Int)(R:GStmt->Int->Option Int):Prop:=∀l:List GStmt,l.length<=50000->(∀c∈l,SOk k c)->∀x:Int,0<=x->∃v,SB l x=some v/\J0 N R l x=some v
theorem c84(hN:z7<=N){k:Nat}{SB:List GStmt->Int->Option Int}{R:GStmt->Int->Option Int}(hB:Cl N k SB R){G:GStmt}(h:SOk (k+1) G){x:Int}(hx:0<=x):
  ∃v,F2 N R G x=some v/\∀cont:Option Int,(k8 (C3 N G x) fun t22=>br (t22 !=(0:Int)) (some t22) (k8 (D8 N G) fun t27=>br (t27.2.2.2.2.1)
    (k8 (A7 N N G.expr (x+1)) fun t33=>
    br (t33 !=(0:Int))
     (some t33)
     (a6m N SB x G.args (G.args.length:Int) (k8 (SB G.body (x+1)) fun t57=>
       br (t57 !=(0:Int))
        (some t57)
        (k8 (SB G.els (x+1)) fun t65=>
        br (t65 !=(0:Int))
         (some t65)
         cont)) N (0:Int)))
    (a6m N SB x G.args (G.args.length:Int) (k8 (SB G.body (x+1)) fun t57=>
       br (t57 !=(0:Int))
        (some t57)
        (k8 (SB G.els (x+1)) fun t65=>
        br (t65 !=(0:Int))
         (some t65)
         cont)) N (0:Int))))=if v≠0 then some v else cont:=by
 have P:=h.parts;obtain⟨al,a1,a2,a3⟩:=d2Z hN h hx (R:=R);rw[a3,a1];simp only[c8];by_cases ha:al=0
 case neg=>exact⟨al,by rw[if_pos ha],fun cont=>by rw[show(al !=0)=true by simpa using ha,d9,if_pos ha]⟩
 have hx2:=a2 ha;subst ha;rw[if_neg (by simp)];obtain⟨hs,q1,q2⟩:=d3G (N:=N) P;obtain⟨vb,b1,b2⟩:=hB _ P.body.1 P.body.2 (x+1) (by omega);obtain⟨ve,l1,l2⟩:=hB _ P.els.1 P.els.2 (x+1) (by omega);obtain⟨va,hva⟩:=b6k hN (SB:=SB) (R:=R) hx hx2 P.args.1 P.args.2 G.args.length 0 (by omega);have hva':=fun K1 K2=>hva N N (by have:=P.args.1;unfold z7 at hN;omega) (by have:=P.args.1;unfold z7 at hN;omega) K1 K2
 have v1:=fun K1=>(hva' K1 none).1
 have v2:=fun K2=>(hva' none K2).2
 simp only[Int.natCast_zero]at v1 v2;unfold d4m c6Q;simp only[q1,c8,q2,b1,b2,l1,l2,v1,v2,bne_self_eq_false,g9];have tail:∃v,(if va≠0 then some va else br (vb !=0) (some vb) (some ve))=some v/\∀cont:Option Int,(if va≠0 then some va else br (vb !=0) (some vb) (br (ve !=0) (some ve) cont))=if v≠0 then some v else cont:=by
  by_cases h1:va=0
  ·subst h1;by_cases h2:vb=0
   ·subst h2;refine⟨ve,by simp,fun cont=>?_⟩;by_cases h3:ve=0
    ·subst h3;simp
    ·rw[show(ve !=0)=true by simpa using h3];simp[h3]
   ·exact⟨vb,by rw[show(vb !=0)=true by simpa using h2];simp,fun cont=>by rw[show(vb !=0)=true by simpa using h2];simp[h2]⟩
  ·exact⟨va,by simp[h1],fun cont=>by simp[h1]⟩
 rcases P.expr with⟨hE,hOk⟩|⟨hE,hz⟩
 ·rw[hE];obtain⟨w,w1,w2⟩:=a8D hN 60000 _ hOk N (by unfold z7 at hN;omega) (x+1) (by omega);simp only[d9,w1,w2,c8];by_cases hw:w=0
  ·subst hw;simp only[bne_self_eq_false,g9];exact tail
  ·rw[show(w !=0)=true by simpa using hw];exact⟨w,by simp,fun cont=>by simp[hw]⟩
 ·rw[hE];simp only[g9];exact tail
theorem b25(hN:z7<=N){k:Nat}{SB:List GStmt->Int->Option Int}{R:GStmt->Int->Option Int}(hB:Cl N k SB R){x:Int}(hx:0<=x){Gs:List GStmt}(hl:Gs.length<=50000)(hG:∀G∈Gs,SOk (k+1) G):∀(u j:Nat),j+u=Gs.length->∃v:Int,∀(f1 f2:Nat),u<f1->u<f2->
  b1T N SB x Gs (Gs.length:Int) (some 0) f1 (j:Int)=some v/\b9R N (F2 N R) x Gs (Gs.length:Int) (some 0) f2 (j:Int)=some v
 |0,j,hj=>⟨0,fun f1 f2 h1 h2=>by
  obtain⟨f1,rfl⟩:∃q,f1=q+1:=⟨f1-1,by omega⟩;obtain⟨f2,rfl⟩:∃q,f2=q+1:=⟨f2-1,by omega⟩;obtain rfl:j=Gs.length:=by omega
  show Y6 _ _ _ _ _ _ _ _=_/\a2k _ _ _ _ _ _ _ _=_;unfold Y6 a2k;rw[Q5,g9,g9];exact⟨rfl,rfl⟩⟩
 |u+1,j,hj=>by
  have h:j<Gs.length:=by omega
  obtain⟨v,ih⟩:=b25 hN hB hx hl hG u (j+1) (by omega);obtain⟨q,r1,s1⟩:=c84 hN hB (hG _ (List.getElem_mem h)) hx;by_cases hx30:x<30
  case neg=>
   obtain⟨al,a1,a2,a3⟩:=d2Z hN (hG _ (List.getElem_mem h)) hx (R:=R);have hal:al≠0:=fun e=>hx30 (a2 e)
   rw[if_pos hal]at a3;refine⟨al,fun f1 f2 h1 h2=>?_⟩;obtain⟨f1,rfl⟩:∃q,f1=q+1:=⟨f1-1,by omega⟩;obtain⟨f2,rfl⟩:∃q,f2=q+1:=⟨f2-1,by omega⟩;show Y6 _ _ _ _ _ _ _ _=_/\a2k _ _ _ _ _ _ _ _=_;unfold Y6 a2k;rw[L4 h,d9,d9,m7 _ h];simp[GExpr.eta,GStmt.eta,a1,a3,show(al !=0)=true by simpa using hal]
  refine⟨if q≠0 then q else v,fun f1 f2 h1 h2=>?_⟩;obtain⟨f1,rfl⟩:∃q,f1=q+1:=⟨f1-1,by omega⟩;obtain⟨f2,rfl⟩:∃q,f2=q+1:=⟨f2-1,by omega⟩;obtain⟨i1,i2⟩:=ih f1 f2 (by omega) (by omega);show Y6 _ _ _ _ _ _ _ _=_/\a2k _ _ _ _ _ _ _ _=_;unfold Y6 a2k;rw[L4 h,d9,d9,m7 _ h];simp only[c8,GExpr.eta,GStmt.eta,r1,M8 (n:=x+1) (by omega) (by omega),a0C (n:=(j:Int)+1) (m:=j+1) (by omega) (by omega),i1,i2];rw[s1];by_cases hq:q=0
  ·subst hq;simp
  ·rw[show(q !=0)=true by simpa using hq];simp[hq]
theorem b24(hN:z7<=N):∀(k n:Nat),k<n->Cl N k (s6 N n) (G8 N n)
 |k,0,h=>absurd h (by omega)
 |0,n+1,h=>fun l hl hG x hx=>by
  have:l=[]:=List.eq_nil_iff_forall_not_mem.2 fun G hg=>hG G hg
  subst this;obtain⟨f,rfl,_⟩:=c0z hN;refine⟨0,?_,?_⟩
  ·show Y6 (f+1) _ _ _ _ _ _ _=_;simp[Y6]
  ·show a2k (f+1) _ _ _ _ _ _ _=_;simp[a2k]
 |k+1,n+1,h=>fun l hl hG x hx=>by
  obtain⟨v,hv⟩:=b25 hN (b24 hN k n (by omega)) hx hl hG l.length 0 (by omega);exact⟨v,hv N N (by unfold z7 at hN;omega) (by unfold z7 at hN;omega)⟩
theorem e5K(hN:z7<=N)(Gs:List GStmt)(hl:Gs.length<=50000)(hG:∀G∈Gs,SOk 50001 G):∃c,t8 N Gs=some c/\a0f N Gs=some c:=by
 have hb:1000000<N:=by unfold z7 at hN;omega
 obtain⟨v,v1,v2⟩:=b27 hN 50001 Gs hl hG N (by omega);obtain⟨c,c1,c2⟩:=b24 hN 50001 N (by omega) Gs hl hG 0 (by omega);unfold t8 a0f;rw[v1,v2,c1,c2];simp only[c8];cases decide (W64 v>50000)
 ·exact⟨c,by simp,by simp⟩
 ·exact⟨2,by simp,by simp⟩
end
section
variable{N:Nat}
theorem EOk.keys{k:Nat}{e:GExpr}(h:EOk (k+1) e):e.keys.length<=50000:=by
 rcases h with⟨t,h1,rfl⟩|⟨m,rfl⟩|⟨t,h1,h2,rfl⟩|⟨es,h1,rfl,h3⟩|⟨a,b,rfl,h2,h3⟩|⟨ks,es,h0,hp,h1,h4,rfl,h3⟩|⟨a,b,rfl,h2,h3⟩|⟨a,b,rfl,h2,h3⟩<;>simp[O3]
 omega
theorem SOk.params{k:Nat}{G:GStmt}(h:SOk (k+1) G):G.params.length<=50000:=by
 rcases h with⟨q,E,a,h1,h2,rfl⟩|⟨q,ag,a,h1,h2,h3,rfl⟩|⟨q,ps,b,a,h1,h2,h3,h4,h5,rfl⟩|⟨q,E,b,a,h1,h2,h3,h4,rfl⟩|⟨E,b,l,a,h1,h2,h3,h4,h5,rfl⟩|⟨t,a,h1,rfl⟩<;>simp[b0k]
 omega
end
section
variable{N:Nat}
def z0(_:Int):Int:=0
def eK(t:K6):K6:=(t.1,t.2.1,t.2.2.1,z0 t.2.2.2)
def eT(w:List K6):List K6:=w.map eK
def eMk(m:Int×Int):Int×Int:=(z0 m.1,m.2)
def eM(M:List (Int×Int)):List (Int×Int):=M.map eMk
abbrev PS:Type:=Int×Int×Bool×Int×List K6×List (Int×Int)
def eS(t:PS):PS:=(t.1,z0 t.2.1,t.2.2.1,z0 t.2.2.2.1,eT t.2.2.2.2.1,eM t.2.2.2.2.2)
mutual
def erS:GStmt->GStmt | .mk k n t ps ag x b e a=> .mk k n t ps ag x (erL b) (erL e) (z0 a)
def erL:List GStmt->List GStmt | []=>[]|s :: l=>erS s :: erL l
end
theorem a9m:∀l:List GStmt,erL l=l.map erS
 |[]=>by rw[erL];rfl
 |s :: l=>by rw[erL,a9m l];rfl
theorem a4l(k:Int)(n t:d3)(ps:List d3)(ag:List (d3×GExpr))(x:GExpr)(b e:List GStmt)(a:Int):erS (.mk k n t ps ag x b e a) = .mk k n t ps ag x (erL b) (erL e) (z0 a):=by rw[erS]
theorem b8N(l:List GStmt):(erL l).length=l.length:=by rw[a9m,List.length_map]
theorem d3E{α β:Type}(f:α->β)(l:List α)(i:Int):n8 (l.map f) i=(n8 l i).map f:=by
 unfold n8;split
 ·rw[List.getElem?_map]
 ·rfl
theorem c6x(l:List GStmt)(i:Int):n8 (erL l) i=(n8 l i).map erS:=by rw[a9m,d3E]
theorem c6r{α β R:Type}(x:Option α)(f:α->β)(k:β->Option R):k8 (x.map f) k=k8 x (fun t=>k (f t)):=by cases x<;>simp[k8]
end
section
variable{N:Nat}
theorem c0U(s:GStmt):(erS s).kind=s.kind:=by cases s;rw[a4l];rfl
theorem d3x(s:GStmt):(erS s).name=s.name:=by cases s;rw[a4l];rfl
theorem d3y(s:GStmt):(erS s).text=s.text:=by cases s;rw[a4l];rfl
theorem c4C(s:GStmt):(erS s).params=s.params:=by cases s;rw[a4l];rfl
theorem a9n(s:GStmt):(erS s).args=s.args:=by cases s;rw[a4l];rfl
theorem b3b(s:GStmt):(erS s).expr=s.expr:=by cases s;rw[a4l];rfl
theorem b3a(s:GStmt):(erS s).body=erL s.body:=by cases s;rw[a4l];rfl
theorem b8O(s:GStmt):(erS s).els=erL s.els:=by cases s;rw[a4l];rfl
abbrev PR:Type:=Int×Int×List GStmt
def eR(t:PR):PR:=(z0 t.1,t.2.1,erL t.2.2)
end
section
variable{N:Nat}
section
variable{w:List K6}{e0:Int}
variable{B:RBt}{L:Nat}
end
end
section
variable{N:Nat}
theorem b2O(hN:z7<=N)(l:List d3)(hx:l.length<=maxLen)(hl:∀q∈l,q.length<=maxLen):u7 N l ()=some (l.any fun q=>!B7 q):=by
 unfold u7 G5;have:d9F N l (l.length:Int) (some (-1)) N 0=some (a9u (fun q=>!B7 q) l):=by
  refine A8 (fun _ _=>rfl) l hx (fun self i h r hr=>?_) (fun self=>?_) hN
  ·have hi:=hl _ (List.getElem_mem h);unfold b8t C8;simp only[m7 l h,u5 hx h,hr,c8,G4 hN _ hi];rw[I1 h,d9,B9]
  ·simp[b8t]
 rw[this,c8,a0p]
theorem c4n(hN:z7<=N)(l:List d3)(hx:l.length<=maxLen)(hl:∀q∈l,q.length<=maxLen):v8 N l ()=some (l.any fun q=>!q.all y0):=by
 unfold v8 F6;have:d8G N l (l.length:Int) (some (-1)) N 0=some (a9u (fun q=>!q.all y0) l):=by
  refine A8 (fun _ _=>rfl) l hx (fun self i h r hr=>?_) (fun self=>?_) hN
  ·have hi:=hl _ (List.getElem_mem h);unfold b8h O6;simp only[m7 l h,u5 hx h,hr,c8,Q9 hN _ hi];rw[I1 h,d9,B9]
  ·simp[b8h]
 rw[this,c8,a0p]
theorem f0h{l:List d3}{z:d3}(h:l.length<=1000000000):Zf (l.length + [z].length) .str=true:=decide_eq_true (by simp[Ty.sz];omega)
theorem d3Y(hN:z7<=N)(G:GStmt)(h:G.args.length<=1000000):H8 N G=some (G.args.map (·.1)):=by
 unfold H8;have go:∀(m f j:Nat),j+m=G.args.length->m<f->b4D N G.args (G.args.length:Int) (fun o=>some o) f (j:Int) ((G.args.take j).map (·.1))=some (G.args.map (·.1)):=by
  intro m;induction m with
  |zero=>
   intro f j hj hf;obtain⟨f,rfl⟩:∃q,f=q+1:=⟨f-1,by omega⟩;obtain rfl:j=G.args.length:=by omega
   show a2j _ _ _ _ _ _ _=_;unfold a2j;rw[Q5,g9,List.take_length]
  |succ m ih=>
   intro f j hj hf;obtain⟨f,rfl⟩:∃q,f=q+1:=⟨f-1,by omega⟩;have hl:j<G.args.length:=by omega
   show a2j _ _ _ _ _ _ _=_;unfold a2j;rw[L4 hl,d9,m7 _ hl,c8,f0h (by simp;omega),d9,f06 (m:=j+1) (by omega) (by omega)];rw[show(G.args.take j).map (·.1) ++ [G.args[j].1]=(G.args.take (j+1)).map (·.1) by rw[List.take_succ_eq_append_getElem hl,List.map_append];rfl];exact ih f (j+1) (by omega) (by omega)
 have:=go G.args.length N 0 (by omega) (by unfold z7 at hN;omega);simpa using this
theorem a0m{R:Type}{c:Bool}{x y:Option R}(h:c=false):br c x y=y:=by rw[h,g9]
end
section
variable{N:Nat}
def isZ(E:GExpr):Bool:=E.kind==0&&(E.text==([]:d3)&&(E.number==0&&(((E.keys.length:Int)==0)&&((E.kids.length:Int)==0))))
theorem c4J(E:GExpr):Q7 N E=some (isZ E):=by
 unfold Q7 isZ;generalize (E.kind==0)=b1;generalize (E.text==([]:d3))=b2;generalize (E.number==0)=b3;generalize ((E.keys.length:Int)==0)=b4;cases b1<;>cases b2<;>cases b3<;>cases b4<;>simp
abbrev T7:Type:=Bool×Bool×Bool×Bool×Bool×Bool×Bool
def hsT(k:Int):T7:=if k=1 then(true,false,false,false,true,false,false)else if k=2 then(true,false,false,true,false,false,false)else if k=3 then(true,false,true,false,false,true,false)else if k=4 then(true,false,false,false,true,true,false)else if k=5 then(false,false,false,false,true,true,true)else(false,true,false,false,false,false,false)
theorem b8T(s:GStmt):D8 N s=some (hsT s.kind):=by
 unfold D8 hsT;by_cases h1:s.kind=1
 ·simp[h1]
 by_cases h2:s.kind=2
 ·simp[h2]
 by_cases h3:s.kind=3
 ·simp[h3]
 by_cases h4:s.kind=4
 ·simp[h4]
 by_cases h5:s.kind=5
 ·simp[h5]
 rw[a0m (by simpa using h1),a0m (by simpa using h2),a0m (by simpa using h3),a0m (by simpa using h4),a0m (by simpa using h5),if_neg h1,if_neg h2,if_neg h3,if_neg h4,if_neg h5]
end
section
variable{N:Nat}
theorem S9{α β R:Type}(hN:z7<=N){f:Nat->Int->List β->Option R}{T:(Int->List β->Option R)->Int->List β->Option R}(hf:∀n i s,f (n+1) i s=T (f n) i s)(xs:List α)(hx:xs.length<=maxLen)(g:α->β)(w0:List β){K:List β->Option R}
  (hT:∀(self:Int->List β->Option R) (i:Nat) (h:i<xs.length) (w:List β),w.length=w0.length+i->T self (i:Int) w=self ((i+1:Nat):Int) (w ++ [g xs[i]]))
  (hE:∀(self:Int->List β->Option R) (w:List β),T self (xs.length:Int) w=K w):f N 0 w0=K (w0++xs.map g):=by
 have key:=a5c (S:=List β) (R:=R) (f:=f) (T:=T) hf hx (fun i=>w0++(xs.take i).map g) (r:=K (w0++xs.map g)) (fun self i h hs=>?_) (fun self=>?_) hN
 ·simpa using key
 ·rw[hT self i h _ (by simp;omega),List.append_assoc];rw[List.take_succ_eq_append_getElem h,List.map_append]at hs;exact hs
 ·rw[hE,List.take_length]
theorem b6y{α β γ R:Type}(hN:z7<=N){f:Nat->Int->List β->List γ->Option R}{T:(Int->List β->List γ->Option R)->Int->List β->List γ->Option R}(hf:∀n i s t,f (n+1) i s t=T (f n) i s t)(xs:List α)(hx:xs.length<=maxLen)(g:α->β)(g':α->γ){K:List β->List γ->Option R}
  (hT:∀(self:Int->List β->List γ->Option R) (i:Nat) (h:i<xs.length) (w:List β) (w':List γ),w.length=i->w'.length=i->T self (i:Int) w w'=self ((i+1:Nat):Int) (w ++ [g xs[i]]) (w' ++ [g' xs[i]]))
  (hE:∀(self:Int->List β->List γ->Option R) (w:List β) (w':List γ),T self (xs.length:Int) w w'=K w w'):f N 0 [] []=K (xs.map g) (xs.map g'):=by
 have key:=a5c (S:=List β×List γ) (R:=R) (f:=fun n i s=>f n i s.1 s.2) (T:=fun self i s=>T (fun i a b=>self i (a,b)) i s.1 s.2) (fun n i s=>hf n i s.1 s.2) hx (fun i=>((xs.take i).map g,(xs.take i).map g')) (r:=K (xs.map g) (xs.map g')) (fun self i h hs=>?_) (fun self=>?_) hN
 ·simpa using key
 ·show T _ _ _ _=_;rw[hT _ i h _ _ (by simp;omega) (by simp;omega)];rw[List.take_succ_eq_append_getElem h,List.map_append,List.map_append]at hs;exact hs
 ·show T _ _ _ _=_;rw[hE,List.take_length]
section
variable(k n:Int)(t:d3)(l:List d3)(cs:List T8)
theorem a2a:(GValue.mk k t n l cs).kind=k:=rfl
theorem b19:(GValue.mk k t n l cs).text=t:=rfl
theorem a7n:(GValue.mk k t n l cs).number=n:=rfl
theorem b18:(GValue.mk k t n l cs).list=l:=rfl
theorem a9s:(GValue.mk k t n l cs).cases=cs:=rfl
end
def RV0(v:GValue):Prop:=(∃t:d3,t.length<=1000/\t.all y0=true/\v = .mk 1 t 0 [] [])\/(∃n:Nat,n<=999999999/\v = .mk 2 [] (n:Int) [] [])\/(∃l:List d3,l.length<=1000/\(∀s∈l,s.length<=1000/\s.all y0=true)/\v = .mk 3 [] 0 l [])
def RV(v:GValue):Prop:=RV0 v\/∃cs:List T8,0<cs.length/\cs.length<=50/\(∀c∈cs,c.1.length<=1000/\c.1.all y0=true/\RV0 c.2)/\v = .mk 4 [] 0 [] cs
theorem iz{b:Bool}{n x:Int}(hn:n≠0)(h:(if b=true then n else x)=0):b=false/\x=0:=by
 cases b with
 |false=>exact⟨rfl,h⟩
 |true=>exact absurd h hn
theorem d4N{l:List d3}(h1:l.any (fun s=>decide ((s.length:Int)>1000))=false)(h2:l.any (fun s=>!s.all y0)=false):∀s∈l,s.length<=1000/\s.all y0=true:=fun s hs=>by
 have a:=List.any_eq_false.1 h1 s hs;have b:=List.any_eq_false.1 h2 s hs;have a':¬(s.length:Int)>1000:=by simpa using a
 exact⟨by omega,by simpa using b⟩
theorem b4a{v:GValue}{cc:Int}(h:a0A cc v=0):1<=v.kind/\v.kind<=4/\(v.kind≠1->v.text=[])/\(v.kind≠2->v.number=0)/\(v.kind≠3->v.list=[])/\(v.kind≠4->v.cases=[])/\
  v.text.length<=1000/\v.text.all y0=true/\v.list.length<=1000/\(∀s∈v.list,s.length<=1000/\s.all y0=true)/\v.cases.length<=50/\0<=v.number/\v.number<=999999999/\(v.kind=4->cc=0):=by
 unfold a0A at h;obtain⟨h1,h⟩:=iz (by decide) h;obtain⟨h2,h⟩:=iz (by decide) h;obtain⟨h3,h⟩:=iz (by decide) h;unfold a6i at h;obtain⟨h4,h⟩:=iz (by decide) h;obtain⟨h5,h⟩:=iz (by decide) h;obtain⟨h6,h⟩:=iz (by decide) h;obtain⟨h7,h⟩:=iz (by decide) h;obtain⟨h8,h⟩:=iz (by decide) h;obtain⟨h9,h⟩:=iz (by decide) h;obtain⟨h10,h⟩:=iz (by decide) h;obtain⟨h11,h⟩:=iz (by decide) h;unfold a6b at h3;simp only[Bool.or_eq_false_iff,Bool.and_eq_false_iff]at h3;obtain⟨⟨⟨f1,f2⟩,f3⟩,f4⟩:=h3;have d1:=of_decide_eq_false h1;have d2:=of_decide_eq_false h2;have d4:=of_decide_eq_false h4;have d5:=of_decide_eq_false h5;have d7:=of_decide_eq_false h7;have d10:=of_decide_eq_false h10;have d11:=of_decide_eq_false h11;refine⟨by omega,by omega,fun k=>?_,fun k=>?_,fun k=>?_,fun k=>?_,by omega,by simpa using h8,by omega,d4N h6 h9,by omega,by omega,by omega,fun k=>?_⟩
 ·rcases f1 with f|f
  ·simpa using f
  ·exact absurd (by simpa using f) k
 ·rcases f2 with f|f
  ·simpa using f
  ·exact absurd (by simpa using f) k
 ·rcases f3 with f|f
  ·have:=of_decide_eq_false f;exact List.eq_nil_of_length_eq_zero (by omega)
  ·exact absurd (by simpa using f) k
 ·rcases f4 with f|f
  ·have:=of_decide_eq_false f;exact List.eq_nil_of_length_eq_zero (by omega)
  ·exact absurd (by simpa using f) k
 ·rw[k]at h;exact h
theorem d4y{v:GValue}{cc:Int}(h:a0A cc v=0)(h4:v.kind≠4):RV0 v:=by
 obtain⟨p1,p2,p3,p4,p5,p6,p7,p8,p9,p10,p11,p12,p13,p14⟩:=b4a h;obtain⟨k,t,n,l,cs⟩:=v;simp only[a2a,b19,a7n,b18,a9s]at *;rw[p6 h4];have hk:k=1\/k=2\/k=3:=by omega
 rcases hk with rfl|rfl|rfl
 ·rw[p4 (by decide),p5 (by decide)];exact .inl ⟨t,p7,p8,rfl⟩
 ·rw[p3 (by decide),p5 (by decide)];obtain⟨m,rfl⟩:=Int.eq_ofNat_of_zero_le p12;exact .inr (.inl ⟨m,by omega,rfl⟩)
 ·rw[p3 (by decide),p4 (by decide)];exact .inr (.inr ⟨l,p9,p10,rfl⟩)
theorem b31{s:d3}(h:a2z s=0):s.length<=1000/\s.all y0=true:=by
 unfold a2z at h;obtain⟨h1,h⟩:=iz (by decide) h;have:=of_decide_eq_false h1;refine⟨by omega,?_⟩;cases hq:s.all y0 with
 |true=>rfl
 |false=>rw[hq]at h;exact absurd h (by decide)
theorem c0I{l:List T8}{i:Nat}{c:T8}{r:Int}(h:b1C l i c r=0):(a2z c.1=0/\c.2.kind≠4/\a0A 0 c.2=0)/\r=0:=by
 unfold b1C at h;by_cases h1:a2z c.1=0
 case neg=>rw[if_pos h1]at h;exact absurd h h1
 rw[if_neg (by simpa using h1)]at h;obtain⟨_,h⟩:=iz (by decide) h;obtain⟨h2,h⟩:=iz (by decide) h;by_cases h3:a0A 0 c.2=0
 case neg=>rw[if_pos h3]at h;exact absurd h h3
 rw[if_neg (by simpa using h3)]at h;exact⟨⟨h1,by simpa using h2,h3⟩,(iz (by decide) h).2⟩
theorem f0I{v:GValue}(h:a0B v=0):RV v:=by
 by_cases h4:v.kind=4
 case neg=>exact .inl (d4y h h4)
 refine .inr ?_;obtain⟨p1,p2,p3,p4,p5,p6,p7,p8,p9,p10,p11,p12,p13,p14⟩:=b4a (show a0A (a4k v.cases) v=0 from h);have hc:=p14 h4;have q3:=p3 (by omega);have q4:=p4 (by omega);have q5:=p5 (by omega);refine⟨v.cases,?_,p11,?_,?_⟩
 ·unfold a4k at hc;split at hc
  ·cases hc
  ·omega
 ·unfold a4k at hc;split at hc
  ·cases hc
  ·have:=(a7m (q:=fun _ c=>a2z c.1=0/\c.2.kind≠4/\a0A 0 c.2=0) (body:=b1C v.cases) (fun i x r hx=>c0I hx) v.cases _ 0 hc).1;intro c hc;obtain⟨i,hi,rfl⟩:=List.getElem_of_mem hc;obtain⟨t1,t2,t3⟩:=this i hi;exact⟨(b31 t1).1,(b31 t1).2,d4y t3 t2⟩
 ·obtain⟨k,t,n,l,cs⟩:=v;have q3:t=[]:=q3;have q4:n=0:=q4;have q5:l=[]:=q5;have h4:k=4:=h4;subst q3 q4 q5 h4;rfl
def R1(s:d3):GExpr:= .mk 1 s 0 [] []
def vE0(v:GValue):GExpr:=if v.kind=1 then R1 v.text else if v.kind=2 then .mk 2 [] v.number [] []else .mk 4 [] 0 [] (v.list.map R1)
def vE(v:GValue):GExpr:=if v.kind=4 then .mk 6 [] 0 (v.cases.map (·.1)) (v.cases.map fun c=>vE0 c.2)else vE0 v
def a00:d3:=[110,97,109,101]
def a1L:d3:=[107,105,110,100]
def a0H:d3:=[116,97,114,103,101,116]
def b2Q(a:a2I):d3×GExpr:=(a.1,vE a.2)
def X2(t:y7):List (d3×GExpr):=[(a00,R1 t.1),(a1L,R1 t.2.1)]++t.2.2.map b2Q
def stT(t:y7):GStmt:= .mk 2 a0H [] [] (X2 t) zE [] [] 0
def H6(p:O2):List GStmt:=p.2.map stT
theorem RV0.kind{v:GValue}(h:RV0 v):v.kind≠4:=by
 rcases h with⟨t,_,_,rfl⟩|⟨n,_,rfl⟩|⟨l,_,_,rfl⟩
 ·show(1:Int)≠4;decide
 ·show(2:Int)≠4;decide
 ·show(3:Int)≠4;decide
theorem b9C{v:GValue}(h:RV0 v):vE v=vE0 v:=if_neg h.kind
theorem c16(t:d3):vE0 (.mk 1 t 0 [] [])=R1 t:=rfl
theorem c2a(n:Int):vE0 (.mk 2 [] n [] []) = .mk 2 [] n [] []:=rfl
theorem c2b(l:List d3):vE0 (.mk 3 [] 0 l []) = .mk 4 [] 0 [] (l.map R1):=rfl
theorem c5l(cs:List T8):vE (.mk 4 [] 0 [] cs) = .mk 6 [] 0 (cs.map (·.1)) (cs.map fun c=>vE0 c.2):=rfl
theorem c61{s:d3}(h:s.all y0=true){x:Nat}(hx:x<30)(k:Nat):WE (k+1) x (R1 s):=⟨hx,.inl ⟨s,h,rfl⟩⟩
theorem f01{v:GValue}(h:RV0 v){x:Nat}(hx:x<29)(k:Nat):WE (k+2) x (vE0 v):=by
 rcases h with⟨t,_,h1,rfl⟩|⟨n,h1,rfl⟩|⟨l,_,h1,rfl⟩
 ·exact c61 h1 (by omega) _
 ·exact⟨by omega,.inr (.inl ⟨n,h1,rfl⟩)⟩
 ·refine⟨by omega,.inr (.inr (.inr (.inl ⟨l.map R1,rfl,fun c hc=>?_⟩)))⟩;obtain⟨s,hs,rfl⟩:=List.mem_map.1 hc;exact c61 (h1 s hs).2 (by omega) _
theorem f6s{v:GValue}(h:RV v){x:Nat}(hx:x<28)(k:Nat):WE (k+3) x (vE v):=by
 rcases h with h|⟨cs,h1,h2,h3,rfl⟩
 ·rw[b9C h];exact f01 h (by omega) _
 ·refine⟨by omega,.inr (.inr (.inr (.inr (.inr (.inl ⟨cs.map (·.1),cs.map fun c=>vE0 c.2,by simp,by simpa using h1,fun s hs=>?_,c5l cs,fun c hc=>?_⟩)))))⟩
  ·obtain⟨c,hc,rfl⟩:=List.mem_map.1 hs;exact(h3 c hc).2.1
  ·obtain⟨q,hq,rfl⟩:=List.mem_map.1 hc;exact f01 (h3 q hq).2.2 (by omega) _
theorem f0b{v:GValue}(h:RV0 v):EOk 2 (vE0 v):=by
 rcases h with⟨t,h1,_,rfl⟩|⟨n,h1,rfl⟩|⟨l,h1,h2,rfl⟩
 ·exact .inl ⟨t,by omega,rfl⟩
 ·exact .inr (.inl ⟨n,rfl⟩)
 ·refine .inr (.inr (.inr (.inl ⟨l.map R1,by simp;omega,rfl,fun c hc=>?_⟩)));obtain⟨s,hs,rfl⟩:=List.mem_map.1 hc;exact .inl ⟨s,by have:=(h2 s hs).1;omega,rfl⟩
theorem f5G{v:GValue}(h:RV v):EOk 3 (vE v):=by
 rcases h with h|⟨cs,h1,h2,h3,rfl⟩
 ·rw[b9C h];exact(f0b h).mono (by omega)
 ·refine .inr (.inr (.inr (.inr (.inr (.inl ⟨cs.map (·.1),cs.map fun c=>vE0 c.2,by simp,by simpa using h1,by simp;omega,fun s hs=>?_,c5l cs,fun c hc=>?_⟩)))))
  ·obtain⟨c,hc,rfl⟩:=List.mem_map.1 hs;have:=(h3 c hc).1;omega
  ·obtain⟨q,hq,rfl⟩:=List.mem_map.1 hc;exact f0b (h3 q hq).2.2
structure RT(t:y7):Prop where
 name:t.1.length<=200
 text:t.1.all y0=true
 kind:B7 t.2.1=true
 few:t.2.2.length<=30
 attrs:∀a∈t.2.2,B7 a.1=true/\RV a.2
 asc:t.2.2.Pairwise fun a b=>a.1<b.1
 free:∀a∈t.2.2,a.1≠a00/\a.1≠a1L
theorem b6z{q:d3}(h:B7 q=true):q.all y0=true:=by
 cases q with
 |nil=>cases h
 |cons c q=>
  simp only[B7,Bool.and_eq_true]at h;refine List.all_eq_true.2 fun x hx=>?_
  have:=List.all_eq_true.1 h.2.2.1 x hx;unfold nmB a2O a8F at this;unfold y0;simp only[Bool.or_eq_true,Bool.and_eq_true,decide_eq_true_eq,beq_iff_eq,UInt8.le_iff_toNat_le,UInt8.lt_iff_toNat_lt,Bool.not_eq_true',decide_eq_false_iff_not,ge_iff_le,gt_iff_lt]at this ⊢;right;rcases this with⟨h1,h2⟩|⟨h1,h2⟩|h1
  ·simp at h1 h2 ⊢;omega
  ·simp at h1 h2 ⊢;omega
  ·subst h1;decide
theorem c9S{t:y7}(h:RT t):WS 1 0 (stT t):=by
 refine⟨by decide,.inr (.inl ⟨a0H,X2 t,0,3,by decide,fun c hc=>?_,rfl⟩)⟩;unfold X2 at hc;rcases List.mem_append.1 hc with hc|hc
 ·simp only[List.mem_cons,List.mem_nil_iff,or_false]at hc;rcases hc with rfl|rfl
  ·exact⟨(by decide:B7 a00=true),c61 h.text (by omega) _⟩
  ·exact⟨(by decide:B7 a1L=true),c61 (b6z h.kind) (by omega) _⟩
 ·obtain⟨a,ha,rfl⟩:=List.mem_map.1 hc;exact⟨(h.attrs a ha).1,f6s (h.attrs a ha).2 (by omega) 0⟩
theorem c9E{t:y7}(h:RT t):SOk 1 (stT t):=by
 refine .inr (.inl ⟨a0H,X2 t,0,by decide,?_,fun c hc=>?_,rfl⟩)
 ·unfold X2;have:=h.few;simp;omega
 unfold X2 at hc;rcases List.mem_append.1 hc with hc|hc
 ·simp only[List.mem_cons,List.mem_nil_iff,or_false]at hc;rcases hc with rfl|rfl
  ·exact⟨(by decide:B7 a00=true),.inl ⟨t.1,by have:=h.name;omega,rfl⟩⟩
  ·exact⟨(by decide:B7 a1L=true),.inl ⟨t.2.1,by have:=W0 h.kind;omega,rfl⟩⟩
 ·obtain⟨a,ha,rfl⟩:=List.mem_map.1 hc;exact⟨(h.attrs a ha).1,(f5G (h.attrs a ha).2).mono (by omega)⟩
theorem e0J{l:List GExpr}{z:GExpr}(h:l.length<=50000):Zf (l.length + [z].length) (.rc .expr)=true:=a58 (by decide) (by simp;omega)
theorem b5U{l:List d3}{z:d3}(h:l.length<=50000):Zf (l.length + [z].length) .str=true:=a58 (by decide) (by simp;omega)
theorem e6i(hN:z7<=N){r:GValue->Option GExpr}(l:List d3)(hl:l.length<=1000)(K:List GExpr->Option GExpr):c35 N r l (l.length:Int) K N 0 []=K (l.map R1):=by
 have hx:l.length<=maxLen:=by unfold maxLen;omega
 have:=S9 hN (f:=fun n i w=>c35 N r l (l.length:Int) K n i w) (T:=fun self i w=>a82 N r l (l.length:Int) K self i w) (fun _ _ _=>rfl) l hx R1 [] (K:=K) (fun self i h w hw=>?_) (fun self w=>?_)
 ·simpa using this
 ·show a82 _ _ _ _ _ _ _ _=_;unfold a82 y8;simp only[List.length_nil,Nat.zero_add]at hw;rw[L4 h,d9,m7 _ h,c8,c8,e0J (by omega),d9,Y5 hx h];rfl
 ·show a82 _ _ _ _ _ _ _ _=_;unfold a82;rw[Q5,g9]
theorem e3C(hN:z7<=N)(r:GValue->Option GExpr){v:GValue}(h:RV0 v):M3 N r v=some (vE0 v):=by
 unfold M3;rcases h with⟨t,h1,_,rfl⟩|⟨n,h1,rfl⟩|⟨l,h1,h2,rfl⟩
 ·simp only[a2a,b19,show((1:Int)==1)=true by decide,d9,y8,c8];rfl
 ·simp only[a2a,a7n,show((2:Int)==1)=false by decide,show((2:Int)==2)=true by decide,d9,g9];rfl
 ·simp only[a2a,b18,show((3:Int)==1)=false by decide,show((3:Int)==2)=false by decide,show((3:Int)==3)=true by decide,d9,g9];rw[e6i hN l h1];rfl
theorem f6p(hN:z7<=N){v:GValue}(h:RV v):C9 N N v=some (vE v):=by
 obtain⟨d,hd⟩:∃d,N=d+2:=⟨N-2,by unfold z7 at hN;omega⟩;have e:C9 N N v=M3 N (C9 N (d+1)) v:=by
  conv=>lhs;arg 2;rw[hd]
  rfl
 rw[e];rcases h with h|⟨cs,h1,h2,h3,rfl⟩
 ·rw[b9C h];exact e3C hN _ h
 ·unfold M3;simp only[a2a,a9s,show((4:Int)==1)=false by decide,show((4:Int)==2)=false by decide,show((4:Int)==3)=false by decide,g9];have hx:cs.length<=maxLen:=by unfold maxLen;omega
  refine b6y hN (f:=fun n i w w'=>c8I N (C9 N (d+1)) cs (cs.length:Int) _ n i w w') (T:=fun self i w w'=>a83 N (C9 N (d+1)) cs (cs.length:Int) _ self i w w') (fun _ _ _ _=>rfl) cs hx (·.1) (fun c=>vE0 c.2) (K:=fun a b=>some (GExpr.mk 6 [] 0 a b)) (fun self i h w w' hw hw'=>?_) (fun self w w'=>?_)
  ·show a83 _ _ _ _ _ _ _ _ _=_;have e0:C9 N (d+1) cs[i].2=some (vE0 cs[i].2):=e3C hN _ (h3 _ (List.getElem_mem h)).2.2;unfold a83 z6 G6 a0c D5;rw[L4 h,d9,m7 _ h,c8];simp only[GValue.eta,e0,c8,e0J (show w'.length<=50000 by omega),b5U (show w.length<=50000 by omega),d9,N7,K7,Y5 hx h]
  ·show a83 _ _ _ _ _ _ _ _ _=_;unfold a83 z6 G6 a0c D5;rw[Q5,g9]
theorem d4e(hN:z7<=N)(l:List d3)(hl:l.length<=1000):F3 N l=some (l.map R1):=by
 have hx:l.length<=maxLen:=by unfold maxLen;omega
 unfold F3;have:=S9 hN (f:=fun n i w=>c0e N l (l.length:Int) (fun o=>some o) n i w) (T:=fun self i w=>a5S N l (l.length:Int) (fun o=>some o) self i w) (fun _ _ _=>rfl) l hx R1 [] (K:=fun o=>some o) (fun self i h w hw=>?_) (fun self w=>?_)
 ·simpa using this
 ·show a5S _ _ _ _ _ _ _=_;unfold a5S;simp only[List.length_nil,Nat.zero_add]at hw;rw[L4 h,d9,m7 _ h,c8,e0J (by omega),d9,Y5 hx h];rfl
 ·show a5S _ _ _ _ _ _ _=_;unfold a5S;rw[Q5,g9]
theorem e3A(hN:z7<=N)(r:GValue->Option GExpr){v:GValue}(h:RV0 v):Z7 N r v=some (vE0 v):=by
 unfold Z7;rcases h with⟨t,h1,_,rfl⟩|⟨n,h1,rfl⟩|⟨l,h1,h2,rfl⟩
 ·simp only[a2a,b19,show((1:Int)==1)=true by decide,d9];rfl
 ·simp only[a2a,a7n,show((2:Int)==1)=false by decide,show((2:Int)==2)=true by decide,d9,g9];rfl
 ·simp only[a2a,b18,show((3:Int)==1)=false by decide,show((3:Int)==2)=false by decide,show((3:Int)==3)=true by decide,d9,g9];rw[d4e hN l h1,c8];rfl
theorem f6l(hN:z7<=N){v:GValue}(h:RV v):N1 N N v=some (vE v):=by
 obtain⟨d,hd⟩:∃d,N=d+2:=⟨N-2,by unfold z7 at hN;omega⟩;have e:N1 N N v=Z7 N (N1 N (d+1)) v:=by
  conv=>lhs;arg 2;rw[hd]
  rfl
 rw[e];rcases h with h|⟨cs,h1,h2,h3,rfl⟩
 ·rw[b9C h];exact e3A hN _ h
 ·unfold Z7;simp only[a2a,a9s,show((4:Int)==1)=false by decide,show((4:Int)==2)=false by decide,show((4:Int)==3)=false by decide,g9];have hx:cs.length<=maxLen:=by unfold maxLen;omega
  refine b6y hN (f:=fun n i w w'=>b9S N (N1 N (d+1)) cs (cs.length:Int) _ n i w w') (T:=fun self i w w'=>a5I N (N1 N (d+1)) cs (cs.length:Int) _ self i w w') (fun _ _ _ _=>rfl) cs hx (·.1) (fun c=>vE0 c.2) (K:=fun a b=>some (GExpr.mk 6 [] 0 a b)) (fun self i h w w' hw hw'=>?_) (fun self w w'=>?_)
  ·show a5I _ _ _ _ _ _ _ _ _=_;have e0:N1 N (d+1) cs[i].2=some (vE0 cs[i].2):=e3A hN _ (h3 _ (List.getElem_mem h)).2.2;unfold a5I D3 N2 C1 I3;rw[L4 h,d9,m7 _ h,c8];simp only[GValue.eta,e0,c8,e0J (show w'.length<=50000 by omega),b5U (show w.length<=50000 by omega),d9,N7,K7,Y5 hx h]
  ·show a5I _ _ _ _ _ _ _ _ _=_;unfold a5I D3 N2 C1 I3;rw[Q5,g9]
end
section
variable{N:Nat}
abbrev a6x:Type:=List (d3×(Option (Option Unit×(List (d3×Bool))×Bool×Bool)))
abbrev TGT:Type:=List (d3×(d3×d3×List (d3×GValue)))
abbrev NMS:Type:=List (d3×(GValue×Option ((Option (Option Unit×(List (d3×Bool))×Bool×Bool))×GStmt×Bool)))
abbrev X1:Type:=List (d3×Bool×List UInt8)
abbrev RE:Type:=Option (GValue×Int×d3×d3×List (d3×d3)×X1×Int×Int×Int×Option Unit×a6x×TGT×NMS)
abbrev RL:Type:=Option (Int×d3×d3×List (d3×d3)×X1×Int×Int×Int×Option Unit×a6x×TGT×NMS×List GValue)
abbrev FE:Type:=GExpr->d3->d3->List (d3×d3)->X1->Int->Int->Int->Option Unit->a6x->TGT->NMS->RE
structure EvC where
 g:d3
 x:d3
 lb:List (d3×d3)
 fs:X1
 a:Int
 den:Int
 up:Option Unit
 L:a6x
 T:TGT
 M:NMS
def EvC.res(C:EvC)(v:GValue)(f s:Int):RE:=some (v,f,C.g,C.x,C.lb,C.fs,s,C.a,C.den,C.up,C.L,C.T,C.M)
def EvC.resL(C:EvC)(f s:Int)(w:List GValue):RL:=some (f,C.g,C.x,C.lb,C.fs,s,C.a,C.den,C.up,C.L,C.T,C.M,w)
def EvC.ap(C:EvC)(F:FE)(E:GExpr)(s:Int):RE:=F E C.g C.x C.lb C.fs s C.a C.den C.up C.L C.T C.M
def Evs(c:Nat)(F:FE)(E:GExpr)(v:GValue):Prop:=∀(C:EvC) (s:Nat),s<=50000->(∃s':Nat,s'<=50000/\s'<=s+c/\C.ap F E s=C.res v 0 s')\/(50000<s+c/\∃s':Int,C.ap F E s=C.res a97 16 s')
theorem Evs.up{c k:Nat}{F:FE}{E:GExpr}{v:GValue}(h:Evs c F E v)(hk:c<=k):Evs k F E v:=fun C s hs=>by
 rcases h C s hs with⟨s',h1,h2,h3⟩|⟨h1,h2⟩
 ·exact .inl ⟨s',h1,by omega,h3⟩
 ·exact .inr ⟨by omega,h2⟩
theorem c8Z{R:Type}{x y:Option R}:br ((16:Int) !=0) x y=x:=by rw[show((16:Int) !=0)=true by decide,d9]
theorem b9s{s:Nat}(h:s<50000){g x:d3}{lb:List (d3×d3)}{fs:X1}{a den:Int}{L:a6x}{T:TGT}:E9 N g x lb fs (s:Int) a den L T=some (0,g,x,lb,fs,((s+1:Nat):Int),a,den,L,T):=by
 unfold E9;rw[show((s:Int)==50000)=false by rw[beq_eq_false_iff_ne];omega,g9,a0C (m:=s+1) (by omega) (by omega)]
theorem d4J{g x:d3}{lb:List (d3×d3)}{fs:X1}{a den:Int}{L:a6x}{T:TGT}:E9 N g x lb fs ((50000:Nat):Int) a den L T=some (16,g,x,lb,fs,50000,a,den,L,T):=by
 unfold E9;rw[show(((50000:Nat):Int)==50000)=true by decide,d9];rfl
theorem c6y(hN:z7<=N){c:Nat}{F:FE}{E:GExpr}{v:GValue}(hv:a0B v=0)(hf:Fit (.rc .value) v)
  (h:∀(C:EvC) (s:Nat),s<=50000->(∃s':Nat,s'<=50000/\s'<=s+c/\C.ap (o7 N F) E s=C.res v 0 s')\/(50000<s+c/\∃s':Int,C.ap (o7 N F) E s=C.res a97 16 s')):Evs (c+1) (s0 N F) E v:=fun C s hs=>by
 by_cases h5:s=50000
 ·subst h5;refine .inr ⟨by omega,50000,?_⟩;show s0 N F E _ _ _ _ _ _ _ _ _ _ _=_;unfold s0;rw[d4J,c8];exact c8Z.trans rfl
 ·have hc:D1 N (C4 N N) v=some 0:=by rw[a6v hN v hf,hv]
  rcases h C (s+1) (by omega)with⟨s',g1,g3,g2⟩|⟨g3,s',g2⟩
  ·refine .inl ⟨s',g1,by omega,?_⟩;have g2:o7 N F E C.g C.x C.lb C.fs ((s+1:Nat):Int) C.a C.den C.up C.L C.T C.M=C.res v 0 s':=g2;show s0 N F E _ _ _ _ _ _ _ _ _ _ _=_;unfold s0;rw[b9s (by omega),c8];simp only[bne_self_eq_false,g9,GExpr.eta];rw[g2];unfold EvC.res;rw[c8];simp only[beq_self_eq_true,d9,GValue.eta,hc,c8,bne_self_eq_false,g9]
  ·refine .inr ⟨by omega,s',?_⟩;have g2:o7 N F E C.g C.x C.lb C.fs ((s+1:Nat):Int) C.a C.den C.up C.L C.T C.M=C.res a97 16 s':=g2;show s0 N F E _ _ _ _ _ _ _ _ _ _ _=_;unfold s0;rw[b9s (by omega),c8];simp only[bne_self_eq_false,g9,GExpr.eta];rw[g2];unfold EvC.res;rw[c8];simp only[show((16:Int)==0)=false by decide,show((16:Int) !=0)=true by decide,d9,g9];rfl
def tV(s:d3):GValue:= .mk 1 s 0 [] []
theorem b9o{v:GValue}(h:RV0 v)(cc:Int):a0A cc v=0:=by
 rcases h with⟨t,h1,h2,rfl⟩|⟨n,h1,rfl⟩|⟨l,h1,h2,rfl⟩
 ·have e1:decide ((t.length:Int)>1000)=false:=decide_eq_false (by omega);simp[a0A,a6b,a6i,h2,GValue.kind,GValue.text,GValue.number,GValue.list,GValue.cases];omega
 ·have e1:decide ((n:Int)<0)=false:=decide_eq_false (by omega);have e2:decide ((n:Int)>999999999)=false:=decide_eq_false (by omega);unfold a0A a6b a6i;simp only[a2a,b19,a7n,b18,a9s,e1,e2];simp[show ¬(999999999<(n:Int)) by omega,show ¬((n:Int)<0) by omega]
 ·have e1:l.any (fun s=>decide ((s.length:Int)>1000))=false:=List.any_eq_false.2 fun s hs=>by have:=(h2 s hs).1;simp;omega
  have e2:l.any (fun s=>!s.all y0)=false:=List.any_eq_false.2 fun s hs=>by simp[(h2 s hs).2]
  have e3:¬((l.length:Int)>1000):=by omega
  unfold a0A a6b a6i;simp only[show(GValue.mk 3 [] 0 l []).kind=3 from rfl,show(GValue.mk 3 [] 0 l []).text=[]from rfl,show(GValue.mk 3 [] 0 l []).number=0 from rfl,show(GValue.mk 3 [] 0 l []).list=l from rfl,show(GValue.mk 3 [] 0 l []).cases=[]from rfl,e1,e2,decide_eq_false e3];simp
theorem e6x{s:d3}(h1:s.length<=1000)(h2:s.all y0=true):a0B (tV s)=0:=b9o (.inl ⟨s,h1,h2,rfl⟩) _
theorem e5T{s:d3}(h1:s.length<=1000):Fit (.rc .value) (tV s):=
 FitR.intro (i:= .value) ⟨(by decide:(Lit.int .i64 (1:Int)).wf=true),by show s.length<=maxLen;unfold maxLen;omega,(by decide:(Lit.int .i64 (0:Int)).wf=true),⟨Nat.zero_le _,fun x hx=>absurd hx List.not_mem_nil⟩,⟨Nat.zero_le _,fun x hx=>absurd hx List.not_mem_nil⟩⟩
theorem d3z(hN:z7<=N)(F:FE){s:d3}(h1:s.length<=1000)(h2:s.all y0=true):Evs 1 (s0 N F) (R1 s) (tV s):=
 c6y hN (c:=0) (e6x h1 h2) (e5T h1) fun C n hn=> .inl ⟨n,hn,Nat.le_refl _,by
  show o7 N F (R1 s) _ _ _ _ _ _ _ _ _ _ _=_;unfold o7 R1;simp only[F4,Q1,show((1:Int)==1)=true by decide,d9];rfl⟩
theorem f0i{l:List GValue}{z:GValue}(h:l.length<=50000):Zf (l.length + [z].length) (.rc .value)=true:=a58 (by decide) (by simp;omega)
abbrev EV:Type:=GExpr×GValue
abbrev KEv:Type:=d3->d3->List (d3×d3)->X1->Int->Int->Int->Option Unit->a6x->TGT->NMS->List GValue->RL
theorem b3c{c:Nat}{F:FE}(zs:List EV)(hz:zs.length<=1000)(hg:∀z∈zs,Evs c F z.1 z.2)(C:EvC)(K:KEv):∀(u f j s:Nat),j+u=zs.length->u<f->s<=50000->
  (∃s':Nat,s'<=50000/\s'<=s+c*u/\a8v N F (zs.map (·.1)) (zs.length:Int) K f (j:Int) C.g C.x C.lb C.fs (s:Int) C.a C.den C.up C.L C.T C.M ((zs.take j).map (·.2))=K C.g C.x C.lb C.fs (s':Int) C.a C.den C.up C.L C.T C.M (zs.map (·.2)))\/
  (50000<s+c*u/\∃s':Int,a8v N F (zs.map (·.1)) (zs.length:Int) K f (j:Int) C.g C.x C.lb C.fs (s:Int) C.a C.den C.up C.L C.T C.M ((zs.take j).map (·.2))=C.resL 16 s' [])
 |0,f,j,s,hj,hf,hs=>by
  obtain⟨f,rfl⟩:∃q,f=q+1:=⟨f-1,by omega⟩;obtain rfl:j=zs.length:=by omega
  refine .inl ⟨s,hs,by omega,?_⟩;show a5T _ _ _ _ _ _ _ _ _ _ _ _ _ _ _ _ _ _ _=_;unfold a5T;rw[Q5,g9,List.take_length]
 |u+1,f,j,s,hj,hf,hs=>by
  obtain⟨f,rfl⟩:∃q,f=q+1:=⟨f-1,by omega⟩;have h:j<zs.length:=by omega
  have stp:∀X,X=a5T N F (zs.map (·.1)) (zs.length:Int) K (a8v N F (zs.map (·.1)) (zs.length:Int) K f) (j:Int) C.g C.x C.lb C.fs (s:Int) C.a C.den C.up C.L C.T C.M ((zs.take j).map (·.2))->X=a8v N F (zs.map (·.1)) (zs.length:Int) K (f+1) (j:Int) C.g C.x C.lb C.fs (s:Int) C.a C.den C.up C.L C.T C.M ((zs.take j).map (·.2)):=fun X e=>e
  have hmul:c*(u+1)=c*u+c:=Nat.mul_succ c u;rcases hg _ (List.getElem_mem h) C s hs with⟨s1,h1,h3,h2⟩|⟨h3,s1,h2⟩
  ·have h2:F zs[j].1 C.g C.x C.lb C.fs (s:Int) C.a C.den C.up C.L C.T C.M=C.res zs[j].2 0 s1:=h2;have hT:a5T N F (zs.map (·.1)) (zs.length:Int) K (a8v N F (zs.map (·.1)) (zs.length:Int) K f) (j:Int) C.g C.x C.lb C.fs (s:Int) C.a C.den C.up C.L C.T C.M ((zs.take j).map (·.2))=a8v N F (zs.map (·.1)) (zs.length:Int) K f ((j+1:Nat):Int) C.g C.x C.lb C.fs (s1:Int) C.a C.den C.up C.L C.T C.M ((zs.take (j+1)).map (·.2)):=by
    unfold a5T;rw[L4 h,d9,m7 _ (by simpa using h),c8];simp only[List.getElem_map,GExpr.eta,h2];unfold EvC.res;rw[c8];simp only[bne_self_eq_false,g9,GValue.eta];rw[f0i (show((zs.take j).map (·.2)).length<=50000 by simp;omega),d9,a0C (m:=j+1) (by omega) (by omega),List.take_succ_eq_append_getElem h,List.map_append];rfl
   rw[<-stp _ rfl,hT];rcases b3c zs hz hg C K u f (j+1) s1 (by omega) (by omega) h1 with⟨s',e1,e2,e3⟩|⟨e1,e2⟩
   ·exact .inl ⟨s',e1,by omega,e3⟩
   ·exact .inr ⟨by omega,e2⟩
  ·have h2:F zs[j].1 C.g C.x C.lb C.fs (s:Int) C.a C.den C.up C.L C.T C.M=C.res a97 16 s1:=h2;refine .inr ⟨by omega,s1,?_⟩;rw[<-stp _ rfl];unfold a5T;rw[L4 h,d9,m7 _ (by simpa using h),c8];simp only[List.getElem_map,GExpr.eta,h2];unfold EvC.res;rw[c8];exact c8Z.trans rfl
theorem c0X(hN:z7<=N){c:Nat}{F:FE}(zs:List EV)(hz:zs.length<=1000)(hg:∀z∈zs,Evs c F z.1 z.2)(C:EvC)(s:Nat)(hs:s<=50000):
  (∃s':Nat,s'<=50000/\s'<=s+c*zs.length/\C5 N F (zs.map (·.1)) C.g C.x C.lb C.fs (s:Int) C.a C.den C.up C.L C.T C.M=C.resL 0 s' (zs.map (·.2)))\/
  (50000<s+c*zs.length/\∃s':Int,C5 N F (zs.map (·.1)) C.g C.x C.lb C.fs (s:Int) C.a C.den C.up C.L C.T C.M=C.resL 16 s' []):=by
 have:=b3c (N:=N) zs hz hg C (fun o0_0_0 o0_0_1 o0_0_2 o0_0_3 o0_0_4 o0_0_5 o0_0_6 o0_1_0 o0_m2 o0_m3 o0_m4 o0_w1008=>
   some ((0:Int),o0_0_0,o0_0_1,o0_0_2,o0_0_3,o0_0_4,o0_0_5,o0_0_6,o0_1_0,o0_m2,o0_m3,o0_m4,o0_w1008)) zs.length N 0 s (by omega) (by unfold z7 at hN;omega) hs
 unfold C5;rw[List.length_map];exact this
theorem c9h(hN:z7<=N)(l:List d3)(hl:l.length<=1000):a2f N (l.map tV)=some (.mk 3 [] 0 l [],0):=by
 have hx:l.length<=maxLen:=by unfold maxLen;omega
 unfold a2f;rw[List.length_map];have:=S9 hN (f:=fun n i w=>b9W N (l.map tV) (l.length:Int) (fun o=>some (GValue.mk (3:Int) ([]:d3) (0:Int) o ([]:List (d3×GValue)),(0:Int))) n i w) (T:=fun self i w=>a5K N (l.map tV) (l.length:Int) (fun o=>some (GValue.mk (3:Int) ([]:d3) (0:Int) o ([]:List (d3×GValue)),(0:Int))) self i w) (fun _ _ _=>rfl) l hx (fun s=>s) [] (K:=fun o=>some (GValue.mk (3:Int) ([]:d3) (0:Int) o ([]:List (d3×GValue)),(0:Int))) (fun self i h w hw=>?_) (fun self w=>?_)
 ·simpa using this
 ·show a5K _ _ _ _ _ _ _=_;simp only[List.length_nil,Nat.zero_add]at hw;unfold a5K;rw[L4 h,d9,m7 _ (by simpa using h),c8,List.getElem_map];simp only[show(tV l[i]).kind=1 from rfl,show(tV l[i]).text=l[i]from rfl,show((1:Int)==1)=true by decide,d9];rw[b5U (by omega),d9,Y5 hx h]
 ·show a5K _ _ _ _ _ _ _=_;unfold a5K;rw[Q5,g9]
theorem e0I(hN:z7<=N){F:FE}(l:List d3)(hl:l.length<=1000)(h2:∀s∈l,s.length<=1000/\s.all y0=true)(hF:∀s∈l,Evs 1 F (R1 s) (tV s))(hf:Fit (.rc .value) (.mk 3 [] 0 l [])):Evs 1001 (s0 N F) (.mk 4 [] 0 [] (l.map R1)) (.mk 3 [] 0 l []):=
 c6y hN (c:=1000) (b9o (.inr (.inr ⟨l,hl,h2,rfl⟩)) _) hf fun C s hs=>by
  have hE:=c0X hN (F:=F) (l.map fun s=>((R1 s,tV s):EV)) (by simpa using hl) (fun z hz=>by
   obtain⟨s,hs,rfl⟩:=List.mem_map.1 hz;exact hF s hs) C s hs
  rw[List.map_map,List.map_map,List.length_map]at hE;have hE:(∃s':Nat,s'<=50000/\s'<=s+1*l.length/\C5 N F (l.map R1) C.g C.x C.lb C.fs (s:Int) C.a C.den C.up C.L C.T C.M=C.resL 0 s' (l.map tV))\/(50000<s+1*l.length/\∃s':Int,C5 N F (l.map R1) C.g C.x C.lb C.fs (s:Int) C.a C.den C.up C.L C.T C.M=C.resL 16 s' []):=hE;rcases hE with⟨s',g1,g3,g2⟩|⟨g3,s',g2⟩
  ·refine .inl ⟨s',g1,by omega,?_⟩;show o7 N F (.mk 4 [] 0 [] (l.map R1)) _ _ _ _ _ _ _ _ _ _ _=_;unfold o7;simp only[F4,C6,show((4:Int)==1)=false by decide,show((4:Int)==2)=false by decide,show((4:Int)==3)=false by decide,g9];rw[g2];unfold EvC.resL;rw[c8];simp only[bne_self_eq_false,g9,show((4:Int)==4)=true by decide,d9,c9h hN l hl,c8];rfl
  ·refine .inr ⟨by omega,s',?_⟩;show o7 N F (.mk 4 [] 0 [] (l.map R1)) _ _ _ _ _ _ _ _ _ _ _=_;unfold o7;simp only[F4,C6,show((4:Int)==1)=false by decide,show((4:Int)==2)=false by decide,show((4:Int)==3)=false by decide,g9];rw[g2];unfold EvC.resL;rw[c8];exact c8Z.trans rfl
theorem e5Q(hN:z7<=N)(F:FE){n:Nat}(h:n<=999999999)(hf:Fit (.rc .value) (.mk 2 [] (n:Int) [] [])):Evs 1 (s0 N F) (.mk 2 [] (n:Int) [] []) (.mk 2 [] (n:Int) [] []):=
 c6y hN (c:=0) (b9o (.inr (.inl ⟨n,h,rfl⟩)) _) hf fun C s hs=> .inl ⟨s,hs,Nat.le_refl _,by
  show o7 N F (.mk 2 [] (n:Int) [] []) _ _ _ _ _ _ _ _ _ _ _=_;unfold o7;simp only[F4,G3,show((2:Int)==1)=false by decide,show((2:Int)==2)=true by decide,d9,g9];rfl⟩
theorem f0d(hN:z7<=N)(d:Nat){v:GValue}(h:RV0 v)(hf:Fit (.rc .value) v):Evs 1001 (l9 N (d+2)) (vE0 v) v:=by
 show Evs 1001 (s0 N (l9 N (d+1))) (vE0 v) v;rcases h with⟨t,h1,h2,rfl⟩|⟨n,h1,rfl⟩|⟨l,h1,h2,rfl⟩
 ·rw[c16];exact(d3z hN _ h1 h2).up (by omega)
 ·rw[c2a];exact(e5Q hN _ h1 hf).up (by omega)
 ·rw[c2b];exact e0I hN l h1 h2 (fun s hs=>d3z hN (l9 N d) (h2 s hs).1 (h2 s hs).2) hf
theorem f0f{l:List T8}{z:T8}(h:l.length<=50000):Zf (l.length + [z].length) (.pr .str (.rc .value))=true:=a58 (by decide) (by simp;omega)
theorem f5I(hN:z7<=N){v:GValue}(h:RV v)(hv:a0B v=0)(hf:Fit (.rc .value) v):Evs 60000 (l9 N N) (vE v) v:=by
 obtain⟨d,hd⟩:∃d,N=d+3:=⟨N-3,by unfold z7 at hN;omega⟩;have e:l9 N N=l9 N (d+3):=by
  conv=>lhs;arg 2;rw[hd]
 rw[e];rcases h with h|⟨cs,h1,h2,h3,rfl⟩
 ·rw[b9C h];exact(f0d hN (d+1) h hf).up (by omega)
 ·show Evs 60000 (s0 N (l9 N (d+2))) _ _;rw[c5l];have hfc:∀c∈cs,Fit (.rc .value) c.2:=fun c hc=>((b39 hf).2.2.2.2.2 c hc).2
  refine c6y hN (c:=59999) hv hf fun C s hs=>?_
  have hcl:1001*cs.length<=1001*50:=Nat.mul_le_mul_left _ h2;have hE:=c0X hN (F:=l9 N (d+2)) (cs.map fun c=>((vE0 c.2,c.2):EV)) (by rw[List.length_map];omega) (fun z hz=>by
   obtain⟨c,hc,rfl⟩:=List.mem_map.1 hz;exact f0d hN d (h3 c hc).2.2 (hfc c hc)) C s hs
  rw[List.map_map,List.map_map,List.length_map]at hE;have hE:(∃s':Nat,s'<=50000/\s'<=s+1001*cs.length/\C5 N (l9 N (d+2)) (cs.map fun c=>vE0 c.2) C.g C.x C.lb C.fs (s:Int) C.a C.den C.up C.L C.T C.M=C.resL 0 s' (cs.map (·.2)))\/(50000<s+1001*cs.length/\∃s':Int,C5 N (l9 N (d+2)) (cs.map fun c=>vE0 c.2) C.g C.x C.lb C.fs (s:Int) C.a C.den C.up C.L C.T C.M=C.resL 16 s' []):=hE;have hx:cs.length<=maxLen:=by unfold maxLen;omega
  have hL:=fun(K:List T8->RE)=>S9 hN (f:=fun n i w=>c8j N (l9 N (d+2)) (cs.map (·.1)) (cs.length:Int) (cs.map (·.2)) K n i w) (T:=fun self i w=>a80 N (l9 N (d+2)) (cs.map (·.1)) (cs.length:Int) (cs.map (·.2)) K self i w) (fun _ _ _=>rfl) cs hx (fun c=>c) [] (K:=K) (fun self i h w hw=>by
   show a80 _ _ _ _ _ _ _ _ _=_;simp only[List.length_nil,Nat.zero_add]at hw;unfold a80;rw[L4 h,d9,m7 _ (by simpa using h),c8,m7 _ (by simpa using h),c8];simp only[List.getElem_map,GValue.eta];rw[f0f (by omega),d9,Y5 hx h]) (fun self w=>by
   show a80 _ _ _ _ _ _ _ _ _=_;unfold a80;rw[Q5,g9])
  rcases hE with⟨s',g1,g3,g2⟩|⟨g3,s',g2⟩
  ·refine .inl ⟨s',g1,by omega,?_⟩;show o7 N (l9 N (d+2)) (.mk 6 [] 0 (cs.map (·.1)) (cs.map fun c=>vE0 c.2)) _ _ _ _ _ _ _ _ _ _ _=_;unfold o7;simp only[F4,C6,O3,show((6:Int)==1)=false by decide,show((6:Int)==2)=false by decide,show((6:Int)==3)=false by decide,g9];rw[g2];unfold EvC.resL;rw[c8];simp only[bne_self_eq_false,g9,show((6:Int)==4)=false by decide,show((6:Int)==5)=false by decide,show((6:Int)==7)=false by decide,show((6:Int)==8)=false by decide,List.length_map];refine(hL _).trans ?_;simp only[List.nil_append,List.map_id'];rfl
  ·refine .inr ⟨by omega,s',?_⟩;show o7 N (l9 N (d+2)) (.mk 6 [] 0 (cs.map (·.1)) (cs.map fun c=>vE0 c.2)) _ _ _ _ _ _ _ _ _ _ _=_;unfold o7;simp only[F4,C6,O3,show((6:Int)==1)=false by decide,show((6:Int)==2)=false by decide,show((6:Int)==3)=false by decide,g9];rw[g2];unfold EvC.resL;rw[c8];exact c8Z.trans rfl
theorem d3A(hN:z7<=N){s:d3}(h1:s.length<=1000)(h2:s.all y0=true):Evs 1 (l9 N N) (R1 s) (tV s):=by
 obtain⟨d,hd⟩:∃d,N=d+1:=⟨N-1,by unfold z7 at hN;omega⟩;have e:l9 N N=s0 N (l9 N d):=by
  conv=>lhs;arg 2;rw[hd]
  rfl
 rw[e];exact d3z hN _ h1 h2
end
end Go.Proofs.YtckdohagilcloaaGreatDoor
