/- Law 48, seventh part: statements are read alike by both parsers. -/
import Derived.Test.YtolpmfhiegpohaaGreatDoorQLPa6
import Derived.Test.YtolpmfhiegpohaaGreatDoorQBmCo
import Derived.Test.YtolpmfhiegpohaaGreatDoorQSrt
namespace Go.Proofs.YtolpmfhiegpohaaGreatDoor
set_option linter.unusedVariables false
set_option linter.unusedSimpArgs false
open Go Go.RowKit
section
variable{N:Nat}
abbrev zE:GExpr:=GExpr.mk (0:Int) ([]:c8) (0:Int) ([]:List c8) ([]:List GExpr)
theorem GStmt.eta2(s:GStmt):GStmt.mk s.kind s.name s.text s.params s.args (GExpr.mk s.expr.kind s.expr.text s.expr.number s.expr.keys s.expr.kids) s.body s.els s.at_=s:=by
 cases s with
 |mk _ _ _ _ _ x _ _ _=>cases x;rfl
def SOk:Nat->GStmt->Prop|0,_=>False|k+1,s=>(∃q E a,E6 q=true/\EOk 60000 E/\s = .mk 1 q [] [] [] E [] [] a)\/(∃q ag a,E6 q=true/\ag.length<=50000/\(∀c∈ag,E6 c.1=true/\EOk 60000 c.2)/\s = .mk 2 q [] [] ag zE [] [] a)\/(∃q ps b a,E6 q=true/\ps.length<=50000/\(∀c∈ps,E6 c=true)/\b.length<=50000/\(∀c∈b,SOk k c)/\s = .mk 3 q [] ps [] zE b [] a)\/(∃q E b a,E6 q=true/\EOk 60000 E/\b.length<=50000/\(∀c∈b,SOk k c)/\s = .mk 4 q [] [] [] E b [] a)\/(∃E b l a,EOk 60000 E/\b.length<=50000/\(∀c∈b,SOk k c)/\l.length<=50000/\(∀c∈l,SOk k c)/\s = .mk 5 [] [] [] [] E b l a)\/(∃(t:c8) (a:Int),t.length<=50000/\s = .mk 6 [] t [] [] zE [] [] a)
theorem SOk.succ:∀{k:Nat} {s:GStmt},SOk k s->SOk (k+1) s
 |0,_,h=>h.elim
 |k+1,s,h=>by
  rcases h with h|h|⟨q,ps,b,a,h1,h2,h3,h4,h5,h6⟩|⟨q,E,b,a,h1,h2,h3,h4,h5⟩|⟨E,b,l,a,h1,h2,h3,h4,h5,h6⟩|h
  ·exact .inl h
  ·exact .inr (.inl h)
  ·exact .inr (.inr (.inl ⟨q,ps,b,a,h1,h2,h3,h4,fun c hc=>SOk.succ (h5 c hc),h6⟩))
  ·exact .inr (.inr (.inr (.inl ⟨q,E,b,a,h1,h2,h3,fun c hc=>SOk.succ (h4 c hc),h5⟩)))
  ·exact .inr (.inr (.inr (.inr (.inl ⟨E,b,l,a,h1,h2,fun c hc=>SOk.succ (h3 c hc),h4,fun c hc=>SOk.succ (h5 c hc),h6⟩))))
  ·exact .inr (.inr (.inr (.inr (.inr h))))
theorem SOk.mono{k m:Nat}{s:GStmt}(h:SOk k s)(hm:k<=m):SOk m s:=by
 obtain⟨d,rfl⟩:=Nat.exists_eq_add_of_le hm
 induction d with
 |zero=>exact h
 |succ d ih=>exact SOk.succ (ih (by omega))
abbrev SSt:Type:=Int->List A4->Int->Int->Option (Except Int (GStmt×List A4×Int×Int))
abbrev RBt:Type:=Int->Int->Int->Bool->Int->List A4->Mk->Option (List GStmt×Int×Int×Bool×Int×List A4×Mk)
def d80(N:Nat)(w:List A4)(e:Int)(S:SSt)(B:RBt)(i:Nat)(x:Int):Prop:=∀(M:Mk) (p d:Int),M.length<=i->(∃(j:Nat) (G:GStmt) (T:Mk),i<j/\j<=w.length/\T.length<=j-i/\Pos T/\SOk (j-i) G/\S x (w.drop i) e d=some (.ok (G,(w.drop j,(e,dp d T))))/\s6 N B x (i:Int) e false p w M=some (G,((j:Int),(e,(false,(p,(w,M++T)))))))\/(∃c,S x (w.drop i) e d=some (.error c)/\∃y a K,s6 N B x (i:Int) e false p w M=some (y,(a,(e,(true,(c,(w,K)))))))
def e4c(N:Nat)(w:List A4)(e:Int)(S:SSt)(B:RBt)(i:Nat)(x:Int):Prop:=∀(M:Mk) (p d:Int),M.length<=i->(∃(j:Nat) (Gs:List GStmt) (T:Mk),i<j/\j<=w.length/\T.length<=j-i/\Pos T/\Gs.length<=50000/\(∀G∈Gs,SOk (j-i) G)/\x6 N S x (w.drop i) e d=some (.ok (w.drop j,(e,(dp d T,Gs))))/\x4 N B x (i:Int) e false p w M=some (Gs,((j:Int),(e,(false,(p,(w,M++T)))))))\/(∃c,x6 N S x (w.drop i) e d=some (.error c)/\∃y a K,x4 N B x (i:Int) e false p w M=some (y,(a,(e,(true,(c,(w,K)))))))
structure Sx(N:Nat)(w:List A4)(e:Int)(S:SSt)(B:RBt)(i0:Nat):Prop where
 V:Wc N w e
 sim:∀i,i0<i->i<=w.length->∀x:Int,0<=x->x+((w.length-i:Nat):Int)<=60000->d80 N w e S B i x
 stop:∀i,i0<i->P1 w i=none->(∀s,V8 w i 1 s=false)->∀x d,S x (w.drop i) e d=some (.error (atS w i e))
theorem c9r{l:List GStmt}{z:GStmt}(h:l.length<=50000):decide ((l.length + [z].length)*(24*Ty.sz (.rc .stmt))<=140737488355328)=true:=b2r (by decide) (by simp;omega)
section
variable{w:List A4}{e x:Int}{S:SSt}{B:RBt}{i0:Nat}
theorem b3I{i:Nat}(h:¬i<w.length):P1 w i=none/\∀k s,V8 w i k s=false:=by
 refine⟨?_,fun k s=>c2N h⟩
 unfold P1
 rw[List.getElem?_eq_none (by omega)]
theorem c2r{i:Nat}{s:c8}(h:V8 w i 4 s=true):P1 w i=none/\∀q,V8 w i 1 q=false:=by
 have hi:=B9 h
 rw[b3U hi]at h
 simp only[Bool.and_eq_true,beq_iff_eq]at h
 refine⟨?_,fun q=>?_⟩
 ·unfold P1
  rw[List.getElem?_eq_getElem hi]
  simp[h.1]
 ·rw[b3U hi,h.1];rfl
theorem b38{f:Nat}(hf:0<f){k0:Int->Int->Bool->Int->List A4->Mk->List GStmt->Option (Int×Int×Bool×Int×List A4×Mk×List GStmt)}{a p:Int}{M:Mk}{Gs:List GStmt}:
  b0E N B x k0 f a e true p w M Gs=k0 a e true p w M Gs:=by
 obtain⟨f,rfl⟩:∃q,f=q+1:=⟨f-1,by omega⟩
 show a1w _ _ _ _ _ _ _ _ _ _ _ _=_
 unfold a1w
 rw[Bool.not_true,d6]
theorem b3s(C:Sx N w e S B i0)(hx0:0<=x)(hxb:x+((w.length-i0:Nat):Int)<=60000){M0:Mk}(hM0:M0.length<=i0){p d:Int}
  {K:List A4->Int->Int->List GStmt->Option (Except Int (List A4×Int×Int×List GStmt))} {k0:Int->Int->Bool->Int->List A4->Mk->List GStmt->Option (Int×Int×Bool×Int×List A4×Mk×List GStmt)}:
  ∀(u i f1 f2:Nat) (Gs:List GStmt) (T:Mk),i+u=w.length->u<f1->u<f2->i0<i->Gs.length<=i->T.length<=i-i0->Pos T->(∀G∈Gs,SOk (i-i0) G)->
  let SS:=b8j N S x K f1 (w.drop i) e (dp d T) Gs
  let RR:=b0E N B x k0 f2 (i:Int) e false p w (M0++T) Gs
  (∃(j:Nat) (Hs:List GStmt) (T':Mk),i<=j/\V8 w j 4 [125]=true/\Hs.length<=50000/\T'.length<=j-i0/\Pos T'/\(∀G∈Hs,SOk (j-i0) G)/\SS=K (w.drop (j+1)) e (dp d T') Hs/\RR=k0 (j:Int) e false p w (M0++T') Hs)\/
  (∃c,SS=some (.error c)/\((∃b L ys,RR=k0 b e true c w L ys)\/(∃(j:Nat) (L:Mk) (ys:List GStmt),¬j<w.length/\c=e/\RR=k0 (j:Int) e false p w L ys)))
 |u,i,f1,f2,Gs,T,hu,h1,h2,hi,hGl,hT,hTp,hG=>by
  obtain⟨f1,rfl⟩:∃q,f1=q+1:=⟨f1-1,by omega⟩
  obtain⟨f2,rfl⟩:∃q,f2=q+1:=⟨f2-1,by omega⟩
  intro SS RR
  have hwl:=C.V.wl
  have eS:SS=a8J N S x K (b8j N S x K f1) (w.drop i) e (dp d T) Gs:=rfl
  have eR:RR=a1w N B x k0 (b0E N B x k0 f2) (i:Int) e false p w (M0++T) Gs:=rfl
  unfold a8J at eS
  unfold a1w at eR
  rw[Bool.not_false,d4,a3x,b9]at eR
  by_cases hil:i<w.length
  case neg=>
   obtain⟨hn,hb⟩:=b3I hil
   rw[L4 (hb _ _)]at eS
   rw[decide_eq_false (show ¬(i:Int)<(w.length:Int) by omega),d6]at eR
   simp only[b9,Bool.not_false,d4]at eS
   rw[C.stop i hi hn (fun s=>hb 1 s),i7,b3p hil]at eS
   exact .inr ⟨e,eS,.inr ⟨i,_,_,hil,rfl,eR⟩⟩
  rw[decide_eq_true (show(i:Int)<(w.length:Int) by omega),d4]at eR
  cases hb:V8 w i 4 [125]with
  |true=>
   rw[N3 hb]at eS
   rw[hb]at eR
   simp only[b9,Bool.not_true,d6]at eS eR
   exact .inl ⟨i,Gs,T,by omega,hb,by omega,hT,hTp,hG,eS,eR⟩
  |false=>
   rw[L4 hb]at eS
   rw[hb]at eR
   simp only[b9,Bool.not_false,d4]at eS eR
   rcases C.sim i hi (by omega) x hx0 (by omega) (M0++T) p (dp d T) (by rw[List.length_append];omega)with⟨j,G,T2,hj1,hj2,hT2,hTp2,hG2,s1,r1⟩|⟨c,s1,y,b,L,r1⟩
   ·rw[s1,l8]at eS
    rw[r1,b9]at eR
    simp only[GStmt.eta2,c9r (show Gs.length<=50000 by omega),d4]at eS eR
    rw[<-a1M]at eS
    rw[List.append_assoc]at eR
    have ih:=b3s C hx0 hxb hM0 (p:=p) (d:=d) (K:=K) (k0:=k0) (w.length-j) j f1 f2 (Gs ++ [G]) (T++T2) (by omega) (by omega) (by omega) (by omega) (by simp;omega) (by rw[List.length_append];omega) (hTp.app hTp2) (fun y hy=>by
     rcases List.mem_append.1 hy with hy|hy
     ·exact(hG y hy).mono (by omega)
     ·rw[List.mem_singleton.1 hy];exact hG2.mono (by omega))
    rw[eS,eR]
    rcases ih with⟨j',Hs,T',u1,u2,u3,u4,u4p,u5,u6,u7⟩|ih
    ·exact .inl ⟨j',Hs,T',by omega,u2,u3,u4,u4p,u5,u6,u7⟩
    ·exact .inr ih
   ·rw[s1,i7]at eS
    rw[r1,b9]at eR
    simp only[GStmt.eta2,c9r (show Gs.length<=50000 by omega),d4]at eR
    rw[b38 (by omega)]at eR
    exact .inr ⟨c,eS,.inl ⟨_,_,_,eR⟩⟩
 termination_by u=>u
theorem c6M(C:Sx N w e S B i0)(hi:i0<=w.length)(hx0:0<=x)(hxb:x+((w.length-i0:Nat):Int)<=60000):e4c N w e S B i0 x:=by
 intro M p d hM
 obtain⟨f,hf,hf2⟩:=a7Y C.V.hN
 have hwl:=C.V.wl
 obtain⟨SS,eS⟩:∃s,s=x6 N S x (w.drop i0) e d:=⟨_,rfl⟩
 obtain⟨RR,eR⟩:∃s,s=x4 N B x (i0:Int) e false p w M:=⟨_,rfl⟩
 rw[<-eS,<-eR]
 unfold x6 at eS
 unfold x4 H5 at eR
 cases hb:V8 w i0 4 [123]with
 |false=>
  rw[S0 hb,i7]at eS
  rw[N0 hb,b9]at eR
  simp only[b38 (show 0<N by omega),b9,A7]at eR
  exact .inr ⟨_,eS,_,_,_,eR⟩
 |true=>
  have hbl:=B9 hb
  rw[S1 hb,l8]at eS
  rw[H4 C.V.wl hb,b9]at eR
  have lp:=b3s C hx0 hxb (M0:=M) hM (p:=p) (d:=d)
   (K:=fun o0_0_0 o0_0_1 o0_0_2 o0_w1005=>some (.ok (o0_0_0,(o0_0_1,(o0_0_2,o0_w1005)))))
   (k0:=fun o0_0_1 o0_0_2 o0_0_3 o0_0_4 o0_w1 o0_w2 o0_w1005=>some (o0_0_1,(o0_0_2,(o0_0_3,(o0_0_4,(o0_w1,(o0_w2,o0_w1005)))))))
   (w.length-(i0+1)) (i0+1) N N [] [] (by omega) (by omega) (by omega) (by omega) (by simp) (by simp) Pos.nil (by simp)
  rw[List.append_nil]at lp
  rcases lp with⟨j,Hs,T',u1,u2,u3,u4,u4p,u5,u6,u7⟩|⟨c,u1,⟨b,L,ys,u2⟩|⟨j,L,ys,h1,h2,u2⟩⟩
  ·have hjl:=B9 u2
   rw[u7,b9]at eR
   simp only[H4 C.V.wl u2,b9]at eR
   exact .inl ⟨j+1,Hs,T',by omega,by omega,by omega,u4p,u3,fun G hG=>(u5 G hG).mono (by omega),by rw[eS];exact u6,eR⟩
  ·rw[u2,b9]at eR
   simp only[A7,b9]at eR
   exact .inr ⟨c,by rw[eS];exact u1,_,_,_,eR⟩
  ·rw[u2,b9]at eR
   simp only[N0 ((b3I h1).2 _ _),b9,b3p h1]at eR
   exact .inr ⟨c,by rw[eS];exact u1,_,_,_,by rw[h2];exact eR⟩
theorem a0B(hN:L7<=N){y a p:Int}{M:Mk}:x4 N B y a e true p w M=some (([]:List GStmt),(a,(e,(true,(p,(w,M)))))):=by
 obtain⟨f,hf,hf2⟩:=a7Y hN
 unfold x4 H5
 rw[A7,b9]
 simp only[b38 (show 0<N by omega),b9,A7]
theorem c2Z(hN:L7<=N){a p:Int}{M:Mk}:I0 N a e true p w M=some (a,(e,(true,(p,(w,(M,([]:List c8))))))):=by
 obtain⟨f,hf,hf2⟩:=a7Y hN
 unfold I0
 rw[A7,b9]
 simp only[a42 hf,a84,Bool.not_true,d6,A7,b9]
theorem e4i{i:Nat}{s q:c8}{k:Int}(h:V8 w i k s=true)(hne:s≠q):V8 w i k q=false:=by
 have hi:=B9 h
 rw[b3U hi]at h ⊢
 simp only[Bool.and_eq_true,beq_iff_eq]at h
 rw[h.2,beq_eq_false_iff_ne.2 hne,Bool.and_false]
theorem c67(V:Wc N w e){i:Nat}(hi:i<w.length)(hx0:0<=x)(hxb:x<=60000)(M:Mk)(p d a:Int)(hM:M.length<=i+1):
  let SS:=l7 (l9 N (w.drop i) e d) fun t15=>l7 (O3 N x t15.2.1 t15.2.2.1 t15.2.2.2 (0:Int) t15.1 ([]:c8) (0:Int) ([]:c8) (0:Int) a) fun t19=>
     some (.ok (GStmt.mk t19.2.2.2.1 t19.2.2.2.2.1 t19.2.2.2.2.2.1 ([]:List c8) t19.2.2.2.2.2.2.1 (GExpr.mk t19.2.2.2.2.2.2.2.1 t19.2.2.2.2.2.2.2.2.1 t19.2.2.2.2.2.2.2.2.2.1 t19.2.2.2.2.2.2.2.2.2.2.1 t19.2.2.2.2.2.2.2.2.2.2.2.1) ([]:List GStmt) ([]:List GStmt) t19.2.2.2.2.2.2.2.2.2.2.2.2,(t19.1,(t19.2.1,t19.2.2.1))))
  let RR:=f5 (J5 N x (i:Int) e false p (0:Int) ([]:c8) ([]:c8) (0:Int) ([]:c8) (0:Int) a w M) fun t14=>
     some (GStmt.mk t14.2.2.2.2.1 t14.2.2.2.2.2.1 t14.2.2.2.2.2.2.1 ([]:List c8) t14.2.2.2.2.2.2.2.1 (GExpr.mk t14.2.2.2.2.2.2.2.2.1 t14.2.2.2.2.2.2.2.2.2.1 t14.2.2.2.2.2.2.2.2.2.2.1 t14.2.2.2.2.2.2.2.2.2.2.2.1 t14.2.2.2.2.2.2.2.2.2.2.2.2.1) ([]:List GStmt) ([]:List GStmt) t14.2.2.2.2.2.2.2.2.2.2.2.2.2.1,(t14.1,(t14.2.1,(t14.2.2.1,(t14.2.2.2.1,t14.2.2.2.2.2.2.2.2.2.2.2.2.2.2)))))
  (∃(j:Nat) (G:GStmt) (T:Mk),i<j/\j<=w.length/\T.length+1<=j-i/\Pos T/\SOk (j-i) G/\SS=some (.ok (G,(w.drop j,(e,dp d T))))/\RR=some (G,((j:Int),(e,(false,(p,(w,M++T)))))))\/
  (∃c,SS=some (.error c)/\∃y b K,RR=some (y,(b,(e,(true,(c,(w,K))))))):=by
 intro SS RR
 have hN:=V.hN
 have hwl:=V.wl
 have hpos:0<N:=by unfold L7 at hN;omega
 have hx1:IntKind.i64.wrap (x+1)=x+1:=D8 (by omega) (by omega)
 have eS:SS=l7 _ _:=rfl
 have eR:RR=f5 _ _:=rfl
 unfold J5 at eR
 simp only[hx1]at eR
 cases hq:P1 w i with
 |none=>
  rw[a3q V.hN V.wok hq,i7]at eS
  rw[a2p V.hN V.wok hq]at eR
  simp only[b9,J6,d6,c5k,a86,A7]at eR
  exact .inr ⟨_,eS,_,_,_,eR⟩
 |some q=>
  have hql:=(Q5 hq).1
  have hqn:E6 q=true:=by obtain⟨_,_,h,rfl⟩:=Q5 hq;exact h
  rw[a77 V.hN V.wok hq,l8]at eS
  rw[a5Q V.hN V.wl V.wok hq,b9]at eR
  unfold O3 at eS
  cases h40:V8 w (i+1) 4 [40]with
  |true=>
   have h61:=e4i h40 (show([40]:c8) ≠ [61] by decide)
   have hbl:=B9 h40
   rw[N3 h40]at eS
   rw[L2 h61]at eR
   unfold U7 at eR
   simp only[b9,d4,d6,a3x,h40,H4 V.wl h40]at eS eR
   rcases d5M V hx0 hxb (M:=M) (p:=p) (d:=d) (k:=2) (n:=0) (m:=0) (a:=a) (t:=q) (tx:=[]) (s:=[]) (i:=i+1+1) (by omega) (by omega)with⟨j,ls,T,g1,g2,g3,g4,g4p,g5,s1,r1⟩|⟨c,s1,b,L,ys,r1⟩
   ·rw[s1]at eS
    rw[r1]at eR
    simp only[l8,b9]at eS eR
    cases hs:V8 w j 4 [59]with
    |true=>
     have hsl:=B9 hs
     simp only[S1 hs,H4 V.wl hs,l8,b9]at eS eR
     refine .inl ⟨j+1,_,T,by omega,by omega,by omega,g4p,?_,eS,eR⟩
     rw[show j+1-i=(j-i)+1 by omega]
     exact .inr (.inl ⟨q,ls,a,hqn,by omega,g5,rfl⟩)
    |false=>
     simp only[S0 hs,N0 hs,i7,b9]at eS eR
     exact .inr ⟨_,eS,_,_,_,eR⟩
   ·rw[s1]at eS
    rw[r1]at eR
    simp only[i7,b9,A7]at eS eR
    exact .inr ⟨_,eS,_,_,_,eR⟩
  |false=>
   rw[L4 h40]at eS
   simp only[b9,d6,x7,o7]at eS
   cases h61:V8 w (i+1) 4 [61]with
   |false=>
    rw[L2 h61]at eR
    simp only[S0 h61,i7]at eS
    simp only[b9,d6,a3x,h40,a5P,A7]at eR
    exact .inr ⟨_,eS,_,_,_,eR⟩
   |true=>
    have hbl:=B9 h61
    rw[O1 V.wl h61]at eR
    simp only[S1 h61,l8]at eS
    simp only[b9,d4]at eR
    rcases a5U V.hN V.wl V.wok V.e0 (i:=i+1+1) (by omega) hx0 hxb M p d (by omega)with⟨j,E,T,hj1,hj2,hT,hTp,hE,s1,r1⟩|⟨c,s1,y,b,L,r1⟩
    ·rw[s1]at eS
     rw[r1]at eR
     simp only[l8,b9]at eS eR
     cases hs:V8 w j 4 [59]with
     |true=>
      have hsl:=B9 hs
      simp only[S1 hs,H4 V.wl hs,l8,b9,GExpr.eta]at eS eR
      refine .inl ⟨j+1,_,T,by omega,by omega,by omega,hTp,?_,eS,eR⟩
      rw[show j+1-i=(j-i)+1 by omega]
      exact .inl ⟨q,E,a,hqn,hE.mono (by omega),rfl⟩
     |false=>
      simp only[S0 hs,N0 hs,i7,b9]at eS eR
      exact .inr ⟨_,eS,_,_,_,eR⟩
    ·rw[s1]at eS
     rw[r1]at eR
     simp only[i7,b9,A7]at eS eR
     exact .inr ⟨_,eS,_,_,_,eR⟩
theorem b1c(V:Wc N w e){i:Nat}(hn:P1 w i=none)(hb:∀s,V8 w i 1 s=false)(x d:Int):t8 N S x (w.drop i) e d=some (.error (atS w i e)):=by
 unfold t8
 simp only[b82,b9,a5K,L4 (hb _),d6,a3q V.hN V.wok hn,i7]
end
end
section
variable{N:Nat}
section
variable{w:List A4}{e x:Int}{S:SSt}{B:RBt}{i0:Nat}
theorem Sx.next(C:Sx N w e S B i0){i1:Nat}(h:i0<=i1):Sx N w e S B i1:=
 ⟨C.V,fun i h1 h2 x h3 h4=>C.sim i (by omega) h2 x h3 h4,fun i h1 h2 h3 x d=>C.stop i (by omega) h2 h3 x d⟩
theorem c97(C:Sx N w e S B i0)(hi:i0<=w.length)(hx0:0<=x)(hxb:x+((w.length-i0:Nat):Int)<=60000):d80 N w e (t8 N S) (x4 N B) i0 x:=by
 intro M p d hM
 have V:=C.V
 have hN:=V.hN
 have hwl:=V.wl
 have hpos:0<N:=by unfold L7 at hN;omega
 have hx1:IntKind.i64.wrap (x+1)=x+1:=D8 (by omega) (by omega)
 obtain⟨SS,eS⟩:∃s,s=t8 N S x (w.drop i0) e d:=⟨_,rfl⟩
 obtain⟨RR,eR⟩:∃s,s=s6 N (x4 N B) x (i0:Int) e false p w M:=⟨_,rfl⟩
 rw[<-eS,<-eR]
 by_cases hil:i0<w.length
 case neg=>
  obtain⟨hn,hb⟩:=b3I hil
  rw[b1c V hn (fun s=>hb 1 s)]at eS
  unfold s6 at eR
  rw[b2Z,c91 (by omega)]at eR
  simp only[b9,L2 (hb _ _),d6]at eR
  unfold J5 at eR
  simp only[a2p V.hN V.wok hn,b9,J6,d6,c5k,a86,A7]at eR
  exact .inr ⟨_,eS,_,_,_,eR⟩
 unfold t8 at eS
 unfold s6 at eR
 rw[b2Z,c91 (by omega)]at eR
 simp only[b82,b9,a5K,hx1]at eS eR
 have ha0:=c41 V.wok V.e0 i0
 generalize ha:atS w i0 e=a at eS eR ha0
 have hp1:Pos [(a,x)]:=Pos.one ha0
 have hM1:(M ++ [(a,x)]).length<=i0+1:=by simp;omega
 have hd:dp1 d (a,x)=dp d [(a,x)]:=rfl
 rw[hd]at eS
 have B1:=fun(j:Nat) (hj:i0<j) (hjl:j<=w.length)=>c6M (x:=x+1) (C.next (i1:=j) (by omega)) hjl (by omega) (by omega)
 cases b1:V8 w i0 1 [109,97,99,114,111]with
 |true=>
  rw[N3 b1]at eS
  rw[O1 V.wl b1]at eR
  simp only[b9,d4]at eS eR
  cases hq:P1 w (i0+1)with
  |none=>
   rw[a3q V.hN V.wok hq,i7]at eS
   rw[a2p V.hN V.wok hq]at eR
   simp only[b9,c2Z hN,a0B hN]at eR
   exact .inr ⟨_,eS,_,_,_,eR⟩
  |some q=>
  have hql:=(Q5 hq).1
  have hqn:E6 q=true:=by obtain⟨_,_,h,rfl⟩:=Q5 hq;exact h
  rw[a77 V.hN V.wok hq,l8]at eS
  rw[a5Q V.hN V.wl V.wok hq]at eR
  simp only[b9]at eS eR
  unfold I0 at eR
  cases c1:V8 w (i0+1+1) 4 [40]with
  |false=>
   rw[S0 c1,i7]at eS
   rw[N0 c1]at eR
   obtain⟨f,hf,hf2⟩:=a7Y hN
   simp only[b9,a42 hf,a84,Bool.not_true,d6,A7,a0B hN]at eR
   exact .inr ⟨_,eS,_,_,_,eR⟩
  |true=>
  have l1:=B9 c1
  rw[S1 c1,l8]at eS
  rw[H4 V.wl c1]at eR
  simp only[b9]at eS eR
  rcases d6b V (M:=M ++ [(a,x)]) (p:=p) (d:=dp d [(a,x)]) (k:=3) (n:=0) (m:=0) (a:=a) (t:=q) (tx:=[]) (s:=[]) (i:=i0+1+1+1) (by omega)with⟨j,ls,g1,g2,g3,g4,s1,r1⟩|⟨c,s1,b,ys,r1⟩
  case inr=>
   rw[s1,i7]at eS
   rw[r1]at eR
   simp only[b9,a0B hN]at eR
   exact .inr ⟨_,eS,_,_,_,eR⟩
  rw[s1,l8]at eS
  rw[r1]at eR
  simp only[b9]at eS eR
  rcases B1 j (by omega) g2 (M ++ [(a,x)]) p (dp d [(a,x)]) (by omega)with⟨j2,Gs,T,k1,k2,k3,k3p,k4,k5,s2,r2⟩|⟨c,s2,y,b,K,r2⟩
  ·rw[s2,l8]at eS
   rw[r2]at eR
   simp only[b9]at eS eR
   refine .inl ⟨j2,_,[(a,x)]++T,by omega,k2,by simp;omega,hp1.app k3p,?_,by rw[eS,a1M],by rw[eR,List.append_assoc]⟩
   rw[show j2-i0=(j2-i0-1)+1 by omega]
   exact .inr (.inr (.inl ⟨q,ls,Gs,a,hqn,by omega,g4,k4,fun c hc=>(k5 c hc).mono (by omega),rfl⟩))
  ·rw[s2,i7]at eS
   rw[r2]at eR
   simp only[b9]at eR
   exact .inr ⟨_,eS,_,_,_,eR⟩
 |false=>
 rw[L4 b1]at eS
 rw[L2 b1]at eR
 simp only[b9,d6]at eS eR
 cases b2:V8 w i0 1 [102,111,114]with
 |true=>
  rw[N3 b2]at eS
  rw[O1 V.wl b2]at eR
  simp only[b9,d4]at eS eR
  cases hq:P1 w (i0+1)with
  |none=>
   rw[a3q V.hN V.wok hq,i7]at eS
   rw[a2p V.hN V.wok hq]at eR
   simp only[b9,c5l,a4S hpos,a0B hN]at eR
   exact .inr ⟨_,eS,_,_,_,eR⟩
  |some q=>
  have hql:=(Q5 hq).1
  have hqn:E6 q=true:=by obtain⟨_,_,h,rfl⟩:=Q5 hq;exact h
  rw[a77 V.hN V.wok hq,l8]at eS
  rw[a5Q V.hN V.wl V.wok hq]at eR
  simp only[b9]at eS eR
  cases c1:V8 w (i0+1+1) 1 [105,110]with
  |false=>
   rw[d9C c1,i7]at eS
   rw[c5m c1]at eR
   simp only[b9,a4S hpos,a0B hN]at eR
   exact .inr ⟨_,eS,_,_,_,eR⟩
  |true=>
  have l1:=B9 c1
  rw[d9D c1,l8]at eS
  rw[c5n V.wl c1]at eR
  simp only[b9]at eS eR
  rcases a5U V.hN V.wl V.wok V.e0 (i:=i0+1+1+1) (by omega) hx0 (by omega) (M ++ [(a,x)]) p (dp d [(a,x)]) (by omega)with⟨j,E,T,hj1,hj2,hT,hTp,hE,s1,r1⟩|⟨c,s1,y,b,L,r1⟩
  case inr=>
   rw[s1,i7]at eS
   rw[r1]at eR
   simp only[b9,a0B hN]at eR
   exact .inr ⟨_,eS,_,_,_,eR⟩
  rw[s1,l8]at eS
  rw[r1]at eR
  simp only[b9]at eS eR
  rw[<-a1M]at eS
  rcases B1 j (by omega) hj2 (M ++ [(a,x)]++T) p (dp d ([(a,x)]++T)) (by rw[List.length_append];omega)with⟨j2,Gs,T2,k1,k2,k3,k3p,k4,k5,s2,r2⟩|⟨c,s2,y,b,K,r2⟩
  ·rw[s2,l8]at eS
   rw[r2]at eR
   simp only[b9,GExpr.eta]at eS eR
   refine .inl ⟨j2,_,[(a,x)]++T++T2,by omega,k2,by simp;omega,(hp1.app hTp).app k3p,?_,by rw[eS,a1M d ([(a,x)]++T)],by rw[eR];simp only[List.append_assoc]⟩
   rw[show j2-i0=(j2-i0-1)+1 by omega]
   exact .inr (.inr (.inr (.inl ⟨q,E,Gs,a,hqn,hE.mono (by omega),k4,fun c hc=>(k5 c hc).mono (by omega),rfl⟩)))
  ·rw[s2,i7]at eS
   rw[r2]at eR
   simp only[b9]at eR
   exact .inr ⟨_,eS,_,_,_,eR⟩
 |false=>
 rw[L4 b2]at eS
 rw[L2 b2]at eR
 simp only[b9,d6]at eS eR
 cases b3:V8 w i0 1 [105,102]with
 |true=>
  rw[N3 b3]at eS
  rw[O1 V.wl b3]at eR
  simp only[b9,d4]at eS eR
  rcases a5U V.hN V.wl V.wok V.e0 (i:=i0+1) (by omega) hx0 (by omega) (M ++ [(a,x)]) p (dp d [(a,x)]) (by omega)with⟨j,E,T,hj1,hj2,hT,hTp,hE,s1,r1⟩|⟨c,s1,y,b,L,r1⟩
  case inr=>
   rw[s1,i7]at eS
   rw[r1]at eR
   simp only[b9,a0B hN,J6,d6]at eR
   exact .inr ⟨_,eS,_,_,_,eR⟩
  rw[s1,l8]at eS
  rw[r1]at eR
  simp only[b9]at eS eR
  rw[<-a1M]at eS
  rcases B1 j (by omega) hj2 (M ++ [(a,x)]++T) p (dp d ([(a,x)]++T)) (by rw[List.length_append];omega)with⟨j2,Gs,T2,k1,k2,k3,k3p,k4,k5,s2,r2⟩|⟨c,s2,y,b,K,r2⟩
  case inr=>
   rw[s2,i7]at eS
   rw[r2]at eR
   simp only[b9,J6,d6]at eR
   exact .inr ⟨_,eS,_,_,_,eR⟩
  rw[s2,l8]at eS
  rw[r2]at eR
  simp only[b9,GExpr.eta]at eS eR
  rw[<-a1M]at eS
  cases c1:V8 w j2 1 [101,108,115,101]with
  |false=>
   rw[L4 c1]at eS
   rw[L2 c1]at eR
   simp only[b9,d6]at eS eR
   refine .inl ⟨j2,_,[(a,x)]++T++T2,by omega,k2,by simp;omega,(hp1.app hTp).app k3p,?_,eS,by rw[eR];simp only[List.append_assoc]⟩
   rw[show j2-i0=(j2-i0-1)+1 by omega]
   exact .inr (.inr (.inr (.inr (.inl ⟨E,Gs,[],a,hE.mono (by omega),k4,fun c hc=>(k5 c hc).mono (by omega),by simp,by simp,rfl⟩))))
  |true=>
   have l1:=B9 c1
   rw[N3 c1]at eS
   rw[O1 V.wl c1]at eR
   simp only[b9,d4]at eS eR
   rcases B1 (j2+1) (by omega) (by omega) (M ++ [(a,x)]++T++T2) p (dp d ([(a,x)]++T++T2)) (by rw[List.length_append,List.length_append];omega)with⟨j3,Hs,T3,q1,q2,q3,q3p,q4,q5,s3,r3⟩|⟨c,s3,y,b,K,r3⟩
   ·rw[s3,l8]at eS
    rw[r3]at eR
    simp only[b9]at eS eR
    refine .inl ⟨j3,_,[(a,x)]++T++T2++T3,by omega,q2,by simp;omega,((hp1.app hTp).app k3p).app q3p,?_,by rw[eS,a1M d ([(a,x)]++T++T2)],by rw[eR];simp only[List.append_assoc]⟩
    rw[show j3-i0=(j3-i0-1)+1 by omega]
    exact .inr (.inr (.inr (.inr (.inl ⟨E,Gs,Hs,a,hE.mono (by omega),k4,fun c hc=>(k5 c hc).mono (by omega),q4,fun c hc=>(q5 c hc).mono (by omega),rfl⟩))))
   ·rw[s3,i7]at eS
    rw[r3]at eR
    simp only[b9]at eR
    exact .inr ⟨_,eS,_,_,_,eR⟩
 |false=>
 rw[L4 b3]at eS
 rw[L2 b3]at eR
 simp only[b9,d6]at eS eR
 cases b4:V8 w i0 1 [117,115,101]with
 |true=>
  rw[N3 b4]at eS
  rw[O1 V.wl b4]at eR
  simp only[b9,d4]at eS eR
  cases ht:a2V w (i0+1)with
  |none=>
   rw[c28 ht,i7]at eS
   rw[b8Z ht]at eR
   simp only[b9,A7]at eR
   exact .inr ⟨_,eS,_,_,_,eR⟩
  |some s=>
  have htl:=(a2q ht).1
  have hs:s.length<=50000:=by
   obtain⟨hi,h1,rfl⟩:=a2q ht
   exact(V.wok _ (List.getElem_mem hi)).2
  rw[b89 ht,l8]at eS
  rw[b80 V.wl ht]at eR
  simp only[b9]at eS eR
  cases c1:V8 w (i0+1+1) 4 [59]with
  |false=>
   rw[S0 c1,i7]at eS
   rw[N0 c1]at eR
   simp only[b9]at eR
   exact .inr ⟨_,eS,_,_,_,eR⟩
  |true=>
   have l1:=B9 c1
   rw[S1 c1,l8]at eS
   rw[H4 V.wl c1]at eR
   simp only[b9]at eS eR
   refine .inl ⟨i0+1+1+1,_,[(a,x)],by omega,by omega,by simp;omega,hp1,?_,eS,eR⟩
   rw[show i0+1+1+1-i0=2+1 by omega]
   exact .inr (.inr (.inr (.inr (.inr ⟨s,a,hs,rfl⟩))))
 |false=>
 rw[L4 b4]at eS
 rw[L2 b4]at eR
 simp only[b9,d6]at eS eR
 by_cases hn:P1 w i0=none
 ·rw[a3q V.hN V.wok hn,i7]at eS
  unfold J5 at eR
  simp only[a2p V.hN V.wok hn,b9,J6,d6,c5k,a86,A7]at eR
  exact .inr ⟨_,eS,_,_,_,eR⟩
 rcases c67 V hil hx0 (by omega) (M ++ [(a,x)]) p (dp d [(a,x)]) a hM1 with⟨j,G,T,g1,g2,g3,g3p,g4,s1,r1⟩|⟨c,s1,y,b,K,r1⟩
 ·exact .inl ⟨j,G,[(a,x)]++T,g1,g2,by simp;omega,hp1.app g3p,g4,by rw[eS,s1,a1M],by rw[eR,r1,List.append_assoc]⟩
 ·exact .inr ⟨c,by rw[eS,s1],y,b,K,by rw[eR,r1]⟩
end
theorem c0n{w:List A4}{e:Int}(V:Wc N w e):∀(n i:Nat) (x:Int),i<=w.length->w.length-i+1<n->0<=x->x+((w.length-i:Nat):Int)<=60000->
  d80 N w e (m5 N n) (D7 N n) i x
 |0,i,x,hi,hn,_,_=>absurd hn (by omega)
 |n+1,i,x,hi,hn,h0,hx=>by
  obtain⟨n,rfl⟩:∃q,n=q+1:=⟨n-1,by omega⟩
  exact c97 (S:=m5 N (n+1)) (B:=D7 N (n+1)) ⟨V,fun i' h1 h2 y h3 h4=>c0n V (n+1) i' y h2 (by omega) h3 h4,fun i' h1 h2 h3 y d=>b1c V h2 h3 y d⟩ hi h0 hx
end
section
variable{N:Nat}
abbrev zG:GStmt:=GStmt.mk (0:Int) ([]:c8) ([]:c8) ([]:List c8) ([]:List (c8×GExpr)) (GExpr.mk (0:Int) ([]:c8) (0:Int) ([]:List c8) ([]:List GExpr)) ([]:List GStmt) ([]:List GStmt) (0:Int)
theorem c9h:∀(T:Mk) {d:Int},0<=d->dp d T=d
 |[],d,h=>rfl
 |m :: T,d,h=>by
  have:dp1 d m=d:=by unfold dp1;split<;>(try split)<;>omega
  show dp (dp1 d m) T=d
  rw[this,c9h T h]
abbrev RPr:Type:=Option (Int×Int×List GStmt)
theorem b30(c:Int)(T:Mk)(hT:Pos T)(hl:T.length<=50000)(k:RPr):∀(u f j:Nat),j+u=T.length->u<f->c9m N (T.length:Int) T k f (j:Int) =
  if 0<=dp (-1) (T.drop j)then some (dp (-1) (T.drop j),((2:Int),([]:List GStmt)))else k
 |0,f,j,hj,hf=>by
  obtain⟨f,rfl⟩:∃q,f=q+1:=⟨f-1,by omega⟩
  obtain rfl:j=T.length:=by omega
  show c7n _ _ _ _ _ _=_
  unfold c7n
  rw[a1f,d6,List.drop_length,if_neg (by decide)]
 |u+1,f,j,hj,hf=>by
  obtain⟨f,rfl⟩:∃q,f=q+1:=⟨f-1,by omega⟩
  have h:j<T.length:=by omega
  have ih:=b30 c T hT hl k u f (j+1) (by omega) (by omega)
  have hp:=hT _ (List.getElem_mem h)
  show c7n _ _ _ _ _ _=_
  unfold c7n
  rw[a0Z h,d4,decide_eq_true (show(0:Int)<=(j:Int)/\(j:Int)<(T.length:Int)from⟨by omega,by omega⟩),d4,o9 _ h,b9,O4 (m:=j+1) (by omega) (by omega),ih,List.drop_eq_getElem_cons h]
  by_cases h30:T[j].2>=30
  ·have e:dp (-1) (T[j] :: T.drop (j+1))=T[j].1:=by
    show dp (dp1 (-1) T[j]) _=_
    have:dp1 (-1) T[j]=T[j].1:=by unfold dp1;rw[if_pos h30,if_pos (by decide)]
    rw[this,c9h _ hp]
   rw[decide_eq_true h30,d4,e,if_pos hp]
  ·have e:dp (-1) (T[j] :: T.drop (j+1))=dp (-1) (T.drop (j+1)):=by
    show dp (dp1 (-1) T[j]) _=_
    have:dp1 (-1) T[j] = -1:=by unfold dp1;rw[if_neg h30]
    rw[this]
   rw[decide_eq_false h30,d6,e]
section
variable{w:List A4}{e:Int}
abbrev AlR:Type:=Option (Except Int (List GStmt×Int×Bool×List A4×Int×Int×Int×Bool×List GStmt))
theorem e4j{l:List GStmt}(h:l.length<=50000):decide ((l.length + [zG].length)*(24*Ty.sz (.rc .stmt))<=140737488355328)=true:=c9r h
theorem c68{f:Nat}(hf:0<f){x:Int}{k0:Int->Int->Bool->Int->List A4->List GStmt->Mk->Option (Int×Int×Bool×Int×List A4×List GStmt×Mk)}{a p:Int}{M:Mk}{Gs:List GStmt}:
  a7U N x k0 f a e true p w Gs M=k0 a e true p w Gs M:=by
 obtain⟨f,rfl⟩:∃q,f=q+1:=⟨f-1,by omega⟩
 show a3a _ _ _ _ _ _ _ _ _ _ _=_
 unfold a3a
 rw[Bool.not_true,d6]
theorem b7D(V:Wc N w e){p:Int}{K:List A4->Int->Int->List GStmt->AlR}{k0:Int->Int->Bool->Int->List A4->List GStmt->Mk->Option (Int×Int×Bool×Int×List A4×List GStmt×Mk)}:
  ∀(u i f1 f2:Nat) (Gs:List GStmt) (T:Mk),i+u=w.length->u<f1->u<f2->Gs.length<=i->T.length<=i->Pos T->(∀G∈Gs,SOk 50001 G)->
  let SS:=c1F N K f1 (w.drop i) e (dp (-1) T) Gs
  let RR:=a7U N (0:Int) k0 f2 (i:Int) e false p w Gs T
  (∃(Hs:List GStmt) (T':Mk),Hs.length<=50000/\T'.length<=50000/\Pos T'/\(∀G∈Hs,SOk 50001 G)/\SS=K (w.drop w.length) e (dp (-1) T') Hs/\RR=k0 (w.length:Int) e false p w Hs T')\/
  (∃c,SS=some (.error c)/\((∃b ys L,RR=k0 b e true c w ys L)\/(∃(j:Nat) (ys:List GStmt) (L:Mk),j<w.length/\c=atS w j e/\RR=k0 (j:Int) e false p w ys L)))
 |u,i,f1,f2,Gs,T,hu,h1,h2,hGl,hT,hTp,hG=>by
  obtain⟨f1,rfl⟩:∃q,f1=q+1:=⟨f1-1,by omega⟩
  obtain⟨f2,rfl⟩:∃q,f2=q+1:=⟨f2-1,by omega⟩
  intro SS RR
  have hwl:=V.wl
  obtain⟨f,hf,hf2⟩:=a7Y V.hN
  have eS:SS=a4j N K (c1F N K f1) (w.drop i) e (dp (-1) T) Gs:=rfl
  have eR:RR=a3a N 0 k0 (a7U N 0 k0 f2) (i:Int) e false p w Gs T:=rfl
  unfold a4j at eS
  unfold a3a at eR
  rw[Bool.not_false,d4,a3x,b9]at eR
  by_cases hil:i<w.length
  case neg=>
   obtain rfl:i=w.length:=by omega
   rw[c9E hil,d6]at eS
   rw[a1f,d6]at eR
   exact .inl ⟨Gs,T,by omega,by omega,hTp,hG,eS,eR⟩
  rw[c9F hil,d4]at eS
  rw[a0Z hil,d4]at eR
  cases hb:V8 w i 4 [125]with
  |true=>
   obtain⟨hn,hn2⟩:=c2r hb
   have st:m5 N N 0 (w.drop i) e (dp (-1) T)=some (.error (atS w i e)):=by
    have:m5 N N=t8 N (m5 N f):=by
     conv=>lhs;arg 2;rw[hf]
     rfl
    rw[this,b1c V hn hn2]
   simp only[st,i7,x7,o7]at eS
   rw[hb]at eR
   simp only[Bool.not_true,d6]at eR
   exact .inr ⟨_,eS,.inr ⟨i,_,_,hil,rfl,eR⟩⟩
  |false=>
   rw[hb]at eR
   simp only[Bool.not_false,d4]at eR
   rcases c0n V N i 0 (by omega) (by omega) (by omega) (by omega) T p (dp (-1) T) hT with⟨j,G,T2,hj1,hj2,hT2,hTp2,hG2,s1,r1⟩|⟨c,s1,y,b,L,r1⟩
   ·simp only[s1,l8,e4j (show Gs.length<=50000 by omega),c2L,b3P,b9,b4i,d4,x7,o7]at eS
    rw[r1,b9]at eR
    simp only[GStmt.eta2,c9r (show Gs.length<=50000 by omega),d4]at eR
    rw[<-a1M]at eS
    have ih:=b7D V (p:=p) (K:=K) (k0:=k0) (w.length-j) j f1 f2 (Gs ++ [G]) (T++T2) (by omega) (by omega) (by omega) (by simp;omega) (by rw[List.length_append];omega) (hTp.app hTp2) (fun y hy=>by
     rcases List.mem_append.1 hy with hy|hy
     ·exact hG y hy
     ·rw[List.mem_singleton.1 hy];exact hG2.mono (by omega))
    rw[eS,eR]
    exact ih
   ·simp only[s1,i7,x7,o7]at eS
    rw[r1,b9]at eR
    simp only[GStmt.eta2,c9r (show Gs.length<=50000 by omega),d4]at eR
    rw[c68 (by omega)]at eR
    exact .inr ⟨c,eS,.inl ⟨_,_,_,eR⟩⟩
 termination_by u=>u
end
theorem c20(hN:L7<=N)(s:c8)(hc:∀Gs:List GStmt,Gs.length<=50000->(∀G∈Gs,SOk 50001 G)->∃c,K8 N Gs=some c/\J4 N Gs=some c):
  ∃(Gs:List GStmt) (a f:Int),Gs.length<=50000/\(∀G∈Gs,SOk 50001 G)/\O7 N s=some (Gs,(a,f))/\Y3 N s=some (a,(f,Gs)):=by
 have hb:1000000<N:=by unfold L7 at hN;omega
 obtain⟨x,a,f,hx,hok,t1,t2⟩:=c0s (N:=N) (by omega) s
 unfold O7
 by_cases hf:f=0
 case neg=>
  have hf':(f !=0)=true:=by simpa using hf
  refine⟨[],a,f,by simp,by simp,?_,?_⟩
  ·unfold U8
   rw[t1,b9]
   simp only[hf',d4]
  ·unfold Y3
   rw[t2,b9]
   simp only[hf',d4]
 subst hf
 have V:Wc N x (s.length:Int):=⟨hN,hx,hok,by omega⟩
 have lp:=b7D V (p:=0)
  (K:=fun o0_0_0 o0_0_1 o0_0_2 o0_w950001=>some (.ok (o0_w950001,((0:Int),(true,(o0_0_0,(o0_0_1,(o0_0_2,((0:Int),(true,o0_w950001))))))))))
  (k0:=fun o0_0_1 o0_0_2 o0_0_3 o0_0_4 o0_w1 o0_w1005 o0_w950001=>some (o0_0_1,(o0_0_2,(o0_0_3,(o0_0_4,(o0_w1,(o0_w1005,o0_w950001)))))))
  x.length 0 N N [] [] (by omega) (by omega) (by omega) (by simp) (by simp) Pos.nil (by simp)
 have eY:E8 N x (s.length:Int) (-1) 0 false=c1F N (fun o0_0_0 o0_0_1 o0_0_2 o0_w950001=>some (.ok (o0_w950001,((0:Int),(true,(o0_0_0,(o0_0_1,(o0_0_2,((0:Int),(true,o0_w950001)))))))))) N (x.drop 0) (s.length:Int) (dp (-1) []) []:=rfl
 have eP:P5 N 0 0 (s.length:Int) false 0 x=a7U N 0 (fun o0_0_1 o0_0_2 o0_0_3 o0_0_4 o0_w1 o0_w1005 o0_w950001=>some (o0_0_1,(o0_0_2,(o0_0_3,(o0_0_4,(o0_w1,(o0_w1005,o0_w950001))))))) N ((0:Nat):Int) (s.length:Int) false 0 x [] []:=rfl
 rcases lp with⟨Hs,T,h1,h2,h3,h4,u1,u2⟩|⟨c,u1,u2⟩
 ·rw[<-eY]at u1
  rw[<-eP]at u2
  have aOk:A1 N x (s.length:Int) (-1)=some (Hs,(0,(true,dp (-1) T))):=by
   unfold A1
   rw[u1]
  have ml:=fun k=>b30 (N:=N) 0 T h3 h2 k T.length N 0 (by omega) (by omega)
  simp only[List.drop_zero]at ml
  unfold U8 Y3
  rw[t1,t2,b9,b9]
  simp only[bne_self_eq_false,d6,aOk,b9,Bool.not_true,u2,a1f]
  rw[show((0:Nat):Int)=0 from rfl]at ml
  rw[ml]
  by_cases hd:0<=dp (-1) T
  ·rw[decide_eq_true (show dp (-1) T>=0 from hd),d4,if_pos hd]
   exact⟨[],_,_,by simp,by simp,rfl,rfl⟩
  ·rw[decide_eq_false (show ¬dp (-1) T>=0 from hd),d6,if_neg hd]
   obtain⟨c,c1,c2⟩:=hc Hs h1 h4
   rw[c1,c2,b9,b9]
   by_cases hc0:c=0
   ·subst hc0
    simp only[bne_self_eq_false,d6]
    exact⟨Hs,_,_,h1,h4,rfl,rfl⟩
   ·rw[show(c !=0)=true by simpa using hc0,d4,d4]
    exact⟨[],_,_,by simp,by simp,rfl,rfl⟩
 ·rw[<-eY]at u1
  have aOk:A1 N x (s.length:Int) (-1)=none:=by
   unfold A1
   rw[u1]
  have aBad:C2 N x (s.length:Int) (-1)=some (c,false):=by
   unfold C2
   rw[u1]
  have e1:U8 N s=none:=by
   unfold U8
   rw[t1,b9]
   simp only[bne_self_eq_false,d6,aOk,c85]
  have e2:a0l N s=some ([],(c,10)):=by
   unfold a0l
   rw[t1,b9]
   simp only[bne_self_eq_false,d6,aBad,b9,Bool.not_false,d4]
  rw[e1]
  refine⟨[],c,10,by simp,by simp,e2,?_⟩
  unfold Y3
  rw[t2,b9]
  simp only[bne_self_eq_false,d6]
  rcases u2 with⟨b,ys,L,u2⟩|⟨j,ys,L,hj,rfl,u2⟩
  ·rw[<-eP]at u2
   rw[u2,b9]
   simp only[a86,b9,d4]
   cases decide (b<(x.length:Int))<;>simp
  ·rw[<-eP]at u2
   rw[u2,b9]
   simp only[a0Z hj,d4,a5P,b9]
end
section
theorem c25(xs:List c8)(hn:xs.Nodup):(xs.mergeSort R0).Pairwise (·< ·):=by
 have h1:=List.pairwise_mergeSort (le:=R0) (fun a b c h1 h2=>by
  simp only[R0,decide_eq_true_eq]at *
  exact List.le_trans h1 h2) (fun a b=>by
  simp only[R0,Bool.or_eq_true,decide_eq_true_eq]
  exact List.le_total _ _) xs
 have h2:(xs.mergeSort R0).Nodup:=(List.mergeSort_perm xs R0).nodup_iff.2 hn
 refine(List.Pairwise.and h1 h2).imp fun{a b} ⟨hle,hne⟩=>?_
 simp only[R0,decide_eq_true_eq]at hle
 rcases List.le_iff_lt_or_eq.1 hle with h|h
 ·exact h
 ·exact absurd h hne
theorem d5N{α:Type}(key:α->c8){a b:List α}(ha:a.Pairwise fun x y=>key x<key y)(hb:b.Pairwise fun x y=>key x<key y)(h:∀n,n∈a↔n∈b):a=b:=by
 have nd:∀c:List α,(c.Pairwise fun x y=>key x<key y)->c.Nodup:=fun c hc=>hc.imp fun{x y} h e=>by subst e;exact a2B _ h
 exact b2y (fun x y h1 h2=>a2B _ (b88 h1 h2)) a b ((List.perm_ext_iff_of_nodup (nd a ha) (nd b hb)).2 h) ha hb
theorem d6f:∀{a b:List c8},a.Pairwise (·< ·)->b.Pairwise (·< ·)->(∀n,n∈a↔n∈b)->a=b:=fun{a b} ha hb h=>d5N id ha hb h
def c7c(m:List (c8×Bool))(l:List c8):List (c8×Bool):=l.foldl (fun m n=>a4D m n true) m
theorem c62(m:List (c8×Bool))(n:c8)(b:Bool):((m.map (·.1)).Nodup->((a4D m n b).map (·.1)).Nodup)/\∀x,x∈(a4D m n b).map (·.1)↔x∈m.map (·.1)\/x=n:=by
 induction m with
 |nil=>exact⟨fun _=>by simp[a4D],fun x=>by simp[a4D]⟩
 |cons p m ih=>
  obtain⟨k,v⟩:=p
  unfold a4D
  by_cases h:n=k
  ·subst h
   simp only[beq_self_eq_true,if_true]
   exact⟨fun h=>h,fun x=>⟨.inl,fun h=>h.elim id fun e=>by rw[e];simp⟩⟩
  ·have hb:(n==k)=false:=by simpa using h
   simp only[hb,Bool.false_eq_true,if_false,List.map_cons]
   refine⟨fun hn=>?_,fun x=>?_⟩
   ·rw[List.nodup_cons]at hn ⊢
    refine⟨fun hm=>?_,ih.1 hn.2⟩
    rcases(ih.2 k).1 hm with h1|h1
    ·exact hn.1 h1
    ·exact h h1.symm
   ·rw[List.mem_cons,List.mem_cons,ih.2]
    exact or_assoc.symm
theorem b1a:∀(l:List c8) (m:List (c8×Bool)),((m.map (·.1)).Nodup->((c7c m l).map (·.1)).Nodup)/\∀x,x∈(c7c m l).map (·.1)↔x∈m.map (·.1)\/x∈l
 |[],m=>⟨fun h=>h,fun x=>by simp[c7c]⟩
 |n :: l,m=>by
  have h1:=c62 m n true
  have h2:=b1a l (a4D m n true)
  show((m.map (·.1)).Nodup->((c7c (a4D m n true) l).map (·.1)).Nodup)/\∀x,x∈(c7c (a4D m n true) l).map (·.1)↔_
  refine⟨fun h=>h2.1 (h1.1 h),fun x=>?_⟩
  rw[h2.2,h1.2,List.mem_cons,or_assoc]
def b2E(l:List c8):List c8:=((c7c [] l).map (·.1)).mergeSort R0
theorem b7K(l:List c8):(b2E l).Pairwise (·< ·):=c25 _ ((b1a l []).1 List.nodup_nil)
theorem b0Z(l:List c8)(x:c8):x∈b2E l↔x∈l:=by
 unfold b2E
 rw[List.mem_mergeSort,(b1a l []).2];simp
theorem a8W(d:Array c8)(hd:∀i j (hi:i<d.size) (hj:j<d.size),i<j->d[i]!<=d[j]!):∀m,m<=d.size->(Lib.compactUpTo d m).Pairwise (·< ·)/\∀x,x∈Lib.compactUpTo d m ↔ ∃j,j<m/\d[j]! = x
 |0,_=>by
  have:Lib.compactUpTo d 0=[]:=by simp[Lib.compactUpTo]
  rw[this]
  exact⟨List.Pairwise.nil,fun x=>⟨fun h=>(by cases h),fun⟨j,hj,_⟩=>absurd hj (Nat.not_lt_zero _)⟩⟩
 |m+1,hm=>by
  obtain⟨h1,h2⟩:=a8W d hd m (by omega)
  rw[Lib.compactUpTo_succ]
  have key:∀x,(∃j,j<m+1/\d[j]! = x)↔(∃j,j<m/\d[j]! = x)\/d[m]! = x:=fun x=>by
   constructor
   ·rintro⟨j,hj,e⟩
    rcases Nat.lt_or_ge j m with h|h
    ·exact .inl ⟨j,h,e⟩
    ·obtain rfl:j=m:=by omega
     exact .inr e
   ·rintro(⟨j,hj,e⟩|e)
    ·exact⟨j,by omega,e⟩
    ·exact⟨m,by omega,e⟩
  cases hk:Lib.keeps d m with
  |true=>
   rw[if_pos rfl]
   refine⟨List.pairwise_append.2 ⟨h1,List.pairwise_singleton _ _,fun a ha b hb=>?_⟩,fun x=>?_⟩
   ·rw[List.mem_singleton.1 hb]
    obtain⟨j,hj,rfl⟩:=(h2 a).1 ha
    have hne:d[m]! ≠ d[m-1]!:=fun e=>by
     rw[Lib.keeps_neg (by omega) e]at hk;cases hk
    have hlt:d[m-1]! < d[m]!:=by
     rcases List.le_iff_lt_or_eq.1 (hd (m-1) m (by omega) (by omega) (by omega))with h|h
     ·exact h
     ·exact absurd h.symm hne
    rcases Nat.lt_or_ge j (m-1)with h|h
    ·have h3:d[j]!<=d[m-1]!:=hd j (m-1) (by omega) (by omega) h
     rcases List.le_iff_lt_or_eq.1 h3 with h4|h4
     ·exact List.lt_trans h4 hlt
     ·rw[h4];exact hlt
    ·obtain rfl:j=m-1:=by omega
     exact hlt
   ·rw[List.mem_append,h2,key,List.mem_singleton]
    exact⟨fun h=>h.imp id Eq.symm,fun h=>h.imp id Eq.symm⟩
  |false=>
   rw[if_neg (by simp),List.append_nil]
   refine⟨h1,fun x=>?_⟩
   rw[h2,key]
   constructor
   ·exact .inl
   ·rintro(h|e)
    ·exact h
    ·have h0:m≠0:=fun h0=>by
      subst h0
      rw[Lib.keeps_lt_one d 0 (by omega)]at hk;cases hk
     have he:d[m]! = d[m-1]!:=Classical.byContradiction fun hne=>by
      rw[Lib.keeps_pos hne]at hk;cases hk
     exact⟨m-1,by omega,he▸e⟩
theorem c2x(zs:List c8)(h:zs.Pairwise (·<=·)):(Lib.compact zs).Pairwise (·< ·)/\∀x,x∈Lib.compact zs↔x∈zs:=by
 have hg:∀j (hj:j<zs.length),zs.toArray[j]! = zs[j]:=fun j hj=>by rw[getElem!_pos zs.toArray j (by simpa using hj)];simp
 have hsz:zs.toArray.size=zs.length:=by simp
 have:=a8W zs.toArray (fun i j hi hj hij=>by
  rw[hsz]at hi hj
  rw[hg i hi,hg j hj]
  exact List.pairwise_iff_getElem.1 h i j hi hj hij) zs.length (by rw[hsz];exact Nat.le_refl _)
 refine⟨this.1,fun x=>(this.2 x).trans ⟨?_,fun hx=>?_⟩⟩
 ·rintro⟨j,hj,e⟩
  rw[<-e,hg j hj];exact List.getElem_mem hj
 ·obtain⟨j,hj,e⟩:=List.getElem_of_mem hx
  exact⟨j,hj,(hg j hj).trans e⟩
theorem c24(xs:List c8):(xs.mergeSort R0).Pairwise (·<=·):=by
 have:=List.pairwise_mergeSort (le:=R0) (fun a b c h1 h2=>by
  simp only[R0,decide_eq_true_eq]at *
  exact List.le_trans h1 h2) (fun a b=>by
  simp only[R0,Bool.or_eq_true,decide_eq_true_eq]
  exact List.le_total _ _) xs
 exact this.imp fun h=>by simpa [R0]using h
theorem b8I(l:List c8):Lib.compact (l.mergeSort R0)=b2E l:=by
 obtain⟨h1,h2⟩:=c2x _ (c24 l)
 exact d6f h1 (b7K l) fun x=>by rw[h2,List.mem_mergeSort,b0Z]
end
section
variable{N:Nat}
theorem b02:∀(a l:List c8),a.Nodup->(∀x∈a,x∈l)->a.length<=l.length
 |[],l,_,_=>Nat.zero_le _
 |x :: a,l,h,hs=>by
  have hx:=hs x (List.mem_cons_self ..)
  rw[List.nodup_cons]at h
  have:=b02 a (l.erase x) h.2 fun y hy=>by
   have hne:y≠x:=fun e=>h.1 (e▸hy)
   exact(List.mem_erase_of_ne hne).2 (hs y (List.mem_cons_of_mem _ hy))
  rw[List.length_erase_of_mem hx]at this
  have hp:0<l.length:=List.length_pos_of_mem hx
  simp only[List.length_cons];omega
theorem b7m:∀(l:List c8),¬l.Nodup->∃x,x∈l.erase x/\x∈l
 |[],h=>absurd List.nodup_nil h
 |b :: l,h=>by
  by_cases hb:b∈l
  ·exact⟨b,by simpa using hb,by simp⟩
  ·have hl:¬l.Nodup:=fun h2=>h (List.nodup_cons.2 ⟨hb,h2⟩)
   obtain⟨x,h1,h2⟩:=b7m l hl
   refine⟨x,?_,List.mem_cons_of_mem _ h2⟩
   rw[List.erase_cons]
   split
   ·exact h2
   ·exact List.mem_cons_of_mem _ h1
theorem c7d(l:List c8):decide (((b2E l).length:Int)<(l.length:Int)) = !decide l.Nodup:=by
 have hnd:(b2E l).Nodup:=(b7K l).imp fun{x y} h e=>by subst e;exact a2B _ h
 by_cases h:l.Nodup
 ·have:=b02 l (b2E l) h fun x hx=>(b0Z l x).2 hx
  rw[decide_eq_true h,decide_eq_false (by omega)];rfl
 ·obtain⟨x,h1,h2⟩:=b7m l h
  have:=b02 (b2E l) (l.erase x) hnd fun y hy=>by
   have hy:=(b0Z l y).1 hy
   by_cases e:y=x
   ·rw[e];exact h1
   ·exact(List.mem_erase_of_ne e).2 hy
  rw[List.length_erase_of_mem h2]at this
  have hp:0<l.length:=List.length_pos_of_mem h2
  rw[decide_eq_false h,decide_eq_true (by omega)];rfl
theorem a2W(l:List c8)(h:l.length<=1000000):w8 N l=some (!decide l.Nodup):=by
 unfold w8 L3 T7 S2 I4
 rw[b9,if_pos (by omega)]
 simp only[b9]
 unfold u0
 rw[if_pos (by omega)]
 simp only[b9]
 rw[c2c _ (by rw[List.length_mergeSort];exact h)]
 unfold t6
 simp only[b9,b8I,List.length_mergeSort,c7d]
theorem c2S(hN:L7<=N)(G:GStmt)(h:G.args.length<=50000):Q2 N G=some (G.args.map (·.1)):=by
 unfold Q2
 have go:∀(m f j:Nat),j+m=G.args.length->m<f->e9s N G.args (G.args.length:Int) (fun o=>some o) f (j:Int) ((G.args.take j).map (·.1))=some (G.args.map (·.1)):=by
  intro m
  induction m with
  |zero=>
   intro f j hj hf
   obtain⟨f,rfl⟩:∃q,f=q+1:=⟨f-1,by omega⟩
   obtain rfl:j=G.args.length:=by omega
   show e55 _ _ _ _ _ _ _=_
   unfold e55
   rw[a1f,d6,List.take_length]
  |succ m ih=>
   intro f j hj hf
   obtain⟨f,rfl⟩:∃q,f=q+1:=⟨f-1,by omega⟩
   have hl:j<G.args.length:=by omega
   show e55 _ _ _ _ _ _ _=_
   unfold e55
   rw[a0Z hl,d4,o9 _ hl,b9,b0O (by simp;omega),d4,O4 (m:=j+1) (by omega) (by omega)]
   rw[show(G.args.take j).map (·.1) ++ [G.args[j].1]=(G.args.take (j+1)).map (·.1) by rw[List.take_succ_eq_append_getElem hl,List.map_append];rfl]
   exact ih f (j+1) (by omega) (by omega)
 have:=go G.args.length N 0 (by omega) (by unfold L7 at hN;omega)
 simpa using this
theorem b0J(hN:L7<=N)(l:List c8)(h:l.length<=50000)(hl:∀q∈l,q.length<=50000):k8 N l ()=some (l.any fun q=>!E6 q):=by
 unfold k8 D2
 have hx:l.length<=maxLen:=by unfold maxLen;omega
 have:d2C N l (l.length:Int) (some (-1)) N 0=some (c2J (fun q=>!E6 q) l):=by
  refine N6 (fun _ _=>rfl) l hx (fun self i h r hr=>?_) (fun self=>?_) hN
  ·have hi:=hl _ (List.getElem_mem h)
   unfold c1E G8
   simp only[o9 l h,I5 hx h,hr,b9,Q0 hN _ (show l[i].length<=maxLen by unfold maxLen;omega)]
   rw[P9 h,d4,a1J]
  ·simp[c1E]
 rw[this,b9,a4U]
theorem b0K(hN:L7<=N)(l:List c8)(h:l.length<=50000)(hl:∀q∈l,q.length<=50000):l4 N l ()=some (l.any fun q=>!q.all T8):=by
 unfold l4 B6
 have hx:l.length<=maxLen:=by unfold maxLen;omega
 have:d2c N l (l.length:Int) (some (-1)) N 0=some (c2J (fun q=>!q.all T8) l):=by
  refine N6 (fun _ _=>rfl) l hx (fun self i h r hr=>?_) (fun self=>?_) hN
  ·have hi:=hl _ (List.getElem_mem h)
   unfold c1B Q1
   simp only[o9 l h,I5 hx h,hr,b9,a0H hN _ (show l[i].length<=maxLen by unfold maxLen;omega)]
   rw[P9 h,d4,a1J]
  ·simp[c1B]
 rw[this,b9,a4U]
theorem b9J{R:Type}(v k:R)(l:List c8):∀(xs:List c8) (j:Nat),l.drop j=xs->a2v (fun i x r=>if(l.take i).any (x == ·)=true then v else r) k xs j=if(∀i (h:i<l.length),j<=i->l[i]∉l.take i)then k else v
 |[],j,h=>by
  have hj:l.length<=j:=by simpa using h
  rw[if_pos fun i h1 h2=>absurd h1 (by omega)]
  rfl
 |x :: xs,j,h=>by
  have hj:j<l.length:=by
   apply Classical.byContradiction;intro hn
   rw[List.drop_eq_nil_of_le (by omega)]at h;cases h
  rw[List.drop_eq_getElem_cons hj]at h
  obtain⟨rfl,h2⟩:=List.cons.inj h
  show(if(l.take j).any (l[j] == ·)=true then v else a2v _ k xs (j+1))=_
  rw[b9J v k l xs (j+1) h2]
  by_cases hm:l[j]∈l.take j
  ·rw[if_pos (by rw[List.any_eq_true];exact⟨_,hm,by simp⟩),if_neg fun h=>h j hj (Nat.le_refl _) hm]
  ·rw[if_neg (by rw[List.any_eq_true];rintro⟨y,hy,e⟩;rw[beq_iff_eq]at e;exact hm (e▸hy))]
   have:(∀i (h:i<l.length),j+1<=i->l[i]∉l.take i)↔(∀i (h:i<l.length),j<=i->l[i]∉l.take i):=by
    refine⟨fun hh i h1 h2=>?_,fun hh i h1 h2=>hh i h1 (by omega)⟩
    by_cases e:i=j
    ·subst e;exact hm
    ·exact hh i h1 (by omega)
   simp only[this]
theorem c2W(l:List c8):(∀i (h:i<l.length),0<=i->l[i]∉l.take i)↔l.Nodup:=by
 rw[List.nodup_iff_pairwise_ne,List.pairwise_iff_getElem]
 refine⟨fun h i j hi hj hij e=>h j hj (by omega) ?_,fun h i hi _ hm=>?_⟩
 ·rw[<-e]
  exact List.mem_take_iff_getElem.2 ⟨i,by omega,rfl⟩
 ·obtain⟨j,hj,e⟩:=List.mem_take_iff_getElem.1 hm
  exact h j i (by omega) hi (by omega) e
theorem b8K{R:Type}(v k:R)(l:List c8):a2v (fun i x r=>if(l.take i).any (x == ·)=true then v else r) k l 0=if l.Nodup then k else v:=by
 rw[b9J v k l l 0 rfl]
 simp only[c2W]
end
section
variable{N:Nat}
section
variable(k n:Int)(t:c8)(ks:List c8)(gs:List GExpr)
theorem a0R:(GExpr.mk k t n ks gs).kind=k:=rfl
theorem a3g:(GExpr.mk k t n ks gs).text=t:=rfl
theorem a0E:(GExpr.mk k t n ks gs).number=n:=rfl
theorem a1m:(GExpr.mk k t n ks gs).keys=ks:=rfl
theorem L1:(GExpr.mk k t n ks gs).kids=gs:=rfl
end
def brk(k q i:Int):Bool:=(k==7&&(q==8||(q==7&&i==1)))||(k==8&&q==8)
theorem d9f{k n:Int}{t:c8}{ks:List c8}{es:List GExpr}{j:Nat}(h:j<es.length):O2 N (GExpr.mk k t n ks es) (j:Int)=some (brk k es[j].kind (j:Int))/\a0j N (GExpr.mk k t n ks es) (j:Int)=some (brk k es[j].kind (j:Int)):=by
 unfold O2 a0j brk
 simp only[a0R,L1,o9 _ h,b9]
 generalize (es[j].kind==8)=b1
 generalize (es[j].kind==7)=b2
 generalize ((j:Int)==1)=b3
 generalize (k==7)=b4
 generalize (k==8)=b5
 cases b1<;>cases b2<;>cases b3<;>cases b4<;>cases b5<;>simp
abbrev Ck:Type:=GExpr->Int->Option Int
theorem b7u{S R:Ck}{k n x:Int}{t:c8}{ks:List c8}{es:List GExpr}(hl:es.length<=50000)(hx:0<=x)(hx2:x<30)(hc:∀c∈es,∀y,0<=y->∃v,S c y=some v/\R c y=some v):∀(u f1 f2 j:Nat),j+u=es.length->u<f1->u<f2->
  ∃v,b5K N S x es (es.length:Int) k t n ks es (some 0) f1 (j:Int)=some v/\a4o N R (if k=7 then x else x+1) es (es.length:Int) k t n ks es (some 0) f2 (j:Int)=some v
 |0,f1,f2,j,hj,h1,h2=>by
  obtain⟨f1,rfl⟩:∃q,f1=q+1:=⟨f1-1,by omega⟩
  obtain⟨f2,rfl⟩:∃q,f2=q+1:=⟨f2-1,by omega⟩
  obtain rfl:j=es.length:=by omega
  refine⟨0,?_,?_⟩
  ·show b5L _ _ _ _ _ _ _ _ _ _ _ _ _=_
   unfold b5L
   rw[a1f,d6]
  ·show b6F _ _ _ _ _ _ _ _ _ _ _ _ _=_
   unfold b6F
   rw[a1f,d6]
 |u+1,f1,f2,j,hj,h1,h2=>by
  obtain⟨f1,rfl⟩:∃q,f1=q+1:=⟨f1-1,by omega⟩
  obtain⟨f2,rfl⟩:∃q,f2=q+1:=⟨f2-1,by omega⟩
  have h:j<es.length:=by omega
  obtain⟨v,ih1,ih2⟩:=b7u (n:=n) (t:=t) (ks:=ks) (k:=k) hl hx hx2 hc u f1 f2 (j+1) (by omega) (by omega) (by omega)
  obtain⟨e1,e2⟩:=d9f (N:=N) (k:=k) (n:=n) (t:=t) (ks:=ks) h
  have hw:∀y:Int,0<=y->y<40->IntKind.i64.wrap (y+1)=y+1:=fun y h0 h1=>D8 (by omega) (by omega)
  have eS:b5K N S x es (es.length:Int) k t n ks es (some 0) (f1+1) (j:Int)=b5L N S x es (es.length:Int) k t n ks es (some 0) (b5K N S x es (es.length:Int) k t n ks es (some 0) f1) (j:Int):=rfl
  have eR:a4o N R (if k=7 then x else x+1) es (es.length:Int) k t n ks es (some 0) (f2+1) (j:Int)=b6F N R (if k=7 then x else x+1) es (es.length:Int) k t n ks es (some 0) (a4o N R (if k=7 then x else x+1) es (es.length:Int) k t n ks es (some 0) f2) (j:Int):=rfl
  rw[eS,eR]
  unfold b5L b6F
  rw[a0Z h,d4,d4,o9 _ h]
  simp only[b9,e1,e2,GExpr.eta,O4 (n:=(j:Int)+1) (m:=j+1) (by omega) (by omega),ih1,ih2,hw x hx (by omega),hw (x+1) (by omega) (by omega)]
  have fin:∀y,0<=y->∃v',(f5 (S es[j] y) fun t37=>br (t37 !=0) (some t37) (some v))=some v'/\(f5 (R es[j] y) fun t71=>br (t71 !=0) (some t71) (some v))=some v':=fun y hy=>by
   obtain⟨q,q1,q2⟩:=hc _ (List.getElem_mem h) y hy
   rw[q1,q2,b9]
   cases (q !=0)
   ·exact⟨v,d6 ..,d6 ..⟩
   ·exact⟨q,d4 ..,d4 ..⟩
  by_cases h7:k=7
  ·rw[if_pos h7,show(k !=7)=false by simpa using h7,d6,hw x hx (by omega)]
   cases brk k es[j].kind (j:Int)with
   |true=>simp only[d4];exact fin _ (by omega)
   |false=>simp only[d6];exact fin _ (by omega)
  ·rw[if_neg h7,show(k !=7)=true by simpa using h7,d4,hw (x+1) (by omega) (by omega)]
   cases brk k es[j].kind (j:Int)with
   |true=>simp only[d4];exact fin _ (by omega)
   |false=>simp only[d6];exact fin _ (by omega)
theorem b9Y(hN:L7<=N){S R:Ck}{k n x:Int}{t:c8}{ks:List c8}{es:List GExpr}(hl:es.length<=50000)(hx:0<=x)(hx2:x<30)(hc:∀c∈es,∀y,0<=y->∃v,S c y=some v/\R c y=some v):
  ∃v,b5K N S x es (es.length:Int) k t n ks es (some 0) N 0=some v/\a4o N R (if k=7 then x else x+1) es (es.length:Int) k t n ks es (some 0) N 0=some v:=
 b7u hl hx hx2 hc es.length N N 0 (by omega) (by unfold L7 at hN;omega) (by unfold L7 at hN;omega)
theorem c9A(hN:L7<=N)(l:List c8)(hl:l.length<=50000)(hls:∀q∈l,q.length<=50000)(k:Bool):d5y N l (l.length:Int) (some k) N 0=some (l.all (fun q=>q.all T8)&&k):=by
 have hx:l.length<=maxLen:=by unfold maxLen;omega
 rw[<-a0D (fun q=>q.all T8) k l 0]
 refine N6 (fun _ _=>rfl) l hx (fun self i h r hr=>?_) (fun self=>?_) hN
 ·have hi:=hls _ (List.getElem_mem h)
  unfold e1r
  simp only[o9 l h,I5 hx h,hr,b9,Y1 hN _ (show l[i].length<=maxLen by unfold maxLen;omega)]
  rw[P9 h,d4,a1J]
 ·simp[e1r]
theorem c9z(hN:L7<=N){R:Ck}(l:List c8)(hl:l.length<=50000)(k:Int):c4V N R l (l.length:Int) l (some k) N 0=some (if l.Nodup then k else 7):=by
 have hx:l.length<=maxLen:=by unfold maxLen;omega
 rw[<-b8K 7 k l]
 refine N6 (fun _ _=>rfl) l hx (fun self i h r hr=>?_) (fun self=>?_) hN
 ·unfold d8m
  simp only[o9 l h,I5 hx h,hr,b9,b4j l (Nat.le_of_lt h),Q8 hN (l.take i) (by rw[List.length_take];omega)]
  rw[P9 h,d4,a1J]
 ·simp[d8m]
theorem a7W(hN:L7<=N){x:Int}{R:Ck}{t:c8}(ht:t.length<=50000)(n:Int):
  (∃v,l5 N (.mk 1 t 0 [] []) x=some v/\m7 N R (.mk 1 t 0 [] []) x=some v)/\
  (∃v,l5 N (.mk 2 [] n [] []) x=some v/\m7 N R (.mk 2 [] n [] []) x=some v)/\
  (E6 t=true->∃v,l5 N (.mk 3 t 0 [] []) x=some v/\m7 N R (.mk 3 t 0 [] []) x=some v):=by
 have h1:=a0H hN t (show t.length<=maxLen by unfold maxLen;omega)
 have h2:=Y1 hN t (show t.length<=maxLen by unfold maxLen;omega)
 have h3:=a0H hN [] (show([]:c8).length<=maxLen by simp)
 have h4:=Y1 hN [] (show([]:c8).length<=maxLen by simp)
 have n1:=Q0 hN t (show t.length<=maxLen by unfold maxLen;omega)
 have n2:=a0z hN t (show t.length<=maxLen by unfold maxLen;omega)
 have k1:=b0K hN [] (by simp) (by simp)
 have k2:∀k,d5y N [] 0 (some k) N 0=some k:=fun k=>c9A hN [] (by simp) (by simp) k
 have k3:∀k,c4V N R [] 0 [] (some k) N 0=some k:=fun k=>by simpa using c9z hN (R:=R) [] (by simp) k
 have k4:∀y k t n ks,a4o N R y [] 0 k t n ks [] (some 0) N 0=some 0:=fun y k t n ks=>by
  obtain⟨f,rfl,_⟩:=a7Y hN
  show b6F _ _ _ _ _ _ _ _ _ _ _ _ _=_
  simp[b6F]
 have k5:=a2W (N:=N) [] (by simp)
 refine⟨?_,?_,fun hn=>?_⟩
 ·unfold l5 m7 N8
  simp only[a0R,a3g,a0E,a1m,L1]
  by_cases hx:x>=30
  ·simp[decide_eq_true hx]
  ·simp[decide_eq_false hx,h1,h2,k1,k2,k3,k4,k5]
   cases t.all T8<;>cases t<;>simp[k2,k3,k4,O9]
 ·unfold l5 m7 N8
  simp only[a0R,a3g,a0E,a1m,L1]
  by_cases hx:x>=30
  ·simp[decide_eq_true hx]
  ·simp[decide_eq_false hx,h3,h4,k1,k2,k3,k4,k5,O9]
   by_cases n0:n=0
   ·subst n0;simp[k2,k3,k4]
   ·have nn:(n !=0)=true:=by simpa using n0
    by_cases n9:0<=n/\n<=999999999
    ·have e1:¬n<0:=by omega
     have e2:¬999999999<n:=by omega
     simp[nn,n9.1,n9.2,e1,e2,k2,k3,k4]
    ·by_cases e1:n<0
     ·have e3:¬0<=n:=by omega
      simp[nn,e1,e3,k2,k3,k4]
     ·have e2:999999999<n:=by omega
      have e3:¬n<=999999999:=by omega
      simp[nn,e1,e2,e3,k2,k3,k4]
 ·unfold l5 m7 N8
  simp only[a0R,a3g,a0E,a1m,L1]
  by_cases hx:x>=30
  ·simp[decide_eq_true hx]
  ·simp[decide_eq_false hx,h1,h2,n1,n2,hn,k1,k2,k3,k4,k5,O9]
   cases t.all T8<;>cases t<;>simp[k2,k3,k4,O9]
theorem c2j(hN:L7<=N){x:Int}{R:Ck}{k:Int}(hk:k=4\/k=5\/k=7\/k=8)(es:List GExpr)(h2:k≠4->es.length=2){v:Int}
  (hv:a4o N R (if k=7 then x else x+1) es (es.length:Int) k [] 0 [] es (some 0) N 0=some v) (h0:0<=x):
  l5 N (.mk k [] 0 [] es) x=some (if x>=30 then 2 else 0)/\m7 N R (.mk k [] 0 [] es) x=some (if x>=30 then 2 else v):=by
 have h3:=a0H hN [] (show([]:c8).length<=maxLen by simp)
 have h4:=Y1 hN [] (show([]:c8).length<=maxLen by simp)
 have k1:=b0K hN [] (by simp) (by simp)
 have k2:∀k,d5y N [] 0 (some k) N 0=some k:=fun k=>c9A hN [] (by simp) (by simp) k
 have k3:∀k,c4V N R [] 0 [] (some k) N 0=some k:=fun k=>by simpa using c9z hN (R:=R) [] (by simp) k
 have k5:=a2W (N:=N) [] (by simp)
 unfold l5 m7 N8
 simp only[a0R,a3g,a0E,a1m,L1]
 by_cases hx:x>=30
 ·rcases hk with rfl|rfl|rfl|rfl<;>simp[decide_eq_true hx,hx]
 ·have hw:IntKind.i64.wrap (x+1)=x+1:=D8 (by omega) (by omega)
  rcases hk with rfl|rfl|rfl|rfl
  ·simp at hv
   simp[decide_eq_false hx,hx,h3,h4,k1,k2,k3,k5,O9,hw,hv]
  ·have:=h2 (by decide)
   simp[this]at hv
   simp[decide_eq_false hx,hx,h3,h4,k1,k2,k3,k5,O9,hw,hv,this]
  ·have:=h2 (by decide)
   simp[this]at hv
   simp[decide_eq_false hx,hx,h3,h4,k1,k2,k3,k5,O9,hw,hv,this]
  ·have:=h2 (by decide)
   simp[this]at hv
   simp[decide_eq_false hx,hx,h3,h4,k1,k2,k3,k5,O9,hw,hv,this]
theorem c2i(hN:L7<=N){x:Int}{R:Ck}(ks:List c8)(es:List GExpr)(hl:ks.length=es.length)(hp:0<es.length)(he:es.length<=50000)(hks:∀q∈ks,q.length<=50000){v:Int}
  (hv:a4o N R (x+1) es (es.length:Int) 6 [] 0 ks es (some 0) N 0=some v) (h0:0<=x):
  let al:Int:=if x>=30 then 2 else if(ks.all fun q=>q.all T8)=true then(if ks.Nodup then 0 else 7)else 3
  l5 N (.mk 6 [] 0 ks es) x=some al/\m7 N R (.mk 6 [] 0 ks es) x=some (if al=0 then v else al):=by
 intro al
 have h3:=a0H hN [] (show([]:c8).length<=maxLen by simp)
 have h4:=Y1 hN [] (show([]:c8).length<=maxLen by simp)
 have k1:=b0K hN ks (by omega) hks
 have k2:∀k,d5y N ks (ks.length:Int) (some k) N 0=some (ks.all (fun q=>q.all T8)&&k):=fun k=>c9A hN ks (by omega) hks k
 have k3:∀k,c4V N R ks (ks.length:Int) ks (some k) N 0=some (if ks.Nodup then k else 7):=fun k=>c9z hN (R:=R) ks (by omega) k
 have k5:=a2W (N:=N) ks (by omega)
 have e1:((es.length:Int) !=(es.length:Int))=false:=bne_self_eq_false _
 have e2:((es.length:Int)==0)=false:=by rw[beq_eq_false_iff_ne];omega
 have e3:decide ((es.length:Int)>0)=true:=decide_eq_true (by omega)
 have e4:((es.length:Int)==(es.length:Int))=true:=beq_self_eq_true _
 have any_all:(ks.any fun q=>!q.all T8) = !(ks.all fun q=>q.all T8):=by
  rw[List.all_eq_not_any_not];simp
 unfold l5 m7 N8
 simp only[a0R,a3g,a0E,a1m,L1]
 by_cases hx:x>=30
 ·have hal:al=2:=if_pos hx
  rw[hal]
  simp[decide_eq_true hx]
 ·have hw:IntKind.i64.wrap (x+1)=x+1:=D8 (by omega) (by omega)
  have hal:al=if(ks.all fun q=>q.all T8)=true then(if ks.Nodup then 0 else 7)else 3:=if_neg hx
  rw[hal]
  rw[hl]at k2 k3
  simp only[decide_eq_false hx,d6,hl,h3,h4,k1,any_all,k2,k5,O9,hw,hv,k3,b9,e1,e2,e3,e4,show((6:Int)==1)=false by decide,show((6:Int)==2)=false by decide,show((6:Int)==3)=false by decide,show((6:Int)==4)=false by decide,show((6:Int)==5)=false by decide,show((6:Int)==6)=true by decide,show((6:Int)==7)=false by decide,show((6:Int)==8)=false by decide,show((6:Int) !=1)=true by decide,show((6:Int) !=2)=true by decide,show((6:Int) !=3)=true by decide,show((6:Int) !=6)=false by decide,show((0:Int) !=0)=false by decide,show decide ((6:Int)<1)=false by decide,show decide ((6:Int)>8)=false by decide,d4,List.all_nil,Bool.not_true,Bool.not_false,show(([]:c8)==[])=true by decide]
  cases (ks.all fun q=>q.all T8)with
  |false=>simp
  |true=>
   by_cases hd:ks.Nodup<;>simp[hd]
theorem c6I{x:Int}{R:Ck}{k:Int}(hk:k=4\/k=5\/k=7\/k=8)(es:List GExpr)(hx:x>=30):l5 N (.mk k [] 0 [] es) x=some 2/\m7 N R (.mk k [] 0 [] es) x=some 2:=by
 unfold l5 m7
 simp only[a0R]
 rcases hk with rfl|rfl|rfl|rfl<;>simp[decide_eq_true hx]
theorem c2h{x:Int}{R:Ck}(ks:List c8)(es:List GExpr)(hx:x>=30):l5 N (.mk 6 [] 0 ks es) x=some 2/\m7 N R (.mk 6 [] 0 ks es) x=some 2:=by
 unfold l5 m7
 simp only[a0R]
 simp[decide_eq_true hx]
theorem c9B(hN:L7<=N){S:Ck}{x k n:Int}{t:c8}{ks:List c8}:b5K N S x [] ((([]:List GExpr).length:Nat):Int) k t n ks [] (some 0) N 0=some 0:=by
 obtain⟨f,rfl,_⟩:=a7Y hN
 show b5L _ _ _ _ _ _ _ _ _ _ _ _ _=_
 simp[b5L]
theorem b35{S:Ck}{e:GExpr}{x al v:Int}(h:l5 N e x=some al)(hv:al=0->b5K N S x e.kids (e.kids.length:Int) e.kind e.text e.number e.keys e.kids (some 0) N 0=some v):C1 N S e x=some (if al=0 then v else al):=by
 unfold C1
 rw[GExpr.eta,h,b9]
 by_cases ha:al=0
 ·rw[if_pos ha,hv ha,ha];simp
 ·rw[if_neg ha,show(al !=0)=true by simpa using ha,d4]
theorem a70(hN:L7<=N):∀(k:Nat) (e:GExpr),EOk k e->∀(n:Nat),k<=n->∀x:Int,0<=x->∃v,y0 N n e x=some v/\b2N N n e x=some v
 |0,e,h,_,_,_,_=>h.elim
 |k+1,e,h,n,hn,x,hx=>by
  obtain⟨n,rfl⟩:∃q,n=q+1:=⟨n-1,by omega⟩
  have kd:∀es:List GExpr,(∀c∈es,EOk k c)->∀c∈es,∀y:Int,0<=y->∃v,y0 N n c y=some v/\b2N N n c y=some v:=fun es hes c hc y hy=>a70 hN k c (hes c hc) n (by omega) y hy
  show ∃v,C1 N (y0 N n) e x=some v/\m7 N (b2N N n) e x=some v
  have leaf:(∃v,l5 N e x=some v/\m7 N (b2N N n) e x=some v)->e.kids=[]->∃v,C1 N (y0 N n) e x=some v/\m7 N (b2N N n) e x=some v:=fun⟨v,h1,h2⟩ h3=>by
   refine⟨v,?_,h2⟩
   rw[b35 (v:=0) h1 (fun _=>by rw[h3];exact c9B hN)]
   by_cases hv:v=0
   ·rw[if_pos hv,hv]
   ·rw[if_neg hv]
  have node:∀(q:Int) (es:List GExpr),(q=4\/q=5\/q=7\/q=8)->(q≠4->es.length=2)->es.length<=50000->e = .mk q [] 0 [] es->(∀c∈es,EOk k c)->∃v,C1 N (y0 N n) e x=some v/\m7 N (b2N N n) e x=some v:=fun q es hq h2 hl he hc=>by
   subst he
   by_cases hx30:x>=30
   ·obtain⟨v1,v2⟩:=c6I (N:=N) (R:=b2N N n) hq es hx30
    rw[b35 (v:=0) v1 (fun h=>absurd h (by decide)),v2]
    exact⟨2,rfl,rfl⟩
   ·obtain⟨v,s1,r1⟩:=b9Y hN (k:=q) (n:=0) (t:=[]) (ks:=[]) hl hx (by omega) (kd es hc)
    obtain⟨v1,v2⟩:=c2j hN hq es h2 r1 hx
    rw[if_neg hx30]at v1 v2
    exact⟨v,by rw[b35 v1 (fun _=>s1)];simp,v2⟩
  have two:∀a b:GExpr,EOk k a->EOk k b->∀c ∈ [a,b],EOk k c:=fun a b ha hb c hc=>by
   rcases List.mem_cons.1 hc with rfl|hc
   ·exact ha
   ·rw[List.mem_singleton.1 hc];exact hb
  rcases h with⟨t,h1,rfl⟩|⟨m,rfl⟩|⟨t,h1,h2,rfl⟩|⟨es,h1,h2,h3⟩|⟨a,b,h1,h2,h3⟩|⟨ks,es,h0,hp,h1,h4,rfl,h3⟩|⟨a,b,h1,h2,h3⟩|⟨a,b,h1,h2,h3⟩
  ·exact leaf (a7W hN h1 0).1 rfl
  ·exact leaf (a7W hN (t:=[]) (by simp) m).2.1 rfl
  ·exact leaf ((a7W hN h1 0).2.2 h2) rfl
  ·exact node 4 es (.inl rfl) (fun h=>absurd rfl h) h1 h2 h3
  ·exact node 5 [a,b] (.inr (.inl rfl)) (fun _=>rfl) (by simp) h1 (two a b h2 h3)
  ·by_cases hx30:x>=30
   ·obtain⟨v1,v2⟩:=c2h (N:=N) (R:=b2N N n) ks es hx30
    rw[b35 (v:=0) v1 (fun h=>absurd h (by decide)),v2]
    exact⟨2,rfl,rfl⟩
   ·obtain⟨v,s1,r1⟩:=b9Y hN (k:=6) (n:=0) (t:=[]) (ks:=ks) h1 hx (by omega) (kd es h3)
    obtain⟨v1,v2⟩:=c2i hN ks es h0 hp h1 h4 (by simpa using r1) hx
    exact⟨_,b35 v1 (fun _=>s1),v2⟩
  ·exact node 7 [a,b] (.inr (.inr (.inl rfl))) (fun _=>rfl) (by simp) h1 (two a b h2 h3)
  ·exact node 8 [a,b] (.inr (.inr (.inr rfl))) (fun _=>rfl) (by simp) h1 (two a b h2 h3)
end
end Go.Proofs.YtolpmfhiegpohaaGreatDoor
