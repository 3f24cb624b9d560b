/- % -/
import Derived.Test.YtolpmfhiegpohaaGreatDoorQLPa5
import Derived.Test.YtolpmfhiegpohaaGreatDoorQBmJ
namespace Go.Proofs.YtolpmfhiegpohaaGreatDoor
set_option linter.unusedVariables false
set_option linter.unusedSimpArgs false
open Go Go.RowKit
noncomputable section
variable{N:Nat}
structure Wc(N:Nat)(w:List A6)(e:Int):Prop where
 hN:I1<=N
 wl:w.length<=50000
 wok:∀t∈w,a42 t
 e0:0<=e
abbrev KP:Type:=Int->Int->Bool->Int->List A6->Mk->List d9->Option (Int×Int×Bool×Int×List A6×Mk×List d9)
section
variable{w:List A6}{e:Int}
theorem d78(V:Wc N w e){i:Nat}{q:d9}(h:X1 w i=some q){k n m a d:Int}{t tx s:d9}:
  D5 N k t tx n s m a (w.drop i) e d=some (.ok (k,t,tx,n,s,m,a,w.drop (i+1),e,d,[q])):=by
 unfold D5;simp only[a9I V.hN V.wok h,o3,C2,p7,show Zf [q].length .str=true by simp[Ty.sz],d7]
theorem d77(V:Wc N w e){i:Nat}(h:X1 w i=none){k n m a d:Int}{t tx s:d9}:
  D5 N k t tx n s m a (w.drop i) e d=some (.error (atS w i e)):=by
 unfold D5;simp only[a6e V.hN V.wok h,k7,C2,p7]
theorem d8a(V:Wc N w e){i:Nat}{q:d9}(h:X1 w i=some q){k n m a d:Int}{t tx s:d9}{ks:List d9}(hk:ks.length<=50000):
  F1 N k t tx n s m a ks (w.drop i) e d=some (.ok (k,t,tx,n,s,m,a,ks ++ [q],w.drop (i+1),e,d)):=by
 unfold F1;simp only[a9I V.hN V.wok h,o3,C2,p7,b0i hk,d7]
theorem d79(V:Wc N w e){i:Nat}(h:X1 w i=none){k n m a d:Int}{t tx s:d9}{ks:List d9}:
  F1 N k t tx n s m a ks (w.drop i) e d=some (.error (atS w i e)):=by
 unfold F1;simp only[a6e V.hN V.wok h,k7,C2,p7]
def c7A(N:Nat)(k0 self:KP)(a e:Int)(b:Bool)(p:Int)(w:List A6)(M:Mk)(ks:List d9):Option (Int×Int×Bool×Int×List A6×Mk×List d9):=j8 (y7 N a e b p w M) fun t23=>br (Zf (ks.length + [t23.1].length) .str) (j8 (l5 N (4:Int) ([44]:d9) t23.2.1 t23.2.2.1 t23.2.2.2.1 t23.2.2.2.2.1 t23.2.2.2.2.2.1 t23.2.2.2.2.2.2) fun t29=>br (!t29.1) (k0 t29.2.1 t29.2.2.1 t29.2.2.2.1 t29.2.2.2.2.1 t29.2.2.2.2.2.1 t29.2.2.2.2.2.2 (ks ++ [t23.1])) (self t29.2.1 t29.2.2.1 t29.2.2.2.1 t29.2.2.2.2.1 t29.2.2.2.2.2.1 t29.2.2.2.2.2.2 (ks ++ [t23.1]))) none
theorem a4v(k0 self:KP)(a e:Int)(b:Bool)(p:Int)(w:List A6)(M:Mk)(ks:List d9):N8 N k0 self a e b p w M ks =
  br (!b) (br (decide ((ks.length:Int)>(0:Int))) (c7A N k0 self a e b p w M ks) (j8 (F9 N (w,a,e,b,p) (4:Int) ([41]:d9)) fun t18=>br (!t18) (c7A N k0 self a e b p w M ks) (k0 a e b p w M ks))) (k0 a e b p w M ks):=rfl
theorem b9e(V:Wc N w e){i:Nat}{q:d9}(h:X1 w i=some q){k0 self:KP}{p:Int}{M:Mk}{ks:List d9}(hk:ks.length<=50000):c7A N k0 self (i:Int) e false p w M ks =
  (j8 (l5 N (4:Int) ([44]:d9) ((i+1:Nat):Int) e false p w M) fun t29=>br (!t29.1)
   (k0 t29.2.1 t29.2.2.1 t29.2.2.2.1 t29.2.2.2.2.1 t29.2.2.2.2.2.1 t29.2.2.2.2.2.2 (ks ++ [q]))
   (self t29.2.1 t29.2.2.1 t29.2.2.2.1 t29.2.2.2.2.1 t29.2.2.2.2.2.1 t29.2.2.2.2.2.2 (ks ++ [q]))):=by
 unfold c7A;rw[a1M V.hN V.wl V.wok h,a8];simp only[b0i hk,d7]
theorem c9z(V:Wc N w e){i:Nat}(h:X1 w i=none){k0 self:KP}{p:Int}{M:Mk}{ks:List d9}(hk:ks.length<=50000):c7A N k0 self (i:Int) e false p w M ks=k0 (i:Int) e true (atS w i e) w M (ks ++ [[]]):=by
 unfold c7A;rw[a5g V.hN V.wok h,a8];simp only[b0i hk,d7,S3,a8,Bool.not_false]
theorem c9B{α:Type}{l:List α}(h:l ≠ []):decide ((l.length:Int)>0)=true:=decide_eq_true (by have:=List.length_pos_iff.2 h;omega)
theorem c0W(V:Wc N w e){M:Mk}{p d k n m a:Int}{t tx s:d9}
  {K:List A6->Int->Int->Int->d9->d9->Int->d9->Int->Int->List d9->Option (Except Int (List A6×Int×Int×Int×d9×d9×List d9×Int×d9×Int×Int))} {k0:KP}:
  ∀(u i f1 f2:Nat) (ks:List d9),i+u=w.length->u<f1->u<f2->ks ≠ []->ks.length<=i->(∀q∈ks,w9 q=true)->
  let SS:=c19 N K f1 (w.drop i) e d k t tx n s m a ks
  let RR:=j8 (l5 N (4:Int) ([44]:d9) (i:Int) e false p w M) fun t29=>br (!t29.1)
   (k0 t29.2.1 t29.2.2.1 t29.2.2.2.1 t29.2.2.2.2.1 t29.2.2.2.2.2.1 t29.2.2.2.2.2.2 ks)
   (r8 N k0 f2 t29.2.1 t29.2.2.1 t29.2.2.2.1 t29.2.2.2.2.1 t29.2.2.2.2.2.1 t29.2.2.2.2.2.2 ks)
  (∃(j:Nat) (ls:List d9),i<=j/\j<=w.length/\ls.length<=j/\(∀q∈ls,w9 q=true)/\SS=K (w.drop j) e d k t tx n s m a ls/\RR=k0 (j:Int) e false p w M ls)\/
  (∃c,SS=some (.error c)/\∃b ys,RR=k0 b e true c w M ys)
 |u,i,f1,f2,ks,hu,h1,h2,hne,hkl,hks=>by
  obtain⟨f1,rfl⟩:∃q,f1=q+1:=⟨f1-1,by omega⟩;obtain⟨f2,rfl⟩:∃q,f2=q+1:=⟨f2-1,by omega⟩;intro SS RR;have hwl:=V.wl;have eS:SS=a9Z N K (c19 N K f1) (w.drop i) e d k t tx n s m a ks:=rfl;unfold a9Z at eS;have eR:RR=j8 _ _:=rfl;cases hb:N4 w i 4 [44]with
  |false=>
   rw[U3 hb]at eS;rw[p8 hb]at eR;simp only[a8,d6,Bool.not_false,d7]at eS eR;exact .inl ⟨i,ks,by omega,by omega,hkl,hks,eS,eR⟩
  |true=>
   have hil:=I5 hb;rw[X6 hb]at eS;rw[F0 V.wl hb]at eR;simp only[a8,d7,Bool.not_true,d6]at eS eR;have eR2:RR=N8 N k0 (r8 N k0 f2) ((i+1:Nat):Int) e false p w M ks:=eR;rw[a4v,Bool.not_false,d7,c9B hne,d7]at eR2;cases hq:X1 w (i+1)with
   |none=>
    rw[d79 V hq,k7]at eS;rw[c9z V hq (by omega)]at eR2;exact .inr ⟨_,eS,_,_,eR2⟩
   |some q=>
    have hql:=(a0r hq).1;rw[d8a V hq (by omega),o3]at eS;rw[b9e V hq (by omega)]at eR2;have hqn:w9 q=true:=by obtain⟨_,_,h,rfl⟩:=a0r hq;exact h
    have ih:=c0W V (M:=M) (p:=p) (d:=d) (k:=k) (n:=n) (m:=m) (a:=a) (t:=t) (tx:=tx) (s:=s) (K:=K) (k0:=k0) (w.length-(i+2)) (i+2) f1 f2 (ks ++ [q]) (by omega) (by omega) (by omega) (by simp) (by simp;omega) (fun y hy=>by
     rcases List.mem_append.1 hy with hy|hy
     ·exact hks y hy
     ·rw[List.mem_singleton.1 hy];exact hqn)
    rw[eS,eR2];rcases ih with⟨j,ls,u1,u2,u3,u4,u5,u6⟩|⟨c,u1,b,ys,u2⟩
    ·exact .inl ⟨j,ls,by omega,u2,u3,u4,u5,u6⟩
    ·exact .inr ⟨c,u1,b,ys,u2⟩
 termination_by u=>u
theorem a7u{f:Nat}(hf:N=f+1){k0:KP}{a e p:Int}{b:Bool}{w:List A6}{M:Mk}{ks:List d9}:r8 N k0 N a e b p w M ks=N8 N k0 (r8 N k0 f) a e b p w M ks:=by
 subst hf;rfl
theorem d48(V:Wc N w e){M:Mk}{p d k n m a:Int}{t tx s:d9}{i:Nat}(hi:i<=w.length):
  let SS:=S7 N ([41]:d9) true (w.drop i) e d k t tx n s m a
  let RR:=r8 N (fun o0_0_1 o0_0_2 o0_0_3 o0_0_4 o0_w1 o0_w2 o0_w1003=>
   j8 (k8 N ([41]:d9) o0_0_1 o0_0_2 o0_0_3 o0_0_4 o0_w1 o0_w2) fun t32=>
   some (t32.1,t32.2.1,t32.2.2.1,t32.2.2.2.1,t32.2.2.2.2.1,t32.2.2.2.2.2,o0_w1003)) N (i:Int) e false p w M ([]:List d9)
  (∃(j:Nat) (ls:List d9),i<j/\j<=w.length/\ls.length<=j/\(∀q∈ls,w9 q=true)/\SS=some (.ok (w.drop j,e,d,k,t,tx,ls,n,s,m,a))/\RR=some ((j:Int),e,false,p,w,M,ls))\/
  (∃c,SS=some (.error c)/\∃b ys,RR=some (b,e,true,c,w,M,ys)):=by
 intro SS RR;obtain⟨f,hf,hf2⟩:=a4k V.hN;have hwl:=V.wl;have eS:SS=S7 N ([41]:d9) true (w.drop i) e d k t tx n s m a:=rfl;have eR:RR=r8 N _ N (i:Int) e false p w M []:=rfl;unfold S7 at eS;rw[d7]at eS;rw[a7u hf,a4v,Bool.not_false,d7,show decide (((([]:List d9).length:Nat):Int)>0)=false by decide,d6,Y8,a8]at eR;cases hb:N4 w i 4 [41]with
 |true=>
  have hbl:=I5 hb;rw[X6 hb]at eS;rw[hb]at eR;simp only[a8,d7,Bool.not_true,d6,x7 V.wl hb]at eS eR;exact .inl ⟨i+1,[],by omega,by omega,by simp,by simp,eS,eR⟩
 |false=>
  rw[U3 hb]at eS;rw[hb]at eR;simp only[a8,d6,Bool.not_false,d7]at eS eR;cases hq:X1 w i with
  |none=>
   rw[d77 V hq,k7]at eS;rw[c9z V hq (by simp),G8,a8]at eR;exact .inr ⟨_,eS,_,_,eR⟩
  |some q=>
   have hql:=(a0r hq).1;have hqn:w9 q=true:=by obtain⟨_,_,h,rfl⟩:=a0r hq;exact h
   rw[d78 V hq,o3]at eS;rw[b9e V hq (by simp),List.nil_append]at eR;have lp:=c0W V (M:=M) (p:=p) (d:=d) (k:=k) (n:=n) (m:=m) (a:=a) (t:=t) (tx:=tx) (s:=s)
    (K:=fun o0_0_0 o0_0_1 o0_0_2 o0_1_0 o0_1_1 o0_1_2 o0_1_5 o0_1_6 o0_1_7 o0_1_12 o0_w101500=>
     m8 (k6 N ([41]:d9) o0_0_0 o0_0_1 o0_0_2) fun t22=>
     some (.ok (t22.1,t22.2.1,t22.2.2,o0_1_0,o0_1_1,o0_1_2,o0_w101500,o0_1_5,o0_1_6,o0_1_7,o0_1_12)))
    (k0:=fun o0_0_1 o0_0_2 o0_0_3 o0_0_4 o0_w1 o0_w2 o0_w1003=>
     j8 (k8 N ([41]:d9) o0_0_1 o0_0_2 o0_0_3 o0_0_4 o0_w1 o0_w2) fun t32=>
     some (t32.1,t32.2.1,t32.2.2.1,t32.2.2.2.1,t32.2.2.2.2.1,t32.2.2.2.2.2,o0_w1003))
    (w.length-(i+1)) (i+1) N f [q] (by omega) (by omega) (by omega) (by simp) (by simp) (fun y hy=>by rw[List.mem_singleton.1 hy];exact hqn)
   rw[eS,eR];rcases lp with⟨j,ls,u1,u2,u3,u4,u5,u6⟩|⟨c,u1,b,ys,u2⟩
   ·rw[u5,u6];cases hs:N4 w j 4 [41]with
    |true=>
     have hsl:=I5 hs;rw[a0P hs,x7 V.wl hs,o3,a8];exact .inl ⟨j+1,ls,by omega,by omega,by omega,u4,rfl,rfl⟩
    |false=>
     rw[a0O hs,W9 hs,k7,a8];exact .inr ⟨_,rfl,_,_,rfl⟩
   ·rw[u1,u2,G8,a8];exact .inr ⟨_,rfl,_,_,rfl⟩
abbrev Ag:Type:=d9×GExpr
abbrev KA:Type:=Int->Int->Bool->Int->List A6->Mk->List Ag->Option (Int×Int×Bool×Int×List A6×Mk×List Ag)
noncomputable def c2J(N:Nat)(x:Int)(k0 self:KA)(a e:Int)(b:Bool)(p:Int)(w:List A6)(M:Mk)(ag:List Ag):Option (Int×Int×Bool×Int×List A6×Mk×List Ag):=j8 (y7 N a e b p w M) fun t25=>j8 (k8 N ([61]:d9) t25.2.1 t25.2.2.1 t25.2.2.2.1 t25.2.2.2.2.1 t25.2.2.2.2.2.1 t25.2.2.2.2.2.2) fun t28=>j8 (y6 N N x t28.1 t28.2.1 t28.2.2.1 t28.2.2.2.1 t28.2.2.2.2.1 t28.2.2.2.2.2) fun t31=>br (Zf (ag.length + [(t25.1,Ze t31.1)].length) (.pr .str (.rc .expr))) (j8 (l5 N (4:Int) ([44]:d9) t31.2.1 t31.2.2.1 t31.2.2.2.1 t31.2.2.2.2.1 t31.2.2.2.2.2.1 t31.2.2.2.2.2.2) fun t38=>br (!t38.1) (k0 t38.2.1 t38.2.2.1 t38.2.2.2.1 t38.2.2.2.2.1 t38.2.2.2.2.2.1 t38.2.2.2.2.2.2 (ag ++ [(t25.1,Ze t31.1)])) (self t38.2.1 t38.2.2.1 t38.2.2.2.1 t38.2.2.2.2.1 t38.2.2.2.2.2.1 t38.2.2.2.2.2.2 (ag ++ [(t25.1,Ze t31.1)]))) none
theorem b8M(x:Int)(k0 self:KA)(a e:Int)(b:Bool)(p:Int)(w:List A6)(M:Mk)(ag:List Ag):R5 N x k0 self a e b p w M ag =
  br (!b) (br (decide ((ag.length:Int)>(0:Int))) (c2J N x k0 self a e b p w M ag) (j8 (F9 N (w,a,e,b,p) (4:Int) ([41]:d9)) fun t20=>br (!t20) (c2J N x k0 self a e b p w M ag) (k0 a e b p w M ag))) (k0 a e b p w M ag):=rfl
theorem c87{l:List Ag}{z:Ag}(h:l.length<=50000):Zf (l.length + [z].length) (.pr .str (.rc .expr))=true:=b2O (by decide) (by simp;omega)
theorem b91(V:Wc N w e){i:Nat}(hi:i<=w.length){x:Int}(h0:0<=x)(hx:x<=60000)(M:Mk)(p d:Int)(hM:M.length<=i){k n m a:Int}{t tx s:d9}(k0 self:KA)(ag:List Ag)(hag:ag.length<=50000):
  (∃(j:Nat) (q:d9) (E:GExpr) (T:Mk),i+2<j/\j<=w.length/\T.length<=j-(i+2)/\Pos T/\w9 q=true/\EOk 60000 E/\
   K3 N x (w.drop i) e d k t tx n s m a=some (.ok (x,w.drop j,e,dp d T,k,t,tx,n,s,m,a,[(q,E)]))/\
   L8 N x (w.drop i) e d k t tx n s m a ag=some (.ok (x,w.drop j,e,dp d T,k,t,tx,n,s,m,a,ag ++ [(q,E)]))/\
   c2J N (x+1) k0 self (i:Int) e false p w M ag=(j8 (l5 N (4:Int) ([44]:d9) (j:Int) e false p w (M++T)) fun t38=>br (!t38.1)
    (k0 t38.2.1 t38.2.2.1 t38.2.2.2.1 t38.2.2.2.2.1 t38.2.2.2.2.2.1 t38.2.2.2.2.2.2 (ag ++ [(q,E)]))
    (self t38.2.1 t38.2.2.1 t38.2.2.2.1 t38.2.2.2.2.1 t38.2.2.2.2.2.1 t38.2.2.2.2.2.2 (ag ++ [(q,E)]))))\/
  (∃c,K3 N x (w.drop i) e d k t tx n s m a=some (.error c)/\L8 N x (w.drop i) e d k t tx n s m a ag=some (.error c)/\∃b L ys,c2J N (x+1) k0 self (i:Int) e false p w M ag=k0 b e true c w L ys):=by
 have hN:=V.hN;have hpos:0<N:=by unfold I1 at hN;omega
 unfold K3 L8 c2J;cases hq:X1 w i with
 |none=>
  simp only[a6e V.hN V.wok hq,k7,a5g V.hN V.wok hq,a8,G8,a7h hpos,c87 hag,d7,S3,Bool.not_false];exact .inr ⟨_,rfl,rfl,_,_,_,rfl⟩
 |some q=>
  have hql:=(a0r hq).1;have hqn:w9 q=true:=by obtain⟨_,_,h,rfl⟩:=a0r hq;exact h
  simp only[a9I V.hN V.wok hq,o3,a1M V.hN V.wl V.wok hq,a8];cases hb:N4 w (i+1) 4 [61]with
  |false=>
   simp only[a0O hb,k7,W9 hb,a8,a7h hpos,c87 hag,d7,S3,Bool.not_false];exact .inr ⟨_,rfl,rfl,_,_,_,rfl⟩
  |true=>
   have hbl:=I5 hb;simp only[a0P hb,o3,x7 V.wl hb,a8];rcases a8A V.hN V.wl V.wok V.e0 (i:=i+1+1) (by omega) h0 hx M p d (by omega)with⟨j,E,T,hj1,hj2,hT,hTp,hE,s1,r1⟩|⟨c,s1,y,b,L,r1⟩
   ·have hwl:=V.wl;simp only[s1,o3,r1,a8,GExpr.eta,c87 hag,d7,C2,p7,show Zf [(q,E)].length (.pr .str (.rc .expr))=true from b2O (by decide) (by simp)];exact .inl ⟨j,q,E,T,by omega,hj2,by omega,hTp,hqn,hE.mono (by omega),rfl,rfl,rfl⟩
   ·simp only[s1,k7,r1,a8,c87 hag,d7,S3,Bool.not_false];exact .inr ⟨_,rfl,rfl,_,_,_,rfl⟩
theorem b90(V:Wc N w e){i0:Nat}{x:Int}(h0:0<=x)(hx:x<=60000){M0:Mk}(hM0:M0.length<=i0){p d k n m a:Int}{t tx s:d9}
  {K:List A6->Int->Int->Int->Int->d9->d9->Int->d9->Int->Int->List Ag->Option (Except Int (List A6×Int×Int×Int×Int×d9×d9×List Ag×Int×d9×Int×Int))} {k0:KA}:
  ∀(u i f1 f2:Nat) (ag:List Ag) (T:Mk),i+u=w.length->u<f1->u<f2->i0<=i->ag ≠ []->ag.length<=i->T.length<=i-i0->Pos T->(∀q∈ag,w9 q.1=true/\EOk 60000 q.2)->
  let SS:=e90 N K f1 (w.drop i) e (dp d T) x k t tx n s m a ag
  let RR:=j8 (l5 N (4:Int) ([44]:d9) (i:Int) e false p w (M0++T)) fun t38=>br (!t38.1)
   (k0 t38.2.1 t38.2.2.1 t38.2.2.2.1 t38.2.2.2.2.1 t38.2.2.2.2.2.1 t38.2.2.2.2.2.2 ag)
   (u0 N (x+1) k0 f2 t38.2.1 t38.2.2.1 t38.2.2.2.1 t38.2.2.2.2.1 t38.2.2.2.2.2.1 t38.2.2.2.2.2.2 ag)
  (∃(j:Nat) (ls:List Ag) (T':Mk),i<=j/\j<=w.length/\ls.length<=j/\T'.length<=j-i0/\Pos T'/\(∀q∈ls,w9 q.1=true/\EOk 60000 q.2)/\SS=K (w.drop j) e (dp d T') x k t tx n s m a ls/\RR=k0 (j:Int) e false p w (M0++T') ls)\/
  (∃c,SS=some (.error c)/\∃b L ys,RR=k0 b e true c w L ys)
 |u,i,f1,f2,ag,T,hu,h1,h2,hi0,hne,hal,hT,hTp,hag=>by
  obtain⟨f1,rfl⟩:∃q,f1=q+1:=⟨f1-1,by omega⟩;obtain⟨f2,rfl⟩:∃q,f2=q+1:=⟨f2-1,by omega⟩;intro SS RR;have hwl:=V.wl;have eS:SS=f6c N K (e90 N K f1) (w.drop i) e (dp d T) x k t tx n s m a ag:=rfl;unfold f6c at eS;have eR:RR=j8 _ _:=rfl;cases hb:N4 w i 4 [44]with
  |false=>
   rw[U3 hb]at eS;rw[p8 hb]at eR;simp only[a8,d6,Bool.not_false,d7]at eS eR;exact .inl ⟨i,ag,T,by omega,by omega,hal,hT,hTp,hag,eS,eR⟩
  |true=>
   have hil:=I5 hb;rw[X6 hb]at eS;rw[F0 V.wl hb]at eR;simp only[a8,d7,Bool.not_true,d6]at eS eR;have eR2:RR=R5 N (x+1) k0 (u0 N (x+1) k0 f2) ((i+1:Nat):Int) e false p w (M0++T) ag:=eR;rw[b8M,Bool.not_false,d7,c9B hne,d7]at eR2;rcases b91 V (i:=i+1) (by omega) h0 hx (M0++T) p (dp d T) (by rw[List.length_append];omega) (k:=k) (n:=n) (m:=m) (a:=a) (t:=t) (tx:=tx) (s:=s) k0 (u0 N (x+1) k0 f2) ag (by omega)with⟨j,q,E,T2,hj1,hj2,hT2,hTp2,hqn,hE,_,s1,r1⟩|⟨c,_,s1,b,L,ys,r1⟩
   ·rw[s1,o3]at eS;rw[r1]at eR2;simp only at eS;rw[<-a4n]at eS;rw[List.append_assoc]at eR2;have ih:=b90 V h0 hx hM0 (p:=p) (d:=d) (k:=k) (n:=n) (m:=m) (a:=a) (t:=t) (tx:=tx) (s:=s) (K:=K) (k0:=k0) (w.length-j) j f1 f2 (ag ++ [(q,E)]) (T++T2) (by omega) (by omega) (by omega) (by omega) (by simp) (by simp;omega) (by rw[List.length_append];omega) (hTp.app hTp2) (fun y hy=>by
     rcases List.mem_append.1 hy with hy|hy
     ·exact hag y hy
     ·rw[List.mem_singleton.1 hy];exact⟨hqn,hE⟩)
    rw[eS,eR2];rcases ih with⟨j',ls,T',u1,u2,u3,u4,u4p,u5,u6,u7⟩|⟨c,u1,b,L,ys,u2⟩
    ·exact .inl ⟨j',ls,T',by omega,u2,u3,u4,u4p,u5,u6,u7⟩
    ·exact .inr ⟨c,u1,b,L,ys,u2⟩
   ·rw[s1,k7]at eS;rw[r1]at eR2;exact .inr ⟨c,eS,b,L,ys,eR2⟩
 termination_by u=>u
theorem c68{f:Nat}(hf:N=f+1){x:Int}{k0:KA}{a e p:Int}{b:Bool}{w:List A6}{M:Mk}{ag:List Ag}:u0 N x k0 N a e b p w M ag=R5 N x k0 (u0 N x k0 f) a e b p w M ag:=by
 subst hf;rfl
theorem d4H(V:Wc N w e){x:Int}(h0:0<=x)(hx:x<=60000){M:Mk}{p d k n m a:Int}{t tx s:d9}{i:Nat}(hi:i<=w.length)(hM:M.length<=i):
  let SS:=P3 N ([41]:d9) true (w.drop i) e d x k t tx n s m a
  let RR:=u0 N (x+1) (fun o0_0_1 o0_0_2 o0_0_3 o0_0_4 o0_w1 o0_w2 o0_w1005=>
   j8 (k8 N ([41]:d9) o0_0_1 o0_0_2 o0_0_3 o0_0_4 o0_w1 o0_w2) fun t41=>
   some (t41.1,t41.2.1,t41.2.2.1,t41.2.2.2.1,t41.2.2.2.2.1,t41.2.2.2.2.2,o0_w1005)) N (i:Int) e false p w M ([]:List Ag)
  (∃(j:Nat) (ls:List Ag) (T:Mk),i<j/\j<=w.length/\ls.length<=j/\T.length<=j-i/\Pos T/\(∀q∈ls,w9 q.1=true/\EOk 60000 q.2)/\SS=some (.ok (w.drop j,e,dp d T,x,k,t,tx,ls,n,s,m,a))/\RR=some ((j:Int),e,false,p,w,M++T,ls))\/
  (∃c,SS=some (.error c)/\∃b L ys,RR=some (b,e,true,c,w,L,ys)):=by
 intro SS RR;obtain⟨f,hf,hf2⟩:=a4k V.hN;have hwl:=V.wl;have eS:SS=P3 N ([41]:d9) true (w.drop i) e d x k t tx n s m a:=rfl;have eR:RR=u0 N (x+1) _ N (i:Int) e false p w M []:=rfl;unfold P3 at eS;rw[d7]at eS;rw[c68 hf,b8M,Bool.not_false,d7,show decide (((([]:List Ag).length:Nat):Int)>0)=false by decide,d6,Y8,a8]at eR;cases hb:N4 w i 4 [41]with
 |true=>
  have hbl:=I5 hb;rw[X6 hb]at eS;rw[hb]at eR;simp only[a8,d7,Bool.not_true,d6,x7 V.wl hb]at eS eR;exact .inl ⟨i+1,[],[],by omega,by omega,by simp,by simp,Pos.nil,by simp,eS,by rw[eR,List.append_nil]⟩
 |false=>
  rw[U3 hb]at eS;rw[hb]at eR;simp only[a8,d6,Bool.not_false,d7]at eS eR;rcases b91 V (i:=i) hi h0 hx M p d hM (k:=k) (n:=n) (m:=m) (a:=a) (t:=t) (tx:=tx) (s:=s) _ _ [] (by simp)with⟨j,q,E,T2,hj1,hj2,hT2,hTp2,hqn,hE,s1,_,r1⟩|⟨c,s1,_,b,L,ys,r1⟩
  ·rw[s1,o3]at eS;rw[r1,List.nil_append]at eR;have lp:=b90 V h0 hx (i0:=i) hM (p:=p) (d:=d) (k:=k) (n:=n) (m:=m) (a:=a) (t:=t) (tx:=tx) (s:=s)
    (K:=fun o0_0_0 o0_0_1 o0_0_2 o0_2_0 o0_4_0 o0_4_1 o0_4_2 o0_4_5 o0_4_6 o0_4_7 o0_4_12 o0_w101500=>
     m8 (k6 N ([41]:d9) o0_0_0 o0_0_1 o0_0_2) fun t22=>
     some (.ok (t22.1,t22.2.1,t22.2.2,o0_2_0,o0_4_0,o0_4_1,o0_4_2,o0_w101500,o0_4_5,o0_4_6,o0_4_7,o0_4_12)))
    (k0:=fun o0_0_1 o0_0_2 o0_0_3 o0_0_4 o0_w1 o0_w2 o0_w1005=>
     j8 (k8 N ([41]:d9) o0_0_1 o0_0_2 o0_0_3 o0_0_4 o0_w1 o0_w2) fun t41=>
     some (t41.1,t41.2.1,t41.2.2.1,t41.2.2.2.1,t41.2.2.2.2.1,t41.2.2.2.2.2,o0_w1005))
    (w.length-j) j N f [(q,E)] T2 (by omega) (by omega) (by omega) (by omega) (by simp) (by simp;omega) (by omega) hTp2 (fun y hy=>by rw[List.mem_singleton.1 hy];exact⟨hqn,hE⟩)
   rw[eS,eR];rcases lp with⟨j',ls,T',u1,u2,u3,u4,u4p,u5,u6,u7⟩|⟨c,u1,b,L,ys,u2⟩
   ·rw[u6,u7];cases hs:N4 w j' 4 [41]with
    |true=>
     have hsl:=I5 hs;rw[a0P hs,x7 V.wl hs,o3,a8];exact .inl ⟨j'+1,ls,T',by omega,by omega,by omega,by omega,u4p,u5,rfl,rfl⟩
    |false=>
     rw[a0O hs,W9 hs,k7,a8];exact .inr ⟨_,rfl,_,_,_,rfl⟩
   ·rw[u1,u2,G8,a8];exact .inr ⟨_,rfl,_,_,_,rfl⟩
  ·rw[s1,k7]at eS;rw[r1,G8,a8]at eR;exact .inr ⟨_,eS,_,_,_,eR⟩
end
end
section
variable{N:Nat}
abbrev zE:GExpr:=GExpr.mk (0:Int) ([]:d9) (0:Int) ([]:List d9) ([]:List GExpr)
theorem GStmt.eta2(s:GStmt):GStmt.mk s.kind s.name s.text s.params s.args (Ze s.expr) s.body s.els s.at_=s:=by
 cases s with
 |mk _ _ _ _ _ x _ _ _=>cases x;rfl
def SOk:Nat->GStmt->Prop|0,_=>False|k+1,s=>(∃q E a,w9 q=true/\EOk 60000 E/\s = .mk 1 q [] [] [] E [] [] a)\/(∃q ag a,w9 q=true/\ag.length<=50000/\(∀c∈ag,w9 c.1=true/\EOk 60000 c.2)/\s = .mk 2 q [] [] ag zE [] [] a)\/(∃q ps b a,w9 q=true/\ps.length<=50000/\(∀c∈ps,w9 c=true)/\b.length<=50000/\(∀c∈b,SOk k c)/\s = .mk 3 q [] ps [] zE b [] a)\/(∃q E b a,w9 q=true/\EOk 60000 E/\b.length<=50000/\(∀c∈b,SOk k c)/\s = .mk 4 q [] [] [] E b [] a)\/(∃E b l a,EOk 60000 E/\b.length<=50000/\(∀c∈b,SOk k c)/\l.length<=50000/\(∀c∈l,SOk k c)/\s = .mk 5 [] [] [] [] E b l a)\/(∃(t:d9) (a:Int),t.length<=50000/\s = .mk 6 [] t [] [] zE [] [] a)
theorem SOk.succ:∀{k:Nat} {s:GStmt},SOk k s->SOk (k+1) s
 |0,_,h=>h.elim
 |k+1,s,h=>by
  rcases h with h|h|⟨q,ps,b,a,h1,h2,h3,h4,h5,h6⟩|⟨q,E,b,a,h1,h2,h3,h4,h5⟩|⟨E,b,l,a,h1,h2,h3,h4,h5,h6⟩|h
  ·exact .inl h
  ·exact .inr (.inl h)
  ·exact .inr (.inr (.inl ⟨q,ps,b,a,h1,h2,h3,h4,fun c hc=>SOk.succ (h5 c hc),h6⟩))
  ·exact .inr (.inr (.inr (.inl ⟨q,E,b,a,h1,h2,h3,fun c hc=>SOk.succ (h4 c hc),h5⟩)))
  ·exact .inr (.inr (.inr (.inr (.inl ⟨E,b,l,a,h1,h2,fun c hc=>SOk.succ (h3 c hc),h4,fun c hc=>SOk.succ (h5 c hc),h6⟩))))
  ·exact .inr (.inr (.inr (.inr (.inr h))))
theorem SOk.mono{k m:Nat}{s:GStmt}(h:SOk k s)(hm:k<=m):SOk m s:=by
 obtain⟨d,rfl⟩:=Nat.exists_eq_add_of_le hm;induction d with
 |zero=>exact h
 |succ d ih=>exact SOk.succ (ih (by omega))
abbrev SSt:Type:=Int->List A6->Int->Int->Option (Except Int (GStmt×List A6×Int×Int))
abbrev RBt:Type:=Int->Int->Int->Bool->Int->List A6->Mk->Option (List GStmt×Int×Int×Bool×Int×List A6×Mk)
def d7I(N:Nat)(w:List A6)(e:Int)(S:SSt)(B:RBt)(i:Nat)(x:Int):Prop:=∀(M:Mk) (p d:Int),M.length<=i->(∃(j:Nat) (G:GStmt) (T:Mk),i<j/\j<=w.length/\T.length<=j-i/\Pos T/\SOk (j-i) G/\S x (w.drop i) e d=some (.ok (G,w.drop j,e,dp d T))/\n7 N B x (i:Int) e false p w M=some (G,(j:Int),e,false,p,w,M++T))\/(∃c,S x (w.drop i) e d=some (.error c)/\∃y a K,n7 N B x (i:Int) e false p w M=some (y,a,e,true,c,w,K))
def e2C(N:Nat)(w:List A6)(e:Int)(S:SSt)(B:RBt)(i:Nat)(x:Int):Prop:=∀(M:Mk) (p d:Int),M.length<=i->(∃(j:Nat) (Gs:List GStmt) (T:Mk),i<j/\j<=w.length/\T.length<=j-i/\Pos T/\Gs.length<=50000/\(∀G∈Gs,SOk (j-i) G)/\D3 N S x (w.drop i) e d=some (.ok (w.drop j,e,dp d T,Gs))/\B2 N B x (i:Int) e false p w M=some (Gs,(j:Int),e,false,p,w,M++T))\/(∃c,D3 N S x (w.drop i) e d=some (.error c)/\∃y a K,B2 N B x (i:Int) e false p w M=some (y,a,e,true,c,w,K))
structure Sx(N:Nat)(w:List A6)(e:Int)(S:SSt)(B:RBt)(i0:Nat):Prop where
 V:Wc N w e
 sim:∀i,i0<i->i<=w.length->∀x:Int,0<=x->x+((w.length-i:Nat):Int)<=60000->d7I N w e S B i x
 stop:∀i,i0<i->X1 w i=none->(∀s,N4 w i 1 s=false)->∀x d,S x (w.drop i) e d=some (.error (atS w i e))
theorem c29{l:List GStmt}{z:GStmt}(h:l.length<=50000):Zf (l.length + [z].length) (.rc .stmt)=true:=b2O (by decide) (by simp;omega)
section
variable{w:List A6}{e x:Int}{S:SSt}{B:RBt}{i0:Nat}
theorem b4h{i:Nat}(h:¬i<w.length):X1 w i=none/\∀k s,N4 w i k s=false:=by
 refine⟨?_,fun k s=>b81 h⟩;unfold X1;rw[List.getElem?_eq_none (by omega)]
theorem b3Z{i:Nat}{s:d9}(h:N4 w i 4 s=true):X1 w i=none/\∀q,N4 w i 1 q=false:=by
 have hi:=I5 h;rw[b10 hi]at h;simp only[Bool.and_eq_true,beq_iff_eq]at h;refine⟨?_,fun q=>?_⟩
 ·unfold X1;rw[List.getElem?_eq_getElem hi];simp[h.1]
 ·rw[b10 hi,h.1];rfl
theorem b4O{f:Nat}(hf:0<f){k0:Int->Int->Bool->Int->List A6->Mk->List GStmt->Option (Int×Int×Bool×Int×List A6×Mk×List GStmt)}{a p:Int}{M:Mk}{Gs:List GStmt}:
  C1 N B x k0 f a e true p w M Gs=k0 a e true p w M Gs:=by
 obtain⟨f,rfl⟩:∃q,f=q+1:=⟨f-1,by omega⟩;show A7 _ _ _ _ _ _ _ _ _ _ _ _=_;unfold A7;rw[Bool.not_true,d6]
theorem b3X(C:Sx N w e S B i0)(hx0:0<=x)(hxb:x+((w.length-i0:Nat):Int)<=60000){M0:Mk}(hM0:M0.length<=i0){p d:Int}
  {K:List A6->Int->Int->List GStmt->Option (Except Int (List A6×Int×Int×List GStmt))} {k0:Int->Int->Bool->Int->List A6->Mk->List GStmt->Option (Int×Int×Bool×Int×List A6×Mk×List GStmt)}:
  ∀(u i f1 f2:Nat) (Gs:List GStmt) (T:Mk),i+u=w.length->u<f1->u<f2->i0<i->Gs.length<=i->T.length<=i-i0->Pos T->(∀G∈Gs,SOk (i-i0) G)->
  let SS:=b53 N S x K f1 (w.drop i) e (dp d T) Gs
  let RR:=C1 N B x k0 f2 (i:Int) e false p w (M0++T) Gs
  (∃(j:Nat) (Hs:List GStmt) (T':Mk),i<=j/\N4 w j 4 [125]=true/\Hs.length<=50000/\T'.length<=j-i0/\Pos T'/\(∀G∈Hs,SOk (j-i0) G)/\SS=K (w.drop (j+1)) e (dp d T') Hs/\RR=k0 (j:Int) e false p w (M0++T') Hs)\/
  (∃c,SS=some (.error c)/\((∃b L ys,RR=k0 b e true c w L ys)\/(∃(j:Nat) (L:Mk) (ys:List GStmt),¬j<w.length/\c=e/\RR=k0 (j:Int) e false p w L ys)))
 |u,i,f1,f2,Gs,T,hu,h1,h2,hi,hGl,hT,hTp,hG=>by
  obtain⟨f1,rfl⟩:∃q,f1=q+1:=⟨f1-1,by omega⟩;obtain⟨f2,rfl⟩:∃q,f2=q+1:=⟨f2-1,by omega⟩;intro SS RR;have hwl:=C.V.wl;have eS:SS=b54 N S x K (b53 N S x K f1) (w.drop i) e (dp d T) Gs:=rfl;have eR:RR=A7 N B x k0 (C1 N B x k0 f2) (i:Int) e false p w (M0++T) Gs:=rfl;unfold b54 at eS;unfold A7 at eR;rw[Bool.not_false,d7,Y8,a8]at eR;by_cases hil:i<w.length
  case neg=>
   obtain⟨hn,hb⟩:=b4h hil;rw[U3 (hb _ _)]at eS;rw[decide_eq_false (show ¬(i:Int)<(w.length:Int) by omega),d6]at eR;simp only[a8,Bool.not_false,d7]at eS;rw[C.stop i hi hn (fun s=>hb 1 s),k7,b3U hil]at eS;exact .inr ⟨e,eS,.inr ⟨i,_,_,hil,rfl,eR⟩⟩
  rw[decide_eq_true (show(i:Int)<(w.length:Int) by omega),d7]at eR;cases hb:N4 w i 4 [125]with
  |true=>
   rw[X6 hb]at eS;rw[hb]at eR;simp only[a8,Bool.not_true,d6]at eS eR;exact .inl ⟨i,Gs,T,by omega,hb,by omega,hT,hTp,hG,eS,eR⟩
  |false=>
   rw[U3 hb]at eS;rw[hb]at eR;simp only[a8,Bool.not_false,d7]at eS eR;rcases C.sim i hi (by omega) x hx0 (by omega) (M0++T) p (dp d T) (by rw[List.length_append];omega)with⟨j,G,T2,hj1,hj2,hT2,hTp2,hG2,s1,r1⟩|⟨c,s1,y,b,L,r1⟩
   ·rw[s1,o3]at eS;rw[r1,a8]at eR;simp only[GStmt.eta2,c29 (show Gs.length<=50000 by omega),d7]at eS eR;rw[<-a4n]at eS;rw[List.append_assoc]at eR;have ih:=b3X C hx0 hxb hM0 (p:=p) (d:=d) (K:=K) (k0:=k0) (w.length-j) j f1 f2 (Gs ++ [G]) (T++T2) (by omega) (by omega) (by omega) (by omega) (by simp;omega) (by rw[List.length_append];omega) (hTp.app hTp2) (fun y hy=>by
     rcases List.mem_append.1 hy with hy|hy
     ·exact(hG y hy).mono (by omega)
     ·rw[List.mem_singleton.1 hy];exact hG2.mono (by omega))
    rw[eS,eR];rcases ih with⟨j',Hs,T',u1,u2,u3,u4,u4p,u5,u6,u7⟩|ih
    ·exact .inl ⟨j',Hs,T',by omega,u2,u3,u4,u4p,u5,u6,u7⟩
    ·exact .inr ih
   ·rw[s1,k7]at eS;rw[r1,a8]at eR;simp only[GStmt.eta2,c29 (show Gs.length<=50000 by omega),d7]at eR;rw[b4O (by omega)]at eR;exact .inr ⟨c,eS,.inl ⟨_,_,_,eR⟩⟩
 termination_by u=>u
theorem c7a(C:Sx N w e S B i0)(hi:i0<=w.length)(hx0:0<=x)(hxb:x+((w.length-i0:Nat):Int)<=60000):e2C N w e S B i0 x:=by
 intro M p d hM;obtain⟨f,hf,hf2⟩:=a4k C.V.hN;have hwl:=C.V.wl;obtain⟨SS,eS⟩:∃s,s=D3 N S x (w.drop i0) e d:=⟨_,rfl⟩;obtain⟨RR,eR⟩:∃s,s=B2 N B x (i0:Int) e false p w M:=⟨_,rfl⟩;rw[<-eS,<-eR];unfold D3 at eS;unfold B2 W8 at eR;cases hb:N4 w i0 4 [123]with
 |false=>
  rw[a0O hb,k7]at eS;rw[W9 hb,a8]at eR;simp only[b4O (show 0<N by omega),a8,G8]at eR;exact .inr ⟨_,eS,_,_,_,eR⟩
 |true=>
  have hbl:=I5 hb;rw[a0P hb,o3]at eS;rw[x7 C.V.wl hb,a8]at eR;have lp:=b3X C hx0 hxb (M0:=M) hM (p:=p) (d:=d)
   (K:=fun o0_0_0 o0_0_1 o0_0_2 o0_w1005=>some (.ok (o0_0_0,o0_0_1,o0_0_2,o0_w1005)))
   (k0:=fun o0_0_1 o0_0_2 o0_0_3 o0_0_4 o0_w1 o0_w2 o0_w1005=>some (o0_0_1,o0_0_2,o0_0_3,o0_0_4,o0_w1,o0_w2,o0_w1005))
   (w.length-(i0+1)) (i0+1) N N [] [] (by omega) (by omega) (by omega) (by omega) (by simp) (by simp) Pos.nil (by simp)
  rw[List.append_nil]at lp;rcases lp with⟨j,Hs,T',u1,u2,u3,u4,u4p,u5,u6,u7⟩|⟨c,u1,⟨b,L,ys,u2⟩|⟨j,L,ys,h1,h2,u2⟩⟩
  ·have hjl:=I5 u2;rw[u7,a8]at eR;simp only[x7 C.V.wl u2,a8]at eR;exact .inl ⟨j+1,Hs,T',by omega,by omega,by omega,u4p,u3,fun G hG=>(u5 G hG).mono (by omega),by rw[eS];exact u6,eR⟩
  ·rw[u2,a8]at eR;simp only[G8,a8]at eR;exact .inr ⟨c,by rw[eS];exact u1,_,_,_,eR⟩
  ·rw[u2,a8]at eR;simp only[W9 ((b4h h1).2 _ _),a8,b3U h1]at eR;exact .inr ⟨c,by rw[eS];exact u1,_,_,_,by rw[h2];exact eR⟩
theorem a2L(hN:I1<=N){y a p:Int}{M:Mk}:B2 N B y a e true p w M=some (([]:List GStmt),a,e,true,p,w,M):=by
 obtain⟨f,hf,hf2⟩:=a4k hN;unfold B2 W8;rw[G8,a8];simp only[b4O (show 0<N by omega),a8,G8]
theorem c3u(hN:I1<=N){a p:Int}{M:Mk}:a25 N a e true p w M=some (a,e,true,p,w,M,([]:List d9)):=by
 obtain⟨f,hf,hf2⟩:=a4k hN;unfold a25;rw[G8,a8];simp only[a7u hf,a4v,Bool.not_true,d6,G8,a8]
theorem e2K{i:Nat}{s q:d9}{k:Int}(h:N4 w i k s=true)(hne:s≠q):N4 w i k q=false:=by
 have hi:=I5 h;rw[b10 hi]at h ⊢;simp only[Bool.and_eq_true,beq_iff_eq]at h;rw[h.2,beq_eq_false_iff_ne.2 hne,Bool.and_false]
theorem c7B(V:Wc N w e){i:Nat}(hi:i<w.length)(hx0:0<=x)(hxb:x<=60000)(M:Mk)(p d a:Int)(hM:M.length<=i+1):
  let SS:=m8 (o4 N (w.drop i) e d) fun t15=>m8 (Y3 N x t15.2.1 t15.2.2.1 t15.2.2.2 (0:Int) t15.1 ([]:d9) (0:Int) ([]:d9) (0:Int) a) fun t19=>
     some (.ok (GStmt.mk t19.2.2.2.1 t19.2.2.2.2.1 t19.2.2.2.2.2.1 ([]:List d9) t19.2.2.2.2.2.2.1 (GExpr.mk t19.2.2.2.2.2.2.2.1 t19.2.2.2.2.2.2.2.2.1 t19.2.2.2.2.2.2.2.2.2.1 t19.2.2.2.2.2.2.2.2.2.2.1 t19.2.2.2.2.2.2.2.2.2.2.2.1) ([]:List GStmt) ([]:List GStmt) t19.2.2.2.2.2.2.2.2.2.2.2.2,t19.1,t19.2.1,t19.2.2.1))
  let RR:=j8 (N9 N x (i:Int) e false p (0:Int) ([]:d9) ([]:d9) (0:Int) ([]:d9) (0:Int) a w M) fun t14=>
     some (GStmt.mk t14.2.2.2.2.1 t14.2.2.2.2.2.1 t14.2.2.2.2.2.2.1 ([]:List d9) t14.2.2.2.2.2.2.2.1 (GExpr.mk t14.2.2.2.2.2.2.2.2.1 t14.2.2.2.2.2.2.2.2.2.1 t14.2.2.2.2.2.2.2.2.2.2.1 t14.2.2.2.2.2.2.2.2.2.2.2.1 t14.2.2.2.2.2.2.2.2.2.2.2.2.1) ([]:List GStmt) ([]:List GStmt) t14.2.2.2.2.2.2.2.2.2.2.2.2.2.1,t14.1,t14.2.1,t14.2.2.1,t14.2.2.2.1,t14.2.2.2.2.2.2.2.2.2.2.2.2.2.2)
  (∃(j:Nat) (G:GStmt) (T:Mk),i<j/\j<=w.length/\T.length+1<=j-i/\Pos T/\SOk (j-i) G/\SS=some (.ok (G,w.drop j,e,dp d T))/\RR=some (G,(j:Int),e,false,p,w,M++T))\/
  (∃c,SS=some (.error c)/\∃y b K,RR=some (y,b,e,true,c,w,K)):=by
 intro SS RR;have hN:=V.hN;have hwl:=V.wl;have hpos:0<N:=by unfold I1 at hN;omega
 have hx1:IntKind.i64.wrap (x+1)=x+1:=K5 (by omega) (by omega);have eS:SS=m8 _ _:=rfl;have eR:RR=j8 _ _:=rfl;unfold N9 at eR;simp only[hx1]at eR;cases hq:X1 w i with
 |none=>
  rw[a6e V.hN V.wok hq,k7]at eS;rw[a5g V.hN V.wok hq]at eR;simp only[a8,S3,d6,c5H,b0p,G8]at eR;exact .inr ⟨_,eS,_,_,_,eR⟩
 |some q=>
  have hql:=(a0r hq).1;have hqn:w9 q=true:=by obtain⟨_,_,h,rfl⟩:=a0r hq;exact h
  rw[a9I V.hN V.wok hq,o3]at eS;rw[a1M V.hN V.wl V.wok hq,a8]at eR;unfold Y3 at eS;cases h40:N4 w (i+1) 4 [40]with
  |true=>
   have h61:=e2K h40 (show([40]:d9) ≠ [61] by decide);have hbl:=I5 h40;rw[X6 h40]at eS;rw[p8 h61]at eR;unfold a2Z at eR;simp only[a8,d7,d6,Y8,h40,x7 V.wl h40]at eS eR;rcases d4H V hx0 hxb (M:=M) (p:=p) (d:=d) (k:=2) (n:=0) (m:=0) (a:=a) (t:=q) (tx:=[]) (s:=[]) (i:=i+1+1) (by omega) (by omega)with⟨j,ls,T,g1,g2,g3,g4,g4p,g5,s1,r1⟩|⟨c,s1,b,L,ys,r1⟩
   ·rw[s1]at eS;rw[r1]at eR;simp only[o3,a8]at eS eR;cases hs:N4 w j 4 [59]with
    |true=>
     have hsl:=I5 hs;simp only[a0P hs,x7 V.wl hs,o3,a8]at eS eR;refine .inl ⟨j+1,_,T,by omega,by omega,by omega,g4p,?_,eS,eR⟩;rw[show j+1-i=(j-i)+1 by omega];exact .inr (.inl ⟨q,ls,a,hqn,by omega,g5,rfl⟩)
    |false=>
     simp only[a0O hs,W9 hs,k7,a8]at eS eR;exact .inr ⟨_,eS,_,_,_,eR⟩
   ·rw[s1]at eS;rw[r1]at eR;simp only[k7,a8,G8]at eS eR;exact .inr ⟨_,eS,_,_,_,eR⟩
  |false=>
   rw[U3 h40]at eS;simp only[a8,d6,C2,p7]at eS;cases h61:N4 w (i+1) 4 [61]with
   |false=>
    rw[p8 h61]at eR;simp only[a0O h61,k7]at eS;simp only[a8,d6,Y8,h40,a8v,G8]at eR;exact .inr ⟨_,eS,_,_,_,eR⟩
   |true=>
    have hbl:=I5 h61;rw[F0 V.wl h61]at eR;simp only[a0P h61,o3]at eS;simp only[a8,d7]at eR;rcases a8A V.hN V.wl V.wok V.e0 (i:=i+1+1) (by omega) hx0 hxb M p d (by omega)with⟨j,E,T,hj1,hj2,hT,hTp,hE,s1,r1⟩|⟨c,s1,y,b,L,r1⟩
    ·rw[s1]at eS;rw[r1]at eR;simp only[o3,a8]at eS eR;cases hs:N4 w j 4 [59]with
     |true=>
      have hsl:=I5 hs;simp only[a0P hs,x7 V.wl hs,o3,a8,GExpr.eta]at eS eR;refine .inl ⟨j+1,_,T,by omega,by omega,by omega,hTp,?_,eS,eR⟩;rw[show j+1-i=(j-i)+1 by omega];exact .inl ⟨q,E,a,hqn,hE.mono (by omega),rfl⟩
     |false=>
      simp only[a0O hs,W9 hs,k7,a8]at eS eR;exact .inr ⟨_,eS,_,_,_,eR⟩
    ·rw[s1]at eS;rw[r1]at eR;simp only[k7,a8,G8]at eS eR;exact .inr ⟨_,eS,_,_,_,eR⟩
theorem b2s(V:Wc N w e){i:Nat}(hn:X1 w i=none)(hb:∀s,N4 w i 1 s=false)(x d:Int):A8 N S x (w.drop i) e d=some (.error (atS w i e)):=by
 unfold A8;simp only[b9t,a8,a8o,U3 (hb _),d6,a6e V.hN V.wok hn,k7]
end
end
section
variable{N:Nat}
section
variable{w:List A6}{e x:Int}{S:SSt}{B:RBt}{i0:Nat}
theorem Sx.next(C:Sx N w e S B i0){i1:Nat}(h:i0<=i1):Sx N w e S B i1:=
 ⟨C.V,fun i h1 h2 x h3 h4=>C.sim i (by omega) h2 x h3 h4,fun i h1 h2 h3 x d=>C.stop i (by omega) h2 h3 x d⟩
theorem c97(C:Sx N w e S B i0)(hi:i0<=w.length)(hx0:0<=x)(hxb:x+((w.length-i0:Nat):Int)<=60000):d7I N w e (A8 N S) (B2 N B) i0 x:=by
 intro M p d hM;have V:=C.V;have hN:=V.hN;have hwl:=V.wl;have hpos:0<N:=by unfold I1 at hN;omega
 have hx1:IntKind.i64.wrap (x+1)=x+1:=K5 (by omega) (by omega);obtain⟨SS,eS⟩:∃s,s=A8 N S x (w.drop i0) e d:=⟨_,rfl⟩;obtain⟨RR,eR⟩:∃s,s=n7 N (B2 N B) x (i0:Int) e false p w M:=⟨_,rfl⟩;rw[<-eS,<-eR];by_cases hil:i0<w.length
 case neg=>
  obtain⟨hn,hb⟩:=b4h hil;rw[b2s V hn (fun s=>hb 1 s)]at eS;unfold n7 at eR;rw[a2j,a3r (by omega)]at eR;simp only[a8,p8 (hb _ _),d6]at eR;unfold N9 at eR;simp only[a5g V.hN V.wok hn,a8,S3,d6,c5H,b0p,G8]at eR;exact .inr ⟨_,eS,_,_,_,eR⟩
 unfold A8 at eS;unfold n7 at eR;rw[a2j,a3r (by omega)]at eR;simp only[b9t,a8,a8o,hx1]at eS eR;have ha0:=b8N V.wok V.e0 i0;generalize ha:atS w i0 e=a at eS eR ha0;have hp1:Pos [(a,x)]:=Pos.one ha0;have hM1:(M ++ [(a,x)]).length<=i0+1:=by simp;omega
 have hd:dp1 d (a,x)=dp d [(a,x)]:=rfl;rw[hd]at eS;have B1:=fun(j:Nat) (hj:i0<j) (hjl:j<=w.length)=>c7a (x:=x+1) (C.next (i1:=j) (by omega)) hjl (by omega) (by omega)
 cases b1:N4 w i0 1 [109,97,99,114,111]with
 |true=>
  rw[X6 b1]at eS;rw[F0 V.wl b1]at eR;simp only[a8,d7]at eS eR;cases hq:X1 w (i0+1)with
  |none=>
   rw[a6e V.hN V.wok hq,k7]at eS;rw[a5g V.hN V.wok hq]at eR;simp only[a8,c3u hN,a2L hN]at eR;exact .inr ⟨_,eS,_,_,_,eR⟩
  |some q=>
  have hql:=(a0r hq).1;have hqn:w9 q=true:=by obtain⟨_,_,h,rfl⟩:=a0r hq;exact h
  rw[a9I V.hN V.wok hq,o3]at eS;rw[a1M V.hN V.wl V.wok hq]at eR;simp only[a8]at eS eR;unfold a25 at eR;cases c1:N4 w (i0+1+1) 4 [40]with
  |false=>
   rw[a0O c1,k7]at eS;rw[W9 c1]at eR;obtain⟨f,hf,hf2⟩:=a4k hN;simp only[a8,a7u hf,a4v,Bool.not_true,d6,G8,a2L hN]at eR;exact .inr ⟨_,eS,_,_,_,eR⟩
  |true=>
  have l1:=I5 c1;rw[a0P c1,o3]at eS;rw[x7 V.wl c1]at eR;simp only[a8]at eS eR;rcases d48 V (M:=M ++ [(a,x)]) (p:=p) (d:=dp d [(a,x)]) (k:=3) (n:=0) (m:=0) (a:=a) (t:=q) (tx:=[]) (s:=[]) (i:=i0+1+1+1) (by omega)with⟨j,ls,g1,g2,g3,g4,s1,r1⟩|⟨c,s1,b,ys,r1⟩
  case inr=>
   rw[s1,k7]at eS;rw[r1]at eR;simp only[a8,a2L hN]at eR;exact .inr ⟨_,eS,_,_,_,eR⟩
  rw[s1,o3]at eS;rw[r1]at eR;simp only[a8]at eS eR;rcases B1 j (by omega) g2 (M ++ [(a,x)]) p (dp d [(a,x)]) (by omega)with⟨j2,Gs,T,k1,k2,k3,k3p,k4,k5,s2,r2⟩|⟨c,s2,y,b,K,r2⟩
  ·rw[s2,o3]at eS;rw[r2]at eR;simp only[a8]at eS eR;refine .inl ⟨j2,_,[(a,x)]++T,by omega,k2,by simp;omega,hp1.app k3p,?_,by rw[eS,a4n],by rw[eR,List.append_assoc]⟩;rw[show j2-i0=(j2-i0-1)+1 by omega];exact .inr (.inr (.inl ⟨q,ls,Gs,a,hqn,by omega,g4,k4,fun c hc=>(k5 c hc).mono (by omega),rfl⟩))
  ·rw[s2,k7]at eS;rw[r2]at eR;simp only[a8]at eR;exact .inr ⟨_,eS,_,_,_,eR⟩
 |false=>
 rw[U3 b1]at eS;rw[p8 b1]at eR;simp only[a8,d6]at eS eR;cases b2:N4 w i0 1 [102,111,114]with
 |true=>
  rw[X6 b2]at eS;rw[F0 V.wl b2]at eR;simp only[a8,d7]at eS eR;cases hq:X1 w (i0+1)with
  |none=>
   rw[a6e V.hN V.wok hq,k7]at eS;rw[a5g V.hN V.wok hq]at eR;simp only[a8,c5I,a7h hpos,a2L hN]at eR;exact .inr ⟨_,eS,_,_,_,eR⟩
  |some q=>
  have hql:=(a0r hq).1;have hqn:w9 q=true:=by obtain⟨_,_,h,rfl⟩:=a0r hq;exact h
  rw[a9I V.hN V.wok hq,o3]at eS;rw[a1M V.hN V.wl V.wok hq]at eR;simp only[a8]at eS eR;cases c1:N4 w (i0+1+1) 1 [105,110]with
  |false=>
   rw[d8x c1,k7]at eS;rw[c5J c1]at eR;simp only[a8,a7h hpos,a2L hN]at eR;exact .inr ⟨_,eS,_,_,_,eR⟩
  |true=>
  have l1:=I5 c1;rw[d8y c1,o3]at eS;rw[b9l V.wl c1]at eR;simp only[a8]at eS eR;rcases a8A V.hN V.wl V.wok V.e0 (i:=i0+1+1+1) (by omega) hx0 (by omega) (M ++ [(a,x)]) p (dp d [(a,x)]) (by omega)with⟨j,E,T,hj1,hj2,hT,hTp,hE,s1,r1⟩|⟨c,s1,y,b,L,r1⟩
  case inr=>
   rw[s1,k7]at eS;rw[r1]at eR;simp only[a8,a2L hN]at eR;exact .inr ⟨_,eS,_,_,_,eR⟩
  rw[s1,o3]at eS;rw[r1]at eR;simp only[a8]at eS eR;rw[<-a4n]at eS;rcases B1 j (by omega) hj2 (M ++ [(a,x)]++T) p (dp d ([(a,x)]++T)) (by rw[List.length_append];omega)with⟨j2,Gs,T2,k1,k2,k3,k3p,k4,k5,s2,r2⟩|⟨c,s2,y,b,K,r2⟩
  ·rw[s2,o3]at eS;rw[r2]at eR;simp only[a8,GExpr.eta]at eS eR;refine .inl ⟨j2,_,[(a,x)]++T++T2,by omega,k2,by simp;omega,(hp1.app hTp).app k3p,?_,by rw[eS,a4n d ([(a,x)]++T)],by rw[eR];simp only[List.append_assoc]⟩;rw[show j2-i0=(j2-i0-1)+1 by omega];exact .inr (.inr (.inr (.inl ⟨q,E,Gs,a,hqn,hE.mono (by omega),k4,fun c hc=>(k5 c hc).mono (by omega),rfl⟩)))
  ·rw[s2,k7]at eS;rw[r2]at eR;simp only[a8]at eR;exact .inr ⟨_,eS,_,_,_,eR⟩
 |false=>
 rw[U3 b2]at eS;rw[p8 b2]at eR;simp only[a8,d6]at eS eR;cases b3:N4 w i0 1 [105,102]with
 |true=>
  rw[X6 b3]at eS;rw[F0 V.wl b3]at eR;simp only[a8,d7]at eS eR;rcases a8A V.hN V.wl V.wok V.e0 (i:=i0+1) (by omega) hx0 (by omega) (M ++ [(a,x)]) p (dp d [(a,x)]) (by omega)with⟨j,E,T,hj1,hj2,hT,hTp,hE,s1,r1⟩|⟨c,s1,y,b,L,r1⟩
  case inr=>
   rw[s1,k7]at eS;rw[r1]at eR;simp only[a8,a2L hN,S3,d6]at eR;exact .inr ⟨_,eS,_,_,_,eR⟩
  rw[s1,o3]at eS;rw[r1]at eR;simp only[a8]at eS eR;rw[<-a4n]at eS;rcases B1 j (by omega) hj2 (M ++ [(a,x)]++T) p (dp d ([(a,x)]++T)) (by rw[List.length_append];omega)with⟨j2,Gs,T2,k1,k2,k3,k3p,k4,k5,s2,r2⟩|⟨c,s2,y,b,K,r2⟩
  case inr=>
   rw[s2,k7]at eS;rw[r2]at eR;simp only[a8,S3,d6]at eR;exact .inr ⟨_,eS,_,_,_,eR⟩
  rw[s2,o3]at eS;rw[r2]at eR;simp only[a8,GExpr.eta]at eS eR;rw[<-a4n]at eS;cases c1:N4 w j2 1 [101,108,115,101]with
  |false=>
   rw[U3 c1]at eS;rw[p8 c1]at eR;simp only[a8,d6]at eS eR;refine .inl ⟨j2,_,[(a,x)]++T++T2,by omega,k2,by simp;omega,(hp1.app hTp).app k3p,?_,eS,by rw[eR];simp only[List.append_assoc]⟩;rw[show j2-i0=(j2-i0-1)+1 by omega];exact .inr (.inr (.inr (.inr (.inl ⟨E,Gs,[],a,hE.mono (by omega),k4,fun c hc=>(k5 c hc).mono (by omega),by simp,by simp,rfl⟩))))
  |true=>
   have l1:=I5 c1;rw[X6 c1]at eS;rw[F0 V.wl c1]at eR;simp only[a8,d7]at eS eR;rcases B1 (j2+1) (by omega) (by omega) (M ++ [(a,x)]++T++T2) p (dp d ([(a,x)]++T++T2)) (by rw[List.length_append,List.length_append];omega)with⟨j3,Hs,T3,q1,q2,q3,q3p,q4,q5,s3,r3⟩|⟨c,s3,y,b,K,r3⟩
   ·rw[s3,o3]at eS;rw[r3]at eR;simp only[a8]at eS eR;refine .inl ⟨j3,_,[(a,x)]++T++T2++T3,by omega,q2,by simp;omega,((hp1.app hTp).app k3p).app q3p,?_,by rw[eS,a4n d ([(a,x)]++T++T2)],by rw[eR];simp only[List.append_assoc]⟩;rw[show j3-i0=(j3-i0-1)+1 by omega];exact .inr (.inr (.inr (.inr (.inl ⟨E,Gs,Hs,a,hE.mono (by omega),k4,fun c hc=>(k5 c hc).mono (by omega),q4,fun c hc=>(q5 c hc).mono (by omega),rfl⟩))))
   ·rw[s3,k7]at eS;rw[r3]at eR;simp only[a8]at eR;exact .inr ⟨_,eS,_,_,_,eR⟩
 |false=>
 rw[U3 b3]at eS;rw[p8 b3]at eR;simp only[a8,d6]at eS eR;cases b4:N4 w i0 1 [117,115,101]with
 |true=>
  rw[X6 b4]at eS;rw[F0 V.wl b4]at eR;simp only[a8,d7]at eS eR;cases ht:a4H w (i0+1)with
  |none=>
   rw[c3M ht,k7]at eS;rw[b9q ht]at eR;simp only[a8,G8]at eR;exact .inr ⟨_,eS,_,_,_,eR⟩
  |some s=>
  have htl:=(a5i ht).1;have hs:s.length<=50000:=by
   obtain⟨hi,h1,rfl⟩:=a5i ht;exact(V.wok _ (List.getElem_mem hi)).2
  rw[b9C ht,o3]at eS;rw[b0s V.wl ht]at eR;simp only[a8]at eS eR;cases c1:N4 w (i0+1+1) 4 [59]with
  |false=>
   rw[a0O c1,k7]at eS;rw[W9 c1]at eR;simp only[a8]at eR;exact .inr ⟨_,eS,_,_,_,eR⟩
  |true=>
   have l1:=I5 c1;rw[a0P c1,o3]at eS;rw[x7 V.wl c1]at eR;simp only[a8]at eS eR;refine .inl ⟨i0+1+1+1,_,[(a,x)],by omega,by omega,by simp;omega,hp1,?_,eS,eR⟩;rw[show i0+1+1+1-i0=2+1 by omega];exact .inr (.inr (.inr (.inr (.inr ⟨s,a,hs,rfl⟩))))
 |false=>
 rw[U3 b4]at eS;rw[p8 b4]at eR;simp only[a8,d6]at eS eR;by_cases hn:X1 w i0=none
 ·rw[a6e V.hN V.wok hn,k7]at eS;unfold N9 at eR;simp only[a5g V.hN V.wok hn,a8,S3,d6,c5H,b0p,G8]at eR;exact .inr ⟨_,eS,_,_,_,eR⟩
 rcases c7B V hil hx0 (by omega) (M ++ [(a,x)]) p (dp d [(a,x)]) a hM1 with⟨j,G,T,g1,g2,g3,g3p,g4,s1,r1⟩|⟨c,s1,y,b,K,r1⟩
 ·exact .inl ⟨j,G,[(a,x)]++T,g1,g2,by simp;omega,hp1.app g3p,g4,by rw[eS,s1,a4n],by rw[eR,r1,List.append_assoc]⟩
 ·exact .inr ⟨c,by rw[eS,s1],y,b,K,by rw[eR,r1]⟩
end
theorem c1n{w:List A6}{e:Int}(V:Wc N w e):∀(n i:Nat) (x:Int),i<=w.length->w.length-i+1<n->0<=x->x+((w.length-i:Nat):Int)<=60000->
  d7I N w e (o5 N n) (S2 N n) i x
 |0,i,x,hi,hn,_,_=>absurd hn (by omega)
 |n+1,i,x,hi,hn,h0,hx=>by
  obtain⟨n,rfl⟩:∃q,n=q+1:=⟨n-1,by omega⟩;exact c97 (S:=o5 N (n+1)) (B:=S2 N (n+1)) ⟨V,fun i' h1 h2 y h3 h4=>c1n V (n+1) i' y h2 (by omega) h3 h4,fun i' h1 h2 h3 y d=>b2s V h2 h3 y d⟩ hi h0 hx
end
section
variable{N:Nat}
abbrev zG:GStmt:=GStmt.mk (0:Int) ([]:d9) ([]:d9) ([]:List d9) ([]:List (d9×GExpr)) (GExpr.mk (0:Int) ([]:d9) (0:Int) ([]:List d9) ([]:List GExpr)) ([]:List GStmt) ([]:List GStmt) (0:Int)
section
variable{w:List A6}{e:Int}
abbrev AlR:Type:=Option (Except Int (List GStmt×Int×Bool×List A6×Int×Int×Int×Bool×List GStmt))
theorem e2L{l:List GStmt}(h:l.length<=50000):Zf (l.length + [zG].length) (.rc .stmt)=true:=c29 h
theorem c7D{f:Nat}(hf:0<f){x:Int}{k0:Int->Int->Bool->Int->List A6->List GStmt->Mk->Option (Int×Int×Bool×Int×List A6×List GStmt×Mk)}{a p:Int}{M:Mk}{Gs:List GStmt}:
  C0 N x k0 f a e true p w Gs M=k0 a e true p w Gs M:=by
 obtain⟨f,rfl⟩:∃q,f=q+1:=⟨f-1,by omega⟩;show D0 _ _ _ _ _ _ _ _ _ _ _=_;unfold D0;rw[Bool.not_true,d6]
theorem b7Z(V:Wc N w e){p:Int}{K:List A6->Int->Int->List GStmt->AlR}{k0:Int->Int->Bool->Int->List A6->List GStmt->Mk->Option (Int×Int×Bool×Int×List A6×List GStmt×Mk)}:
  ∀(u i f1 f2:Nat) (Gs:List GStmt) (T:Mk),i+u=w.length->u<f1->u<f2->Gs.length<=i->T.length<=i->Pos T->(∀G∈Gs,SOk 50001 G)->
  let SS:=f6f N K f1 (w.drop i) e (dp (-1) T) Gs
  let RR:=C0 N (0:Int) k0 f2 (i:Int) e false p w Gs T
  (∃(Hs:List GStmt) (T':Mk),Hs.length<=50000/\T'.length<=50000/\Pos T'/\(∀G∈Hs,SOk 50001 G)/\SS=K (w.drop w.length) e (dp (-1) T') Hs/\RR=k0 (w.length:Int) e false p w Hs T')\/
  (∃c,SS=some (.error c)/\((∃b ys L,RR=k0 b e true c w ys L)\/(∃(j:Nat) (ys:List GStmt) (L:Mk),j<w.length/\c=atS w j e/\RR=k0 (j:Int) e false p w ys L)))
 |u,i,f1,f2,Gs,T,hu,h1,h2,hGl,hT,hTp,hG=>by
  obtain⟨f1,rfl⟩:∃q,f1=q+1:=⟨f1-1,by omega⟩;obtain⟨f2,rfl⟩:∃q,f2=q+1:=⟨f2-1,by omega⟩;intro SS RR;have hwl:=V.wl;obtain⟨f,hf,hf2⟩:=a4k V.hN;have eS:SS=f6h N K (f6f N K f1) (w.drop i) e (dp (-1) T) Gs:=rfl;have eR:RR=D0 N 0 k0 (C0 N 0 k0 f2) (i:Int) e false p w Gs T:=rfl;unfold f6h at eS;unfold D0 at eR;rw[Bool.not_false,d7,Y8,a8]at eR;by_cases hil:i<w.length
  case neg=>
   obtain rfl:i=w.length:=by omega
   rw[c9l hil,d6]at eS;rw[Z9,d6]at eR;exact .inl ⟨Gs,T,by omega,by omega,hTp,hG,eS,eR⟩
  rw[c9m hil,d7]at eS;rw[V8 hil,d7]at eR;cases hb:N4 w i 4 [125]with
  |true=>
   obtain⟨hn,hn2⟩:=b3Z hb;have st:o5 N N 0 (w.drop i) e (dp (-1) T)=some (.error (atS w i e)):=by
    have:o5 N N=A8 N (o5 N f):=by
     conv=>lhs;arg 2;rw[hf]
     rfl
    rw[this,b2s V hn hn2]
   simp only[st,k7,C2,p7]at eS;rw[hb]at eR;simp only[Bool.not_true,d6]at eR;exact .inr ⟨_,eS,.inr ⟨i,_,_,hil,rfl,eR⟩⟩
  |false=>
   rw[hb]at eR;simp only[Bool.not_false,d7]at eR;rcases c1n V N i 0 (by omega) (by omega) (by omega) (by omega) T p (dp (-1) T) hT with⟨j,G,T2,hj1,hj2,hT2,hTp2,hG2,s1,r1⟩|⟨c,s1,y,b,L,r1⟩
   ·simp only[s1,o3,e2L (show Gs.length<=50000 by omega),c3g,b4q,a8,b46,d7,C2,p7]at eS;rw[r1,a8]at eR;simp only[GStmt.eta2,c29 (show Gs.length<=50000 by omega),d7]at eR;rw[<-a4n]at eS;have ih:=b7Z V (p:=p) (K:=K) (k0:=k0) (w.length-j) j f1 f2 (Gs ++ [G]) (T++T2) (by omega) (by omega) (by omega) (by simp;omega) (by rw[List.length_append];omega) (hTp.app hTp2) (fun y hy=>by
     rcases List.mem_append.1 hy with hy|hy
     ·exact hG y hy
     ·rw[List.mem_singleton.1 hy];exact hG2.mono (by omega))
    rw[eS,eR];exact ih
   ·simp only[s1,k7,C2,p7]at eS;rw[r1,a8]at eR;simp only[GStmt.eta2,c29 (show Gs.length<=50000 by omega),d7]at eR;rw[c7D (by omega)]at eR;exact .inr ⟨c,eS,.inl ⟨_,_,_,eR⟩⟩
 termination_by u=>u
end
end
section
open Go
theorem b2V{α:Type}{R:α->α->Prop}(hirr:∀a b,R a b->R b a->False):∀(l1 l2:List α),l1.Perm l2->l1.Pairwise R->l2.Pairwise R->l1=l2
 |[],l2,h,_,_=>(List.nil_perm.1 h).symm
 |a :: l1,[],h,_,_=>by have:=h.length_eq;simp at this
 |a :: l1,b :: l2,h,h1,h2=>by
  have hab:a=b:=by
   apply Classical.byContradiction;intro hne;have ha:a∈b :: l2:=h.subset (List.mem_cons_self ..);have hb:b∈a :: l1:=h.symm.subset (List.mem_cons_self ..);rcases List.mem_cons.1 ha with e|ha
   ·exact hne e
   ·rcases List.mem_cons.1 hb with e|hb
    ·exact hne e.symm
    ·exact hirr a b ((List.pairwise_cons.1 h1).1 b hb) ((List.pairwise_cons.1 h2).1 a ha)
  subst hab;rw[b2V hirr l1 l2 (List.Perm.cons_inv h) (List.pairwise_cons.1 h1).2 (List.pairwise_cons.1 h2).2]
theorem a5u(a:d9):¬a<a:=List.lt_irrefl a
theorem b9z{a b c:d9}(h1:a<b)(h2:b<c):a<c:=List.lt_trans h1 h2
end
section
theorem c3J(xs:List d9)(hn:xs.Nodup):(xs.mergeSort a0A).Pairwise (·< ·):=by
 have h1:=List.pairwise_mergeSort (le:=a0A) (fun a b c h1 h2=>by
  simp only[a0A,decide_eq_true_eq]at *;exact List.le_trans h1 h2) (fun a b=>by
  simp only[a0A,Bool.or_eq_true,decide_eq_true_eq];exact List.le_total _ _) xs
 have h2:(xs.mergeSort a0A).Nodup:=(List.mergeSort_perm xs a0A).nodup_iff.2 hn;refine(List.Pairwise.and h1 h2).imp fun{a b} ⟨hle,hne⟩=>?_
 simp only[a0A,decide_eq_true_eq]at hle;rcases List.le_iff_lt_or_eq.1 hle with h|h
 ·exact h
 ·exact absurd h hne
theorem d4I{α:Type}(key:α->d9){a b:List α}(ha:a.Pairwise fun x y=>key x<key y)(hb:b.Pairwise fun x y=>key x<key y)(h:∀n,n∈a↔n∈b):a=b:=by
 have nd:∀c:List α,(c.Pairwise fun x y=>key x<key y)->c.Nodup:=fun c hc=>hc.imp fun{x y} h e=>by subst e;exact a5u _ h
 exact b2V (fun x y h1 h2=>a5u _ (b9z h1 h2)) a b ((List.perm_ext_iff_of_nodup (nd a ha) (nd b hb)).2 h) ha hb
theorem d5p:∀{a b:List d9},a.Pairwise (·< ·)->b.Pairwise (·< ·)->(∀n,n∈a↔n∈b)->a=b:=fun{a b} ha hb h=>d4I id ha hb h
def c7K(m:List (d9×Bool))(l:List d9):List (d9×Bool):=l.foldl (fun m n=>a6V m n true) m
theorem c7t(m:List (d9×Bool))(n:d9)(b:Bool):((m.map (·.1)).Nodup->((a6V m n b).map (·.1)).Nodup)/\∀x,x∈(a6V m n b).map (·.1)↔x∈m.map (·.1)\/x=n:=by
 induction m with
 |nil=>exact⟨fun _=>by simp[a6V],fun x=>by simp[a6V]⟩
 |cons p m ih=>
  obtain⟨k,v⟩:=p;unfold a6V;by_cases h:n=k
  ·subst h;simp only[beq_self_eq_true,if_true];exact⟨fun h=>h,fun x=>⟨.inl,fun h=>h.elim id fun e=>by rw[e];simp⟩⟩
  ·have hb:(n==k)=false:=by simpa using h
   simp only[hb,Bool.false_eq_true,if_false,List.map_cons];refine⟨fun hn=>?_,fun x=>?_⟩
   ·rw[List.nodup_cons]at hn ⊢;refine⟨fun hm=>?_,ih.1 hn.2⟩;rcases(ih.2 k).1 hm with h1|h1
    ·exact hn.1 h1
    ·exact h h1.symm
   ·rw[List.mem_cons,List.mem_cons,ih.2];exact or_assoc.symm
theorem b2p:∀(l:List d9) (m:List (d9×Bool)),((m.map (·.1)).Nodup->((c7K m l).map (·.1)).Nodup)/\∀x,x∈(c7K m l).map (·.1)↔x∈m.map (·.1)\/x∈l
 |[],m=>⟨fun h=>h,fun x=>by simp[c7K]⟩
 |n :: l,m=>by
  have h1:=c7t m n true;have h2:=b2p l (a6V m n true);show((m.map (·.1)).Nodup->((c7K (a6V m n true) l).map (·.1)).Nodup)/\∀x,x∈(c7K (a6V m n true) l).map (·.1)↔_;refine⟨fun h=>h2.1 (h1.1 h),fun x=>?_⟩;rw[h2.2,h1.2,List.mem_cons,or_assoc]
def b21(l:List d9):List d9:=((c7K [] l).map (·.1)).mergeSort a0A
theorem b77(l:List d9):(b21 l).Pairwise (·< ·):=c3J _ ((b2p l []).1 List.nodup_nil)
theorem b16(l:List d9)(x:d9):x∈b21 l↔x∈l:=by
 unfold b21;rw[List.mem_mergeSort,(b2p l []).2];simp
theorem a99(d:Array d9)(hd:∀i j (hi:i<d.size) (hj:j<d.size),i<j->d[i]!<=d[j]!):∀m,m<=d.size->(Lib.compactUpTo d m).Pairwise (·< ·)/\∀x,x∈Lib.compactUpTo d m ↔ ∃j,j<m/\d[j]! = x
 |0,_=>by
  have:Lib.compactUpTo d 0=[]:=by simp[Lib.compactUpTo]
  rw[this];exact⟨List.Pairwise.nil,fun x=>⟨fun h=>(by cases h),fun⟨j,hj,_⟩=>absurd hj (Nat.not_lt_zero _)⟩⟩
 |m+1,hm=>by
  obtain⟨h1,h2⟩:=a99 d hd m (by omega);rw[Lib.compactUpTo_succ];have key:∀x,(∃j,j<m+1/\d[j]! = x)↔(∃j,j<m/\d[j]! = x)\/d[m]! = x:=fun x=>by
   constructor
   ·rintro⟨j,hj,e⟩;rcases Nat.lt_or_ge j m with h|h
    ·exact .inl ⟨j,h,e⟩
    ·obtain rfl:j=m:=by omega
     exact .inr e
   ·rintro(⟨j,hj,e⟩|e)
    ·exact⟨j,by omega,e⟩
    ·exact⟨m,by omega,e⟩
  cases hk:Lib.keeps d m with
  |true=>
   rw[if_pos rfl];refine⟨List.pairwise_append.2 ⟨h1,List.pairwise_singleton _ _,fun a ha b hb=>?_⟩,fun x=>?_⟩
   ·rw[List.mem_singleton.1 hb];obtain⟨j,hj,rfl⟩:=(h2 a).1 ha;have hne:d[m]! ≠ d[m-1]!:=fun e=>by
     rw[Lib.keeps_neg (by omega) e]at hk;cases hk
    have hlt:d[m-1]! < d[m]!:=by
     rcases List.le_iff_lt_or_eq.1 (hd (m-1) m (by omega) (by omega) (by omega))with h|h
     ·exact h
     ·exact absurd h.symm hne
    rcases Nat.lt_or_ge j (m-1)with h|h
    ·have h3:d[j]!<=d[m-1]!:=hd j (m-1) (by omega) (by omega) h;rcases List.le_iff_lt_or_eq.1 h3 with h4|h4
     ·exact List.lt_trans h4 hlt
     ·rw[h4];exact hlt
    ·obtain rfl:j=m-1:=by omega
     exact hlt
   ·rw[List.mem_append,h2,key,List.mem_singleton];exact⟨fun h=>h.imp id Eq.symm,fun h=>h.imp id Eq.symm⟩
  |false=>
   rw[if_neg (by simp),List.append_nil];refine⟨h1,fun x=>?_⟩;rw[h2,key];constructor
   ·exact .inl
   ·rintro(h|e)
    ·exact h
    ·have h0:m≠0:=fun h0=>by
      subst h0;rw[Lib.keeps_lt_one d 0 (by omega)]at hk;cases hk
     have he:d[m]! = d[m-1]!:=Classical.byContradiction fun hne=>by
      rw[Lib.keeps_pos hne]at hk;cases hk
     exact⟨m-1,by omega,he▸e⟩
theorem c20(zs:List d9)(h:zs.Pairwise (·<=·)):(Lib.compact zs).Pairwise (·< ·)/\∀x,x∈Lib.compact zs↔x∈zs:=by
 have hg:∀j (hj:j<zs.length),zs.toArray[j]! = zs[j]:=fun j hj=>by rw[getElem!_pos zs.toArray j (by simpa using hj)];simp
 have hsz:zs.toArray.size=zs.length:=by simp
 have:=a99 zs.toArray (fun i j hi hj hij=>by
  rw[hsz]at hi hj;rw[hg i hi,hg j hj];exact List.pairwise_iff_getElem.1 h i j hi hj hij) zs.length (by rw[hsz];exact Nat.le_refl _)
 refine⟨this.1,fun x=>(this.2 x).trans ⟨?_,fun hx=>?_⟩⟩
 ·rintro⟨j,hj,e⟩;rw[<-e,hg j hj];exact List.getElem_mem hj
 ·obtain⟨j,hj,e⟩:=List.getElem_of_mem hx;exact⟨j,hj,(hg j hj).trans e⟩
theorem c3I(xs:List d9):(xs.mergeSort a0A).Pairwise (·<=·):=by
 have:=List.pairwise_mergeSort (le:=a0A) (fun a b c h1 h2=>by
  simp only[a0A,decide_eq_true_eq]at *;exact List.le_trans h1 h2) (fun a b=>by
  simp only[a0A,Bool.or_eq_true,decide_eq_true_eq];exact List.le_total _ _) xs
 exact this.imp fun h=>by simpa [a0A]using h
theorem b8S(l:List d9):Lib.compact (l.mergeSort a0A)=b21 l:=by
 obtain⟨h1,h2⟩:=c20 _ (c3I l);exact d5p h1 (b77 l) fun x=>by rw[h2,List.mem_mergeSort,b16]
end
section
variable{N:Nat}
theorem b19:∀(a l:List d9),a.Nodup->(∀x∈a,x∈l)->a.length<=l.length
 |[],l,_,_=>Nat.zero_le _
 |x :: a,l,h,hs=>by
  have hx:=hs x (List.mem_cons_self ..);rw[List.nodup_cons]at h;have:=b19 a (l.erase x) h.2 fun y hy=>by
   have hne:y≠x:=fun e=>h.1 (e▸hy)
   exact(List.mem_erase_of_ne hne).2 (hs y (List.mem_cons_of_mem _ hy))
  rw[List.length_erase_of_mem hx]at this;have hp:0<l.length:=List.length_pos_of_mem hx;simp only[List.length_cons];omega
theorem b7G:∀(l:List d9),¬l.Nodup->∃x,x∈l.erase x/\x∈l
 |[],h=>absurd List.nodup_nil h
 |b :: l,h=>by
  by_cases hb:b∈l
  ·exact⟨b,by simpa using hb,by simp⟩
  ·have hl:¬l.Nodup:=fun h2=>h (List.nodup_cons.2 ⟨hb,h2⟩)
   obtain⟨x,h1,h2⟩:=b7G l hl;refine⟨x,?_,List.mem_cons_of_mem _ h2⟩;rw[List.erase_cons];split
   ·exact h2
   ·exact List.mem_cons_of_mem _ h1
theorem c7L(l:List d9):decide (((b21 l).length:Int)<(l.length:Int)) = !decide l.Nodup:=by
 have hnd:(b21 l).Nodup:=(b77 l).imp fun{x y} h e=>by subst e;exact a5u _ h
 by_cases h:l.Nodup
 ·have:=b19 l (b21 l) h fun x hx=>(b16 l x).2 hx
  rw[decide_eq_true h,decide_eq_false (by omega)];rfl
 ·obtain⟨x,h1,h2⟩:=b7G l h;have:=b19 (b21 l) (l.erase x) hnd fun y hy=>by
   have hy:=(b16 l y).1 hy;by_cases e:y=x
   ·rw[e];exact h1
   ·exact(List.mem_erase_of_ne e).2 hy
  rw[List.length_erase_of_mem h2]at this;have hp:0<l.length:=List.length_pos_of_mem h2;rw[decide_eq_false h,decide_eq_true (by omega)];rfl
theorem a2z(l:List d9)(h:l.length<=1000000):a0h N l=some (!decide l.Nodup):=by
 unfold a0h U1 a07 a0Q Q6;rw[a8,if_pos (by omega)];simp only[a8];unfold A9;rw[if_pos (by omega)];simp only[a8];rw[c2y _ (by rw[List.length_mergeSort];exact h)];unfold A5;simp only[a8,b8S,List.length_mergeSort,c7L]
end
section
variable{N:Nat}
section
variable(k n:Int)(t:d9)(ks:List d9)(gs:List GExpr)
theorem E4:(GExpr.mk k t n ks gs).kind=k:=rfl
theorem Z3:(GExpr.mk k t n ks gs).text=t:=rfl
theorem R9:(GExpr.mk k t n ks gs).number=n:=rfl
theorem Y1:(GExpr.mk k t n ks gs).keys=ks:=rfl
theorem E9:(GExpr.mk k t n ks gs).kids=gs:=rfl
end
def Z7(k q i:Int):Bool:=(k==7&&(q==8||(q==7&&i==1)))||(k==8&&q==8)
theorem c3f{k n:Int}{t:d9}{ks:List d9}{es:List GExpr}{j:Nat}(h:j<es.length):S5 N (GExpr.mk k t n ks es) (j:Int)=some (Z7 k es[j].kind (j:Int))/\a4z N (GExpr.mk k t n ks es) (j:Int)=some (Z7 k es[j].kind (j:Int)):=by
 unfold S5 a4z Z7;simp only[E4,E9,m6 _ h,a8];generalize (es[j].kind==8)=b1;generalize (es[j].kind==7)=b2;generalize ((j:Int)==1)=b3;generalize (k==7)=b4;generalize (k==8)=b5;cases b1<;>cases b2<;>cases b3<;>cases b4<;>cases b5<;>simp
abbrev Ck:Type:=GExpr->Int->Option Int
end
end Go.Proofs.YtolpmfhiegpohaaGreatDoor
