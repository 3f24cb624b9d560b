/- % -/
import Derived.Test.YtolpmfhiegpohaaGreatDoorQLPa5
import Derived.Test.YtolpmfhiegpohaaGreatDoorQBmJ
namespace Go.Proofs.YtolpmfhiegpohaaGreatDoor
set_option linter.unusedVariables false
set_option linter.unusedSimpArgs false
open Go Go.RowKit
noncomputable section
variable{N:Nat}
structure Wc(N:Nat)(w:List A6)(e:Int):Prop where
 hN:J0<=N
 wl:w.length<=50000
 wok:∀t∈w,a2C t
 e0:0<=e
abbrev KP:Type:=Int->Int->Bool->Int->List A6->Mk->List d7->Option (Int×Int×Bool×Int×List A6×Mk×List d7)
section
variable{w:List A6}{e:Int}
theorem d5h(V:Wc N w e){i:Nat}{q:d7}(h:Q1 w i=some q){k n m a d:Int}{t tx s:d7}:
  C0 N k t tx n s m a (w.drop i) e d=some (.ok (k,t,tx,n,s,m,a,w.drop (i+1),e,d,[q])):=by
 unfold C0;simp only[a65 V.hN V.wok h,m5,v8,o3,show Zf [q].length .str=true by simp[Ty.sz],d8]
theorem d5g(V:Wc N w e){i:Nat}(h:Q1 w i=none){k n m a d:Int}{t tx s:d7}:
  C0 N k t tx n s m a (w.drop i) e d=some (.error (S9 w i e)):=by
 unfold C0;simp only[a3K V.hN V.wok h,j9,v8,o3]
theorem d5j(V:Wc N w e){i:Nat}{q:d7}(h:Q1 w i=some q){k n m a d:Int}{t tx s:d7}{ks:List d7}(hk:ks.length<=50000):
  C9 N k t tx n s m a ks (w.drop i) e d=some (.ok (k,t,tx,n,s,m,a,ks ++ [q],w.drop (i+1),e,d)):=by
 unfold C9;simp only[a65 V.hN V.wok h,m5,v8,o3,a9j hk,d8]
theorem d5i(V:Wc N w e){i:Nat}(h:Q1 w i=none){k n m a d:Int}{t tx s:d7}{ks:List d7}:
  C9 N k t tx n s m a ks (w.drop i) e d=some (.error (S9 w i e)):=by
 unfold C9;simp only[a3K V.hN V.wok h,j9,v8,o3]
def c4s(N:Nat)(k0 self:KP)(a e:Int)(b:Bool)(p:Int)(w:List A6)(M:Mk)(ks:List d7):Option (Int×Int×Bool×Int×List A6×Mk×List d7):=j8 (x4 N a e b p w M) fun t23=>br (Zf (ks.length + [t23.1].length) .str) (j8 (k9 N (4:Int) ([44]:d7) t23.2.1 t23.2.2.1 t23.2.2.2.1 t23.2.2.2.2.1 t23.2.2.2.2.2.1 t23.2.2.2.2.2.2) fun t29=>br (!t29.1) (k0 t29.2.1 t29.2.2.1 t29.2.2.2.1 t29.2.2.2.2.1 t29.2.2.2.2.2.1 t29.2.2.2.2.2.2 (ks ++ [t23.1])) (self t29.2.1 t29.2.2.1 t29.2.2.2.1 t29.2.2.2.2.1 t29.2.2.2.2.2.1 t29.2.2.2.2.2.2 (ks ++ [t23.1]))) none
theorem a2f(k0 self:KP)(a e:Int)(b:Bool)(p:Int)(w:List A6)(M:Mk)(ks:List d7):J4 N k0 self a e b p w M ks =
  br (!b) (br (decide ((ks.length:Int)>(0:Int))) (c4s N k0 self a e b p w M ks) (j8 (D6 N (w,a,e,b,p) (4:Int) ([41]:d7)) fun t18=>br (!t18) (c4s N k0 self a e b p w M ks) (k0 a e b p w M ks))) (k0 a e b p w M ks):=rfl
theorem b6g(V:Wc N w e){i:Nat}{q:d7}(h:Q1 w i=some q){k0 self:KP}{p:Int}{M:Mk}{ks:List d7}(hk:ks.length<=50000):c4s N k0 self (i:Int) e false p w M ks =
  (j8 (k9 N (4:Int) ([44]:d7) ((i+1:Nat):Int) e false p w M) fun t29=>br (!t29.1)
   (k0 t29.2.1 t29.2.2.1 t29.2.2.2.1 t29.2.2.2.2.1 t29.2.2.2.2.2.1 t29.2.2.2.2.2.2 (ks ++ [q]))
   (self t29.2.1 t29.2.2.1 t29.2.2.2.1 t29.2.2.2.2.1 t29.2.2.2.2.2.1 t29.2.2.2.2.2.2 (ks ++ [q]))):=by
 unfold c4s;rw[a0o V.hN V.wl V.wok h,d2];simp only[a9j hk,d8]
theorem c6v(V:Wc N w e){i:Nat}(h:Q1 w i=none){k0 self:KP}{p:Int}{M:Mk}{ks:List d7}(hk:ks.length<=50000):c4s N k0 self (i:Int) e false p w M ks=k0 (i:Int) e true (S9 w i e) w M (ks ++ [[]]):=by
 unfold c4s;rw[a2M V.hN V.wok h,d2];simp only[a9j hk,d8,N6,d2,Bool.not_false]
theorem c6y{α:Type}{l:List α}(h:l ≠ []):decide ((l.length:Int)>0)=true:=decide_eq_true (by have:=List.length_pos_iff.2 h;omega)
theorem b7U(V:Wc N w e){i0:Nat}{M:Mk}{p d k n m a:Int}{t tx s:d7}
  {K:List A6->Int->Int->Int->d7->d7->Int->d7->Int->Int->List d7->Option (Except Int (List A6×Int×Int×Int×d7×d7×List d7×Int×d7×Int×Int))} {k0:KP}:
  ∀(u i f1 f2:Nat) (ks:List d7),i+u=w.length->u<f1->u<f2->ks ≠ []->ks.length+i0<=i->(∀q∈ks,A5 q=true)->
  let SS:=b3x N K f1 (w.drop i) e d k t tx n s m a ks
  let RR:=j8 (k9 N (4:Int) ([44]:d7) (i:Int) e false p w M) fun t29=>br (!t29.1)
   (k0 t29.2.1 t29.2.2.1 t29.2.2.2.1 t29.2.2.2.2.1 t29.2.2.2.2.2.1 t29.2.2.2.2.2.2 ks)
   (p7 N k0 f2 t29.2.1 t29.2.2.1 t29.2.2.2.1 t29.2.2.2.2.1 t29.2.2.2.2.2.1 t29.2.2.2.2.2.2 ks)
  (∃(j:Nat) (ls:List d7),i<=j/\j<=w.length/\ls.length+i0<=j/\(∀q∈ls,A5 q=true)/\SS=K (w.drop j) e d k t tx n s m a ls/\RR=k0 (j:Int) e false p w M ls)\/
  (∃c,SS=some (.error c)/\∃b ys,RR=k0 b e true c w M ys)
 |u,i,f1,f2,ks,hu,h1,h2,hne,hkl,hks=>by
  obtain⟨f1,rfl⟩:∃q,f1=q+1:=⟨f1-1,by omega⟩;obtain⟨f2,rfl⟩:∃q,f2=q+1:=⟨f2-1,by omega⟩;intro SS RR;have hwl:=V.wl;have eS:SS=b3y N K (b3x N K f1) (w.drop i) e d k t tx n s m a ks:=rfl;unfold b3y at eS;have eR:RR=j8 _ _:=rfl;cases hb:I9 w i 4 [44]with
  |false=>
   rw[O9 hb]at eS;rw[o5 hb]at eR;simp only[d2,d9,Bool.not_false,d8]at eS eR;exact .inl ⟨i,ks,by omega,by omega,hkl,hks,eS,eR⟩
  |true=>
   have hil:=G3 hb;rw[R4 hb]at eS;rw[C8 V.wl hb]at eR;simp only[d2,d8,Bool.not_true,d9]at eS eR;have eR2:RR=J4 N k0 (p7 N k0 f2) ((i+1:Nat):Int) e false p w M ks:=eR;rw[a2f,Bool.not_false,d8,c6y hne,d8]at eR2;cases hq:Q1 w (i+1)with
   |none=>
    rw[d5i V hq,j9]at eS;rw[c6v V hq (by omega)]at eR2;exact .inr ⟨_,eS,_,_,eR2⟩
   |some q=>
    have hql:=(S1 hq).1;rw[d5j V hq (by omega),m5]at eS;rw[b6g V hq (by omega)]at eR2;have hqn:A5 q=true:=by obtain⟨_,_,h,rfl⟩:=S1 hq;exact h
    have ih:=b7U V (i0:=i0) (M:=M) (p:=p) (d:=d) (k:=k) (n:=n) (m:=m) (a:=a) (t:=t) (tx:=tx) (s:=s) (K:=K) (k0:=k0) (w.length-(i+2)) (i+2) f1 f2 (ks ++ [q]) (by omega) (by omega) (by omega) (by simp) (by simp;omega) (fun y hy=>by
     rcases List.mem_append.1 hy with hy|hy
     ·exact hks y hy
     ·rw[List.mem_singleton.1 hy];exact hqn)
    rw[eS,eR2];rcases ih with⟨j,ls,u1,u2,u3,u4,u5,u6⟩|⟨c,u1,b,ys,u2⟩
    ·exact .inl ⟨j,ls,by omega,u2,u3,u4,u5,u6⟩
    ·exact .inr ⟨c,u1,b,ys,u2⟩
 termination_by u=>u
theorem a4W{f:Nat}(hf:N=f+1){k0:KP}{a e p:Int}{b:Bool}{w:List A6}{M:Mk}{ks:List d7}:p7 N k0 N a e b p w M ks=J4 N k0 (p7 N k0 f) a e b p w M ks:=by
 subst hf;rfl
theorem d15(V:Wc N w e){M:Mk}{p d k n m a:Int}{t tx s:d7}{i:Nat}(hi:i<=w.length):
  let SS:=N9 N ([41]:d7) true (w.drop i) e d k t tx n s m a
  let RR:=p7 N (fun o0_0_1 o0_0_2 o0_0_3 o0_0_4 o0_w1 o0_w2 o0_w1003=>
   j8 (k6 N ([41]:d7) o0_0_1 o0_0_2 o0_0_3 o0_0_4 o0_w1 o0_w2) fun t32=>
   some (t32.1,t32.2.1,t32.2.2.1,t32.2.2.2.1,t32.2.2.2.2.1,t32.2.2.2.2.2,o0_w1003)) N (i:Int) e false p w M ([]:List d7)
  (∃(j:Nat) (ls:List d7),i<j/\j<=w.length/\ls.length+i<=j/\(∀q∈ls,A5 q=true)/\SS=some (.ok (w.drop j,e,d,k,t,tx,ls,n,s,m,a))/\RR=some ((j:Int),e,false,p,w,M,ls))\/
  (∃c,SS=some (.error c)/\∃b ys,RR=some (b,e,true,c,w,M,ys)):=by
 intro SS RR;obtain⟨f,hf,hf2⟩:=a3y V.hN;have hwl:=V.wl;have eS:SS=N9 N ([41]:d7) true (w.drop i) e d k t tx n s m a:=rfl;have eR:RR=p7 N _ N (i:Int) e false p w M []:=rfl;unfold N9 at eS;rw[d8]at eS;rw[a4W hf,a2f,Bool.not_false,d8,show decide (((([]:List d7).length:Nat):Int)>0)=false by decide,d9,S5,d2]at eR;cases hb:I9 w i 4 [41]with
 |true=>
  have hbl:=G3 hb;rw[R4 hb]at eS;rw[hb]at eR;simp only[d2,d8,Bool.not_true,d9,t6 V.wl hb]at eS eR;exact .inl ⟨i+1,[],by omega,by omega,by rw[List.length_nil];omega,by simp,eS,eR⟩
 |false=>
  rw[O9 hb]at eS;rw[hb]at eR;simp only[d2,d9,Bool.not_false,d8]at eS eR;cases hq:Q1 w i with
  |none=>
   rw[d5g V hq,j9]at eS;rw[c6v V hq (by simp),E6,d2]at eR;exact .inr ⟨_,eS,_,_,eR⟩
  |some q=>
   have hql:=(S1 hq).1;have hqn:A5 q=true:=by obtain⟨_,_,h,rfl⟩:=S1 hq;exact h
   rw[d5h V hq,m5]at eS;rw[b6g V hq (by simp),List.nil_append]at eR;have lp:=b7U V (i0:=i) (M:=M) (p:=p) (d:=d) (k:=k) (n:=n) (m:=m) (a:=a) (t:=t) (tx:=tx) (s:=s)
    (K:=fun o0_0_0 o0_0_1 o0_0_2 o0_1_0 o0_1_1 o0_1_2 o0_1_5 o0_1_6 o0_1_7 o0_1_12 o0_w101500=>
     l8 (j7 N ([41]:d7) o0_0_0 o0_0_1 o0_0_2) fun t22=>
     some (.ok (t22.1,t22.2.1,t22.2.2,o0_1_0,o0_1_1,o0_1_2,o0_w101500,o0_1_5,o0_1_6,o0_1_7,o0_1_12)))
    (k0:=fun o0_0_1 o0_0_2 o0_0_3 o0_0_4 o0_w1 o0_w2 o0_w1003=>
     j8 (k6 N ([41]:d7) o0_0_1 o0_0_2 o0_0_3 o0_0_4 o0_w1 o0_w2) fun t32=>
     some (t32.1,t32.2.1,t32.2.2.1,t32.2.2.2.1,t32.2.2.2.2.1,t32.2.2.2.2.2,o0_w1003))
    (w.length-(i+1)) (i+1) N f [q] (by omega) (by omega) (by omega) (by simp) (by rw[List.length_singleton];omega) (fun y hy=>by rw[List.mem_singleton.1 hy];exact hqn)
   rw[eS,eR];rcases lp with⟨j,ls,u1,u2,u3,u4,u5,u6⟩|⟨c,u1,b,ys,u2⟩
   ·rw[u5,u6];cases hs:I9 w j 4 [41]with
    |true=>
     have hsl:=G3 hs;rw[W8 hs,t6 V.wl hs,m5,d2];exact .inl ⟨j+1,ls,by omega,by omega,by omega,u4,rfl,rfl⟩
    |false=>
     rw[W7 hs,Q6 hs,j9,d2];exact .inr ⟨_,rfl,_,_,rfl⟩
   ·rw[u1,u2,E6,d2];exact .inr ⟨_,rfl,_,_,rfl⟩
abbrev Ag:Type:=d7×GExpr
abbrev agB(l:List Ag):Nat:=(l.map fun c:Ag=>c.1.length+1+c.2.bulk).sum
abbrev KA:Type:=Int->Int->Bool->Int->List A6->Mk->List Ag->Option (Int×Int×Bool×Int×List A6×Mk×List Ag)
noncomputable def b9z(N:Nat)(x:Int)(k0 self:KA)(a e:Int)(b:Bool)(p:Int)(w:List A6)(M:Mk)(ag:List Ag):Option (Int×Int×Bool×Int×List A6×Mk×List Ag):=j8 (x4 N a e b p w M) fun t25=>j8 (k6 N ([61]:d7) t25.2.1 t25.2.2.1 t25.2.2.2.1 t25.2.2.2.2.1 t25.2.2.2.2.2.1 t25.2.2.2.2.2.2) fun t28=>j8 (w8 N N x t28.1 t28.2.1 t28.2.2.1 t28.2.2.2.1 t28.2.2.2.2.1 t28.2.2.2.2.2) fun t31=>br (Zf (ag.length + [(t25.1,Ze t31.1)].length) (.pr .str (.rc .expr))) (j8 (k9 N (4:Int) ([44]:d7) t31.2.1 t31.2.2.1 t31.2.2.2.1 t31.2.2.2.2.1 t31.2.2.2.2.2.1 t31.2.2.2.2.2.2) fun t38=>br (!t38.1) (k0 t38.2.1 t38.2.2.1 t38.2.2.2.1 t38.2.2.2.2.1 t38.2.2.2.2.2.1 t38.2.2.2.2.2.2 (ag ++ [(t25.1,Ze t31.1)])) (self t38.2.1 t38.2.2.1 t38.2.2.2.1 t38.2.2.2.2.1 t38.2.2.2.2.2.1 t38.2.2.2.2.2.2 (ag ++ [(t25.1,Ze t31.1)]))) none
theorem b5Q(x:Int)(k0 self:KA)(a e:Int)(b:Bool)(p:Int)(w:List A6)(M:Mk)(ag:List Ag):N0 N x k0 self a e b p w M ag =
  br (!b) (br (decide ((ag.length:Int)>(0:Int))) (b9z N x k0 self a e b p w M ag) (j8 (D6 N (w,a,e,b,p) (4:Int) ([41]:d7)) fun t20=>br (!t20) (b9z N x k0 self a e b p w M ag) (k0 a e b p w M ag))) (k0 a e b p w M ag):=rfl
theorem c55{l:List Ag}{z:Ag}(h:l.length<=50000):Zf (l.length + [z].length) (.pr .str (.rc .expr))=true:=b0a (by decide) (by simp;omega)
theorem b67(V:Wc N w e){i:Nat}(hi:i<=w.length){x:Int}(h0:0<=x)(hx:x<=60000)(M:Mk)(p d:Int)(hM:M.length<=i){k n m a:Int}{t tx s:d7}(k0 self:KA)(ag:List Ag)(hag:ag.length<=50000):
  (∃(j:Nat) (q:d7) (E:GExpr) (T:Mk),i+2<j/\j<=w.length/\T.length<=j-(i+2)/\Pos T/\A5 q=true/\(EOk 60000 E/\q.length+1+E.bulk<=60000*(j-i))/\
   H5 N x (w.drop i) e d k t tx n s m a=some (.ok (x,w.drop j,e,dp d T,k,t,tx,n,s,m,a,[(q,E)]))/\
   I1 N x (w.drop i) e d k t tx n s m a ag=some (.ok (x,w.drop j,e,dp d T,k,t,tx,n,s,m,a,ag ++ [(q,E)]))/\
   b9z N (x+1) k0 self (i:Int) e false p w M ag=(j8 (k9 N (4:Int) ([44]:d7) (j:Int) e false p w (M++T)) fun t38=>br (!t38.1)
    (k0 t38.2.1 t38.2.2.1 t38.2.2.2.1 t38.2.2.2.2.1 t38.2.2.2.2.2.1 t38.2.2.2.2.2.2 (ag ++ [(q,E)]))
    (self t38.2.1 t38.2.2.1 t38.2.2.2.1 t38.2.2.2.2.1 t38.2.2.2.2.2.1 t38.2.2.2.2.2.2 (ag ++ [(q,E)]))))\/
  (∃c,H5 N x (w.drop i) e d k t tx n s m a=some (.error c)/\I1 N x (w.drop i) e d k t tx n s m a ag=some (.error c)/\∃b L ys,b9z N (x+1) k0 self (i:Int) e false p w M ag=k0 b e true c w L ys):=by
 have hN:=V.hN;have hpos:0<N:=by unfold J0 at hN;omega
 unfold H5 I1 b9z;cases hq:Q1 w i with
 |none=>
  simp only[a3K V.hN V.wok hq,j9,a2M V.hN V.wok hq,d2,E6,a4J hpos,c55 hag,d8,N6,Bool.not_false];exact .inr ⟨_,rfl,rfl,_,_,_,rfl⟩
 |some q=>
  have hql:=(S1 hq).1;have hqn:A5 q=true:=by obtain⟨_,_,h,rfl⟩:=S1 hq;exact h
  have hqs:q.length<=50000:=by obtain⟨_,_,_,rfl⟩:=S1 hq;exact(V.wok _ (List.getElem_mem _)).2
  simp only[a65 V.hN V.wok hq,m5,a0o V.hN V.wl V.wok hq,d2];cases hb:I9 w (i+1) 4 [61]with
  |false=>
   simp only[W7 hb,j9,Q6 hb,d2,a4J hpos,c55 hag,d8,N6,Bool.not_false];exact .inr ⟨_,rfl,rfl,_,_,_,rfl⟩
  |true=>
   have hbl:=G3 hb;simp only[W8 hb,m5,t6 V.wl hb,d2];rcases a5V V.hN V.wl V.wok V.e0 (i:=i+1+1) (by omega) h0 hx M p d (by omega)with⟨j,E,T,hj1,hj2,hT,hTp,hE,s1,r1⟩|⟨c,s1,y,b,L,r1⟩
   ·have hwl:=V.wl;simp only[s1,m5,r1,d2,GExpr.eta,c55 hag,d8,v8,o3,show Zf [(q,E)].length (.pr .str (.rc .expr))=true from b0a (by decide) (by simp)];exact .inl ⟨j,q,E,T,by omega,hj2,by omega,hTp,hqn,⟨hE.1.mono (by omega),by have:=hE.2;omega⟩,rfl,rfl,rfl⟩
   ·simp only[s1,j9,r1,d2,c55 hag,d8,N6,Bool.not_false];exact .inr ⟨_,rfl,rfl,_,_,_,rfl⟩
theorem b66(V:Wc N w e){i0:Nat}{x:Int}(h0:0<=x)(hx:x<=60000){M0:Mk}(hM0:M0.length<=i0){p d k n m a:Int}{t tx s:d7}
  {K:List A6->Int->Int->Int->Int->d7->d7->Int->d7->Int->Int->List Ag->Option (Except Int (List A6×Int×Int×Int×Int×d7×d7×List Ag×Int×d7×Int×Int))} {k0:KA}:
  ∀(u i f1 f2:Nat) (ag:List Ag) (T:Mk),i+u=w.length->u<f1->u<f2->i0<=i->ag ≠ []->ag.length<=i->T.length<=i-i0->Pos T->agB ag<=60000*(i-i0)->(∀q∈ag,A5 q.1=true/\EOk 60000 q.2)->
  let SS:=b3g N K f1 (w.drop i) e (dp d T) x k t tx n s m a ag
  let RR:=j8 (k9 N (4:Int) ([44]:d7) (i:Int) e false p w (M0++T)) fun t38=>br (!t38.1)
   (k0 t38.2.1 t38.2.2.1 t38.2.2.2.1 t38.2.2.2.2.1 t38.2.2.2.2.2.1 t38.2.2.2.2.2.2 ag)
   (s4 N (x+1) k0 f2 t38.2.1 t38.2.2.1 t38.2.2.2.1 t38.2.2.2.2.1 t38.2.2.2.2.2.1 t38.2.2.2.2.2.2 ag)
  (∃(j:Nat) (ls:List Ag) (T':Mk),i<=j/\j<=w.length/\ls.length<=j/\T'.length<=j-i0/\(Pos T'/\agB ls<=60000*(j-i0))/\(∀q∈ls,A5 q.1=true/\EOk 60000 q.2)/\SS=K (w.drop j) e (dp d T') x k t tx n s m a ls/\RR=k0 (j:Int) e false p w (M0++T') ls)\/
  (∃c,SS=some (.error c)/\∃b L ys,RR=k0 b e true c w L ys)
 |u,i,f1,f2,ag,T,hu,h1,h2,hi0,hne,hal,hT,hTp,hgb,hag=>by
  obtain⟨f1,rfl⟩:∃q,f1=q+1:=⟨f1-1,by omega⟩;obtain⟨f2,rfl⟩:∃q,f2=q+1:=⟨f2-1,by omega⟩;intro SS RR;have hwl:=V.wl;have eS:SS=b3h N K (b3g N K f1) (w.drop i) e (dp d T) x k t tx n s m a ag:=rfl;unfold b3h at eS;have eR:RR=j8 _ _:=rfl;cases hb:I9 w i 4 [44]with
  |false=>
   rw[O9 hb]at eS;rw[o5 hb]at eR;simp only[d2,d9,Bool.not_false,d8]at eS eR;exact .inl ⟨i,ag,T,by omega,by omega,hal,hT,⟨hTp,hgb⟩,hag,eS,eR⟩
  |true=>
   have hil:=G3 hb;rw[R4 hb]at eS;rw[C8 V.wl hb]at eR;simp only[d2,d8,Bool.not_true,d9]at eS eR;have eR2:RR=N0 N (x+1) k0 (s4 N (x+1) k0 f2) ((i+1:Nat):Int) e false p w (M0++T) ag:=eR;rw[b5Q,Bool.not_false,d8,c6y hne,d8]at eR2;rcases b67 V (i:=i+1) (by omega) h0 hx (M0++T) p (dp d T) (by rw[List.length_append];omega) (k:=k) (n:=n) (m:=m) (a:=a) (t:=t) (tx:=tx) (s:=s) k0 (s4 N (x+1) k0 f2) ag (by omega)with⟨j,q,E,T2,hj1,hj2,hT2,hTp2,hqn,hE,_,s1,r1⟩|⟨c,_,s1,b,L,ys,r1⟩
   ·rw[s1,m5]at eS;rw[r1]at eR2;simp only at eS;rw[<-a16]at eS;rw[List.append_assoc]at eR2;have ih:=b66 V h0 hx hM0 (p:=p) (d:=d) (k:=k) (n:=n) (m:=m) (a:=a) (t:=t) (tx:=tx) (s:=s) (K:=K) (k0:=k0) (w.length-j) j f1 f2 (ag ++ [(q,E)]) (T++T2) (by omega) (by omega) (by omega) (by omega) (by simp) (by simp;omega) (by rw[List.length_append];omega) (hTp.app hTp2) (by have:=hE.2;unfold agB at hgb ⊢;simp only[List.map_append,List.sum_append,List.map_cons,List.map_nil,List.sum_cons,List.sum_nil];omega) (fun y hy=>by
     rcases List.mem_append.1 hy with hy|hy
     ·exact hag y hy
     ·rw[List.mem_singleton.1 hy];exact⟨hqn,hE.1⟩)
    rw[eS,eR2];rcases ih with⟨j',ls,T',u1,u2,u3,u4,u4p,u5,u6,u7⟩|⟨c,u1,b,L,ys,u2⟩
    ·exact .inl ⟨j',ls,T',by omega,u2,u3,u4,u4p,u5,u6,u7⟩
    ·exact .inr ⟨c,u1,b,L,ys,u2⟩
   ·rw[s1,j9]at eS;rw[r1]at eR2;exact .inr ⟨c,eS,b,L,ys,eR2⟩
 termination_by u=>u
theorem c3W{f:Nat}(hf:N=f+1){x:Int}{k0:KA}{a e p:Int}{b:Bool}{w:List A6}{M:Mk}{ag:List Ag}:s4 N x k0 N a e b p w M ag=N0 N x k0 (s4 N x k0 f) a e b p w M ag:=by
 subst hf;rfl
theorem d1E(V:Wc N w e){x:Int}(h0:0<=x)(hx:x<=60000){M:Mk}{p d k n m a:Int}{t tx s:d7}{i:Nat}(hi:i<=w.length)(hM:M.length<=i):
  let SS:=K6 N ([41]:d7) true (w.drop i) e d x k t tx n s m a
  let RR:=s4 N (x+1) (fun o0_0_1 o0_0_2 o0_0_3 o0_0_4 o0_w1 o0_w2 o0_w1005=>
   j8 (k6 N ([41]:d7) o0_0_1 o0_0_2 o0_0_3 o0_0_4 o0_w1 o0_w2) fun t41=>
   some (t41.1,t41.2.1,t41.2.2.1,t41.2.2.2.1,t41.2.2.2.2.1,t41.2.2.2.2.2,o0_w1005)) N (i:Int) e false p w M ([]:List Ag)
  (∃(j:Nat) (ls:List Ag) (T:Mk),i<j/\j<=w.length/\ls.length<=j/\T.length<=j-i/\(Pos T/\agB ls<=60000*(j-i))/\(∀q∈ls,A5 q.1=true/\EOk 60000 q.2)/\SS=some (.ok (w.drop j,e,dp d T,x,k,t,tx,ls,n,s,m,a))/\RR=some ((j:Int),e,false,p,w,M++T,ls))\/
  (∃c,SS=some (.error c)/\∃b L ys,RR=some (b,e,true,c,w,L,ys)):=by
 intro SS RR;obtain⟨f,hf,hf2⟩:=a3y V.hN;have hwl:=V.wl;have eS:SS=K6 N ([41]:d7) true (w.drop i) e d x k t tx n s m a:=rfl;have eR:RR=s4 N (x+1) _ N (i:Int) e false p w M []:=rfl;unfold K6 at eS;rw[d8]at eS;rw[c3W hf,b5Q,Bool.not_false,d8,show decide (((([]:List Ag).length:Nat):Int)>0)=false by decide,d9,S5,d2]at eR;cases hb:I9 w i 4 [41]with
 |true=>
  have hbl:=G3 hb;rw[R4 hb]at eS;rw[hb]at eR;simp only[d2,d8,Bool.not_true,d9,t6 V.wl hb]at eS eR;exact .inl ⟨i+1,[],[],by omega,by omega,by simp,by simp,⟨Pos.nil,by simp[agB]⟩,by simp,eS,by rw[eR,List.append_nil]⟩
 |false=>
  rw[O9 hb]at eS;rw[hb]at eR;simp only[d2,d9,Bool.not_false,d8]at eS eR;rcases b67 V (i:=i) hi h0 hx M p d hM (k:=k) (n:=n) (m:=m) (a:=a) (t:=t) (tx:=tx) (s:=s) _ _ [] (by simp)with⟨j,q,E,T2,hj1,hj2,hT2,hTp2,hqn,hE,s1,_,r1⟩|⟨c,s1,_,b,L,ys,r1⟩
  ·rw[s1,m5]at eS;rw[r1,List.nil_append]at eR;have lp:=b66 V h0 hx (i0:=i) hM (p:=p) (d:=d) (k:=k) (n:=n) (m:=m) (a:=a) (t:=t) (tx:=tx) (s:=s)
    (K:=fun o0_0_0 o0_0_1 o0_0_2 o0_2_0 o0_4_0 o0_4_1 o0_4_2 o0_4_5 o0_4_6 o0_4_7 o0_4_12 o0_w101500=>
     l8 (j7 N ([41]:d7) o0_0_0 o0_0_1 o0_0_2) fun t22=>
     some (.ok (t22.1,t22.2.1,t22.2.2,o0_2_0,o0_4_0,o0_4_1,o0_4_2,o0_w101500,o0_4_5,o0_4_6,o0_4_7,o0_4_12)))
    (k0:=fun o0_0_1 o0_0_2 o0_0_3 o0_0_4 o0_w1 o0_w2 o0_w1005=>
     j8 (k6 N ([41]:d7) o0_0_1 o0_0_2 o0_0_3 o0_0_4 o0_w1 o0_w2) fun t41=>
     some (t41.1,t41.2.1,t41.2.2.1,t41.2.2.2.1,t41.2.2.2.2.1,t41.2.2.2.2.2,o0_w1005))
    (w.length-j) j N f [(q,E)] T2 (by omega) (by omega) (by omega) (by omega) (by simp) (by simp;omega) (by omega) hTp2 (by have:=hE.2;unfold agB;simp only[List.map_cons,List.map_nil,List.sum_cons,List.sum_nil];omega) (fun y hy=>by rw[List.mem_singleton.1 hy];exact⟨hqn,hE.1⟩)
   rw[eS,eR];rcases lp with⟨j',ls,T',u1,u2,u3,u4,u4p,u5,u6,u7⟩|⟨c,u1,b,L,ys,u2⟩
   ·rw[u6,u7];cases hs:I9 w j' 4 [41]with
    |true=>
     have hsl:=G3 hs;rw[W8 hs,t6 V.wl hs,m5,d2];exact .inl ⟨j'+1,ls,T',by omega,by omega,by omega,by omega,⟨u4p.1,by have:=u4p.2;omega⟩,u5,rfl,rfl⟩
    |false=>
     rw[W7 hs,Q6 hs,j9,d2];exact .inr ⟨_,rfl,_,_,_,rfl⟩
   ·rw[u1,u2,E6,d2];exact .inr ⟨_,rfl,_,_,_,rfl⟩
  ·rw[s1,j9]at eS;rw[r1,E6,d2]at eR;exact .inr ⟨_,eS,_,_,_,eR⟩
end
end
section
variable{N:Nat}
theorem a5N{s:d7}(h:A5 s=true):s.length<=40:=by
 unfold A5 at h;cases s with
 |nil=>cases h
 |cons b x=>
  simp only[Bool.and_eq_true,decide_eq_true_eq]at h;exact h.1
abbrev zE:GExpr:=GExpr.mk (0:Int) ([]:d7) (0:Int) ([]:List d7) ([]:List GExpr)
theorem GStmt.eta2(s:GStmt):GStmt.mk s.kind s.name s.text s.params s.args (Ze s.expr) s.body s.els s.at_=s:=by
 cases s with
 |mk _ _ _ _ _ x _ _ _=>cases x;rfl
def SOk:Nat->GStmt->Prop|0,_=>False|k+1,s=>(∃q E a,A5 q=true/\EOk 60000 E/\s = .mk 1 q [] [] [] E [] [] a)\/(∃q ag a,A5 q=true/\ag.length<=50000/\(∀c∈ag,A5 c.1=true/\EOk 60000 c.2)/\s = .mk 2 q [] [] ag zE [] [] a)\/(∃q ps b a,A5 q=true/\ps.length<=50000/\(∀c∈ps,A5 c=true)/\b.length<=50000/\(∀c∈b,SOk k c)/\s = .mk 3 q [] ps [] zE b [] a)\/(∃q E b a,A5 q=true/\EOk 60000 E/\b.length<=50000/\(∀c∈b,SOk k c)/\s = .mk 4 q [] [] [] E b [] a)\/(∃E b l a,EOk 60000 E/\b.length<=50000/\(∀c∈b,SOk k c)/\l.length<=50000/\(∀c∈l,SOk k c)/\s = .mk 5 [] [] [] [] E b l a)\/(∃(t:d7) (a:Int),t.length<=50000/\s = .mk 6 [] t [] [] zE [] [] a)
theorem SOk.succ:∀{k:Nat} {s:GStmt},SOk k s->SOk (k+1) s
 |0,_,h=>h.elim
 |k+1,s,h=>by
  rcases h with h|h|⟨q,ps,b,a,h1,h2,h3,h4,h5,h6⟩|⟨q,E,b,a,h1,h2,h3,h4,h5⟩|⟨E,b,l,a,h1,h2,h3,h4,h5,h6⟩|h
  ·exact .inl h
  ·exact .inr (.inl h)
  ·exact .inr (.inr (.inl ⟨q,ps,b,a,h1,h2,h3,h4,fun c hc=>SOk.succ (h5 c hc),h6⟩))
  ·exact .inr (.inr (.inr (.inl ⟨q,E,b,a,h1,h2,h3,fun c hc=>SOk.succ (h4 c hc),h5⟩)))
  ·exact .inr (.inr (.inr (.inr (.inl ⟨E,b,l,a,h1,h2,fun c hc=>SOk.succ (h3 c hc),h4,fun c hc=>SOk.succ (h5 c hc),h6⟩))))
  ·exact .inr (.inr (.inr (.inr (.inr h))))
theorem SOk.mono{k m:Nat}{s:GStmt}(h:SOk k s)(hm:k<=m):SOk m s:=by
 obtain⟨d,rfl⟩:=Nat.exists_eq_add_of_le hm;induction d with
 |zero=>exact h
 |succ d ih=>exact SOk.succ (ih (by omega))
theorem a04(k:Int)(n t:d7)(l:List d7)(a:List Ag)(e:GExpr)(b f:List GStmt)(p:Int):GStmt.bulk (.mk k n t l a e b f p)=n.length+t.length+(l.map fun q:d7=>q.length+1).sum+(a.map fun c:Ag=>c.1.length+1+c.2.bulk).sum+e.bulk+(b.map GStmt.bulk).sum+(f.map GStmt.bulk).sum+9:=by
 rw[GStmt.bulk,a6T (fun c:GStmt=>GStmt.bulk c) b,a6T (fun c:GStmt=>GStmt.bulk c) f];show 1+(n.length+1+(t.length+1+((l.map fun q:d7=>q.length+1).sum+1+((a.map fun c:Ag=>c.1.length+1+c.2.bulk).sum+1+(e.bulk+((b.map GStmt.bulk).sum+1+((f.map GStmt.bulk).sum+1+1)))))))+1=_;omega
theorem b9H:zE.bulk=6:=by rw[a0M];rfl
def SG(k:Nat)(s:GStmt):Prop:=SOk k s/\s.bulk<=60000*k
def SGs(k:Nat)(l:List GStmt):Prop:=(∀s∈l,SOk k s)/\(l.map GStmt.bulk).sum<=60000*k
theorem SGs.mono{k m:Nat}{l:List GStmt}(h:SGs k l)(hm:k<=m):SGs m l:=⟨fun s hs=>(h.1 s hs).mono hm,by have:=h.2;omega⟩
theorem SGs.snoc{k j m:Nat}{l:List GStmt}{s:GStmt}(h:SGs k l)(g:SG j s)(hm:k+j<=m):SGs m (l ++ [s]):=⟨fun y hy=>by
 rcases List.mem_append.1 hy with hy|hy
 ·exact(h.1 y hy).mono (by omega)
 ·rw[List.mem_singleton.1 hy];exact g.1.mono (by omega),by
 have:=h.2;have:=g.2;simp only[List.map_append,List.sum_append,List.map_cons,List.map_nil,List.sum_cons,List.sum_nil];omega⟩
abbrev SSt:Type:=Int->List A6->Int->Int->Option (Except Int (GStmt×List A6×Int×Int))
abbrev RBt:Type:=Int->Int->Int->Bool->Int->List A6->Mk->Option (List GStmt×Int×Int×Bool×Int×List A6×Mk)
def d4O(N:Nat)(w:List A6)(e:Int)(S:SSt)(B:RBt)(i:Nat)(x:Int):Prop:=∀(M:Mk) (p d:Int),M.length<=i->(∃(j:Nat) (G:GStmt) (T:Mk),i<j/\j<=w.length/\T.length<=j-i/\Pos T/\SG (j-i) G/\S x (w.drop i) e d=some (.ok (G,w.drop j,e,dp d T))/\l9 N B x (i:Int) e false p w M=some (G,(j:Int),e,false,p,w,M++T))\/(∃c,S x (w.drop i) e d=some (.error c)/\∃y a K,l9 N B x (i:Int) e false p w M=some (y,a,e,true,c,w,K))
def d9A(N:Nat)(w:List A6)(e:Int)(S:SSt)(B:RBt)(i:Nat)(x:Int):Prop:=∀(M:Mk) (p d:Int),M.length<=i->(∃(j:Nat) (Gs:List GStmt) (T:Mk),i<j/\j<=w.length/\T.length<=j-i/\Pos T/\Gs.length<=50000/\SGs (j-i) Gs/\B7 N S x (w.drop i) e d=some (.ok (w.drop j,e,dp d T,Gs))/\y6 N B x (i:Int) e false p w M=some (Gs,(j:Int),e,false,p,w,M++T))\/(∃c,B7 N S x (w.drop i) e d=some (.error c)/\∃y a K,y6 N B x (i:Int) e false p w M=some (y,a,e,true,c,w,K))
structure Sx(N:Nat)(w:List A6)(e:Int)(S:SSt)(B:RBt)(i0:Nat):Prop where
 V:Wc N w e
 sim:∀i,i0<i->i<=w.length->∀x:Int,0<=x->x+((w.length-i:Nat):Int)<=60000->d4O N w e S B i x
 stop:∀i,i0<i->Q1 w i=none->(∀s,I9 w i 1 s=false)->∀x d,S x (w.drop i) e d=some (.error (S9 w i e))
theorem b9X{l:List GStmt}{z:GStmt}(h:l.length<=50000):Zf (l.length + [z].length) (.rc .stmt)=true:=b0a (by decide) (by simp;omega)
section
variable{w:List A6}{e x:Int}{S:SSt}{B:RBt}{i0:Nat}
theorem b1p{i:Nat}(h:¬i<w.length):Q1 w i=none/\∀k s,I9 w i k s=false:=by
 refine⟨?_,fun k s=>b53 h⟩;unfold Q1;rw[List.getElem?_eq_none (by omega)]
theorem b1e{i:Nat}{s:d7}(h:I9 w i 4 s=true):Q1 w i=none/\∀q,I9 w i 1 q=false:=by
 have hi:=G3 h;rw[a9n hi]at h;simp only[Bool.and_eq_true,beq_iff_eq]at h;refine⟨?_,fun q=>?_⟩
 ·unfold Q1;rw[List.getElem?_eq_getElem hi];simp[h.1]
 ·rw[a9n hi,h.1];rfl
theorem b1X{f:Nat}(hf:0<f){k0:Int->Int->Bool->Int->List A6->Mk->List GStmt->Option (Int×Int×Bool×Int×List A6×Mk×List GStmt)}{a p:Int}{M:Mk}{Gs:List GStmt}:
  A9 N B x k0 f a e true p w M Gs=k0 a e true p w M Gs:=by
 obtain⟨f,rfl⟩:∃q,f=q+1:=⟨f-1,by omega⟩;show y0 _ _ _ _ _ _ _ _ _ _ _ _=_;unfold y0;rw[Bool.not_true,d9]
theorem b1b(C:Sx N w e S B i0)(hx0:0<=x)(hxb:x+((w.length-i0:Nat):Int)<=60000){M0:Mk}(hM0:M0.length<=i0){p d:Int}
  {K:List A6->Int->Int->List GStmt->Option (Except Int (List A6×Int×Int×List GStmt))} {k0:Int->Int->Bool->Int->List A6->Mk->List GStmt->Option (Int×Int×Bool×Int×List A6×Mk×List GStmt)}:
  ∀(u i f1 f2:Nat) (Gs:List GStmt) (T:Mk),i+u=w.length->u<f1->u<f2->i0<i->Gs.length<=i->T.length<=i-i0->Pos T->SGs (i-i0) Gs->
  let SS:=b5x N S x K f1 (w.drop i) e (dp d T) Gs
  let RR:=A9 N B x k0 f2 (i:Int) e false p w (M0++T) Gs
  (∃(j:Nat) (Hs:List GStmt) (T':Mk),i<=j/\I9 w j 4 [125]=true/\Hs.length<=50000/\T'.length<=j-i0/\Pos T'/\SGs (j-i0) Hs/\SS=K (w.drop (j+1)) e (dp d T') Hs/\RR=k0 (j:Int) e false p w (M0++T') Hs)\/
  (∃c,SS=some (.error c)/\((∃b L ys,RR=k0 b e true c w L ys)\/(∃(j:Nat) (L:Mk) (ys:List GStmt),¬j<w.length/\c=e/\RR=k0 (j:Int) e false p w L ys)))
 |u,i,f1,f2,Gs,T,hu,h1,h2,hi,hGl,hT,hTp,hG=>by
  obtain⟨f1,rfl⟩:∃q,f1=q+1:=⟨f1-1,by omega⟩;obtain⟨f2,rfl⟩:∃q,f2=q+1:=⟨f2-1,by omega⟩;intro SS RR;have hwl:=C.V.wl;have eS:SS=b21 N S x K (b5x N S x K f1) (w.drop i) e (dp d T) Gs:=rfl;have eR:RR=y0 N B x k0 (A9 N B x k0 f2) (i:Int) e false p w (M0++T) Gs:=rfl;unfold b21 at eS;unfold y0 at eR;rw[Bool.not_false,d8,S5,d2]at eR;by_cases hil:i<w.length
  case neg=>
   obtain⟨hn,hb⟩:=b1p hil;rw[O9 (hb _ _)]at eS;rw[decide_eq_false (show ¬(i:Int)<(w.length:Int) by omega),d9]at eR;simp only[d2,Bool.not_false,d8]at eS;rw[C.stop i hi hn (fun s=>hb 1 s),j9,b08 hil]at eS;exact .inr ⟨e,eS,.inr ⟨i,_,_,hil,rfl,eR⟩⟩
  rw[decide_eq_true (show(i:Int)<(w.length:Int) by omega),d8]at eR;cases hb:I9 w i 4 [125]with
  |true=>
   rw[R4 hb]at eS;rw[hb]at eR;simp only[d2,Bool.not_true,d9]at eS eR;exact .inl ⟨i,Gs,T,by omega,hb,by omega,hT,hTp,hG,eS,eR⟩
  |false=>
   rw[O9 hb]at eS;rw[hb]at eR;simp only[d2,Bool.not_false,d8]at eS eR;rcases C.sim i hi (by omega) x hx0 (by omega) (M0++T) p (dp d T) (by rw[List.length_append];omega)with⟨j,G,T2,hj1,hj2,hT2,hTp2,hG2,s1,r1⟩|⟨c,s1,y,b,L,r1⟩
   ·rw[s1,m5]at eS;rw[r1,d2]at eR;simp only[GStmt.eta2,b9X (show Gs.length<=50000 by omega),d8]at eS eR;rw[<-a16]at eS;rw[List.append_assoc]at eR;have ih:=b1b C hx0 hxb hM0 (p:=p) (d:=d) (K:=K) (k0:=k0) (w.length-j) j f1 f2 (Gs ++ [G]) (T++T2) (by omega) (by omega) (by omega) (by omega) (by simp;omega) (by rw[List.length_append];omega) (hTp.app hTp2) (hG.snoc hG2 (by omega));rw[eS,eR];rcases ih with⟨j',Hs,T',u1,u2,u3,u4,u4p,u5,u6,u7⟩|ih
    ·exact .inl ⟨j',Hs,T',by omega,u2,u3,u4,u4p,u5,u6,u7⟩
    ·exact .inr ih
   ·rw[s1,j9]at eS;rw[r1,d2]at eR;simp only[GStmt.eta2,b9X (show Gs.length<=50000 by omega),d8]at eR;rw[b1X (by omega)]at eR;exact .inr ⟨c,eS,.inl ⟨_,_,_,eR⟩⟩
 termination_by u=>u
theorem c30(C:Sx N w e S B i0)(hi:i0<=w.length)(hx0:0<=x)(hxb:x+((w.length-i0:Nat):Int)<=60000):d9A N w e S B i0 x:=by
 intro M p d hM;obtain⟨f,hf,hf2⟩:=a3y C.V.hN;have hwl:=C.V.wl;obtain⟨SS,eS⟩:∃s,s=B7 N S x (w.drop i0) e d:=⟨_,rfl⟩;obtain⟨RR,eR⟩:∃s,s=y6 N B x (i0:Int) e false p w M:=⟨_,rfl⟩;rw[<-eS,<-eR];unfold B7 at eS;unfold y6 Q5 at eR;cases hb:I9 w i0 4 [123]with
 |false=>
  rw[W7 hb,j9]at eS;rw[Q6 hb,d2]at eR;simp only[b1X (show 0<N by omega),d2,E6]at eR;exact .inr ⟨_,eS,_,_,_,eR⟩
 |true=>
  have hbl:=G3 hb;rw[W8 hb,m5]at eS;rw[t6 C.V.wl hb,d2]at eR;have lp:=b1b C hx0 hxb (M0:=M) hM (p:=p) (d:=d)
   (K:=fun o0_0_0 o0_0_1 o0_0_2 o0_w1005=>some (.ok (o0_0_0,o0_0_1,o0_0_2,o0_w1005)))
   (k0:=fun o0_0_1 o0_0_2 o0_0_3 o0_0_4 o0_w1 o0_w2 o0_w1005=>some (o0_0_1,o0_0_2,o0_0_3,o0_0_4,o0_w1,o0_w2,o0_w1005))
   (w.length-(i0+1)) (i0+1) N N [] [] (by omega) (by omega) (by omega) (by omega) (by simp) (by simp) Pos.nil ⟨by simp,by simp⟩
  rw[List.append_nil]at lp;rcases lp with⟨j,Hs,T',u1,u2,u3,u4,u4p,u5,u6,u7⟩|⟨c,u1,⟨b,L,ys,u2⟩|⟨j,L,ys,h1,h2,u2⟩⟩
  ·have hjl:=G3 u2;rw[u7,d2]at eR;simp only[t6 C.V.wl u2,d2]at eR;exact .inl ⟨j+1,Hs,T',by omega,by omega,by omega,u4p,u3,u5.mono (by omega),by rw[eS];exact u6,eR⟩
  ·rw[u2,d2]at eR;simp only[E6,d2]at eR;exact .inr ⟨c,by rw[eS];exact u1,_,_,_,eR⟩
  ·rw[u2,d2]at eR;simp only[Q6 ((b1p h1).2 _ _),d2,b08 h1]at eR;exact .inr ⟨c,by rw[eS];exact u1,_,_,_,by rw[h2];exact eR⟩
theorem a03(hN:J0<=N){y a p:Int}{M:Mk}:y6 N B y a e true p w M=some (([]:List GStmt),a,e,true,p,w,M):=by
 obtain⟨f,hf,hf2⟩:=a3y hN;unfold y6 Q5;rw[E6,d2];simp only[b1X (show 0<N by omega),d2,E6]
theorem c0f(hN:J0<=N){a p:Int}{M:Mk}:Q3 N a e true p w M=some (a,e,true,p,w,M,([]:List d7)):=by
 obtain⟨f,hf,hf2⟩:=a3y hN;unfold Q3;rw[E6,d2];simp only[a4W hf,a2f,Bool.not_true,d9,E6,d2]
theorem d9I{i:Nat}{s q:d7}{k:Int}(h:I9 w i k s=true)(hne:s≠q):I9 w i k q=false:=by
 have hi:=G3 h;rw[a9n hi]at h ⊢;simp only[Bool.and_eq_true,beq_iff_eq]at h;rw[h.2,beq_eq_false_iff_ne.2 hne,Bool.and_false]
theorem a66(V:Wc N w e){i:Nat}{q:d7}(hq:Q1 w i=some q):q.length<=50000:=by obtain⟨_,_,_,rfl⟩:=S1 hq;exact(V.wok _ (List.getElem_mem _)).2
theorem c4u(V:Wc N w e){i:Nat}(hi:i<w.length)(hx0:0<=x)(hxb:x<=60000)(M:Mk)(p d a:Int)(hM:M.length<=i+1):
  let SS:=l8 (m8 N (w.drop i) e d) fun t15=>l8 (S3 N x t15.2.1 t15.2.2.1 t15.2.2.2 (0:Int) t15.1 ([]:d7) (0:Int) ([]:d7) (0:Int) a) fun t19=>
     some (.ok (GStmt.mk t19.2.2.2.1 t19.2.2.2.2.1 t19.2.2.2.2.2.1 ([]:List d7) t19.2.2.2.2.2.2.1 (GExpr.mk t19.2.2.2.2.2.2.2.1 t19.2.2.2.2.2.2.2.2.1 t19.2.2.2.2.2.2.2.2.2.1 t19.2.2.2.2.2.2.2.2.2.2.1 t19.2.2.2.2.2.2.2.2.2.2.2.1) ([]:List GStmt) ([]:List GStmt) t19.2.2.2.2.2.2.2.2.2.2.2.2,t19.1,t19.2.1,t19.2.2.1))
  let RR:=j8 (J5 N x (i:Int) e false p (0:Int) ([]:d7) ([]:d7) (0:Int) ([]:d7) (0:Int) a w M) fun t14=>
     some (GStmt.mk t14.2.2.2.2.1 t14.2.2.2.2.2.1 t14.2.2.2.2.2.2.1 ([]:List d7) t14.2.2.2.2.2.2.2.1 (GExpr.mk t14.2.2.2.2.2.2.2.2.1 t14.2.2.2.2.2.2.2.2.2.1 t14.2.2.2.2.2.2.2.2.2.2.1 t14.2.2.2.2.2.2.2.2.2.2.2.1 t14.2.2.2.2.2.2.2.2.2.2.2.2.1) ([]:List GStmt) ([]:List GStmt) t14.2.2.2.2.2.2.2.2.2.2.2.2.2.1,t14.1,t14.2.1,t14.2.2.1,t14.2.2.2.1,t14.2.2.2.2.2.2.2.2.2.2.2.2.2.2)
  (∃(j:Nat) (G:GStmt) (T:Mk),i<j/\j<=w.length/\T.length+1<=j-i/\Pos T/\SG (j-i) G/\SS=some (.ok (G,w.drop j,e,dp d T))/\RR=some (G,(j:Int),e,false,p,w,M++T))\/
  (∃c,SS=some (.error c)/\∃y b K,RR=some (y,b,e,true,c,w,K)):=by
 intro SS RR;have hN:=V.hN;have hwl:=V.wl;have hpos:0<N:=by unfold J0 at hN;omega
 have hx1:IntKind.i64.wrap (x+1)=x+1:=M7 (by omega) (by omega);have eS:SS=l8 _ _:=rfl;have eR:RR=j8 _ _:=rfl;unfold J5 at eR;simp only[hx1]at eR;cases hq:Q1 w i with
 |none=>
  rw[a3K V.hN V.wok hq,j9]at eS;rw[a2M V.hN V.wok hq]at eR;simp only[d2,N6,d9,c2x,b0L,E6]at eR;exact .inr ⟨_,eS,_,_,_,eR⟩
 |some q=>
  have hql:=(S1 hq).1;have hqn:A5 q=true:=by obtain⟨_,_,h,rfl⟩:=S1 hq;exact h
  have hqs:=a66 V hq;rw[a65 V.hN V.wok hq,m5]at eS;rw[a0o V.hN V.wl V.wok hq,d2]at eR;unfold S3 at eS;cases h40:I9 w (i+1) 4 [40]with
  |true=>
   have h61:=d9I h40 (show([40]:d7) ≠ [61] by decide);have hbl:=G3 h40;rw[R4 h40]at eS;rw[o5 h61]at eR;unfold a1b at eR;simp only[d2,d8,d9,S5,h40,t6 V.wl h40]at eS eR;rcases d1E V hx0 hxb (M:=M) (p:=p) (d:=d) (k:=2) (n:=0) (m:=0) (a:=a) (t:=q) (tx:=[]) (s:=[]) (i:=i+1+1) (by omega) (by omega)with⟨j,ls,T,g1,g2,g3,g4,g4p,g5,s1,r1⟩|⟨c,s1,b,L,ys,r1⟩
   ·rw[s1]at eS;rw[r1]at eR;simp only[m5,d2]at eS eR;cases hs:I9 w j 4 [59]with
    |true=>
     have hsl:=G3 hs;simp only[W8 hs,t6 V.wl hs,m5,d2]at eS eR;refine .inl ⟨j+1,_,T,by omega,by omega,by omega,g4p.1,?_,eS,eR⟩;rw[show j+1-i=(j-i)+1 by omega];exact⟨.inr (.inl ⟨q,ls,a,hqn,by omega,g5,rfl⟩),by have:=g4p.2;rw[a04,b9H];simp only[List.map_nil,List.sum_nil,List.length_nil];unfold agB at this;omega⟩
    |false=>
     simp only[W7 hs,Q6 hs,j9,d2]at eS eR;exact .inr ⟨_,eS,_,_,_,eR⟩
   ·rw[s1]at eS;rw[r1]at eR;simp only[j9,d2,E6]at eS eR;exact .inr ⟨_,eS,_,_,_,eR⟩
  |false=>
   rw[O9 h40]at eS;simp only[d2,d9,v8,o3]at eS;cases h61:I9 w (i+1) 4 [61]with
   |false=>
    rw[o5 h61]at eR;simp only[W7 h61,j9]at eS;simp only[d2,d9,S5,h40,a7N,E6]at eR;exact .inr ⟨_,eS,_,_,_,eR⟩
   |true=>
    have hbl:=G3 h61;rw[C8 V.wl h61]at eR;simp only[W8 h61,m5]at eS;simp only[d2,d8]at eR;rcases a5V V.hN V.wl V.wok V.e0 (i:=i+1+1) (by omega) hx0 hxb M p d (by omega)with⟨j,E,T,hj1,hj2,hT,hTp,hE,s1,r1⟩|⟨c,s1,y,b,L,r1⟩
    ·rw[s1]at eS;rw[r1]at eR;simp only[m5,d2]at eS eR;cases hs:I9 w j 4 [59]with
     |true=>
      have hsl:=G3 hs;simp only[W8 hs,t6 V.wl hs,m5,d2,GExpr.eta]at eS eR;refine .inl ⟨j+1,_,T,by omega,by omega,by omega,hTp,?_,eS,eR⟩;rw[show j+1-i=(j-i)+1 by omega];exact⟨.inl ⟨q,E,a,hqn,hE.1.mono (by omega),rfl⟩,by have:=hE.2;rw[a04];simp only[List.map_nil,List.sum_nil,List.length_nil];omega⟩
     |false=>
      simp only[W7 hs,Q6 hs,j9,d2]at eS eR;exact .inr ⟨_,eS,_,_,_,eR⟩
    ·rw[s1]at eS;rw[r1]at eR;simp only[j9,d2,E6]at eS eR;exact .inr ⟨_,eS,_,_,_,eR⟩
theorem a9L(V:Wc N w e){i:Nat}(hn:Q1 w i=none)(hb:∀s,I9 w i 1 s=false)(x d:Int):y3 N S x (w.drop i) e d=some (.error (S9 w i e)):=by
 unfold y3;simp only[b6w,d2,a5L,O9 (hb _),d9,a3K V.hN V.wok hn,j9]
end
end
section
variable{N:Nat}
section
variable{w:List A6}{e x:Int}{S:SSt}{B:RBt}{i0:Nat}
theorem Sx.next(C:Sx N w e S B i0){i1:Nat}(h:i0<=i1):Sx N w e S B i1:=
 ⟨C.V,fun i h1 h2 x h3 h4=>C.sim i (by omega) h2 x h3 h4,fun i h1 h2 h3 x d=>C.stop i (by omega) h2 h3 x d⟩
theorem c64(C:Sx N w e S B i0)(hi:i0<=w.length)(hx0:0<=x)(hxb:x+((w.length-i0:Nat):Int)<=60000):d4O N w e (y3 N S) (y6 N B) i0 x:=by
 intro M p d hM;have V:=C.V;have hN:=V.hN;have hwl:=V.wl;have hpos:0<N:=by unfold J0 at hN;omega
 have hx1:IntKind.i64.wrap (x+1)=x+1:=M7 (by omega) (by omega);obtain⟨SS,eS⟩:∃s,s=y3 N S x (w.drop i0) e d:=⟨_,rfl⟩;obtain⟨RR,eR⟩:∃s,s=l9 N (y6 N B) x (i0:Int) e false p w M:=⟨_,rfl⟩;rw[<-eS,<-eR];by_cases hil:i0<w.length
 case neg=>
  obtain⟨hn,hb⟩:=b1p hil;rw[a9L V hn (fun s=>hb 1 s)]at eS;unfold l9 at eR;rw[a0P,a1u (by omega)]at eR;simp only[d2,o5 (hb _ _),d9]at eR;unfold J5 at eR;simp only[a2M V.hN V.wok hn,d2,N6,d9,c2x,b0L,E6]at eR;exact .inr ⟨_,eS,_,_,_,eR⟩
 unfold y3 at eS;unfold l9 at eR;rw[a0P,a1u (by omega)]at eR;simp only[b6w,d2,a5L,hx1]at eS eR;have ha0:=b5R V.wok V.e0 i0;generalize ha:S9 w i0 e=a at eS eR ha0;have hp1:Pos [(a,x)]:=Pos.one ha0;have hM1:(M ++ [(a,x)]).length<=i0+1:=by simp;omega
 have hd:dp1 d (a,x)=dp d [(a,x)]:=rfl;rw[hd]at eS;have B1:=fun(j:Nat) (hj:i0<j) (hjl:j<=w.length)=>c30 (x:=x+1) (C.next (i1:=j) (by omega)) hjl (by omega) (by omega)
 cases b1:I9 w i0 1 [109,97,99,114,111]with
 |true=>
  rw[R4 b1]at eS;rw[C8 V.wl b1]at eR;simp only[d2,d8]at eS eR;cases hq:Q1 w (i0+1)with
  |none=>
   rw[a3K V.hN V.wok hq,j9]at eS;rw[a2M V.hN V.wok hq]at eR;simp only[d2,c0f hN,a03 hN]at eR;exact .inr ⟨_,eS,_,_,_,eR⟩
  |some q=>
  have hql:=(S1 hq).1;have hqn:A5 q=true:=by obtain⟨_,_,h,rfl⟩:=S1 hq;exact h
  rw[a65 V.hN V.wok hq,m5]at eS;rw[a0o V.hN V.wl V.wok hq]at eR;simp only[d2]at eS eR;unfold Q3 at eR;cases c1:I9 w (i0+1+1) 4 [40]with
  |false=>
   rw[W7 c1,j9]at eS;rw[Q6 c1]at eR;obtain⟨f,hf,hf2⟩:=a3y hN;simp only[d2,a4W hf,a2f,Bool.not_true,d9,E6,a03 hN]at eR;exact .inr ⟨_,eS,_,_,_,eR⟩
  |true=>
  have l1:=G3 c1;rw[W8 c1,m5]at eS;rw[t6 V.wl c1]at eR;simp only[d2]at eS eR;rcases d15 V (M:=M ++ [(a,x)]) (p:=p) (d:=dp d [(a,x)]) (k:=3) (n:=0) (m:=0) (a:=a) (t:=q) (tx:=[]) (s:=[]) (i:=i0+1+1+1) (by omega)with⟨j,ls,g1,g2,g3,g4,s1,r1⟩|⟨c,s1,b,ys,r1⟩
  case inr=>
   rw[s1,j9]at eS;rw[r1]at eR;simp only[d2,a03 hN]at eR;exact .inr ⟨_,eS,_,_,_,eR⟩
  rw[s1,m5]at eS;rw[r1]at eR;simp only[d2]at eS eR;rcases B1 j (by omega) g2 (M ++ [(a,x)]) p (dp d [(a,x)]) (by omega)with⟨j2,Gs,T,k1,k2,k3,k3p,k4,k5,s2,r2⟩|⟨c,s2,y,b,K,r2⟩
  ·rw[s2,m5]at eS;rw[r2]at eR;simp only[d2]at eS eR;refine .inl ⟨j2,_,[(a,x)]++T,by omega,k2,by simp;omega,hp1.app k3p,?_,by rw[eS,a16],by rw[eR,List.append_assoc]⟩;rw[show j2-i0=(j2-i0-1)+1 by omega];exact⟨.inr (.inr (.inl ⟨q,ls,Gs,a,hqn,by omega,g4,k4,fun c hc=>(k5.1 c hc).mono (by omega),rfl⟩)),by
    have:=k5.2;have:=a66 V hq;have:=b6E (fun q:d7=>q.length+1) 60000 ls fun q hq=>by have:=a5N (g4 q hq);omega
    rw[a04,b9H];simp only[List.map_nil,List.sum_nil,List.length_nil];omega⟩
  ·rw[s2,j9]at eS;rw[r2]at eR;simp only[d2]at eR;exact .inr ⟨_,eS,_,_,_,eR⟩
 |false=>
 rw[O9 b1]at eS;rw[o5 b1]at eR;simp only[d2,d9]at eS eR;cases b2:I9 w i0 1 [102,111,114]with
 |true=>
  rw[R4 b2]at eS;rw[C8 V.wl b2]at eR;simp only[d2,d8]at eS eR;cases hq:Q1 w (i0+1)with
  |none=>
   rw[a3K V.hN V.wok hq,j9]at eS;rw[a2M V.hN V.wok hq]at eR;simp only[d2,c2y,a4J hpos,a03 hN]at eR;exact .inr ⟨_,eS,_,_,_,eR⟩
  |some q=>
  have hql:=(S1 hq).1;have hqn:A5 q=true:=by obtain⟨_,_,h,rfl⟩:=S1 hq;exact h
  rw[a65 V.hN V.wok hq,m5]at eS;rw[a0o V.hN V.wl V.wok hq]at eR;simp only[d2]at eS eR;cases c1:I9 w (i0+1+1) 1 [105,110]with
  |false=>
   rw[d5F c1,j9]at eS;rw[c2z c1]at eR;simp only[d2,a4J hpos,a03 hN]at eR;exact .inr ⟨_,eS,_,_,_,eR⟩
  |true=>
  have l1:=G3 c1;rw[d5G c1,m5]at eS;rw[b6n V.wl c1]at eR;simp only[d2]at eS eR;rcases a5V V.hN V.wl V.wok V.e0 (i:=i0+1+1+1) (by omega) hx0 (by omega) (M ++ [(a,x)]) p (dp d [(a,x)]) (by omega)with⟨j,E,T,hj1,hj2,hT,hTp,hE,s1,r1⟩|⟨c,s1,y,b,L,r1⟩
  case inr=>
   rw[s1,j9]at eS;rw[r1]at eR;simp only[d2,a03 hN]at eR;exact .inr ⟨_,eS,_,_,_,eR⟩
  rw[s1,m5]at eS;rw[r1]at eR;simp only[d2]at eS eR;rw[<-a16]at eS;rcases B1 j (by omega) hj2 (M ++ [(a,x)]++T) p (dp d ([(a,x)]++T)) (by rw[List.length_append];omega)with⟨j2,Gs,T2,k1,k2,k3,k3p,k4,k5,s2,r2⟩|⟨c,s2,y,b,K,r2⟩
  ·rw[s2,m5]at eS;rw[r2]at eR;simp only[d2,GExpr.eta]at eS eR;refine .inl ⟨j2,_,[(a,x)]++T++T2,by omega,k2,by simp;omega,(hp1.app hTp).app k3p,?_,by rw[eS,a16 d ([(a,x)]++T)],by rw[eR];simp only[List.append_assoc]⟩;rw[show j2-i0=(j2-i0-1)+1 by omega];exact⟨.inr (.inr (.inr (.inl ⟨q,E,Gs,a,hqn,hE.1.mono (by omega),k4,fun c hc=>(k5.1 c hc).mono (by omega),rfl⟩))),by have:=k5.2;have:=hE.2;have:=a66 V hq;rw[a04];simp only[List.map_nil,List.sum_nil,List.length_nil];omega⟩
  ·rw[s2,j9]at eS;rw[r2]at eR;simp only[d2]at eR;exact .inr ⟨_,eS,_,_,_,eR⟩
 |false=>
 rw[O9 b2]at eS;rw[o5 b2]at eR;simp only[d2,d9]at eS eR;cases b3:I9 w i0 1 [105,102]with
 |true=>
  rw[R4 b3]at eS;rw[C8 V.wl b3]at eR;simp only[d2,d8]at eS eR;rcases a5V V.hN V.wl V.wok V.e0 (i:=i0+1) (by omega) hx0 (by omega) (M ++ [(a,x)]) p (dp d [(a,x)]) (by omega)with⟨j,E,T,hj1,hj2,hT,hTp,hE,s1,r1⟩|⟨c,s1,y,b,L,r1⟩
  case inr=>
   rw[s1,j9]at eS;rw[r1]at eR;simp only[d2,a03 hN,N6,d9]at eR;exact .inr ⟨_,eS,_,_,_,eR⟩
  rw[s1,m5]at eS;rw[r1]at eR;simp only[d2]at eS eR;rw[<-a16]at eS;rcases B1 j (by omega) hj2 (M ++ [(a,x)]++T) p (dp d ([(a,x)]++T)) (by rw[List.length_append];omega)with⟨j2,Gs,T2,k1,k2,k3,k3p,k4,k5,s2,r2⟩|⟨c,s2,y,b,K,r2⟩
  case inr=>
   rw[s2,j9]at eS;rw[r2]at eR;simp only[d2,N6,d9]at eR;exact .inr ⟨_,eS,_,_,_,eR⟩
  rw[s2,m5]at eS;rw[r2]at eR;simp only[d2,GExpr.eta]at eS eR;rw[<-a16]at eS;cases c1:I9 w j2 1 [101,108,115,101]with
  |false=>
   rw[O9 c1]at eS;rw[o5 c1]at eR;simp only[d2,d9]at eS eR;refine .inl ⟨j2,_,[(a,x)]++T++T2,by omega,k2,by simp;omega,(hp1.app hTp).app k3p,?_,eS,by rw[eR];simp only[List.append_assoc]⟩;rw[show j2-i0=(j2-i0-1)+1 by omega];exact⟨.inr (.inr (.inr (.inr (.inl ⟨E,Gs,[],a,hE.1.mono (by omega),k4,fun c hc=>(k5.1 c hc).mono (by omega),by simp,by simp,rfl⟩)))),by have:=k5.2;have:=hE.2;rw[a04];simp only[List.map_nil,List.sum_nil,List.length_nil];omega⟩
  |true=>
   have l1:=G3 c1;rw[R4 c1]at eS;rw[C8 V.wl c1]at eR;simp only[d2,d8]at eS eR;rcases B1 (j2+1) (by omega) (by omega) (M ++ [(a,x)]++T++T2) p (dp d ([(a,x)]++T++T2)) (by rw[List.length_append,List.length_append];omega)with⟨j3,Hs,T3,q1,q2,q3,q3p,q4,q5,s3,r3⟩|⟨c,s3,y,b,K,r3⟩
   ·rw[s3,m5]at eS;rw[r3]at eR;simp only[d2]at eS eR;refine .inl ⟨j3,_,[(a,x)]++T++T2++T3,by omega,q2,by simp;omega,((hp1.app hTp).app k3p).app q3p,?_,by rw[eS,a16 d ([(a,x)]++T++T2)],by rw[eR];simp only[List.append_assoc]⟩;rw[show j3-i0=(j3-i0-1)+1 by omega];exact⟨.inr (.inr (.inr (.inr (.inl ⟨E,Gs,Hs,a,hE.1.mono (by omega),k4,fun c hc=>(k5.1 c hc).mono (by omega),q4,fun c hc=>(q5.1 c hc).mono (by omega),rfl⟩)))),by have:=k5.2;have:=q5.2;have:=hE.2;rw[a04];simp only[List.map_nil,List.sum_nil,List.length_nil];omega⟩
   ·rw[s3,j9]at eS;rw[r3]at eR;simp only[d2]at eR;exact .inr ⟨_,eS,_,_,_,eR⟩
 |false=>
 rw[O9 b3]at eS;rw[o5 b3]at eR;simp only[d2,d9]at eS eR;cases b4:I9 w i0 1 [117,115,101]with
 |true=>
  rw[R4 b4]at eS;rw[C8 V.wl b4]at eR;simp only[d2,d8]at eS eR;cases ht:a2q w (i0+1)with
  |none=>
   rw[c0y ht,j9]at eS;rw[b6t ht]at eR;simp only[d2,E6]at eR;exact .inr ⟨_,eS,_,_,_,eR⟩
  |some s=>
  have htl:=(a2O ht).1;have hs:s.length<=50000:=by
   obtain⟨hi,h1,rfl⟩:=a2O ht;exact(V.wok _ (List.getElem_mem hi)).2
  rw[b6H ht,m5]at eS;rw[a7Q V.wl ht]at eR;simp only[d2]at eS eR;cases c1:I9 w (i0+1+1) 4 [59]with
  |false=>
   rw[W7 c1,j9]at eS;rw[Q6 c1]at eR;simp only[d2]at eR;exact .inr ⟨_,eS,_,_,_,eR⟩
  |true=>
   have l1:=G3 c1;rw[W8 c1,m5]at eS;rw[t6 V.wl c1]at eR;simp only[d2]at eS eR;refine .inl ⟨i0+1+1+1,_,[(a,x)],by omega,by omega,by simp;omega,hp1,?_,eS,eR⟩;rw[show i0+1+1+1-i0=2+1 by omega];exact⟨.inr (.inr (.inr (.inr (.inr ⟨s,a,hs,rfl⟩)))),by rw[a04,b9H];simp only[List.map_nil,List.sum_nil,List.length_nil];omega⟩
 |false=>
 rw[O9 b4]at eS;rw[o5 b4]at eR;simp only[d2,d9]at eS eR;by_cases hn:Q1 w i0=none
 ·rw[a3K V.hN V.wok hn,j9]at eS;unfold J5 at eR;simp only[a2M V.hN V.wok hn,d2,N6,d9,c2x,b0L,E6]at eR;exact .inr ⟨_,eS,_,_,_,eR⟩
 rcases c4u V hil hx0 (by omega) (M ++ [(a,x)]) p (dp d [(a,x)]) a hM1 with⟨j,G,T,g1,g2,g3,g3p,g4,s1,r1⟩|⟨c,s1,y,b,K,r1⟩
 ·exact .inl ⟨j,G,[(a,x)]++T,g1,g2,by simp;omega,hp1.app g3p,g4,by rw[eS,s1,a16],by rw[eR,r1,List.append_assoc]⟩
 ·exact .inr ⟨c,by rw[eS,s1],y,b,K,by rw[eR,r1]⟩
end
theorem b8n{w:List A6}{e:Int}(V:Wc N w e):∀(n i:Nat) (x:Int),i<=w.length->w.length-i+1<n->0<=x->x+((w.length-i:Nat):Int)<=60000->
  d4O N w e (m9 N n) (N5 N n) i x
 |0,i,x,hi,hn,_,_=>absurd hn (by omega)
 |n+1,i,x,hi,hn,h0,hx=>by
  obtain⟨n,rfl⟩:∃q,n=q+1:=⟨n-1,by omega⟩;exact c64 (S:=m9 N (n+1)) (B:=N5 N (n+1)) ⟨V,fun i' h1 h2 y h3 h4=>b8n V (n+1) i' y h2 (by omega) h3 h4,fun i' h1 h2 h3 y d=>a9L V h2 h3 y d⟩ hi h0 hx
end
section
variable{N:Nat}
abbrev zG:GStmt:=GStmt.mk (0:Int) ([]:d7) ([]:d7) ([]:List d7) ([]:List (d7×GExpr)) (GExpr.mk (0:Int) ([]:d7) (0:Int) ([]:List d7) ([]:List GExpr)) ([]:List GStmt) ([]:List GStmt) (0:Int)
section
variable{w:List A6}{e:Int}
abbrev AlR:Type:=Option (Except Int (List GStmt×Int×Bool×List A6×Int×Int×Int×Bool×List GStmt))
theorem d9J{l:List GStmt}(h:l.length<=50000):Zf (l.length + [zG].length) (.rc .stmt)=true:=b9X h
theorem c4w{f:Nat}(hf:0<f){x:Int}{k0:Int->Int->Bool->Int->List A6->List GStmt->Mk->Option (Int×Int×Bool×Int×List A6×List GStmt×Mk)}{a p:Int}{M:Mk}{Gs:List GStmt}:
  A8 N x k0 f a e true p w Gs M=k0 a e true p w Gs M:=by
 obtain⟨f,rfl⟩:∃q,f=q+1:=⟨f-1,by omega⟩;show B5 _ _ _ _ _ _ _ _ _ _ _=_;unfold B5;rw[Bool.not_true,d9]
theorem a9A(V:Wc N w e){p:Int}{K:List A6->Int->Int->List GStmt->AlR}{k0:Int->Int->Bool->Int->List A6->List GStmt->Mk->Option (Int×Int×Bool×Int×List A6×List GStmt×Mk)}:
  ∀(u i f1 f2:Nat) (Gs:List GStmt) (T:Mk),i+u=w.length->u<f1->u<f2->Gs.length<=i->T.length<=i->Pos T->(∀G∈Gs,SOk 50001 G)->(Gs.map GStmt.bulk).sum<=60000*i->
  let SS:=b0q N K f1 (w.drop i) e (dp (-1) T) Gs
  let RR:=A8 N (0:Int) k0 f2 (i:Int) e false p w Gs T
  (∃(Hs:List GStmt) (T':Mk),Hs.length<=50000/\T'.length<=50000/\Pos T'/\((∀G∈Hs,SOk 50001 G)/\(Hs.map GStmt.bulk).sum<=60000*w.length)/\SS=K (w.drop w.length) e (dp (-1) T') Hs/\RR=k0 (w.length:Int) e false p w Hs T')\/
  (∃c,SS=some (.error c)/\((∃b ys L,RR=k0 b e true c w ys L)\/(∃(j:Nat) (ys:List GStmt) (L:Mk),j<w.length/\c=S9 w j e/\RR=k0 (j:Int) e false p w ys L)))
 |u,i,f1,f2,Gs,T,hu,h1,h2,hGl,hT,hTp,hG,hGb=>by
  obtain⟨f1,rfl⟩:∃q,f1=q+1:=⟨f1-1,by omega⟩;obtain⟨f2,rfl⟩:∃q,f2=q+1:=⟨f2-1,by omega⟩;intro SS RR;have hwl:=V.wl;obtain⟨f,hf,hf2⟩:=a3y V.hN;have eS:SS=b3s N K (b0q N K f1) (w.drop i) e (dp (-1) T) Gs:=rfl;have eR:RR=B5 N 0 k0 (A8 N 0 k0 f2) (i:Int) e false p w Gs T:=rfl;unfold b3s at eS;unfold B5 at eR;rw[Bool.not_false,d8,S5,d2]at eR;by_cases hil:i<w.length
  case neg=>
   obtain rfl:i=w.length:=by omega
   rw[c6i hil,d9]at eS;rw[a1r,d9]at eR;exact .inl ⟨Gs,T,by omega,by omega,hTp,⟨hG,hGb⟩,eS,eR⟩
  rw[c6j hil,d8]at eS;rw[a0D hil,d8]at eR;cases hb:I9 w i 4 [125]with
  |true=>
   obtain⟨hn,hn2⟩:=b1e hb;have st:m9 N N 0 (w.drop i) e (dp (-1) T)=some (.error (S9 w i e)):=by
    have:m9 N N=y3 N (m9 N f):=by
     conv=>lhs;arg 2;rw[hf]
     rfl
    rw[this,a9L V hn hn2]
   simp only[st,j9,v8,o3]at eS;rw[hb]at eR;simp only[Bool.not_true,d9]at eR;exact .inr ⟨_,eS,.inr ⟨i,_,_,hil,rfl,eR⟩⟩
  |false=>
   rw[hb]at eR;simp only[Bool.not_false,d8]at eR;rcases b8n V N i 0 (by omega) (by omega) (by omega) (by omega) T p (dp (-1) T) hT with⟨j,G,T2,hj1,hj2,hT2,hTp2,hG2,s1,r1⟩|⟨c,s1,y,b,L,r1⟩
   ·simp only[s1,m5,d9J (show Gs.length<=50000 by omega),b94,b1z,d2,b2e,d8,v8,o3]at eS;rw[r1,d2]at eR;simp only[GStmt.eta2,b9X (show Gs.length<=50000 by omega),d8]at eR;rw[<-a16]at eS;have ih:=a9A V (p:=p) (K:=K) (k0:=k0) (w.length-j) j f1 f2 (Gs ++ [G]) (T++T2) (by omega) (by omega) (by omega) (by simp;omega) (by rw[List.length_append];omega) (hTp.app hTp2) (fun y hy=>by
     rcases List.mem_append.1 hy with hy|hy
     ·exact hG y hy
     ·rw[List.mem_singleton.1 hy];exact hG2.1.mono (by omega)) (by have:=hG2.2;simp only[List.map_append,List.sum_append,List.map_cons,List.map_nil,List.sum_cons,List.sum_nil];omega)
    rw[eS,eR];exact ih
   ·simp only[s1,j9,v8,o3]at eS;rw[r1,d2]at eR;simp only[GStmt.eta2,b9X (show Gs.length<=50000 by omega),d8]at eR;rw[c4w (by omega)]at eR;exact .inr ⟨c,eS,.inl ⟨_,_,_,eR⟩⟩
 termination_by u=>u
end
end
section
open Go
theorem b0e{α:Type}{R:α->α->Prop}(hirr:∀a b,R a b->R b a->False):∀(l1 l2:List α),l1.Perm l2->l1.Pairwise R->l2.Pairwise R->l1=l2
 |[],l2,h,_,_=>(List.nil_perm.1 h).symm
 |a :: l1,[],h,_,_=>by have:=h.length_eq;simp at this
 |a :: l1,b :: l2,h,h1,h2=>by
  have hab:a=b:=by
   apply Classical.byContradiction;intro hne;have ha:a∈b :: l2:=h.subset (List.mem_cons_self ..);have hb:b∈a :: l1:=h.symm.subset (List.mem_cons_self ..);rcases List.mem_cons.1 ha with e|ha
   ·exact hne e
   ·rcases List.mem_cons.1 hb with e|hb
    ·exact hne e.symm
    ·exact hirr a b ((List.pairwise_cons.1 h1).1 b hb) ((List.pairwise_cons.1 h2).1 a ha)
  subst hab;rw[b0e hirr l1 l2 (List.Perm.cons_inv h) (List.pairwise_cons.1 h1).2 (List.pairwise_cons.1 h2).2]
theorem a2X(a:d7):¬a<a:=List.lt_irrefl a
theorem b6D{a b c:d7}(h1:a<b)(h2:b<c):a<c:=List.lt_trans h1 h2
end
section
theorem c0v(xs:List d7)(hn:xs.Nodup):(xs.mergeSort a2a).Pairwise (·< ·):=by
 have h1:=List.pairwise_mergeSort (le:=a2a) (fun a b c h1 h2=>by
  simp only[a2a,decide_eq_true_eq]at *;exact List.le_trans h1 h2) (fun a b=>by
  simp only[a2a,Bool.or_eq_true,decide_eq_true_eq];exact List.le_total _ _) xs
 have h2:(xs.mergeSort a2a).Nodup:=(List.mergeSort_perm xs a2a).nodup_iff.2 hn;refine(List.Pairwise.and h1 h2).imp fun{a b} ⟨hle,hne⟩=>?_
 simp only[a2a,decide_eq_true_eq]at hle;rcases List.le_iff_lt_or_eq.1 hle with h|h
 ·exact h
 ·exact absurd h hne
theorem d1F{α:Type}(key:α->d7){a b:List α}(ha:a.Pairwise fun x y=>key x<key y)(hb:b.Pairwise fun x y=>key x<key y)(h:∀n,n∈a↔n∈b):a=b:=by
 have nd:∀c:List α,(c.Pairwise fun x y=>key x<key y)->c.Nodup:=fun c hc=>hc.imp fun{x y} h e=>by subst e;exact a2X _ h
 exact b0e (fun x y h1 h2=>a2X _ (b6D h1 h2)) a b ((List.perm_ext_iff_of_nodup (nd a ha) (nd b hb)).2 h) ha hb
theorem d2m:∀{a b:List d7},a.Pairwise (·< ·)->b.Pairwise (·< ·)->(∀n,n∈a↔n∈b)->a=b:=fun{a b} ha hb h=>d1F id ha hb h
def c4D(m:List (d7×Bool))(l:List d7):List (d7×Bool):=l.foldl (fun m n=>a4u m n true) m
theorem c4l(m:List (d7×Bool))(n:d7)(b:Bool):((m.map (·.1)).Nodup->((a4u m n b).map (·.1)).Nodup)/\∀x,x∈(a4u m n b).map (·.1)↔x∈m.map (·.1)\/x=n:=by
 induction m with
 |nil=>exact⟨fun _=>by simp[a4u],fun x=>by simp[a4u]⟩
 |cons p m ih=>
  obtain⟨k,v⟩:=p;unfold a4u;by_cases h:n=k
  ·subst h;simp only[beq_self_eq_true,if_true];exact⟨fun h=>h,fun x=>⟨.inl,fun h=>h.elim id fun e=>by rw[e];simp⟩⟩
  ·have hb:(n==k)=false:=by simpa using h
   simp only[hb,Bool.false_eq_true,if_false,List.map_cons];refine⟨fun hn=>?_,fun x=>?_⟩
   ·rw[List.nodup_cons]at hn ⊢;refine⟨fun hm=>?_,ih.1 hn.2⟩;rcases(ih.2 k).1 hm with h1|h1
    ·exact hn.1 h1
    ·exact h h1.symm
   ·rw[List.mem_cons,List.mem_cons,ih.2];exact or_assoc.symm
theorem a9I:∀(l:List d7) (m:List (d7×Bool)),((m.map (·.1)).Nodup->((c4D m l).map (·.1)).Nodup)/\∀x,x∈(c4D m l).map (·.1)↔x∈m.map (·.1)\/x∈l
 |[],m=>⟨fun h=>h,fun x=>by simp[c4D]⟩
 |n :: l,m=>by
  have h1:=c4l m n true;have h2:=a9I l (a4u m n true);show((m.map (·.1)).Nodup->((c4D (a4u m n true) l).map (·.1)).Nodup)/\∀x,x∈(c4D (a4u m n true) l).map (·.1)↔_;refine⟨fun h=>h2.1 (h1.1 h),fun x=>?_⟩;rw[h2.2,h1.2,List.mem_cons,or_assoc]
def b0m(l:List d7):List d7:=((c4D [] l).map (·.1)).mergeSort a2a
theorem b5a(l:List d7):(b0m l).Pairwise (·< ·):=c0v _ ((a9I l []).1 List.nodup_nil)
theorem a9r(l:List d7)(x:d7):x∈b0m l↔x∈l:=by
 unfold b0m;rw[List.mem_mergeSort,(a9I l []).2];simp
theorem a7A(d:Array d7)(hd:∀i j (hi:i<d.size) (hj:j<d.size),i<j->d[i]!<=d[j]!):∀m,m<=d.size->(Lib.compactUpTo d m).Pairwise (·< ·)/\∀x,x∈Lib.compactUpTo d m ↔ ∃j,j<m/\d[j]! = x
 |0,_=>by
  have:Lib.compactUpTo d 0=[]:=by simp[Lib.compactUpTo]
  rw[this];exact⟨List.Pairwise.nil,fun x=>⟨fun h=>(by cases h),fun⟨j,hj,_⟩=>absurd hj (Nat.not_lt_zero _)⟩⟩
 |m+1,hm=>by
  obtain⟨h1,h2⟩:=a7A d hd m (by omega);rw[Lib.compactUpTo_succ];have key:∀x,(∃j,j<m+1/\d[j]! = x)↔(∃j,j<m/\d[j]! = x)\/d[m]! = x:=fun x=>by
   constructor
   ·rintro⟨j,hj,e⟩;rcases Nat.lt_or_ge j m with h|h
    ·exact .inl ⟨j,h,e⟩
    ·obtain rfl:j=m:=by omega
     exact .inr e
   ·rintro(⟨j,hj,e⟩|e)
    ·exact⟨j,by omega,e⟩
    ·exact⟨m,by omega,e⟩
  cases hk:Lib.keeps d m with
  |true=>
   rw[if_pos rfl];refine⟨List.pairwise_append.2 ⟨h1,List.pairwise_singleton _ _,fun a ha b hb=>?_⟩,fun x=>?_⟩
   ·rw[List.mem_singleton.1 hb];obtain⟨j,hj,rfl⟩:=(h2 a).1 ha;have hne:d[m]! ≠ d[m-1]!:=fun e=>by
     rw[Lib.keeps_neg (by omega) e]at hk;cases hk
    have hlt:d[m-1]! < d[m]!:=by
     rcases List.le_iff_lt_or_eq.1 (hd (m-1) m (by omega) (by omega) (by omega))with h|h
     ·exact h
     ·exact absurd h.symm hne
    rcases Nat.lt_or_ge j (m-1)with h|h
    ·have h3:d[j]!<=d[m-1]!:=hd j (m-1) (by omega) (by omega) h;rcases List.le_iff_lt_or_eq.1 h3 with h4|h4
     ·exact List.lt_trans h4 hlt
     ·rw[h4];exact hlt
    ·obtain rfl:j=m-1:=by omega
     exact hlt
   ·rw[List.mem_append,h2,key,List.mem_singleton];exact⟨fun h=>h.imp id Eq.symm,fun h=>h.imp id Eq.symm⟩
  |false=>
   rw[if_neg (by simp),List.append_nil];refine⟨h1,fun x=>?_⟩;rw[h2,key];constructor
   ·exact .inl
   ·rintro(h|e)
    ·exact h
    ·have h0:m≠0:=fun h0=>by
      subst h0;rw[Lib.keeps_lt_one d 0 (by omega)]at hk;cases hk
     have he:d[m]! = d[m-1]!:=Classical.byContradiction fun hne=>by
      rw[Lib.keeps_pos hne]at hk;cases hk
     exact⟨m-1,by omega,he▸e⟩
theorem b9P(zs:List d7)(h:zs.Pairwise (·<=·)):(Lib.compact zs).Pairwise (·< ·)/\∀x,x∈Lib.compact zs↔x∈zs:=by
 have hg:∀j (hj:j<zs.length),zs.toArray[j]! = zs[j]:=fun j hj=>by rw[getElem!_pos zs.toArray j (by simpa using hj)];simp
 have hsz:zs.toArray.size=zs.length:=by simp
 have:=a7A zs.toArray (fun i j hi hj hij=>by
  rw[hsz]at hi hj;rw[hg i hi,hg j hj];exact List.pairwise_iff_getElem.1 h i j hi hj hij) zs.length (by rw[hsz];exact Nat.le_refl _)
 refine⟨this.1,fun x=>(this.2 x).trans ⟨?_,fun hx=>?_⟩⟩
 ·rintro⟨j,hj,e⟩;rw[<-e,hg j hj];exact List.getElem_mem hj
 ·obtain⟨j,hj,e⟩:=List.getElem_of_mem hx;exact⟨j,hj,(hg j hj).trans e⟩
theorem c0u(xs:List d7):(xs.mergeSort a2a).Pairwise (·<=·):=by
 have:=List.pairwise_mergeSort (le:=a2a) (fun a b c h1 h2=>by
  simp only[a2a,decide_eq_true_eq]at *;exact List.le_trans h1 h2) (fun a b=>by
  simp only[a2a,Bool.or_eq_true,decide_eq_true_eq];exact List.le_total _ _) xs
 exact this.imp fun h=>by simpa [a2a]using h
theorem b5V(l:List d7):Lib.compact (l.mergeSort a2a)=b0m l:=by
 obtain⟨h1,h2⟩:=b9P _ (c0u l);exact d2m h1 (b5a l) fun x=>by rw[h2,List.mem_mergeSort,a9r]
end
section
variable{N:Nat}
theorem a9t:∀(a l:List d7),a.Nodup->(∀x∈a,x∈l)->a.length<=l.length
 |[],l,_,_=>Nat.zero_le _
 |x :: a,l,h,hs=>by
  have hx:=hs x (List.mem_cons_self ..);rw[List.nodup_cons]at h;have:=a9t a (l.erase x) h.2 fun y hy=>by
   have hne:y≠x:=fun e=>h.1 (e▸hy)
   exact(List.mem_erase_of_ne hne).2 (hs y (List.mem_cons_of_mem _ hy))
  rw[List.length_erase_of_mem hx]at this;have hp:0<l.length:=List.length_pos_of_mem hx;simp only[List.length_cons];omega
theorem b4K:∀(l:List d7),¬l.Nodup->∃x,x∈l.erase x/\x∈l
 |[],h=>absurd List.nodup_nil h
 |b :: l,h=>by
  by_cases hb:b∈l
  ·exact⟨b,by simpa using hb,by simp⟩
  ·have hl:¬l.Nodup:=fun h2=>h (List.nodup_cons.2 ⟨hb,h2⟩)
   obtain⟨x,h1,h2⟩:=b4K l hl;refine⟨x,?_,List.mem_cons_of_mem _ h2⟩;rw[List.erase_cons];split
   ·exact h2
   ·exact List.mem_cons_of_mem _ h1
theorem c4E(l:List d7):decide (((b0m l).length:Int)<(l.length:Int)) = !decide l.Nodup:=by
 have hnd:(b0m l).Nodup:=(b5a l).imp fun{x y} h e=>by subst e;exact a2X _ h
 by_cases h:l.Nodup
 ·have:=a9t l (b0m l) h fun x hx=>(a9r l x).2 hx
  rw[decide_eq_true h,decide_eq_false (by omega)];rfl
 ·obtain⟨x,h1,h2⟩:=b4K l h;have:=a9t (b0m l) (l.erase x) hnd fun y hy=>by
   have hy:=(a9r l y).1 hy;by_cases e:y=x
   ·rw[e];exact h1
   ·exact(List.mem_erase_of_ne e).2 hy
  rw[List.length_erase_of_mem h2]at this;have hp:0<l.length:=List.length_pos_of_mem h2;rw[decide_eq_false h,decide_eq_true (by omega)];rfl
theorem a3n(l:List d7)(h:l.length<=1000000):r7 N l=some (!decide l.Nodup):=by
 unfold r7 O8 Y4 W9 P6;rw[d2,if_pos (by omega)];simp only[d2];unfold C2;rw[if_pos (by omega)];simp only[d2];rw[b9s _ (by rw[List.length_mergeSort];exact h)];unfold x8;simp only[d2,b5V,List.length_mergeSort,c4E]
end
section
variable{N:Nat}
section
variable(k n:Int)(t:d7)(ks:List d7)(gs:List GExpr)
theorem F5:(GExpr.mk k t n ks gs).kind=k:=rfl
theorem a0l:(GExpr.mk k t n ks gs).text=t:=rfl
theorem W4:(GExpr.mk k t n ks gs).number=n:=rfl
theorem Z3:(GExpr.mk k t n ks gs).keys=ks:=rfl
theorem E5:(GExpr.mk k t n ks gs).kids=gs:=rfl
end
def T9(k q i:Int):Bool:=(k==7&&(q==8||(q==7&&i==1)))||(k==8&&q==8)
theorem c6d{k n:Int}{t:d7}{ks:List d7}{es:List GExpr}{j:Nat}(h:j<es.length):N7 N (GExpr.mk k t n ks es) (j:Int)=some (T9 k es[j].kind (j:Int))/\a45 N (GExpr.mk k t n ks es) (j:Int)=some (T9 k es[j].kind (j:Int)):=by
 unfold N7 a45 T9;simp only[F5,E5,p6 _ h,d2];generalize (es[j].kind==8)=b1;generalize (es[j].kind==7)=b2;generalize ((j:Int)==1)=b3;generalize (k==7)=b4;generalize (k==8)=b5;cases b1<;>cases b2<;>cases b3<;>cases b4<;>cases b5<;>simp
abbrev Ck:Type:=GExpr->Int->Option Int
end
end Go.Proofs.YtolpmfhiegpohaaGreatDoor
