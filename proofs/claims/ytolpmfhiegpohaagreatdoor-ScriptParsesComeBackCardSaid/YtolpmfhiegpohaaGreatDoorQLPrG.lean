/- % -/
import Derived.Test.YtolpmfhiegpohaaGreatDoorQLBl4
import Derived.Test.YtolpmfhiegpohaaGreatDoorQLPaB
namespace Go.Proofs.YtolpmfhiegpohaaGreatDoor
set_option linter.unusedVariables false
set_option linter.unusedSimpArgs false
open Go Go.RowKit
section
variable{N:Nat}
abbrev c2h:d7:=[101,108,115,101]
theorem a1i:([109,97,99,114,111]:d7)∈a4t/\([102,111,114]:d7)∈a4t/\([105,102]:d7)∈a4t/\([117,115,101]:d7)∈a4t/\c2h∈a4t:=by decide
theorem a5l{k x:Nat}{s:GStmt}(h:WS k x s):∃u ks,tkS s=T4 u :: ks/\u≠c2h:=by
 cases k with
 |zero=>exact h.elim
 |succ k=>
  rcases h.2 with⟨q,E,a,m,h1,h2,rfl⟩|⟨q,ag,a,m,h1,h2,rfl⟩|⟨q,ps,b,a,h1,h2,h3,rfl⟩|⟨q,E,b,a,m,h1,h2,h3,rfl⟩|⟨E,b,l,a,m,h1,h2,h3,rfl⟩|⟨t,a,h1,rfl⟩
  ·rw[c7a];exact⟨q,_,rfl,a0n h1 a1i.2.2.2.2⟩
  ·rw[c2P];exact⟨q,_,rfl,a0n h1 a1i.2.2.2.2⟩
  ·rw[c7b];exact⟨_,_,rfl,by decide⟩
  ·rw[c7c];exact⟨_,_,rfl,by decide⟩
  ·rw[c7d];exact⟨_,_,rfl,by decide⟩
  ·rw[c7e];exact⟨_,_,rfl,by decide⟩
theorem b6I{k x:Nat}{s:GStmt}(h:WS k x s):0<(tkS s).length:=by
 obtain⟨u,ks,e,_⟩:=a5l h;rw[e];simp
def b1R(w:List A6)(j:Nat):Prop:=I9 w j 1 c2h=false
section
variable{w:List A6}{e0:Int}
theorem a9x{n:Nat}{k0:KP}{a e p:Int}{b:Bool}{M:Mk}{ks:List d7}:p7 N k0 (n+1) a e b p w M ks=J4 N k0 (p7 N k0 n) a e b p w M ks:=rfl
theorem b4w{n:Nat}{x:Int}{k0:KA}{a e p:Int}{b:Bool}{M:Mk}{ag:List Ag}:s4 N x k0 (n+1) a e b p w M ag=N0 N x k0 (s4 N x k0 n) a e b p w M ag:=rfl
theorem c2n(V:Wc N w e0){K:KP}{p:Int}{M:Mk}:∀(ps:List d7) (f i:Nat) (ks:List d7) (r:List Key),ps ≠ []->(∀q∈ps,A5 q=true)->ps.length<f->ks.length<=i->At w i (o8 (ps.map fun q=>[T4 q])++B8 41 :: r)->
  p7 N K f (i:Int) e0 false p w M ks=K ((i+(o8 (ps.map fun q=>[T4 q])).length:Nat):Int) e0 false p w M (ks++ps)
 |[],_,_,_,_,h0,_,_,_,_=>absurd rfl h0
 |[q],f,i,ks,r,_,hps,hf,hks,ha=>by
  obtain⟨f,rfl⟩:∃q,f=q+1:=⟨f-1,by simp at hf;omega⟩;have hwl:=V.wl;have ha':At w i (T4 q :: B8 41 :: r):=ha;have hi:=ha'.lt;have hn:=ha'.name (hps q (by simp));have h41:I9 w i 4 [41]=false:=by rw[ha'.is];rfl
  have hc:I9 w (i+1) 4 [44]=false:=by rw[ha'.tl.is];rfl
  rw[a9x,a2f,b6g V hn (by omega),o5 hc,S5,h41];simp only[Bool.not_false,d8,d2];cases decide ((ks.length:Int)>0)<;>simp only[d8,d9,List.map_cons,List.map_nil,o8,List.length_cons,List.length_nil]
 |q :: q' :: ps,f,i,ks,r,_,hps,hf,hks,ha=>by
  obtain⟨f,rfl⟩:∃q,f=q+1:=⟨f-1,by simp at hf;omega⟩;have hwl:=V.wl;rw[show o8 ((q :: q' :: ps).map fun q=>[T4 q])=[T4 q]++([B8 44]++o8 ((q' :: ps).map fun q=>[T4 q]))from rfl]at ha ⊢;have ha':At w i (T4 q :: B8 44 :: (o8 ((q' :: ps).map fun q=>[T4 q])++B8 41 :: r)):=by simpa using ha
  have hi:=ha'.lt;have hn:=ha'.name (hps q (by simp));have h41:I9 w i 4 [41]=false:=by rw[ha'.is];rfl
  have hc:I9 w (i+1) 4 [44]=true:=ha'.tl.sign;have ih:=c2n V (K:=K) (p:=p) (M:=M) (q' :: ps) f (i+1+1) (ks ++ [q]) r (by simp) (fun z hz=>hps z (List.mem_cons_of_mem _ hz)) (by simp at hf ⊢;omega) (by rw[List.length_append];simp;omega) ha'.tl.tl;rw[a9x,a2f,b6g V hn (by omega),C8 V.wl hc,S5,h41];simp only[Bool.not_false,d8,d2,Bool.not_true,d9];rw[ih];have e1:i+([T4 q]++([B8 44]++o8 ((q' :: ps).map fun q=>[T4 q]))).length=i+1+1+(o8 ((q' :: ps).map fun q=>[T4 q])).length:=by simp only[List.length_append,List.length_cons,List.length_nil];omega
  rw[e1,List.append_assoc];cases decide ((ks.length:Int)>0)<;>simp only[d8,d9,List.cons_append,List.nil_append]
theorem c1W(V:Wc N w e0){y m:Nat}(hy:y<40){K:KA}{p:Int}:∀(az:List Ag) (f i:Nat) (M:Mk) (ag:List Ag) (r:List Key),az ≠ []->(∀q∈az,A5 q.1=true/\WE m y q.2)->az.length<f->M.length<=i->ag.length<=i->At w i (o8 (az.map (a1D s5))++B8 41 :: r)->
  ∃T,Mok 0 T/\T.length<=(o8 (az.map (a1D s5))).length/\s4 N (y:Int) K f (i:Int) e0 false p w M ag=K ((i+(o8 (az.map (a1D s5))).length:Nat):Int) e0 false p w (M++T) (ag++az)
 |[],_,_,_,_,_,h0,_,_,_,_,_=>absurd rfl h0
 |(q,e) :: az,f,i,M,ag,r,_,has,hf,hM,hag,ha=>by
  obtain⟨f,rfl⟩:∃q,f=q+1:=⟨f-1,by simp at hf;omega⟩;obtain⟨hq,he⟩:=has (q,e) (by simp);have hwl:=V.wl;have hN:=V.hN;have hp:=Y5 he;obtain⟨rest,hrest,hcase⟩:∃rest,(o8 (((q,e) :: az).map (a1D s5))++B8 41 :: r=T4 q :: B8 61 :: (s5 e++rest))/\((az=[]/\rest=B8 41 :: r)\/(az ≠ []/\rest=B8 44 :: (o8 (az.map (a1D s5))++B8 41 :: r))):=by
   cases az with
   |nil=>exact⟨_,rfl,.inl ⟨rfl,rfl⟩⟩
   |cons z az=>exact⟨_,by rw[List.map_cons,List.map_cons,a1o];simp[a1D],.inr ⟨by simp,rfl⟩⟩
  rw[hrest]at ha;have b1:=ha.tl;have b2:=b1.tl;have b3:=b2.app;have hle:=b3.1.le (by intro h;rw[h]at hp;simp at hp);have hst:c2C w (i+1+1+(s5 e).length):=by
   rcases hcase with⟨_,hr⟩|⟨_,hr⟩
   ·rw[hr]at b3;exact b3.2.stop (by decide)
   ·rw[hr]at b3;exact b3.2.stop (by decide)
  obtain⟨T,t1,t2,t3⟩:=a4K V N m y y 0 e (i+1+1) (by omega) he (by unfold J0 at hN;omega) b3.1 hst M p (by omega);have h41:I9 w i 4 [41]=false:=by rw[ha.is];rfl
  have fitA':=c55 (l:=ag) (z:=(q,e)) (by omega);have eB:∀k0 self,b9z N (y:Int) k0 self (i:Int) e0 false p w M ag=(j8 (k9 N (4:Int) ([44]:d7) ((i+1+1+(s5 e).length:Nat):Int) e0 false p w (M++T)) fun t38=>br (!t38.1)
    (k0 t38.2.1 t38.2.2.1 t38.2.2.2.1 t38.2.2.2.2.1 t38.2.2.2.2.2.1 t38.2.2.2.2.2.2 (ag ++ [(q,e)]))
    (self t38.2.1 t38.2.2.1 t38.2.2.2.1 t38.2.2.2.2.1 t38.2.2.2.2.2.1 t38.2.2.2.2.2.2 (ag ++ [(q,e)]))):=fun k0 self=>by
   unfold b9z;simp only[a0o V.hN V.wl V.wok (ha.name hq),d2,t6 V.wl b1.sign,t3,GExpr.eta,fitA',d8]
  rw[b4w,b5Q,eB,S5,h41];rcases hcase with⟨rfl,hr⟩|⟨hz,hr⟩
  ·rw[hr]at b3;have hc:I9 w (i+1+1+(s5 e).length) 4 [44]=false:=by rw[b3.2.is];rfl
   have hlen:(o8 ([(q,e)].map (a1D s5))).length=2+(s5 e).length:=by simp only[List.map_cons,List.map_nil,o8,a1D,List.length_append,List.length_cons,List.length_nil]
   refine⟨T,t1,by rw[hlen];omega,?_⟩;rw[o5 hc,hlen,show i+(2+(s5 e).length)=i+1+1+(s5 e).length by omega];simp only[Bool.not_false,d8,d2];cases decide ((ag.length:Int)>0)<;>simp only[d8,d9]
  ·rw[hr]at b3;have hc:I9 w (i+1+1+(s5 e).length) 4 [44]=true:=b3.2.sign;obtain⟨U,u1,u2,u3⟩:=c1W V hy (K:=K) (p:=p) az f (i+1+1+(s5 e).length+1) (M++T) (ag ++ [(q,e)]) r hz (fun d hd=>has d (List.mem_cons_of_mem _ hd)) (by simp at hf ⊢;omega) (by rw[List.length_append];omega) (by rw[List.length_append];simp;omega) b3.2.tl;have hlen:(o8 (((q,e) :: az).map (a1D s5))).length=2+(s5 e).length+1+(o8 (az.map (a1D s5))).length:=by
    have:=congrArg List.length hrest;rw[hr]at this;simp only[List.length_append,List.length_cons]at this;omega
   refine⟨T++U,t1.app u1,by rw[List.length_append,hlen];omega,?_⟩;rw[C8 V.wl hc,hlen,show i+(2+(s5 e).length+1+(o8 (az.map (a1D s5))).length)=i+1+1+(s5 e).length+1+(o8 (az.map (a1D s5))).length by omega];simp only[Bool.not_false,d8,d2,Bool.not_true,d9];rw[u3,List.append_assoc,List.append_assoc];cases decide ((ag.length:Int)>0)<;>simp only[d8,d9,List.cons_append,List.nil_append]
def d64(w:List A6)(e0:Int)(B:RBt)(y i:Nat)(l:List GStmt)(j:Nat):Prop:=∀(M:Mk) (p:Int),M.length<=i->∃(T:Mk) (G:List GStmt),Mok 0 T/\T.length+i<=j/\erL G=erL l/\B (y:Int) (i:Int) e0 false p w M=some (G,(j:Int),e0,false,p,w,M++T)
def b9r(w:List A6)(e0:Int)(B:RBt)(L:Nat):Prop:=∀(k y i:Nat) (l:List GStmt),y<40->(∀s∈l,WS k y s)->(H2 l).length<L->At w i ([B8 123]++H2 l ++ [B8 125])->d64 w e0 B y i l (i+((H2 l).length+2))
variable{B:RBt}{L:Nat}
theorem d7o(V:Wc N w e0){i x:Nat}(hx:x<30):Mok 0 [(S9 w i e0,(x:Int))]:=b6a V i (x:=x) (c:=0) rfl hx
theorem b8p(V:Wc N w e0)(hB:b9r w e0 B L){k x i:Nat}{s:GStmt}(hs:WS (k+1) x s)(hl:(tkS s).length<=L)(ha:At w i (tkS s))(hne:b1R w (i+(tkS s).length)):∀(M:Mk) (p:Int),M.length<=i->
  ∃(T:Mk) (G:GStmt),Mok 0 T/\T.length+i<=i+(tkS s).length/\(erS G=erS s/\G.at_=S9 w i e0)/\l9 N B (x:Int) (i:Int) e0 false p w M=some (G,((i+(tkS s).length:Nat):Int),e0,false,p,w,M++T):=by
 intro M p hM;have hi:i<w.length:=by
  obtain⟨u,ks,e,_⟩:=a5l hs;rw[e]at ha;exact ha.lt
 obtain⟨hx,hs⟩:=hs;have hwl:=V.wl;have hN:=V.hN;have hmk:=d7o (i:=i) V hx;have hM1:(M ++ [(S9 w i e0,(x:Int))]).length<=i+1:=by simp;omega
 have hx1:IntKind.i64.wrap ((x:Int)+1)=((x+1:Nat):Int):=a5r (by omega);obtain⟨f,hf,hf2⟩:=a3y V.hN;rcases hs with⟨q,E,a,m,h1,h2,rfl⟩|⟨q,ag,a,m,h1,h2,rfl⟩|⟨q,ps,b,a,h1,h2,h3,rfl⟩|⟨q,E,b,a,m,h1,h2,h3,rfl⟩|⟨E,b,l,a,m,h1,h2,h3,rfl⟩|⟨t,a,h1,rfl⟩
 ·rw[c7a]at ha hl ⊢;have ha':At w i (T4 q :: B8 61 :: (s5 E ++ [B8 59])):=by simpa using ha
  have hlen:([T4 q,B8 61]++s5 E ++ [B8 59]).length=(s5 E).length+3:=by simp only[List.length_append,List.length_cons,List.length_nil];omega
  have n1:I9 w i 1 [109,97,99,114,111]=false:=by rw[ha'.is];simp[a0n h1 a1i.1]
  have n2:I9 w i 1 [102,111,114]=false:=by rw[ha'.is];simp[a0n h1 a1i.2.1]
  have n3:I9 w i 1 [105,102]=false:=by rw[ha'.is];simp[a0n h1 a1i.2.2.1]
  have n4:I9 w i 1 [117,115,101]=false:=by rw[ha'.is];simp[a0n h1 a1i.2.2.2.1]
  have b1:=ha'.tl;have b2:=b1.tl.app;obtain⟨T,t1,t2,t3⟩:=a4K V N m (x+1) (x+1) 0 E (i+1+1) (by omega) h2 (by have:=b2.1.le (by intro h;have:=Y5 h2;rw[h]at this;simp at this);unfold J0 at hN;omega) b2.1 (b2.2.stop (by decide)) (M ++ [(S9 w i e0,(x:Int))]) p (by omega);refine⟨[(S9 w i e0,(x:Int))]++T,.mk 1 q [] [] [] E [] [] (S9 w i e0),hmk.app t1,by rw[hlen];simp only[List.length_append,List.length_cons,List.length_nil];omega,⟨by rw[O1,O1];rfl,rfl⟩,?_⟩;unfold l9;rw[a0P,d2,a1u (by omega),d2];simp only[o5 n1,o5 n2,o5 n3,o5 n4,d2,d9];unfold J5;simp only[a0o V.hN V.wl V.wok (ha'.name h1),d2,C8 V.wl b1.sign,d8,hx1,t3,t6 V.wl b2.2.sign,GExpr.eta];rw[hlen,show i+((s5 E).length+3)=i+1+1+(s5 E).length+1 by omega,List.append_assoc]
 ·rw[c2P]at ha hl ⊢;have ha':At w i (T4 q :: B8 40 :: (o8 (ag.map (a1D s5))++B8 41 :: [B8 59])):=by simpa using ha
  have hlen:([T4 q,B8 40]++o8 (ag.map (a1D s5)) ++ [B8 41,B8 59]).length=(o8 (ag.map (a1D s5))).length+4:=by simp only[List.length_append,List.length_cons,List.length_nil];omega
  have n1:I9 w i 1 [109,97,99,114,111]=false:=by rw[ha'.is];simp[a0n h1 a1i.1]
  have n2:I9 w i 1 [102,111,114]=false:=by rw[ha'.is];simp[a0n h1 a1i.2.1]
  have n3:I9 w i 1 [105,102]=false:=by rw[ha'.is];simp[a0n h1 a1i.2.2.1]
  have n4:I9 w i 1 [117,115,101]=false:=by rw[ha'.is];simp[a0n h1 a1i.2.2.2.1]
  have b1:=ha'.tl;have b2:=b1.tl;have b3:=b2.app.2;have n5:I9 w (i+1) 4 [61]=false:=by rw[b1.is];rfl
  have hloop:∃T,Mok 0 T/\T.length<=(o8 (ag.map (a1D s5))).length/\s4 N ((x+1:Nat):Int) (fun o0_0_1 o0_0_2 o0_0_3 o0_0_4 o0_w1 o0_w2 o0_w1005=>
   j8 (k6 N ([41]:d7) o0_0_1 o0_0_2 o0_0_3 o0_0_4 o0_w1 o0_w2) fun t41=>
   some (t41.1,t41.2.1,t41.2.2.1,t41.2.2.2.1,t41.2.2.2.2.1,t41.2.2.2.2.2,o0_w1005)) N ((i+1+1:Nat):Int) e0 false p w (M ++ [(S9 w i e0,(x:Int))]) []=some (((i+1+1+(o8 (ag.map (a1D s5))).length+1:Nat):Int),e0,false,p,w,M ++ [(S9 w i e0,(x:Int))]++T,ag):=by
   cases ag with
   |nil=>
    refine⟨[],Mok.nil,by simp,?_⟩;have b2':At w (i+1+1) (B8 41 :: [B8 59]):=b2;rw[hf,b4w,b5Q,S5,b2'.sign,t6 V.wl b2'.sign];simp only[Bool.not_false,d8,List.length_nil,show decide (((0:Nat):Int)>0)=false by decide,d9,d2,Bool.not_true,List.append_nil];rfl
   |cons z az=>
    have hlt:(z :: az).length<N:=by
     have h5:=a3h (l:=(z :: az).map (a1D s5)) (fun s hs=>by
      obtain⟨d,hd,rfl⟩:=List.mem_map.1 hs;simp[a1D])
     rw[List.length_map]at h5;have h6:=b2.app.1.le (by intro h;rw[h]at h5;simp at h5);omega
    obtain⟨T,t1,t2,t3⟩:=c1W V (y:=x+1) (m:=m) (by omega) (p:=p) (K:=fun o0_0_1 o0_0_2 o0_0_3 o0_0_4 o0_w1 o0_w2 o0_w1005=>
     j8 (k6 N ([41]:d7) o0_0_1 o0_0_2 o0_0_3 o0_0_4 o0_w1 o0_w2) fun t41=>
     some (t41.1,t41.2.1,t41.2.2.1,t41.2.2.2.1,t41.2.2.2.2.1,t41.2.2.2.2.2,o0_w1005)) (z :: az) N (i+1+1) (M ++ [(S9 w i e0,(x:Int))]) [] [B8 59] (by simp) h2 hlt (by omega) (by simp) b2
    refine⟨T,t1,t2,?_⟩;rw[t3];simp only[t6 V.wl b3.sign,d2,List.nil_append]
  obtain⟨T,t1,t2,t3⟩:=hloop;refine⟨[(S9 w i e0,(x:Int))]++T,.mk 2 q [] [] ag zE [] [] (S9 w i e0),hmk.app t1,by rw[hlen];simp only[List.length_append,List.length_cons,List.length_nil];omega,⟨by rw[O1,O1];rfl,rfl⟩,?_⟩;unfold l9;rw[a0P,d2,a1u (by omega),d2];simp only[o5 n1,o5 n2,o5 n3,o5 n4,d2,d9];unfold J5;simp only[a0o V.hN V.wl V.wok (ha'.name h1),d2,o5 n5,d9,S5,b1.sign,d8];unfold a1b;simp only[t6 V.wl b1.sign,d2,hx1];rw[t3];simp only[d2,t6 V.wl b3.tl.sign];rw[hlen,show i+((o8 (ag.map (a1D s5))).length+4)=i+1+1+(o8 (ag.map (a1D s5))).length+1+1 by omega,List.append_assoc]
 ·rw[c7b]at ha hl ⊢;have ha':At w i (T4 [109,97,99,114,111] :: T4 q :: B8 40 :: (o8 (ps.map fun p=>[T4 p])++B8 41 :: ([B8 123]++H2 b ++ [B8 125]))):=by simpa using ha
  have hlen:([T4 [109,97,99,114,111],T4 q,B8 40]++o8 (ps.map fun p=>[T4 p]) ++ [B8 41,B8 123]++(H2 b ++ [B8 125])).length=(o8 (ps.map fun p=>[T4 p])).length+(H2 b).length+6:=by simp only[List.length_append,List.length_cons,List.length_nil];omega
  have b0:=ha'.tl;have b1:=b0.tl;have b2:=b1.tl;have b3:=b2.app.2;have hloop:p7 N (fun o0_0_1 o0_0_2 o0_0_3 o0_0_4 o0_w1 o0_w2 o0_w1003=>
   j8 (k6 N ([41]:d7) o0_0_1 o0_0_2 o0_0_3 o0_0_4 o0_w1 o0_w2) fun t32=>
   some (t32.1,t32.2.1,t32.2.2.1,t32.2.2.2.1,t32.2.2.2.2.1,t32.2.2.2.2.2,o0_w1003)) N ((i+1+1+1:Nat):Int) e0 false p w (M ++ [(S9 w i e0,(x:Int))]) []=some (((i+1+1+1+(o8 (ps.map fun p=>[T4 p])).length+1:Nat):Int),e0,false,p,w,M ++ [(S9 w i e0,(x:Int))],ps):=by
   cases ps with
   |nil=>
    have b2':At w (i+1+1+1) (B8 41 :: ([B8 123]++H2 b ++ [B8 125])):=b2;rw[hf,a9x,a2f,S5,b2'.sign,t6 V.wl b2'.sign];simp only[Bool.not_false,d8,List.length_nil,show decide (((0:Nat):Int)>0)=false by decide,d9,d2,Bool.not_true];rfl
   |cons z az=>
    have hlt:(z :: az).length<N:=by
     have h5:=a3h (l:=(z :: az).map fun p=>[T4 p]) (fun s hs=>by
      obtain⟨d,hd,rfl⟩:=List.mem_map.1 hs;simp)
     rw[List.length_map]at h5;have h6:=b2.app.1.le (by intro h;rw[h]at h5;simp at h5);omega
    rw[c2n V (z :: az) N (i+1+1+1) [] _ (by simp) h2 hlt (by simp) b2];simp only[t6 V.wl b3.sign,d2,List.nil_append]
  obtain⟨T,G,t1,t2,t3,t4⟩:=hB k (x+1) _ b (by omega) h3 (by omega) b3.tl (M ++ [(S9 w i e0,(x:Int))]) p (by omega);refine⟨[(S9 w i e0,(x:Int))]++T,.mk 3 q [] ps [] zE G [] (S9 w i e0),hmk.app t1,by rw[hlen];simp only[List.length_append,List.length_cons,List.length_nil];omega,⟨by rw[O1,O1,t3];rfl,rfl⟩,?_⟩;unfold l9;rw[a0P,d2,a1u (by omega),d2];simp only[C8 V.wl ha'.word,d2,d8,a0o V.hN V.wl V.wok (b0.name h1)];unfold Q3;simp only[t6 V.wl b1.sign,d2];rw[hloop];simp only[d2,hx1];rw[t4];simp only[d2];rw[hlen,show i+((o8 (ps.map fun p=>[T4 p])).length+(H2 b).length+6)=i+1+1+1+(o8 (ps.map fun p=>[T4 p])).length+1+((H2 b).length+2) by omega,List.append_assoc]
 ·rw[c7c]at ha hl ⊢;have ha':At w i (T4 [102,111,114] :: T4 q :: T4 [105,110] :: (s5 E++([B8 123]++H2 b ++ [B8 125]))):=by simpa using ha
  have hlen:([T4 [102,111,114],T4 q,T4 [105,110]]++s5 E ++ [B8 123]++(H2 b ++ [B8 125])).length=(s5 E).length+(H2 b).length+5:=by simp only[List.length_append,List.length_cons,List.length_nil];omega
  have n1:I9 w i 1 [109,97,99,114,111]=false:=by rw[ha'.is];rfl
  have b0:=ha'.tl;have b1:=b0.tl;have b2:=b1.tl.app;obtain⟨T,t1,t2,t3⟩:=a4K V N m (x+1) (x+1) 0 E (i+1+1+1) (by omega) h2 (by have:=b2.1.le (by intro h;have:=Y5 h2;rw[h]at this;simp at this);unfold J0 at hN;omega) b2.1 (At.stop (c:=123) (ks:=H2 b ++ [B8 125]) (by simpa using b2.2) (by decide)) (M ++ [(S9 w i e0,(x:Int))]) p (by omega);obtain⟨U,G,u1,u2,u3,u4⟩:=hB k (x+1) _ b (by omega) h3 (by omega) b2.2 (M ++ [(S9 w i e0,(x:Int))]++T) p (by rw[List.length_append];omega);refine⟨[(S9 w i e0,(x:Int))]++T++U,.mk 4 q [] [] [] E G [] (S9 w i e0),(hmk.app t1).app u1,by rw[hlen];simp only[List.length_append,List.length_cons,List.length_nil];omega,⟨by rw[O1,O1,u3];rfl,rfl⟩,?_⟩;unfold l9;rw[a0P,d2,a1u (by omega),d2];simp only[o5 n1,d2,d9,C8 V.wl ha'.word,d8,a0o V.hN V.wl V.wok (b0.name h1),b6n V.wl b1.word,hx1,t3,u4,GExpr.eta];rw[hlen,show i+((s5 E).length+(H2 b).length+5)=i+1+1+1+(s5 E).length+((H2 b).length+2) by omega];simp only[List.append_assoc]
 ·rw[c7d]at ha hl hne ⊢;have ha':At w i (T4 [105,102] :: (s5 E++(([B8 123]++H2 b ++ [B8 125])++(if l.isEmpty then []else T4 c2h :: ([B8 123]++H2 l ++ [B8 125]))))):=by
   cases l with
   |nil=>simpa using ha
   |cons c l=>simpa using ha
  have hlen:([T4 [105,102]]++s5 E ++ [B8 123]++(H2 b++((if l.isEmpty then []else [B8 125,T4 [101,108,115,101],B8 123]++H2 l) ++ [B8 125]))).length=(s5 E).length+(H2 b).length+3+(if l.isEmpty then 0 else(H2 l).length+3):=by
   cases l with
   |nil=>simp only[List.isEmpty_nil,if_true,List.length_append,List.length_cons,List.length_nil];omega
   |cons c l=>simp only[List.isEmpty_cons,Bool.false_eq_true,if_false,List.length_append,List.length_cons,List.length_nil];omega
  rw[hlen]at hl hne;have n1:I9 w i 1 [109,97,99,114,111]=false:=by rw[ha'.is];rfl
  have n2:I9 w i 1 [102,111,114]=false:=by rw[ha'.is];rfl
  have b1:=ha'.tl.app;have b2:=b1.2.app;have eb:([B8 123]++H2 b ++ [B8 125]).length=(H2 b).length+2:=by simp only[List.length_append,List.length_cons,List.length_nil];omega
  rw[eb]at b2;obtain⟨T,t1,t2,t3⟩:=a4K V N m (x+1) (x+1) 0 E (i+1) (by omega) h1 (by have:=b1.1.le (by intro h;have:=Y5 h1;rw[h]at this;simp at this);unfold J0 at hN;omega) b1.1 (At.stop (c:=123) (ks:=H2 b ++ [B8 125]++_) (by simpa using b1.2) (by decide)) (M ++ [(S9 w i e0,(x:Int))]) p (by omega);obtain⟨U,G,u1,u2,u3,u4⟩:=hB k (x+1) _ b (by omega) h2 (by omega) b2.1 (M ++ [(S9 w i e0,(x:Int))]++T) p (by rw[List.length_append];omega);cases l with
  |nil=>
   simp only[List.isEmpty_nil,if_true,Nat.add_zero]at hlen hne;have n5:I9 w (i+1+(s5 E).length+((H2 b).length+2)) 1 [101,108,115,101]=false:=by
    have:=hne;unfold b1R at this;rw[show i+1+(s5 E).length+((H2 b).length+2)=i+((s5 E).length+(H2 b).length+3) by omega];exact this
   refine⟨[(S9 w i e0,(x:Int))]++T++U,.mk 5 [] [] [] [] E G [] (S9 w i e0),(hmk.app t1).app u1,by simp only[List.isEmpty_nil,if_true];rw[hlen];simp only[List.length_append,List.length_cons,List.length_nil];omega,⟨by rw[O1,O1,u3];rfl,rfl⟩,?_⟩;unfold l9;rw[a0P,d2,a1u (by omega),d2];simp only[o5 n1,o5 n2,d2,d9,C8 V.wl ha'.word,d8,hx1,t3,u4,GExpr.eta,o5 n5];simp only[List.isEmpty_nil,if_true];rw[hlen,show i+((s5 E).length+(H2 b).length+3)=i+1+(s5 E).length+((H2 b).length+2) by omega];simp only[List.append_assoc]
  |cons c l=>
   simp only[List.isEmpty_cons,Bool.false_eq_true,if_false]at hlen hne b2 hl ⊢;have b3:=b2.2;obtain⟨U2,G2,v1,v2,v3,v4⟩:=hB k (x+1) _ (c :: l) (by omega) h3 (by omega) b3.tl (M ++ [(S9 w i e0,(x:Int))]++T++U) p (by simp only[List.length_append]at *;omega);refine⟨[(S9 w i e0,(x:Int))]++T++U++U2,.mk 5 [] [] [] [] E G G2 (S9 w i e0),((hmk.app t1).app u1).app v1,by rw[hlen];simp only[List.length_append,List.length_cons,List.length_nil]at *;omega,⟨by rw[O1,O1,u3,v3];rfl,rfl⟩,?_⟩;unfold l9;rw[a0P,d2,a1u (by omega),d2];simp only[o5 n1,o5 n2,d2,d9,C8 V.wl ha'.word,d8,hx1,t3,u4,GExpr.eta,C8 V.wl b3.word,v4];rw[hlen,show i+((s5 E).length+(H2 b).length+3+((H2 (c :: l)).length+3))=i+1+(s5 E).length+((H2 b).length+2)+1+((H2 (c :: l)).length+2) by omega];simp only[List.append_assoc]
 ·rw[c7e]at ha hl ⊢;have n1:I9 w i 1 [109,97,99,114,111]=false:=by rw[ha.is];rfl
  have n2:I9 w i 1 [102,111,114]=false:=by rw[ha.is];rfl
  have n3:I9 w i 1 [105,102]=false:=by rw[ha.is];rfl
  have b1:=ha.tl;refine⟨[(S9 w i e0,(x:Int))],.mk 6 [] t [] [] zE [] [] (S9 w i e0),hmk,by simp;omega,⟨by rw[O1,O1];rfl,rfl⟩,?_⟩;unfold l9;rw[a0P,d2,a1u (by omega),d2];simp only[o5 n1,o5 n2,o5 n3,d2,d9,C8 V.wl ha.word,d8,a7Q V.wl b1.text,t6 V.wl b1.tl.sign];rfl
def endB(w:List A6)(j:Nat):Prop:=I9 w j 4 [125]=true\/¬j<w.length
theorem endB.ne{j:Nat}(h:endB w j):b1R w j:=by
 rcases h with h|h
 ·exact(b1e h).2 _
 ·exact b53 h
theorem b8q{k x:Nat}:∀(l:List GStmt) {i:Nat},(∀s∈l,WS k x s)->At w i (H2 l)->endB w (i+(H2 l).length)->b1R w i
 |[],i,_,_,h=>by rw[a5m]at h;exact h.ne
 |s :: l,i,hs,ha,_=>by
  rw[T6]at ha;obtain⟨u,ks,e,hu⟩:=a5l (hs s (by simp));rw[e]at ha;unfold b1R;rw[At.is (ks:=ks++H2 l) ha];simp[hu]
theorem a4G(s:GStmt)(l:List GStmt):erL (s :: l)=erS s :: erL l:=by rw[a3A,a3A];rfl
theorem b8o(s:GStmt):GStmt.mk s.kind s.name s.text s.params s.args (Ze s.expr) s.body s.els s.at_=s:=GStmt.eta2 s
abbrev KG:Type:=Int->Int->Bool->Int->List A6->Mk->List GStmt->Option (Int×Int×Bool×Int×List A6×Mk×List GStmt)
theorem b1W{n:Nat}{x:Int}{k0:KG}{a e p:Int}{b:Bool}{M:Mk}{Gs:List GStmt}:A9 N B x k0 (n+1) a e b p w M Gs=y0 N B x k0 (A9 N B x k0 n) a e b p w M Gs:=rfl
theorem b79(V:Wc N w e0)(hB:b9r w e0 B L){k x:Nat}{K:KG}{p:Int}:∀(l:List GStmt) (f i:Nat) (M:Mk) (Gs:List GStmt),(∀s∈l,WS k x s/\(tkS s).length<=L)->l.length<f->M.length<=i->Gs.length<=i->At w i (H2 l)->endB w (i+(H2 l).length)->
  ∃(T:Mk) (G:List GStmt),Mok 0 T/\T.length<=(H2 l).length/\erL G=erL l/\A9 N B (x:Int) K f (i:Int) e0 false p w M Gs=K ((i+(H2 l).length:Nat):Int) e0 false p w (M++T) (Gs++G)
 |[],f,i,M,Gs,_,hf,_,_,ha,he=>by
  obtain⟨f,rfl⟩:∃q,f=q+1:=⟨f-1,by omega⟩;refine⟨[],[],Mok.nil,by simp,rfl,?_⟩;rw[a5m]at he ⊢;rw[b1W];unfold y0;rw[Bool.not_false,d8];by_cases hi:i<w.length
  ·rcases he with he|he
   ·have he':I9 w i 4 [125]=true:=he;rw[a0D hi,d8,S5,he',d2];simp
   ·exact absurd hi he
  ·rw[decide_eq_false (show ¬(i:Int)<(w.length:Int) by omega),d9];simp
 |s :: l,f,i,M,Gs,hs,hf,hM,hG,ha,he=>by
  obtain⟨f,rfl⟩:∃q,f=q+1:=⟨f-1,by omega⟩;have hwl:=V.wl;obtain⟨h1,h2⟩:=hs s (by simp);have hpos:=b6I h1;obtain⟨u,ks,eu,hu⟩:=a5l h1;rw[T6]at ha he;rw[List.length_append,<-Nat.add_assoc]at he;obtain⟨a1,a2⟩:=ha.app;have hne:=b8q l (fun c hc=>(hs c (List.mem_cons_of_mem _ hc)).1) a2 he;have hle:=a1.le (by intro h;rw[h]at hpos;simp at hpos);cases k with
  |zero=>exact h1.elim
  |succ k=>
  obtain⟨T,g,t1,t2,t3,t4⟩:=b8p V hB h1 h2 a1 hne M p hM;obtain⟨U,G,u1,u2,u3,u4⟩:=b79 V hB (k:=k+1) (K:=K) (p:=p) l f (i+(tkS s).length) (M++T) (Gs ++ [g]) (fun c hc=>hs c (List.mem_cons_of_mem _ hc)) (by simp at hf;omega) (by rw[List.length_append];omega) (by rw[List.length_append];simp;omega) a2 he;refine⟨T++U,g :: G,t1.app u1,by rw[T6,List.length_append,List.length_append];omega,by rw[a4G,a4G,t3.1,u3],?_⟩;rw[b1W];unfold y0;have h125:I9 w i 4 [125]=false:=by
   rw[eu]at a1;rw[At.is a1];rfl
  rw[Bool.not_false,d8,a0D (show i<w.length by omega),d8,S5,h125,d2,Bool.not_false,d8,t4,d2];simp only[b8o,b9X (l:=Gs) (z:=g) (by omega),d8];rw[u4,T6,List.length_append,<-Nat.add_assoc,List.append_assoc,List.append_assoc];rfl
theorem b8w:∀{l:List GStmt} {s:GStmt},s∈l->(tkS s).length<=(H2 l).length
 |c :: l,s,h=>by
  rw[T6,List.length_append];rcases List.mem_cons.1 h with rfl|h
  ·omega
  ·have:=b8w h;omega
theorem b2s{k x:Nat}:∀{l:List GStmt},(∀s∈l,WS k x s)->l.length<=(H2 l).length
 |[],_=>by simp
 |c :: l,h=>by
  rw[T6,List.length_append,List.length_cons];have:=b6I (h c (by simp));have:=b2s (l:=l) fun s hs=>h s (List.mem_cons_of_mem _ hs)
  omega
theorem b4A(V:Wc N w e0):∀n,b9r w e0 (N5 N n) n
 |0=>fun _ _ _ _ _ _ h=>absurd h (by omega)
 |n+1=>by
  have hB:=b4A V n;intro k y i l hy hs hl ha M p hM;have hwl:=V.wl;have ha':At w i (B8 123 :: (H2 l ++ [B8 125])):=by simpa using ha
  have b1:=ha'.tl.app;obtain⟨f,hf,hf2⟩:=a3y V.hN;have hi:=ha'.lt;have hle:i+1+(H2 l).length<w.length:=At.lt b1.2;obtain⟨T,G,t1,t2,t3,t4⟩:=b79 V hB (k:=k) (x:=y) (p:=p) (K:=fun o0_0_1 o0_0_2 o0_0_3 o0_0_4 o0_w1 o0_w2 o0_w1005=>
   some (o0_0_1,o0_0_2,o0_0_3,o0_0_4,o0_w1,o0_w2,o0_w1005)) l N (i+1) M [] (fun s hs'=>⟨hs s hs',by have:=b8w hs';omega⟩) (by have:=b2s hs;omega) (by omega) (by simp) b1.1 (.inl b1.2.sign)
  refine⟨T,G,t1,by omega,t3,?_⟩;show y6 N (N5 N n) (y:Int) (i:Int) e0 false p w M=_;unfold y6;rw[t6 V.wl ha'.sign,d2];unfold Q5;simp only;rw[t4];simp only[d2,t6 V.wl b1.2.sign,List.nil_append];rw[show i+((H2 l).length+2)=i+1+(H2 l).length+1 by omega]
abbrev KT:Type:=Int->Int->Bool->Int->List A6->List GStmt->Mk->Option (Int×Int×Bool×Int×List A6×List GStmt×Mk)
theorem b5i{n:Nat}{x:Int}{k0:KT}{a e p:Int}{b:Bool}{M:Mk}{Gs:List GStmt}:A8 N x k0 (n+1) a e b p w Gs M=B5 N x k0 (A8 N x k0 n) a e b p w Gs M:=rfl
theorem c2Q(V:Wc N w e0){k x:Nat}{K:KT}{p:Int}:∀(l:List GStmt) (f i:Nat) (M:Mk) (Gs:List GStmt),(∀s∈l,WS k x s)->l.length<f->M.length<=i->Gs.length<=i->At w i (H2 l)->¬i+(H2 l).length<w.length->
  ∃(T:Mk) (G:List GStmt),Mok 0 T/\T.length<=(H2 l).length/\(erL G=erL l/\∀s l',l=s :: l'->∃g G',G=g :: G'/\g.at_=S9 w i e0)/\A8 N (x:Int) K f (i:Int) e0 false p w Gs M=K ((i+(H2 l).length:Nat):Int) e0 false p w (Gs++G) (M++T)
 |[],f,i,M,Gs,_,hf,_,_,ha,he=>by
  obtain⟨f,rfl⟩:∃q,f=q+1:=⟨f-1,by omega⟩;refine⟨[],[],Mok.nil,by simp,⟨rfl,fun _ _ h=>by cases h⟩,?_⟩;rw[a5m]at he ⊢;rw[b5i];unfold B5;rw[Bool.not_false,d8,decide_eq_false (show ¬(i:Int)<(w.length:Int) by simp at he;omega),d9];simp
 |s :: l,f,i,M,Gs,hs,hf,hM,hG,ha,he=>by
  obtain⟨f,rfl⟩:∃q,f=q+1:=⟨f-1,by omega⟩;have hwl:=V.wl;have h1:=hs s (by simp);have hpos:=b6I h1;obtain⟨u,ks,eu,hu⟩:=a5l h1;rw[T6]at ha he;rw[List.length_append,<-Nat.add_assoc]at he;obtain⟨a1,a2⟩:=ha.app;have hne:=b8q l (fun c hc=>hs c (List.mem_cons_of_mem _ hc)) a2 (.inr he);have hle:=a1.le (by intro h;rw[h]at hpos;simp at hpos);cases k with
  |zero=>exact h1.elim
  |succ k=>
  obtain⟨T,g,t1,t2,t3,t4⟩:=b8p V (b4A V N) h1 (by have:=V.hN;unfold J0 at this;omega) a1 hne M p hM;obtain⟨U,G,u1,u2,u3,u4⟩:=c2Q V (k:=k+1) (K:=K) (p:=p) l f (i+(tkS s).length) (M++T) (Gs ++ [g]) (fun c hc=>hs c (List.mem_cons_of_mem _ hc)) (by simp at hf;omega) (by rw[List.length_append];omega) (by rw[List.length_append];simp;omega) a2 he;refine⟨T++U,g :: G,t1.app u1,by rw[T6,List.length_append,List.length_append];omega,⟨by rw[a4G,a4G,t3.1,u3.1],fun _ _ _=>⟨g,G,rfl,t3.2⟩⟩,?_⟩;rw[b5i];unfold B5;have h125:I9 w i 4 [125]=false:=by
   rw[eu]at a1;rw[At.is a1];rfl
  rw[Bool.not_false,d8,a0D (show i<w.length by omega),d8,S5,h125,d2,Bool.not_false,d8,t4,d2];simp only[b8o,b9X (l:=Gs) (z:=g) (by omega),d8];rw[u4,T6,List.length_append,<-Nat.add_assoc,List.append_assoc,List.append_assoc];rfl
end
theorem b7m:∀(T:Mk),(∀m∈T,m.2<30)->dp (-1) T = -1
 |[],_=>rfl
 |m :: T,h=>by
  have h1:dp1 (-1) m = -1:=by unfold dp1;rw[if_neg (by have:=h m (by simp);omega)]
  show dp (dp1 (-1) m) T = -1;rw[h1];exact b7m T fun z hz=>h z (List.mem_cons_of_mem _ hz)
end
noncomputable section
variable{N:Nat}
theorem a3u(hN:J0<=N)(l:List d7)(hx:l.length<=maxLen)(hl:∀q∈l,q.length<=maxLen):l5 N l ()=some (l.any fun q=>!A5 q):=by
 unfold l5 H6;have:c8K N l (l.length:Int) (some (-1)) N 0=some (b92 (fun q=>!A5 q) l):=by
  refine a3k (fun _ _=>rfl) l hx (fun self i h r hr=>?_) (fun self=>?_) hN
  ·have hi:=hl _ (List.getElem_mem h);unfold b8U y7;simp only[p6 l h,a1c hx h,hr,d2,L4 hN _ hi];rw[a2c h,d8,b1d]
  ·simp[b8U]
 rw[this,d2,a4N]
theorem b05(hN:J0<=N)(l:List d7)(hx:l.length<=maxLen)(hl:∀q∈l,q.length<=maxLen):l6 N l ()=some (l.any fun q=>!q.all V5):=by
 unfold l6 F8;have:c8o N l (l.length:Int) (some (-1)) N 0=some (b92 (fun q=>!q.all V5) l):=by
  refine a3k (fun _ _=>rfl) l hx (fun self i h r hr=>?_) (fun self=>?_) hN
  ·have hi:=hl _ (List.getElem_mem h);unfold b8R T5;simp only[p6 l h,a1c hx h,hr,d2,a3g hN _ hi];rw[a2c h,d8,b1d]
  ·simp[b8R]
 rw[this,d2,a4N]
theorem c2i{l:List d7}{z:d7}(h:l.length<=1000000000):Zf (l.length + [z].length) .str=true:=decide_eq_true (by simp[Ty.sz];omega)
theorem b7M(hN:J0<=N)(G:GStmt)(h:G.args.length<=1000000):J8 N G=some (G.args.map (·.1)):=by
 unfold J8;have go:∀(m f j:Nat),j+m=G.args.length->m<f->b89 N G.args (G.args.length:Int) (fun o=>some o) f (j:Int) ((G.args.take j).map (·.1))=some (G.args.map (·.1)):=by
  intro m;induction m with
  |zero=>
   intro f j hj hf;obtain⟨f,rfl⟩:∃q,f=q+1:=⟨f-1,by omega⟩;obtain rfl:j=G.args.length:=by omega
   show a7q _ _ _ _ _ _ _=_;unfold a7q;rw[a1r,d9,List.take_length]
  |succ m ih=>
   intro f j hj hf;obtain⟨f,rfl⟩:∃q,f=q+1:=⟨f-1,by omega⟩;have hl:j<G.args.length:=by omega
   show a7q _ _ _ _ _ _ _=_;unfold a7q;rw[a0D hl,d8,p6 _ hl,d2,c2i (by simp;omega),d8,a4q (m:=j+1) (by omega) (by omega)];rw[show(G.args.take j).map (·.1) ++ [G.args[j].1]=(G.args.take (j+1)).map (·.1) by rw[List.take_succ_eq_append_getElem hl,List.map_append];rfl];exact ih f (j+1) (by omega) (by omega)
 have:=go G.args.length N 0 (by omega) (by unfold J0 at hN;omega);simpa using this
def zz:Nat:=2000000
def ZE:Nat->GExpr->Prop|0,_=>False|k+1,e=>e.text.length<=zz/\e.keys.length<=zz/\(∀q∈e.keys,q.length<=zz)/\e.kids.length<=1000000/\∀c∈e.kids,ZE k c
def ZS:Nat->GStmt->Prop|0,_=>False|k+1,s=>s.name.length<=zz/\s.text.length<=zz/\s.params.length<=zz/\(∀q∈s.params,q.length<=zz)/\s.args.length<=1000000/\(∀q∈s.args,q.1.length<=zz/\ZE zz q.2)/\ZE zz s.expr/\s.body.length<=1000000/\(∀c∈s.body,ZS k c)/\s.els.length<=1000000/\∀c∈s.els,ZS k c
theorem a4d{n:Nat}(h:n<=zz):n<=maxLen:=by unfold zz at h;unfold maxLen;omega
theorem Z8{c:Option Bool}{b:Bool}{n:Int}{rest:Option Int}{Q:Prop}(hc:c=some b)(hn:n≠0)(hr:b=false->∃v,rest=some v/\(v=0->Q)):∃v,(j8 c fun j=>br j (some n) rest)=some v/\(v=0->b=false/\Q):=by
 rw[hc,d2];cases b with
 |true=>rw[d8];exact⟨n,rfl,fun h=>absurd h hn⟩
 |false=>rw[d9];obtain⟨v,h1,h2⟩:=hr rfl;exact⟨v,h1,fun h=>⟨rfl,h2 h⟩⟩
theorem c63{b:Bool}{n:Int}{rest:Option Int}{Q:Prop}(hn:n≠0)(hr:b=false->∃v,rest=some v/\(v=0->Q)):∃v,(br b (some n) rest)=some v/\(v=0->b=false/\Q):=by
 cases b with
 |true=>rw[d8];exact⟨n,rfl,fun h=>absurd h hn⟩
 |false=>rw[d9];obtain⟨v,h1,h2⟩:=hr rfl;exact⟨v,h1,fun h=>⟨rfl,h2 h⟩⟩
theorem Q9(b c d:Bool):br b (some c) (some d)=some (if b=true then c else d):=by cases b<;>simp
noncomputable def b9L(N:Nat)(x0:GExpr)(x1:Int)(j5:Bool)(q:Int):Option Int:=br (decide (x1>=(30:Int))) (some (2:Int)) (j8 (br (decide (x0.kind<(1:Int))) (some true) (some (decide (x0.kind>(8:Int))))) fun j28=>br (j28) (some (4:Int)) (j8 (br (x0.kind==(3:Int)) (j8 (C7 N x0.text) fun t44=>some (!t44)) (some false)) fun j37=>br (j37) (some (5:Int)) (j8 (br (!j5) (some (!(x0.text==([]:d7)))) (some false)) fun j47=>br (j47) (some (3:Int)) (j8 (br (x0.number !=(0:Int)) (some (x0.kind !=(2:Int))) (some false)) fun j47_1=>br (j47_1) (some (3:Int)) (j8 (br (decide ((x0.keys.length:Int)>(0:Int))) (some (x0.kind !=(6:Int))) (some false)) fun j47_2=>br (j47_2) (some (3:Int)) (j8 (j8 (u0 N x0.text) fun t75=>br (!t75) (some true) (j8 (l6 N x0.keys ()) fun t80=>some t80)) fun j72=>br (j72) (some (3:Int)) (j8 (br (decide (x0.number<(0:Int))) (some true) (some (decide (x0.number>(999999999:Int))))) fun j82=>br (j82) (some (3:Int)) (j8 (br (decide (q>=(0:Int))) (some ((x0.kids.length:Int) !=q)) (some false)) fun j82_3=>br (j82_3) (some (3:Int)) (j8 (br (x0.kind==(6:Int)) (br ((x0.keys.length:Int) !=(x0.kids.length:Int)) (some true) (some ((x0.keys.length:Int)==(0:Int)))) (some false)) fun j100=>br (j100) (some (3:Int)) (j8 (r7 N x0.keys) fun t122=>br (t122) (some (7:Int)) (some (0:Int))))))))))))
theorem L7{R:Type}{c:Bool}{x y:Option R}(h:c=true):br c x y=x:=by rw[h,d8]
theorem E7{R:Type}{c:Bool}{x y:Option R}(h:c=false):br c x y=y:=by rw[h,d9]
theorem b62(N:Nat)(e:GExpr)(x:Int):∃q:Int,F4 N e x=b9L N e x (e.kind==1||e.kind==3) q/\((e.kind=1\/e.kind=2\/e.kind=3)->q=0)/\((e.kind=5\/e.kind=7\/e.kind=8)->q=2)/\(q=0\/q=2\/q = -1):=by
 unfold F4;rw[show(br (e.kind==1) (some true) (some (e.kind==3)))=some (e.kind==1||e.kind==3) by cases (e.kind==1)<;>simp,d2];by_cases h1:e.kind=1
 ·refine⟨0,?_,fun _=>rfl,fun h=>by omega,.inl rfl⟩;rw[L7 (by simp[h1])];rfl
 rw[E7 (c:=e.kind==1) (by simp[h1])];by_cases h2:e.kind=2
 ·refine⟨0,?_,fun _=>rfl,fun h=>by omega,.inl rfl⟩;rw[L7 (by simp[h2])];rfl
 rw[E7 (c:=e.kind==2) (by simp[h2])];by_cases h3:e.kind=3
 ·refine⟨0,?_,fun _=>rfl,fun h=>by omega,.inl rfl⟩;rw[L7 (by simp[h3])];rfl
 rw[E7 (c:=e.kind==3) (by simp[h3])];by_cases h5:e.kind=5
 ·refine⟨2,?_,fun h=>by omega,fun _=>rfl,.inr (.inl rfl)⟩;rw[L7 (by simp[h5])];rfl
 rw[E7 (c:=e.kind==5) (by simp[h5])];by_cases h7:e.kind=7
 ·refine⟨2,?_,fun h=>by omega,fun _=>rfl,.inr (.inl rfl)⟩;rw[L7 (by simp[h7])];rfl
 rw[E7 (c:=e.kind==7) (by simp[h7])];by_cases h8:e.kind=8
 ·refine⟨2,?_,fun h=>by omega,fun _=>rfl,.inr (.inl rfl)⟩;rw[L7 (by simp[h8])];rfl
 rw[E7 (c:=e.kind==8) (by simp[h8])];exact⟨-1,rfl,fun h=>by omega,fun h=>by omega,.inr (.inr rfl)⟩
structure AOk(e:GExpr)(x:Nat):Prop where
 deep:x<30
 lo:1<=e.kind
 hi:e.kind<=8
 name:e.kind=3->A5 e.text=true
 text:e.kind≠1->e.kind≠3->e.text=[]
 number:e.kind≠2->e.number=0
 keys:e.kind≠6->e.keys=[]
 all:e.text.all V5=true
 kall:∀q∈e.keys,q.all V5=true
 n0:0<=e.number
 n9:e.number<=999999999
 leaf:(e.kind=1\/e.kind=2\/e.kind=3)->e.kids=[]
 two:(e.kind=5\/e.kind=7\/e.kind=8)->e.kids.length=2
 choice:e.kind=6->e.keys.length=e.kids.length/\0<e.kids.length
theorem b9x(hN:J0<=N){k x:Nat}{e:GExpr}(h:ZE (k+1) e):∃v,F4 N e (x:Int)=some v/\(v=0->AOk e x):=by
 obtain⟨q,e1,q0,q2,qv⟩:=b62 N e x;obtain⟨z1,z2,z3,z4,_⟩:=h;have T:=a3g hN e.text (a4d z1);have I:=L4 hN e.text (a4d z1);have K:=b05 hN e.keys (a4d z2) (fun q hq=>a4d (z3 q hq));obtain⟨v,hv,hq⟩:∃v,b9L N e (x:Int) (e.kind==1||e.kind==3) q=some v/\(v=0->decide ((x:Int)>=30)=false/\(if decide (e.kind<1)=true then true else decide (e.kind>8))=false/\(if(e.kind==3)=true then !(A5 e.text)else false)=false/\
   (if(!(e.kind==1||e.kind==3))=true then !(e.text==([]:d7))else false)=false/\(if(e.number !=0)=true then(e.kind !=2)else false)=false/\(if decide ((e.keys.length:Int)>0)=true then(e.kind !=6)else false)=false/\
   (if(!(e.text.all V5))=true then true else e.keys.any fun q=>!q.all V5)=false/\(if decide (e.number<0)=true then true else decide (e.number>999999999))=false/\(if decide (q>=0)=true then((e.kids.length:Int) !=q)else false)=false/\
   (if(e.kind==6)=true then(if((e.keys.length:Int) !=(e.kids.length:Int))=true then true else((e.keys.length:Int)==0))else false)=false/\(!decide e.keys.Nodup)=false/\True):=by
  unfold b9L;refine c63 (by decide) fun h0=>Z8 (Q9 _ _ _) (by decide) fun h1=>Z8 (by rw[I,d2,Q9]) (by decide) fun h2=>Z8 (Q9 _ _ _) (by decide) fun h3=>Z8 (Q9 _ _ _) (by decide) fun h4=>Z8 (Q9 _ _ _) (by decide) fun h5=>
   Z8 (by rw[T,d2,K,d2,Q9]) (by decide) fun h6=>Z8 (Q9 _ _ _) (by decide) fun h7=>Z8 (Q9 _ _ _) (by decide) fun h8=>Z8 (by rw[Q9,Q9]) (by decide) fun h9=>Z8 (a3n _ ?_) (by decide) fun _=>⟨0,rfl,fun _=>trivial⟩
  by_cases hk:e.kind=6
  ·simp[hk]at h9;omega
  ·simp[hk]at h5;simp[h5]
 refine⟨v,by rw[e1];exact hv,fun h0=>?_⟩;obtain⟨b0,b1,b2,b3,b4,b5,b6,b7,b8,b9,_⟩:=hq h0;have x30:x<30:=by simp at b0;omega
 have hlo:¬e.kind<1:=by intro h;simp[h]at b1
 have hhi:¬e.kind>8:=by intro h;simp[hlo,h]at b1
 have htx:e.text.all V5=true:=by
  cases ht:e.text.all V5 with
  |true=>rfl
  |false=>simp[ht]at b6
 have hn0:¬e.number<0:=by intro h;simp[h]at b7
 refine⟨x30,by omega,by omega,fun h=>?_,fun h h'=>?_,fun h=>?_,fun h=>?_,htx,fun q hq=>?_,by omega,?_,fun h=>?_,fun h=>?_,fun h=>?_⟩
 ·simpa [h]using b2
 ·simpa [h,h']using b3
 ·simpa [h]using b4
 ·simpa [h]using b5
 ·rw[htx]at b6;simp at b6;have:=b6 q hq;simpa using this
 ·have:¬e.number>999999999:=by intro h;simp[hn0,h]at b7
  omega
 ·rw[q0 h]at b8;simpa using b8
 ·rw[q2 h]at b8;have:(e.kids.length:Int)=2:=by simpa using b8
  omega
 ·simp[h]at b9;exact⟨by omega,by
   rcases Nat.eq_zero_or_pos e.kids.length with h1|h1
   ·exfalso;have h2:e.keys=[]:=List.eq_nil_of_length_eq_zero (by omega);exact b9.2 h2
   ·exact h1⟩
theorem b4U(hN:J0<=N){S:Ck}{k x:Nat}{kd n:Int}{t:d7}{ks:List d7}{es:List GExpr}(hl:es.length<=1000000)(hx:x<30)(hc:∀c∈es,∀y:Nat,y<=40->∃v,S c (y:Int)=some v/\(v=0->WE k y c)):∀(u f j:Nat),j+u=es.length->u<f->
  ∃v,b3p N S (x:Int) es (es.length:Int) kd t n ks es (some 0) f (j:Int)=some v/\(v=0->∀i (hi:i<es.length),j<=i->WE k (x+(if kd=7 then 0 else 1)+pb (T9 kd es[i].kind (i:Int))) es[i])
 |0,f,j,hj,hf=>by
  obtain⟨f,rfl⟩:∃q,f=q+1:=⟨f-1,by omega⟩;obtain rfl:j=es.length:=by omega
  refine⟨0,?_,fun _ i hi h=>by omega⟩;show a5u _ _ _ _ _ _ _ _ _ _ _ _ _=_;unfold a5u;rw[a1r,d9]
 |u+1,f,j,hj,hf=>by
  obtain⟨f,rfl⟩:∃q,f=q+1:=⟨f-1,by omega⟩;have h:j<es.length:=by omega
  obtain⟨v,i1,i2⟩:=b4U (kd:=kd) (n:=n) (t:=t) (ks:=ks) hN hl hx hc u f (j+1) (by omega) (by omega);have hin:=(c6d (N:=N) (k:=kd) (n:=n) (t:=t) (ks:=ks) h).1;obtain⟨y,hy⟩:∃y:Nat,y=x+(if kd=7 then 0 else 1)+pb (T9 kd es[j].kind (j:Int)):=⟨_,rfl⟩;have hy40:y<=40:=by
   have:pb (T9 kd es[j].kind (j:Int))<=1:=by unfold pb;split<;>omega
   rw[hy];split<;>omega
  obtain⟨c,c1,c2⟩:=hc _ (List.getElem_mem h) y hy40;have step:b3p N S (x:Int) es (es.length:Int) kd t n ks es (some 0) (f+1) (j:Int)=br (c !=0) (some c) (some v):=by
   show a5u _ _ _ _ _ _ _ _ _ _ _ _ _=_;unfold a5u;rw[a0D h,d8,p6 _ h,d2];simp only[hin,d2,GExpr.eta,a4q (n:=(j:Int)+1) (m:=j+1) (by omega) (by omega),i1,a5r (show x<=1000 by omega),a4q (n:=((x+1:Nat):Int)+1) (m:=x+2) (by omega) (by omega)];by_cases h7:kd=7
   ·rw[if_pos h7]at hy;rw[E7 (show(kd !=7)=false by simp[h7])];cases hb:T9 kd es[j].kind (j:Int)with
    |true=>rw[hb]at hy;rw[d8,show((x+1:Nat):Int)=(y:Int) by rw[hy];rfl,c1,d2]
    |false=>rw[hb]at hy;rw[d9,show(x:Int)=(y:Int) by rw[hy];rfl,c1,d2]
   ·rw[if_neg h7]at hy;rw[L7 (show(kd !=7)=true by simp[h7])];cases hb:T9 kd es[j].kind (j:Int)with
    |true=>rw[hb]at hy;rw[d8,show((x+2:Nat):Int)=(y:Int) by rw[hy];rfl,c1,d2]
    |false=>rw[hb]at hy;rw[d9,show((x+1:Nat):Int)=(y:Int) by rw[hy];rfl,c1,d2]
  rw[step];by_cases h0:c=0
  ·rw[h0,bne_self_eq_false,d9];refine⟨v,rfl,fun hv i hi hij=>?_⟩;by_cases e1:i=j
   ·subst e1;rw[<-hy];exact c2 h0
   ·exact i2 hv i hi (by omega)
  ·rw[L7 (by simpa using h0)];exact⟨c,rfl,fun h=>absurd h h0⟩
theorem a9i(hN:J0<=N):∀(k:Nat) (e:GExpr),ZE k e->∀n,k<=n->∀x:Nat,x<=40->∃v,F1 N n e (x:Int)=some v/\(v=0->WE k x e)
 |0,_,h,_,_,_,_=>h.elim
 |k+1,e,h,0,hn,_,_=>by omega
 |k+1,e,h,n+1,hn,x,hx=>by
  obtain⟨al,a1,a2⟩:=b9x hN (x:=x) h;show ∃v,I3 N (F1 N n) e (x:Int)=some v/\_;unfold I3;rw[GExpr.eta,a1,d2];by_cases h0:al=0
  case neg=>
   rw[L7 (by simpa using h0)];exact⟨al,rfl,fun h=>absurd h h0⟩
  have A:=a2 h0;rw[h0,bne_self_eq_false,d9];obtain⟨v,v1,v2⟩:=b4U hN (S:=F1 N n) (k:=k) (kd:=e.kind) (n:=e.number) (t:=e.text) (ks:=e.keys) (es:=e.kids) h.2.2.2.1 A.deep (fun c hc y hy=>a9i hN k c (h.2.2.2.2 c hc) n (by omega) y hy) e.kids.length N 0 (by omega) (by have:=h.2.2.2.1;unfold J0 at hN;omega);refine⟨v,v1,fun hv=>⟨A.deep,?_⟩⟩;have hk:=v2 hv;have hlo:=A.lo;have hhi:=A.hi;obtain⟨kd,t,num,ks,es⟩:=e;simp only[F5,a0l,W4,Z3,E5]at *;have hcase:kd=1\/kd=2\/kd=3\/kd=4\/kd=5\/kd=6\/kd=7\/kd=8:=by omega
  have aT:=A.text;have aN:=A.number;have aK:=A.keys;have aL:=A.leaf;have a2':=A.two;have aC:=A.choice;have aX:=A.all;have aY:=A.kall;have aM:=A.name;have a0:=A.n0;have a9:=A.n9;simp only[F5,a0l,W4,Z3,E5]at aT aN aK aL a2' aC aX aY aM a0 a9;have two:es.length=2->∃a b,es=[a,b]:=fun h2=>by
   match es,h2 with
   |[a,b],_=>exact⟨a,b,rfl⟩
  rcases hcase with rfl|rfl|rfl|rfl|rfl|rfl|rfl|rfl
  ·rw[aN (by decide),aK (by decide),aL (.inl rfl)];exact .inl ⟨t,aX,rfl⟩
  ·rw[aT (by decide) (by decide),aK (by decide),aL (.inr (.inl rfl))];obtain⟨m,rfl⟩:=Int.eq_ofNat_of_zero_le a0;exact .inr (.inl ⟨m,by omega,rfl⟩)
  ·rw[aN (by decide),aK (by decide),aL (.inr (.inr rfl))];exact .inr (.inr (.inl ⟨t,aM rfl,rfl⟩))
  ·rw[aT (by decide) (by decide),aN (by decide),aK (by decide)];refine .inr (.inr (.inr (.inl ⟨es,rfl,fun c hc=>?_⟩)));obtain⟨i,hi,rfl⟩:=List.getElem_of_mem hc;exact hk i hi (by omega)
  ·rw[aT (by decide) (by decide),aN (by decide),aK (by decide)];obtain⟨a,b,rfl⟩:=two (a2' (.inl rfl));exact .inr (.inr (.inr (.inr (.inl ⟨a,b,rfl,hk 0 (by simp) (by omega),hk 1 (by simp) (by omega)⟩))))
  ·rw[aT (by decide) (by decide),aN (by decide)];refine .inr (.inr (.inr (.inr (.inr (.inl ⟨ks,es,(aC rfl).1,(aC rfl).2,aY,rfl,fun c hc=>?_⟩)))));obtain⟨i,hi,rfl⟩:=List.getElem_of_mem hc;exact hk i hi (by omega)
  ·rw[aT (by decide) (by decide),aN (by decide),aK (by decide)];obtain⟨a,b,rfl⟩:=two (a2' (.inr (.inl rfl)));exact .inr (.inr (.inr (.inr (.inr (.inr (.inl ⟨a,b,rfl,hk 0 (by simp) (by omega),hk 1 (by simp) (by omega)⟩))))))
  ·rw[aT (by decide) (by decide),aN (by decide),aK (by decide)];obtain⟨a,b,rfl⟩:=two (a2' (.inr (.inr rfl)));exact .inr (.inr (.inr (.inr (.inr (.inr (.inr ⟨a,b,rfl,hk 0 (by simp) (by omega),hk 1 (by simp) (by omega)⟩))))))
end
noncomputable section
variable{N:Nat}
theorem ste(s:GStmt):GStmt.mk s.kind s.name s.text s.params s.args s.expr s.body s.els s.at_=s:=by cases s;rfl
theorem d5y{c:Option Bool}{b:Bool}{n:Int}{rest:Option Int}{Q:Prop}(hc:c=some b)(hn:n≠0)(hr:b=true->∃v,rest=some v/\(v=0->Q)):∃v,(j8 c fun j=>br (!j) (some n) rest)=some v/\(v=0->b=true/\Q):=by
 rw[hc,d2];cases b with
 |false=>rw[Bool.not_false,d8];exact⟨n,rfl,fun h=>absurd h hn⟩
 |true=>rw[Bool.not_true,d9];obtain⟨v,h1,h2⟩:=hr rfl;exact⟨v,h1,fun h=>⟨rfl,h2 h⟩⟩
def isZ(E:GExpr):Bool:=E.kind==0&&(E.text==([]:d7)&&(E.number==0&&(((E.keys.length:Int)==0)&&((E.kids.length:Int)==0))))
theorem b1G(E:GExpr):P0 N E=some (isZ E):=by
 unfold P0 isZ;generalize (E.kind==0)=b1;generalize (E.text==([]:d7))=b2;generalize (E.number==0)=b3;generalize ((E.keys.length:Int)==0)=b4;cases b1<;>cases b2<;>cases b3<;>cases b4<;>simp
theorem d7h{E:GExpr}(h:isZ E=true):E=zE:=by
 obtain⟨k,t,n,ks,es⟩:=E;unfold isZ at h;simp only[Bool.and_eq_true,beq_iff_eq,F5,a0l,W4,Z3,E5]at h;obtain⟨h1,h2,h3,h4,h5⟩:=h;have h4':ks=[]:=List.eq_nil_of_length_eq_zero (by omega);have h5':es=[]:=List.eq_nil_of_length_eq_zero (by omega);rw[h1,h2,h3,h4',h5']
abbrev T7:Type:=Bool×Bool×Bool×Bool×Bool×Bool×Bool
noncomputable def a9g(N:Nat)(x0:GStmt)(t19:Bool×Bool×Bool×Bool×Bool×Bool×Bool)(t21:List d7):Option Int:=j8 (br (t19.2.2.1) (j8 (l5 N x0.params ()) fun t37=>some t37) (some false)) fun j22=>br (j22) (some (5:Int)) (j8 (br (t19.2.2.2.1) (j8 (l5 N t21 ()) fun t44=>some t44) (some false)) fun j22_1=>br (j22_1) (some (5:Int)) (j8 (br (!t19.1) (some (!(x0.name==([]:d7)))) (some false)) fun j46=>br (j46) (some (3:Int)) (j8 (br (!t19.2.1) (some (!(x0.text==([]:d7)))) (some false)) fun j46_2=>br (j46_2) (some (3:Int)) (j8 (br (!t19.2.2.1) (some (decide ((x0.params.length:Int)>(0:Int)))) (some false)) fun j46_3=>br (j46_3) (some (3:Int)) (j8 (br (!t19.2.2.2.1) (some (decide ((t21.length:Int)>(0:Int)))) (some false)) fun j46_4=>br (j46_4) (some (3:Int)) (j8 (br (!t19.2.2.2.2.1) (j8 (P0 N (Ze x0.expr)) fun t86=>some (!t86)) (some false)) fun j46_5=>br (j46_5) (some (3:Int)) (j8 (br (!t19.2.2.2.2.2.1) (some (decide ((x0.body.length:Int)>(0:Int)))) (some false)) fun j46_6=>br (j46_6) (some (3:Int)) (j8 (br (!t19.2.2.2.2.2.2) (some (decide ((x0.els.length:Int)>(0:Int)))) (some false)) fun j46_7=>br (j46_7) (some (3:Int)) (j8 (u0 N x0.text) fun t110=>br (!t110) (some (3:Int)) (j8 (br (decide ((x0.params.length:Int)>(30:Int))) (some true) (some (decide ((t21.length:Int)>(30:Int))))) fun j112=>br (j112) (some (2:Int)) (j8 (j8 (r7 N x0.params) fun t125=>br (t125) (some true) (j8 (r7 N t21) fun t128=>some t128)) fun j122=>br (j122) (some (7:Int)) (some (0:Int)))))))))))))
def hsT(k:Int):T7:=if k=1 then(true,false,false,false,true,false,false)else if k=2 then(true,false,false,true,false,false,false)else if k=3 then(true,false,true,false,false,true,false)else if k=4 then(true,false,false,false,true,true,false)else if k=5 then(false,false,false,false,true,true,true)else(false,true,false,false,false,false,false)
theorem a5G(s:GStmt):S6 N s=some (hsT s.kind):=by
 unfold S6 hsT;by_cases h1:s.kind=1
 ·simp[h1]
 by_cases h2:s.kind=2
 ·simp[h2]
 by_cases h3:s.kind=3
 ·simp[h3]
 by_cases h4:s.kind=4
 ·simp[h4]
 by_cases h5:s.kind=5
 ·simp[h5]
 rw[E7 (by simpa using h1),E7 (by simpa using h2),E7 (by simpa using h3),E7 (by simpa using h4),E7 (by simpa using h5),if_neg h1,if_neg h2,if_neg h3,if_neg h4,if_neg h5]
structure BOk(s:GStmt)(x:Nat):Prop where
 deep:x<30
 lo:1<=s.kind
 hi:s.kind<=6
 c0:(hsT s.kind).1=true->A5 s.name=true
 c1:(if(hsT s.kind).2.2.1=true then s.params.any fun q=>!A5 q else false)=false
 c2:(if(hsT s.kind).2.2.2.1=true then(s.args.map (·.1)).any fun q=>!A5 q else false)=false
 c3:(if(!(hsT s.kind).1)=true then !(s.name==([]:d7))else false)=false
 c4:(if(!(hsT s.kind).2.1)=true then !(s.text==([]:d7))else false)=false
 c5:(if(!(hsT s.kind).2.2.1)=true then decide ((s.params.length:Int)>0)else false)=false
 c6:(if(!(hsT s.kind).2.2.2.1)=true then decide (((s.args.map (·.1)).length:Int)>0)else false)=false
 c7:(if(!(hsT s.kind).2.2.2.2.1)=true then !(isZ s.expr)else false)=false
 c8:(if(!(hsT s.kind).2.2.2.2.2.1)=true then decide ((s.body.length:Int)>0)else false)=false
 c9:(if(!(hsT s.kind).2.2.2.2.2.2)=true then decide ((s.els.length:Int)>0)else false)=false
 c10:s.text.all V5=true
theorem b8f(hN:J0<=N){k x:Nat}{s:GStmt}(h:ZS (k+1) s):∃v,E0 N s (x:Int)=some v/\(v=0->BOk s x):=by
 obtain⟨z1,z2,z3,z4,z5,z6,_⟩:=h;have T:=a3g hN s.text (a4d z2);have I:=L4 hN s.name (a4d z1);have A1:=a3u hN s.params (a4d z3) (fun q hq=>a4d (z4 q hq));have A2:=a3u hN (s.args.map (·.1)) (by rw[List.length_map];unfold maxLen;omega) (fun q hq=>by obtain⟨a,ha,rfl⟩:=List.mem_map.1 hq;exact a4d (z6 a ha).1);have nm:=b7M hN s z5;have hh:=a5G (N:=N) s;have ez:=GStmt.eta2 s;generalize hns:s.args.map (·.1)=ns at *;generalize hht:hsT s.kind=t19 at *;have CB:∃v,a9g N s t19 ns=some v/\(v=0->(if t19.2.2.1=true then s.params.any fun q=>!A5 q else false)=false/\(if t19.2.2.2.1=true then ns.any fun q=>!A5 q else false)=false/\(if(!t19.1)=true then !(s.name==([]:d7))else false)=false/\
   (if(!t19.2.1)=true then !(s.text==([]:d7))else false)=false/\(if(!t19.2.2.1)=true then decide ((s.params.length:Int)>0)else false)=false/\(if(!t19.2.2.2.1)=true then decide ((ns.length:Int)>0)else false)=false/\
   (if(!t19.2.2.2.2.1)=true then !(isZ s.expr)else false)=false/\(if(!t19.2.2.2.2.2.1)=true then decide ((s.body.length:Int)>0)else false)=false/\(if(!t19.2.2.2.2.2.2)=true then decide ((s.els.length:Int)>0)else false)=false/\s.text.all V5=true/\
   (if decide ((s.params.length:Int)>30)=true then true else decide ((ns.length:Int)>30))=false/\(if(!decide s.params.Nodup)=true then true else !decide ns.Nodup)=false/\True):=by
  have tw:decide ((s.params.length:Int)>30)=false/\decide ((ns.length:Int)>30)=false->(j8 (r7 N s.params) fun t125=>br (t125) (some true) (j8 (r7 N ns) fun t128=>some t128))=some (if(!decide s.params.Nodup)=true then true else !decide ns.Nodup):=fun h=>by
   have g1:=of_decide_eq_false h.1;have g2:=of_decide_eq_false h.2;rw[a3n s.params (by omega),d2,a3n ns (by omega),d2,Q9]
  have d30:(if decide ((s.params.length:Int)>30)=true then true else decide ((ns.length:Int)>30))=false->decide ((s.params.length:Int)>30)=false/\decide ((ns.length:Int)>30)=false:=fun h=>by
   cases h1:decide ((s.params.length:Int)>30)with
   |true=>rw[h1,if_pos rfl]at h;cases h
   |false=>rw[h1,if_neg (by decide)]at h;exact⟨rfl,h⟩
  unfold a9g;refine Z8 (by rw[A1,d2,Q9]) (by decide) fun _=>Z8 (by rw[A2,d2,Q9]) (by decide) fun _=>Z8 (Q9 _ _ _) (by decide) fun _=>Z8 (Q9 _ _ _) (by decide) fun _=>Z8 (Q9 _ _ _) (by decide) fun _=>Z8 (Q9 _ _ _) (by decide) fun _=>
   Z8 (by rw[GExpr.eta,b1G,d2,Q9]) (by decide) fun _=>Z8 (Q9 _ _ _) (by decide) fun _=>Z8 (Q9 _ _ _) (by decide) fun _=>d5y T (by decide) fun _=>Z8 (Q9 _ _ _) (by decide) fun h30=>Z8 (tw (d30 h30)) (by decide) fun _=>⟨0,rfl,fun _=>trivial⟩
 obtain⟨cv,cv1,cv2⟩:=CB;obtain⟨v,hv,hq⟩:∃v,E0 N s (x:Int)=some v/\(v=0->decide ((x:Int)>=30)=false/\(if decide (s.kind<1)=true then true else decide (s.kind>6))=false/\((t19.1=true->A5 s.name=true)/\cv=0)):=by
  unfold E0;refine c63 (by decide) fun _=>Z8 (Q9 _ _ _) (by decide) fun _=>?_
  simp only[ez,hh,nm,d2,v8];have hc1:y7 N s.name=some (!A5 s.name):=by unfold y7;rw[I,d2]
  have eC:∀w,a9g N s t19 ns=w->(br t19.1 (j8 (y7 N s.name) fun t29=>br t29 (some (5:Int)) (a9g N s t19 ns)) (a9g N s t19 ns))=br t19.1 (j8 (y7 N s.name) fun t29=>br t29 (some (5:Int)) w) w:=fun w e=>by rw[e]
  have e5:=eC _ cv1;unfold a9g at e5;rw[e5,o3,hc1,d2];cases t19.1 with
  |false=>rw[d9];exact⟨cv,rfl,fun h=>⟨fun h=>(by cases h),h⟩⟩
  |true=>
   rw[d8];cases hn:A5 s.name with
   |true=>rw[Bool.not_true,d9];exact⟨cv,rfl,fun h=>⟨fun _=>rfl,h⟩⟩
   |false=>rw[Bool.not_false,d8];exact⟨5,rfl,fun h=>absurd h (by decide)⟩
 refine⟨v,hv,fun h0=>?_⟩;obtain⟨b0,b1,b2,b3⟩:=hq h0;obtain⟨c1,c2,c3,c4,c5,c6,c7,c8,c9,c10,_⟩:=cv2 b3;have hlo:¬s.kind<1:=by intro h;simp[h]at b1
 have hhi:¬s.kind>6:=by intro h;simp[hlo,h]at b1
 subst hht;subst hns;exact⟨by simp at b0;omega,by omega,by omega,b2,c1,c2,c3,c4,c5,c6,c7,c8,c9,c10⟩
theorem b4x(hN:J0<=N){SB:List GStmt->Int->Option Int}{x:Nat}(hx:x<=39){ag:List Ag}(hl:ag.length<=1000000)(hz:∀q∈ag,ZE zz q.2){K:Option Int}{v2:Int}(hK:K=some v2):∀(u f j:Nat),j+u=ag.length->u<f->
  ∃v,a3q N SB (x:Int) ag (ag.length:Int) K f (j:Int)=some v/\(v=0->v2=0/\∀i (hi:i<ag.length),j<=i->WE zz (x+1) ag[i].2)
 |0,f,j,hj,hf=>by
  obtain⟨f,rfl⟩:∃q,f=q+1:=⟨f-1,by omega⟩;obtain rfl:j=ag.length:=by omega
  refine⟨v2,?_,fun h=>⟨h,fun i hi h=>by omega⟩⟩;show a1d _ _ _ _ _ _ _ _=_;unfold a1d;rw[a1r,d9,hK]
 |u+1,f,j,hj,hf=>by
  obtain⟨f,rfl⟩:∃q,f=q+1:=⟨f-1,by omega⟩;have h:j<ag.length:=by omega
  obtain⟨v,i1,i2⟩:=b4x hN (SB:=SB) hx hl hz hK u f (j+1) (by omega) (by omega);obtain⟨c,c1,c2⟩:=a9i hN zz _ (hz _ (List.getElem_mem h)) N (by unfold J0 at hN;unfold zz;omega) (x+1) (by omega);have step:a3q N SB (x:Int) ag (ag.length:Int) K (f+1) (j:Int)=br (c !=0) (some c) (some v):=by
   show a1d _ _ _ _ _ _ _ _=_;unfold a1d;rw[a0D h,d8,p6 _ h,d2];simp only[GExpr.eta,a5r (show x<=1000 by omega),c1,d2,a4q (n:=(j:Int)+1) (m:=j+1) (by omega) (by omega),i1]
  rw[step];by_cases h0:c=0
  ·rw[h0,bne_self_eq_false,d9];refine⟨v,rfl,fun hv=>⟨(i2 hv).1,fun i hi hij=>?_⟩⟩;by_cases e1:i=j
   ·subst e1;exact c2 h0
   ·exact(i2 hv).2 i hi (by omega)
  ·rw[show(c !=0)=true by simpa using h0,d8];exact⟨c,rfl,fun h=>absurd h h0⟩
theorem d7v{k x:Nat}{s:GStmt}(A:BOk s x)(hE:(hsT s.kind).2.2.2.2.1=true->WE zz (x+1) s.expr)(hG:∀q∈s.args,WE zz (x+1) q.2)(hB:∀c∈s.body,WS k (x+1) c)(hL:∀c∈s.els,WS k (x+1) c):WS (k+1) x s:=by
 obtain⟨deep,lo,hi,c0,c1,c2,c3,c4,c5,c6,c7,c8,c9,c10⟩:=A;obtain⟨kd,q,t,ps,ag,E,b,l,a⟩:=s;simp only[S0,U1,U3,K3,O7,X3,R9,X9]at *;have nil_of:∀{α:Type} {m:List α},decide ((m.length:Int)>0)=false->m=[]:=fun{α m} h=>by
  have h':¬(m.length:Int)>0:=of_decide_eq_false h;exact List.eq_nil_of_length_eq_zero (by omega)
 have agN:decide (((ag.map (·.1)).length:Int)>0)=false->ag=[]:=fun h=>nil_of (by rw[List.length_map]at h;exact h)
 have all_of:∀{m:List d7},(m.any fun q=>!A5 q)=false->∀c∈m,A5 c=true:=fun{m} h c hc=>by
  have:=List.any_eq_false.1 h c hc;simpa using this
 have zE_of:(!(isZ E))=false->E=zE:=fun h=>d7h (by simpa using h)
 have s_nil:∀{m:d7},(!(m==([]:d7)))=false->m=[]:=fun{m} h=>by simpa using h
 have hcase:kd=1\/kd=2\/kd=3\/kd=4\/kd=5\/kd=6:=by omega
 refine⟨deep,?_⟩;rcases hcase with rfl|rfl|rfl|rfl|rfl|rfl
 ·rw[s_nil c4,nil_of c5,agN c6,nil_of c8,nil_of c9];exact .inl ⟨q,E,a,zz,c0 rfl,hE rfl,rfl⟩
 ·rw[s_nil c4,nil_of c5,zE_of c7,nil_of c8,nil_of c9];refine .inr (.inl ⟨q,ag,a,zz,c0 rfl,fun c hc=>⟨?_,hG c hc⟩,rfl⟩);exact all_of c2 _ (List.mem_map_of_mem hc)
 ·rw[s_nil c4,agN c6,zE_of c7,nil_of c9];exact .inr (.inr (.inl ⟨q,ps,b,a,c0 rfl,all_of c1,hB,rfl⟩))
 ·rw[s_nil c4,nil_of c5,agN c6,nil_of c9];exact .inr (.inr (.inr (.inl ⟨q,E,b,a,zz,c0 rfl,hE rfl,hB,rfl⟩)))
 ·rw[s_nil c3,s_nil c4,nil_of c5,agN c6];exact .inr (.inr (.inr (.inr (.inl ⟨E,b,l,a,zz,hE rfl,hB,hL,rfl⟩))))
 ·rw[s_nil c3,nil_of c5,agN c6,zE_of c7,nil_of c8,nil_of c9];exact .inr (.inr (.inr (.inr (.inr ⟨t,a,c10,rfl⟩))))
abbrev CS:Type:=List GStmt->Int->Option Int
theorem b5d(hN:J0<=N){SB:CS}{k x:Nat}(hx:x<=39)(hB:∀l:List GStmt,l.length<=1000000->(∀c∈l,ZS k c)->∀y:Nat,y<=30->∃v,SB l (y:Int)=some v/\(v=0->∀c∈l,WS k y c)){Gs:List GStmt}(hl:Gs.length<=1000000)(hz:∀s∈Gs,ZS (k+1) s):∀(u f j:Nat),j+u=Gs.length->u<f->
  ∃v,a6Q N SB (x:Int) Gs (Gs.length:Int) (some 0) f (j:Int)=some v/\(v=0->∀i (hi:i<Gs.length),j<=i->WS (k+1) x Gs[i])
 |0,f,j,hj,hf=>by
  obtain⟨f,rfl⟩:∃q,f=q+1:=⟨f-1,by omega⟩;obtain rfl:j=Gs.length:=by omega
  refine⟨0,?_,fun _ i hi h=>by omega⟩;show X0 _ _ _ _ _ _ _ _=_;unfold X0;rw[a1r,d9]
 |u+1,f,j,hj,hf=>by
  obtain⟨f,rfl⟩:∃q,f=q+1:=⟨f-1,by omega⟩;have h:j<Gs.length:=by omega
  obtain⟨v,i1,i2⟩:=b5d hN (SB:=SB) hx hB hl hz u f (j+1) (by omega) (by omega);have hs:=hz _ (List.getElem_mem h);obtain⟨al,a1,a2⟩:=b8f hN (x:=x) hs;have ez:=GStmt.eta2 Gs[j];generalize hg:Gs[j]=s at *;obtain⟨z1,z2,z3,z4,z5,z6,z7,z8,z9,z10,z11⟩:=hs;show ∃v,X0 _ _ _ _ _ _ _ _=some v/\_;unfold X0;rw[a0D h,d8,p6 _ h,d2];simp only[hg,ez,ste,a1,d2,a5G,GExpr.eta,a4q (n:=(j:Int)+1) (m:=j+1) (by omega) (by omega),i1];by_cases h0:al=0
  case neg=>
   rw[show(al !=0)=true by simpa using h0,d8];exact⟨al,rfl,fun h=>absurd h h0⟩
  have A:=a2 h0;have hx30:=A.deep;rw[h0,bne_self_eq_false,d9];simp only[a5r (show x<=1000 by omega)];obtain⟨vb,vb1,vb2⟩:=hB s.body z8 z9 (x+1) (by omega);obtain⟨vl,vl1,vl2⟩:=hB s.els z10 z11 (x+1) (by omega);obtain⟨ve,ve1,ve2⟩:=a9i hN zz _ z7 N (by unfold J0 at hN;unfold zz;omega) (x+1) (by omega);simp only[vb1,vl1,ve1,d2];have hK:∃v2,(br (vb !=0) (some vb) (br (vl !=0) (some vl) (some v)))=some v2/\(v2=0->vb=0/\vl=0/\v=0):=by
   by_cases e1:vb=0
   ·rw[e1,bne_self_eq_false,d9];by_cases e2:vl=0
    ·rw[e2,bne_self_eq_false,d9];exact⟨v,rfl,fun h=>⟨rfl,rfl,h⟩⟩
    ·rw[show(vl !=0)=true by simpa using e2,d8];exact⟨vl,rfl,fun h=>absurd h e2⟩
   ·rw[show(vb !=0)=true by simpa using e1,d8];exact⟨vb,rfl,fun h=>absurd h e1⟩
  obtain⟨v2,k1,k2⟩:=hK;obtain⟨va,va1,va2⟩:=b4x hN (SB:=SB) (x:=x) hx z5 (fun q hq=>(z6 q hq).2) k1 s.args.length N 0 (by omega) (by unfold J0 at hN;omega);have va1:a3q N SB (x:Int) s.args (s.args.length:Int) _ N 0=some va:=va1;simp only[va1];have fin:((hsT s.kind).2.2.2.2.1=true->ve=0)->va=0->∀i (hi:i<Gs.length),j<=i->WS (k+1) x Gs[i]:=fun hve hva i hi hij=>by
   obtain⟨g1,g2⟩:=va2 hva;obtain⟨g3,g4,g5⟩:=k2 g1;by_cases e1:i=j
   ·subst e1;rw[hg];exact d7v A (fun h=>ve2 (hve h)) (fun q hq=>by obtain⟨m,hm,rfl⟩:=List.getElem_of_mem hq;exact g2 m hm (Nat.zero_le _)) (vb2 g3) (vl2 g4)
   ·exact i2 g5 i hi (by omega)
  cases hE:(hsT s.kind).2.2.2.2.1 with
  |false=>rw[d9];exact⟨va,rfl,fin (fun h=>by rw[hE]at h;cases h)⟩
  |true=>
   rw[d8];by_cases e1:ve=0
   ·rw[e1];rw[bne_self_eq_false,d9];exact⟨va,rfl,fin (fun _=>e1)⟩
   ·rw[show(ve !=0)=true by simpa using e1,d8];exact⟨ve,rfl,fun h=>absurd h e1⟩
theorem b5e(hN:J0<=N):∀(k n:Nat),k<n->∀l:List GStmt,l.length<=1000000->(∀c∈l,ZS k c)->∀y:Nat,y<=30->∃v,l7 N n l (y:Int)=some v/\(v=0->∀c∈l,WS k y c)
 |_,0,h,_,_,_,_,_=>absurd h (by omega)
 |0,n+1,_,l,hl,hz,y,hy=>by
  have:l=[]:=by
   cases l with
   |nil=>rfl
   |cons c l=>exact(hz c (by simp)).elim
  subst this;refine⟨0,?_,fun _ c hc=>by simp at hc⟩;show n7 N _ _ _=_;unfold n7;obtain⟨f,hf,_⟩:=a3y hN;have:a6Q N (l7 N n) (y:Int) [] ((([]:List GStmt).length:Nat):Int) (some 0) (f+1) 0=some 0:=by
   show X0 _ _ _ _ _ _ _ _=_;unfold X0;rw[show decide ((0:Int)<((([]:List GStmt).length:Nat):Int))=false by simp,d9]
  rw[<-hf]at this;exact this
 |k+1,n+1,h,l,hl,hz,y,hy=>by
  obtain⟨v,v1,v2⟩:=b5d hN (SB:=l7 N n) (k:=k) (x:=y) (by omega) (fun l hl hz y hy=>b5e hN k n (by omega) l hl hz y hy) hl hz l.length N 0 (by omega) (by unfold J0 at hN;omega);refine⟨v,v1,fun h0 c hc=>?_⟩;obtain⟨i,hi,rfl⟩:=List.getElem_of_mem hc;exact v2 h0 i hi (Nat.zero_le _)
theorem b1K(hN:J0<=N):∀(k:Nat) (e:GExpr),ZE k e->∀n,k<=n->∃v,S2 N n e=some v
 |0,_,h,_,_=>h.elim
 |k+1,e,h,0,hn=>by omega
 |k+1,e,h,n+1,hn=>by
  obtain⟨_,_,_,hl,hc⟩:=h;have go:∀(u f j:Nat) (s:Int),j+u=e.kids.length->u<f->∃v,b9g N (S2 N n) e.kids (e.kids.length:Int) (fun o=>some o) f s (j:Int)=some v:=by
   intro u;induction u with
   |zero=>
    intro f j s hj hf;obtain⟨f,rfl⟩:∃q,f=q+1:=⟨f-1,by omega⟩;obtain rfl:j=e.kids.length:=by omega
    refine⟨s,?_⟩;show a4a _ _ _ _ _ _ _ _=_;unfold a4a;rw[a1r,d9]
   |succ u ih=>
    intro f j s hj hf;obtain⟨f,rfl⟩:∃q,f=q+1:=⟨f-1,by omega⟩;have h:j<e.kids.length:=by omega
    obtain⟨m,hm⟩:=b1K hN k _ (hc _ (List.getElem_mem h)) n (by omega);obtain⟨v,hv⟩:=ih f (j+1) (IntKind.i64.wrap (s+m)) (by omega) (by omega);refine⟨v,?_⟩;show a4a _ _ _ _ _ _ _ _=_;unfold a4a;rw[a0D h,d8,p6 _ h,d2,GExpr.eta,hm,d2,a4q (n:=(j:Int)+1) (m:=j+1) (by omega) (by omega),hv]
  exact go e.kids.length N 0 1 (by omega) (by unfold J0 at hN;omega)
theorem b4F(hN:J0<=N){SB:List GStmt->Option Int}{ag:List Ag}(hl:ag.length<=1000000)(hz:∀q∈ag,ZE zz q.2){K:Int->Option Int}(hK:∀o,∃v,K o=some v):∀(u f j:Nat) (s:Int),j+u=ag.length->u<f->∃v,a5y N SB ag (ag.length:Int) K f s (j:Int)=some v
 |0,f,j,s,hj,hf=>by
  obtain⟨f,rfl⟩:∃q,f=q+1:=⟨f-1,by omega⟩;obtain rfl:j=ag.length:=by omega
  obtain⟨v,hv⟩:=hK s;refine⟨v,?_⟩;show a1e _ _ _ _ _ _ _ _=_;unfold a1e;rw[a1r,d9,hv]
 |u+1,f,j,s,hj,hf=>by
  obtain⟨f,rfl⟩:∃q,f=q+1:=⟨f-1,by omega⟩;have h:j<ag.length:=by omega
  obtain⟨m,hm⟩:=b1K hN zz _ (hz _ (List.getElem_mem h)) N (by unfold J0 at hN;unfold zz;omega);obtain⟨v,hv⟩:=b4F hN (SB:=SB) hl hz hK u f (j+1) (IntKind.i64.wrap (s+m)) (by omega) (by omega);refine⟨v,?_⟩;show a1e _ _ _ _ _ _ _ _=_;unfold a1e;rw[a0D h,d8,p6 _ h,d2,GExpr.eta,hm,d2,a4q (n:=(j:Int)+1) (m:=j+1) (by omega) (by omega),hv]
theorem b4J(hN:J0<=N):∀(k n:Nat),k<n->∀l:List GStmt,l.length<=1000000->(∀c∈l,ZS k c)->∃v,t7 N n l=some v
 |_,0,h,_,_,_=>absurd h (by omega)
 |0,n+1,_,l,hl,hz=>by
  have:l=[]:=by
   cases l with
   |nil=>rfl
   |cons c l=>exact(hz c (by simp)).elim
  subst this;refine⟨0,?_⟩;show E8 N _ _=_;unfold E8;obtain⟨f,hf,_⟩:=a3y hN;have:a5x N (t7 N n) [] ((([]:List GStmt).length:Nat):Int) (fun o=>some o) (f+1) 0 0=some 0:=by
   show X1 _ _ _ _ _ _ _ _=_;unfold X1;rw[show decide ((0:Int)<((([]:List GStmt).length:Nat):Int))=false by simp,d9]
  rw[<-hf]at this;exact this
 |k+1,n+1,h,l,hl,hz=>by
  have ih:=fun l hl hz=>b4J hN k n (by omega) l hl hz
  have go:∀(u f j:Nat) (s:Int),j+u=l.length->u<f->∃v,a5x N (t7 N n) l (l.length:Int) (fun o=>some o) f s (j:Int)=some v:=by
   intro u;induction u with
   |zero=>
    intro f j s hj hf;obtain⟨f,rfl⟩:∃q,f=q+1:=⟨f-1,by omega⟩;obtain rfl:j=l.length:=by omega
    refine⟨s,?_⟩;show X1 _ _ _ _ _ _ _ _=_;unfold X1;rw[a1r,d9]
   |succ u ihu=>
    intro f j s hj hf;obtain⟨f,rfl⟩:∃q,f=q+1:=⟨f-1,by omega⟩;have h:j<l.length:=by omega
    obtain⟨z1,z2,z3,z4,z5,z6,z7,z8,z9,z10,z11⟩:=hz _ (List.getElem_mem h);have ez:=GStmt.eta2 l[j];generalize hg:l[j]=s0 at *;obtain⟨vb,hvb⟩:=ih s0.body z8 z9;obtain⟨vl,hvl⟩:=ih s0.els z10 z11;obtain⟨ve,hve⟩:=b1K hN zz _ z7 N (by unfold J0 at hN;unfold zz;omega);have hK:∀o:Int,∃v,(j8 (t7 N n s0.body) fun t40=>j8 (t7 N n s0.els) fun t43=>a5x N (t7 N n) l (l.length:Int) (fun o=>some o) f (IntKind.i64.wrap (o+(IntKind.i64.wrap (t40+t43)))) (IntKind.i64.wrap ((j:Int)+1)))=some v:=fun o=>by
     rw[hvb,d2,hvl,d2,a4q (n:=(j:Int)+1) (m:=j+1) (by omega) (by omega)];exact ihu f (j+1) _ (by omega) (by omega)
    have hA:=fun s=>b4F hN (SB:=t7 N n) z5 (fun q hq=>(z6 q hq).2) hK s0.args.length N 0 s (by omega) (by unfold J0 at hN;omega)
    show ∃v,X1 _ _ _ _ _ _ _ _=some v;unfold X1;rw[a0D h,d8,p6 _ h,d2];simp only[hg,ez,ste,a5G,d2,GExpr.eta,hve];cases (hsT s0.kind).2.2.2.2.1 with
    |true=>rw[d8];exact hA _
    |false=>rw[d9];exact hA _
  exact go l.length N 0 0 (by omega) (by unfold J0 at hN;omega)
theorem b1m(hN:J0<=N)(l:List GStmt)(hl:l.length<=1000000)(hz:∀s∈l,ZS zz s):∃c,m7 N l=some c/\(c=0->∀s∈l,WS zz 0 s):=by
 have hb:zz<N:=by unfold J0 at hN;unfold zz;omega
 obtain⟨m,hm⟩:=b4J hN zz N hb l hl hz;obtain⟨v,v1,v2⟩:=b5e hN zz N hb l hl hz 0 (by omega);unfold m7;rw[hm,d2,show l7 N N l 0=some v from v1,d2];by_cases h:m>50000
 ·rw[decide_eq_true h,d8];exact⟨2,rfl,fun h=>absurd h (by decide)⟩
 ·rw[decide_eq_false h,d9];exact⟨v,rfl,v2⟩
end
end Go.Proofs.YtolpmfhiegpohaaGreatDoor
