/- % -/
import Derived.Test.YtolpmfhiegpohaaGreatDoorQLBl4
import Derived.Test.YtolpmfhiegpohaaGreatDoorQLPaB
namespace Go.Proofs.YtolpmfhiegpohaaGreatDoor
set_option linter.unusedVariables false
set_option linter.unusedSimpArgs false
open Go Go.RowKit
section
variable{N:Nat}
abbrev c5p:d9:=[101,108,115,101]
theorem a3a:([109,97,99,114,111]:d9)∈a6U/\([102,111,114]:d9)∈a6U/\([105,102]:d9)∈a6U/\([117,115,101]:d9)∈a6U/\c5p∈a6U:=by decide
theorem a7Q{k x:Nat}{s:GStmt}(h:WS k x s):∃u ks,tkS s=nmT u :: ks/\u≠c5p:=by
 cases k with
 |zero=>exact h.elim
 |succ k=>
  rcases h.2 with⟨q,E,a,m,h1,h2,rfl⟩|⟨q,ag,a,m,h1,h2,rfl⟩|⟨q,ps,b,a,h1,h2,h3,rfl⟩|⟨q,E,b,a,m,h1,h2,h3,rfl⟩|⟨E,b,l,a,m,h1,h2,h3,rfl⟩|⟨t,a,h1,rfl⟩
  ·rw[d0e];exact⟨q,_,rfl,a1K h1 a3a.2.2.2.2⟩
  ·rw[d0f];exact⟨q,_,rfl,a1K h1 a3a.2.2.2.2⟩
  ·rw[d0g];exact⟨_,_,rfl,by decide⟩
  ·rw[d0h];exact⟨_,_,rfl,by decide⟩
  ·rw[d0i];exact⟨_,_,rfl,by decide⟩
  ·rw[d0j];exact⟨_,_,rfl,by decide⟩
theorem b9D{k x:Nat}{s:GStmt}(h:WS k x s):0<(tkS s).length:=by
 obtain⟨u,ks,e,_⟩:=a7Q h;rw[e];simp
def b4H(w:List A6)(j:Nat):Prop:=N4 w j 1 c5p=false
section
variable{w:List A6}{e0:Int}
theorem b2d{n:Nat}{k0:KP}{a e p:Int}{b:Bool}{M:Mk}{ks:List d9}:r8 N k0 (n+1) a e b p w M ks=N8 N k0 (r8 N k0 n) a e b p w M ks:=rfl
theorem b7r{n:Nat}{x:Int}{k0:KA}{a e p:Int}{b:Bool}{M:Mk}{ag:List Ag}:u0 N x k0 (n+1) a e b p w M ag=R5 N x k0 (u0 N x k0 n) a e b p w M ag:=rfl
theorem c5w(V:Wc N w e0){K:KP}{p:Int}{M:Mk}:∀(ps:List d9) (f i:Nat) (ks:List d9) (r:List Key),ps ≠ []->(∀q∈ps,w9 q=true)->ps.length<f->ks.length<=i->At w i (q9 (ps.map fun q=>[nmT q])++D8 41 :: r)->
  r8 N K f (i:Int) e0 false p w M ks=K ((i+(q9 (ps.map fun q=>[nmT q])).length:Nat):Int) e0 false p w M (ks++ps)
 |[],_,_,_,_,h0,_,_,_,_=>absurd rfl h0
 |[q],f,i,ks,r,_,hps,hf,hks,ha=>by
  obtain⟨f,rfl⟩:∃q,f=q+1:=⟨f-1,by simp at hf;omega⟩;have hwl:=V.wl;have ha':At w i (nmT q :: D8 41 :: r):=ha;have hi:=ha'.lt;have hn:=ha'.name (hps q (by simp));have h41:N4 w i 4 [41]=false:=by rw[ha'.is];rfl
  have hc:N4 w (i+1) 4 [44]=false:=by rw[ha'.tl.is];rfl
  rw[b2d,a4v,b9e V hn (by omega),p8 hc,Y8,h41];simp only[Bool.not_false,d7,a8];cases decide ((ks.length:Int)>0)<;>simp only[d7,d6,List.map_cons,List.map_nil,q9,List.length_cons,List.length_nil]
 |q :: q' :: ps,f,i,ks,r,_,hps,hf,hks,ha=>by
  obtain⟨f,rfl⟩:∃q,f=q+1:=⟨f-1,by simp at hf;omega⟩;have hwl:=V.wl;rw[show q9 ((q :: q' :: ps).map fun q=>[nmT q])=[nmT q]++([D8 44]++q9 ((q' :: ps).map fun q=>[nmT q]))from rfl]at ha ⊢;have ha':At w i (nmT q :: D8 44 :: (q9 ((q' :: ps).map fun q=>[nmT q])++D8 41 :: r)):=by simpa using ha
  have hi:=ha'.lt;have hn:=ha'.name (hps q (by simp));have h41:N4 w i 4 [41]=false:=by rw[ha'.is];rfl
  have hc:N4 w (i+1) 4 [44]=true:=ha'.tl.sign;have ih:=c5w V (K:=K) (p:=p) (M:=M) (q' :: ps) f (i+1+1) (ks ++ [q]) r (by simp) (fun z hz=>hps z (List.mem_cons_of_mem _ hz)) (by simp at hf ⊢;omega) (by rw[List.length_append];simp;omega) ha'.tl.tl;rw[b2d,a4v,b9e V hn (by omega),F0 V.wl hc,Y8,h41];simp only[Bool.not_false,d7,a8,Bool.not_true,d6];rw[ih];have e1:i+([nmT q]++([D8 44]++q9 ((q' :: ps).map fun q=>[nmT q]))).length=i+1+1+(q9 ((q' :: ps).map fun q=>[nmT q])).length:=by simp only[List.length_append,List.length_cons,List.length_nil];omega
  rw[e1,List.append_assoc];cases decide ((ks.length:Int)>0)<;>simp only[d7,d6,List.cons_append,List.nil_append]
theorem c49(V:Wc N w e0){y m:Nat}(hy:y<40){K:KA}{p:Int}:∀(az:List Ag) (f i:Nat) (M:Mk) (ag:List Ag) (r:List Key),az ≠ []->(∀q∈az,w9 q.1=true/\WE m y q.2)->az.length<f->M.length<=i->ag.length<=i->At w i (q9 (az.map (a3P u9))++D8 41 :: r)->
  ∃T,Mok 0 T/\T.length<=(q9 (az.map (a3P u9))).length/\u0 N (y:Int) K f (i:Int) e0 false p w M ag=K ((i+(q9 (az.map (a3P u9))).length:Nat):Int) e0 false p w (M++T) (ag++az)
 |[],_,_,_,_,_,h0,_,_,_,_,_=>absurd rfl h0
 |(q,e) :: az,f,i,M,ag,r,_,has,hf,hM,hag,ha=>by
  obtain⟨f,rfl⟩:∃q,f=q+1:=⟨f-1,by simp at hf;omega⟩;obtain⟨hq,he⟩:=has (q,e) (by simp);have hwl:=V.wl;have hN:=V.hN;have hp:=a08 he;obtain⟨rest,hrest,hcase⟩:∃rest,(q9 (((q,e) :: az).map (a3P u9))++D8 41 :: r=nmT q :: D8 61 :: (u9 e++rest))/\((az=[]/\rest=D8 41 :: r)\/(az ≠ []/\rest=D8 44 :: (q9 (az.map (a3P u9))++D8 41 :: r))):=by
   cases az with
   |nil=>exact⟨_,rfl,.inl ⟨rfl,rfl⟩⟩
   |cons z az=>exact⟨_,by rw[List.map_cons,List.map_cons,a3k];simp[a3P],.inr ⟨by simp,rfl⟩⟩
  rw[hrest]at ha;have b1:=ha.tl;have b2:=b1.tl;have b3:=b2.app;have hle:=b3.1.le (by intro h;rw[h]at hp;simp at hp);have hst:c5M w (i+1+1+(u9 e).length):=by
   rcases hcase with⟨_,hr⟩|⟨_,hr⟩
   ·rw[hr]at b3;exact b3.2.stop (by decide)
   ·rw[hr]at b3;exact b3.2.stop (by decide)
  obtain⟨T,t1,t2,t3⟩:=a7i V N m y y 0 e (i+1+1) (by omega) he (by unfold I1 at hN;omega) b3.1 hst M p (by omega);have h41:N4 w i 4 [41]=false:=by rw[ha.is];rfl
  have fitA':=c87 (l:=ag) (z:=(q,e)) (by omega);have eB:∀k0 self,c2J N (y:Int) k0 self (i:Int) e0 false p w M ag=(j8 (l5 N (4:Int) ([44]:d9) ((i+1+1+(u9 e).length:Nat):Int) e0 false p w (M++T)) fun t38=>br (!t38.1)
    (k0 t38.2.1 t38.2.2.1 t38.2.2.2.1 t38.2.2.2.2.1 t38.2.2.2.2.2.1 t38.2.2.2.2.2.2 (ag ++ [(q,e)]))
    (self t38.2.1 t38.2.2.1 t38.2.2.2.1 t38.2.2.2.2.1 t38.2.2.2.2.2.1 t38.2.2.2.2.2.2 (ag ++ [(q,e)]))):=fun k0 self=>by
   unfold c2J;simp only[a1M V.hN V.wl V.wok (ha.name hq),a8,x7 V.wl b1.sign,t3,GExpr.eta,fitA',d7]
  rw[b7r,b8M,eB,Y8,h41];rcases hcase with⟨rfl,hr⟩|⟨hz,hr⟩
  ·rw[hr]at b3;have hc:N4 w (i+1+1+(u9 e).length) 4 [44]=false:=by rw[b3.2.is];rfl
   have hlen:(q9 ([(q,e)].map (a3P u9))).length=2+(u9 e).length:=by simp only[List.map_cons,List.map_nil,q9,a3P,List.length_append,List.length_cons,List.length_nil]
   refine⟨T,t1,by rw[hlen];omega,?_⟩;rw[p8 hc,hlen,show i+(2+(u9 e).length)=i+1+1+(u9 e).length by omega];simp only[Bool.not_false,d7,a8];cases decide ((ag.length:Int)>0)<;>simp only[d7,d6]
  ·rw[hr]at b3;have hc:N4 w (i+1+1+(u9 e).length) 4 [44]=true:=b3.2.sign;obtain⟨U,u1,u2,u3⟩:=c49 V hy (K:=K) (p:=p) az f (i+1+1+(u9 e).length+1) (M++T) (ag ++ [(q,e)]) r hz (fun d hd=>has d (List.mem_cons_of_mem _ hd)) (by simp at hf ⊢;omega) (by rw[List.length_append];omega) (by rw[List.length_append];simp;omega) b3.2.tl;have hlen:(q9 (((q,e) :: az).map (a3P u9))).length=2+(u9 e).length+1+(q9 (az.map (a3P u9))).length:=by
    have:=congrArg List.length hrest;rw[hr]at this;simp only[List.length_append,List.length_cons]at this;omega
   refine⟨T++U,t1.app u1,by rw[List.length_append,hlen];omega,?_⟩;rw[F0 V.wl hc,hlen,show i+(2+(u9 e).length+1+(q9 (az.map (a3P u9))).length)=i+1+1+(u9 e).length+1+(q9 (az.map (a3P u9))).length by omega];simp only[Bool.not_false,d7,a8,Bool.not_true,d6];rw[u3,List.append_assoc,List.append_assoc];cases decide ((ag.length:Int)>0)<;>simp only[d7,d6,List.cons_append,List.nil_append]
def d91(w:List A6)(e0:Int)(B:RBt)(y i:Nat)(l:List GStmt)(j:Nat):Prop:=∀(M:Mk) (p:Int),M.length<=i->∃(T:Mk) (G:List GStmt),Mok 0 T/\T.length+i<=j/\erL G=erL l/\B (y:Int) (i:Int) e0 false p w M=some (G,(j:Int),e0,false,p,w,M++T)
def c2x(w:List A6)(e0:Int)(B:RBt)(L:Nat):Prop:=∀(k y i:Nat) (l:List GStmt),y<40->(∀s∈l,WS k y s)->(J7 l).length<L->At w i ([D8 123]++J7 l ++ [D8 125])->d91 w e0 B y i l (i+((J7 l).length+2))
variable{B:RBt}{L:Nat}
theorem e0m(V:Wc N w e0){i x:Nat}(hx:x<30):Mok 0 [(atS w i e0,(x:Int))]:=b88 V i (x:=x) (c:=0) rfl hx
theorem c1p(V:Wc N w e0)(hB:c2x w e0 B L){k x i:Nat}{s:GStmt}(hs:WS (k+1) x s)(hl:(tkS s).length<=L)(ha:At w i (tkS s))(hne:b4H w (i+(tkS s).length)):∀(M:Mk) (p:Int),M.length<=i->
  ∃(T:Mk) (G:GStmt),Mok 0 T/\T.length+i<=i+(tkS s).length/\(erS G=erS s/\G.at_=atS w i e0)/\n7 N B (x:Int) (i:Int) e0 false p w M=some (G,((i+(tkS s).length:Nat):Int),e0,false,p,w,M++T):=by
 intro M p hM;have hi:i<w.length:=by
  obtain⟨u,ks,e,_⟩:=a7Q hs;rw[e]at ha;exact ha.lt
 obtain⟨hx,hs⟩:=hs;have hwl:=V.wl;have hN:=V.hN;have hmk:=e0m (i:=i) V hx;have hM1:(M ++ [(atS w i e0,(x:Int))]).length<=i+1:=by simp;omega
 have hx1:IntKind.i64.wrap ((x:Int)+1)=((x+1:Nat):Int):=a7X (by omega);obtain⟨f,hf,hf2⟩:=a4k V.hN;rcases hs with⟨q,E,a,m,h1,h2,rfl⟩|⟨q,ag,a,m,h1,h2,rfl⟩|⟨q,ps,b,a,h1,h2,h3,rfl⟩|⟨q,E,b,a,m,h1,h2,h3,rfl⟩|⟨E,b,l,a,m,h1,h2,h3,rfl⟩|⟨t,a,h1,rfl⟩
 ·rw[d0e]at ha hl ⊢;have ha':At w i (nmT q :: D8 61 :: (u9 E ++ [D8 59])):=by simpa using ha
  have hlen:([nmT q,D8 61]++u9 E ++ [D8 59]).length=(u9 E).length+3:=by simp only[List.length_append,List.length_cons,List.length_nil];omega
  have n1:N4 w i 1 [109,97,99,114,111]=false:=by rw[ha'.is];simp[a1K h1 a3a.1]
  have n2:N4 w i 1 [102,111,114]=false:=by rw[ha'.is];simp[a1K h1 a3a.2.1]
  have n3:N4 w i 1 [105,102]=false:=by rw[ha'.is];simp[a1K h1 a3a.2.2.1]
  have n4:N4 w i 1 [117,115,101]=false:=by rw[ha'.is];simp[a1K h1 a3a.2.2.2.1]
  have b1:=ha'.tl;have b2:=b1.tl.app;obtain⟨T,t1,t2,t3⟩:=a7i V N m (x+1) (x+1) 0 E (i+1+1) (by omega) h2 (by have:=b2.1.le (by intro h;have:=a08 h2;rw[h]at this;simp at this);unfold I1 at hN;omega) b2.1 (b2.2.stop (by decide)) (M ++ [(atS w i e0,(x:Int))]) p (by omega);refine⟨[(atS w i e0,(x:Int))]++T,.mk 1 q [] [] [] E [] [] (atS w i e0),hmk.app t1,by rw[hlen];simp only[List.length_append,List.length_cons,List.length_nil];omega,⟨by rw[X4,X4];rfl,rfl⟩,?_⟩;unfold n7;rw[a2j,a8,a3r (by omega),a8];simp only[p8 n1,p8 n2,p8 n3,p8 n4,a8,d6];unfold N9;simp only[a1M V.hN V.wl V.wok (ha'.name h1),a8,F0 V.wl b1.sign,d7,hx1,t3,x7 V.wl b2.2.sign,GExpr.eta];rw[hlen,show i+((u9 E).length+3)=i+1+1+(u9 E).length+1 by omega,List.append_assoc]
 ·rw[d0f]at ha hl ⊢;have ha':At w i (nmT q :: D8 40 :: (q9 (ag.map (a3P u9))++D8 41 :: [D8 59])):=by simpa using ha
  have hlen:([nmT q,D8 40]++q9 (ag.map (a3P u9)) ++ [D8 41,D8 59]).length=(q9 (ag.map (a3P u9))).length+4:=by simp only[List.length_append,List.length_cons,List.length_nil];omega
  have n1:N4 w i 1 [109,97,99,114,111]=false:=by rw[ha'.is];simp[a1K h1 a3a.1]
  have n2:N4 w i 1 [102,111,114]=false:=by rw[ha'.is];simp[a1K h1 a3a.2.1]
  have n3:N4 w i 1 [105,102]=false:=by rw[ha'.is];simp[a1K h1 a3a.2.2.1]
  have n4:N4 w i 1 [117,115,101]=false:=by rw[ha'.is];simp[a1K h1 a3a.2.2.2.1]
  have b1:=ha'.tl;have b2:=b1.tl;have b3:=b2.app.2;have n5:N4 w (i+1) 4 [61]=false:=by rw[b1.is];rfl
  have hloop:∃T,Mok 0 T/\T.length<=(q9 (ag.map (a3P u9))).length/\u0 N ((x+1:Nat):Int) (fun o0_0_1 o0_0_2 o0_0_3 o0_0_4 o0_w1 o0_w2 o0_w1005=>
   j8 (k8 N ([41]:d9) o0_0_1 o0_0_2 o0_0_3 o0_0_4 o0_w1 o0_w2) fun t41=>
   some (t41.1,t41.2.1,t41.2.2.1,t41.2.2.2.1,t41.2.2.2.2.1,t41.2.2.2.2.2,o0_w1005)) N ((i+1+1:Nat):Int) e0 false p w (M ++ [(atS w i e0,(x:Int))]) []=some (((i+1+1+(q9 (ag.map (a3P u9))).length+1:Nat):Int),e0,false,p,w,M ++ [(atS w i e0,(x:Int))]++T,ag):=by
   cases ag with
   |nil=>
    refine⟨[],Mok.nil,by simp,?_⟩;have b2':At w (i+1+1) (D8 41 :: [D8 59]):=b2;rw[hf,b7r,b8M,Y8,b2'.sign,x7 V.wl b2'.sign];simp only[Bool.not_false,d7,List.length_nil,show decide (((0:Nat):Int)>0)=false by decide,d6,a8,Bool.not_true,List.append_nil];rfl
   |cons z az=>
    have hlt:(z :: az).length<N:=by
     have h5:=a5J (l:=(z :: az).map (a3P u9)) (fun s hs=>by
      obtain⟨d,hd,rfl⟩:=List.mem_map.1 hs;simp[a3P])
     rw[List.length_map]at h5;have h6:=b2.app.1.le (by intro h;rw[h]at h5;simp at h5);omega
    obtain⟨T,t1,t2,t3⟩:=c49 V (y:=x+1) (m:=m) (by omega) (p:=p) (K:=fun o0_0_1 o0_0_2 o0_0_3 o0_0_4 o0_w1 o0_w2 o0_w1005=>
     j8 (k8 N ([41]:d9) o0_0_1 o0_0_2 o0_0_3 o0_0_4 o0_w1 o0_w2) fun t41=>
     some (t41.1,t41.2.1,t41.2.2.1,t41.2.2.2.1,t41.2.2.2.2.1,t41.2.2.2.2.2,o0_w1005)) (z :: az) N (i+1+1) (M ++ [(atS w i e0,(x:Int))]) [] [D8 59] (by simp) h2 hlt (by omega) (by simp) b2
    refine⟨T,t1,t2,?_⟩;rw[t3];simp only[x7 V.wl b3.sign,a8,List.nil_append]
  obtain⟨T,t1,t2,t3⟩:=hloop;refine⟨[(atS w i e0,(x:Int))]++T,.mk 2 q [] [] ag zE [] [] (atS w i e0),hmk.app t1,by rw[hlen];simp only[List.length_append,List.length_cons,List.length_nil];omega,⟨by rw[X4,X4];rfl,rfl⟩,?_⟩;unfold n7;rw[a2j,a8,a3r (by omega),a8];simp only[p8 n1,p8 n2,p8 n3,p8 n4,a8,d6];unfold N9;simp only[a1M V.hN V.wl V.wok (ha'.name h1),a8,p8 n5,d6,Y8,b1.sign,d7];unfold a2Z;simp only[x7 V.wl b1.sign,a8,hx1];rw[t3];simp only[a8,x7 V.wl b3.tl.sign];rw[hlen,show i+((q9 (ag.map (a3P u9))).length+4)=i+1+1+(q9 (ag.map (a3P u9))).length+1+1 by omega,List.append_assoc]
 ·rw[d0g]at ha hl ⊢;have ha':At w i (nmT [109,97,99,114,111] :: nmT q :: D8 40 :: (q9 (ps.map fun p=>[nmT p])++D8 41 :: ([D8 123]++J7 b ++ [D8 125]))):=by simpa using ha
  have hlen:([nmT [109,97,99,114,111],nmT q,D8 40]++q9 (ps.map fun p=>[nmT p]) ++ [D8 41,D8 123]++(J7 b ++ [D8 125])).length=(q9 (ps.map fun p=>[nmT p])).length+(J7 b).length+6:=by simp only[List.length_append,List.length_cons,List.length_nil];omega
  have b0:=ha'.tl;have b1:=b0.tl;have b2:=b1.tl;have b3:=b2.app.2;have hloop:r8 N (fun o0_0_1 o0_0_2 o0_0_3 o0_0_4 o0_w1 o0_w2 o0_w1003=>
   j8 (k8 N ([41]:d9) o0_0_1 o0_0_2 o0_0_3 o0_0_4 o0_w1 o0_w2) fun t32=>
   some (t32.1,t32.2.1,t32.2.2.1,t32.2.2.2.1,t32.2.2.2.2.1,t32.2.2.2.2.2,o0_w1003)) N ((i+1+1+1:Nat):Int) e0 false p w (M ++ [(atS w i e0,(x:Int))]) []=some (((i+1+1+1+(q9 (ps.map fun p=>[nmT p])).length+1:Nat):Int),e0,false,p,w,M ++ [(atS w i e0,(x:Int))],ps):=by
   cases ps with
   |nil=>
    have b2':At w (i+1+1+1) (D8 41 :: ([D8 123]++J7 b ++ [D8 125])):=b2;rw[hf,b2d,a4v,Y8,b2'.sign,x7 V.wl b2'.sign];simp only[Bool.not_false,d7,List.length_nil,show decide (((0:Nat):Int)>0)=false by decide,d6,a8,Bool.not_true];rfl
   |cons z az=>
    have hlt:(z :: az).length<N:=by
     have h5:=a5J (l:=(z :: az).map fun p=>[nmT p]) (fun s hs=>by
      obtain⟨d,hd,rfl⟩:=List.mem_map.1 hs;simp)
     rw[List.length_map]at h5;have h6:=b2.app.1.le (by intro h;rw[h]at h5;simp at h5);omega
    rw[c5w V (z :: az) N (i+1+1+1) [] _ (by simp) h2 hlt (by simp) b2];simp only[x7 V.wl b3.sign,a8,List.nil_append]
  obtain⟨T,G,t1,t2,t3,t4⟩:=hB k (x+1) _ b (by omega) h3 (by omega) b3.tl (M ++ [(atS w i e0,(x:Int))]) p (by omega);refine⟨[(atS w i e0,(x:Int))]++T,.mk 3 q [] ps [] zE G [] (atS w i e0),hmk.app t1,by rw[hlen];simp only[List.length_append,List.length_cons,List.length_nil];omega,⟨by rw[X4,X4,t3];rfl,rfl⟩,?_⟩;unfold n7;rw[a2j,a8,a3r (by omega),a8];simp only[F0 V.wl ha'.word,a8,d7,a1M V.hN V.wl V.wok (b0.name h1)];unfold a25;simp only[x7 V.wl b1.sign,a8];rw[hloop];simp only[a8,hx1];rw[t4];simp only[a8];rw[hlen,show i+((q9 (ps.map fun p=>[nmT p])).length+(J7 b).length+6)=i+1+1+1+(q9 (ps.map fun p=>[nmT p])).length+1+((J7 b).length+2) by omega,List.append_assoc]
 ·rw[d0h]at ha hl ⊢;have ha':At w i (nmT [102,111,114] :: nmT q :: nmT [105,110] :: (u9 E++([D8 123]++J7 b ++ [D8 125]))):=by simpa using ha
  have hlen:([nmT [102,111,114],nmT q,nmT [105,110]]++u9 E ++ [D8 123]++(J7 b ++ [D8 125])).length=(u9 E).length+(J7 b).length+5:=by simp only[List.length_append,List.length_cons,List.length_nil];omega
  have n1:N4 w i 1 [109,97,99,114,111]=false:=by rw[ha'.is];rfl
  have b0:=ha'.tl;have b1:=b0.tl;have b2:=b1.tl.app;obtain⟨T,t1,t2,t3⟩:=a7i V N m (x+1) (x+1) 0 E (i+1+1+1) (by omega) h2 (by have:=b2.1.le (by intro h;have:=a08 h2;rw[h]at this;simp at this);unfold I1 at hN;omega) b2.1 (At.stop (c:=123) (ks:=J7 b ++ [D8 125]) (by simpa using b2.2) (by decide)) (M ++ [(atS w i e0,(x:Int))]) p (by omega);obtain⟨U,G,u1,u2,u3,u4⟩:=hB k (x+1) _ b (by omega) h3 (by omega) b2.2 (M ++ [(atS w i e0,(x:Int))]++T) p (by rw[List.length_append];omega);refine⟨[(atS w i e0,(x:Int))]++T++U,.mk 4 q [] [] [] E G [] (atS w i e0),(hmk.app t1).app u1,by rw[hlen];simp only[List.length_append,List.length_cons,List.length_nil];omega,⟨by rw[X4,X4,u3];rfl,rfl⟩,?_⟩;unfold n7;rw[a2j,a8,a3r (by omega),a8];simp only[p8 n1,a8,d6,F0 V.wl ha'.word,d7,a1M V.hN V.wl V.wok (b0.name h1),b9l V.wl b1.word,hx1,t3,u4,GExpr.eta];rw[hlen,show i+((u9 E).length+(J7 b).length+5)=i+1+1+1+(u9 E).length+((J7 b).length+2) by omega];simp only[List.append_assoc]
 ·rw[d0i]at ha hl hne ⊢;have ha':At w i (nmT [105,102] :: (u9 E++(([D8 123]++J7 b ++ [D8 125])++(if l.isEmpty then []else nmT c5p :: ([D8 123]++J7 l ++ [D8 125]))))):=by
   cases l with
   |nil=>simpa using ha
   |cons c l=>simpa using ha
  have hlen:([nmT [105,102]]++u9 E ++ [D8 123]++(J7 b++((if l.isEmpty then []else [D8 125,nmT [101,108,115,101],D8 123]++J7 l) ++ [D8 125]))).length=(u9 E).length+(J7 b).length+3+(if l.isEmpty then 0 else(J7 l).length+3):=by
   cases l with
   |nil=>simp only[List.isEmpty_nil,if_true,List.length_append,List.length_cons,List.length_nil];omega
   |cons c l=>simp only[List.isEmpty_cons,Bool.false_eq_true,if_false,List.length_append,List.length_cons,List.length_nil];omega
  rw[hlen]at hl hne;have n1:N4 w i 1 [109,97,99,114,111]=false:=by rw[ha'.is];rfl
  have n2:N4 w i 1 [102,111,114]=false:=by rw[ha'.is];rfl
  have b1:=ha'.tl.app;have b2:=b1.2.app;have eb:([D8 123]++J7 b ++ [D8 125]).length=(J7 b).length+2:=by simp only[List.length_append,List.length_cons,List.length_nil];omega
  rw[eb]at b2;obtain⟨T,t1,t2,t3⟩:=a7i V N m (x+1) (x+1) 0 E (i+1) (by omega) h1 (by have:=b1.1.le (by intro h;have:=a08 h1;rw[h]at this;simp at this);unfold I1 at hN;omega) b1.1 (At.stop (c:=123) (ks:=J7 b ++ [D8 125]++_) (by simpa using b1.2) (by decide)) (M ++ [(atS w i e0,(x:Int))]) p (by omega);obtain⟨U,G,u1,u2,u3,u4⟩:=hB k (x+1) _ b (by omega) h2 (by omega) b2.1 (M ++ [(atS w i e0,(x:Int))]++T) p (by rw[List.length_append];omega);cases l with
  |nil=>
   simp only[List.isEmpty_nil,if_true,Nat.add_zero]at hlen hne;have n5:N4 w (i+1+(u9 E).length+((J7 b).length+2)) 1 [101,108,115,101]=false:=by
    have:=hne;unfold b4H at this;rw[show i+1+(u9 E).length+((J7 b).length+2)=i+((u9 E).length+(J7 b).length+3) by omega];exact this
   refine⟨[(atS w i e0,(x:Int))]++T++U,.mk 5 [] [] [] [] E G [] (atS w i e0),(hmk.app t1).app u1,by simp only[List.isEmpty_nil,if_true];rw[hlen];simp only[List.length_append,List.length_cons,List.length_nil];omega,⟨by rw[X4,X4,u3];rfl,rfl⟩,?_⟩;unfold n7;rw[a2j,a8,a3r (by omega),a8];simp only[p8 n1,p8 n2,a8,d6,F0 V.wl ha'.word,d7,hx1,t3,u4,GExpr.eta,p8 n5];simp only[List.isEmpty_nil,if_true];rw[hlen,show i+((u9 E).length+(J7 b).length+3)=i+1+(u9 E).length+((J7 b).length+2) by omega];simp only[List.append_assoc]
  |cons c l=>
   simp only[List.isEmpty_cons,Bool.false_eq_true,if_false]at hlen hne b2 hl ⊢;have b3:=b2.2;obtain⟨U2,G2,v1,v2,v3,v4⟩:=hB k (x+1) _ (c :: l) (by omega) h3 (by omega) b3.tl (M ++ [(atS w i e0,(x:Int))]++T++U) p (by simp only[List.length_append]at *;omega);refine⟨[(atS w i e0,(x:Int))]++T++U++U2,.mk 5 [] [] [] [] E G G2 (atS w i e0),((hmk.app t1).app u1).app v1,by rw[hlen];simp only[List.length_append,List.length_cons,List.length_nil]at *;omega,⟨by rw[X4,X4,u3,v3];rfl,rfl⟩,?_⟩;unfold n7;rw[a2j,a8,a3r (by omega),a8];simp only[p8 n1,p8 n2,a8,d6,F0 V.wl ha'.word,d7,hx1,t3,u4,GExpr.eta,F0 V.wl b3.word,v4];rw[hlen,show i+((u9 E).length+(J7 b).length+3+((J7 (c :: l)).length+3))=i+1+(u9 E).length+((J7 b).length+2)+1+((J7 (c :: l)).length+2) by omega];simp only[List.append_assoc]
 ·rw[d0j]at ha hl ⊢;have n1:N4 w i 1 [109,97,99,114,111]=false:=by rw[ha.is];rfl
  have n2:N4 w i 1 [102,111,114]=false:=by rw[ha.is];rfl
  have n3:N4 w i 1 [105,102]=false:=by rw[ha.is];rfl
  have b1:=ha.tl;refine⟨[(atS w i e0,(x:Int))],.mk 6 [] t [] [] zE [] [] (atS w i e0),hmk,by simp;omega,⟨by rw[X4,X4];rfl,rfl⟩,?_⟩;unfold n7;rw[a2j,a8,a3r (by omega),a8];simp only[p8 n1,p8 n2,p8 n3,a8,d6,F0 V.wl ha.word,d7,b0s V.wl b1.text,x7 V.wl b1.tl.sign];rfl
def endB(w:List A6)(j:Nat):Prop:=N4 w j 4 [125]=true\/¬j<w.length
theorem endB.ne{j:Nat}(h:endB w j):b4H w j:=by
 rcases h with h|h
 ·exact(b3Z h).2 _
 ·exact b81 h
theorem c1q{k x:Nat}:∀(l:List GStmt) {i:Nat},(∀s∈l,WS k x s)->At w i (J7 l)->endB w (i+(J7 l).length)->b4H w i
 |[],i,_,_,h=>by rw[b0y]at h;exact h.ne
 |s :: l,i,hs,ha,_=>by
  rw[a0L]at ha;obtain⟨u,ks,e,hu⟩:=a7Q (hs s (by simp));rw[e]at ha;unfold b4H;rw[At.is (ks:=ks++J7 l) ha];simp[hu]
theorem b0c(s:GStmt)(l:List GStmt):erL (s :: l)=erS s :: erL l:=by rw[b0d,b0d];rfl
theorem c1o(s:GStmt):GStmt.mk s.kind s.name s.text s.params s.args (Ze s.expr) s.body s.els s.at_=s:=GStmt.eta2 s
abbrev KG:Type:=Int->Int->Bool->Int->List A6->Mk->List GStmt->Option (Int×Int×Bool×Int×List A6×Mk×List GStmt)
theorem b4N{n:Nat}{x:Int}{k0:KG}{a e p:Int}{b:Bool}{M:Mk}{Gs:List GStmt}:C1 N B x k0 (n+1) a e b p w M Gs=A7 N B x k0 (C1 N B x k0 n) a e b p w M Gs:=rfl
theorem c09(V:Wc N w e0)(hB:c2x w e0 B L){k x:Nat}{K:KG}{p:Int}:∀(l:List GStmt) (f i:Nat) (M:Mk) (Gs:List GStmt),(∀s∈l,WS k x s/\(tkS s).length<=L)->l.length<f->M.length<=i->Gs.length<=i->At w i (J7 l)->endB w (i+(J7 l).length)->
  ∃(T:Mk) (G:List GStmt),Mok 0 T/\T.length<=(J7 l).length/\erL G=erL l/\C1 N B (x:Int) K f (i:Int) e0 false p w M Gs=K ((i+(J7 l).length:Nat):Int) e0 false p w (M++T) (Gs++G)
 |[],f,i,M,Gs,_,hf,_,_,ha,he=>by
  obtain⟨f,rfl⟩:∃q,f=q+1:=⟨f-1,by omega⟩;refine⟨[],[],Mok.nil,by simp,rfl,?_⟩;rw[b0y]at he ⊢;rw[b4N];unfold A7;rw[Bool.not_false,d7];by_cases hi:i<w.length
  ·rcases he with he|he
   ·have he':N4 w i 4 [125]=true:=he;rw[V8 hi,d7,Y8,he',a8];simp
   ·exact absurd hi he
  ·rw[decide_eq_false (show ¬(i:Int)<(w.length:Int) by omega),d6];simp
 |s :: l,f,i,M,Gs,hs,hf,hM,hG,ha,he=>by
  obtain⟨f,rfl⟩:∃q,f=q+1:=⟨f-1,by omega⟩;have hwl:=V.wl;obtain⟨h1,h2⟩:=hs s (by simp);have hpos:=b9D h1;obtain⟨u,ks,eu,hu⟩:=a7Q h1;rw[a0L]at ha he;rw[List.length_append,<-Nat.add_assoc]at he;obtain⟨a1,a2⟩:=ha.app;have hne:=c1q l (fun c hc=>(hs c (List.mem_cons_of_mem _ hc)).1) a2 he;have hle:=a1.le (by intro h;rw[h]at hpos;simp at hpos);cases k with
  |zero=>exact h1.elim
  |succ k=>
  obtain⟨T,g,t1,t2,t3,t4⟩:=c1p V hB h1 h2 a1 hne M p hM;obtain⟨U,G,u1,u2,u3,u4⟩:=c09 V hB (k:=k+1) (K:=K) (p:=p) l f (i+(tkS s).length) (M++T) (Gs ++ [g]) (fun c hc=>hs c (List.mem_cons_of_mem _ hc)) (by simp at hf;omega) (by rw[List.length_append];omega) (by rw[List.length_append];simp;omega) a2 he;refine⟨T++U,g :: G,t1.app u1,by rw[a0L,List.length_append,List.length_append];omega,by rw[b0c,b0c,t3.1,u3],?_⟩;rw[b4N];unfold A7;have h125:N4 w i 4 [125]=false:=by
   rw[eu]at a1;rw[At.is a1];rfl
  rw[Bool.not_false,d7,V8 (show i<w.length by omega),d7,Y8,h125,a8,Bool.not_false,d7,t4,a8];simp only[c1o,c29 (l:=Gs) (z:=g) (by omega),d7];rw[u4,a0L,List.length_append,<-Nat.add_assoc,List.append_assoc,List.append_assoc];rfl
theorem c1x:∀{l:List GStmt} {s:GStmt},s∈l->(tkS s).length<=(J7 l).length
 |c :: l,s,h=>by
  rw[a0L,List.length_append];rcases List.mem_cons.1 h with rfl|h
  ·omega
  ·have:=c1x h;omega
theorem c1w{k x:Nat}:∀{l:List GStmt},(∀s∈l,WS k x s)->l.length<=(J7 l).length
 |[],_=>by simp
 |c :: l,h=>by
  rw[a0L,List.length_append,List.length_cons];have:=b9D (h c (by simp));have:=c1w (l:=l) fun s hs=>h s (List.mem_cons_of_mem _ hs)
  omega
theorem b7w(V:Wc N w e0):∀n,c2x w e0 (S2 N n) n
 |0=>fun _ _ _ _ _ _ h=>absurd h (by omega)
 |n+1=>by
  have hB:=b7w V n;intro k y i l hy hs hl ha M p hM;have hwl:=V.wl;have ha':At w i (D8 123 :: (J7 l ++ [D8 125])):=by simpa using ha
  have b1:=ha'.tl.app;obtain⟨f,hf,hf2⟩:=a4k V.hN;have hi:=ha'.lt;have hle:i+1+(J7 l).length<w.length:=At.lt b1.2;obtain⟨T,G,t1,t2,t3,t4⟩:=c09 V hB (k:=k) (x:=y) (p:=p) (K:=fun o0_0_1 o0_0_2 o0_0_3 o0_0_4 o0_w1 o0_w2 o0_w1005=>
   some (o0_0_1,o0_0_2,o0_0_3,o0_0_4,o0_w1,o0_w2,o0_w1005)) l N (i+1) M [] (fun s hs'=>⟨hs s hs',by have:=c1x hs';omega⟩) (by have:=c1w hs;omega) (by omega) (by simp) b1.1 (.inl b1.2.sign)
  refine⟨T,G,t1,by omega,t3,?_⟩;show B2 N (S2 N n) (y:Int) (i:Int) e0 false p w M=_;unfold B2;rw[x7 V.wl ha'.sign,a8];unfold W8;simp only;rw[t4];simp only[a8,x7 V.wl b1.2.sign,List.nil_append];rw[show i+((J7 l).length+2)=i+1+(J7 l).length+1 by omega]
abbrev KT:Type:=Int->Int->Bool->Int->List A6->List GStmt->Mk->Option (Int×Int×Bool×Int×List A6×List GStmt×Mk)
theorem b8f{n:Nat}{x:Int}{k0:KT}{a e p:Int}{b:Bool}{M:Mk}{Gs:List GStmt}:C0 N x k0 (n+1) a e b p w Gs M=D0 N x k0 (C0 N x k0 n) a e b p w Gs M:=rfl
theorem c52(V:Wc N w e0){k x:Nat}{K:KT}{p:Int}:∀(l:List GStmt) (f i:Nat) (M:Mk) (Gs:List GStmt),(∀s∈l,WS k x s)->l.length<f->M.length<=i->Gs.length<=i->At w i (J7 l)->¬i+(J7 l).length<w.length->
  ∃(T:Mk) (G:List GStmt),Mok 0 T/\T.length<=(J7 l).length/\(erL G=erL l/\∀s l',l=s :: l'->∃g G',G=g :: G'/\g.at_=atS w i e0)/\C0 N (x:Int) K f (i:Int) e0 false p w Gs M=K ((i+(J7 l).length:Nat):Int) e0 false p w (Gs++G) (M++T)
 |[],f,i,M,Gs,_,hf,_,_,ha,he=>by
  obtain⟨f,rfl⟩:∃q,f=q+1:=⟨f-1,by omega⟩;refine⟨[],[],Mok.nil,by simp,⟨rfl,fun _ _ h=>by cases h⟩,?_⟩;rw[b0y]at he ⊢;rw[b8f];unfold D0;rw[Bool.not_false,d7,decide_eq_false (show ¬(i:Int)<(w.length:Int) by simp at he;omega),d6];simp
 |s :: l,f,i,M,Gs,hs,hf,hM,hG,ha,he=>by
  obtain⟨f,rfl⟩:∃q,f=q+1:=⟨f-1,by omega⟩;have hwl:=V.wl;have h1:=hs s (by simp);have hpos:=b9D h1;obtain⟨u,ks,eu,hu⟩:=a7Q h1;rw[a0L]at ha he;rw[List.length_append,<-Nat.add_assoc]at he;obtain⟨a1,a2⟩:=ha.app;have hne:=c1q l (fun c hc=>hs c (List.mem_cons_of_mem _ hc)) a2 (.inr he);have hle:=a1.le (by intro h;rw[h]at hpos;simp at hpos);cases k with
  |zero=>exact h1.elim
  |succ k=>
  obtain⟨T,g,t1,t2,t3,t4⟩:=c1p V (b7w V N) h1 (by have:=V.hN;unfold I1 at this;omega) a1 hne M p hM;obtain⟨U,G,u1,u2,u3,u4⟩:=c52 V (k:=k+1) (K:=K) (p:=p) l f (i+(tkS s).length) (M++T) (Gs ++ [g]) (fun c hc=>hs c (List.mem_cons_of_mem _ hc)) (by simp at hf;omega) (by rw[List.length_append];omega) (by rw[List.length_append];simp;omega) a2 he;refine⟨T++U,g :: G,t1.app u1,by rw[a0L,List.length_append,List.length_append];omega,⟨by rw[b0c,b0c,t3.1,u3.1],fun _ _ _=>⟨g,G,rfl,t3.2⟩⟩,?_⟩;rw[b8f];unfold D0;have h125:N4 w i 4 [125]=false:=by
   rw[eu]at a1;rw[At.is a1];rfl
  rw[Bool.not_false,d7,V8 (show i<w.length by omega),d7,Y8,h125,a8,Bool.not_false,d7,t4,a8];simp only[c1o,c29 (l:=Gs) (z:=g) (by omega),d7];rw[u4,a0L,List.length_append,<-Nat.add_assoc,List.append_assoc,List.append_assoc];rfl
end
theorem c0g:∀(T:Mk),(∀m∈T,m.2<30)->dp (-1) T = -1
 |[],_=>rfl
 |m :: T,h=>by
  have h1:dp1 (-1) m = -1:=by unfold dp1;rw[if_neg (by have:=h m (by simp);omega)]
  show dp (dp1 (-1) m) T = -1;rw[h1];exact c0g T fun z hz=>h z (List.mem_cons_of_mem _ hz)
end
noncomputable section
variable{N:Nat}
theorem b3R(hN:I1<=N)(l:List d9)(hx:l.length<=maxLen)(hl:∀q∈l,q.length<=maxLen):l7 N l ()=some (l.any fun q=>!w9 q):=by
 unfold l7 G1;have:c8a N l (l.length:Int) (some (-1)) N 0=some (b80 (fun q=>!w9 q) l):=by
  refine T6 (fun _ _=>rfl) l hx (fun self i h r hr=>?_) (fun self=>?_) hN
  ·have hi:=hl _ (List.getElem_mem h);unfold b5Q B4;simp only[m6 l h,N1 hx h,hr,a8,M9 hN _ hi];rw[S1 h,d7,a2M]
  ·simp[b5Q]
 rw[this,a8,a3j]
theorem c2H(hN:I1<=N)(l:List d9)(hx:l.length<=maxLen)(hl:∀q∈l,q.length<=maxLen):l9 N l ()=some (l.any fun q=>!q.all O5):=by
 unfold l9 E6;have:c75 N l (l.length:Int) (some (-1)) N 0=some (b80 (fun q=>!q.all O5) l):=by
  refine T6 (fun _ _=>rfl) l hx (fun self i h r hr=>?_) (fun self=>?_) hN
  ·have hi:=hl _ (List.getElem_mem h);unfold b5C S4;simp only[m6 l h,N1 hx h,hr,a8,a0I hN _ hi];rw[S1 h,d7,a2M]
  ·simp[b5C]
 rw[this,a8,a3j]
theorem c5r{l:List d9}{z:d9}(h:l.length<=1000000000):Zf (l.length + [z].length) .str=true:=decide_eq_true (by simp[Ty.sz];omega)
theorem c9u(hN:I1<=N)(G:GStmt)(h:G.args.length<=1000000):R6 N G=some (G.args.map (·.1)):=by
 unfold R6;have go:∀(m f j:Nat),j+m=G.args.length->m<f->e5n N G.args (G.args.length:Int) (fun o=>some o) f (j:Int) ((G.args.take j).map (·.1))=some (G.args.map (·.1)):=by
  intro m;induction m with
  |zero=>
   intro f j hj hf;obtain⟨f,rfl⟩:∃q,f=q+1:=⟨f-1,by omega⟩;obtain rfl:j=G.args.length:=by omega
   show e4s _ _ _ _ _ _ _=_;unfold e4s;rw[Z9,d6,List.take_length]
  |succ m ih=>
   intro f j hj hf;obtain⟨f,rfl⟩:∃q,f=q+1:=⟨f-1,by omega⟩;have hl:j<G.args.length:=by omega
   show e4s _ _ _ _ _ _ _=_;unfold e4s;rw[V8 hl,d7,m6 _ hl,a8,c5r (by simp;omega),d7,a5l (m:=j+1) (by omega) (by omega)];rw[show(G.args.take j).map (·.1) ++ [G.args[j].1]=(G.args.take (j+1)).map (·.1) by rw[List.take_succ_eq_append_getElem hl,List.map_append];rfl];exact ih f (j+1) (by omega) (by omega)
 have:=go G.args.length N 0 (by omega) (by unfold I1 at hN;omega);simpa using this
def zz:Nat:=2000000
def ZE:Nat->GExpr->Prop|0,_=>False|k+1,e=>e.text.length<=zz/\e.keys.length<=zz/\(∀q∈e.keys,q.length<=zz)/\e.kids.length<=1000000/\∀c∈e.kids,ZE k c
def ZS:Nat->GStmt->Prop|0,_=>False|k+1,s=>s.name.length<=zz/\s.text.length<=zz/\s.params.length<=zz/\(∀q∈s.params,q.length<=zz)/\s.args.length<=1000000/\(∀q∈s.args,q.1.length<=zz/\ZE zz q.2)/\ZE zz s.expr/\s.body.length<=1000000/\(∀c∈s.body,ZS k c)/\s.els.length<=1000000/\∀c∈s.els,ZS k c
theorem a6C{n:Nat}(h:n<=zz):n<=maxLen:=by unfold zz at h;unfold maxLen;omega
theorem a1o{c:Option Bool}{b:Bool}{n:Int}{rest:Option Int}{Q:Prop}(hc:c=some b)(hn:n≠0)(hr:b=false->∃v,rest=some v/\(v=0->Q)):∃v,(j8 c fun j=>br j (some n) rest)=some v/\(v=0->b=false/\Q):=by
 rw[hc,a8];cases b with
 |true=>rw[d7];exact⟨n,rfl,fun h=>absurd h hn⟩
 |false=>rw[d6];obtain⟨v,h1,h2⟩:=hr rfl;exact⟨v,h1,fun h=>⟨rfl,h2 h⟩⟩
theorem c96{b:Bool}{n:Int}{rest:Option Int}{Q:Prop}(hn:n≠0)(hr:b=false->∃v,rest=some v/\(v=0->Q)):∃v,(br b (some n) rest)=some v/\(v=0->b=false/\Q):=by
 cases b with
 |true=>rw[d7];exact⟨n,rfl,fun h=>absurd h hn⟩
 |false=>rw[d6];obtain⟨v,h1,h2⟩:=hr rfl;exact⟨v,h1,fun h=>⟨rfl,h2 h⟩⟩
theorem X3(b c d:Bool):br b (some c) (some d)=some (if b=true then c else d):=by cases b<;>simp
noncomputable def c2V(N:Nat)(x0:GExpr)(x1:Int)(j5:Bool)(q:Int):Option Int:=br (decide (x1>=(30:Int))) (some (2:Int)) (j8 (br (decide (x0.kind<(1:Int))) (some true) (some (decide (x0.kind>(8:Int))))) fun j28=>br (j28) (some (4:Int)) (j8 (br (x0.kind==(3:Int)) (j8 (G5 N x0.text) fun t44=>some (!t44)) (some false)) fun j37=>br (j37) (some (5:Int)) (j8 (br (!j5) (some (!(x0.text==([]:d9)))) (some false)) fun j47=>br (j47) (some (3:Int)) (j8 (br (x0.number !=(0:Int)) (some (x0.kind !=(2:Int))) (some false)) fun j47_1=>br (j47_1) (some (3:Int)) (j8 (br (decide ((x0.keys.length:Int)>(0:Int))) (some (x0.kind !=(6:Int))) (some false)) fun j47_2=>br (j47_2) (some (3:Int)) (j8 (j8 (y8 N x0.text) fun t75=>br (!t75) (some true) (j8 (l9 N x0.keys ()) fun t80=>some t80)) fun j72=>br (j72) (some (3:Int)) (j8 (br (decide (x0.number<(0:Int))) (some true) (some (decide (x0.number>(999999999:Int))))) fun j82=>br (j82) (some (3:Int)) (j8 (br (decide (q>=(0:Int))) (some ((x0.kids.length:Int) !=q)) (some false)) fun j82_3=>br (j82_3) (some (3:Int)) (j8 (br (x0.kind==(6:Int)) (br ((x0.keys.length:Int) !=(x0.kids.length:Int)) (some true) (some ((x0.keys.length:Int)==(0:Int)))) (some false)) fun j100=>br (j100) (some (3:Int)) (j8 (a0h N x0.keys) fun t122=>br (t122) (some (7:Int)) (some (0:Int))))))))))))
theorem Q7{R:Type}{c:Bool}{x y:Option R}(h:c=true):br c x y=x:=by rw[h,d7]
theorem G9{R:Type}{c:Bool}{x y:Option R}(h:c=false):br c x y=y:=by rw[h,d6]
theorem b9W(N:Nat)(e:GExpr)(x:Int):∃q:Int,m5 N e x=c2V N e x (e.kind==1||e.kind==3) q/\((e.kind=1\/e.kind=2\/e.kind=3)->q=0)/\((e.kind=5\/e.kind=7\/e.kind=8)->q=2)/\(q=0\/q=2\/q = -1):=by
 unfold m5;rw[show(br (e.kind==1) (some true) (some (e.kind==3)))=some (e.kind==1||e.kind==3) by cases (e.kind==1)<;>simp,a8];by_cases h1:e.kind=1
 ·refine⟨0,?_,fun _=>rfl,fun h=>by omega,.inl rfl⟩;rw[Q7 (by simp[h1])];rfl
 rw[G9 (c:=e.kind==1) (by simp[h1])];by_cases h2:e.kind=2
 ·refine⟨0,?_,fun _=>rfl,fun h=>by omega,.inl rfl⟩;rw[Q7 (by simp[h2])];rfl
 rw[G9 (c:=e.kind==2) (by simp[h2])];by_cases h3:e.kind=3
 ·refine⟨0,?_,fun _=>rfl,fun h=>by omega,.inl rfl⟩;rw[Q7 (by simp[h3])];rfl
 rw[G9 (c:=e.kind==3) (by simp[h3])];by_cases h5:e.kind=5
 ·refine⟨2,?_,fun h=>by omega,fun _=>rfl,.inr (.inl rfl)⟩;rw[Q7 (by simp[h5])];rfl
 rw[G9 (c:=e.kind==5) (by simp[h5])];by_cases h7:e.kind=7
 ·refine⟨2,?_,fun h=>by omega,fun _=>rfl,.inr (.inl rfl)⟩;rw[Q7 (by simp[h7])];rfl
 rw[G9 (c:=e.kind==7) (by simp[h7])];by_cases h8:e.kind=8
 ·refine⟨2,?_,fun h=>by omega,fun _=>rfl,.inr (.inl rfl)⟩;rw[Q7 (by simp[h8])];rfl
 rw[G9 (c:=e.kind==8) (by simp[h8])];exact⟨-1,rfl,fun h=>by omega,fun h=>by omega,.inr (.inr rfl)⟩
structure AOk(e:GExpr)(x:Nat):Prop where
 deep:x<30
 lo:1<=e.kind
 hi:e.kind<=8
 name:e.kind=3->w9 e.text=true
 text:e.kind≠1->e.kind≠3->e.text=[]
 number:e.kind≠2->e.number=0
 keys:e.kind≠6->e.keys=[]
 all:e.text.all O5=true
 kall:∀q∈e.keys,q.all O5=true
 n0:0<=e.number
 n9:e.number<=999999999
 leaf:(e.kind=1\/e.kind=2\/e.kind=3)->e.kids=[]
 two:(e.kind=5\/e.kind=7\/e.kind=8)->e.kids.length=2
 choice:e.kind=6->e.keys.length=e.kids.length/\0<e.kids.length
theorem c2G(hN:I1<=N){k x:Nat}{e:GExpr}(h:ZE (k+1) e):∃v,m5 N e (x:Int)=some v/\(v=0->AOk e x):=by
 obtain⟨q,e1,q0,q2,qv⟩:=b9W N e x;obtain⟨z1,z2,z3,z4,_⟩:=h;have T:=a0I hN e.text (a6C z1);have I:=M9 hN e.text (a6C z1);have K:=c2H hN e.keys (a6C z2) (fun q hq=>a6C (z3 q hq));obtain⟨v,hv,hq⟩:∃v,c2V N e (x:Int) (e.kind==1||e.kind==3) q=some v/\(v=0->decide ((x:Int)>=30)=false/\(if decide (e.kind<1)=true then true else decide (e.kind>8))=false/\(if(e.kind==3)=true then !(w9 e.text)else false)=false/\
   (if(!(e.kind==1||e.kind==3))=true then !(e.text==([]:d9))else false)=false/\(if(e.number !=0)=true then(e.kind !=2)else false)=false/\(if decide ((e.keys.length:Int)>0)=true then(e.kind !=6)else false)=false/\
   (if(!(e.text.all O5))=true then true else e.keys.any fun q=>!q.all O5)=false/\(if decide (e.number<0)=true then true else decide (e.number>999999999))=false/\(if decide (q>=0)=true then((e.kids.length:Int) !=q)else false)=false/\
   (if(e.kind==6)=true then(if((e.keys.length:Int) !=(e.kids.length:Int))=true then true else((e.keys.length:Int)==0))else false)=false/\(!decide e.keys.Nodup)=false/\True):=by
  unfold c2V;refine c96 (by decide) fun h0=>a1o (X3 _ _ _) (by decide) fun h1=>a1o (by rw[I,a8,X3]) (by decide) fun h2=>a1o (X3 _ _ _) (by decide) fun h3=>a1o (X3 _ _ _) (by decide) fun h4=>a1o (X3 _ _ _) (by decide) fun h5=>
   a1o (by rw[T,a8,K,a8,X3]) (by decide) fun h6=>a1o (X3 _ _ _) (by decide) fun h7=>a1o (X3 _ _ _) (by decide) fun h8=>a1o (by rw[X3,X3]) (by decide) fun h9=>a1o (a2z _ ?_) (by decide) fun _=>⟨0,rfl,fun _=>trivial⟩
  by_cases hk:e.kind=6
  ·simp[hk]at h9;omega
  ·simp[hk]at h5;simp[h5]
 refine⟨v,by rw[e1];exact hv,fun h0=>?_⟩;obtain⟨b0,b1,b2,b3,b4,b5,b6,b7,b8,b9,_⟩:=hq h0;have x30:x<30:=by simp at b0;omega
 have hlo:¬e.kind<1:=by intro h;simp[h]at b1
 have hhi:¬e.kind>8:=by intro h;simp[hlo,h]at b1
 have htx:e.text.all O5=true:=by
  cases ht:e.text.all O5 with
  |true=>rfl
  |false=>simp[ht]at b6
 have hn0:¬e.number<0:=by intro h;simp[h]at b7
 refine⟨x30,by omega,by omega,fun h=>?_,fun h h'=>?_,fun h=>?_,fun h=>?_,htx,fun q hq=>?_,by omega,?_,fun h=>?_,fun h=>?_,fun h=>?_⟩
 ·simpa [h]using b2
 ·simpa [h,h']using b3
 ·simpa [h]using b4
 ·simpa [h]using b5
 ·rw[htx]at b6;simp at b6;have:=b6 q hq;simpa using this
 ·have:¬e.number>999999999:=by intro h;simp[hn0,h]at b7
  omega
 ·rw[q0 h]at b8;simpa using b8
 ·rw[q2 h]at b8;have:(e.kids.length:Int)=2:=by simpa using b8
  omega
 ·simp[h]at b9;exact⟨by omega,by
   rcases Nat.eq_zero_or_pos e.kids.length with h1|h1
   ·exfalso;have h2:e.keys=[]:=List.eq_nil_of_length_eq_zero (by omega);exact b9.2 h2
   ·exact h1⟩
theorem b7P(hN:I1<=N){S:Ck}{k x:Nat}{kd n:Int}{t:d9}{ks:List d9}{es:List GExpr}(hl:es.length<=1000000)(hx:x<30)(hc:∀c∈es,∀y:Nat,y<=40->∃v,S c (y:Int)=some v/\(v=0->WE k y c)):∀(u f j:Nat),j+u=es.length->u<f->
  ∃v,f0e N S (x:Int) es (es.length:Int) kd t n ks es (some 0) f (j:Int)=some v/\(v=0->∀i (hi:i<es.length),j<=i->WE k (x+(if kd=7 then 0 else 1)+pb (Z7 kd es[i].kind (i:Int))) es[i])
 |0,f,j,hj,hf=>by
  obtain⟨f,rfl⟩:∃q,f=q+1:=⟨f-1,by omega⟩;obtain rfl:j=es.length:=by omega
  refine⟨0,?_,fun _ i hi h=>by omega⟩;show f0o _ _ _ _ _ _ _ _ _ _ _ _ _=_;unfold f0o;rw[Z9,d6]
 |u+1,f,j,hj,hf=>by
  obtain⟨f,rfl⟩:∃q,f=q+1:=⟨f-1,by omega⟩;have h:j<es.length:=by omega
  obtain⟨v,i1,i2⟩:=b7P (kd:=kd) (n:=n) (t:=t) (ks:=ks) hN hl hx hc u f (j+1) (by omega) (by omega);have hin:=(c3f (N:=N) (k:=kd) (n:=n) (t:=t) (ks:=ks) h).1;obtain⟨y,hy⟩:∃y:Nat,y=x+(if kd=7 then 0 else 1)+pb (Z7 kd es[j].kind (j:Int)):=⟨_,rfl⟩;have hy40:y<=40:=by
   have:pb (Z7 kd es[j].kind (j:Int))<=1:=by unfold pb;split<;>omega
   rw[hy];split<;>omega
  obtain⟨c,c1,c2⟩:=hc _ (List.getElem_mem h) y hy40;have step:f0e N S (x:Int) es (es.length:Int) kd t n ks es (some 0) (f+1) (j:Int)=br (c !=0) (some c) (some v):=by
   show f0o _ _ _ _ _ _ _ _ _ _ _ _ _=_;unfold f0o;rw[V8 h,d7,m6 _ h,a8];simp only[hin,a8,GExpr.eta,a5l (n:=(j:Int)+1) (m:=j+1) (by omega) (by omega),i1,a7X (show x<=1000 by omega),a5l (n:=((x+1:Nat):Int)+1) (m:=x+2) (by omega) (by omega)];by_cases h7:kd=7
   ·rw[if_pos h7]at hy;rw[G9 (show(kd !=7)=false by simp[h7])];cases hb:Z7 kd es[j].kind (j:Int)with
    |true=>rw[hb]at hy;rw[d7,show((x+1:Nat):Int)=(y:Int) by rw[hy];rfl,c1,a8]
    |false=>rw[hb]at hy;rw[d6,show(x:Int)=(y:Int) by rw[hy];rfl,c1,a8]
   ·rw[if_neg h7]at hy;rw[Q7 (show(kd !=7)=true by simp[h7])];cases hb:Z7 kd es[j].kind (j:Int)with
    |true=>rw[hb]at hy;rw[d7,show((x+2:Nat):Int)=(y:Int) by rw[hy];rfl,c1,a8]
    |false=>rw[hb]at hy;rw[d6,show((x+1:Nat):Int)=(y:Int) by rw[hy];rfl,c1,a8]
  rw[step];by_cases h0:c=0
  ·rw[h0,bne_self_eq_false,d6];refine⟨v,rfl,fun hv i hi hij=>?_⟩;by_cases e1:i=j
   ·subst e1;rw[<-hy];exact c2 h0
   ·exact i2 hv i hi (by omega)
  ·rw[Q7 (by simpa using h0)];exact⟨c,rfl,fun h=>absurd h h0⟩
theorem b1V(hN:I1<=N):∀(k:Nat) (e:GExpr),ZE k e->∀n,k<=n->∀x:Nat,x<=40->∃v,w8 N n e (x:Int)=some v/\(v=0->WE k x e)
 |0,_,h,_,_,_,_=>h.elim
 |k+1,e,h,0,hn,_,_=>by omega
 |k+1,e,h,n+1,hn,x,hx=>by
  obtain⟨al,a1,a2⟩:=c2G hN (x:=x) h;show ∃v,E8 N (w8 N n) e (x:Int)=some v/\_;unfold E8;rw[GExpr.eta,a1,a8];by_cases h0:al=0
  case neg=>
   rw[Q7 (by simpa using h0)];exact⟨al,rfl,fun h=>absurd h h0⟩
  have A:=a2 h0;rw[h0,bne_self_eq_false,d6];obtain⟨v,v1,v2⟩:=b7P hN (S:=w8 N n) (k:=k) (kd:=e.kind) (n:=e.number) (t:=e.text) (ks:=e.keys) (es:=e.kids) h.2.2.2.1 A.deep (fun c hc y hy=>b1V hN k c (h.2.2.2.2 c hc) n (by omega) y hy) e.kids.length N 0 (by omega) (by have:=h.2.2.2.1;unfold I1 at hN;omega);refine⟨v,v1,fun hv=>⟨A.deep,?_⟩⟩;have hk:=v2 hv;have hlo:=A.lo;have hhi:=A.hi;obtain⟨kd,t,num,ks,es⟩:=e;simp only[E4,Z3,R9,Y1,E9]at *;have hcase:kd=1\/kd=2\/kd=3\/kd=4\/kd=5\/kd=6\/kd=7\/kd=8:=by omega
  have aT:=A.text;have aN:=A.number;have aK:=A.keys;have aL:=A.leaf;have a2':=A.two;have aC:=A.choice;have aX:=A.all;have aY:=A.kall;have aM:=A.name;have a0:=A.n0;have a9:=A.n9;simp only[E4,Z3,R9,Y1,E9]at aT aN aK aL a2' aC aX aY aM a0 a9;have two:es.length=2->∃a b,es=[a,b]:=fun h2=>by
   match es,h2 with
   |[a,b],_=>exact⟨a,b,rfl⟩
  rcases hcase with rfl|rfl|rfl|rfl|rfl|rfl|rfl|rfl
  ·rw[aN (by decide),aK (by decide),aL (.inl rfl)];exact .inl ⟨t,aX,rfl⟩
  ·rw[aT (by decide) (by decide),aK (by decide),aL (.inr (.inl rfl))];obtain⟨m,rfl⟩:=Int.eq_ofNat_of_zero_le a0;exact .inr (.inl ⟨m,by omega,rfl⟩)
  ·rw[aN (by decide),aK (by decide),aL (.inr (.inr rfl))];exact .inr (.inr (.inl ⟨t,aM rfl,rfl⟩))
  ·rw[aT (by decide) (by decide),aN (by decide),aK (by decide)];refine .inr (.inr (.inr (.inl ⟨es,rfl,fun c hc=>?_⟩)));obtain⟨i,hi,rfl⟩:=List.getElem_of_mem hc;exact hk i hi (by omega)
  ·rw[aT (by decide) (by decide),aN (by decide),aK (by decide)];obtain⟨a,b,rfl⟩:=two (a2' (.inl rfl));exact .inr (.inr (.inr (.inr (.inl ⟨a,b,rfl,hk 0 (by simp) (by omega),hk 1 (by simp) (by omega)⟩))))
  ·rw[aT (by decide) (by decide),aN (by decide)];refine .inr (.inr (.inr (.inr (.inr (.inl ⟨ks,es,(aC rfl).1,(aC rfl).2,aY,rfl,fun c hc=>?_⟩)))));obtain⟨i,hi,rfl⟩:=List.getElem_of_mem hc;exact hk i hi (by omega)
  ·rw[aT (by decide) (by decide),aN (by decide),aK (by decide)];obtain⟨a,b,rfl⟩:=two (a2' (.inr (.inl rfl)));exact .inr (.inr (.inr (.inr (.inr (.inr (.inl ⟨a,b,rfl,hk 0 (by simp) (by omega),hk 1 (by simp) (by omega)⟩))))))
  ·rw[aT (by decide) (by decide),aN (by decide),aK (by decide)];obtain⟨a,b,rfl⟩:=two (a2' (.inr (.inr rfl)));exact .inr (.inr (.inr (.inr (.inr (.inr (.inr ⟨a,b,rfl,hk 0 (by simp) (by omega),hk 1 (by simp) (by omega)⟩))))))
end
noncomputable section
variable{N:Nat}
theorem ste(s:GStmt):GStmt.mk s.kind s.name s.text s.params s.args s.expr s.body s.els s.at_=s:=by cases s;rfl
theorem d8p{c:Option Bool}{b:Bool}{n:Int}{rest:Option Int}{Q:Prop}(hc:c=some b)(hn:n≠0)(hr:b=true->∃v,rest=some v/\(v=0->Q)):∃v,(j8 c fun j=>br (!j) (some n) rest)=some v/\(v=0->b=true/\Q):=by
 rw[hc,a8];cases b with
 |false=>rw[Bool.not_false,d7];exact⟨n,rfl,fun h=>absurd h hn⟩
 |true=>rw[Bool.not_true,d6];obtain⟨v,h1,h2⟩:=hr rfl;exact⟨v,h1,fun h=>⟨rfl,h2 h⟩⟩
def isZ(E:GExpr):Bool:=E.kind==0&&(E.text==([]:d9)&&(E.number==0&&(((E.keys.length:Int)==0)&&((E.kids.length:Int)==0))))
theorem c3i(E:GExpr):J5 N E=some (isZ E):=by
 unfold J5 isZ;generalize (E.kind==0)=b1;generalize (E.text==([]:d9))=b2;generalize (E.number==0)=b3;generalize ((E.keys.length:Int)==0)=b4;cases b1<;>cases b2<;>cases b3<;>cases b4<;>simp
theorem e0e{E:GExpr}(h:isZ E=true):E=zE:=by
 obtain⟨k,t,n,ks,es⟩:=E;unfold isZ at h;simp only[Bool.and_eq_true,beq_iff_eq,E4,Z3,R9,Y1,E9]at h;obtain⟨h1,h2,h3,h4,h5⟩:=h;have h4':ks=[]:=List.eq_nil_of_length_eq_zero (by omega);have h5':es=[]:=List.eq_nil_of_length_eq_zero (by omega);rw[h1,h2,h3,h4',h5']
abbrev T7:Type:=Bool×Bool×Bool×Bool×Bool×Bool×Bool
noncomputable def b1R(N:Nat)(x0:GStmt)(t19:Bool×Bool×Bool×Bool×Bool×Bool×Bool)(t21:List d9):Option Int:=j8 (br (t19.2.2.1) (j8 (l7 N x0.params ()) fun t37=>some t37) (some false)) fun j22=>br (j22) (some (5:Int)) (j8 (br (t19.2.2.2.1) (j8 (l7 N t21 ()) fun t44=>some t44) (some false)) fun j22_1=>br (j22_1) (some (5:Int)) (j8 (br (!t19.1) (some (!(x0.name==([]:d9)))) (some false)) fun j46=>br (j46) (some (3:Int)) (j8 (br (!t19.2.1) (some (!(x0.text==([]:d9)))) (some false)) fun j46_2=>br (j46_2) (some (3:Int)) (j8 (br (!t19.2.2.1) (some (decide ((x0.params.length:Int)>(0:Int)))) (some false)) fun j46_3=>br (j46_3) (some (3:Int)) (j8 (br (!t19.2.2.2.1) (some (decide ((t21.length:Int)>(0:Int)))) (some false)) fun j46_4=>br (j46_4) (some (3:Int)) (j8 (br (!t19.2.2.2.2.1) (j8 (J5 N (Ze x0.expr)) fun t86=>some (!t86)) (some false)) fun j46_5=>br (j46_5) (some (3:Int)) (j8 (br (!t19.2.2.2.2.2.1) (some (decide ((x0.body.length:Int)>(0:Int)))) (some false)) fun j46_6=>br (j46_6) (some (3:Int)) (j8 (br (!t19.2.2.2.2.2.2) (some (decide ((x0.els.length:Int)>(0:Int)))) (some false)) fun j46_7=>br (j46_7) (some (3:Int)) (j8 (y8 N x0.text) fun t110=>br (!t110) (some (3:Int)) (j8 (br (decide ((x0.params.length:Int)>(30:Int))) (some true) (some (decide ((t21.length:Int)>(30:Int))))) fun j112=>br (j112) (some (2:Int)) (j8 (j8 (a0h N x0.params) fun t125=>br (t125) (some true) (j8 (a0h N t21) fun t128=>some t128)) fun j122=>br (j122) (some (7:Int)) (some (0:Int)))))))))))))
def hsT(k:Int):T7:=if k=1 then(true,false,false,false,true,false,false)else if k=2 then(true,false,false,true,false,false,false)else if k=3 then(true,false,true,false,false,true,false)else if k=4 then(true,false,false,false,true,true,false)else if k=5 then(false,false,false,false,true,true,true)else(false,true,false,false,false,false,false)
theorem b8Z(s:GStmt):K7 N s=some (hsT s.kind):=by
 unfold K7 hsT;by_cases h1:s.kind=1
 ·simp[h1]
 by_cases h2:s.kind=2
 ·simp[h2]
 by_cases h3:s.kind=3
 ·simp[h3]
 by_cases h4:s.kind=4
 ·simp[h4]
 by_cases h5:s.kind=5
 ·simp[h5]
 rw[G9 (by simpa using h1),G9 (by simpa using h2),G9 (by simpa using h3),G9 (by simpa using h4),G9 (by simpa using h5),if_neg h1,if_neg h2,if_neg h3,if_neg h4,if_neg h5]
structure BOk(s:GStmt)(x:Nat):Prop where
 deep:x<30
 lo:1<=s.kind
 hi:s.kind<=6
 c0:(hsT s.kind).1=true->w9 s.name=true
 c1:(if(hsT s.kind).2.2.1=true then s.params.any fun q=>!w9 q else false)=false
 c2:(if(hsT s.kind).2.2.2.1=true then(s.args.map (·.1)).any fun q=>!w9 q else false)=false
 c3:(if(!(hsT s.kind).1)=true then !(s.name==([]:d9))else false)=false
 c4:(if(!(hsT s.kind).2.1)=true then !(s.text==([]:d9))else false)=false
 c5:(if(!(hsT s.kind).2.2.1)=true then decide ((s.params.length:Int)>0)else false)=false
 c6:(if(!(hsT s.kind).2.2.2.1)=true then decide (((s.args.map (·.1)).length:Int)>0)else false)=false
 c7:(if(!(hsT s.kind).2.2.2.2.1)=true then !(isZ s.expr)else false)=false
 c8:(if(!(hsT s.kind).2.2.2.2.2.1)=true then decide ((s.body.length:Int)>0)else false)=false
 c9:(if(!(hsT s.kind).2.2.2.2.2.2)=true then decide ((s.els.length:Int)>0)else false)=false
 c10:s.text.all O5=true
theorem c1g(hN:I1<=N){k x:Nat}{s:GStmt}(h:ZS (k+1) s):∃v,H9 N s (x:Int)=some v/\(v=0->BOk s x):=by
 obtain⟨z1,z2,z3,z4,z5,z6,_⟩:=h;have T:=a0I hN s.text (a6C z2);have I:=M9 hN s.name (a6C z1);have A1:=b3R hN s.params (a6C z3) (fun q hq=>a6C (z4 q hq));have A2:=b3R hN (s.args.map (·.1)) (by rw[List.length_map];unfold maxLen;omega) (fun q hq=>by obtain⟨a,ha,rfl⟩:=List.mem_map.1 hq;exact a6C (z6 a ha).1);have nm:=c9u hN s z5;have hh:=b8Z (N:=N) s;have ez:=GStmt.eta2 s;generalize hns:s.args.map (·.1)=ns at *;generalize hht:hsT s.kind=t19 at *;have CB:∃v,b1R N s t19 ns=some v/\(v=0->(if t19.2.2.1=true then s.params.any fun q=>!w9 q else false)=false/\(if t19.2.2.2.1=true then ns.any fun q=>!w9 q else false)=false/\(if(!t19.1)=true then !(s.name==([]:d9))else false)=false/\
   (if(!t19.2.1)=true then !(s.text==([]:d9))else false)=false/\(if(!t19.2.2.1)=true then decide ((s.params.length:Int)>0)else false)=false/\(if(!t19.2.2.2.1)=true then decide ((ns.length:Int)>0)else false)=false/\
   (if(!t19.2.2.2.2.1)=true then !(isZ s.expr)else false)=false/\(if(!t19.2.2.2.2.2.1)=true then decide ((s.body.length:Int)>0)else false)=false/\(if(!t19.2.2.2.2.2.2)=true then decide ((s.els.length:Int)>0)else false)=false/\s.text.all O5=true/\
   (if decide ((s.params.length:Int)>30)=true then true else decide ((ns.length:Int)>30))=false/\(if(!decide s.params.Nodup)=true then true else !decide ns.Nodup)=false/\True):=by
  have tw:decide ((s.params.length:Int)>30)=false/\decide ((ns.length:Int)>30)=false->(j8 (a0h N s.params) fun t125=>br (t125) (some true) (j8 (a0h N ns) fun t128=>some t128))=some (if(!decide s.params.Nodup)=true then true else !decide ns.Nodup):=fun h=>by
   have g1:=of_decide_eq_false h.1;have g2:=of_decide_eq_false h.2;rw[a2z s.params (by omega),a8,a2z ns (by omega),a8,X3]
  have d30:(if decide ((s.params.length:Int)>30)=true then true else decide ((ns.length:Int)>30))=false->decide ((s.params.length:Int)>30)=false/\decide ((ns.length:Int)>30)=false:=fun h=>by
   cases h1:decide ((s.params.length:Int)>30)with
   |true=>rw[h1,if_pos rfl]at h;cases h
   |false=>rw[h1,if_neg (by decide)]at h;exact⟨rfl,h⟩
  unfold b1R;refine a1o (by rw[A1,a8,X3]) (by decide) fun _=>a1o (by rw[A2,a8,X3]) (by decide) fun _=>a1o (X3 _ _ _) (by decide) fun _=>a1o (X3 _ _ _) (by decide) fun _=>a1o (X3 _ _ _) (by decide) fun _=>a1o (X3 _ _ _) (by decide) fun _=>
   a1o (by rw[GExpr.eta,c3i,a8,X3]) (by decide) fun _=>a1o (X3 _ _ _) (by decide) fun _=>a1o (X3 _ _ _) (by decide) fun _=>d8p T (by decide) fun _=>a1o (X3 _ _ _) (by decide) fun h30=>a1o (tw (d30 h30)) (by decide) fun _=>⟨0,rfl,fun _=>trivial⟩
 obtain⟨cv,cv1,cv2⟩:=CB;obtain⟨v,hv,hq⟩:∃v,H9 N s (x:Int)=some v/\(v=0->decide ((x:Int)>=30)=false/\(if decide (s.kind<1)=true then true else decide (s.kind>6))=false/\((t19.1=true->w9 s.name=true)/\cv=0)):=by
  unfold H9;refine c96 (by decide) fun _=>a1o (X3 _ _ _) (by decide) fun _=>?_
  simp only[ez,hh,nm,a8,C2];have hc1:B4 N s.name=some (!w9 s.name):=by unfold B4;rw[I,a8]
  have eC:∀w,b1R N s t19 ns=w->(br t19.1 (j8 (B4 N s.name) fun t29=>br t29 (some (5:Int)) (b1R N s t19 ns)) (b1R N s t19 ns))=br t19.1 (j8 (B4 N s.name) fun t29=>br t29 (some (5:Int)) w) w:=fun w e=>by rw[e]
  have e5:=eC _ cv1;unfold b1R at e5;rw[e5,p7,hc1,a8];cases t19.1 with
  |false=>rw[d6];exact⟨cv,rfl,fun h=>⟨fun h=>(by cases h),h⟩⟩
  |true=>
   rw[d7];cases hn:w9 s.name with
   |true=>rw[Bool.not_true,d6];exact⟨cv,rfl,fun h=>⟨fun _=>rfl,h⟩⟩
   |false=>rw[Bool.not_false,d7];exact⟨5,rfl,fun h=>absurd h (by decide)⟩
 refine⟨v,hv,fun h0=>?_⟩;obtain⟨b0,b1,b2,b3⟩:=hq h0;obtain⟨c1,c2,c3,c4,c5,c6,c7,c8,c9,c10,_⟩:=cv2 b3;have hlo:¬s.kind<1:=by intro h;simp[h]at b1
 have hhi:¬s.kind>6:=by intro h;simp[hlo,h]at b1
 subst hht;subst hns;exact⟨by simp at b0;omega,by omega,by omega,b2,c1,c2,c3,c4,c5,c6,c7,c8,c9,c10⟩
theorem b7s(hN:I1<=N){SB:List GStmt->Int->Option Int}{x:Nat}(hx:x<=39){ag:List Ag}(hl:ag.length<=1000000)(hz:∀q∈ag,ZE zz q.2){K:Option Int}{v2:Int}(hK:K=some v2):∀(u f j:Nat),j+u=ag.length->u<f->
  ∃v,f12 N SB (x:Int) ag (ag.length:Int) K f (j:Int)=some v/\(v=0->v2=0/\∀i (hi:i<ag.length),j<=i->WE zz (x+1) ag[i].2)
 |0,f,j,hj,hf=>by
  obtain⟨f,rfl⟩:∃q,f=q+1:=⟨f-1,by omega⟩;obtain rfl:j=ag.length:=by omega
  refine⟨v2,?_,fun h=>⟨h,fun i hi h=>by omega⟩⟩;show e7d _ _ _ _ _ _ _ _=_;unfold e7d;rw[Z9,d6,hK]
 |u+1,f,j,hj,hf=>by
  obtain⟨f,rfl⟩:∃q,f=q+1:=⟨f-1,by omega⟩;have h:j<ag.length:=by omega
  obtain⟨v,i1,i2⟩:=b7s hN (SB:=SB) hx hl hz hK u f (j+1) (by omega) (by omega);obtain⟨c,c1,c2⟩:=b1V hN zz _ (hz _ (List.getElem_mem h)) N (by unfold I1 at hN;unfold zz;omega) (x+1) (by omega);have step:f12 N SB (x:Int) ag (ag.length:Int) K (f+1) (j:Int)=br (c !=0) (some c) (some v):=by
   show e7d _ _ _ _ _ _ _ _=_;unfold e7d;rw[V8 h,d7,m6 _ h,a8];simp only[GExpr.eta,a7X (show x<=1000 by omega),c1,a8,a5l (n:=(j:Int)+1) (m:=j+1) (by omega) (by omega),i1]
  rw[step];by_cases h0:c=0
  ·rw[h0,bne_self_eq_false,d6];refine⟨v,rfl,fun hv=>⟨(i2 hv).1,fun i hi hij=>?_⟩⟩;by_cases e1:i=j
   ·subst e1;exact c2 h0
   ·exact(i2 hv).2 i hi (by omega)
  ·rw[show(c !=0)=true by simpa using h0,d7];exact⟨c,rfl,fun h=>absurd h h0⟩
theorem e0q{k x:Nat}{s:GStmt}(A:BOk s x)(hE:(hsT s.kind).2.2.2.2.1=true->WE zz (x+1) s.expr)(hG:∀q∈s.args,WE zz (x+1) q.2)(hB:∀c∈s.body,WS k (x+1) c)(hL:∀c∈s.els,WS k (x+1) c):WS (k+1) x s:=by
 obtain⟨deep,lo,hi,c0,c1,c2,c3,c4,c5,c6,c7,c8,c9,c10⟩:=A;obtain⟨kd,q,t,ps,ag,E,b,l,a⟩:=s;simp only[S0,a0p,a0q,O9,a0m,a0o,a0n,a1R]at *;have nil_of:∀{α:Type} {m:List α},decide ((m.length:Int)>0)=false->m=[]:=fun{α m} h=>by
  have h':¬(m.length:Int)>0:=of_decide_eq_false h;exact List.eq_nil_of_length_eq_zero (by omega)
 have agN:decide (((ag.map (·.1)).length:Int)>0)=false->ag=[]:=fun h=>nil_of (by rw[List.length_map]at h;exact h)
 have all_of:∀{m:List d9},(m.any fun q=>!w9 q)=false->∀c∈m,w9 c=true:=fun{m} h c hc=>by
  have:=List.any_eq_false.1 h c hc;simpa using this
 have zE_of:(!(isZ E))=false->E=zE:=fun h=>e0e (by simpa using h)
 have s_nil:∀{m:d9},(!(m==([]:d9)))=false->m=[]:=fun{m} h=>by simpa using h
 have hcase:kd=1\/kd=2\/kd=3\/kd=4\/kd=5\/kd=6:=by omega
 refine⟨deep,?_⟩;rcases hcase with rfl|rfl|rfl|rfl|rfl|rfl
 ·rw[s_nil c4,nil_of c5,agN c6,nil_of c8,nil_of c9];exact .inl ⟨q,E,a,zz,c0 rfl,hE rfl,rfl⟩
 ·rw[s_nil c4,nil_of c5,zE_of c7,nil_of c8,nil_of c9];refine .inr (.inl ⟨q,ag,a,zz,c0 rfl,fun c hc=>⟨?_,hG c hc⟩,rfl⟩);exact all_of c2 _ (List.mem_map_of_mem hc)
 ·rw[s_nil c4,agN c6,zE_of c7,nil_of c9];exact .inr (.inr (.inl ⟨q,ps,b,a,c0 rfl,all_of c1,hB,rfl⟩))
 ·rw[s_nil c4,nil_of c5,agN c6,nil_of c9];exact .inr (.inr (.inr (.inl ⟨q,E,b,a,zz,c0 rfl,hE rfl,hB,rfl⟩)))
 ·rw[s_nil c3,s_nil c4,nil_of c5,agN c6];exact .inr (.inr (.inr (.inr (.inl ⟨E,b,l,a,zz,hE rfl,hB,hL,rfl⟩))))
 ·rw[s_nil c3,nil_of c5,agN c6,zE_of c7,nil_of c8,nil_of c9];exact .inr (.inr (.inr (.inr (.inr ⟨t,a,c10,rfl⟩))))
abbrev CS:Type:=List GStmt->Int->Option Int
theorem b8a(hN:I1<=N){SB:CS}{k x:Nat}(hx:x<=39)(hB:∀l:List GStmt,l.length<=1000000->(∀c∈l,ZS k c)->∀y:Nat,y<=30->∃v,SB l (y:Int)=some v/\(v=0->∀c∈l,WS k y c)){Gs:List GStmt}(hl:Gs.length<=1000000)(hz:∀s∈Gs,ZS (k+1) s):∀(u f j:Nat),j+u=Gs.length->u<f->
  ∃v,f4n N SB (x:Int) Gs (Gs.length:Int) (some 0) f (j:Int)=some v/\(v=0->∀i (hi:i<Gs.length),j<=i->WS (k+1) x Gs[i])
 |0,f,j,hj,hf=>by
  obtain⟨f,rfl⟩:∃q,f=q+1:=⟨f-1,by omega⟩;obtain rfl:j=Gs.length:=by omega
  refine⟨0,?_,fun _ i hi h=>by omega⟩;show a47 _ _ _ _ _ _ _ _=_;unfold a47;rw[Z9,d6]
 |u+1,f,j,hj,hf=>by
  obtain⟨f,rfl⟩:∃q,f=q+1:=⟨f-1,by omega⟩;have h:j<Gs.length:=by omega
  obtain⟨v,i1,i2⟩:=b8a hN (SB:=SB) hx hB hl hz u f (j+1) (by omega) (by omega);have hs:=hz _ (List.getElem_mem h);obtain⟨al,a1,a2⟩:=c1g hN (x:=x) hs;have ez:=GStmt.eta2 Gs[j];generalize hg:Gs[j]=s at *;obtain⟨z1,z2,z3,z4,z5,z6,z7,z8,z9,z10,z11⟩:=hs;show ∃v,a47 _ _ _ _ _ _ _ _=some v/\_;unfold a47;rw[V8 h,d7,m6 _ h,a8];simp only[hg,ez,ste,a1,a8,b8Z,GExpr.eta,a5l (n:=(j:Int)+1) (m:=j+1) (by omega) (by omega),i1];by_cases h0:al=0
  case neg=>
   rw[show(al !=0)=true by simpa using h0,d7];exact⟨al,rfl,fun h=>absurd h h0⟩
  have A:=a2 h0;have hx30:=A.deep;rw[h0,bne_self_eq_false,d6];simp only[a7X (show x<=1000 by omega)];obtain⟨vb,vb1,vb2⟩:=hB s.body z8 z9 (x+1) (by omega);obtain⟨vl,vl1,vl2⟩:=hB s.els z10 z11 (x+1) (by omega);obtain⟨ve,ve1,ve2⟩:=b1V hN zz _ z7 N (by unfold I1 at hN;unfold zz;omega) (x+1) (by omega);simp only[vb1,vl1,ve1,a8];have hK:∃v2,(br (vb !=0) (some vb) (br (vl !=0) (some vl) (some v)))=some v2/\(v2=0->vb=0/\vl=0/\v=0):=by
   by_cases e1:vb=0
   ·rw[e1,bne_self_eq_false,d6];by_cases e2:vl=0
    ·rw[e2,bne_self_eq_false,d6];exact⟨v,rfl,fun h=>⟨rfl,rfl,h⟩⟩
    ·rw[show(vl !=0)=true by simpa using e2,d7];exact⟨vl,rfl,fun h=>absurd h e2⟩
   ·rw[show(vb !=0)=true by simpa using e1,d7];exact⟨vb,rfl,fun h=>absurd h e1⟩
  obtain⟨v2,k1,k2⟩:=hK;obtain⟨va,va1,va2⟩:=b7s hN (SB:=SB) (x:=x) hx z5 (fun q hq=>(z6 q hq).2) k1 s.args.length N 0 (by omega) (by unfold I1 at hN;omega);have va1:f12 N SB (x:Int) s.args (s.args.length:Int) _ N 0=some va:=va1;simp only[va1];have fin:((hsT s.kind).2.2.2.2.1=true->ve=0)->va=0->∀i (hi:i<Gs.length),j<=i->WS (k+1) x Gs[i]:=fun hve hva i hi hij=>by
   obtain⟨g1,g2⟩:=va2 hva;obtain⟨g3,g4,g5⟩:=k2 g1;by_cases e1:i=j
   ·subst e1;rw[hg];exact e0q A (fun h=>ve2 (hve h)) (fun q hq=>by obtain⟨m,hm,rfl⟩:=List.getElem_of_mem hq;exact g2 m hm (Nat.zero_le _)) (vb2 g3) (vl2 g4)
   ·exact i2 g5 i hi (by omega)
  cases hE:(hsT s.kind).2.2.2.2.1 with
  |false=>rw[d6];exact⟨va,rfl,fin (fun h=>by rw[hE]at h;cases h)⟩
  |true=>
   rw[d7];by_cases e1:ve=0
   ·rw[e1];rw[bne_self_eq_false,d6];exact⟨va,rfl,fin (fun _=>e1)⟩
   ·rw[show(ve !=0)=true by simpa using e1,d7];exact⟨ve,rfl,fun h=>absurd h e1⟩
theorem b8b(hN:I1<=N):∀(k n:Nat),k<n->∀l:List GStmt,l.length<=1000000->(∀c∈l,ZS k c)->∀y:Nat,y<=30->∃v,x8 N n l (y:Int)=some v/\(v=0->∀c∈l,WS k y c)
 |_,0,h,_,_,_,_,_=>absurd h (by omega)
 |0,n+1,_,l,hl,hz,y,hy=>by
  have:l=[]:=by
   cases l with
   |nil=>rfl
   |cons c l=>exact(hz c (by simp)).elim
  subst this;refine⟨0,?_,fun _ c hc=>by simp at hc⟩;show L5 N _ _ _=_;unfold L5;obtain⟨f,hf,_⟩:=a4k hN;have:f4n N (x8 N n) (y:Int) [] ((([]:List GStmt).length:Nat):Int) (some 0) (f+1) 0=some 0:=by
   show a47 _ _ _ _ _ _ _ _=_;unfold a47;rw[show decide ((0:Int)<((([]:List GStmt).length:Nat):Int))=false by simp,d6]
  rw[<-hf]at this;exact this
 |k+1,n+1,h,l,hl,hz,y,hy=>by
  obtain⟨v,v1,v2⟩:=b8a hN (SB:=x8 N n) (k:=k) (x:=y) (by omega) (fun l hl hz y hy=>b8b hN k n (by omega) l hl hz y hy) hl hz l.length N 0 (by omega) (by unfold I1 at hN;omega);refine⟨v,v1,fun h0 c hc=>?_⟩;obtain⟨i,hi,rfl⟩:=List.getElem_of_mem hc;exact v2 h0 i hi (Nat.zero_le _)
theorem b4A(hN:I1<=N):∀(k:Nat) (e:GExpr),ZE k e->∀n,k<=n->∃v,U7 N n e=some v
 |0,_,h,_,_=>h.elim
 |k+1,e,h,0,hn=>by omega
 |k+1,e,h,n+1,hn=>by
  obtain⟨_,_,_,hl,hc⟩:=h;have go:∀(u f j:Nat) (s:Int),j+u=e.kids.length->u<f->∃v,f63 N (U7 N n) e.kids (e.kids.length:Int) (fun o=>some o) f s (j:Int)=some v:=by
   intro u;induction u with
   |zero=>
    intro f j s hj hf;obtain⟨f,rfl⟩:∃q,f=q+1:=⟨f-1,by omega⟩;obtain rfl:j=e.kids.length:=by omega
    refine⟨s,?_⟩;show f2a _ _ _ _ _ _ _ _=_;unfold f2a;rw[Z9,d6]
   |succ u ih=>
    intro f j s hj hf;obtain⟨f,rfl⟩:∃q,f=q+1:=⟨f-1,by omega⟩;have h:j<e.kids.length:=by omega
    obtain⟨m,hm⟩:=b4A hN k _ (hc _ (List.getElem_mem h)) n (by omega);obtain⟨v,hv⟩:=ih f (j+1) (IntKind.i64.wrap (s+m)) (by omega) (by omega);refine⟨v,?_⟩;show f2a _ _ _ _ _ _ _ _=_;unfold f2a;rw[V8 h,d7,m6 _ h,a8,GExpr.eta,hm,a8,a5l (n:=(j:Int)+1) (m:=j+1) (by omega) (by omega),hv]
  exact go e.kids.length N 0 1 (by omega) (by unfold I1 at hN;omega)
theorem b7B(hN:I1<=N){SB:List GStmt->Option Int}{ag:List Ag}(hl:ag.length<=1000000)(hz:∀q∈ag,ZE zz q.2){K:Int->Option Int}(hK:∀o,∃v,K o=some v):∀(u f j:Nat) (s:Int),j+u=ag.length->u<f->∃v,f2M N SB ag (ag.length:Int) K f s (j:Int)=some v
 |0,f,j,s,hj,hf=>by
  obtain⟨f,rfl⟩:∃q,f=q+1:=⟨f-1,by omega⟩;obtain rfl:j=ag.length:=by omega
  obtain⟨v,hv⟩:=hK s;refine⟨v,?_⟩;show e8z _ _ _ _ _ _ _ _=_;unfold e8z;rw[Z9,d6,hv]
 |u+1,f,j,s,hj,hf=>by
  obtain⟨f,rfl⟩:∃q,f=q+1:=⟨f-1,by omega⟩;have h:j<ag.length:=by omega
  obtain⟨m,hm⟩:=b4A hN zz _ (hz _ (List.getElem_mem h)) N (by unfold I1 at hN;unfold zz;omega);obtain⟨v,hv⟩:=b7B hN (SB:=SB) hl hz hK u f (j+1) (IntKind.i64.wrap (s+m)) (by omega) (by omega);refine⟨v,?_⟩;show e8z _ _ _ _ _ _ _ _=_;unfold e8z;rw[V8 h,d7,m6 _ h,a8,GExpr.eta,hm,a8,a5l (n:=(j:Int)+1) (m:=j+1) (by omega) (by omega),hv]
theorem b7F(hN:I1<=N):∀(k n:Nat),k<n->∀l:List GStmt,l.length<=1000000->(∀c∈l,ZS k c)->∃v,C9 N n l=some v
 |_,0,h,_,_,_=>absurd h (by omega)
 |0,n+1,_,l,hl,hz=>by
  have:l=[]:=by
   cases l with
   |nil=>rfl
   |cons c l=>exact(hz c (by simp)).elim
  subst this;refine⟨0,?_⟩;show a05 N _ _=_;unfold a05;obtain⟨f,hf,_⟩:=a4k hN;have:c6W N (C9 N n) [] ((([]:List GStmt).length:Nat):Int) (fun o=>some o) (f+1) 0 0=some 0:=by
   show b6N _ _ _ _ _ _ _ _=_;unfold b6N;rw[show decide ((0:Int)<((([]:List GStmt).length:Nat):Int))=false by simp,d6]
  rw[<-hf]at this;exact this
 |k+1,n+1,h,l,hl,hz=>by
  have ih:=fun l hl hz=>b7F hN k n (by omega) l hl hz
  have go:∀(u f j:Nat) (s:Int),j+u=l.length->u<f->∃v,c6W N (C9 N n) l (l.length:Int) (fun o=>some o) f s (j:Int)=some v:=by
   intro u;induction u with
   |zero=>
    intro f j s hj hf;obtain⟨f,rfl⟩:∃q,f=q+1:=⟨f-1,by omega⟩;obtain rfl:j=l.length:=by omega
    refine⟨s,?_⟩;show b6N _ _ _ _ _ _ _ _=_;unfold b6N;rw[Z9,d6]
   |succ u ihu=>
    intro f j s hj hf;obtain⟨f,rfl⟩:∃q,f=q+1:=⟨f-1,by omega⟩;have h:j<l.length:=by omega
    obtain⟨z1,z2,z3,z4,z5,z6,z7,z8,z9,z10,z11⟩:=hz _ (List.getElem_mem h);have ez:=GStmt.eta2 l[j];generalize hg:l[j]=s0 at *;obtain⟨vb,hvb⟩:=ih s0.body z8 z9;obtain⟨vl,hvl⟩:=ih s0.els z10 z11;obtain⟨ve,hve⟩:=b4A hN zz _ z7 N (by unfold I1 at hN;unfold zz;omega);have hK:∀o:Int,∃v,(j8 (C9 N n s0.body) fun t40=>j8 (C9 N n s0.els) fun t43=>c6W N (C9 N n) l (l.length:Int) (fun o=>some o) f (IntKind.i64.wrap (o+(IntKind.i64.wrap (t40+t43)))) (IntKind.i64.wrap ((j:Int)+1)))=some v:=fun o=>by
     rw[hvb,a8,hvl,a8,a5l (n:=(j:Int)+1) (m:=j+1) (by omega) (by omega)];exact ihu f (j+1) _ (by omega) (by omega)
    have hA:=fun s=>b7B hN (SB:=C9 N n) z5 (fun q hq=>(z6 q hq).2) hK s0.args.length N 0 s (by omega) (by unfold I1 at hN;omega)
    show ∃v,b6N _ _ _ _ _ _ _ _=some v;unfold b6N;rw[V8 h,d7,m6 _ h,a8];simp only[hg,ez,ste,b8Z,a8,GExpr.eta,hve];cases (hsT s0.kind).2.2.2.2.1 with
    |true=>rw[d7];exact hA _
    |false=>rw[d6];exact hA _
  exact go l.length N 0 0 (by omega) (by unfold I1 at hN;omega)
theorem c2W(hN:I1<=N)(l:List GStmt)(hl:l.length<=1000000)(hz:∀s∈l,ZS zz s):∃c,B3 N l=some c/\(c=0->∀s∈l,WS zz 0 s):=by
 have hb:zz<N:=by unfold I1 at hN;unfold zz;omega
 obtain⟨m,hm⟩:=b7F hN zz N hb l hl hz;obtain⟨v,v1,v2⟩:=b8b hN zz N hb l hl hz 0 (by omega);unfold B3;rw[hm,a8,show x8 N N l 0=some v from v1,a8];by_cases h:m>50000
 ·rw[decide_eq_true h,d7];exact⟨2,rfl,fun h=>absurd h (by decide)⟩
 ·rw[decide_eq_false h,d6];exact⟨v,rfl,v2⟩
end
end Go.Proofs.YtolpmfhiegpohaaGreatDoor
