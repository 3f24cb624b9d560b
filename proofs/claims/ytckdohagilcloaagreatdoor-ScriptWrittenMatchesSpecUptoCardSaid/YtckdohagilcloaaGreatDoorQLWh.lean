/- % -/
import Derived.Test.YtckdohagilcloaaGreatDoorQLWg
import Derived.Test.YtckdohagilcloaaGreatDoorQLWq
namespace Go.Proofs.YtckdohagilcloaaGreatDoor
set_option linter.unusedVariables false
set_option linter.unusedSimpArgs false
open Go Go.RowKit
variable{N:Nat}
abbrev awE(c:UInt8):GExpr:= .mk 1 [c] 0 [] []
abbrev awG:List Ag:=[([110,97,109,101],awE 97),([107,105,110,100],awE 107)]
abbrev awS(a:Int):GStmt:= .mk 2 [116,97,114,103,101,116] [] [] awG zE [] [] a
theorem d26(hN:z7<=N){c:UInt8}(ht:y0 c=true):n4 N (awE c) 1=some 0:=by
 have T:=Q9 hN [c] (by unfold maxLen;simp);have I:=G4 hN [c] (by unfold maxLen;simp);have A:=c4n hN [] (by unfold maxLen;simp) (by simp);have W:=a1S (N:=N) [] (by simp);unfold n4 o8;simp[F4,Q1,G3,O3,C6,N7,K7,T,I,A,W,ht]
theorem c6i{f:Nat}(hN:z7<=f+1){c:UInt8}(ht:y0 c=true):A7 (f+1) (f+1) (awE c) 1=some 0:=by
 have A:=d26 hN ht;show D7 (f+1) _ _ _=_;unfold D7;simp only[F4,Q1,G3,O3,C6,GExpr.eta,A,c8];simp[a8w,a5V]
theorem c8W(hN:z7<=N)(a:Int):C3 N (awS a) 0=some 0:=by
 have T:=Q9 hN [] (by unfold maxLen;simp);have I:=G4 hN [116,97,114,103,101,116] (by unfold maxLen;simp);have A1:=b2O hN [] (by unfold maxLen;simp) (by simp);have A2:=b2O hN [[110,97,109,101],[107,105,110,100]] (by unfold maxLen;simp) (by unfold maxLen;simp);have nm:=d3Y hN (awS a) (by simp[a4Z]);have hh:=b8T (N:=N) (awS a);have W1:=a1S (N:=N) [] (by simp);have W2:=a1S (N:=N) [[110,97,109,101],[107,105,110,100]] (by simp);have hc1:C8 N [116,97,114,103,101,116]=some false:=by unfold C8;rw[I,c8];rfl
 have n1:B7 [110,97,109,101]=true:=by decide
 have n2:B7 [107,105,110,100]=true:=by decide
 simp only[a4Z,List.map_cons,List.map_nil]at nm;have h2:hsT 2=(true,false,false,true,false,false,false):=rfl;simp only[a1D]at hh;rw[h2]at hh;unfold C3 E8;simp only[GStmt.eta2];simp[a1D,b8R,c6A,b0k,a4Z,c6z,b17,b8Q,N7,K7,hh,nm,T,A1,A2,W1,W2,hc1,n1,n2,c4J,isZ];simp[zE,GExpr.eta,F4,Q1,G3,O3,C6]
theorem e0w{f:Nat}(hN:z7<=f+4)(a:Int):s6 (f+4) (f+4) [awS a] 0=some 0:=by
 have A:=c8W hN a;have E1:=c6i hN (c:=97) (by decide);have E2:=c6i hN (c:=107) (by decide);have hh:=b8T (N:=f+4) (awS a);have h2:hsT 2=(true,false,false,true,false,false,false):=rfl;simp only[a1D]at hh;rw[h2]at hh;have B:∀y,s6 (f+4) (f+3) [] y=some 0:=fun y=>by
  show x7 _ _ _ _=_;unfold x7;show Y6 _ _ _ _ _ _ _ _=_;simp[Y6]
 show x7 (f+4) (s6 (f+4) (f+3)) _ _=_;unfold x7;show Y6 _ _ _ _ _ _ (b1T (f+4) _ _ _ _ _ (f+3)) _=_;unfold Y6;have w1:IntKind.i64.wrap (0+1)=1:=by decide
 have w2:IntKind.i64.wrap (1+1)=2:=by decide
 have last:b1T (f+4) (s6 (f+4) (f+3)) 0 [awS a] 1 (some 0) (f+3) 1=some 0:=by
  show Y6 _ _ _ _ _ _ _ _=_;simp[Y6]
 have args:∀K:Option Int,a6m (f+4) (s6 (f+4) (f+3)) 0 awG 2 K (f+4) 0=K:=fun K=>by
  show a2S _ _ _ _ _ _ (a6m (f+4) _ _ _ _ _ (f+3)) _=_;unfold a2S;have g0:n8 awG 0=some ([110,97,109,101],awE 97):=rfl;have g1:n8 awG 1=some ([107,105,110,100],awE 107):=rfl;simp only[g0,c8,GExpr.eta,w1,E1];show br true (br false _ (a2S _ _ _ _ _ _ (a6m (f+4) _ _ _ _ _ (f+2)) _)) _=_;unfold a2S;simp only[g1,c8,GExpr.eta,w1,E2];show br true (br false _ (br true (br false _ (a2S _ _ _ _ _ _ (a6m (f+4) _ _ _ _ _ (f+1)) _)) _)) _=_;unfold a2S;rw[w2];simp
 have g:n8 [awS a] 0=some (awS a):=rfl;simp only[g,c8,GStmt.eta2,A,hh,a4Z,b17,b8Q,List.length_cons,List.length_nil];show br true (br false _ (br false _ (a6m (f+4) (s6 (f+4) (f+3)) 0 awG 2 _ (f+4) 0))) _=_;simp only[args,B,c8,w1,d9,g9,bne_self_eq_false];exact last
theorem c6j{f:Nat}(c:UInt8):T4 (f+1) (f+1) (awE c)=some 1:=by
 show a2g (f+1) _ _=_;unfold a2g;show a4h (f+1) _ _ _ _ _ _ _=_;simp[a4h,C6]
theorem d28{f:Nat}(a:Int):A4 (f+4) (f+4) [awS a]=some 3:=by
 have hh:=b8T (N:=f+4) (awS a);have h2:hsT 2=(true,false,false,true,false,false,false):=rfl;simp only[a1D]at hh;rw[h2]at hh;have M1:=c6j (f:=f+3) 97;have M2:=c6j (f:=f+3) 107;have w1:IntKind.i64.wrap (0+1)=1:=by decide
 have w2:IntKind.i64.wrap (1+1)=2:=by decide
 have w3:IntKind.i64.wrap (2+1)=3:=by decide
 have w4:IntKind.i64.wrap (3+IntKind.i64.wrap (0+0))=3:=by decide
 have B:A4 (f+4) (f+3) []=some 0:=by
  show J6 (f+4) _ _=_;unfold J6;show Q3 (f+4) _ _ _ _ _ _ _=_;simp[Q3]
 have last:∀s,a3M (f+4) (A4 (f+4) (f+3)) [awS a] 1 (fun o=>some o) (f+3) s 1=some s:=fun s=>by
  show Q3 (f+4) _ _ _ _ _ _ _=_;simp[Q3]
 have args:∀K:Int->Option Int,a3N (f+4) (A4 (f+4) (f+3)) awG 2 K (f+4) 1 0=K 3:=fun K=>by
  show a0N (f+4) _ _ _ _ (a3N (f+4) _ _ _ _ (f+3)) _ _=_;unfold a0N;have g0:n8 awG 0=some ([110,97,109,101],awE 97):=rfl;have g1:n8 awG 1=some ([107,105,110,100],awE 107):=rfl;simp only[g0,c8,GExpr.eta,w1,w2,M1];show br true (a0N (f+4) _ _ _ _ (a3N (f+4) _ _ _ _ (f+2)) _ _) _=_;unfold a0N;simp only[g1,c8,GExpr.eta,w1,w2,w3,M2];show br true (br true (a0N (f+4) _ _ _ _ (a3N (f+4) _ _ _ _ (f+1)) _ _) _) _=_;unfold a0N;simp
 show J6 (f+4) (A4 (f+4) (f+3)) _=_;unfold J6;show Q3 (f+4) _ _ _ _ (a3M (f+4) (A4 (f+4) (f+3)) _ _ _ (f+3)) _ _=_;unfold Q3;have g:n8 [awS a] 0=some (awS a):=rfl;simp only[g,c8,GStmt.eta2,hh,a4Z,b17,b8Q,List.length_cons,List.length_nil];show br true (br false _ (a3N (f+4) (A4 (f+4) (f+3)) awG 2 _ (f+4) (IntKind.i64.wrap (0+1)) 0)) _=_;simp only[w1,args,B,c8,w4,d9,g9];exact last 3
theorem d27{f:Nat}(hN:z7<=f+4)(a:Int):t8 (f+4) [awS a]=some 0:=by
 unfold t8;rw[d28,c8,e0w hN];simp
abbrev awT:d3:=[116,97,114,103,101,116,40,110,97,109,101,32,61,32,34,97,34,44,32,107,105,110,100,32,61,32,34,107,34,41,59]
theorem e93:LK awT (a4q [awS 0]):=by
 have heq:PcB [32,61,32] [S5 61]:=by
  have h1:PcB ([61] ++ [32]) ([S5 61] ++ []):=PcA.app1 e3u a1p rfl;exact a1p.app h1
 have hw:∀c,y0 c=true->WE 1 1 (awE c):=fun c h=>⟨by omega,.inl ⟨[c],by simp[h],rfl⟩⟩
 have hj:=a5e (a74 prE) (d20 tkE) awG fun c hc=>by
  simp only[List.mem_cons,List.mem_nil_iff,or_false]at hc;rcases hc with rfl|rfl
  ·exact(PcA.app1 (a2c (by decide)) heq rfl).app' (a5d _ _ _ (hw 97 (by decide)))
  ·exact(PcA.app1 (a2c (by decide)) heq rfl).app' (a5d _ _ _ (hw 107 (by decide)))
 have h3:PcB [41,59] [S5 41,S5 59]:=(I7 (by decide:a2y 41=true)).app (I7 (by decide:a2y 59=true));have h:=PcA.app1 ((PcA.app1 (a2c (q:=[116,97,114,103,101,116]) (by decide)) (I7 (by decide:a2y 40=true)) rfl).app' hj) h3 rfl;have e:=h [] [] (.nil rfl);have p:∀c,c≠10->c≠34->c≠92->prE (awE c)=[34,c,34]:=fun c h1 h2 h3=>by
  rw[a8h];unfold rpQ rpE rpF;simp[h1,h2,h3]
 have et:([116,97,114,103,101,116]:d3) ++ [40]++Lib.join (awG.map (a74 prE)) [44,32] ++ [41,59] ++ []=awT:=by
  simp only[List.map_cons,List.map_nil,a8L,Lib.join_one];unfold a74;simp only[p 97 (by decide) (by decide) (by decide),p 107 (by decide) (by decide) (by decide)];rfl
 rw[et]at e;rw[b0D,b32,c6V,List.append_nil];rw[List.append_nil]at e;exact e
theorem b0p(c:UInt8):∀(x:d3) (b:UInt8),b∈x->b=c\/∃q∈K5 c x,b∈q
 |[],b,h=>by cases h
 |a :: x,b,h=>by
  unfold K5;by_cases ha:a=c
  ·rw[if_pos ha];rcases List.mem_cons.1 h with rfl|h
   ·exact .inl ha
   ·rcases b0p c x b h with h|⟨q,h1,h2⟩
    ·exact .inl h
    ·exact .inr ⟨q,List.mem_cons_of_mem _ h1,h2⟩
  ·rw[if_neg ha];have hne:=b0A c x;cases hs:K5 c x with
   |nil=>exact absurd hs hne
   |cons y ys=>
    rcases List.mem_cons.1 h with rfl|h
    ·exact .inr ⟨b :: y,by simp,by simp⟩
    ·rcases b0p c x b h with h|⟨q,h1,h2⟩
     ·exact .inl h
     ·rw[hs]at h1;rcases List.mem_cons.1 h1 with rfl|h1
      ·exact .inr ⟨a :: q,by simp,by simp[h2]⟩
      ·exact .inr ⟨q,List.mem_cons_of_mem _ h1,h2⟩
theorem b5O:∀n:Fin 256,a2U (UInt8.ofNat n.1)=true->y0 (UInt8.ofNat n.1)=true:=by decide +kernel
theorem c81(c:UInt8)(h:a2U c=true):y0 c=true:=by
 have e:UInt8.ofNat c.toNat=c:=UInt8.ofNat_toNat;have:=b5O ⟨c.toNat,c.toNat_lt⟩;rw[e]at this;exact this h
theorem c9s{x:d3}(h:a6e x=true):x.all y0=true:=by
 unfold a6e at h;simp only[Bool.and_eq_true,List.all_eq_true]at h;refine List.all_eq_true.2 fun b hb=>?_
 rcases b0p 47 x b hb with rfl|⟨q,h1,h2⟩
 ·decide
 ·have:=h.2.2 q h1;unfold a2V at this;simp only[Bool.and_eq_true,List.all_eq_true]at this;exact c81 b (this.1.1.1 b h2)
theorem e3r{t:y7}(h:S4 t=0)(hf:Fit a1Q t):GT t:=by
 have hp:=a5u h;have hv:=a4c h;have h0:=h;unfold S4 at h;obtain⟨h1,h⟩:=iz (by decide) h;obtain⟨h2,h⟩:=iz (by decide) h;have hpa:a6e t.1=true:=by simpa using h1
 have hna:B7 t.2.1=true:=by simpa using h2
 rw[if_neg (by omega)]at h;have hk:=(a7m (q:=fun _ _=>True) (body:=a54 t.2.2) (fun i x r hx=>by
  unfold a54 at hx;obtain⟨_,hx⟩:=iz (by decide) hx;by_cases hq:a0B x.2=0
  ·rw[if_neg (by simpa using hq)]at hx;exact⟨trivial,a7t hx⟩
  ·rw[if_pos (by simpa using hq)]at hx;exact absurd hx hq) t.2.2 _ 0 h).2
 have hkw:t.2.2.any a2t=false:=by
  cases hq:t.2.2.any a2t with
  |false=>rfl
  |true=>rw[hq]at hk;exact absurd hk (by decide)
 refine⟨⟨d34 hpa,c9s hpa,hna,hp.1,fun a ha=>⟨hp.2.1 a ha,f0I (hv a ha)⟩,hp.2.2,fun a ha=>?_⟩,h0,hf⟩;have:=List.any_eq_false.1 hkw a ha;unfold a2t at this;simp only[Bool.or_eq_true,not_or,beq_iff_eq]at this;exact this
theorem c9D(hN:z7<=N){p:O2}(hl:p.2.length<=500)(h:∀t∈p.2,S4 t=0):a0G N p p=some true:=by
 have hx:p.2.length<=maxLen:=by unfold maxLen;omega
 unfold a0G;simp only[beq_self_eq_true,Bool.not_true,g9,bne_self_eq_false];have:=a5c (S:=Unit) (R:=Bool) (f:=fun n i _=>b9M N p.2 (p.2.length:Int) p.2 (some true) n i) (T:=fun self i _=>a5D N p.2 (p.2.length:Int) p.2 (some true) (fun i=>self i ()) i) (fun _ _ _=>rfl) hx (fun _=>()) (r:=some true) (fun self i hi hs=>?_) (fun self=>?_) hN
 ·exact this
 ·have g:=f0k (h _ (List.getElem_mem hi));have ho:Z2 N p.2[i] p.2[i]=some []:=by rw[b50 hN _ _ g g,c1q g]
  show a5D _ _ _ _ _ _ _=_;unfold a5D;rw[L4 hi,d9,m7 _ hi];simp only[c8,beq_self_eq_true,Bool.not_true,g9,bne_self_eq_false,ho];rw[show decide ((([]:List d3).length:Int)>0)=false by decide,g9,Y5 hx hi];exact hs
 ·show a5D _ _ _ _ _ _ _=_;unfold a5D;rw[Q5,g9]
def d25:y7:=([97],[107],[])
theorem e92:GT d25:=e3r (by decide +kernel) ⟨(by decide:([97]:d3).length<=maxLen),(by decide:([107]:d3).length<=maxLen),⟨(Nat.zero_le _:([]:List a2I).length<=maxLen),fun x hx=>absurd hx List.not_mem_nil⟩⟩
theorem e94(hN:z7<=N):a5b N=some true:=by
 obtain⟨f,hf⟩:∃f,N=f+4:=⟨N-4,by unfold z7 at hN;omega⟩;have hc:t8 N [awS 0]=some 0:=by subst hf;exact d27 hN 0
 have key:=d3B hN (k:=2) (p:=(([],[d25]):O2)) (fun t ht=>by rw[List.mem_singleton.1 ht];exact .inl ⟨rfl,Nat.le_refl _⟩) rfl (by decide) (by decide) (fun t ht=>by rw[List.mem_singleton.1 ht];exact e92) (List.pairwise_singleton _ _) (S:=awT) e93 (by decide) hc;rcases key with h|⟨h,_⟩
 ·unfold a5b;rw[show a0r N (([]:d3),([116,97,114,103,101,116,40,110,97,109,101,32,61,32,34,97,34,44,32,107,105,110,100,32,61,32,34,107,34,41,59]:d3),([]:List (d3×d3)),([]:List (d3×Bool×List UInt8)))=_ from h,c8];simp only[beq_self_eq_true,d9];rw[show((([d25]:List y7).length:Int)==1)=true by decide,d9,show n8 [d25] 0=some d25 from rfl,c8];rfl
 ·exact absurd h (by decide)
theorem c1e(hN:z7<=N)(p:O2)(hp:Fit a1r p)(h1:p.1.length<=1048576)(h2:∀t∈p.2,t.1.length<=1048576)(hb:M4 rbC a1r p<=1048576):H1 N p=some true:=by
 have s1:=b1V hN p hp h1 h2;have s2:=b0b hN p hp h1 h2;have haw:=e94 hN;unfold H1;by_cases h0:W4 p=0
 case neg=>
  have w1:R8 N p=some ([],W4 p):=by
   unfold R8;rw[s1,c8,show(W4 p !=0)=true by simpa using h0,d9]
  have w2:X5 N p=some ([],W4 p):=by
   unfold X5;rw[s2,c8,show(W4 p !=0)=true by simpa using h0,d9]
  rw[w1,w2,c8,c8];simp only[bne_self_eq_false,g9,beq_self_eq_true,Bool.not_true,haw,c8];rw[show(W4 p !=0)=true by simpa using h0,d9]
 obtain⟨hl,ht,hasc⟩:=b3v h0;rw[h0]at s1 s2;have hg:∀t∈p.2,GT t:=fun t h=>e3r (ht t h) (hp.2.2 t h)
 obtain⟨c,hc,z,w1,w2,w3⟩:=b8I hN s1 s2 hl (fun t h=>(hg t h).rt) hb;rw[w1,w2,c8,c8];simp only[bne_self_eq_false,g9,beq_self_eq_true,Bool.not_true,haw,c8];by_cases hz:z.2=0
 case neg=>rw[show(z.2 !=0)=true by simpa using hz,d9]
 obtain⟨c0,z1,z2⟩:=w3 hz;rw[hz,bne_self_eq_false,g9,z1];have hpk:c1u p.1=true:=by
  unfold W4 at h0;obtain⟨h,_⟩:=iz (by decide) h0;simpa using h
 subst c0;have key:=d3B hN (k:=2000000) (p:=p) (fun t _=> .inr (Nat.le_refl _)) hpk h1 hl hg hasc (S:=a1h (H6 p) 0) (e0U (e1m fun t h=>(hg t h).rt)) z2 hc;rcases key with h|⟨_,y,h,hy⟩
 ·rw[h,c8];simp only[show((0:Int)==16)=false by decide,g9,beq_self_eq_true,d9,c9D hN hl ht,c8]
 ·rw[h,c8,hy,show((16:Int)==16)=true by decide,d9]
theorem a16(p:O2)(hp:Fit a1r p)(hb:M4 rbC a1r p<=1048576):∃N,H1 N p=some true:=by
 have e1:M4 rbC a1r p=(p.1.length+1)+M4 rbC (.sl a1Q) p.2:=rfl;have e2:∀t:y7,M4 rbC a1Q t=(t.1.length+1)+M4 rbC (.pr .str (.sl d22)) t.2:=fun _=>rfl
 refine⟨z7,c1e (Nat.le_refl _) p hp (by omega) (fun u hu=>?_) hb⟩;have:=c1m (t:=a1Q) hu;have:=e2 u;omega
end Go.Proofs.YtckdohagilcloaaGreatDoor
