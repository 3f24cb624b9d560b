/- % -/
import Derived.Test.YtolpmfhiegpohaaGreatDoorQLPrL
import Derived.Test.YtolpmfhiegpohaaGreatDoorQBmJ
import Derived.Test.YtolpmfhiegpohaaGreatDoorQBmDz
import Derived.Test.YtolpmfhiegpohaaGreatDoorProg
import Derived.Test.YtolpmfhiegpohaaGreatDoorQFor2
namespace Go.Proofs.YtolpmfhiegpohaaGreatDoor
set_option linter.unusedVariables false
set_option linter.unusedSimpArgs false
open Go Go.RowKit
variable{N:Nat}
abbrev awE(c:UInt8):GExpr:= .mk 1 [c] 0 [] []
abbrev awG:List Ag:=[([110,97,109,101],awE 97),([107,105,110,100],awE 107)]
abbrev awS(a:Int):GStmt:= .mk 2 [116,97,114,103,101,116] [] [] awG zE [] [] a
theorem c5C(hN:J0<=N){c:UInt8}(ht:V5 c=true):F4 N (awE c) 1=some 0:=by
 have T:=a3g hN [c] (by unfold maxLen;simp);have I:=L4 hN [c] (by unfold maxLen;simp);have A:=b05 hN [] (by unfold maxLen;simp) (by simp);have W:=a3n (N:=N) [] (by simp);unfold F4;simp[F5,a0l,W4,Z3,E5,v8,o3,T,I,A,W,ht]
theorem c1X{f:Nat}(hN:J0<=f+1){c:UInt8}(ht:V5 c=true):F1 (f+1) (f+1) (awE c) 1=some 0:=by
 have A:=c5C hN ht;show I3 (f+1) _ _ _=_;unfold I3;simp only[F5,a0l,W4,Z3,E5,GExpr.eta,A,d2];simp[b3p,a5u]
theorem c3Y(hN:J0<=N)(a:Int):E0 N (awS a) 0=some 0:=by
 have T:=a3g hN [] (by unfold maxLen;simp);have I:=L4 hN [116,97,114,103,101,116] (by unfold maxLen;simp);have A1:=a3u hN [] (by unfold maxLen;simp) (by simp);have A2:=a3u hN [[110,97,109,101],[107,105,110,100]] (by unfold maxLen;simp) (by unfold maxLen;simp);have nm:=b7M hN (awS a) (by simp[O7]);have hh:=a5G (N:=N) (awS a);have W1:=a3n (N:=N) [] (by simp);have W2:=a3n (N:=N) [[110,97,109,101],[107,105,110,100]] (by simp);have hc1:y7 N [116,97,114,103,101,116]=some false:=by unfold y7;rw[I,d2];rfl
 have n1:A5 [110,97,109,101]=true:=by decide
 have n2:A5 [107,105,110,100]=true:=by decide
 simp only[O7,List.map_cons,List.map_nil]at nm;have h2:hsT 2=(true,false,false,true,false,false,false):=rfl;simp only[S0]at hh;rw[h2]at hh;unfold E0;simp only[GStmt.eta2];simp[S0,U1,U3,K3,O7,X3,R9,X9,v8,o3,hh,nm,T,A1,A2,W1,W2,hc1,n1,n2,b1G,isZ];simp[zE,GExpr.eta,F5,a0l,W4,Z3,E5]
theorem d1G{f:Nat}(hN:J0<=f+4)(a:Int):l7 (f+4) (f+4) [awS a] 0=some 0:=by
 have A:=c3Y hN a;have E1:=c1X hN (c:=97) (by decide);have E2:=c1X hN (c:=107) (by decide);have hh:=a5G (N:=f+4) (awS a);have h2:hsT 2=(true,false,false,true,false,false,false):=rfl;simp only[S0]at hh;rw[h2]at hh;have B:∀y,l7 (f+4) (f+3) [] y=some 0:=fun y=>by
  show n7 _ _ _ _=_;unfold n7;show X0 _ _ _ _ _ _ _ _=_;simp[X0]
 show n7 (f+4) (l7 (f+4) (f+3)) _ _=_;unfold n7;show X0 _ _ _ _ _ _ (a6Q (f+4) _ _ _ _ _ (f+3)) _=_;unfold X0;have w1:IntKind.i64.wrap (0+1)=1:=by decide
 have w2:IntKind.i64.wrap (1+1)=2:=by decide
 have last:a6Q (f+4) (l7 (f+4) (f+3)) 0 [awS a] 1 (some 0) (f+3) 1=some 0:=by
  show X0 _ _ _ _ _ _ _ _=_;simp[X0]
 have args:∀K:Option Int,a3q (f+4) (l7 (f+4) (f+3)) 0 awG 2 K (f+4) 0=K:=fun K=>by
  show a1d _ _ _ _ _ _ (a3q (f+4) _ _ _ _ _ (f+3)) _=_;unfold a1d;have g0:m6 awG 0=some ([110,97,109,101],awE 97):=rfl;have g1:m6 awG 1=some ([107,105,110,100],awE 107):=rfl;simp only[g0,d2,GExpr.eta,w1,E1];show br true (br false _ (a1d _ _ _ _ _ _ (a3q (f+4) _ _ _ _ _ (f+2)) _)) _=_;unfold a1d;simp only[g1,d2,GExpr.eta,w1,E2];show br true (br false _ (br true (br false _ (a1d _ _ _ _ _ _ (a3q (f+4) _ _ _ _ _ (f+1)) _)) _)) _=_;unfold a1d;rw[w2];simp
 have g:m6 [awS a] 0=some (awS a):=rfl;simp only[g,d2,GStmt.eta2,A,hh,O7,R9,X9,List.length_cons,List.length_nil];show br true (br false _ (br false _ (a3q (f+4) (l7 (f+4) (f+3)) 0 awG 2 _ (f+4) 0))) _=_;simp only[args,B,d2,w1,d8,d9,bne_self_eq_false];exact last
theorem c1Y{f:Nat}(c:UInt8):S2 (f+1) (f+1) (awE c)=some 1:=by
 show a0e (f+1) _ _=_;unfold a0e;show a4a (f+1) _ _ _ _ _ _ _=_;simp[a4a,E5]
theorem c5E{f:Nat}(a:Int):t7 (f+4) (f+4) [awS a]=some 3:=by
 have hh:=a5G (N:=f+4) (awS a);have h2:hsT 2=(true,false,false,true,false,false,false):=rfl;simp only[S0]at hh;rw[h2]at hh;have M1:=c1Y (f:=f+3) 97;have M2:=c1Y (f:=f+3) 107;have w1:IntKind.i64.wrap (0+1)=1:=by decide
 have w2:IntKind.i64.wrap (1+1)=2:=by decide
 have w3:IntKind.i64.wrap (2+1)=3:=by decide
 have w4:IntKind.i64.wrap (3+IntKind.i64.wrap (0+0))=3:=by decide
 have B:t7 (f+4) (f+3) []=some 0:=by
  show E8 (f+4) _ _=_;unfold E8;show X1 (f+4) _ _ _ _ _ _ _=_;simp[X1]
 have last:∀s,a5x (f+4) (t7 (f+4) (f+3)) [awS a] 1 (fun o=>some o) (f+3) s 1=some s:=fun s=>by
  show X1 (f+4) _ _ _ _ _ _ _=_;simp[X1]
 have args:∀K:Int->Option Int,a5y (f+4) (t7 (f+4) (f+3)) awG 2 K (f+4) 1 0=K 3:=fun K=>by
  show a1e (f+4) _ _ _ _ (a5y (f+4) _ _ _ _ (f+3)) _ _=_;unfold a1e;have g0:m6 awG 0=some ([110,97,109,101],awE 97):=rfl;have g1:m6 awG 1=some ([107,105,110,100],awE 107):=rfl;simp only[g0,d2,GExpr.eta,w1,w2,M1];show br true (a1e (f+4) _ _ _ _ (a5y (f+4) _ _ _ _ (f+2)) _ _) _=_;unfold a1e;simp only[g1,d2,GExpr.eta,w1,w2,w3,M2];show br true (br true (a1e (f+4) _ _ _ _ (a5y (f+4) _ _ _ _ (f+1)) _ _) _) _=_;unfold a1e;simp
 show E8 (f+4) (t7 (f+4) (f+3)) _=_;unfold E8;show X1 (f+4) _ _ _ _ (a5x (f+4) (t7 (f+4) (f+3)) _ _ _ (f+3)) _ _=_;unfold X1;have g:m6 [awS a] 0=some (awS a):=rfl;simp only[g,d2,GStmt.eta2,hh,O7,R9,X9,List.length_cons,List.length_nil];show br true (br false _ (a5y (f+4) (t7 (f+4) (f+3)) awG 2 _ (f+4) (IntKind.i64.wrap (0+1)) 0)) _=_;simp only[w1,args,B,d2,w4,d8,d9];exact last 3
theorem c5D{f:Nat}(hN:J0<=f+4)(a:Int):m7 (f+4) [awS a]=some 0:=by
 unfold m7;rw[c5E,d2,d1G hN];simp
abbrev awT:d7:=[116,97,114,103,101,116,40,110,97,109,101,32,61,32,34,97,34,44,32,107,105,110,100,32,61,32,34,107,34,41,59]
theorem d69:LK awT (H2 [awS 0]):=by
 have heq:PcB [32,61,32] [B8 61]:=by
  have h1:PcB ([61] ++ [32]) ([B8 61] ++ []):=PcA.app1 d39 a0E rfl;exact a0E.app h1
 have hw:∀c,V5 c=true->WE 1 1 (awE c):=fun c h=>⟨by omega,.inl ⟨[c],by simp[h],rfl⟩⟩
 have hj:=a3I (a3v L0) (a1D s5) awG fun c hc=>by
  simp only[List.mem_cons,List.mem_nil_iff,or_false]at hc;rcases hc with rfl|rfl
  ·exact(PcA.app1 (a1j (by decide)) heq rfl).app' (a3H _ _ _ (hw 97 (by decide)))
  ·exact(PcA.app1 (a1j (by decide)) heq rfl).app' (a3H _ _ _ (hw 107 (by decide)))
 have h3:PcB [41,59] [B8 41,B8 59]:=(I7 (by decide:a1v 41=true)).app (I7 (by decide:a1v 59=true));have h:=PcA.app1 ((PcA.app1 (a1j (q:=[116,97,114,103,101,116]) (by decide)) (I7 (by decide:a1v 40=true)) rfl).app' hj) h3 rfl;have e:=h [] [] (.nil rfl);have p:∀c,c≠10->c≠34->c≠92->L0 (awE c)=[34,c,34]:=fun c h1 h2 h3=>by
  rw[b7Y];unfold rpQ rpE rpF;simp[h1,h2,h3]
 have et:([116,97,114,103,101,116]:d7) ++ [40]++Lib.join (awG.map (a3v L0)) [44,32] ++ [41,59] ++ []=awT:=by
  simp only[List.map_cons,List.map_nil,a19,Lib.join_one];unfold a3v;simp only[p 97 (by decide) (by decide) (by decide),p 107 (by decide) (by decide) (by decide)];rfl
 rw[et]at e;rw[T6,a5m,c2P,List.append_nil];rw[List.append_nil]at e;exact e
theorem c5F:D9 J0 awT=some ([awS 0],0,0):=by
 obtain⟨f,hf⟩:∃f,J0=f+4:=⟨J0-4,by unfold J0;omega⟩;have hc:=c5D (f:=f) (by omega) 0;rw[<-hf]at hc;have hw:∀c,V5 c=true->WE 1 1 (awE c):=fun c h=>⟨by omega,.inl ⟨[c],by simp[h],rfl⟩⟩
 obtain⟨m,h1,h2,h3,h4,h5,toks,t1,t2⟩:=b4u (N:=J0) (Nat.le_refl _) (k:=1) (l:=[awS 0]) (fun s hs=>by
  rw[List.mem_singleton.1 hs];refine⟨by omega,.inr (.inl ⟨_,_,0,1,by decide,fun c hc=>?_,rfl⟩)⟩;simp only[List.mem_cons,List.mem_nil_iff,or_false]at hc;rcases hc with rfl|rfl
  ·exact⟨by decide,hw 97 (by decide)⟩
  ·exact⟨by decide,hw 107 (by decide)⟩) d69 (by decide) hc
 have hl:m.length=1:=by
  have:=congrArg List.length h3;rw[a2F,a2F]at this;exact this
 match m,hl with
 |[s],_=>
  obtain⟨g,G',e1,e2⟩:=t2 _ _ rfl;obtain rfl:=(List.cons.inj e1).1;have at0:s.at_=0:=by
   cases t1 with
   |nil g1=>
    rw[show P1 false awT=awT from a2N (by decide)]at g1;cases g1
   |@cons _ v r t k n l g1 g2 g3 g4=>
    have hv:v=awT:=by rw[<-g1];exact a2N (by decide)
    rw[e2,hv];rfl
  rw[a3A,a3A,List.map_cons,List.map_nil,List.map_cons,List.map_nil]at h3;have h3:=(List.cons.inj h3).1;obtain⟨k,q,t,ps,ag,E,b,l,a⟩:=s;rw[O1,O1]at h3;have nl:∀b:List GStmt,erL b=erL []->b=[]:=fun b hb=>by
   have:=congrArg List.length hb;rw[a2F,a2F]at this;exact List.eq_nil_of_length_eq_zero this
  injection h3 with e1 e2 e3 e4 e5 e6 e7 e8 e9
  rw[e1,e2,e3,e4,e5,e6,nl b e7,nl l e8]at h4;rw[show a=0 from at0]at h4;exact h4
def awP:d7->Option (List GStmt×Int×Int):=fun s=>if s=awT then some ([awS 0],0,0)else none
theorem c3X:Sound Tryz.prog GW x9 12 (c3O fun x _=>awP x.1):=by
 have h:=b9d J0;refine⟨h.1,fun M w g vs x y z hG hB hfr hz=>h.2 M w g vs x y z hG hB hfr ?_⟩;have hz:awP x.1=some z:=hz;unfold awP at hz;split at hz
 ·rename_i he;have:D9 J0 x.1=some z:=by rw[he,c5F];exact hz
  exact this
 ·cases hz
end Go.Proofs.YtolpmfhiegpohaaGreatDoor
namespace Go.Proofs.YtolpmfhiegpohaaGreatDoor.Ax
open Go Go.RowKit
set_option maxRecDepth 100000
set_option maxHeartbeats 4000000
abbrev d4G(f:SV [.v .str,.v .str]->BV []->Option τ20):AF:={ps:=[.v .str,.v .str],bs:=[],rs:=[.v N3],cs:=[],R:=List d7,out:=fun z=>((z,()),()),f:=f}
theorem D0:TyOk Tryz.prog 3 τ2:=⟨_,by kernel_rfl,Tryz.underlying3,rfl⟩
theorem K7:TyOk Tryz.prog 4 .bool:=⟨_,by kernel_rfl,Tryz.underlying4,rfl⟩
theorem a2v:TyOk Tryz.prog 5 .u8:=⟨_,by kernel_rfl,Tryz.underlying5,rfl⟩
theorem q8:TyOk Tryz.prog 9 .str:=⟨_,by kernel_rfl,Tryz.underlying9,rfl⟩
theorem a2Y:TyOk Tryz.prog 23 τ2:=⟨_,by kernel_rfl,Tryz.underlying23,rfl⟩
theorem a4v:TyOk Tryz.prog 28 (.clo 0 .un):=⟨_,by kernel_rfl,Tryz.underlying28,rfl⟩
theorem G9:TyOk Tryz.prog 30 τ5:=⟨_,by kernel_rfl,Tryz.underlying30,rfl⟩
theorem a2P:TyOk Tryz.prog 45 (.sl τ11):=⟨_,by kernel_rfl,Tryz.underlying45,rfl⟩
theorem a2u:TyOk Tryz.prog 47 (.pr .str (.sl τ11)):=⟨_,by kernel_rfl,Tryz.underlying47,rfl⟩
theorem a2r:TyOk Tryz.prog 50 (.sl (.pr .str .str)):=⟨_,by kernel_rfl,Tryz.underlying50,rfl⟩
theorem a4n:TyOk Tryz.prog 51 (.sl (.pr .str (.pr .bool (.sl .u8)))):=⟨_,by kernel_rfl,Tryz.underlying51,rfl⟩
theorem a0a:TyOk Tryz.prog 53 τ15:=⟨_,by kernel_rfl,Tryz.underlying53,rfl⟩
theorem a4l:TyOk Tryz.prog 54 (.sl τ25):=⟨_,by kernel_rfl,Tryz.underlying54,rfl⟩
theorem R5:TyOk Tryz.prog 56 τ11:=⟨_,by kernel_rfl,Tryz.underlying56,rfl⟩
theorem M6:TyOk Tryz.prog 65 N3:=⟨_,by kernel_rfl,Tryz.underlying65,rfl⟩
theorem Y6:TyOk Tryz.prog 66 (.sl X7):=⟨_,by kernel_rfl,Tryz.underlying66,rfl⟩
theorem V6:TyOk Tryz.prog 67 (.sl τ3):=⟨_,by kernel_rfl,Tryz.underlying67,rfl⟩
theorem x5:TyOk Tryz.prog 69 τ3:=⟨_,by kernel_rfl,Tryz.underlying69,rfl⟩
theorem C4:TyOk Tryz.prog 71 τ17:=⟨_,by kernel_rfl,Tryz.underlying71,rfl⟩
theorem K1:TyOk Tryz.prog 75 X7:=⟨_,by kernel_rfl,Tryz.underlying75,rfl⟩
theorem a7V:TyOk Tryz.prog 84 (.sl .u8):=⟨_,by kernel_rfl,Tryz.underlying84,rfl⟩
theorem a5n:TyOk Tryz.prog 99 (.np (.pr τ15 (.pr τ2 (.pr τ2 (.pr τ2 (.pr (.mp τ7) (.mp τ11))))))):=⟨_,by kernel_rfl,Tryz.underlying99,rfl⟩
theorem S8:TyOk Tryz.prog 100 (.mp τ7):=⟨_,by kernel_rfl,Tryz.underlying100,rfl⟩
theorem Y8:TyOk Tryz.prog 101 (.mp τ11):=⟨_,by kernel_rfl,Tryz.underlying101,rfl⟩
theorem a1y:TyOk Tryz.prog 103 (.pr τ15 (.pr τ2 (.pr τ2 (.pr τ2 (.pr (.mp τ7) (.mp τ11)))))):=⟨_,by kernel_rfl,Tryz.underlying103,rfl⟩
theorem Y7:TyOk Tryz.prog 104 τ7:=⟨_,by kernel_rfl,Tryz.underlying104,rfl⟩
theorem a0y:TyOk Tryz.prog 107 (.np .un):=⟨_,by kernel_rfl,Tryz.underlying107,rfl⟩
theorem a1x:TyOk Tryz.prog 108 (.mp .bool):=⟨_,by kernel_rfl,Tryz.underlying108,rfl⟩
theorem a1z:TyOk Tryz.prog 110 (.pr (.np .un) (.pr (.mp .bool) (.pr .bool .bool))):=⟨_,by kernel_rfl,Tryz.underlying110,rfl⟩
theorem a0f:TyOk Tryz.prog 113 (.clo 0 .un):=⟨_,by kernel_rfl,Tryz.underlying113,rfl⟩
theorem Y9:TyOk Tryz.prog 131 (.pr .str .str):=⟨_,by kernel_rfl,Tryz.underlying131,rfl⟩
theorem c4N:TyOk Tryz.prog 138 (.int .u64):=⟨_,by kernel_rfl,Tryz.underlying138,rfl⟩
theorem a0J:TyOk Tryz.prog 166 (.pr .str (.pr .bool (.sl .u8))):=⟨_,by kernel_rfl,Tryz.underlying166,rfl⟩
theorem V7:TyOk Tryz.prog 168 (.mp τ22):=⟨_,by kernel_rfl,Tryz.underlying168,rfl⟩
theorem a1X:TyOk Tryz.prog 170 (.pr (.np .un) (.pr (.mp τ22) N3)):=⟨_,by kernel_rfl,Tryz.underlying170,rfl⟩
theorem a4m:TyOk Tryz.prog 171 (.sl τ25):=⟨_,by kernel_rfl,Tryz.underlying171,rfl⟩
theorem F2:TyOk Tryz.prog 173 (.rc .value):=⟨_,by kernel_rfl,Tryz.underlying173,rfl⟩
theorem a2t:TyOk Tryz.prog 177 (.np (.pr τ7 (.pr τ17 .bool))):=⟨_,by kernel_rfl,Tryz.underlying177,rfl⟩
theorem X5:TyOk Tryz.prog 179 τ22:=⟨_,by kernel_rfl,Tryz.underlying179,rfl⟩
theorem a1W:TyOk Tryz.prog 183 (.pr τ7 (.pr τ17 .bool)):=⟨_,by kernel_rfl,Tryz.underlying183,rfl⟩
theorem a3V:TyOk Tryz.prog 187 τ2:=⟨_,by kernel_rfl,Tryz.underlying187,rfl⟩
theorem b8y:TyOk Tryz.prog 195 (.int .u32):=⟨_,by kernel_rfl,Tryz.underlying195,rfl⟩
theorem b8z:TyOk Tryz.prog 197 (.int .u64):=⟨_,by kernel_rfl,Tryz.underlying197,rfl⟩
theorem a2z:TyOk Tryz.prog 231 (.mp (.rc .value)):=⟨_,by kernel_rfl,Tryz.underlying231,rfl⟩
theorem a9N:TyOk Tryz.prog 269 (.sl (.rc .value)):=⟨_,by kernel_rfl,Tryz.underlying269,rfl⟩
theorem a0I:TyOk Tryz.prog 276 τ25:=⟨_,by kernel_rfl,Tryz.underlying276,rfl⟩
theorem a0H:TyOk Tryz.prog 282 τ25:=⟨_,by kernel_rfl,Tryz.underlying282,rfl⟩
theorem a0Y:TyOk Tryz.prog 284 (.clo 0 .un):=⟨_,by kernel_rfl,Tryz.underlying284,rfl⟩
theorem a3o:TyOk Tryz.prog 332 (.clo 0 .un):=⟨_,by kernel_rfl,Tryz.underlying332,rfl⟩
def tyT:TypeId->Option Ty:=fun T=>
 match T with
 |3=>some τ2
 |4=>some .bool
 |5=>some .u8
 |9=>some .str
 |23=>some τ2
 |28=>some (.clo 0 .un)
 |30=>some τ5
 |45=>some (.sl τ11)
 |47=>some (.pr .str (.sl τ11))
 |50=>some (.sl (.pr .str .str))
 |51=>some (.sl (.pr .str (.pr .bool (.sl .u8))))
 |53=>some τ15
 |54=>some (.sl τ25)
 |56=>some τ11
 |65=>some N3
 |66=>some (.sl X7)
 |67=>some (.sl τ3)
 |69=>some τ3
 |71=>some τ17
 |75=>some X7
 |84=>some (.sl .u8)
 |99=>some (.np (.pr τ15 (.pr τ2 (.pr τ2 (.pr τ2 (.pr (.mp τ7) (.mp τ11)))))))
 |100=>some (.mp τ7)
 |101=>some (.mp τ11)
 |103=>some (.pr τ15 (.pr τ2 (.pr τ2 (.pr τ2 (.pr (.mp τ7) (.mp τ11))))))
 |104=>some τ7
 |107=>some (.np .un)
 |108=>some (.mp .bool)
 |110=>some (.pr (.np .un) (.pr (.mp .bool) (.pr .bool .bool)))
 |113=>some (.clo 0 .un)
 |131=>some (.pr .str .str)
 |138=>some (.int .u64)
 |166=>some (.pr .str (.pr .bool (.sl .u8)))
 |168=>some (.mp τ22)
 |170=>some (.pr (.np .un) (.pr (.mp τ22) N3))
 |171=>some (.sl τ25)
 |173=>some (.rc .value)
 |177=>some (.np (.pr τ7 (.pr τ17 .bool)))
 |179=>some τ22
 |183=>some (.pr τ7 (.pr τ17 .bool))
 |187=>some τ2
 |195=>some (.int .u32)
 |197=>some (.int .u64)
 |231=>some (.mp (.rc .value))
 |269=>some (.sl (.rc .value))
 |276=>some τ25
 |282=>some τ25
 |284=>some (.clo 0 .un)
 |332=>some (.clo 0 .un)
 |_=>none
theorem b6N:∀T t,tyT T=some t->TyOk Tryz.prog T t:=by
 intro T t h;unfold tyT at h;split at h
 ·cases h;exact D0
 ·cases h;exact K7
 ·cases h;exact a2v
 ·cases h;exact q8
 ·cases h;exact a2Y
 ·cases h;exact a4v
 ·cases h;exact G9
 ·cases h;exact a2P
 ·cases h;exact a2u
 ·cases h;exact a2r
 ·cases h;exact a4n
 ·cases h;exact a0a
 ·cases h;exact a4l
 ·cases h;exact R5
 ·cases h;exact M6
 ·cases h;exact Y6
 ·cases h;exact V6
 ·cases h;exact x5
 ·cases h;exact C4
 ·cases h;exact K1
 ·cases h;exact a7V
 ·cases h;exact a5n
 ·cases h;exact S8
 ·cases h;exact Y8
 ·cases h;exact a1y
 ·cases h;exact Y7
 ·cases h;exact a0y
 ·cases h;exact a1x
 ·cases h;exact a1z
 ·cases h;exact a0f
 ·cases h;exact Y9
 ·cases h;exact c4N
 ·cases h;exact a0J
 ·cases h;exact V7
 ·cases h;exact a1X
 ·cases h;exact a4m
 ·cases h;exact F2
 ·cases h;exact a2t
 ·cases h;exact X5
 ·cases h;exact a1W
 ·cases h;exact a3V
 ·cases h;exact b8y
 ·cases h;exact b8z
 ·cases h;exact a2z
 ·cases h;exact a9N
 ·cases h;exact a0I
 ·cases h;exact a0H
 ·cases h;exact a0Y
 ·cases h;exact a3o
 ·cases h
def elT:TypeId->Option (TypeId×Ty):=fun T=>
 match T with
 |30=>some (71,τ17)
 |45=>some (56,τ11)
 |50=>some (131,(.pr .str .str))
 |51=>some (166,(.pr .str (.pr .bool (.sl .u8))))
 |54=>some (282,τ25)
 |65=>some (9,.str)
 |66=>some (75,X7)
 |67=>some (69,τ3)
 |84=>some (5,.u8)
 |171=>some (276,τ25)
 |269=>some (173,(.rc .value))
 |_=>none
theorem b5Z:∀T e t,elT T=some (e,t)->ElOk Tryz.prog T e t:=by
 intro T e t h;unfold elT at h;split at h
 ·cases h;exact⟨C4,224,ElemT.mk_ Tryz.underlying30 (z:=mkV τ17 (H7 τ17)) (by kernel_rfl) rfl (by decide) (by decide),by decide⟩
 ·cases h;exact⟨R5,56,ElemT.mk_ Tryz.underlying45 (z:=mkV τ11 (H7 τ11)) (by kernel_rfl) rfl (by decide) (by decide),by decide⟩
 ·cases h;exact⟨Y9,32,ElemT.mk_ Tryz.underlying50 (z:=mkV (.pr .str .str) (H7 (.pr .str .str))) (by kernel_rfl) rfl (by decide) (by decide),by decide⟩
 ·cases h;exact⟨a0J,48,ElemT.mk_ Tryz.underlying51 (z:=mkV (.pr .str (.pr .bool (.sl .u8))) (H7 (.pr .str (.pr .bool (.sl .u8))))) (by kernel_rfl) rfl (by decide) (by decide),by decide⟩
 ·cases h;exact⟨a0H,96,ElemT.mk_ Tryz.underlying54 (z:=mkV τ25 (H7 τ25)) (by kernel_rfl) rfl (by decide) (by decide),by decide⟩
 ·cases h;exact⟨q8,16,ElemT.mk_ Tryz.underlying65 (z:=mkV .str (H7 .str)) (by kernel_rfl) rfl (by decide) (by decide),by decide⟩
 ·cases h;exact⟨K1,96,ElemT.mk_ Tryz.underlying66 (z:=mkV X7 (H7 X7)) (by kernel_rfl) rfl (by decide) (by decide),by decide⟩
 ·cases h;exact⟨x5,80,ElemT.mk_ Tryz.underlying67 (z:=mkV τ3 (H7 τ3)) (by kernel_rfl) rfl (by decide) (by decide),by decide⟩
 ·cases h;exact⟨a2v,1,ElemT.mk_ Tryz.underlying84 (z:=mkV .u8 (H7 .u8)) (by kernel_rfl) rfl (by decide) (by decide),by decide⟩
 ·cases h;exact⟨a0I,96,ElemT.mk_ Tryz.underlying171 (z:=mkV τ25 (H7 τ25)) (by kernel_rfl) rfl (by decide) (by decide),by decide⟩
 ·cases h;exact⟨F2,80,ElemT.mk_ Tryz.underlying269 (z:=mkV (.rc .value) (H7 (.rc .value))) (by kernel_rfl) rfl (by decide) (by decide),by decide⟩
 ·cases h
def b9Y:TypeId->Nat->Option (Nat×Ty):=fun T f=>
 match T,f with
 |47,0=>some (0,.str)
 |47,1=>some (1,(.sl τ11))
 |53,0=>some (0,.str)
 |53,1=>some (1,.str)
 |53,2=>some (2,(.sl (.pr .str .str)))
 |53,3=>some (3,(.sl (.pr .str (.pr .bool (.sl .u8)))))
 |56,0=>some (0,.str)
 |56,1=>some (1,.str)
 |56,2=>some (2,(.sl τ25))
 |69,0=>some (0,τ2)
 |69,1=>some (1,.str)
 |69,2=>some (2,τ2)
 |69,3=>some (3,N3)
 |69,4=>some (4,(.sl τ3))
 |71,0=>some (0,τ2)
 |71,1=>some (1,.str)
 |71,2=>some (2,.str)
 |71,3=>some (3,N3)
 |71,4=>some (4,(.sl X7))
 |71,5=>some (5,τ3)
 |71,6=>some (10,τ5)
 |71,7=>some (11,τ5)
 |71,8=>some (12,τ2)
 |75,0=>some (0,.str)
 |75,1=>some (1,τ3)
 |103,0=>some (0,τ15)
 |103,1=>some (4,τ2)
 |103,2=>some (5,τ2)
 |103,3=>some (6,τ2)
 |103,4=>some (7,(.mp τ7))
 |103,5=>some (8,(.mp τ11))
 |110,0=>some (0,(.np .un))
 |110,1=>some (1,(.mp .bool))
 |110,2=>some (2,.bool)
 |110,3=>some (3,.bool)
 |131,0=>some (0,.str)
 |131,1=>some (1,.str)
 |166,0=>some (0,.str)
 |166,1=>some (1,.bool)
 |166,2=>some (2,(.sl .u8))
 |170,0=>some (0,(.np .un))
 |170,1=>some (1,(.mp τ22))
 |170,2=>some (2,N3)
 |173,0=>some (0,τ2)
 |173,1=>some (1,.str)
 |173,2=>some (2,τ2)
 |173,3=>some (3,N3)
 |173,4=>some (4,(.sl τ25))
 |179,0=>some (0,(.rc .value))
 |179,1=>some (5,(.np (.pr τ7 (.pr τ17 .bool))))
 |183,0=>some (0,τ7)
 |183,1=>some (1,τ17)
 |183,2=>some (14,.bool)
 |276,0=>some (0,.str)
 |276,1=>some (1,(.rc .value))
 |282,0=>some (0,.str)
 |282,1=>some (1,(.rc .value))
 |_,_=>none
theorem b0A:∀T f off t,b9Y T f=some (off,t)->b6Y Tryz.prog T f off t:=by
 intro T f off t h;unfold b9Y at h;split at h
 ·cases h;exact⟨_,_,Tryz.underlying47,rfl,rfl,q8,by decide⟩
 ·cases h;exact⟨_,_,Tryz.underlying47,rfl,rfl,a2P,by decide⟩
 ·cases h;exact⟨_,_,Tryz.underlying53,rfl,rfl,q8,by decide⟩
 ·cases h;exact⟨_,_,Tryz.underlying53,rfl,rfl,q8,by decide⟩
 ·cases h;exact⟨_,_,Tryz.underlying53,rfl,rfl,a2r,by decide⟩
 ·cases h;exact⟨_,_,Tryz.underlying53,rfl,rfl,a4n,by decide⟩
 ·cases h;exact⟨_,_,Tryz.underlying56,rfl,rfl,q8,by decide⟩
 ·cases h;exact⟨_,_,Tryz.underlying56,rfl,rfl,q8,by decide⟩
 ·cases h;exact⟨_,_,Tryz.underlying56,rfl,rfl,a4l,by decide⟩
 ·cases h;exact⟨_,_,Tryz.underlying69,rfl,rfl,D0,by decide⟩
 ·cases h;exact⟨_,_,Tryz.underlying69,rfl,rfl,q8,by decide⟩
 ·cases h;exact⟨_,_,Tryz.underlying69,rfl,rfl,D0,by decide⟩
 ·cases h;exact⟨_,_,Tryz.underlying69,rfl,rfl,M6,by decide⟩
 ·cases h;exact⟨_,_,Tryz.underlying69,rfl,rfl,V6,by decide⟩
 ·cases h;exact⟨_,_,Tryz.underlying71,rfl,rfl,D0,by decide⟩
 ·cases h;exact⟨_,_,Tryz.underlying71,rfl,rfl,q8,by decide⟩
 ·cases h;exact⟨_,_,Tryz.underlying71,rfl,rfl,q8,by decide⟩
 ·cases h;exact⟨_,_,Tryz.underlying71,rfl,rfl,M6,by decide⟩
 ·cases h;exact⟨_,_,Tryz.underlying71,rfl,rfl,Y6,by decide⟩
 ·cases h;exact⟨_,_,Tryz.underlying71,rfl,rfl,x5,by decide⟩
 ·cases h;exact⟨_,_,Tryz.underlying71,rfl,rfl,G9,by decide⟩
 ·cases h;exact⟨_,_,Tryz.underlying71,rfl,rfl,G9,by decide⟩
 ·cases h;exact⟨_,_,Tryz.underlying71,rfl,rfl,D0,by decide⟩
 ·cases h;exact⟨_,_,Tryz.underlying75,rfl,rfl,q8,by decide⟩
 ·cases h;exact⟨_,_,Tryz.underlying75,rfl,rfl,x5,by decide⟩
 ·cases h;exact⟨_,_,Tryz.underlying103,rfl,rfl,a0a,by decide⟩
 ·cases h;exact⟨_,_,Tryz.underlying103,rfl,rfl,D0,by decide⟩
 ·cases h;exact⟨_,_,Tryz.underlying103,rfl,rfl,D0,by decide⟩
 ·cases h;exact⟨_,_,Tryz.underlying103,rfl,rfl,D0,by decide⟩
 ·cases h;exact⟨_,_,Tryz.underlying103,rfl,rfl,S8,by decide⟩
 ·cases h;exact⟨_,_,Tryz.underlying103,rfl,rfl,Y8,by decide⟩
 ·cases h;exact⟨_,_,Tryz.underlying110,rfl,rfl,a0y,by decide⟩
 ·cases h;exact⟨_,_,Tryz.underlying110,rfl,rfl,a1x,by decide⟩
 ·cases h;exact⟨_,_,Tryz.underlying110,rfl,rfl,K7,by decide⟩
 ·cases h;exact⟨_,_,Tryz.underlying110,rfl,rfl,K7,by decide⟩
 ·cases h;exact⟨_,_,Tryz.underlying131,rfl,rfl,q8,by decide⟩
 ·cases h;exact⟨_,_,Tryz.underlying131,rfl,rfl,q8,by decide⟩
 ·cases h;exact⟨_,_,Tryz.underlying166,rfl,rfl,q8,by decide⟩
 ·cases h;exact⟨_,_,Tryz.underlying166,rfl,rfl,K7,by decide⟩
 ·cases h;exact⟨_,_,Tryz.underlying166,rfl,rfl,a7V,by decide⟩
 ·cases h;exact⟨_,_,Tryz.underlying170,rfl,rfl,a0y,by decide⟩
 ·cases h;exact⟨_,_,Tryz.underlying170,rfl,rfl,V7,by decide⟩
 ·cases h;exact⟨_,_,Tryz.underlying170,rfl,rfl,M6,by decide⟩
 ·cases h;exact⟨_,_,Tryz.underlying173,rfl,rfl,D0,by decide⟩
 ·cases h;exact⟨_,_,Tryz.underlying173,rfl,rfl,q8,by decide⟩
 ·cases h;exact⟨_,_,Tryz.underlying173,rfl,rfl,D0,by decide⟩
 ·cases h;exact⟨_,_,Tryz.underlying173,rfl,rfl,M6,by decide⟩
 ·cases h;exact⟨_,_,Tryz.underlying173,rfl,rfl,a4m,by decide⟩
 ·cases h;exact⟨_,_,Tryz.underlying179,rfl,rfl,F2,by decide⟩
 ·cases h;exact⟨_,_,Tryz.underlying179,rfl,rfl,a2t,by decide⟩
 ·cases h;exact⟨_,_,Tryz.underlying183,rfl,rfl,Y7,by decide⟩
 ·cases h;exact⟨_,_,Tryz.underlying183,rfl,rfl,C4,by decide⟩
 ·cases h;exact⟨_,_,Tryz.underlying183,rfl,rfl,K7,by decide⟩
 ·cases h;exact⟨_,_,Tryz.underlying276,rfl,rfl,q8,by decide⟩
 ·cases h;exact⟨_,_,Tryz.underlying276,rfl,rfl,F2,by decide⟩
 ·cases h;exact⟨_,_,Tryz.underlying282,rfl,rfl,q8,by decide⟩
 ·cases h;exact⟨_,_,Tryz.underlying282,rfl,rfl,F2,by decide⟩
 ·cases h
theorem b6b:∀T e,tyT T=some (.mp e)->d4M Tryz.prog T e:=by
 intro T e h;unfold tyT at h;split at h
 iterate 22(cases h)
 ·cases h;exact⟨_,_,Tryz.underlying100,Tryz.underlying9,Y7⟩
 ·cases h;exact⟨_,_,Tryz.underlying101,Tryz.underlying9,R5⟩
 iterate 3(cases h)
 ·cases h;exact⟨_,_,Tryz.underlying108,Tryz.underlying9,K7⟩
 iterate 5(cases h)
 ·cases h;exact⟨_,_,Tryz.underlying168,Tryz.underlying9,X5⟩
 iterate 9(cases h)
 ·cases h;exact⟨_,_,Tryz.underlying231,Tryz.underlying9,F2⟩
 iterate 6(cases h)
theorem b0x:∀T t,tyT T=some t->t.isAgg=true->∃fs places,Tryz.prog.underlying T=some (.struct fs)/\fs.toList.mapM (fun f=>(Tryz.prog.info? f.type).map fun i=>(f.offset,i.size))=some places:=by
 intro T t h ha;unfold tyT at h;split at h
 iterate 8(cases h;cases ha)
 ·exact⟨_,[(0,1),(1,1)],Tryz.underlying47,by kernel_rfl⟩
 ·cases h;cases ha
 ·cases h;cases ha
 ·exact⟨_,[(0,1),(1,1),(2,1),(3,1)],Tryz.underlying53,by kernel_rfl⟩
 ·cases h;cases ha
 ·exact⟨_,[(0,1),(1,1),(2,1)],Tryz.underlying56,by kernel_rfl⟩
 iterate 3(cases h;cases ha)
 ·exact⟨_,[(0,1),(1,1),(2,1),(3,1),(4,1)],Tryz.underlying69,by kernel_rfl⟩
 ·exact⟨_,[(0,1),(1,1),(2,1),(3,1),(4,1),(5,5),(10,1),(11,1),(12,1)],Tryz.underlying71,by kernel_rfl⟩
 ·exact⟨_,[(0,1),(1,5)],Tryz.underlying75,by kernel_rfl⟩
 iterate 4(cases h;cases ha)
 ·exact⟨_,[(0,4),(4,1),(5,1),(6,1),(7,1),(8,1)],Tryz.underlying103,by kernel_rfl⟩
 iterate 3(cases h;cases ha)
 ·exact⟨_,[(0,1),(1,1),(2,1),(3,1)],Tryz.underlying110,by kernel_rfl⟩
 ·cases h;cases ha
 ·exact⟨_,[(0,1),(1,1)],Tryz.underlying131,by kernel_rfl⟩
 ·cases h;cases ha
 ·exact⟨_,[(0,1),(1,1),(2,1)],Tryz.underlying166,by kernel_rfl⟩
 ·cases h;cases ha
 ·exact⟨_,[(0,1),(1,1),(2,1)],Tryz.underlying170,by kernel_rfl⟩
 ·cases h;cases ha
 ·exact⟨_,[(0,1),(1,1),(2,1),(3,1),(4,1)],Tryz.underlying173,by kernel_rfl⟩
 ·cases h;cases ha
 ·exact⟨_,[(0,5),(5,1)],Tryz.underlying179,by kernel_rfl⟩
 ·exact⟨_,[(0,1),(1,13),(14,1)],Tryz.underlying183,by kernel_rfl⟩
 iterate 5(cases h;cases ha)
 ·exact⟨_,[(0,1),(1,5)],Tryz.underlying276,by kernel_rfl⟩
 ·exact⟨_,[(0,1),(1,5)],Tryz.underlying282,by kernel_rfl⟩
 ·cases h;cases ha
 ·cases h;cases ha
 ·cases h
theorem b6k:∀T t,tyT T=some t->a3f t=true->(Tryz.prog.info? (Tryz.prog.pointee T)).isSome=true:=by
 intro T t h ha;unfold tyT at h;split at h
 iterate 21(cases h;cases ha)
 ·kernel_rfl
 iterate 3(cases h;cases ha)
 ·kernel_rfl
 ·kernel_rfl
 iterate 10(cases h;cases ha)
 ·kernel_rfl
 iterate 11(cases h;cases ha)
 ·cases h
theorem a1O:CmpOk Tryz.prog 131 (.pr .str .str):=CmpOk.flat rfl rfl Tryz.underlying131 (by kernel_rfl) (by kernel_rfl) (.cons rfl (by decide) (.str Tryz.underlying9) (.one rfl (by decide) (.str Tryz.underlying9)))
def b9N:TypeId->Option Ty:=fun T=>
 match T with
 |131=>some (.pr .str .str)
 |_=>none
theorem b0y:∀T t,b9N T=some t->CmpOk Tryz.prog T t:=by
 intro T t h;unfold b9N at h;split at h
 ·cases h;exact a1O
 ·cases h
def mkE(h:Nat->Hint)(fn:FuncId->Option Tmp->Option AF)(exq:Nat->Bool)(live:FuncId->Bool):Env:={ty:=tyT,el:=elT,fld:=b9Y,cmp:=b9N,fn:=fn,hint:=h,exq:=exq,live:=live}
theorem O3(hh:Nat->Hint)(fn:FuncId->Option Tmp->Option AF)(exq:Nat->Bool)(live:FuncId->Bool)(h:∀f q F,fn f q=some F->Sound Tryz.prog GW x9 f F):EnvOk Tryz.prog GW x9 (mkE hh fn exq live):=
 {ty:=b6N,el:=b5Z,fld:=b0A,mp:=b6b,bld:=b0x,ptr:=b6k,cmp:=b0y,fn:=h,stable:=a10,mixed:=by kernel_rfl}
noncomputable def d3Z:List (FuncId×Func):=[(8,Tryz.f8),(18,Tryz.f18),(40,Tryz.f40),(41,Tryz.f41),(42,Tryz.f42),(43,Tryz.f43),(64,Tryz.f64),(65,Tryz.f65),(66,Tryz.f66),(67,Tryz.f67),(68,Tryz.f68),(69,Tryz.f69),(70,Tryz.f70),(116,Tryz.f116),(118,Tryz.f118),(120,Tryz.f120),(123,Tryz.f123),(131,Tryz.f131),(132,Tryz.f132),(142,Tryz.f142),(163,Tryz.f163),(164,Tryz.f164),(165,Tryz.f165),(168,Tryz.f168),(181,Tryz.f181),(214,Tryz.f214),(215,Tryz.f215),(218,Tryz.f218),(220,Tryz.f220),(255,Tryz.f255),(256,Tryz.f256),(285,Tryz.f285),(293,Tryz.f293)]
noncomputable def d3Y:FuncId->Option Func:=p5 d3Z
theorem c5q:∀f fn,d3Y f=some fn->Tryz.prog.funcs[f]? = some fn/\∀(args:Array Value) (w:World),(callFunc f args).run Tryz.prog w = .ok (.enter f args) w:=
 b4R d3Z ⟨⟨Tryz.func8,Tryz.call8⟩,
 ⟨Tryz.func18,Tryz.call18⟩,
 ⟨Tryz.func40,Tryz.call40⟩,
 ⟨Tryz.func41,Tryz.call41⟩,
 ⟨Tryz.func42,Tryz.call42⟩,
 ⟨Tryz.func43,Tryz.call43⟩,
 ⟨Tryz.func64,Tryz.call64⟩,
 ⟨Tryz.func65,Tryz.call65⟩,
 ⟨Tryz.func66,Tryz.call66⟩,
 ⟨Tryz.func67,Tryz.call67⟩,
 ⟨Tryz.func68,Tryz.call68⟩,
 ⟨Tryz.func69,Tryz.call69⟩,
 ⟨Tryz.func70,Tryz.call70⟩,
 ⟨Tryz.func116,Tryz.call116⟩,
 ⟨Tryz.func118,Tryz.call118⟩,
 ⟨Tryz.func120,Tryz.call120⟩,
 ⟨Tryz.func123,Tryz.call123⟩,
 ⟨Tryz.func131,Tryz.call131⟩,
 ⟨Tryz.func132,Tryz.call132⟩,
 ⟨Tryz.func142,Tryz.call142⟩,
 ⟨Tryz.func163,Tryz.call163⟩,
 ⟨Tryz.func164,Tryz.call164⟩,
 ⟨Tryz.func165,Tryz.call165⟩,
 ⟨Tryz.func168,Tryz.call168⟩,
 ⟨Tryz.func181,Tryz.call181⟩,
 ⟨Tryz.func214,Tryz.call214⟩,
 ⟨Tryz.func215,Tryz.call215⟩,
 ⟨Tryz.func218,Tryz.call218⟩,
 ⟨Tryz.func220,Tryz.call220⟩,
 ⟨Tryz.func255,Tryz.call255⟩,
 ⟨Tryz.func256,Tryz.call256⟩,
 ⟨Tryz.func285,Tryz.call285⟩,
 ⟨Tryz.func293,Tryz.call293⟩,trivial⟩
def d1z:FuncId->Bool:=fun f=>
 match f with
 |69=>true
 |123=>true
 |255=>true
 |285=>true
 |_=>false
def d4J:FuncId->Bool:=fun f=>
 match f with
 |168=>true
 |_=>false
def d4I:FuncId->Nat->Bool:=fun f i=>
 match f with
 |_=>false
def d4H:FuncId->Bool:=fun f=>
 match f with
 |_=>false
noncomputable def d9x:Call':={fn:=d3Y,rows:=d1z,frz:=d4J,exq:=d4I,dat:=d4H}
noncomputable def c5r:FuncId->Option Tmp->Option AF:=fun f _=>
 match f with
 |115=>some (d4G fun x _=>strings_Split x.1 x.2.1)
 |12=>some (c3O fun x _=>awP x.1)
 |135=>some (d4B fun x _=>C7 300 x.1)
 |144=>some (d4E fun x _=>u0 300 x.1)
 |_=>none
theorem c5s:∀f q F,c5r f q=some F->Sound Tryz.prog GW x9 f F:=by
 intro f q F h;unfold c5r at h;split at h
 ·cases h;exact d1s
 ·cases h;exact c3X
 ·cases h;exact a80 300
 ·cases h;exact a87 300
 ·cases h
noncomputable def d3X:Env:=(mkE (fun _=>y5) c5r (fun _=>false) (fun _=>true)).rawE
theorem c5p:EnvOk Tryz.prog GW x9 d3X:=d18 (O3 _ _ _ _ c5s)
noncomputable def Ax_E:Env:=d4b d3X d9x 100 40
theorem Ax_E_ok:EnvOk Tryz.prog GW x9 Ax_E:=b7L c5p c5q _ _
end Go.Proofs.YtolpmfhiegpohaaGreatDoor.Ax
namespace Go.Proofs.YtolpmfhiegpohaaGreatDoor
open Go Go.RowKit
set_option maxRecDepth 100000
section
theorem d4K:c53 Ax.Ax_E 100 Tryz.f8=some true:=by kernel_rfl
def a07:Option Bool:=some true
theorem c4X:Sound Tryz.prog GW x9 8 ⟨[],[],[.v .bool],[],Bool,fun z=>((z,()),()),fun _ _=>a07⟩:=b7t Ax.Ax_E_ok Tryz.func8 Tryz.call8 _ d4K
end
section
set_option linter.unusedVariables false
noncomputable section
def R0(N:Nat)(x0:d7):Option Bool:=j8 (D9 N x0) fun t12=>br (t12.2.2 !=(0:Int)) (br ((t12.1.length:Int)==(0:Int)) (j8 (a07) fun t22=>some t22) (some false)) (j8 (M4 N t12.1) fun t26=>br (t26.2 !=(0:Int)) (br (t26.2==(2:Int)) (j8 (a07) fun t34=>some t34) (some false)) (j8 (D9 N t26.1) fun t38=>br (t38.2.2 !=(0:Int)) (some false) (j8 (F0 N N t12.1 t38.1 false) fun t47=>br (!t47) (some false) (j8 (a07) fun t51=>br (!t51) (some false) (j8 (M4 N t38.1) fun t56=>br (t56.2==(0:Int)) (some (t26.1==t56.1)) (some false))))))
abbrev d7C:=sgM [.v .str] [] [.v .bool] [] (Bool) fun z=>((z,()),())
noncomputable abbrev d7B(N:Nat):AF:=d7C fun x _=>R0 N x.1
theorem c7w(N:Nat):Snd 6 (d7B N):=
 a2o h0 [(8,d5M fun _ _=>a07),(12,c3O fun x _=>D9 N x.1),(13,b84 fun x _=>F0 N N x.1 x.2.1 x.2.2.1),(15,d9a fun x _=>M4 N x.1)] (L3 (c4X) (L3 (b9d N) (L3 (b85 N N) (L3 (d05 N) T8)))) Tryz.func6 rfl Tryz.call6 (d7B N) (fun x _=>x.1) (fun _ _=>rfl) N (fun _ _=>by kernel_rfl) rfl
end
end
section
set_option linter.unusedSimpArgs false
set_option linter.unusedVariables false
variable{N:Nat}
theorem c7f(hN:60000<=N)(s:d7)(hs:s.length<=50000):∀(d i m:Nat) (out:List A6),i+d=s.length->d<m->out.length<=i->(∀t∈out,a2C t)->
  ∃(x:List A6) (a f:Int),b0r N s m s (i:Int) out=some (x,a,f)/\(f=0->x.length<=50000/\∀t∈x,a2C t):=by
 intro d;induction d using Nat.strongRecOn with
 |_ d ih=>
  intro i m out hd hm ho hok;obtain⟨m,rfl⟩:∃q,m=q+1:=⟨m-1,by omega⟩;show ∃(x:List A6) (a f:Int),a39 N s (b0r N s m) _ _ out=_/\_;unfold a39;obtain⟨j,h1,h2,h3,h4⟩:=c6Y (N:=N) s hs out d i N hd (by omega);rw[show L1 N s (i:Int) out=_ from h4,d2];by_cases hj:j=s.length
  ·simp only[show((j:Int)==(s.length:Int))=true by rw[hj];exact beq_self_eq_true _,d8];exact⟨_,_,_,rfl,fun _=>⟨by omega,hok⟩⟩
  simp only[show((j:Int)==(s.length:Int))=false by rw[beq_eq_false_iff_ne];omega,d9];by_cases h5:out.length=50000
  ·simp only[show((out.length:Int)==50000)=true by rw[h5];rfl,d8];exact⟨_,_,_,rfl,fun h=>absurd h (by decide)⟩
  simp only[show((out.length:Int)==50000)=false by rw[beq_eq_false_iff_ne];omega,d9];rcases d7q hN s hs out (show j<s.length by omega)with⟨t,q,g1,g2,g3,g4,g5,g6⟩|⟨_,t,e,q,he,g⟩
  ·have hmem:∀z:A6,Zf (out.length + [z].length) τ1=true:=fun z=>decide_eq_true (by simp[Ty.sz];omega)
   simp only[g5,d2,bne_self_eq_false,d9,v8,hmem,d8];exact ih (s.length-q) (by omega) q m (out ++ [t]) (by omega) (by omega) (by simp;omega) (fun z hz=>by
    rcases List.mem_append.1 hz with hz|hz
    ·exact hok z hz
    ·rw[List.mem_singleton.1 hz];exact⟨by omega,g6⟩)
  ·simp only[g,d2,show(e !=0)=true by simpa using he,d8];exact⟨_,_,_,rfl,fun h=>absurd h he⟩
theorem a9a{m:Nat}{k n:Int}{t:d7}{ks:List d7}{es:List GExpr}(h1:t.length<=50000)(h2:ks.length<=50000)(h3:∀q∈ks,q.length<=50000)(h4:es.length<=50000)(h5:∀c∈es,ZE m c):ZE (m+1) (.mk k t n ks es):=
 ⟨by unfold zz;simp only[a0l];omega,by unfold zz;simp only[Z3];omega,fun q hq=>by have:=h3 q hq;unfold zz;omega,by simp only[E5];omega,h5⟩
theorem c52:∀(k m:Nat) (e:GExpr),EOk k e->k<=m->ZE m e
 |0,_,_,h,_=>h.elim
 |k+1,0,_,_,h=>absurd h (by omega)
 |k+1,m+1,e,h,hm=>by
  have ih:=fun c hc=>c52 k m c hc (by omega)
  have two:∀a b:GExpr,EOk k a->EOk k b->∀c ∈ [a,b],ZE m c:=fun a b h2 h3 c hc=>by
   rcases List.mem_cons.1 hc with rfl|hc
   ·exact ih _ h2
   ·rw[List.mem_singleton.1 hc];exact ih _ h3
  rcases h with⟨t,h1,rfl⟩|⟨n,rfl⟩|⟨t,h1,h2,rfl⟩|⟨es,h1,rfl,h3⟩|⟨a,b,rfl,h2,h3⟩|⟨ks,es,h0,hp,h1,h4,rfl,h3⟩|⟨a,b,rfl,h2,h3⟩|⟨a,b,rfl,h2,h3⟩
  ·exact a9a h1 (by simp) (by simp) (by simp) (by simp)
  ·exact a9a (by simp) (by simp) (by simp) (by simp) (by simp)
  ·exact a9a h1 (by simp) (by simp) (by simp) (by simp)
  ·exact a9a (by simp) (by simp) (by simp) h1 fun c hc=>ih c (h3 c hc)
  ·exact a9a (by simp) (by simp) (by simp) (by simp) (two a b h2 h3)
  ·exact a9a (by simp) (by omega) h4 h1 fun c hc=>ih c (h3 c hc)
  ·exact a9a (by simp) (by simp) (by simp) (by simp) (two a b h2 h3)
  ·exact a9a (by simp) (by simp) (by simp) (by simp) (two a b h2 h3)
theorem b50{e:GExpr}(h:EOk 60000 e):ZE zz e:=c52 60000 zz e h (by unfold zz;omega)
theorem d1u:ZE zz zE:=a9a (m:=1999999) (by simp) (by simp) (by simp) (by simp) (by simp)
theorem b5L{m:Nat}{k a:Int}{q t:d7}{ps:List d7}{ag:List Ag}{E:GExpr}{b l:List GStmt}(h1:q.length<=50000)(h2:t.length<=50000)(h3:ps.length<=50000)(h4:∀p∈ps,A5 p=true)(h5:ag.length<=50000)(h6:∀c∈ag,A5 c.1=true/\EOk 60000 c.2)(h7:ZE zz E)(h8:b.length<=50000)(h9:∀c∈b,ZS m c)(h10:l.length<=50000)(h11:∀c∈l,ZS m c):ZS (m+1) (.mk k q t ps ag E b l a):=
 ⟨by unfold zz;simp only[U1];omega,by unfold zz;simp only[U3];omega,by unfold zz;simp only[K3];omega,fun p hp=>by have:=a5N (h4 p hp);unfold zz;omega,by simp only[O7];omega,fun c hc=>⟨by have:=a5N (h6 c hc).1;unfold zz;omega,b50 (h6 c hc).2⟩,h7,by simp only[R9];omega,h9,by simp only[X9];omega,h11⟩
theorem c0t:∀(k m:Nat) (s:GStmt),SOk k s->k<=m->ZS m s
 |0,_,_,h,_=>h.elim
 |k+1,0,_,_,h=>absurd h (by omega)
 |k+1,m+1,s,h,hm=>by
  have ih:=fun c hc=>c0t k m c hc (by omega)
  have nm:∀{q:d7},A5 q=true->q.length<=50000:=fun h=>by have:=a5N h;omega
  rcases h with⟨q,E,a,h1,h2,rfl⟩|⟨q,ag,a,h1,h2,h3,rfl⟩|⟨q,ps,b,a,h1,h2,h3,h4,h5,rfl⟩|⟨q,E,b,a,h1,h2,h3,h4,rfl⟩|⟨E,b,l,a,h1,h2,h3,h4,h5,rfl⟩|⟨t,a,h1,rfl⟩
  ·exact b5L (nm h1) (by simp) (by simp) (by simp) (by simp) (by simp) (b50 h2) (by simp) (by simp) (by simp) (by simp)
  ·exact b5L (nm h1) (by simp) (by simp) (by simp) h2 h3 d1u (by simp) (by simp) (by simp) (by simp)
  ·exact b5L (nm h1) (by simp) h2 h3 (by simp) (by simp) d1u h4 (fun c hc=>ih c (h5 c hc)) (by simp) (by simp)
  ·exact b5L (nm h1) (by simp) (by simp) (by simp) (by simp) (by simp) (b50 h2) h3 (fun c hc=>ih c (h4 c hc)) (by simp) (by simp)
  ·exact b5L (by simp) (by simp) (by simp) (by simp) (by simp) (by simp) (b50 h1) h2 (fun c hc=>ih c (h3 c hc)) h4 (fun c hc=>ih c (h5 c hc))
  ·exact b5L (by simp) h1 (by simp) (by simp) (by simp) (by simp) d1u (by simp) (by simp) (by simp) (by simp)
theorem c4t(hN:J0<=N)(s:d7):∃(G:List GStmt) (a f:Int),D9 N s=some (G,a,f)/\(f≠0->G=[])/\
  (f=0->G.length<=50000/\(∀g∈G,ZS zz g)/\(G.map GStmt.bulk).sum<=3000000000/\m7 N G=some 0):=by
 have hb:1000000<N:=by unfold J0 at hN;omega
 unfold D9;obtain⟨x,a,f,t1,t2⟩:∃(x:List A6) (a f:Int),M5 N s=some (x,a,f)/\(f=0->s.length<=50000/\x.length<=50000/\∀t∈x,a2C t):=by
  unfold M5;by_cases hs:s.length<=50000
  ·rw[decide_eq_false (show ¬(s.length:Int)>50000 by omega),d9];obtain⟨x,a,f,h1,h2⟩:=c7f (N:=N) (by omega) s hs s.length 0 N [] (by omega) (by omega) (by simp) (by simp);exact⟨x,a,f,h1,fun h=>⟨hs,h2 h⟩⟩
  ·rw[decide_eq_true (show(s.length:Int)>50000 by omega),d8];exact⟨_,_,_,rfl,fun h=>absurd h (by decide)⟩
 by_cases hf:f=0
 case neg=>
  have e1:M3 N s=some ([],a,f):=by
   unfold M3;rw[t1,d2];simp only[show(f !=0)=true by simpa using hf,d8]
  rw[e1];exact⟨_,_,_,rfl,fun _=>rfl,fun h=>absurd h hf⟩
 subst hf;obtain⟨hs,hx,hok⟩:=t2 rfl;have V:Wc N x (s.length:Int):=⟨hN,hx,hok,by omega⟩;have lp:=a9A V (p:=0)
  (K:=fun o0_0_0 o0_0_1 o0_0_2 o0_w950001=>some (.ok (o0_w950001,(0:Int),true,o0_0_0,o0_0_1,o0_0_2,(0:Int),true,o0_w950001)))
  (k0:=fun o0_0_1 o0_0_2 o0_0_3 o0_0_4 o0_w1 o0_w1005 o0_w950001=>some (o0_0_1,o0_0_2,o0_0_3,o0_0_4,o0_w1,o0_w1005,o0_w950001))
  x.length 0 N N [] [] (by omega) (by omega) (by omega) (by simp) (by simp) Pos.nil (by simp) (by simp)
 have eY:G6 N x (s.length:Int) (-1) 0 false=b0q N (fun o0_0_0 o0_0_1 o0_0_2 o0_w950001=>some (.ok (o0_w950001,(0:Int),true,o0_0_0,o0_0_1,o0_0_2,(0:Int),true,o0_w950001))) N (x.drop 0) (s.length:Int) (dp (-1) []) []:=rfl;rcases lp with⟨Hs,T,h1,h2,h3,⟨h4,h5⟩,u1,u2⟩|⟨c,u1,u2⟩
 ·rw[<-eY]at u1;have aOk:y8 N x (s.length:Int) (-1)=some (Hs,0,true,dp (-1) T):=by
   unfold y8;rw[u1]
  have hz:∀g∈Hs,ZS zz g:=fun g hg=>c0t 50001 zz g (h4 g hg) (by unfold zz;omega)
  obtain⟨c,c1,_⟩:=b1m hN Hs (by omega) hz;have e1:M3 N s=if 0<=dp (-1) T then some ([],dp (-1) T,2)else if c=0 then some (Hs,0,0)else some ([],0,c):=by
   unfold M3;rw[t1,d2];simp only[bne_self_eq_false,d9,aOk,d2,Bool.not_true,c1];by_cases hd:0<=dp (-1) T
   ·rw[decide_eq_true (show dp (-1) T>=0 from hd),d8,if_pos hd]
   ·rw[decide_eq_false (show ¬dp (-1) T>=0 from hd),d9,if_neg hd];by_cases hc0:c=0
    ·subst hc0;rw[bne_self_eq_false,d9,if_pos rfl]
    ·rw[show(c !=0)=true by simpa using hc0,d8,if_neg hc0]
  rw[e1];by_cases hd:0<=dp (-1) T
  ·rw[if_pos hd];exact⟨_,_,_,rfl,fun _=>rfl,fun h=>absurd h (by decide)⟩
  rw[if_neg hd];by_cases hc0:c=0
  ·rw[if_pos hc0];exact⟨_,_,_,rfl,fun h=>absurd rfl h,fun _=>⟨h1,hz,by omega,by rw[c1,hc0]⟩⟩
  ·rw[if_neg hc0];exact⟨_,_,_,rfl,fun _=>rfl,fun h=>absurd h hc0⟩
 ·rw[<-eY]at u1;have aOk:y8 N x (s.length:Int) (-1)=none:=by
   unfold y8;rw[u1]
  have aBad:G5 N x (s.length:Int) (-1)=some (c,false):=by
   unfold G5;rw[u1]
  have e1:M3 N s=none:=by
   unfold M3;rw[t1,d2];simp only[bne_self_eq_false,d9,aOk,c5L]
  have e2:a0T N s=some ([],c,10):=by
   unfold a0T;rw[t1,d2];simp only[bne_self_eq_false,d9,aBad,d2,Bool.not_false,d8]
  rw[e1];exact⟨_,_,_,e2,fun _=>rfl,fun h=>absurd h (by decide)⟩
theorem c4d(l:List GStmt):(erL l).isEmpty=l.isEmpty:=by cases l<;>rw[erL]<;>rfl
mutual
theorem d5m:∀(s:GStmt) (d:Nat),prS (erS s) d=prS s d
 |.mk k q t ps ag E b l a,d=>by rw[O1,prS,prS,a7L b (d+1),a7L l (d+1),c4d]
theorem a7L:∀(l:List GStmt) (d:Nat),R3 (erL l) d=R3 l d
 |[],d=>by rw[d1P]
 |s :: l,d=>by rw[a4G,a0F,a0F,d5m s d,a7L l d]
end
theorem a2h(s:d7)(_:Fit .str s):∃N,R0 N s=some true:=by
 refine⟨J0,?_⟩;have hN:J0<=J0:=Nat.le_refl _;have haw:a07=some true:=rfl;obtain⟨G,a,f,p1,p2,p3⟩:=c4t hN s;unfold R0;rw[p1,d2];by_cases hf:f=0
 case neg=>
  obtain rfl:=p2 hf;simp only[show(f !=0)=true by simpa using hf,d8];rw[show((([]:List GStmt).length:Int)==0)=true from rfl,d8,haw,d2]
 subst hf;obtain⟨q1,q2,q3,q4⟩:=p3 rfl;obtain⟨c,h1,h2⟩:=b77 hN (show G.length<=1000000 by omega) q2;rw[q4]at h1;obtain rfl:=Option.some.inj h1;rcases h2 with⟨h0,_⟩|⟨_,hw,hp⟩
 ·exact absurd rfl h0
 have hpb:=c4y hw;have hp:=hp (by omega);simp only[bne_self_eq_false,d9];rw[hp,d2];by_cases h5:(R3 G 0).length>50000
 ·rw[if_pos h5];simp only;rw[show((2:Int) !=0)=true by decide,d8,beq_self_eq_true,d8,haw,d2]
 ·rw[if_neg h5];obtain⟨g1,g2,m,g3,g4,g5,g6,g7⟩:=again hN hw (by omega) q4;simp only[bne_self_eq_false,d9];rw[g6,d2];simp only[bne_self_eq_false,d9];rw[d2k hN g1 g2 g5.symm,d2,Bool.not_true,d9,haw,d2,Bool.not_true,d9];have em:R3 m 0=R3 G 0:=by rw[<-a7L m,g5,a7L]
  obtain⟨c,k1,k2⟩:=b77 hN (show m.length<=1000000 by omega) fun g hg=>c0t 50001 zz g (g4 g hg) (by unfold zz;omega)
  rw[g7]at k1;obtain rfl:=Option.some.inj k1;rcases k2 with⟨k0,_⟩|⟨_,hv,hq⟩
  ·exact absurd rfl k0
  rw[em]at hq;rw[hq (by omega),if_neg h5,d2];simp only[beq_self_eq_true,d8]
end
end Go.Proofs.YtolpmfhiegpohaaGreatDoor
