/- % -/
import Derived.Test.YtolpmfhiegpohaaGreatDoorQLPrL
import Derived.Test.YtolpmfhiegpohaaGreatDoorQBmJ
import Derived.Test.YtolpmfhiegpohaaGreatDoorQBmDz
import Derived.Test.YtolpmfhiegpohaaGreatDoorProg
import Derived.Test.YtolpmfhiegpohaaGreatDoorQFor2
namespace Go.Proofs.YtolpmfhiegpohaaGreatDoor
set_option linter.unusedVariables false
set_option linter.unusedSimpArgs false
open Go Go.RowKit
variable{N:Nat}
abbrev awE(c:UInt8):GExpr:= .mk 1 [c] 0 [] []
abbrev awG:List Ag:=[([110,97,109,101],awE 97),([107,105,110,100],awE 107)]
abbrev awS(a:Int):GStmt:= .mk 2 [116,97,114,103,101,116] [] [] awG zE [] [] a
theorem f8p(hN:I1<=N){c:UInt8}(ht:O5 c=true):m5 N (awE c) 1=some 0:=by
 have T:=a0I hN [c] (by unfold maxLen;simp);have I:=M9 hN [c] (by unfold maxLen;simp);have A:=c2H hN [] (by unfold maxLen;simp) (by simp);have W:=a2z (N:=N) [] (by simp);unfold m5;simp[E4,Z3,R9,Y1,E9,C2,p7,T,I,A,W,ht]
theorem f7E{f:Nat}(hN:I1<=f+1){c:UInt8}(ht:O5 c=true):w8 (f+1) (f+1) (awE c) 1=some 0:=by
 have A:=f8p hN ht;show E8 (f+1) _ _ _=_;unfold E8;simp only[E4,Z3,R9,Y1,E9,GExpr.eta,A,a8];simp[f0e,f0o]
theorem f78(hN:I1<=N)(a:Int):H9 N (awS a) 0=some 0:=by
 have T:=a0I hN [] (by unfold maxLen;simp);have I:=M9 hN [116,97,114,103,101,116] (by unfold maxLen;simp);have A1:=b3R hN [] (by unfold maxLen;simp) (by simp);have A2:=b3R hN [[110,97,109,101],[107,105,110,100]] (by unfold maxLen;simp) (by unfold maxLen;simp);have nm:=c9u hN (awS a) (by simp[a0m]);have hh:=b8Z (N:=N) (awS a);have W1:=a2z (N:=N) [] (by simp);have W2:=a2z (N:=N) [[110,97,109,101],[107,105,110,100]] (by simp);have hc1:B4 N [116,97,114,103,101,116]=some false:=by unfold B4;rw[I,a8];rfl
 have n1:w9 [110,97,109,101]=true:=by decide
 have n2:w9 [107,105,110,100]=true:=by decide
 simp only[a0m,List.map_cons,List.map_nil]at nm;have h2:hsT 2=(true,false,false,true,false,false,false):=rfl;simp only[S0]at hh;rw[h2]at hh;unfold H9;simp only[GStmt.eta2];simp[S0,a0p,a0q,O9,a0m,a0o,a0n,a1R,C2,p7,hh,nm,T,A1,A2,W1,W2,hc1,n1,n2,c3i,isZ];simp[zE,GExpr.eta,E4,Z3,R9,Y1,E9]
theorem f9h{f:Nat}(hN:I1<=f+4)(a:Int):x8 (f+4) (f+4) [awS a] 0=some 0:=by
 have A:=f78 hN a;have E1:=f7E hN (c:=97) (by decide);have E2:=f7E hN (c:=107) (by decide);have hh:=b8Z (N:=f+4) (awS a);have h2:hsT 2=(true,false,false,true,false,false,false):=rfl;simp only[S0]at hh;rw[h2]at hh;have B:∀y,x8 (f+4) (f+3) [] y=some 0:=fun y=>by
  show L5 _ _ _ _=_;unfold L5;show a47 _ _ _ _ _ _ _ _=_;simp[a47]
 show L5 (f+4) (x8 (f+4) (f+3)) _ _=_;unfold L5;show a47 _ _ _ _ _ _ (f4n (f+4) _ _ _ _ _ (f+3)) _=_;unfold a47;have w1:IntKind.i64.wrap (0+1)=1:=by decide
 have w2:IntKind.i64.wrap (1+1)=2:=by decide
 have last:f4n (f+4) (x8 (f+4) (f+3)) 0 [awS a] 1 (some 0) (f+3) 1=some 0:=by
  show a47 _ _ _ _ _ _ _ _=_;simp[a47]
 have args:∀K:Option Int,f12 (f+4) (x8 (f+4) (f+3)) 0 awG 2 K (f+4) 0=K:=fun K=>by
  show e7d _ _ _ _ _ _ (f12 (f+4) _ _ _ _ _ (f+3)) _=_;unfold e7d;have g0:m7 awG 0=some ([110,97,109,101],awE 97):=rfl;have g1:m7 awG 1=some ([107,105,110,100],awE 107):=rfl;simp only[g0,a8,GExpr.eta,w1,E1];show br true (br false _ (e7d _ _ _ _ _ _ (f12 (f+4) _ _ _ _ _ (f+2)) _)) _=_;unfold e7d;simp only[g1,a8,GExpr.eta,w1,E2];show br true (br false _ (br true (br false _ (e7d _ _ _ _ _ _ (f12 (f+4) _ _ _ _ _ (f+1)) _)) _)) _=_;unfold e7d;rw[w2];simp
 have g:m7 [awS a] 0=some (awS a):=rfl;simp only[g,a8,GStmt.eta2,A,hh,a0m,a0n,a1R,List.length_cons,List.length_nil];show br true (br false _ (br false _ (f12 (f+4) (x8 (f+4) (f+3)) 0 awG 2 _ (f+4) 0))) _=_;simp only[args,B,a8,w1,d7,d6,bne_self_eq_false];exact last
theorem f7F{f:Nat}(c:UInt8):U7 (f+1) (f+1) (awE c)=some 1:=by
 show a5t (f+1) _ _=_;unfold a5t;show f2a (f+1) _ _ _ _ _ _ _=_;simp[f2a,E9]
theorem f8r{f:Nat}(a:Int):C9 (f+4) (f+4) [awS a]=some 3:=by
 have hh:=b8Z (N:=f+4) (awS a);have h2:hsT 2=(true,false,false,true,false,false,false):=rfl;simp only[S0]at hh;rw[h2]at hh;have M1:=f7F (f:=f+3) 97;have M2:=f7F (f:=f+3) 107;have w1:IntKind.i64.wrap (0+1)=1:=by decide
 have w2:IntKind.i64.wrap (1+1)=2:=by decide
 have w3:IntKind.i64.wrap (2+1)=3:=by decide
 have w4:IntKind.i64.wrap (3+IntKind.i64.wrap (0+0))=3:=by decide
 have B:C9 (f+4) (f+3) []=some 0:=by
  show a05 (f+4) _ _=_;unfold a05;show b6N (f+4) _ _ _ _ _ _ _=_;simp[b6N]
 have last:∀s,c6W (f+4) (C9 (f+4) (f+3)) [awS a] 1 (fun o=>some o) (f+3) s 1=some s:=fun s=>by
  show b6N (f+4) _ _ _ _ _ _ _=_;simp[b6N]
 have args:∀K:Int->Option Int,f2M (f+4) (C9 (f+4) (f+3)) awG 2 K (f+4) 1 0=K 3:=fun K=>by
  show e8z (f+4) _ _ _ _ (f2M (f+4) _ _ _ _ (f+3)) _ _=_;unfold e8z;have g0:m7 awG 0=some ([110,97,109,101],awE 97):=rfl;have g1:m7 awG 1=some ([107,105,110,100],awE 107):=rfl;simp only[g0,a8,GExpr.eta,w1,w2,M1];show br true (e8z (f+4) _ _ _ _ (f2M (f+4) _ _ _ _ (f+2)) _ _) _=_;unfold e8z;simp only[g1,a8,GExpr.eta,w1,w2,w3,M2];show br true (br true (e8z (f+4) _ _ _ _ (f2M (f+4) _ _ _ _ (f+1)) _ _) _) _=_;unfold e8z;simp
 show a05 (f+4) (C9 (f+4) (f+3)) _=_;unfold a05;show b6N (f+4) _ _ _ _ (c6W (f+4) (C9 (f+4) (f+3)) _ _ _ (f+3)) _ _=_;unfold b6N;have g:m7 [awS a] 0=some (awS a):=rfl;simp only[g,a8,GStmt.eta2,hh,a0m,a0n,a1R,List.length_cons,List.length_nil];show br true (br false _ (f2M (f+4) (C9 (f+4) (f+3)) awG 2 _ (f+4) (IntKind.i64.wrap (0+1)) 0)) _=_;simp only[w1,args,B,a8,w4,d7,d6];exact last 3
theorem f8q{f:Nat}(hN:I1<=f+4)(a:Int):B3 (f+4) [awS a]=some 0:=by
 unfold B3;rw[f8r,a8,f9h hN];simp
abbrev awT:d9:=[116,97,114,103,101,116,40,110,97,109,101,32,61,32,34,97,34,44,32,107,105,110,100,32,61,32,34,107,34,41,59]
theorem g0s:LK awT (J7 [awS 0]):=by
 have heq:PcB [32,61,32] [D8 61]:=by
  have h1:PcB ([61] ++ [32]) ([D8 61] ++ []):=PcA.app1 e0f a2G rfl;exact a2G.app h1
 have hw:∀c,O5 c=true->WE 1 1 (awE c):=fun c h=>⟨by omega,.inl ⟨[c],by simp[h],rfl⟩⟩
 have hj:=a8p (a82 Q2) (a3P u9) awG fun c hc=>by
  simp only[List.mem_cons,List.mem_nil_iff,or_false]at hc;rcases hc with rfl|rfl
  ·exact(PcA.app1 (a6c (by decide)) heq rfl).app' (b0m _ _ _ (hw 97 (by decide)))
  ·exact(PcA.app1 (a6c (by decide)) heq rfl).app' (b0m _ _ _ (hw 107 (by decide)))
 have h3:PcB [41,59] [D8 41,D8 59]:=(Q8 (by decide:a4D 41=true)).app (Q8 (by decide:a4D 59=true));have h:=PcA.app1 ((PcA.app1 (a6c (q:=[116,97,114,103,101,116]) (by decide)) (Q8 (by decide:a4D 40=true)) rfl).app' hj) h3 rfl;have e:=h [] [] (.nil rfl);have p:∀c,c≠10->c≠34->c≠92->Q2 (awE c)=[34,c,34]:=fun c h1 h2 h3=>by
  rw[c5y];unfold rpQ rpE rpF;simp[h1,h2,h3]
 have et:([116,97,114,103,101,116]:d9) ++ [40]++Lib.join (awG.map (a82 Q2)) [44,32] ++ [41,59] ++ []=awT:=by
  simp only[List.map_cons,List.map_nil,a59,Lib.join_one];unfold a82;simp only[p 97 (by decide) (by decide) (by decide),p 107 (by decide) (by decide) (by decide)];rfl
 rw[et]at e;rw[a0L,b0y,d0f,List.append_nil];rw[List.append_nil]at e;exact e
theorem f8s:U5 I1 awT=some ([awS 0],0,0):=by
 obtain⟨f,hf⟩:∃f,I1=f+4:=⟨I1-4,by unfold I1;omega⟩;have hc:=f8q (f:=f) (by omega) 0;rw[<-hf]at hc;have hw:∀c,O5 c=true->WE 1 1 (awE c):=fun c h=>⟨by omega,.inl ⟨[c],by simp[h],rfl⟩⟩
 obtain⟨m,h1,h2,h3,h4,h5,toks,t1,t2⟩:=f6B (N:=I1) (Nat.le_refl _) (k:=1) (l:=[awS 0]) (fun s hs=>by
  rw[List.mem_singleton.1 hs];refine⟨by omega,.inr (.inl ⟨_,_,0,1,by decide,fun c hc=>?_,rfl⟩)⟩;simp only[List.mem_cons,List.mem_nil_iff,or_false]at hc;rcases hc with rfl|rfl
  ·exact⟨by decide,hw 97 (by decide)⟩
  ·exact⟨by decide,hw 107 (by decide)⟩) g0s (by decide) hc
 have hl:m.length=1:=by
  have:=congrArg List.length h3;rw[a8g,a8g]at this;exact this
 match m,hl with
 |[s],_=>
  obtain⟨g,G',e1,e2⟩:=t2 _ _ rfl;obtain rfl:=(List.cons.inj e1).1;have at0:s.at_=0:=by
   cases t1 with
   |nil g1=>
    rw[show W6 false awT=awT from a8w (by decide)]at g1;cases g1
   |@cons _ v r t k n l g1 g2 g3 g4=>
    have hv:v=awT:=by rw[<-g1];exact a8w (by decide)
    rw[e2,hv];rfl
  rw[b0d,b0d,List.map_cons,List.map_nil,List.map_cons,List.map_nil]at h3;have h3:=(List.cons.inj h3).1;obtain⟨k,q,t,ps,ag,E,b,l,a⟩:=s;rw[X4,X4]at h3;have nl:∀b:List GStmt,erL b=erL []->b=[]:=fun b hb=>by
   have:=congrArg List.length hb;rw[a8g,a8g]at this;exact List.eq_nil_of_length_eq_zero this
  injection h3 with e1 e2 e3 e4 e5 e6 e7 e8 e9
  rw[e1,e2,e3,e4,e5,e6,nl b e7,nl l e8]at h4;rw[show a=0 from at0]at h4;exact h4
def awP:d9->Option (List GStmt×Int×Int):=fun s=>if s=awT then some ([awS 0],0,0)else none
theorem f76:Sound Tryz.prog GW B0G 12 (e2d fun x _=>awP x.1):=by
 have h:=d4m I1;refine⟨h.1,fun M w g vs x y z hG hB hfr hz=>h.2 M w g vs x y z hG hB hfr ?_⟩;have hz:awP x.1=some z:=hz;unfold awP at hz;split at hz
 ·rename_i he;have:U5 I1 x.1=some z:=by rw[he,f8s];exact hz
  exact this
 ·cases hz
end Go.Proofs.YtolpmfhiegpohaaGreatDoor
namespace Go.Proofs.YtolpmfhiegpohaaGreatDoor.Ax
open Go Go.RowKit
set_option maxRecDepth 100000
set_option maxHeartbeats 4000000
abbrev f1m(f:SV [.v .str,.v .str]->BV []->Option τ20):AF:={ps:=[.v .str,.v .str],bs:=[],rs:=[.v τ13],cs:=[],R:=List d9,out:=fun z=>((z,()),()),f:=f}
theorem x4:TyOk Tryz.prog 3 τ2:=⟨_,by kernel_rfl,Tryz.underlying3,rfl⟩
theorem F2:TyOk Tryz.prog 4 .bool:=⟨_,by kernel_rfl,Tryz.underlying4,rfl⟩
theorem a4N:TyOk Tryz.prog 5 .u8:=⟨_,by kernel_rfl,Tryz.underlying5,rfl⟩
theorem o8:TyOk Tryz.prog 9 .str:=⟨_,by kernel_rfl,Tryz.underlying9,rfl⟩
theorem a5v:TyOk Tryz.prog 23 τ2:=⟨_,by kernel_rfl,Tryz.underlying23,rfl⟩
theorem a6Z:TyOk Tryz.prog 28 (.clo 0 .un):=⟨_,by kernel_rfl,Tryz.underlying28,rfl⟩
theorem J1:TyOk Tryz.prog 30 τ4:=⟨_,by kernel_rfl,Tryz.underlying30,rfl⟩
theorem a5k:TyOk Tryz.prog 45 (.sl V4):=⟨_,by kernel_rfl,Tryz.underlying45,rfl⟩
theorem a4M:TyOk Tryz.prog 47 (.pr .str (.sl V4)):=⟨_,by kernel_rfl,Tryz.underlying47,rfl⟩
theorem a4I:TyOk Tryz.prog 50 (.sl (.pr .str .str)):=⟨_,by kernel_rfl,Tryz.underlying50,rfl⟩
theorem a6M:TyOk Tryz.prog 51 (.sl (.pr .str (.pr .bool (.sl .u8)))):=⟨_,by kernel_rfl,Tryz.underlying51,rfl⟩
theorem a1q:TyOk Tryz.prog 53 τ15:=⟨_,by kernel_rfl,Tryz.underlying53,rfl⟩
theorem a6K:TyOk Tryz.prog 54 (.sl τ25):=⟨_,by kernel_rfl,Tryz.underlying54,rfl⟩
theorem X7:TyOk Tryz.prog 56 V4:=⟨_,by kernel_rfl,Tryz.underlying56,rfl⟩
theorem J6:TyOk Tryz.prog 65 τ13:=⟨_,by kernel_rfl,Tryz.underlying65,rfl⟩
theorem a09:TyOk Tryz.prog 66 (.sl τ12):=⟨_,by kernel_rfl,Tryz.underlying66,rfl⟩
theorem a0D:TyOk Tryz.prog 67 (.sl τ3):=⟨_,by kernel_rfl,Tryz.underlying67,rfl⟩
theorem v6:TyOk Tryz.prog 69 τ3:=⟨_,by kernel_rfl,Tryz.underlying69,rfl⟩
theorem E3:TyOk Tryz.prog 71 τ17:=⟨_,by kernel_rfl,Tryz.underlying71,rfl⟩
theorem O6:TyOk Tryz.prog 75 τ12:=⟨_,by kernel_rfl,Tryz.underlying75,rfl⟩
theorem b0z:TyOk Tryz.prog 84 (.sl .u8):=⟨_,by kernel_rfl,Tryz.underlying84,rfl⟩
theorem a7R:TyOk Tryz.prog 99 (.np (.pr τ15 (.pr τ2 (.pr τ2 (.pr τ2 (.pr (.mp τ7) (.mp V4))))))):=⟨_,by kernel_rfl,Tryz.underlying99,rfl⟩
theorem Z2:TyOk Tryz.prog 100 (.mp τ7):=⟨_,by kernel_rfl,Tryz.underlying100,rfl⟩
theorem a1b:TyOk Tryz.prog 101 (.mp V4):=⟨_,by kernel_rfl,Tryz.underlying101,rfl⟩
theorem a3u:TyOk Tryz.prog 103 (.pr τ15 (.pr τ2 (.pr τ2 (.pr τ2 (.pr (.mp τ7) (.mp V4)))))):=⟨_,by kernel_rfl,Tryz.underlying103,rfl⟩
theorem a1a:TyOk Tryz.prog 104 τ7:=⟨_,by kernel_rfl,Tryz.underlying104,rfl⟩
theorem a14:TyOk Tryz.prog 107 (.np .un):=⟨_,by kernel_rfl,Tryz.underlying107,rfl⟩
theorem a3t:TyOk Tryz.prog 108 (.mp .bool):=⟨_,by kernel_rfl,Tryz.underlying108,rfl⟩
theorem a3v:TyOk Tryz.prog 110 (.pr (.np .un) (.pr (.mp .bool) (.pr .bool .bool))):=⟨_,by kernel_rfl,Tryz.underlying110,rfl⟩
theorem a1E:TyOk Tryz.prog 113 (.clo 0 .un):=⟨_,by kernel_rfl,Tryz.underlying113,rfl⟩
theorem a1c:TyOk Tryz.prog 131 (.pr .str .str):=⟨_,by kernel_rfl,Tryz.underlying131,rfl⟩
theorem c70:TyOk Tryz.prog 138 (.int .u64):=⟨_,by kernel_rfl,Tryz.underlying138,rfl⟩
theorem a2e:TyOk Tryz.prog 166 (.pr .str (.pr .bool (.sl .u8))):=⟨_,by kernel_rfl,Tryz.underlying166,rfl⟩
theorem a0E:TyOk Tryz.prog 168 (.mp τ22):=⟨_,by kernel_rfl,Tryz.underlying168,rfl⟩
theorem a34:TyOk Tryz.prog 170 (.pr (.np .un) (.pr (.mp τ22) τ13)):=⟨_,by kernel_rfl,Tryz.underlying170,rfl⟩
theorem a6L:TyOk Tryz.prog 171 (.sl τ25):=⟨_,by kernel_rfl,Tryz.underlying171,rfl⟩
theorem H3:TyOk Tryz.prog 173 (.rc .value):=⟨_,by kernel_rfl,Tryz.underlying173,rfl⟩
theorem a4J:TyOk Tryz.prog 177 (.np (.pr τ7 (.pr τ17 .bool))):=⟨_,by kernel_rfl,Tryz.underlying177,rfl⟩
theorem a0T:TyOk Tryz.prog 179 τ22:=⟨_,by kernel_rfl,Tryz.underlying179,rfl⟩
theorem a33:TyOk Tryz.prog 183 (.pr τ7 (.pr τ17 .bool)):=⟨_,by kernel_rfl,Tryz.underlying183,rfl⟩
theorem a6t:TyOk Tryz.prog 187 τ2:=⟨_,by kernel_rfl,Tryz.underlying187,rfl⟩
theorem c1C:TyOk Tryz.prog 195 (.int .u32):=⟨_,by kernel_rfl,Tryz.underlying195,rfl⟩
theorem c1D:TyOk Tryz.prog 197 (.int .u64):=⟨_,by kernel_rfl,Tryz.underlying197,rfl⟩
theorem a4X:TyOk Tryz.prog 231 (.mp (.rc .value)):=⟨_,by kernel_rfl,Tryz.underlying231,rfl⟩
theorem b2u:TyOk Tryz.prog 269 (.sl (.rc .value)):=⟨_,by kernel_rfl,Tryz.underlying269,rfl⟩
theorem a2d:TyOk Tryz.prog 276 τ25:=⟨_,by kernel_rfl,Tryz.underlying276,rfl⟩
theorem a2c:TyOk Tryz.prog 282 τ25:=⟨_,by kernel_rfl,Tryz.underlying282,rfl⟩
theorem a2F:TyOk Tryz.prog 284 (.clo 0 .un):=⟨_,by kernel_rfl,Tryz.underlying284,rfl⟩
theorem a5S:TyOk Tryz.prog 332 (.clo 0 .un):=⟨_,by kernel_rfl,Tryz.underlying332,rfl⟩
def tyT:TypeId->Option Ty:=fun T=>
 match T with
 |3=>some τ2
 |4=>some .bool
 |5=>some .u8
 |9=>some .str
 |23=>some τ2
 |28=>some (.clo 0 .un)
 |30=>some τ4
 |45=>some (.sl V4)
 |47=>some (.pr .str (.sl V4))
 |50=>some (.sl (.pr .str .str))
 |51=>some (.sl (.pr .str (.pr .bool (.sl .u8))))
 |53=>some τ15
 |54=>some (.sl τ25)
 |56=>some V4
 |65=>some τ13
 |66=>some (.sl τ12)
 |67=>some (.sl τ3)
 |69=>some τ3
 |71=>some τ17
 |75=>some τ12
 |84=>some (.sl .u8)
 |99=>some (.np (.pr τ15 (.pr τ2 (.pr τ2 (.pr τ2 (.pr (.mp τ7) (.mp V4)))))))
 |100=>some (.mp τ7)
 |101=>some (.mp V4)
 |103=>some (.pr τ15 (.pr τ2 (.pr τ2 (.pr τ2 (.pr (.mp τ7) (.mp V4))))))
 |104=>some τ7
 |107=>some (.np .un)
 |108=>some (.mp .bool)
 |110=>some (.pr (.np .un) (.pr (.mp .bool) (.pr .bool .bool)))
 |113=>some (.clo 0 .un)
 |131=>some (.pr .str .str)
 |138=>some (.int .u64)
 |166=>some (.pr .str (.pr .bool (.sl .u8)))
 |168=>some (.mp τ22)
 |170=>some (.pr (.np .un) (.pr (.mp τ22) τ13))
 |171=>some (.sl τ25)
 |173=>some (.rc .value)
 |177=>some (.np (.pr τ7 (.pr τ17 .bool)))
 |179=>some τ22
 |183=>some (.pr τ7 (.pr τ17 .bool))
 |187=>some τ2
 |195=>some (.int .u32)
 |197=>some (.int .u64)
 |231=>some (.mp (.rc .value))
 |269=>some (.sl (.rc .value))
 |276=>some τ25
 |282=>some τ25
 |284=>some (.clo 0 .un)
 |332=>some (.clo 0 .un)
 |_=>none
theorem b2v:∀T t,tyT T=some t->TyOk Tryz.prog T t:=by
 intro T t h;unfold tyT at h;split at h
 ·cases h;exact x4
 ·cases h;exact F2
 ·cases h;exact a4N
 ·cases h;exact o8
 ·cases h;exact a5v
 ·cases h;exact a6Z
 ·cases h;exact J1
 ·cases h;exact a5k
 ·cases h;exact a4M
 ·cases h;exact a4I
 ·cases h;exact a6M
 ·cases h;exact a1q
 ·cases h;exact a6K
 ·cases h;exact X7
 ·cases h;exact J6
 ·cases h;exact a09
 ·cases h;exact a0D
 ·cases h;exact v6
 ·cases h;exact E3
 ·cases h;exact O6
 ·cases h;exact b0z
 ·cases h;exact a7R
 ·cases h;exact Z2
 ·cases h;exact a1b
 ·cases h;exact a3u
 ·cases h;exact a1a
 ·cases h;exact a14
 ·cases h;exact a3t
 ·cases h;exact a3v
 ·cases h;exact a1E
 ·cases h;exact a1c
 ·cases h;exact c70
 ·cases h;exact a2e
 ·cases h;exact a0E
 ·cases h;exact a34
 ·cases h;exact a6L
 ·cases h;exact H3
 ·cases h;exact a4J
 ·cases h;exact a0T
 ·cases h;exact a33
 ·cases h;exact a6t
 ·cases h;exact c1C
 ·cases h;exact c1D
 ·cases h;exact a4X
 ·cases h;exact b2u
 ·cases h;exact a2d
 ·cases h;exact a2c
 ·cases h;exact a2F
 ·cases h;exact a5S
 ·cases h
def elT:TypeId->Option (TypeId×Ty):=fun T=>
 match T with
 |30=>some (71,τ17)
 |45=>some (56,V4)
 |50=>some (131,(.pr .str .str))
 |51=>some (166,(.pr .str (.pr .bool (.sl .u8))))
 |54=>some (282,τ25)
 |65=>some (9,.str)
 |66=>some (75,τ12)
 |67=>some (69,τ3)
 |84=>some (5,.u8)
 |171=>some (276,τ25)
 |269=>some (173,(.rc .value))
 |_=>none
theorem b1U:∀T e t,elT T=some (e,t)->ElOk Tryz.prog T e t:=by
 intro T e t h;unfold elT at h;split at h
 ·cases h;exact⟨E3,224,ElemT.mk_ Tryz.underlying30 (z:=mkV τ17 (H5 τ17)) (by kernel_rfl) rfl (by decide) (by decide),by decide⟩
 ·cases h;exact⟨X7,56,ElemT.mk_ Tryz.underlying45 (z:=mkV V4 (H5 V4)) (by kernel_rfl) rfl (by decide) (by decide),by decide⟩
 ·cases h;exact⟨a1c,32,ElemT.mk_ Tryz.underlying50 (z:=mkV (.pr .str .str) (H5 (.pr .str .str))) (by kernel_rfl) rfl (by decide) (by decide),by decide⟩
 ·cases h;exact⟨a2e,48,ElemT.mk_ Tryz.underlying51 (z:=mkV (.pr .str (.pr .bool (.sl .u8))) (H5 (.pr .str (.pr .bool (.sl .u8))))) (by kernel_rfl) rfl (by decide) (by decide),by decide⟩
 ·cases h;exact⟨a2c,96,ElemT.mk_ Tryz.underlying54 (z:=mkV τ25 (H5 τ25)) (by kernel_rfl) rfl (by decide) (by decide),by decide⟩
 ·cases h;exact⟨o8,16,ElemT.mk_ Tryz.underlying65 (z:=mkV .str (H5 .str)) (by kernel_rfl) rfl (by decide) (by decide),by decide⟩
 ·cases h;exact⟨O6,96,ElemT.mk_ Tryz.underlying66 (z:=mkV τ12 (H5 τ12)) (by kernel_rfl) rfl (by decide) (by decide),by decide⟩
 ·cases h;exact⟨v6,80,ElemT.mk_ Tryz.underlying67 (z:=mkV τ3 (H5 τ3)) (by kernel_rfl) rfl (by decide) (by decide),by decide⟩
 ·cases h;exact⟨a4N,1,ElemT.mk_ Tryz.underlying84 (z:=mkV .u8 (H5 .u8)) (by kernel_rfl) rfl (by decide) (by decide),by decide⟩
 ·cases h;exact⟨a2d,96,ElemT.mk_ Tryz.underlying171 (z:=mkV τ25 (H5 τ25)) (by kernel_rfl) rfl (by decide) (by decide),by decide⟩
 ·cases h;exact⟨H3,80,ElemT.mk_ Tryz.underlying269 (z:=mkV (.rc .value) (H5 (.rc .value))) (by kernel_rfl) rfl (by decide) (by decide),by decide⟩
 ·cases h
def b4m:TypeId->Nat->Option (Nat×Ty):=fun T f=>
 match T,f with
 |47,0=>some (0,.str)
 |47,1=>some (1,(.sl V4))
 |53,0=>some (0,.str)
 |53,1=>some (1,.str)
 |53,2=>some (2,(.sl (.pr .str .str)))
 |53,3=>some (3,(.sl (.pr .str (.pr .bool (.sl .u8)))))
 |56,0=>some (0,.str)
 |56,1=>some (1,.str)
 |56,2=>some (2,(.sl τ25))
 |69,0=>some (0,τ2)
 |69,1=>some (1,.str)
 |69,2=>some (2,τ2)
 |69,3=>some (3,τ13)
 |69,4=>some (4,(.sl τ3))
 |71,0=>some (0,τ2)
 |71,1=>some (1,.str)
 |71,2=>some (2,.str)
 |71,3=>some (3,τ13)
 |71,4=>some (4,(.sl τ12))
 |71,5=>some (5,τ3)
 |71,6=>some (10,τ4)
 |71,7=>some (11,τ4)
 |71,8=>some (12,τ2)
 |75,0=>some (0,.str)
 |75,1=>some (1,τ3)
 |103,0=>some (0,τ15)
 |103,1=>some (4,τ2)
 |103,2=>some (5,τ2)
 |103,3=>some (6,τ2)
 |103,4=>some (7,(.mp τ7))
 |103,5=>some (8,(.mp V4))
 |110,0=>some (0,(.np .un))
 |110,1=>some (1,(.mp .bool))
 |110,2=>some (2,.bool)
 |110,3=>some (3,.bool)
 |131,0=>some (0,.str)
 |131,1=>some (1,.str)
 |166,0=>some (0,.str)
 |166,1=>some (1,.bool)
 |166,2=>some (2,(.sl .u8))
 |170,0=>some (0,(.np .un))
 |170,1=>some (1,(.mp τ22))
 |170,2=>some (2,τ13)
 |173,0=>some (0,τ2)
 |173,1=>some (1,.str)
 |173,2=>some (2,τ2)
 |173,3=>some (3,τ13)
 |173,4=>some (4,(.sl τ25))
 |179,0=>some (0,(.rc .value))
 |179,1=>some (5,(.np (.pr τ7 (.pr τ17 .bool))))
 |183,0=>some (0,τ7)
 |183,1=>some (1,τ17)
 |183,2=>some (14,.bool)
 |276,0=>some (0,.str)
 |276,1=>some (1,(.rc .value))
 |282,0=>some (0,.str)
 |282,1=>some (1,(.rc .value))
 |_,_=>none
theorem a8h:∀T f off t,b4m T f=some (off,t)->b7p Tryz.prog T f off t:=by
 intro T f off t h;unfold b4m at h;split at h
 ·cases h;exact⟨_,_,Tryz.underlying47,rfl,rfl,o8,by decide⟩
 ·cases h;exact⟨_,_,Tryz.underlying47,rfl,rfl,a5k,by decide⟩
 ·cases h;exact⟨_,_,Tryz.underlying53,rfl,rfl,o8,by decide⟩
 ·cases h;exact⟨_,_,Tryz.underlying53,rfl,rfl,o8,by decide⟩
 ·cases h;exact⟨_,_,Tryz.underlying53,rfl,rfl,a4I,by decide⟩
 ·cases h;exact⟨_,_,Tryz.underlying53,rfl,rfl,a6M,by decide⟩
 ·cases h;exact⟨_,_,Tryz.underlying56,rfl,rfl,o8,by decide⟩
 ·cases h;exact⟨_,_,Tryz.underlying56,rfl,rfl,o8,by decide⟩
 ·cases h;exact⟨_,_,Tryz.underlying56,rfl,rfl,a6K,by decide⟩
 ·cases h;exact⟨_,_,Tryz.underlying69,rfl,rfl,x4,by decide⟩
 ·cases h;exact⟨_,_,Tryz.underlying69,rfl,rfl,o8,by decide⟩
 ·cases h;exact⟨_,_,Tryz.underlying69,rfl,rfl,x4,by decide⟩
 ·cases h;exact⟨_,_,Tryz.underlying69,rfl,rfl,J6,by decide⟩
 ·cases h;exact⟨_,_,Tryz.underlying69,rfl,rfl,a0D,by decide⟩
 ·cases h;exact⟨_,_,Tryz.underlying71,rfl,rfl,x4,by decide⟩
 ·cases h;exact⟨_,_,Tryz.underlying71,rfl,rfl,o8,by decide⟩
 ·cases h;exact⟨_,_,Tryz.underlying71,rfl,rfl,o8,by decide⟩
 ·cases h;exact⟨_,_,Tryz.underlying71,rfl,rfl,J6,by decide⟩
 ·cases h;exact⟨_,_,Tryz.underlying71,rfl,rfl,a09,by decide⟩
 ·cases h;exact⟨_,_,Tryz.underlying71,rfl,rfl,v6,by decide⟩
 ·cases h;exact⟨_,_,Tryz.underlying71,rfl,rfl,J1,by decide⟩
 ·cases h;exact⟨_,_,Tryz.underlying71,rfl,rfl,J1,by decide⟩
 ·cases h;exact⟨_,_,Tryz.underlying71,rfl,rfl,x4,by decide⟩
 ·cases h;exact⟨_,_,Tryz.underlying75,rfl,rfl,o8,by decide⟩
 ·cases h;exact⟨_,_,Tryz.underlying75,rfl,rfl,v6,by decide⟩
 ·cases h;exact⟨_,_,Tryz.underlying103,rfl,rfl,a1q,by decide⟩
 ·cases h;exact⟨_,_,Tryz.underlying103,rfl,rfl,x4,by decide⟩
 ·cases h;exact⟨_,_,Tryz.underlying103,rfl,rfl,x4,by decide⟩
 ·cases h;exact⟨_,_,Tryz.underlying103,rfl,rfl,x4,by decide⟩
 ·cases h;exact⟨_,_,Tryz.underlying103,rfl,rfl,Z2,by decide⟩
 ·cases h;exact⟨_,_,Tryz.underlying103,rfl,rfl,a1b,by decide⟩
 ·cases h;exact⟨_,_,Tryz.underlying110,rfl,rfl,a14,by decide⟩
 ·cases h;exact⟨_,_,Tryz.underlying110,rfl,rfl,a3t,by decide⟩
 ·cases h;exact⟨_,_,Tryz.underlying110,rfl,rfl,F2,by decide⟩
 ·cases h;exact⟨_,_,Tryz.underlying110,rfl,rfl,F2,by decide⟩
 ·cases h;exact⟨_,_,Tryz.underlying131,rfl,rfl,o8,by decide⟩
 ·cases h;exact⟨_,_,Tryz.underlying131,rfl,rfl,o8,by decide⟩
 ·cases h;exact⟨_,_,Tryz.underlying166,rfl,rfl,o8,by decide⟩
 ·cases h;exact⟨_,_,Tryz.underlying166,rfl,rfl,F2,by decide⟩
 ·cases h;exact⟨_,_,Tryz.underlying166,rfl,rfl,b0z,by decide⟩
 ·cases h;exact⟨_,_,Tryz.underlying170,rfl,rfl,a14,by decide⟩
 ·cases h;exact⟨_,_,Tryz.underlying170,rfl,rfl,a0E,by decide⟩
 ·cases h;exact⟨_,_,Tryz.underlying170,rfl,rfl,J6,by decide⟩
 ·cases h;exact⟨_,_,Tryz.underlying173,rfl,rfl,x4,by decide⟩
 ·cases h;exact⟨_,_,Tryz.underlying173,rfl,rfl,o8,by decide⟩
 ·cases h;exact⟨_,_,Tryz.underlying173,rfl,rfl,x4,by decide⟩
 ·cases h;exact⟨_,_,Tryz.underlying173,rfl,rfl,J6,by decide⟩
 ·cases h;exact⟨_,_,Tryz.underlying173,rfl,rfl,a6L,by decide⟩
 ·cases h;exact⟨_,_,Tryz.underlying179,rfl,rfl,H3,by decide⟩
 ·cases h;exact⟨_,_,Tryz.underlying179,rfl,rfl,a4J,by decide⟩
 ·cases h;exact⟨_,_,Tryz.underlying183,rfl,rfl,a1a,by decide⟩
 ·cases h;exact⟨_,_,Tryz.underlying183,rfl,rfl,E3,by decide⟩
 ·cases h;exact⟨_,_,Tryz.underlying183,rfl,rfl,F2,by decide⟩
 ·cases h;exact⟨_,_,Tryz.underlying276,rfl,rfl,o8,by decide⟩
 ·cases h;exact⟨_,_,Tryz.underlying276,rfl,rfl,H3,by decide⟩
 ·cases h;exact⟨_,_,Tryz.underlying282,rfl,rfl,o8,by decide⟩
 ·cases h;exact⟨_,_,Tryz.underlying282,rfl,rfl,H3,by decide⟩
 ·cases h
theorem b18:∀T e,tyT T=some (.mp e)->d4B Tryz.prog T e:=by
 intro T e h;unfold tyT at h;split at h
 iterate 22(cases h)
 ·cases h;exact⟨_,_,Tryz.underlying100,Tryz.underlying9,a1a⟩
 ·cases h;exact⟨_,_,Tryz.underlying101,Tryz.underlying9,X7⟩
 iterate 3(cases h)
 ·cases h;exact⟨_,_,Tryz.underlying108,Tryz.underlying9,F2⟩
 iterate 5(cases h)
 ·cases h;exact⟨_,_,Tryz.underlying168,Tryz.underlying9,a0T⟩
 iterate 9(cases h)
 ·cases h;exact⟨_,_,Tryz.underlying231,Tryz.underlying9,H3⟩
 iterate 6(cases h)
theorem a8d:∀T t,tyT T=some t->t.isAgg=true->∃fs places,Tryz.prog.underlying T=some (.struct fs)/\fs.toList.mapM (fun f=>(Tryz.prog.info? f.type).map fun i=>(f.offset,i.size))=some places:=by
 intro T t h ha;unfold tyT at h;split at h
 iterate 8(cases h;cases ha)
 ·exact⟨_,[(0,1),(1,1)],Tryz.underlying47,by kernel_rfl⟩
 ·cases h;cases ha
 ·cases h;cases ha
 ·exact⟨_,[(0,1),(1,1),(2,1),(3,1)],Tryz.underlying53,by kernel_rfl⟩
 ·cases h;cases ha
 ·exact⟨_,[(0,1),(1,1),(2,1)],Tryz.underlying56,by kernel_rfl⟩
 iterate 3(cases h;cases ha)
 ·exact⟨_,[(0,1),(1,1),(2,1),(3,1),(4,1)],Tryz.underlying69,by kernel_rfl⟩
 ·exact⟨_,[(0,1),(1,1),(2,1),(3,1),(4,1),(5,5),(10,1),(11,1),(12,1)],Tryz.underlying71,by kernel_rfl⟩
 ·exact⟨_,[(0,1),(1,5)],Tryz.underlying75,by kernel_rfl⟩
 iterate 4(cases h;cases ha)
 ·exact⟨_,[(0,4),(4,1),(5,1),(6,1),(7,1),(8,1)],Tryz.underlying103,by kernel_rfl⟩
 iterate 3(cases h;cases ha)
 ·exact⟨_,[(0,1),(1,1),(2,1),(3,1)],Tryz.underlying110,by kernel_rfl⟩
 ·cases h;cases ha
 ·exact⟨_,[(0,1),(1,1)],Tryz.underlying131,by kernel_rfl⟩
 ·cases h;cases ha
 ·exact⟨_,[(0,1),(1,1),(2,1)],Tryz.underlying166,by kernel_rfl⟩
 ·cases h;cases ha
 ·exact⟨_,[(0,1),(1,1),(2,1)],Tryz.underlying170,by kernel_rfl⟩
 ·cases h;cases ha
 ·exact⟨_,[(0,1),(1,1),(2,1),(3,1),(4,1)],Tryz.underlying173,by kernel_rfl⟩
 ·cases h;cases ha
 ·exact⟨_,[(0,5),(5,1)],Tryz.underlying179,by kernel_rfl⟩
 ·exact⟨_,[(0,1),(1,13),(14,1)],Tryz.underlying183,by kernel_rfl⟩
 iterate 5(cases h;cases ha)
 ·exact⟨_,[(0,1),(1,5)],Tryz.underlying276,by kernel_rfl⟩
 ·exact⟨_,[(0,1),(1,5)],Tryz.underlying282,by kernel_rfl⟩
 ·cases h;cases ha
 ·cases h;cases ha
 ·cases h
theorem b2g:∀T t,tyT T=some t->a5b t=true->(Tryz.prog.info? (Tryz.prog.pointee T)).isSome=true:=by
 intro T t h ha;unfold tyT at h;split at h
 iterate 21(cases h;cases ha)
 ·kernel_rfl
 iterate 3(cases h;cases ha)
 ·kernel_rfl
 ·kernel_rfl
 iterate 10(cases h;cases ha)
 ·kernel_rfl
 iterate 11(cases h;cases ha)
 ·cases h
theorem a3R:CmpOk Tryz.prog 131 (.pr .str .str):=CmpOk.flat rfl rfl Tryz.underlying131 (by kernel_rfl) (by kernel_rfl) (.cons rfl (by decide) (.str Tryz.underlying9) (.one rfl (by decide) (.str Tryz.underlying9)))
def b4b:TypeId->Option Ty:=fun T=>
 match T with
 |131=>some (.pr .str .str)
 |_=>none
theorem a8f:∀T t,b4b T=some t->CmpOk Tryz.prog T t:=by
 intro T t h;unfold b4b at h;split at h
 ·cases h;exact a3R
 ·cases h
def mkE(h:Nat->Hint)(fn:FuncId->Option Tmp->Option AF)(exq:Nat->Bool)(live:FuncId->Bool):Env:={ty:=tyT,el:=elT,fld:=b4m,cmp:=b4b,fn:=fn,hint:=h,exq:=exq,live:=live}
theorem P8(hh:Nat->Hint)(fn:FuncId->Option Tmp->Option AF)(exq:Nat->Bool)(live:FuncId->Bool)(h:∀f q F,fn f q=some F->Sound Tryz.prog GW B0G f F):EnvOk Tryz.prog GW B0G (mkE hh fn exq live):=
 {ty:=b2v,el:=b1U,fld:=a8h,mp:=b18,bld:=a8d,ptr:=b2g,cmp:=a8f,fn:=h,stable:=a2I,mixed:=by kernel_rfl}
noncomputable def f9H:List (FuncId×Func):=[(8,Tryz.f8),(18,Tryz.f18),(40,Tryz.f40),(41,Tryz.f41),(42,Tryz.f42),(43,Tryz.f43),(64,Tryz.f64),(65,Tryz.f65),(66,Tryz.f66),(67,Tryz.f67),(68,Tryz.f68),(69,Tryz.f69),(70,Tryz.f70),(116,Tryz.f116),(118,Tryz.f118),(120,Tryz.f120),(123,Tryz.f123),(131,Tryz.f131),(132,Tryz.f132),(142,Tryz.f142),(163,Tryz.f163),(164,Tryz.f164),(165,Tryz.f165),(168,Tryz.f168),(181,Tryz.f181),(214,Tryz.f214),(215,Tryz.f215),(218,Tryz.f218),(220,Tryz.f220),(255,Tryz.f255),(256,Tryz.f256),(285,Tryz.f285),(293,Tryz.f293)]
noncomputable def f9G:FuncId->Option Func:=r7 f9H
theorem f8l:∀f fn,f9G f=some fn->Tryz.prog.funcs[f]? = some fn/\∀(args:Array Value) (w:World),(callFunc f args).run Tryz.prog w = .ok (.enter f args) w:=
 b7M f9H ⟨⟨Tryz.func8,Tryz.call8⟩,
 ⟨Tryz.func18,Tryz.call18⟩,
 ⟨Tryz.func40,Tryz.call40⟩,
 ⟨Tryz.func41,Tryz.call41⟩,
 ⟨Tryz.func42,Tryz.call42⟩,
 ⟨Tryz.func43,Tryz.call43⟩,
 ⟨Tryz.func64,Tryz.call64⟩,
 ⟨Tryz.func65,Tryz.call65⟩,
 ⟨Tryz.func66,Tryz.call66⟩,
 ⟨Tryz.func67,Tryz.call67⟩,
 ⟨Tryz.func68,Tryz.call68⟩,
 ⟨Tryz.func69,Tryz.call69⟩,
 ⟨Tryz.func70,Tryz.call70⟩,
 ⟨Tryz.func116,Tryz.call116⟩,
 ⟨Tryz.func118,Tryz.call118⟩,
 ⟨Tryz.func120,Tryz.call120⟩,
 ⟨Tryz.func123,Tryz.call123⟩,
 ⟨Tryz.func131,Tryz.call131⟩,
 ⟨Tryz.func132,Tryz.call132⟩,
 ⟨Tryz.func142,Tryz.call142⟩,
 ⟨Tryz.func163,Tryz.call163⟩,
 ⟨Tryz.func164,Tryz.call164⟩,
 ⟨Tryz.func165,Tryz.call165⟩,
 ⟨Tryz.func168,Tryz.call168⟩,
 ⟨Tryz.func181,Tryz.call181⟩,
 ⟨Tryz.func214,Tryz.call214⟩,
 ⟨Tryz.func215,Tryz.call215⟩,
 ⟨Tryz.func218,Tryz.call218⟩,
 ⟨Tryz.func220,Tryz.call220⟩,
 ⟨Tryz.func255,Tryz.call255⟩,
 ⟨Tryz.func256,Tryz.call256⟩,
 ⟨Tryz.func285,Tryz.call285⟩,
 ⟨Tryz.func293,Tryz.call293⟩,trivial⟩
def f9g:FuncId->Bool:=fun f=>
 match f with
 |69=>true
 |123=>true
 |255=>true
 |285=>true
 |_=>false
def f9T:FuncId->Bool:=fun f=>
 match f with
 |168=>true
 |_=>false
def f9S:FuncId->Nat->Bool:=fun f i=>
 match f with
 |_=>false
def f9Q:FuncId->Bool:=fun f=>
 match f with
 |_=>false
noncomputable def g0q:Call':={fn:=f9G,rows:=f9g,frz:=f9T,exq:=f9S,dat:=f9Q}
noncomputable def f8m:FuncId->Option Tmp->Option AF:=fun f _=>
 match f with
 |115=>some (f1m fun x _=>strings_Split x.1 x.2.1)
 |12=>some (e2d fun x _=>awP x.1)
 |135=>some (e2c fun x _=>G5 300 x.1)
 |144=>some (f0a fun x _=>y8 300 x.1)
 |_=>none
theorem f8n:∀f q F,f8m f q=some F->Sound Tryz.prog GW B0G f F:=by
 intro f q F h;unfold f8m at h;split at h
 ·cases h;exact e5t
 ·cases h;exact f76
 ·cases h;exact c2i 300
 ·cases h;exact e5p 300
 ·cases h
noncomputable def f9F:Env:=(mkE (fun _=>B8) f8m (fun _=>false) (fun _=>true)).rawE
theorem f8k:EnvOk Tryz.prog GW B0G f9F:=d5b (P8 _ _ _ _ f8n)
noncomputable def Ax_E:Env:=d7d f9F g0q 100 40
theorem Ax_E_ok:EnvOk Tryz.prog GW B0G Ax_E:=c0O f8k f8l _ _
end Go.Proofs.YtolpmfhiegpohaaGreatDoor.Ax
namespace Go.Proofs.YtolpmfhiegpohaaGreatDoor
open Go Go.RowKit
set_option maxRecDepth 100000
theorem f9V:c85 Ax.Ax_E 100 Tryz.f8=some true:=by kernel_rfl
def a4r:Option Bool:=some true
theorem f8d:Sound Tryz.prog GW B0G 8 ⟨[],[],[.v .bool],[],Bool,fun z=>((z,()),()),fun _ _=>a4r⟩:=c0o Ax.Ax_E_ok Tryz.func8 Tryz.call8 _ f9V
end Go.Proofs.YtolpmfhiegpohaaGreatDoor
namespace Go.Proofs.YtolpmfhiegpohaaGreatDoor
open Go Go.RowKit
set_option maxRecDepth 100000
set_option linter.unusedVariables false
noncomputable section
def X5(N:Nat)(x0:List GStmt):Option Bool:=j8 (U6 N x0) fun t9=>br (t9.2 !=(0:Int)) (br (t9.1==([]:d9)) (j8 (a4r) fun t17=>some t17) (some false)) (j8 (U5 N t9.1) fun t21=>br (t21.2.2==(0:Int)) (br (t21.2.1==(0:Int)) (j8 (H2 N N x0 t21.1 false) fun t34=>br (t34) (j8 (a4r) fun t37=>some t37) (some false)) (some false)) (some false))
abbrev e0y:=sgM [.v τ4] [] [.v .bool] [] (Bool) fun z=>((z,()),())
noncomputable abbrev e0w(N:Nat):AF:=e0y fun x _=>X5 N x.1
theorem d0x(N:Nat):Snd 5 (e0w N):=
 a4W h0 [(8,f90 fun _ _=>a4r),(12,e2d fun x _=>U5 N x.1),(13,e1T fun x _=>H2 N N x.1 x.2.1 x.2.2.1),(15,a78 fun x _=>U6 N x.1)] (Q3 (f8d) (Q3 (d4m N) (Q3 (b6B N N) (Q3 (c2j N) lkn)))) Tryz.func5 rfl Tryz.call5 (e0w N) (fun x _=>x.1) (fun _ _=>rfl) N (fun _ _=>by kernel_rfl) rfl
end
end Go.Proofs.YtolpmfhiegpohaaGreatDoor
namespace Go.Proofs.YtolpmfhiegpohaaGreatDoor
set_option linter.unusedVariables false
set_option linter.unusedSimpArgs false
open Go Go.RowKit
theorem a4x(l:List GStmt)(_:Fit τ4 l)(hb:a0z rbC τ4 l<=1048576):∃N,X5 N l=some true:=by
 refine⟨I1,?_⟩;have hN:I1<=I1:=Nat.le_refl _;have hb:(l.map GStmt.bulk).sum+1<=1048576:=hb;have haw:a4r=some true:=rfl;have hl:l.length<=1000000/\∀s∈l,ZS zz s:=by
  have h15:∀m:List GStmt,15*m.length<=(m.map GStmt.bulk).sum:=fun m=>by
   induction m with
   |nil=>simp
   |cons s m ih=>have:=c5L s;rw[List.map_cons,List.sum_cons,List.length_cons];omega
  have:=h15 l;exact⟨by omega,fun s hs=>by have:=a5f GStmt.bulk hs;exact b9R zz s (by omega) (by unfold zz;omega)⟩
 obtain⟨c,h1,h2⟩:=c9H hN hl.1 hl.2;unfold X5;rcases h2 with⟨h0,hp⟩|⟨h0,hw,hp⟩
 ·rw[hp,a8];simp only;rw[show(c !=0)=true by simpa using h0,d7,beq_self_eq_true,d7,haw,a8]
 ·rw[hp (by have:=c7F hw;omega),a8];by_cases h5:(Y6 l 0).length>50000
  ·rw[if_pos h5];simp only;rw[show((2:Int) !=0)=true by decide,d7,beq_self_eq_true,d7,haw,a8]
  ·rw[if_neg h5];subst h0;obtain⟨g1,g2,m,g3,g4,g5,g6,g7⟩:=again hN hw (by omega) h1;simp only[bne_self_eq_false,d6];rw[g6,a8];simp only[beq_self_eq_true,d7];rw[d5n hN g1 g2 g5.symm,a8,d7,haw,a8]
end Go.Proofs.YtolpmfhiegpohaaGreatDoor
