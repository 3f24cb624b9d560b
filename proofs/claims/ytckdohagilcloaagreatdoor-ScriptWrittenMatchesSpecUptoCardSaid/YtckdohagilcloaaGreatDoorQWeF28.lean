/- % -/
import Derived.Test.YtckdohagilcloaaGreatDoorQBmSt
namespace Go.Proofs.YtckdohagilcloaaGreatDoor
open Go Go.RowKit
set_option maxRecDepth 100000
set_option linter.unusedVariables false
noncomputable section
variable(N:Nat)
def a4i(_N:Nat)(n7:ρ26)(c:Int)(k0:τ25->Option GValue)(self:Int->τ25->Option GValue)(a:Int)(b:List τ9):Option GValue:=br (decide (a<c)) (br (decide (0<=a/\a<(b.length:Int))) (k8 (n8 b a) fun e=>k8 (n7 e.2) fun g=>br (decide (0<=a/\a<(b.length:Int))) (k8 (n8 b a) fun u=>self (IntKind.i64.wrap (a+1)) (a3F b a (u.1,g))) none) none) (k0 b)
def b94(N:Nat)(n7:ρ26)(a:Int)(k0:τ25->Option GValue):Nat->Int->τ25->Option GValue|0,_,_=>none|n+1,b,c=>a4i N n7 a k0 (b94 N n7 a k0 n) b c
def a0I(n7:ρ26)(a:GValue):Option GValue:=k8 (G1 N a.list) fun c=>k8 (S3 N a.cases) fun b=>b94 N n7 (b.length:Int) (fun e=>some (GValue.mk a.kind a.text a.number c e)) N 0 b
abbrev e74:=E3 [.v τ18] [] [.v τ18] [] (GValue) fun z=>((z,()),())
abbrev d6z(n7:ρ26):AF:=e74 fun x _=>a0I N n7 x.1
abbrev d6A:SV [.v τ18]->BV []->GValue:=fun x _=>x.1
def c5V(n7:ρ26):FuncId->Option Tmp->Option AF:=fun f _=>P0 [(209,b5f fun x _=>n7 x.1),(224,e1Z N),(242,e82 N)] f
theorem d1U(n7:ρ26)(a49:Sound Tryz.prog GW x6 209 (b5f fun x y=>n7 x.1)):∀f q F,c5V N n7 f q=some F->Sound Tryz.prog GW x6 f F:=fun _ _ _ h=>r9 h (u4 (a49) (u4 (c3d N) (u4 (d8k N) F1)))
def e4k:Nat->Hint:=fun i=>
 match i with
 |0=>⟨[],[1,2,14,15],[1001,1002,100600,100900],[1,2],[1001,1002,100600,100900],[]⟩
 |100001=>⟨[1001],[],[],[],[],[]⟩
 |100005=>⟨[1001,100600,100900],[],[],[],[],[]⟩
 |_=>o5
abbrev c7K(n7:ρ26):Env:=M5 e4k (c5V N n7) (fun _=>false) (fun _=>false)
abbrev f1P(n7:ρ26):=B4 (c7K N n7) Tryz.f209 (d6z N n7) d6A
noncomputable abbrev e73:Code:=P9 (m8 Tryz.f209) [true,true,false,true,false,false]
abbrev d1T:List (Nat×Sl):=[(1,.box 1001 0),(2,.box 1002 0),(14,V0),(15,V0)]
abbrev b1d:List (Nat×Sb):=[(1001,.cells [V0,V1,V0,.row 100600,.row 100900]),(1002,.cells [V0,V1,V0,.nilS,.nilS]),(100600,.row 9 .str true),(100900,.row 82 τ12 true)]
def b41(y:HV b1d):St:=⟨32,[(1,.box 1001 0),(2,.box 1002 0)],unH b1d y⟩
def c3e(n7:ρ26):T9 (GValue) d1T b1d:=fun K n x y=>b94 N n7 x.2.2.1 (fun a=>K 0 (b41 (y.1,y.2.1,y.2.2.1,a,y.2.2.2.2))) n x.2.2.2.1 y.2.2.2.1
def d6y(n7:ρ26):Nat->Code->St->(Ex->St->Option GValue)->Option GValue:=fun i c=>
 match i with
 |0=>U4 (c7K N n7) N 32 (c3e N n7) 0 c
 |i=>LpD (c7K N n7) N i c
theorem e12(n7:ρ26):B2 (d6y N n7) (c7K N n7) N (f1P N n7) 0 e73:=
 o0 (c3e N n7) (fun K f x y=>a4i N n7 x.2.2.1 (fun a=>K 0 (b41 (y.1,y.2.1,y.2.2.1,a,y.2.2.2.2))) (fun b c=>f (x.1,x.2.1,x.2.2.1,b,x.2.2.2.2) (y.1,y.2.1,y.2.2.1,c,y.2.2.2.2)) x.2.2.2.1 y.2.2.2.1)
theorem d1V(n7:ρ26)(a49:Sound Tryz.prog GW x6 209 (b5f fun x y=>n7 x.1)):Sound Tryz.prog GW x6 209 (d6z N n7):=
 a0l (t6 e4k (c5V N n7) _ _ (d1U N n7 a49)) Tryz.func209 Tryz.call209 (d6z N n7) d6A N (d6y N n7) (P5 (e12 N n7) U6)
def R7(N:Nat):Nat->GValue->Option (GValue)|0=>fun _=>none|d+1=>a0I N (R7 N d)
theorem b71(N:Nat):∀d,Sound Tryz.prog GW x6 209 (b5f fun x y=>R7 N d x.1)
 |0=>Sound.never Tryz.call209 (fun _ _=>rfl)
 |d+1=>d1V N (R7 N d) (b71 N d)
def b1n(k0:τ25->Option τ16)(self:τ25->τ25->Option τ16)(i1056 b:List τ9):Option τ16:=br (i1056.isEmpty) (k0 b) (b8D i1056 fun p57 q57=>br (!(p57.1==[110,97,109,101])) (br (!(p57.1==[107,105,110,100])) (k8 (R7 N N (GValue.mk p57.2.kind p57.2.text p57.2.number p57.2.list p57.2.cases)) fun a=>br (Zf (b.length + [(p57.1,GValue.mk a.kind a.text a.number a.list a.cases)].length) τ12) (self q57 (b ++ [(p57.1,GValue.mk a.kind a.text a.number a.list a.cases)])) none) (self q57 b)) (self q57 b))
def c8g(N:Nat)(k0:τ25->Option τ16):Nat->τ25->τ25->Option τ16|0,_,_=>none|n+1,i1056,a=>b1n N k0 (c8g N k0 n) i1056 a
def H2(a:List τ9)(b c:d3)(e:List R2)(g:List τ7)(l m o:Int)(m1:τ43)(m2:List τ4):Option τ16:=br (!((a0X a [110,97,109,101]).isSome)) (some (9,b,c,e,g,l,m,o,m1,m2)) (br (!((a0X a [107,105,110,100]).isSome)) (some (9,b,c,e,g,l,m,o,m1,m2)) (br ((((a0X a [110,97,109,101]).getD (zero τ18)).kind) !=1) (some (6,b,c,e,g,l,m,o,m1,m2)) (br ((((a0X a [107,105,110,100]).getD (zero τ18)).kind) !=1) (some (6,b,c,e,g,l,m,o,m1,m2)) (br ((a0X m2 (((a0X a [110,97,109,101]).getD (zero τ18)).text)).isSome) (some (7,b,c,e,g,l,m,o,m1,m2)) (c8g N (fun r=>k8 (N6 () r) fun p=>k8 (L8 N (((a0X a [110,97,109,101]).getD (zero τ18)).text,((a0X a [107,105,110,100]).getD (zero τ18)).text,p)) fun q=>br (q !=0) (some (q,b,c,e,g,l,m,o,m1,m2)) (br (decide ((m2.length:Int)>=500)) (some (16,b,c,e,g,l,m,o,m1,m2)) (some (0,b,c,e,g,l,m,o,m1,a1V m2 (((a0X a [110,97,109,101]).getD (zero τ18)).text) (((a0X a [110,97,109,101]).getD (zero τ18)).text,((a0X a [107,105,110,100]).getD (zero τ18)).text,p))))) N a [])))))
abbrev f2V(f:SV [.box 0 0,.v (.mp τ18)]->BV [.cells [V1,V1,.v τ17,.v τ10,V0,V0,V0,.mref 1,.mref 2],.map τ5,.map τ6]->Option τ16):AF:={ps:=[.box 0 0,.v (.mp τ18)],bs:=[.cells [V1,V1,.v τ17,.v τ10,V0,V0,V0,.mref 1,.mref 2],.map τ5,.map τ6],rs:=[V0],cs:=[.cells [V1,V1,.v τ17,.v τ10,V0,V0,V0,.mref 1,.mref 2],.map τ5,.map τ6],R:=Int×d3×d3×List R2×List τ7×Int×Int×Int×Y7×List τ4,out:=fun z=>((z.1,()),(z.2.1,z.2.2.1,z.2.2.2.1,z.2.2.2.2.1,z.2.2.2.2.2.1,z.2.2.2.2.2.2.1,z.2.2.2.2.2.2.2.1,(),(),()),z.2.2.2.2.2.2.2.2.1,z.2.2.2.2.2.2.2.2.2,()),f:=f}
abbrev e2q:AF:=f2V fun x y=>let z:=y.1.2.2.2;H2 N x.2.1 y.1.1 y.1.2.1 y.1.2.2.1 z.1 z.2.1 z.2.2.1 z.2.2.2.1 y.2.1 y.2.2.1
abbrev e4Q:SV [V0]->BV [.cells [V1,V1,.v τ17,.v τ10,V0,V0,V0,.mref 1,.mref 2],.map τ5,.map τ6]->τ16:=fun x y=>let z:=y.1.2.2.2;(x.1,y.1.1,y.1.2.1,y.1.2.2.1,z.1,z.2.1,z.2.2.1,z.2.2.2.1,y.2.1,y.2.2.1)
def d74:FuncId->Option Tmp->Option AF:=fun f _=>P0 [(26,d9u N),(209,b5f fun x _=>R7 N N x.1),(210,f3D fun x y=>N6 x.2.1 y.1)] f
theorem d75:H5 (d74 N):=fun _ _ _ h=>r9 h (u4 (c3X N) (u4 (b71 N N) (u4 (d8L) F1)))
def f2U:Nat->Hint:=fun i=>
 match i with
 |0=>⟨[],[0,11,56],[0,1,2,1011,1056,950001],[0,11],[0,1,2,1011,950001],[(1011,2,950001,56,τ12)]⟩
 |100007=>⟨[0,1,2,1005],[],[],[],[],[]⟩
 |100015=>⟨[1011,1013,950001],[],[],[],[],[]⟩
 |100022=>⟨[0,1,2,1011,950001],[],[],[],[],[]⟩
 |_=>o5
abbrev e2p:Env:=M5 f2U (d74 N) (fun i=>match i with|74=>true|75=>true|_=>false) (fun _=>false)
noncomputable abbrev f2T:Code:=P9 (m8 Tryz.f151) [true,true,true,true,true,true,true,false,true,false,false]
abbrev f6X:=B4 (e2p N) Tryz.f151 (e2q N) e4Q
abbrev d73:List (Nat×Sl):=[(0,.box 0 0),(11,.box 1011 0),(56,.box 1056 0)]
abbrev c3z:List (Nat×Sb):=[(0,.cells [V1,V1,.v τ17,.v τ10,V0,V0,V0,.mref 1,.mref 2]),(1,.map τ5),(2,.map τ6),(1011,.cells [V1,V1,.row 950001]),(1056,.iter τ18),(950001,.row 56 τ12 true)]
def b8d(y:HV c3z):St:=⟨98,[(0,.box 0 0),(11,.box 1011 0)],[(0,.cells [.v .str y.1.1,.v .str y.1.2.1,.v τ17 y.1.2.2.1,.v τ10 y.1.2.2.2.1,.v τ3 y.1.2.2.2.2.1,.v τ3 y.1.2.2.2.2.2.1,.v τ3 y.1.2.2.2.2.2.2.1,.mref 1,.mref 2]),(1,.map τ5 y.2.1),(2,.map τ6 y.2.2.1),(1011,.cells [.v .str y.2.2.2.1.1,.v .str y.2.2.2.1.2.1,.row 950001]),(950001,.row 56 τ12 true y.2.2.2.2.2.1)]⟩
def c8h:T9 (τ16) d73 c3z:=fun K n x y=>c8g N (fun a=>K 0 (b8d (y.1,y.2.1,y.2.2.1,y.2.2.2.1,y.2.2.2.2.1,a,y.2.2.2.2.2.2))) n y.2.2.2.2.1 y.2.2.2.2.2.1
def e4P:Nat->Code->St->(Ex->St->Option τ16)->Option τ16:=fun i c=>
 match i with
 |0=>U4 (e2p N) N 98 (c8h N) 0 c
 |i=>LpD (e2p N) N i c
theorem e8Y:B2 (e4P N) (e2p N) N (f6X N) 0 f2T:=
 o0 (c8h N) (fun K f x y=>b1n N (fun a=>K 0 (b8d (y.1,y.2.1,y.2.2.1,y.2.2.2.1,y.2.2.2.2.1,a,y.2.2.2.2.2.2))) (fun i1056 b=>f x (y.1,y.2.1,y.2.2.1,y.2.2.2.1,i1056,b,y.2.2.2.2.2.2)) y.2.2.2.2.1 y.2.2.2.2.2.1)
theorem d76:I6 151 (e2q N):=
 a0l (t6 f2U (d74 N) _ _ (d75 N)) Tryz.func151 Tryz.call151 (e2q N) e4Q N (e4P N) (P5 (e8Y N) U6)
def a5U(w:List (d3×GExpr))(B:Int)(k0:ρ3)(self:Int->d3->d3->τ40->τ45->Int->Int->Int->τ32->Y7->Y8->(List (τa))->τ25->Option (τb))(c:Int)(e g:d3)(l:List R2)(m:List τ7)(o p q:Int)(r:Option Unit)(t:τ43)(u:List τ4)(v:List (τa))(m1034:List τ9):Option (τb):=br (decide (c<B)) (k8 (n8 w c) fun b=>k8 (l9 N N (Ze b.2) e g l m o p q r t u v) fun a=>br (a.2.1 !=0) (some a.2) (self (IntKind.i64.wrap (c+1)) a.2.2.1 a.2.2.2.1 a.2.2.2.2.1 a.2.2.2.2.2.1 a.2.2.2.2.2.2.1 a.2.2.2.2.2.2.2.1 a.2.2.2.2.2.2.2.2.1 a.2.2.2.2.2.2.2.2.2.1 a.2.2.2.2.2.2.2.2.2.2.1 a.2.2.2.2.2.2.2.2.2.2.2.1 a.2.2.2.2.2.2.2.2.2.2.2.2 (a1V m1034 b.1 (GValue.mk a.1.kind a.1.text a.1.number a.1.list a.1.cases)))) (k0 e g l m o p q r t u v m1034)
def a7f(N:Nat)(a:List (d3×GExpr))(b:Int)(k0:ρ3):Nat->Int->d3->d3->τ40->τ45->Int->Int->Int->τ32->Y7->Y8->(List (τa))->τ25->Option (τb)|0,_,_,_,_,_,_,_,_,_,_,_,_,_=>none|n+1,c,e,g,l,m,o,p,q,r,t,u,v,m1034=>a5U N a b k0 (a7f N a b k0 n) c e g l m o p q r t u v m1034
def G9(b:GStmt)(e g:d3)(l:List R2)(m:List τ7)(o p c:Int)(q:Option Unit)(m2:τ43)(m3:List τ4)(m4:List (τa)):Option (τb):=br (b.name==[116,97,114,103,101,116]) (br (decide (c>0)) (some (14,e,g,l,m,o,p,c,q,m2,m3,m4)) (a7f N b.args (b.args.length:Int) (fun r t u v w B C D E H J K=>br (true) (k8 (H2 N K r t u v w B C E H) fun a=>some (a.1,a.2.1,a.2.2.1,a.2.2.2.1,a.2.2.2.2.1,a.2.2.2.2.2.1,a.2.2.2.2.2.2.1,a.2.2.2.2.2.2.2.1,D,a.2.2.2.2.2.2.2.2.1,a.2.2.2.2.2.2.2.2.2,J)) none) N 0 e g l m o p c q m2 m3 m4 [])) none
abbrev f3Y:=E3 [.box 0 0,.box 1 0,.v τ26] [.cells [V1,V1,.v τ17,.v τ10,V0,V0,V0,.mref 2,.mref 3],.cells [.v τ41,.mref 4,.nilS],.map τ5,.map τ6,.map τ8] [V0] [.cells [V1,V1,.v τ17,.v τ10,V0,V0,V0,.mref 2,.mref 3],.cells [.v τ41,.mref 4,.nilS],.map τ5,.map τ6,.map τ8] (τb) fun z=>((z.1,()),(z.2.1,z.2.2.1,z.2.2.2.1,z.2.2.2.2.1,z.2.2.2.2.2.1,z.2.2.2.2.2.2.1,z.2.2.2.2.2.2.2.1,(),(),()),(z.2.2.2.2.2.2.2.2.1,(),(),()),z.2.2.2.2.2.2.2.2.2.1,z.2.2.2.2.2.2.2.2.2.2.1,z.2.2.2.2.2.2.2.2.2.2.2,())
abbrev d9b:AF:=f3Y fun x y=>let z:=y.1.2.2.2;G9 N x.2.2.1 y.1.1 y.1.2.1 y.1.2.2.1 z.1 z.2.1 z.2.2.1 z.2.2.2.1 y.2.1.1 y.2.2.1 y.2.2.2.1 y.2.2.2.2.1
abbrev c8t:SV [V0]->BV [.cells [V1,V1,.v τ17,.v τ10,V0,V0,V0,.mref 2,.mref 3],.cells [.v τ41,.mref 4,.nilS],.map τ5,.map τ6,.map τ8]->(τb):=fun x y=>let z:=y.1.2.2.2;(x.1,y.1.1,y.1.2.1,y.1.2.2.1,z.1,z.2.1,z.2.2.1,z.2.2.2.1,y.2.1.1,y.2.2.1,y.2.2.2.1,y.2.2.2.2.1)
def d89:FuncId->Option Tmp->Option AF:=fun f _=>P0 [(75,a9Z fun x y=>let z:=y.1.2.2.2;l9 N N x.2.2.1 y.1.1 y.1.2.1 y.1.2.2.1 z.1 z.2.1 z.2.2.1 z.2.2.2.1 y.2.1.1 y.2.2.1 y.2.2.2.1 y.2.2.2.2.1),(151,e2q N)] f
theorem d9a:H5 (d89 N):=fun _ _ _ h=>r9 h (u4 (b5t N N) (u4 (d76 N) F1))
def d2E:Nat->Hint:=fun i=>
 match i with
 |0=>⟨[],[0,1,7,9,36,37,38],[0,1,2,3,4,1007,1034],[0,7,9],[0,1,2,3,4,1007,1034],[]⟩
 |_=>o5
abbrev b55:Env:=M5 d2E (d89 N) FF FF |>.fz (fun i=>match i with|151=>true|_=>false)
noncomputable abbrev c3O:Code:=P9 (m8 Tryz.f77) [true,true,true,true,false,true,false,false]
abbrev d2D:=B4 (b55 N) Tryz.f77 (d9b N) c8t
abbrev a9Y:List (Nat×Sl):=[(0,.box 0 0),(1,.box 1 0),(7,.box 1007 0),(9,.mref 1034),(36,.v τ29),(37,V0),(38,V0)]
abbrev a9X:List (Nat×Sb):=[(0,.cells [V1,V1,.v τ17,.v τ10,V0,V0,V0,.mref 2,.mref 3]),(1,.cells [.v τ41,.mref 4,.nilS]),(2,.map τ5),(3,.map τ6),(4,.map τ8),(1007,.cells [V0,V1,V0,.nilS,.nilS,.nilP]),(1034,.map τ18)]
def b5s(a:List (d3×GExpr))(b c:Int)(e:d3)(g l:Int)(m o:d3)(p:List R2)(q:List τ7)(r t u:Int)(w:Option Unit)(B:τ43)(C:List τ4)(D:List (τa))(m1034:List τ9):St:=⟨69,[(0,.box 0 0),(1,.box 1 0),(7,.box 1007 0),(9,.mref 1034),(36,.v τ29 a),(37,.v τ3 b),(38,.v τ3 l)],[(0,.cells [.v .str m,.v .str o,.v τ17 p,.v τ10 q,.v τ3 r,.v τ3 t,.v τ3 u,.mref 2,.mref 3]),(1,.cells [.v τ41 w,.mref 4,.nilS]),(2,.map τ5 B),(3,.map τ6 C),(4,.map τ8 D),(1007,.cells [.v τ3 c,.v .str e,.v τ3 g,.nilS,.nilS,.nilP]),(1034,.map τ18 m1034)]⟩
def a7V(_C:List (d3×GExpr))(_D a:Int)(b:d3)(c:Int)(e g:d3)(l:List R2)(m:List τ7)(o p q:Int)(r:Option Unit)(t:τ43)(u:List τ4)(w:List (τa))(B:List τ9):St:=⟨69,[(0,.box 0 0),(7,.box 1007 0),(9,.mref 1034)],[(0,.cells [.v .str e,.v .str g,.v τ17 l,.v τ10 m,.v τ3 o,.v τ3 p,.v τ3 q,.mref 2,.mref 3]),(1,.cells [.v τ41 r,.mref 4,.nilS]),(2,.map τ5 t),(3,.map τ6 u),(4,.map τ8 w),(1007,.cells [.v τ3 a,.v .str b,.v τ3 c,.nilS,.nilS,.nilP]),(1034,.map τ18 B)]⟩
def e2O(a:List (d3×GExpr))(b c:Int)(e:d3)(g l:Int)(m o:d3)(p:List R2)(q:List τ7)(r t u:Int)(v:Option Unit)(w:τ43)(B:List τ4)(C:List (τa))(m1034:List τ9)(k:Ex->St->Option (τb)):Option (τb):=a7f N a b (fun D E H J K L O Q R T U V=>k (.exit 0) (a7V a b c e g D E H J K L O Q R T U V)) N l m o p q r t u v w B C m1034
abbrev c8s:FV a9Y->HV a9X->(Ex->St->Option (τb))->Option (τb):=fun x y k=>let z:=y.2.2.2.2;let u:=y.1.2.2.2;e2O N x.2.2.2.2.1 x.2.2.2.2.2.1 z.2.1.1 z.2.1.2.1 z.2.1.2.2.1 x.2.2.2.2.2.2.1 y.1.1 y.1.2.1 y.1.2.2.1 u.1 u.2.1 u.2.2.1 u.2.2.2.1 y.2.1.1 y.2.2.1 y.2.2.2.1 z.1 z.2.2.1 k
def b8m:Nat->Code->St->(Ex->St->Option (τb))->Option (τb):=fun i c=>
 match i with
 |0=>(LPc 69 a9Y a9X (c8s N) (fun st k=>iter (d2E 0) (Q0 (b55 N) N c 0) N st k))
 |i=>LpD (b55 N) N i c
theorem c58(a:List (d3×GExpr))(b w:Int)(B:d3)(C:Int)(KX:Nat->St->Option (τb))(I:St->Option (τb))(c:Int)(e g:d3)(l:List R2)(m:List τ7)(o p q:Int)(r:Option Unit)(t:τ43)(u:List τ4)(v:List (τa))(m1034:List τ9):
  Q4 (b8m N) (b55 N) c3O 0 (b5s a b w B C c e g l m o p q r t u v m1034) (a2M (d2E 0) I KX (d2D N))=a5U N a b (fun D E H J K L O Q R T U V=>KX 0 (a7V a b w B C D E H J K L O Q R T U V)) (fun c e g l m o p q r t u v m1034=>I (b5s a b w B C c e g l m o p q r t u v m1034)) c e g l m o p q r t u v m1034:=by kernel_rfl
theorem d88:∀x y k,(∀st,k .ret st=(d2D N) st)->iter (d2E 0) (Q0 (b55 N) N c3O 0) N ⟨69,unF a9Y x,unH a9X y⟩ k=c8s N x y k:=fun x y k hk=>
 a0D (S:=(Int)×(d3)×(d3)×τ40×τ45×(Int)×(Int)×(Int)×τ32×Y7×Y8×(List (τa))×τ25×Unit) (d2E 0) _ (Q4 (b8m N) (b55 N) c3O 0) (d2D N) (a0V _ _ N _ c3O 0 (show LoopsOk (b8m N) (b55 N) N (d2D N) []from trivial)) (fun s=>b5s x.2.2.2.2.1 x.2.2.2.2.2.1 y.2.2.2.2.2.1.1 y.2.2.2.2.2.1.2.1 y.2.2.2.2.2.1.2.2.1 s.1 s.2.1 s.2.2.1 s.2.2.2.1 s.2.2.2.2.1 s.2.2.2.2.2.1 s.2.2.2.2.2.2.1 s.2.2.2.2.2.2.2.1 s.2.2.2.2.2.2.2.2.1 s.2.2.2.2.2.2.2.2.2.1 s.2.2.2.2.2.2.2.2.2.2.1 s.2.2.2.2.2.2.2.2.2.2.2.1 s.2.2.2.2.2.2.2.2.2.2.2.2.1) k hk
  (fun self s=>let z:=s.2.2.2.2.2.2;a5U N x.2.2.2.2.1 x.2.2.2.2.2.1 (fun a b c e g l m o p q r t=>k (.exit 0) (a7V x.2.2.2.2.1 x.2.2.2.2.2.1 y.2.2.2.2.2.1.1 y.2.2.2.2.2.1.2.1 y.2.2.2.2.2.1.2.2.1 a b c e g l m o p q r t)) (fun u v w B C D E H J K L O m1034=>self (u,v,w,B,C,D,E,H,J,K,L,O,m1034,())) s.1 s.2.1 s.2.2.1 s.2.2.2.1 s.2.2.2.2.1 s.2.2.2.2.2.1 z.1 z.2.1 z.2.2.1 z.2.2.2.1 z.2.2.2.2.1 z.2.2.2.2.2.1 z.2.2.2.2.2.2.1) (fun n s=>let z:=s.2.2.2.2.2.2;a7f N x.2.2.2.2.1 x.2.2.2.2.2.1 (fun a b c e g l m o p q r t=>k (.exit 0) (a7V x.2.2.2.2.1 x.2.2.2.2.2.1 y.2.2.2.2.2.1.1 y.2.2.2.2.2.1.2.1 y.2.2.2.2.2.1.2.2.1 a b c e g l m o p q r t)) n s.1 s.2.1 s.2.2.1 s.2.2.2.1 s.2.2.2.2.1 s.2.2.2.2.2.1 z.1 z.2.1 z.2.2.1 z.2.2.2.1 z.2.2.2.2.1 z.2.2.2.2.2.1 z.2.2.2.2.2.2.1) (fun _=>rfl) (fun _ _=>rfl)
  (fun I s=>let z:=s.2.2.2.2.2.2;c58 N x.2.2.2.2.1 x.2.2.2.2.2.1 y.2.2.2.2.2.1.1 y.2.2.2.2.2.1.2.1 y.2.2.2.2.2.1.2.2.1 (fun j=>k (.exit j)) I s.1 s.2.1 s.2.2.1 s.2.2.2.1 s.2.2.2.2.1 s.2.2.2.2.2.1 z.1 z.2.1 z.2.2.1 z.2.2.2.1 z.2.2.2.2.1 z.2.2.2.2.2.1 z.2.2.2.2.2.2.1) N (x.2.2.2.2.2.2.1,y.1.1,y.1.2.1,y.1.2.2.1,y.1.2.2.2.1,y.1.2.2.2.2.1,y.1.2.2.2.2.2.1,y.1.2.2.2.2.2.2.1,y.2.1.1,y.2.2.1,y.2.2.2.1,y.2.2.2.2.1,y.2.2.2.2.2.2.1,())
theorem e9n:B2 (b8m N) (b55 N) N (d2D N) 0 c3O:=fun st k hk=>a4P 69 a9Y a9X _ _ (d2D N) (d88 N) _ st k hk (rfl)
theorem e2P(x:SV [.box 0 0,.box 1 0,.v τ26])(y:BV [.cells [V1,V1,.v τ17,.v τ10,V0,V0,V0,.mref 2,.mref 3],.cells [.v τ41,.mref 4,.nilS],.map τ5,.map τ6,.map τ8]):b53 (b55 N) Tryz.f77 (d9b N) c8t (b8m N) x y=G9 N x.2.2.1 y.1.1 y.1.2.1 y.1.2.2.1 y.1.2.2.2.1 y.1.2.2.2.2.1 y.1.2.2.2.2.2.1 y.1.2.2.2.2.2.2.1 y.2.1.1 y.2.2.1 y.2.2.2.1 y.2.2.2.2.1:=by kernel_rfl
theorem d9c:I6 77 (d9b N):=
 b3M (EnvOk.fz (t6 d2E (d89 N) _ _ (d9a N)) _) Tryz.func77 rfl Tryz.call77 (d9b N) c8t (fun _ _=>rfl) N (fun x y _ h=>((b2h (b55 N) N Tryz.f77 (d9b N) c8t (b8m N) (P5 (e9n N) U6) x y).trans (e2P N x y)).trans h)
def a1N(_N:Nat)(a:Option Unit)(m1:List (τa)):Option (Option Unit×(List (τa))×List (τa)):=some (a,m1,[])
abbrev f5c:=E3 [.box 0 0] [.cells [.v τ41,.mref 1,.nilS],.map τ8] [.box 2 0] [.cells [.v τ41,.mref 1,.nilS],.map τ8,.cells [.box 0 0,.mref 3,.nilS],.map τ8] (Option Unit×(List (τa))×List (τa)) fun z=>(((),()),(z.1,(),(),()),z.2.1,((),(),(),()),z.2.2,())
abbrev f5b:AF:=f5c fun _ y=>a1N N y.1.1 y.2.1
theorem e0i:I6 38 (f5b N):=
 N9 h0 F1 Tryz.func38 Tryz.call38 (f5b N) (fun _ y=>(y.1.1,y.2.1,y.2.2.2.1)) N
end
end Go.Proofs.YtckdohagilcloaaGreatDoor
