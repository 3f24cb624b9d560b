/- % -/
import Derived.Test.YtckdohagilcloaaGreatDoorQWeF28
namespace Go.Proofs.YtckdohagilcloaaGreatDoor
open Go Go.RowKit
set_option maxRecDepth 100000
set_option linter.unusedVariables false
noncomputable section
variable(N:Nat)
def E6(a:GStmt)(g l:d3)(m:List R2)(o:List τ7)(p q r:Int)(c e:Bool)(t:Option Unit)(m3:τ43)(m4:List τ4)(m5:List (d3×Bool))(m6:List (τa)):Option (τc):=br (a.kind==1) (k8 (l9 N N (Ze a.expr) g l m o p q r t m3 m4 m6) fun u=>br (u.2.1 !=0) (some (u.2.1,u.2.2.1,u.2.2.2.1,u.2.2.2.2.1,u.2.2.2.2.2.1,u.2.2.2.2.2.2.1,u.2.2.2.2.2.2.2.1,u.2.2.2.2.2.2.2.2.1,c,e,u.2.2.2.2.2.2.2.2.2.1,u.2.2.2.2.2.2.2.2.2.2.1,u.2.2.2.2.2.2.2.2.2.2.2.1,m5,u.2.2.2.2.2.2.2.2.2.2.2.2)) none) (br (a.kind==2) (k8 (G9 N (GStmt.mk a.kind a.name a.text a.params a.args (Ze a.expr) a.body a.els a.at_) g l m o p q r t m3 m4 m6) fun v=>some (v.1,v.2.1,v.2.2.1,v.2.2.2.1,v.2.2.2.2.1,v.2.2.2.2.2.1,v.2.2.2.2.2.2.1,v.2.2.2.2.2.2.2.1,c,e,v.2.2.2.2.2.2.2.2.1,v.2.2.2.2.2.2.2.2.2.1,v.2.2.2.2.2.2.2.2.2.2.1,m5,v.2.2.2.2.2.2.2.2.2.2.2)) (br (a.kind==3) (q7 (q7 (o3 1 (br ((a0X m6 a.name).isSome) (some (7,g,l,m,o,p,q,r,c,e,t,m3,m4,m5,m6)) (br (a.name==[116,97,114,103,101,116]) (some (5,g,l,m,o,p,q,r,c,e,t,m3,m4,m5,m6)) none))) (br ((a0X m6 a.name).isSome) (some (7,g,l,m,o,p,q,r,c,e,t,m3,m4,m5,m6)) (br (a.name==[116,97,114,103,101,116]) (some (5,g,l,m,o,p,q,r,c,e,t,m3,m4,m5,m6)) none))) (q7 (q7 (o3 1 (br ((a0X m6 a.name).isSome) (some (7,g,l,m,o,p,q,r,c,e,t,m3,m4,m5,m6)) (br (a.name==[116,97,114,103,101,116]) (some (5,g,l,m,o,p,q,r,c,e,t,m3,m4,m5,m6)) none))) (br ((a0X m6 a.name).isSome) (some (7,g,l,m,o,p,q,r,c,e,t,m3,m4,m5,m6)) (br (a.name==[116,97,114,103,101,116]) (some (5,g,l,m,o,p,q,r,c,e,t,m3,m4,m5,m6)) none))) (o3 1 (br ((a0X m6 a.name).isSome) (some (7,g,l,m,o,p,q,r,c,e,t,m3,m4,m5,m6)) (br (a.name==[116,97,114,103,101,116]) (some (5,g,l,m,o,p,q,r,c,e,t,m3,m4,m5,m6)) none))))) (br (a.kind==6) none (k8 (l9 N N (Ze a.expr) g l m o p q r t m3 m4 m6) fun b=>br (b.2.1 !=0) (some (b.2.1,b.2.2.1,b.2.2.2.1,b.2.2.2.2.1,b.2.2.2.2.2.1,b.2.2.2.2.2.2.1,b.2.2.2.2.2.2.2.1,b.2.2.2.2.2.2.2.2.1,c,e,b.2.2.2.2.2.2.2.2.2.1,b.2.2.2.2.2.2.2.2.2.2.1,b.2.2.2.2.2.2.2.2.2.2.2.1,m5,b.2.2.2.2.2.2.2.2.2.2.2.2)) (br (a.kind==4) none (br (b.1.kind !=2) (some (6,b.2.2.1,b.2.2.2.1,b.2.2.2.2.1,b.2.2.2.2.2.1,b.2.2.2.2.2.2.1,b.2.2.2.2.2.2.2.1,b.2.2.2.2.2.2.2.2.1,c,e,b.2.2.2.2.2.2.2.2.2.1,b.2.2.2.2.2.2.2.2.2.2.1,b.2.2.2.2.2.2.2.2.2.2.2.1,m5,b.2.2.2.2.2.2.2.2.2.2.2.2)) (br (b.1.number !=0) (k8 (a1N N b.2.2.2.2.2.2.2.2.2.1 b.2.2.2.2.2.2.2.2.2.2.2.2) fun _=>none) (k8 (a1N N b.2.2.2.2.2.2.2.2.2.1 b.2.2.2.2.2.2.2.2.2.2.2.2) fun _=>none))))))))
abbrev f2x:=E3 [.box 0 0,.box 1 0,.box 2 0,.v τ26] [.cells [V1,V1,.v τ17,.v τ10,V0,V0,V0,.mref 3,.mref 4],.cells [.box 2 0,.mref 5,V3,V3],.cells [.v τ41,.mref 6,.nilS],.map τ5,.map τ6,.map .bool,.map τ8] [V0] [.cells [V1,V1,.v τ17,.v τ10,V0,V0,V0,.mref 3,.mref 4],.cells [.box 2 0,.mref 5,V3,V3],.cells [.v τ41,.mref 6,.nilS],.map τ5,.map τ6,.map .bool,.map τ8] (τc) fun z=>((z.1,()),(z.2.1,z.2.2.1,z.2.2.2.1,z.2.2.2.2.1,z.2.2.2.2.2.1,z.2.2.2.2.2.2.1,z.2.2.2.2.2.2.2.1,(),(),()),((),(),z.2.2.2.2.2.2.2.2.1,z.2.2.2.2.2.2.2.2.2.1,()),(z.2.2.2.2.2.2.2.2.2.2.1,(),(),()),z.2.2.2.2.2.2.2.2.2.2.2.1,z.2.2.2.2.2.2.2.2.2.2.2.2.1,z.2.2.2.2.2.2.2.2.2.2.2.2.2.1,z.2.2.2.2.2.2.2.2.2.2.2.2.2.2,())
abbrev e8L:AF:=f2x fun x y=>let z:=y.1.2.2.2;let u:=y.2.2.2;E6 N x.2.2.2.1 y.1.1 y.1.2.1 y.1.2.2.1 z.1 z.2.1 z.2.2.1 z.2.2.2.1 y.2.1.2.2.1 y.2.1.2.2.2.1 y.2.2.1.1 u.1 u.2.1 u.2.2.1 u.2.2.2.1
def f6J:Nat->Hint:=fun i=>
 match i with
 |100010=>⟨[],[1,2],[],[],[],[]⟩
 |100028=>⟨[1007],[],[],[],[],[]⟩
 |100029=>⟨[1007],[],[],[],[],[]⟩
 |_=>o5
theorem d7B:I6 40 (e8L N):=
 N9 f6J (u4 (e0i N) (u4 (b5t N N) (u4 (d9c N) F1))) Tryz.func40 Tryz.call40 (e8L N) (fun x y=>let z:=y.1.2.2.2;let u:=y.2.2.2;(x.1,y.1.1,y.1.2.1,y.1.2.2.1,z.1,z.2.1,z.2.2.1,z.2.2.2.1,y.2.1.2.2.1,y.2.1.2.2.2.1,y.2.2.1.1,u.1,u.2.1,u.2.2.1,u.2.2.2.1)) N
def a4s(J:List GStmt)(K:Int)(k0:ρ0)(self:Int->d3->d3->τ40->τ45->Int->Int->Int->Bool->Bool->τ32->Y7->Y8->τ27->(List (τa))->Option (τc))(r:Int)(t u:d3)(v:List R2)(w:List τ7)(B H C:Int)(l m:Bool)(o:Option Unit)(D:τ43)(E:List τ4)(p:List (d3×Bool))(q:List (τa)):Option (τc):=br (decide (r<K)) (k8 (n8 J r) fun a=>br (l) (k8 (E9 N t u v w B a.at_ C D E) fun b=>br (b.1 !=0) (some (b.1,b.2.1,b.2.2.1,b.2.2.2.1,b.2.2.2.2.1,b.2.2.2.2.2.1,b.2.2.2.2.2.2.1,b.2.2.2.2.2.2.2.1,l,m,o,b.2.2.2.2.2.2.2.2.1,b.2.2.2.2.2.2.2.2.2,p,q)) (k8 (E6 N (GStmt.mk a.kind a.name a.text a.params a.args (Ze a.expr) a.body a.els a.at_) b.2.1 b.2.2.1 b.2.2.2.1 b.2.2.2.2.1 b.2.2.2.2.2.1 b.2.2.2.2.2.2.1 b.2.2.2.2.2.2.2.1 l m o b.2.2.2.2.2.2.2.2.1 b.2.2.2.2.2.2.2.2.2 p q) fun e=>br (e.1 !=0) (some e) (self (IntKind.i64.wrap (r+1)) e.2.1 e.2.2.1 e.2.2.2.1 e.2.2.2.2.1 e.2.2.2.2.2.1 e.2.2.2.2.2.2.1 e.2.2.2.2.2.2.2.1 e.2.2.2.2.2.2.2.2.1 e.2.2.2.2.2.2.2.2.2.1 e.2.2.2.2.2.2.2.2.2.2.1 e.2.2.2.2.2.2.2.2.2.2.2.1 e.2.2.2.2.2.2.2.2.2.2.2.2.1 e.2.2.2.2.2.2.2.2.2.2.2.2.2.1 e.2.2.2.2.2.2.2.2.2.2.2.2.2.2))) (k8 (E9 N t u v w B H C D E) fun c=>br (c.1 !=0) (some (c.1,c.2.1,c.2.2.1,c.2.2.2.1,c.2.2.2.2.1,c.2.2.2.2.2.1,c.2.2.2.2.2.2.1,c.2.2.2.2.2.2.2.1,l,m,o,c.2.2.2.2.2.2.2.2.1,c.2.2.2.2.2.2.2.2.2,p,q)) (k8 (E6 N (GStmt.mk a.kind a.name a.text a.params a.args (Ze a.expr) a.body a.els a.at_) c.2.1 c.2.2.1 c.2.2.2.1 c.2.2.2.2.1 c.2.2.2.2.2.1 c.2.2.2.2.2.2.1 c.2.2.2.2.2.2.2.1 l m o c.2.2.2.2.2.2.2.2.1 c.2.2.2.2.2.2.2.2.2 p q) fun g=>br (g.1 !=0) (some g) (self (IntKind.i64.wrap (r+1)) g.2.1 g.2.2.1 g.2.2.2.1 g.2.2.2.2.1 g.2.2.2.2.2.1 g.2.2.2.2.2.2.1 g.2.2.2.2.2.2.2.1 g.2.2.2.2.2.2.2.2.1 g.2.2.2.2.2.2.2.2.2.1 g.2.2.2.2.2.2.2.2.2.2.1 g.2.2.2.2.2.2.2.2.2.2.2.1 g.2.2.2.2.2.2.2.2.2.2.2.2.1 g.2.2.2.2.2.2.2.2.2.2.2.2.2.1 g.2.2.2.2.2.2.2.2.2.2.2.2.2.2)))) (k0 t u v w B H C l m o D E p q)
def a7g(N:Nat)(a:List GStmt)(b:Int)(k0:ρ0):Nat->Int->d3->d3->τ40->τ45->Int->Int->Int->Bool->Bool->τ32->Y7->Y8->τ27->(List (τa))->Option (τc)|0,_,_,_,_,_,_,_,_,_,_,_,_,_,_,_=>none|n+1,c,e,g,l,m,o,p,q,r,t,u,v,w,B,C=>a4s N a b k0 (a7g N a b k0 n) c e g l m o p q r t u v w B C
def Y1(a:List GStmt)(b c:d3)(e:List R2)(g:List τ7)(l m o:Int)(p q:Bool)(r:Option Unit)(m3:τ43)(m4:List τ4)(m5:List (d3×Bool))(m6:List (τa)):Option (τc):=a7g N a (a.length:Int) (fun t u v w B C D E H J K L O Q=>some (0,t,u,v,w,B,C,D,E,H,J,K,L,O,Q)) N 0 b c e g l m o p q r m3 m4 m5 m6
abbrev f4B:=E3 [.box 0 0,.box 1 0,.box 2 0,V5] [.cells [V1,V1,.v τ17,.v τ10,V0,V0,V0,.mref 3,.mref 4],.cells [.box 2 0,.mref 5,V3,V3],.cells [.v τ41,.mref 6,.nilS],.map τ5,.map τ6,.map .bool,.map τ8] [V0] [.cells [V1,V1,.v τ17,.v τ10,V0,V0,V0,.mref 3,.mref 4],.cells [.box 2 0,.mref 5,V3,V3],.cells [.v τ41,.mref 6,.nilS],.map τ5,.map τ6,.map .bool,.map τ8] (τc) fun z=>((z.1,()),(z.2.1,z.2.2.1,z.2.2.2.1,z.2.2.2.2.1,z.2.2.2.2.2.1,z.2.2.2.2.2.2.1,z.2.2.2.2.2.2.2.1,(),(),()),((),(),z.2.2.2.2.2.2.2.2.1,z.2.2.2.2.2.2.2.2.2.1,()),(z.2.2.2.2.2.2.2.2.2.2.1,(),(),()),z.2.2.2.2.2.2.2.2.2.2.2.1,z.2.2.2.2.2.2.2.2.2.2.2.2.1,z.2.2.2.2.2.2.2.2.2.2.2.2.2.1,z.2.2.2.2.2.2.2.2.2.2.2.2.2.2,())
abbrev e3d:AF:=f4B fun x y=>let z:=y.1.2.2.2;let u:=y.2.2.2;Y1 N x.2.2.2.1 y.1.1 y.1.2.1 y.1.2.2.1 z.1 z.2.1 z.2.2.1 z.2.2.2.1 y.2.1.2.2.1 y.2.1.2.2.2.1 y.2.2.1.1 u.1 u.2.1 u.2.2.1 u.2.2.2.1
abbrev e5q:SV [V0]->BV [.cells [V1,V1,.v τ17,.v τ10,V0,V0,V0,.mref 3,.mref 4],.cells [.box 2 0,.mref 5,V3,V3],.cells [.v τ41,.mref 6,.nilS],.map τ5,.map τ6,.map .bool,.map τ8]->(τc):=fun x y=>let z:=y.1.2.2.2;let u:=y.2.2.2;(x.1,y.1.1,y.1.2.1,y.1.2.2.1,z.1,z.2.1,z.2.2.1,z.2.2.2.1,y.2.1.2.2.1,y.2.1.2.2.2.1,y.2.2.1.1,u.1,u.2.1,u.2.2.1,u.2.2.2.1)
def e5p:FuncId->Option Tmp->Option AF:=fun f _=>P0 [(39,e2Q N),(40,e8L N)] f
theorem d9I:H5 (e5p N):=fun _ _ _ h=>r9 h (u4 (c3P N) (u4 (d7B N) F1))
def d9J:Nat->Hint:=fun i=>
 match i with
 |0=>⟨[],[0,1,2,13,14,15],[0,1,2,3,4,5,6],[],[0,1,2,3,4,5,6],[]⟩
 |_=>o5
abbrev c3Y:Env:=M5 d9J (e5p N) FF FF
noncomputable abbrev c30:Code:=P9 (m8 Tryz.f20) [true,false,true,false,false]
abbrev d2F:=B4 (c3Y N) Tryz.f20 (e3d N) e5q
abbrev a92:List (Nat×Sl):=[(0,.box 0 0),(1,.box 1 0),(2,.box 2 0),(13,V5),(14,V0),(15,V0)]
abbrev a91:List (Nat×Sb):=[(0,.cells [V1,V1,.v τ17,.v τ10,V0,V0,V0,.mref 3,.mref 4]),(1,.cells [.box 2 0,.mref 5,V3,V3]),(2,.cells [.v τ41,.mref 6,.nilS]),(3,.map τ5),(4,.map τ6),(5,.map .bool),(6,.map τ8)]
def b5A(a:List GStmt)(b c:Int)(e g:d3)(l:List R2)(m:List τ7)(o p q:Int)(r t:Bool)(u:Option Unit)(w:τ43)(B:List τ4)(C:List (d3×Bool))(D:List (τa)):St:=⟨50,[(0,.box 0 0),(1,.box 1 0),(2,.box 2 0),(13,.v τ15 a),(14,.v τ3 b),(15,.v τ3 c)],[(0,.cells [.v .str e,.v .str g,.v τ17 l,.v τ10 m,.v τ3 o,.v τ3 p,.v τ3 q,.mref 3,.mref 4]),(1,.cells [.box 2 0,.mref 5,.v .bool r,.v .bool t]),(2,.cells [.v τ41 u,.mref 6,.nilS]),(3,.map τ5 w),(4,.map τ6 B),(5,.map .bool C),(6,.map τ8 D)]⟩
def a7W(_B:List GStmt)(_C:Int)(a b:d3)(c:List R2)(e:List τ7)(g l m:Int)(o p:Bool)(q:Option Unit)(r:τ43)(t:List τ4)(u:List (d3×Bool))(w:List (τa)):St:=⟨50,[],[(0,.cells [.v .str a,.v .str b,.v τ17 c,.v τ10 e,.v τ3 g,.v τ3 l,.v τ3 m,.mref 3,.mref 4]),(1,.cells [.box 2 0,.mref 5,.v .bool o,.v .bool p]),(2,.cells [.v τ41 q,.mref 6,.nilS]),(3,.map τ5 r),(4,.map τ6 t),(5,.map .bool u),(6,.map τ8 w)]⟩
def e3c(a:List GStmt)(b c:Int)(e g:d3)(l:List R2)(m:List τ7)(o p q:Int)(r t:Bool)(u:Option Unit)(v:τ43)(w:List τ4)(B:List (d3×Bool))(C:List (τa))(k:Ex->St->Option (τc)):Option (τc):=a7g N a b (fun D E H J K L O Q R T U V W Y=>k (.exit 0) (a7W a b D E H J K L O Q R T U V W Y)) N c e g l m o p q r t u v w B C
abbrev c8E:FV a92->HV a91->(Ex->St->Option (τc))->Option (τc):=fun x y k=>let z:=y.1.2.2.2;let u:=y.2.2.2;e3c N x.2.2.2.1 x.2.2.2.2.1 x.2.2.2.2.2.1 y.1.1 y.1.2.1 y.1.2.2.1 z.1 z.2.1 z.2.2.1 z.2.2.2.1 y.2.1.2.2.1 y.2.1.2.2.2.1 y.2.2.1.1 u.1 u.2.1 u.2.2.1 u.2.2.2.1 k
def c3Z:Nat->Code->St->(Ex->St->Option (τc))->Option (τc):=fun i c=>
 match i with
 |0=>(LPc 50 a92 a91 (c8E N) (fun st k=>iter (d9J 0) (Q0 (c3Y N) N c 0) N st k))
 |i=>LpD (c3Y N) N i c
theorem c59(a:List GStmt)(b:Int)(KX:Nat->St->Option (τc))(I:St->Option (τc))(c:Int)(e g:d3)(l:List R2)(m:List τ7)(o p q:Int)(r t:Bool)(u:Option Unit)(v:τ43)(w:List τ4)(B:List (d3×Bool))(m6_4:List (τa)):
  Q4 (c3Z N) (c3Y N) c30 0 (b5A a b c e g l m o p q r t u v w B m6_4) (a2M (d9J 0) I KX (d2F N))=a4s N a b (fun C D E H J K L O Q R T U V W=>KX 0 (a7W a b C D E H J K L O Q R T U V W)) (fun c e g l m o p q r t u v w B m6_4=>I (b5A a b c e g l m o p q r t u v w B m6_4)) c e g l m o p q r t u v w B m6_4:=by kernel_rfl
theorem d9H:∀x y k,(∀st,k .ret st=(d2F N) st)->iter (d9J 0) (Q0 (c3Y N) N c30 0) N ⟨50,unF a92 x,unH a91 y⟩ k=c8E N x y k:=fun x y k hk=>
 a0D (S:=(Int)×(d3)×(d3)×τ40×τ45×(Int)×(Int)×(Int)×(Bool)×(Bool)×τ32×Y7×Y8×τ27×(List (τa))×Unit) (d9J 0) _ (Q4 (c3Z N) (c3Y N) c30 0) (d2F N) (a0V _ _ N _ c30 0 (show LoopsOk (c3Z N) (c3Y N) N (d2F N) []from trivial)) (fun s=>b5A x.2.2.2.1 x.2.2.2.2.1 s.1 s.2.1 s.2.2.1 s.2.2.2.1 s.2.2.2.2.1 s.2.2.2.2.2.1 s.2.2.2.2.2.2.1 s.2.2.2.2.2.2.2.1 s.2.2.2.2.2.2.2.2.1 s.2.2.2.2.2.2.2.2.2.1 s.2.2.2.2.2.2.2.2.2.2.1 s.2.2.2.2.2.2.2.2.2.2.2.1 s.2.2.2.2.2.2.2.2.2.2.2.2.1 s.2.2.2.2.2.2.2.2.2.2.2.2.2.1 s.2.2.2.2.2.2.2.2.2.2.2.2.2.2.1) k hk
  (fun self s=>let z:=s.2.2.2.2.2.2.2;let h:=s.2.2.2;a4s N x.2.2.2.1 x.2.2.2.2.1 (fun a b c e g l m o p q r t u v=>k (.exit 0) (a7W x.2.2.2.1 x.2.2.2.2.1 a b c e g l m o p q r t u v)) (fun w B C D E H J K L O Q R T U V=>self (w,B,C,D,E,H,J,K,L,O,Q,R,T,U,V,())) s.1 s.2.1 s.2.2.1 h.1 h.2.1 h.2.2.1 h.2.2.2.1 z.1 z.2.1 z.2.2.1 z.2.2.2.1 z.2.2.2.2.1 z.2.2.2.2.2.1 z.2.2.2.2.2.2.1 z.2.2.2.2.2.2.2.1) (fun n s=>let z:=s.2.2.2.2.2.2.2;let w:=s.2.2.2;a7g N x.2.2.2.1 x.2.2.2.2.1 (fun a b c e g l m o p q r t u v=>k (.exit 0) (a7W x.2.2.2.1 x.2.2.2.2.1 a b c e g l m o p q r t u v)) n s.1 s.2.1 s.2.2.1 w.1 w.2.1 w.2.2.1 w.2.2.2.1 z.1 z.2.1 z.2.2.1 z.2.2.2.1 z.2.2.2.2.1 z.2.2.2.2.2.1 z.2.2.2.2.2.2.1 z.2.2.2.2.2.2.2.1) (fun _=>rfl) (fun _ _=>rfl)
  (fun I s=>let z:=s.2.2.2.2.2.2.2;let u:=s.2.2.2;c59 N x.2.2.2.1 x.2.2.2.2.1 (fun j=>k (.exit j)) I s.1 s.2.1 s.2.2.1 u.1 u.2.1 u.2.2.1 u.2.2.2.1 z.1 z.2.1 z.2.2.1 z.2.2.2.1 z.2.2.2.2.1 z.2.2.2.2.2.1 z.2.2.2.2.2.2.1 z.2.2.2.2.2.2.2.1) N (x.2.2.2.2.2.1,y.1.1,y.1.2.1,y.1.2.2.1,y.1.2.2.2.1,y.1.2.2.2.2.1,y.1.2.2.2.2.2.1,y.1.2.2.2.2.2.2.1,y.2.1.2.2.1,y.2.1.2.2.2.1,y.2.2.1.1,y.2.2.2.1,y.2.2.2.2.1,y.2.2.2.2.2.1,y.2.2.2.2.2.2.1,())
theorem e9z:B2 (c3Z N) (c3Y N) N (d2F N) 0 c30:=fun st k hk=>a4P 50 a92 a91 _ _ (d2F N) (d9H N) _ st k hk (rfl)
theorem d9K:I6 20 (e3d N):=
 X0 (d9I N) Tryz.func20 Tryz.call20 (e3d N) e5q N (c3Z N) (P5 (e9z N) U6)
def a7T(_N:Nat)(k0:(List τ19)->Option τ42)(self:Y8->(List τ19)->Option τ42)(i1062:List τ4)(a:List τ19):Option τ42:=br (i1062.isEmpty) (k0 a) (b8D i1062 fun p63 q63=>br (Zf (a.length + [p63.2].length) τ6) (self q63 (a ++ [p63.2])) none)
def c0b(N:Nat)(k0:(List τ19)->Option τ42):Nat->Y8->(List τ19)->Option τ42|0,_,_=>none|n+1,i1062,a=>a7T N k0 (c0b N k0 n) i1062 a
def a0r(a:d3×d3×List R2×List τ7):Option τ42:=k8 (X9 N a) fun g=>br (g !=0) (some (([],[]),0,g)) (k8 (a3d N a.2.1) fun e=>br (e.2.2 !=0) (some (([],[]),e.2)) (k8 (a1M N true) fun b=>k8 (Y1 N e.1 a.1 a.2.1 a.2.2.1 a.2.2.2 0 0 0 b.1 b.2.1 b.2.2.1 [] [] b.2.2.2.1 b.2.2.2.2) fun c=>br (c.1 !=0) (some (([],[]),c.2.2.2.2.2.2.1,c.1)) (c0b N (fun l=>k8 (K4 () l) fun m=>some ((a.1,m),0,0)) N c.2.2.2.2.2.2.2.2.2.2.2.2.1 [])))
abbrev e8t(f:SV [.v τ37]->BV []->Option τ42):AF:={ps:=[.v τ37],bs:=[],rs:=[.v τ33,V0,V0],cs:=[],R:=(d3×List τ19)×Int×Int,out:=fun z=>((z.1,z.2.1,z.2.2,()),()),f:=f}
abbrev d64:AF:=e8t fun x _=>a0r N x.1
abbrev d65:SV [.v τ33,V0,V0]->BV []->τ42:=fun x _=>(x.1,x.2.1,x.2.2.1)
def c50:FuncId->Option Tmp->Option AF:=fun f _=>P0 [(17,e26 N),(18,d6B N),(19,e9J N),(20,e3d N),(21,f2H fun x y=>K4 x.2.1 y.1)] f
theorem d2n:H5 (c50 N):=fun _ _ _ h=>r9 h (u4 (d9C N) (u4 (d1W N) (u4 (e0h N) (u4 (d9K N) (u4 (d7N) F1)))))
def e4r:Nat->Hint:=fun i=>
 match i with
 |0=>⟨[],[2,12,62],[1002,1012,1062,950001],[2,12],[1002,1012,950001],[(1012,1,950001,41,τ6)]⟩
 |100011=>⟨[1034,1035,1037],[],[],[],[],[]⟩
 |_=>o5
abbrev c71:Env:=M5 e4r (c50 N) (fun i=>match i with|70=>true|71=>true|_=>false) (fun _=>false)
noncomputable abbrev e8s:Code:=P9 (m8 Tryz.f7) [true,true,true,true,true,true,true,true,false,true,false,false]
abbrev f2e:=B4 (c71 N) Tryz.f7 (d64 N) d65
abbrev d2m:List (Nat×Sl):=[(2,.box 1002 0),(12,.box 1012 0),(62,.box 1062 0)]
abbrev b7T:List (Nat×Sb):=[(1002,.cells [V1,.nilS]),(1012,.cells [V1,.row 950001]),(1062,.iter τ6),(950001,.row 41 τ6 true)]
def b5a(y:HV b7T):St:=⟨77,[(2,.box 1002 0),(12,.box 1012 0)],[(1002,.cells [.v .str y.1.1,.nilS]),(1012,.cells [.v .str y.2.1.1,.row 950001]),(950001,.row 41 τ6 true y.2.2.2.1)]⟩
def c3n:T9 (τ42) d2m b7T:=fun K n x y=>c0b N (fun a=>K 0 (b5a (y.1,y.2.1,y.2.2.1,a,y.2.2.2.2))) n y.2.2.1 y.2.2.2.1
def d63:Nat->Code->St->(Ex->St->Option τ42)->Option τ42:=fun i c=>
 match i with
 |0=>U4 (c71 N) N 77 (c3n N) 0 c
 |i=>LpD (c71 N) N i c
theorem e2c:B2 (d63 N) (c71 N) N (f2e N) 0 e8s:=
 o0 (c3n N) (fun K f x y=>a7T N (fun a=>K 0 (b5a (y.1,y.2.1,y.2.2.1,a,y.2.2.2.2))) (fun i1062 b=>f x (y.1,y.2.1,i1062,b,y.2.2.2.2)) y.2.2.1 y.2.2.2.1)
theorem b7U:I6 7 (d64 N):=
 a0l (t6 e4r (c50 N) _ _ (d2n N)) Tryz.func7 Tryz.call7 (d64 N) d65 N (d63 N) (P5 (e2c N) U6)
def a5b:Option Bool:=k8 (a0r N ([],[116,97,114,103,101,116,40,110,97,109,101,32,61,32,34,97,34,44,32,107,105,110,100,32,61,32,34,107,34,41,59],[],[])) fun a=>br (a.2.2==0) (br (a.2.1==0) (br ((a.1.2.length:Int)==1) (k8 (n8 a.1.2 0) fun b=>some (b.1==[97])) (some false)) (some false)) (some false)
abbrev e8w:=E3 [] [] [V3] [] (Bool) fun z=>((z,()),())
abbrev e4v:AF:=e8w fun _ _=>a5b N
theorem d2o:I6 6 (e4v N):=
 N9 h0 (u4 (b7U N) F1) Tryz.func6 Tryz.call6 (e4v N) (fun x _=>x.1) N
end
end Go.Proofs.YtckdohagilcloaaGreatDoor
