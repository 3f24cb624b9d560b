/- % -/
import Derived.Test.YtckdohagilcloaaGreatDoorQWeF25
namespace Go.Proofs.YtckdohagilcloaaGreatDoor
open Go Go.RowKit
set_option maxRecDepth 100000
set_option linter.unusedVariables false
noncomputable section
variable(N:Nat)
def a5T(_N:Nat)(c6:ρ2)(B:List GExpr)(C:Int)(k0:ρ1)(self:Int->d3->d3->τ40->τ45->Int->Int->Int->τ32->Y7->Y8->(List (τa))->(List GValue)->Option (τd))(c:Int)(g l:d3)(m:List R2)(o:List τ7)(p q r:Int)(t:Option Unit)(u:τ43)(v:List τ4)(w:List (τa))(e:List GValue):Option (τd):=br (decide (c<C)) (k8 (n8 B c) fun b=>k8 (c6 (Ze b) g l m o p q r t u v w) fun a=>br (a.2.1 !=0) (some (a.2.1,a.2.2.1,a.2.2.2.1,a.2.2.2.2.1,a.2.2.2.2.2.1,a.2.2.2.2.2.2.1,a.2.2.2.2.2.2.2.1,a.2.2.2.2.2.2.2.2.1,a.2.2.2.2.2.2.2.2.2.1,a.2.2.2.2.2.2.2.2.2.2.1,a.2.2.2.2.2.2.2.2.2.2.2.1,a.2.2.2.2.2.2.2.2.2.2.2.2,[])) (br (Zf (e.length + [GValue.mk a.1.kind a.1.text a.1.number a.1.list a.1.cases].length) τ18) (self (IntKind.i64.wrap (c+1)) a.2.2.1 a.2.2.2.1 a.2.2.2.2.1 a.2.2.2.2.2.1 a.2.2.2.2.2.2.1 a.2.2.2.2.2.2.2.1 a.2.2.2.2.2.2.2.2.1 a.2.2.2.2.2.2.2.2.2.1 a.2.2.2.2.2.2.2.2.2.2.1 a.2.2.2.2.2.2.2.2.2.2.2.1 a.2.2.2.2.2.2.2.2.2.2.2.2 (e ++ [GValue.mk a.1.kind a.1.text a.1.number a.1.list a.1.cases])) none)) (k0 g l m o p q r t u v w e)
def a8v(N:Nat)(c6:ρ2)(a:List GExpr)(b:Int)(k0:ρ1):Nat->Int->d3->d3->τ40->τ45->Int->Int->Int->τ32->Y7->Y8->(List (τa))->(List GValue)->Option (τd)|0,_,_,_,_,_,_,_,_,_,_,_,_,_=>none|n+1,c,e,g,l,m,o,p,q,r,t,u,v,w=>a5T N c6 a b k0 (a8v N c6 a b k0 n) c e g l m o p q r t u v w
def C5(c6:ρ2)(a:List GExpr)(b c:d3)(e:List R2)(g:List τ7)(l m o:Int)(p:Option Unit)(m2:τ43)(m3:List τ4)(m4:List (τa)):Option (τd):=a8v N c6 a (a.length:Int) (fun q r t u v w B C D E H J=>some (0,q,r,t,u,v,w,B,C,D,E,H,J)) N 0 b c e g l m o p m2 m3 m4 []
abbrev f3l:=E3 [.box 0 0,.box 1 0,.v (.sl O1)] [.cells [V1,V1,.v τ17,.v τ10,V0,V0,V0,.mref 2,.mref 3],.cells [.v τ41,.mref 4,.nilS],.map τ5,.map τ6,.map τ8] [.row 5,V0] [.cells [V1,V1,.v τ17,.v τ10,V0,V0,V0,.mref 2,.mref 3],.cells [.v τ41,.mref 4,.nilS],.map τ5,.map τ6,.map τ8,.row 54 τ18 false] (τd) fun z=>(((),z.1,()),(z.2.1,z.2.2.1,z.2.2.2.1,z.2.2.2.2.1,z.2.2.2.2.2.1,z.2.2.2.2.2.2.1,z.2.2.2.2.2.2.2.1,(),(),()),(z.2.2.2.2.2.2.2.2.1,(),(),()),z.2.2.2.2.2.2.2.2.2.1,z.2.2.2.2.2.2.2.2.2.2.1,z.2.2.2.2.2.2.2.2.2.2.2.1,z.2.2.2.2.2.2.2.2.2.2.2.2,())
abbrev e2u(c6:ρ2):AF:=f3l fun x y=>let z:=y.1.2.2.2;C5 N c6 x.2.2.1 y.1.1 y.1.2.1 y.1.2.2.1 z.1 z.2.1 z.2.2.1 z.2.2.2.1 y.2.1.1 y.2.2.1 y.2.2.2.1 y.2.2.2.2.1
abbrev e4R:SV [.row 5,V0]->BV [.cells [V1,V1,.v τ17,.v τ10,V0,V0,V0,.mref 2,.mref 3],.cells [.v τ41,.mref 4,.nilS],.map τ5,.map τ6,.map τ8,.row 54 τ18 false]->(τd):=fun x y=>let z:=y.1.2.2.2;(x.2.1,y.1.1,y.1.2.1,y.1.2.2.1,z.1,z.2.1,z.2.2.1,z.2.2.2.1,y.2.1.1,y.2.2.1,y.2.2.2.1,y.2.2.2.2.1,y.2.2.2.2.2.1)
def d8p(_N:Nat)(c6:ρ2):FuncId->Option Tmp->Option AF:=fun f _=>P0 [(75,a9Z fun x y=>let z:=y.1.2.2.2;c6 x.2.2.1 y.1.1 y.1.2.1 y.1.2.2.1 z.1 z.2.1 z.2.2.1 z.2.2.2.1 y.2.1.1 y.2.2.1 y.2.2.2.1 y.2.2.2.2.1)] f
theorem d8q(c6:ρ2)(w7:Sound Tryz.prog GW x6 75 (a9Z fun x y=>let z:=y.1.2.2.2;c6 x.2.2.1 y.1.1 y.1.2.1 y.1.2.2.1 z.1 z.2.1 z.2.2.1 z.2.2.2.1 y.2.1.1 y.2.2.1 y.2.2.2.1 y.2.2.2.2.1)):∀f q F,d8p N c6 f q=some F->Sound Tryz.prog GW x6 f F:=fun _ _ _ h=>r9 h (u4 (w7) F1)
def d2C:Nat->Hint:=fun i=>
 match i with
 |0=>⟨[],[0,1,8,13,14,15],[0,1,2,3,4,1008],[8],[0,1,2,3,4,1008],[]⟩
 |_=>o5
abbrev c3B(c6:ρ2):Env:=M5 d2C (d8p N c6) (fun _=>false) (fun _=>false)
abbrev d2B(c6:ρ2):=B4 (c3B N c6) Tryz.f204 (e2u N c6) e4R
noncomputable abbrev c3D:Code:=P9 (m8 Tryz.f204) [true,true,false,true,false,false]
abbrev a9W:List (Nat×Sl):=[(0,.box 0 0),(1,.box 1 0),(8,.row 1008),(13,.v (.sl O1)),(14,V0),(15,V0)]
abbrev a9V:List (Nat×Sb):=[(0,.cells [V1,V1,.v τ17,.v τ10,V0,V0,V0,.mref 2,.mref 3]),(1,.cells [.v τ41,.mref 4,.nilS]),(2,.map τ5),(3,.map τ6),(4,.map τ8),(1008,.row 54 τ18 false)]
def b5m(a:List GExpr)(b c:Int)(e g:d3)(l:List R2)(m:List τ7)(o p q:Int)(r:Option Unit)(t:τ43)(u:List τ4)(w:List (τa))(B:List GValue):St:=⟨35,[(0,.box 0 0),(1,.box 1 0),(8,.row 1008),(13,.v (.sl O1) a),(14,.v τ3 b),(15,.v τ3 c)],[(0,.cells [.v .str e,.v .str g,.v τ17 l,.v τ10 m,.v τ3 o,.v τ3 p,.v τ3 q,.mref 2,.mref 3]),(1,.cells [.v τ41 r,.mref 4,.nilS]),(2,.map τ5 t),(3,.map τ6 u),(4,.map τ8 w),(1008,.row 54 τ18 false B)]⟩
def a7U(_u:List GExpr)(_w:Int)(a b:d3)(c:List R2)(e:List τ7)(g l m:Int)(o:Option Unit)(p:τ43)(q:List τ4)(r:List (τa))(t:List GValue):St:=⟨35,[(8,.row 1008)],[(0,.cells [.v .str a,.v .str b,.v τ17 c,.v τ10 e,.v τ3 g,.v τ3 l,.v τ3 m,.mref 2,.mref 3]),(1,.cells [.v τ41 o,.mref 4,.nilS]),(2,.map τ5 p),(3,.map τ6 q),(4,.map τ8 r),(1008,.row 54 τ18 false t)]⟩
def e2t(c6:ρ2)(a:List GExpr)(b c:Int)(e g:d3)(l:List R2)(m:List τ7)(o p q:Int)(r:Option Unit)(t:τ43)(u:List τ4)(v:List (τa))(w:List GValue)(k:Ex->St->Option (τd)):Option (τd):=a8v N c6 a b (fun B C D E H J K L O Q R T=>k (.exit 0) (a7U a b B C D E H J K L O Q R T)) N c e g l m o p q r t u v w
abbrev c8i(c6:ρ2):FV a9W->HV a9V->(Ex->St->Option (τd))->Option (τd):=fun x y k=>let z:=y.1.2.2.2;e2t N c6 x.2.2.2.1 x.2.2.2.2.1 x.2.2.2.2.2.1 y.1.1 y.1.2.1 y.1.2.2.1 z.1 z.2.1 z.2.2.1 z.2.2.2.1 y.2.1.1 y.2.2.1 y.2.2.2.1 y.2.2.2.2.1 y.2.2.2.2.2.1 k
def c3C(c6:ρ2):Nat->Code->St->(Ex->St->Option (τd))->Option (τd):=fun i c=>
 match i with
 |0=>(LPc 35 a9W a9V (c8i N c6) (fun st k=>iter (d2C 0) (Q0 (c3B N c6) N c 0) N st k))
 |i=>LpD (c3B N c6) N i c
theorem c57(c6:ρ2)(a:List GExpr)(b:Int)(KX:Nat->St->Option (τd))(I:St->Option (τd))(c:Int)(e g:d3)(l:List R2)(m:List τ7)(o p q:Int)(r:Option Unit)(t:τ43)(u:List τ4)(v:List (τa))(w1008:List GValue):
  Q4 (c3C N c6) (c3B N c6) c3D 0 (b5m a b c e g l m o p q r t u v w1008) (a2M (d2C 0) I KX (d2B N c6))=a5T N c6 a b (fun w B C D E H J K L O Q R=>KX 0 (a7U a b w B C D E H J K L O Q R)) (fun c e g l m o p q r t u v w1008=>I (b5m a b c e g l m o p q r t u v w1008)) c e g l m o p q r t u v w1008:=by kernel_rfl
theorem d8o(c6:ρ2):∀x y k,(∀st,k .ret st=(d2B N c6) st)->iter (d2C 0) (Q0 (c3B N c6) N c3D 0) N ⟨35,unF a9W x,unH a9V y⟩ k=c8i N c6 x y k:=fun x y k hk=>
 a0D (S:=(Int)×(d3)×(d3)×τ40×τ45×(Int)×(Int)×(Int)×τ32×Y7×Y8×(List (τa))×(List GValue)×Unit) (d2C 0) _ (Q4 (c3C N c6) (c3B N c6) c3D 0) (d2B N c6) (a0V _ _ N _ c3D 0 (show LoopsOk (c3C N c6) (c3B N c6) N (d2B N c6) []from trivial)) (fun s=>b5m x.2.2.2.1 x.2.2.2.2.1 s.1 s.2.1 s.2.2.1 s.2.2.2.1 s.2.2.2.2.1 s.2.2.2.2.2.1 s.2.2.2.2.2.2.1 s.2.2.2.2.2.2.2.1 s.2.2.2.2.2.2.2.2.1 s.2.2.2.2.2.2.2.2.2.1 s.2.2.2.2.2.2.2.2.2.2.1 s.2.2.2.2.2.2.2.2.2.2.2.1 s.2.2.2.2.2.2.2.2.2.2.2.2.1) k hk
  (fun self s=>let z:=s.2.2.2.2.2.2;a5T N c6 x.2.2.2.1 x.2.2.2.2.1 (fun a b c e g l m o p q r t=>k (.exit 0) (a7U x.2.2.2.1 x.2.2.2.2.1 a b c e g l m o p q r t)) (fun u v w B C D E H J K L O Q=>self (u,v,w,B,C,D,E,H,J,K,L,O,Q,())) s.1 s.2.1 s.2.2.1 s.2.2.2.1 s.2.2.2.2.1 s.2.2.2.2.2.1 z.1 z.2.1 z.2.2.1 z.2.2.2.1 z.2.2.2.2.1 z.2.2.2.2.2.1 z.2.2.2.2.2.2.1) (fun n s=>let z:=s.2.2.2.2.2.2;a8v N c6 x.2.2.2.1 x.2.2.2.2.1 (fun a b c e g l m o p q r t=>k (.exit 0) (a7U x.2.2.2.1 x.2.2.2.2.1 a b c e g l m o p q r t)) n s.1 s.2.1 s.2.2.1 s.2.2.2.1 s.2.2.2.2.1 s.2.2.2.2.2.1 z.1 z.2.1 z.2.2.1 z.2.2.2.1 z.2.2.2.2.1 z.2.2.2.2.2.1 z.2.2.2.2.2.2.1) (fun _=>rfl) (fun _ _=>rfl)
  (fun I s=>let z:=s.2.2.2.2.2.2;c57 N c6 x.2.2.2.1 x.2.2.2.2.1 (fun j=>k (.exit j)) I s.1 s.2.1 s.2.2.1 s.2.2.2.1 s.2.2.2.2.1 s.2.2.2.2.2.1 z.1 z.2.1 z.2.2.1 z.2.2.2.1 z.2.2.2.2.1 z.2.2.2.2.2.1 z.2.2.2.2.2.2.1) N (x.2.2.2.2.2.1,y.1.1,y.1.2.1,y.1.2.2.1,y.1.2.2.2.1,y.1.2.2.2.2.1,y.1.2.2.2.2.2.1,y.1.2.2.2.2.2.2.1,y.2.1.1,y.2.2.1,y.2.2.2.1,y.2.2.2.2.1,y.2.2.2.2.2.1,())
theorem e84(c6:ρ2):B2 (c3C N c6) (c3B N c6) N (d2B N c6) 0 c3D:=fun st k hk=>a4P 35 a9W a9V _ _ (d2B N c6) (d8o N c6) _ st k hk (rfl)
theorem d8r(c6:ρ2)(w7:Sound Tryz.prog GW x6 75 (a9Z fun x y=>let z:=y.1.2.2.2;c6 x.2.2.1 y.1.1 y.1.2.1 y.1.2.2.1 z.1 z.2.1 z.2.2.1 z.2.2.2.1 y.2.1.1 y.2.2.1 y.2.2.2.1 y.2.2.2.2.1)):Sound Tryz.prog GW x6 204 (e2u N c6):=
 a0l (t6 d2C (d8p N c6) _ _ (d8q N c6 w7)) Tryz.func204 Tryz.call204 (e2u N c6) e4R N (c3C N c6) (P5 (e84 N c6) U6)
def a5K(_N:Nat)(e:List GValue)(g:Int)(k0:τ24->Option (GValue×Int))(self:Int->τ24->Option (GValue×Int))(c:Int)(b:List d3):Option (GValue×Int):=br (decide (c<g)) (k8 (n8 e c) fun a=>br (a.kind==1) (br (Zf (b.length + [a.text].length) .str) (self (IntKind.i64.wrap (c+1)) (b ++ [a.text])) none) (br (a.kind==3) (br (Zf (b.length+a.list.length) .str) (self (IntKind.i64.wrap (c+1)) (b++a.list)) none) (some (GValue.mk 0 [] 0 [] [],6)))) (k0 b)
def b9W(N:Nat)(a:List GValue)(b:Int)(k0:τ24->Option (GValue×Int)):Nat->Int->τ24->Option (GValue×Int)|0,_,_=>none|n+1,c,e=>a5K N a b k0 (b9W N a b k0 n) c e
def a2f(a:List GValue):Option (GValue×Int):=b9W N a (a.length:Int) (fun b=>some (GValue.mk 3 [] 0 b [],0)) N 0 []
abbrev e7E:=E3 [.v (.sl τ18)] [] [.v τ18,V0] [] (GValue×Int) fun z=>((z.1,z.2,()),())
abbrev c7w:AF:=e7E fun x _=>a2f N x.1
abbrev d54:SV [.v τ18,V0]->BV []->(GValue×Int):=fun x _=>(x.1,x.2.1)
def d53(_N:Nat):FuncId->Option Tmp->Option AF:=fun f _=>P0 [] f
theorem d1n:H5 (d53 N):=fun _ _ _ h=>r9 h F1
def f1D:Nat->Hint:=fun i=>
 match i with
 |0=>⟨[],[2,4,8,9,10],[1002,1004,900001],[2,4],[1002,1004,900001],[(1004,3,900001,9,.str)]⟩
 |_=>o5
abbrev c7v:Env:=M5 f1D (d53 N) FF FF
noncomputable abbrev e7D:Code:=P9 (m8 Tryz.f205) [true,true,false,true,false,false]
abbrev f1C:=B4 (c7v N) Tryz.f205 (c7w N) d54
abbrev d1m:List (Nat×Sl):=[(2,.box 1002 0),(4,.box 1004 0),(8,.v (.sl τ18)),(9,V0),(10,V0)]
abbrev b03:List (Nat×Sb):=[(1002,.cells [V0,V1,V0,.nilS,.nilS]),(1004,.cells [V0,V1,V0,.row 900001,.nilS]),(900001,.row 9 .str false)]
def b4L(y:HV b03):St:=⟨36,[(2,.box 1002 0),(4,.box 1004 0)],unH b03 y⟩
def c2T:T9 ((GValue×Int)) d1m b03:=fun K n x y=>b9W N x.2.2.1 x.2.2.2.1 (fun a=>K 0 (b4L (y.1,y.2.1,a,y.2.2.2))) n x.2.2.2.2.1 y.2.2.1
def d52:Nat->Code->St->(Ex->St->Option (GValue×Int))->Option (GValue×Int):=fun i c=>
 match i with
 |0=>U4 (c7v N) N 36 (c2T N) 0 c
 |i=>LpD (c7v N) N i c
theorem e1P:B2 (d52 N) (c7v N) N (f1C N) 0 e7D:=
 o0 (c2T N) (fun K f x y=>a5K N x.2.2.1 x.2.2.2.1 (fun a=>K 0 (b4L (y.1,y.2.1,a,y.2.2.2))) (fun b c=>f (x.1,x.2.1,x.2.2.1,x.2.2.2.1,b,x.2.2.2.2.2) (y.1,y.2.1,c,y.2.2.2)) x.2.2.2.2.1 y.2.2.1)
theorem d1o:I6 205 (c7w N):=
 X0 (d1n N) Tryz.func205 Tryz.call205 (c7w N) d54 N (d52 N) (P5 (e1P N) U6)
end
end Go.Proofs.YtckdohagilcloaaGreatDoor
