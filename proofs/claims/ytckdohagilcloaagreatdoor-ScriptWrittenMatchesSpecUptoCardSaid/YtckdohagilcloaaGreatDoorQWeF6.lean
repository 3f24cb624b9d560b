/- % -/
import Derived.Test.YtckdohagilcloaaGreatDoorQWeF4
namespace Go.Proofs.YtckdohagilcloaaGreatDoor
set_option maxRecDepth 100000
set_option linter.unusedVariables false
open Go Go.RowKit
noncomputable section
noncomputable section
variable(N:Nat)
def a7e(_N:Nat)(k9:ρ11)(o:Int)(p:List GPart)(q:Int)(k0:ρ10)(self:Int->τ22->Int->Int->(List GExpr)->Option (GExpr×List τ1×Int×Int))(c:Int)(g:List τ1)(l m:Int)(e:List GExpr):Option (GExpr×List τ1×Int×Int):=br (decide (c<q)) (k8 (n8 p c) fun a=>k8 (k9 (GPart.mk a.kind a.text a.number a.keys a.at_ a.kids) o g l m) fun b=>br (Zf (e.length + [b.1].length) O1) (self (IntKind.i64.wrap (c+1)) b.2.1 b.2.2.1 b.2.2.2 (e ++ [b.1])) none) (k0 g l m e)
def b8f(N:Nat)(k9:ρ11)(a:Int)(b:List GPart)(c:Int)(k0:ρ10):Nat->Int->τ22->Int->Int->(List GExpr)->Option (GExpr×List τ1×Int×Int)|0,_,_,_,_,_=>none|n+1,e,g,l,m,o=>a7e N k9 a b c k0 (b8f N k9 a b c k0 n) e g l m o
def I4(k9:ρ11)(a:GPart)(e:Int)(p:List τ1)(q r:Int):Option (GExpr×List τ1×Int×Int):=k8 (R9 N a.at_ e p q r) fun b=>br (a.kind==0) (k8 (n8 a.kids 0) fun t=>k8 (k9 t (IntKind.i64.wrap (e+1)) b.1 b.2.1 b.2.2) fun c=>some (Ze c.1,c.2)) (br (a.kind !=7) (b8f N k9 (IntKind.i64.wrap (e+1)) a.kids (a.kids.length:Int) (fun g l m o=>some (GExpr.mk a.kind a.text a.number a.keys o,g,l,m)) N 0 b.1 b.2.1 b.2.2 []) (b8f N k9 e a.kids (a.kids.length:Int) (fun g l m o=>some (GExpr.mk a.kind a.text a.number a.keys o,g,l,m)) N 0 b.1 b.2.1 b.2.2 []))
abbrev f3u:=E3 [.box 0 0,.v (.rc .part),V0] [.cells [V2,V0,V0]] [.v O1] [.cells [V2,V0,V0]] (GExpr×List τ1×Int×Int) fun z=>((z.1,()),(z.2.1,z.2.2.1,z.2.2.2,()),())
abbrev e86(k9:ρ11):AF:=f3u fun x y=>I4 N k9 x.2.1 x.2.2.1 y.1.1 y.1.2.1 y.1.2.2.1
abbrev e4V:SV [.v O1]->BV [.cells [V2,V0,V0]]->(GExpr×List τ1×Int×Int):=fun x y=>(x.1,y.1.1,y.1.2.1,y.1.2.2.1)
def d8A(k9:ρ11):FuncId->Option Tmp->Option AF:=fun f _=>P0 [(137,e3g N),(201,c8G fun x y=>k9 x.2.1 x.2.2.1 y.1.1 y.1.2.1 y.1.2.2.1)] f
theorem d8B(k9:ρ11)(a0o:Sound Tryz.prog GW x6 201 (c8G fun x y=>k9 x.2.1 x.2.2.1 y.1.1 y.1.2.1 y.1.2.2.1)):∀f q F,d8A N k9 f q=some F->Sound Tryz.prog GW x6 f F:=fun _ _ _ h=>r9 h (u4 (c33 N) (u4 (a0o) F1))
def f3t:Nat->Hint:=fun i=>
 match i with
 |0=>⟨[],[0,2,6,7,36,37,38],[0,1006,1007,900001],[6,7],[0,1006,1007,900001],[(1007,4,900001,45,O1)]⟩
 |100010=>⟨[1007,1009,900001],[],[],[],[],[]⟩
 |_=>o5
abbrev e2x(k9:ρ11):Env:=M5 f3t (d8A N k9) (fun _=>false) (fun _=>false)
abbrev f7d(k9:ρ11):=B4 (e2x N k9) Tryz.f201 (e86 N k9) e4V
noncomputable abbrev f3s:Code:=P9 (m8 Tryz.f201) [true,true,true,true,true,false,true,false,false]
abbrev d8z:List (Nat×Sl):=[(0,.box 0 0),(2,V0),(6,.box 1006 0),(7,.box 1007 0),(36,.v (.sl (.rc .part))),(37,V0),(38,V0)]
abbrev b5n:List (Nat×Sb):=[(0,.cells [V2,V0,V0]),(1006,.cells [V0,V1,V0,.nilS,.nilS]),(1007,.cells [V0,V1,V0,V4,.row 900001]),(900001,.row 45 O1 false)]
def b8g(y:HV b5n):St:=⟨53,[(6,.box 1006 0),(7,.box 1007 0)],unH b5n y⟩
def c8l(k9:ρ11):T9 ((GExpr×List τ1×Int×Int)) d8z b5n:=fun K n x y=>b8f N k9 x.2.1 x.2.2.2.2.1 x.2.2.2.2.2.1 (fun a b c e=>K 0 (b8g ((a,b,c,y.1.2.2.2),y.2.1,y.2.2.1,e,y.2.2.2.2))) n x.2.2.2.2.2.2.1 y.1.1 y.1.2.1 y.1.2.2.1 y.2.2.2.1
def e4U(k9:ρ11):Nat->Code->St->(Ex->St->Option (GExpr×List τ1×Int×Int))->Option (GExpr×List τ1×Int×Int):=fun i c=>
 match i with
 |0=>U4 (e2x N k9) N 53 (c8l N k9) 0 c
 |i=>LpD (e2x N k9) N i c
theorem e87(k9:ρ11):B2 (e4U N k9) (e2x N k9) N (f7d N k9) 0 f3s:=
 o0 (c8l N k9) (fun K f x y=>a7e N k9 x.2.1 x.2.2.2.2.1 x.2.2.2.2.2.1 (fun a b c e=>K 0 (b8g ((a,b,c,y.1.2.2.2),y.2.1,y.2.2.1,e,y.2.2.2.2))) (fun g l m o p=>f (x.1,x.2.1,x.2.2.1,x.2.2.2.1,x.2.2.2.2.1,x.2.2.2.2.2.1,g,x.2.2.2.2.2.2.2) ((l,m,o,y.1.2.2.2),y.2.1,y.2.2.1,p,y.2.2.2.2)) x.2.2.2.2.2.2.1 y.1.1 y.1.2.1 y.1.2.2.1 y.2.2.2.1)
theorem d8C(k9:ρ11)(a0o:Sound Tryz.prog GW x6 201 (c8G fun x y=>k9 x.2.1 x.2.2.1 y.1.1 y.1.2.1 y.1.2.2.1)):Sound Tryz.prog GW x6 201 (e86 N k9):=
 a0l (t6 f3t (d8A N k9) _ _ (d8B N k9 a0o)) Tryz.func201 Tryz.call201 (e86 N k9) e4V N (e4U N k9) (P5 (e87 N k9) U6)
def D9(N:Nat):Nat->GPart->Int->τ22->Int->Int->Option (GExpr×List τ1×Int×Int)|0=>fun _ _ _ _ _=>none|d+1=>I4 N (D9 N d)
theorem c34(N:Nat):∀d,Sound Tryz.prog GW x6 201 (c8G fun x y=>D9 N d x.2.1 x.2.2.1 y.1.1 y.1.2.1 y.1.2.2.1)
 |0=>Sound.never Tryz.call201 (fun _ _=>rfl)
 |d+1=>d8C N (D9 N d) (c34 N d)
def B5(c:Int)(e:List τ1)(g l:Int):Option (GExpr×List τ1×Int×Int):=k8 (u0 N N e g l) fun b=>k8 (D9 N N b.1 (IntKind.i64.wrap (c+1)) b.2.1 b.2.2.1 b.2.2.2) fun a=>some (Ze a.1,a.2)
abbrev f4m:=E3 [.box 0 0,V0] [.cells [V2,V0,V0]] [.v O1] [.cells [V2,V0,V0]] (GExpr×List τ1×Int×Int) fun z=>((z.1,()),(z.2.1,z.2.2.1,z.2.2.2,()),())
abbrev e21:AF:=f4m fun x y=>B5 N x.2.1 y.1.1 y.1.2.1 y.1.2.2.1
theorem a90:I6 145 (e21 N):=
 N9 h0 (u4 (c34 N N) (u4 (c32 N N) F1)) Tryz.func145 Tryz.call145 (e21 N) (fun x y=>(x.1,y.1.1,y.1.2.1,y.1.2.2.1)) N
def q6(b:d3×List τ1×Int×Int)(a:GExpr×List τ1×Int×Int)(c e:Int)(g l:d3)(m:Int)(o:d3)(p q:Int):Option (τi):=br (Zf [(b.1,Ze a.1)].length (.pr .str O1)) (some (c,a.2.1,a.2.2.1,a.2.2.2,e,g,l,m,o,p,q,[(b.1,Ze a.1)])) none
def J9(b:Int)(t:List τ1)(u v c:Int)(e g:d3)(l:Int)(m:d3)(o p:Int):Option (τi):=k8 (E0 N t u v) fun a=>k8 (l8 N [61] a.2.1 a.2.2.1 a.2.2.2) fun r=>k8 (B5 N b r.1 r.2.1 r.2.2) fun q=>q7 (q7 (o3 2 (q6 a q b c e g l m o p)) (q7 (o3 1 (q6 a q b c e g l m o p)) (q6 a q b c e g l m o p))) (q7 (q7 (o3 2 (q6 a q b c e g l m o p)) (q7 (o3 3 (q6 a q b c e g l m o p)) (q7 (o3 1 (q6 a q b c e g l m o p)) (o3 1 (o3 2 (q6 a q b c e g l m o p)))))) (q7 (q7 (o3 1 (q6 a q b c e g l m o p)) (q6 a q b c e g l m o p)) (q7 (q7 (o3 1 (q6 a q b c e g l m o p)) (o3 1 (o3 2 (q6 a q b c e g l m o p)))) (o3 3 (q6 a q b c e g l m o p)))))
abbrev f2C:=E3 [.box 0 0,.box 1 0,.box 2 0] [.cells [.box 3 0],.cells [V0],.cells [.box 4 0],.cells [V2,V0,V0],.cells [V0,V1,V1,.nilS,.nilS,V0,V1,V0,.nilS,.nilS,.nilS,.nilS,V0]] [] [.cells [.box 3 0],.cells [V0],.cells [.box 4 0],.cells [V2,V0,V0],.cells [V0,V1,V1,.nilS,.row 5,V0,V1,V0,.nilS,.nilS,.nilS,.nilS,V0],.row 48 (.pr .str O1) false] (τi) fun z=>((),((),()),(z.1,()),((),()),(z.2.1,z.2.2.1,z.2.2.2.1,()),(z.2.2.2.2.1,z.2.2.2.2.2.1,z.2.2.2.2.2.2.1,(),(),z.2.2.2.2.2.2.2.1,z.2.2.2.2.2.2.2.2.1,z.2.2.2.2.2.2.2.2.2.1,(),(),(),(),z.2.2.2.2.2.2.2.2.2.2.1,()),z.2.2.2.2.2.2.2.2.2.2.2,())
abbrev e8P:AF:=f2C fun _ y=>let z:=y.2.2.2.2.1.2.2.2.2.2;let u:=y.2.2.2;J9 N y.2.1.1 u.1.1 u.1.2.1 u.1.2.2.1 u.2.1.1 u.2.1.2.1 u.2.1.2.2.1 z.1 z.2.1 z.2.2.1 z.2.2.2.2.2.2.2.1
def f6M:Nat->Hint:=fun i=>
 match i with
 |100003=>⟨[],[1,2],[],[],[],[]⟩
 |_=>o5
theorem d7H:I6 203 (e8P N):=
 N9 f6M (u4 (a95 N) (u4 (a03 N) (u4 (a90 N) F1))) Tryz.func203 Tryz.call203 (e8P N) (fun _ y=>let z:=y.2.2.2.2.1.2.2.2.2.2;let u:=y.2.2.2;(y.2.1.1,u.1.1,u.1.2.1,u.1.2.2.1,u.2.1.1,u.2.1.2.1,u.2.1.2.2.1,z.1,z.2.1,z.2.2.1,z.2.2.2.2.2.2.2.1,u.2.2.1)) N
def o4(b:List (d3×GExpr))(c:d3×List τ1×Int×Int)(a:GExpr×List τ1×Int×Int)(e g:Int)(l m:d3)(o:Int)(p:d3)(q r:Int):Option (τi):=br (Zf (b.length + [(c.1,Ze a.1)].length) (.pr .str O1)) (some (e,a.2.1,a.2.2.1,a.2.2.2,g,l,m,o,p,q,r,b ++ [(c.1,Ze a.1)])) none
def M7(b:Int)(u:List τ1)(v w c:Int)(e g:d3)(l:Int)(m:d3)(o p:Int)(q:List (d3×GExpr)):Option (τi):=k8 (E0 N u v w) fun a=>k8 (l8 N [61] a.2.1 a.2.2.1 a.2.2.2) fun t=>k8 (B5 N b t.1 t.2.1 t.2.2) fun r=>q7 (q7 (o3 2 (o4 q a r b c e g l m o p)) (q7 (o3 1 (o4 q a r b c e g l m o p)) (o4 q a r b c e g l m o p))) (q7 (q7 (o3 2 (o4 q a r b c e g l m o p)) (q7 (o3 3 (o4 q a r b c e g l m o p)) (q7 (o3 1 (o4 q a r b c e g l m o p)) (o3 1 (o3 2 (o4 q a r b c e g l m o p)))))) (q7 (q7 (o3 1 (o4 q a r b c e g l m o p)) (o4 q a r b c e g l m o p)) (q7 (q7 (o3 1 (o4 q a r b c e g l m o p)) (o3 1 (o3 2 (o4 q a r b c e g l m o p)))) (o3 3 (o4 q a r b c e g l m o p)))))
abbrev f2y:=E3 [.box 0 0,.box 1 0,.box 2 0] [.cells [.box 3 0],.cells [V0],.cells [.box 4 0],.cells [V2,V0,V0],.cells [V0,V1,V1,.nilS,.row 5,V0,V1,V0,.nilS,.nilS,.nilS,.nilS,V0],.row 48 (.pr .str O1) false] [] [.cells [.box 3 0],.cells [V0],.cells [.box 4 0],.cells [V2,V0,V0],.cells [V0,V1,V1,.nilS,.row 5,V0,V1,V0,.nilS,.nilS,.nilS,.nilS,V0],.row 48 (.pr .str O1) false] (τi) fun z=>((),((),()),(z.1,()),((),()),(z.2.1,z.2.2.1,z.2.2.2.1,()),(z.2.2.2.2.1,z.2.2.2.2.2.1,z.2.2.2.2.2.2.1,(),(),z.2.2.2.2.2.2.2.1,z.2.2.2.2.2.2.2.2.1,z.2.2.2.2.2.2.2.2.2.1,(),(),(),(),z.2.2.2.2.2.2.2.2.2.2.1,()),z.2.2.2.2.2.2.2.2.2.2.2,())
abbrev e8M:AF:=f2y fun _ y=>let z:=y.2.2.2.2.1.2.2.2.2.2;let u:=y.2.2.2;M7 N y.2.1.1 u.1.1 u.1.2.1 u.1.2.2.1 u.2.1.1 u.2.1.2.1 u.2.1.2.2.1 z.1 z.2.1 z.2.2.1 z.2.2.2.2.2.2.2.1 u.2.2.1
def f6K:Nat->Hint:=fun i=>
 match i with
 |100003=>⟨[],[1,2],[],[],[],[]⟩
 |_=>o5
theorem d7C:I6 203 (e8M N):=
 N9 f6K (u4 (a95 N) (u4 (a03 N) (u4 (a90 N) F1))) Tryz.func203 Tryz.call203 (e8M N) (fun _ y=>let z:=y.2.2.2.2.1.2.2.2.2.2;let u:=y.2.2.2;(y.2.1.1,u.1.1,u.1.2.1,u.1.2.2.1,u.2.1.1,u.2.1.2.1,u.2.1.2.2.1,z.1,z.2.1,z.2.2.1,z.2.2.2.2.2.2.2.1,u.2.2.1)) N
end
end
noncomputable section
noncomputable section
variable(N:Nat)
def b1s(k0 self:ρ4)(t:List τ1)(u v:Int)(c e:Int)(g l:d3)(m:Int)(o:d3)(p q:Int)(r:List (d3×GExpr)):Option (τf):=k8 (n3 N 4 [44] t u v) fun b=>br (b.1) (k8 (M7 N c b.2.1 b.2.2.1 b.2.2.2 e g l m o p q r) fun a=>self a.2.1 a.2.2.1 a.2.2.2.1 a.1 a.2.2.2.2.1 a.2.2.2.2.2.1 a.2.2.2.2.2.2.1 a.2.2.2.2.2.2.2.1 a.2.2.2.2.2.2.2.2.1 a.2.2.2.2.2.2.2.2.2.1 a.2.2.2.2.2.2.2.2.2.2.1 a.2.2.2.2.2.2.2.2.2.2.2) (k0 b.2.1 b.2.2.1 b.2.2.2 c e g l m o p q r)
def c3U(N:Nat)(k0:ρ4):Nat->τ22->Int->Int->Int->Int->d3->d3->Int->d3->Int->Int->(List (d3×GExpr))->Option (τf)|0,_,_,_,_,_,_,_,_,_,_,_,_=>none|n+1,a,b,c,e,g,l,m,o,p,q,r,t=>b1s N k0 (c3U N k0 n) a b c e g l m o p q r t
def V7(e:d3)(W:Bool)(T:List τ1)(U V:Int)(g l:Int)(m o:d3)(p:Int)(q:d3)(r t:Int):Option (τf):=br (W) (k8 (n3 N 4 e T U V) fun c=>br (c.1) (some (c.2.1,c.2.2.1,c.2.2.2,g,l,m,o,[],p,q,r,t)) (k8 (J9 N g c.2.1 c.2.2.1 c.2.2.2 l m o p q r t) fun a=>c3U N (fun u v w B C D E H J K L O=>k8 (l8 N e u v w) fun Q=>some (Q.1,Q.2.1,Q.2.2,B,C,D,E,O,H,J,K,L)) N a.2.1 a.2.2.1 a.2.2.2.1 a.1 a.2.2.2.2.1 a.2.2.2.2.2.1 a.2.2.2.2.2.2.1 a.2.2.2.2.2.2.2.1 a.2.2.2.2.2.2.2.2.1 a.2.2.2.2.2.2.2.2.2.1 a.2.2.2.2.2.2.2.2.2.2.1 a.2.2.2.2.2.2.2.2.2.2.2)) (k8 (J9 N g T U V l m o p q r t) fun b=>c3U N (fun u v w B C D E H J K L O=>k8 (l8 N e u v w) fun R=>some (R.1,R.2.1,R.2.2,B,C,D,E,O,H,J,K,L)) N b.2.1 b.2.2.1 b.2.2.2.1 b.1 b.2.2.2.2.1 b.2.2.2.2.2.1 b.2.2.2.2.2.2.1 b.2.2.2.2.2.2.2.1 b.2.2.2.2.2.2.2.2.1 b.2.2.2.2.2.2.2.2.2.1 b.2.2.2.2.2.2.2.2.2.2.1 b.2.2.2.2.2.2.2.2.2.2.2)
abbrev f4l:=E3 [.box 0 0,V1,V3,.fnc 203 [1,2,3]] [.cells [V2,V0,V0],.cells [.box 0 0],.cells [V0],.cells [.box 4 0],.cells [V0,V1,V1,.nilS,.nilS,V0,V1,V0,.nilS,.nilS,.nilS,.nilS,V0]] [] [.cells [V2,V0,V0],.cells [.box 0 0],.cells [V0],.cells [.box 4 0],.cells [V0,V1,V1,.nilS,.v τ29,V0,V1,V0,.nilS,.nilS,.nilS,.nilS,V0]] (τf) fun z=>((),(z.1,z.2.1,z.2.2.1,()),((),()),(z.2.2.2.1,()),((),()),(z.2.2.2.2.1,z.2.2.2.2.2.1,z.2.2.2.2.2.2.1,(),z.2.2.2.2.2.2.2.1,z.2.2.2.2.2.2.2.2.1,z.2.2.2.2.2.2.2.2.2.1,z.2.2.2.2.2.2.2.2.2.2.1,(),(),(),(),z.2.2.2.2.2.2.2.2.2.2.2,()),())
abbrev e20:AF:=f4l fun x y=>let z:=y.2.2.2.2.1.2.2.2.2.2;let u:=y.2.2.2.2.1;V7 N x.2.1 x.2.2.1 y.1.1 y.1.2.1 y.1.2.2.1 y.2.2.1.1 u.1 u.2.1 u.2.2.1 z.1 z.2.1 z.2.2.1 z.2.2.2.2.2.2.2.1
abbrev e5g:SV []->BV [.cells [V2,V0,V0],.cells [.box 0 0],.cells [V0],.cells [.box 4 0],.cells [V0,V1,V1,.nilS,.v τ29,V0,V1,V0,.nilS,.nilS,.nilS,.nilS,V0]]->(τf):=fun _ y=>let z:=y.2.2.2.2.1.2.2.2.2;let u:=y.2.2.2.2.1;(y.1.1,y.1.2.1,y.1.2.2.1,y.2.2.1.1,u.1,u.2.1,u.2.2.1,z.1,z.2.1,z.2.2.1,z.2.2.2.1,z.2.2.2.2.2.2.2.2.1)
def d9p:FuncId->Option Tmp->Option AF:=fun f q=>
 match f with
  |138=>some (b5C N)
  |140=>some (b57 N)
  |203=>match q with|some 15=>some (e8P N)|some 19=>some (e8M N)|_=>none
  |_=>none
theorem d9q:H5 (d9p N):=by
 intro f q F h;unfold d9p at h;split at h
 ·cases h;exact a04 N
 ·cases h;exact a03 N
 ·split at h
  ·cases h;exact d7H N
  ·cases h;exact d7C N
  ·cases h
 ·cases h
def f7A:Nat->Hint:=fun i=>
 match i with
 |0=>⟨[],[0,1,3],[0,1,2,3,4,101500],[0,1],[0,1,2,3,4,101500],[]⟩
 |_=>o5
abbrev e2Z:Env:=M5 f7A (d9p N) FF FF
abbrev f7z:=B4 (e2Z N) Tryz.f141 (e20 N) e5g
abbrev c3V:List (Nat×Sl):=[(0,.box 0 0),(1,V1),(3,.fnc 203 [1,2,3])]
abbrev b5x:List (Nat×Sb):=[(0,.cells [V2,V0,V0]),(1,.cells [.box 0 0]),(2,.cells [V0]),(3,.cells [.box 4 0]),(4,.cells [V0,V1,V1,.nilS,.row 101500,V0,V1,V0,.nilS,.nilS,.nilS,.nilS,V0]),(101500,.row 48 (.pr .str O1) false)]
def b8p(x:FV c3V)(y:HV b5x):St:=⟨23,[(0,.box 0 0),(1,.v .str x.2.1)],unH b5x y⟩
def c8z:T9 ((τf)) c3V b5x:=fun K n x y=>c3U N (fun a b c e g l m o p q r t=>K 0 (b8p x ((a,b,c,y.1.2.2.2),y.2.1,(e,y.2.2.1.2),y.2.2.2.1,(g,l,m,y.2.2.2.2.1.2.2.2.1,y.2.2.2.2.1.2.2.2.2.1,o,p,q,y.2.2.2.2.1.2.2.2.2.2.2.2.2.1,y.2.2.2.2.1.2.2.2.2.2.2.2.2.2.1,y.2.2.2.2.1.2.2.2.2.2.2.2.2.2.2.1,y.2.2.2.2.1.2.2.2.2.2.2.2.2.2.2.2.1,r,y.2.2.2.2.1.2.2.2.2.2.2.2.2.2.2.2.2.2),t,y.2.2.2.2.2.2))) n y.1.1 y.1.2.1 y.1.2.2.1 y.2.2.1.1 y.2.2.2.2.1.1 y.2.2.2.2.1.2.1 y.2.2.2.2.1.2.2.1 y.2.2.2.2.1.2.2.2.2.2.1 y.2.2.2.2.1.2.2.2.2.2.2.1 y.2.2.2.2.1.2.2.2.2.2.2.2.1 y.2.2.2.2.1.2.2.2.2.2.2.2.2.2.2.2.2.1 y.2.2.2.2.2.1
def e5f:Nat->Code->St->(Ex->St->Option (τf))->Option (τf):=fun i c=>
 match i with
 |0=>U4 (e2Z N) N 23 (c8z N) 0 c
 |i=>LpD (e2Z N) N i c
theorem e9s:B2 (e5f N) (e2Z N) N (f7z N) 0 b9J:=
 o0 (c8z N) (fun K f x y=>b1s N (fun a b c e g l m o p q r t=>K 0 (b8p x ((a,b,c,y.1.2.2.2),y.2.1,(e,y.2.2.1.2),y.2.2.2.1,(g,l,m,y.2.2.2.2.1.2.2.2.1,y.2.2.2.2.1.2.2.2.2.1,o,p,q,y.2.2.2.2.1.2.2.2.2.2.2.2.2.1,y.2.2.2.2.1.2.2.2.2.2.2.2.2.2.1,y.2.2.2.2.1.2.2.2.2.2.2.2.2.2.2.1,y.2.2.2.2.1.2.2.2.2.2.2.2.2.2.2.2.1,r,y.2.2.2.2.1.2.2.2.2.2.2.2.2.2.2.2.2.2),t,y.2.2.2.2.2.2))) (fun u v w B C D E H J L O Q=>f x ((u,v,w,y.1.2.2.2),y.2.1,(B,y.2.2.1.2),y.2.2.2.1,(C,D,E,y.2.2.2.2.1.2.2.2.1,y.2.2.2.2.1.2.2.2.2.1,H,J,L,y.2.2.2.2.1.2.2.2.2.2.2.2.2.1,y.2.2.2.2.1.2.2.2.2.2.2.2.2.2.1,y.2.2.2.2.1.2.2.2.2.2.2.2.2.2.2.1,y.2.2.2.2.1.2.2.2.2.2.2.2.2.2.2.2.1,O,y.2.2.2.2.1.2.2.2.2.2.2.2.2.2.2.2.2.2),Q,y.2.2.2.2.2.2)) y.1.1 y.1.2.1 y.1.2.2.1 y.2.2.1.1 y.2.2.2.2.1.1 y.2.2.2.2.1.2.1 y.2.2.2.2.1.2.2.1 y.2.2.2.2.1.2.2.2.2.2.1 y.2.2.2.2.1.2.2.2.2.2.2.1 y.2.2.2.2.1.2.2.2.2.2.2.2.1 y.2.2.2.2.1.2.2.2.2.2.2.2.2.2.2.2.2.1 y.2.2.2.2.2.1)
theorem d9r:I6 141 (e20 N):=
 X0 (d9q N) Tryz.func141 Tryz.call141 (e20 N) e5g N (e5f N) (P5 (e9s N) U6)
def a0s(l:Int)(r:List τ1)(t u _C:Int)(m o:d3)(v:Int)(w:d3)(B p:Int):Option (List τ1×Int×Int×Int×d3×d3×List (d3×GExpr)×Int×d3×Int×List d3×List GExpr×Int):=k8 (n3 N 4 [40] r t u) fun c=>br (c.1) (k8 (V7 N [41] true c.2.1 c.2.2.1 c.2.2.2 l 2 m o v w B p) fun b=>k8 (l8 N [59] b.1 b.2.1 b.2.2.1) fun q=>some (q.1,q.2.1,q.2.2,b.2.2.2.2.1,b.2.2.2.2.2.1,b.2.2.2.2.2.2.1,b.2.2.2.2.2.2.2.1,b.2.2.2.2.2.2.2.2.1,b.2.2.2.2.2.2.2.2.2.1,b.2.2.2.2.2.2.2.2.2.2.1,[],[],b.2.2.2.2.2.2.2.2.2.2.2)) (k8 (l8 N [61] c.2.1 c.2.2.1 c.2.2.2) fun g=>q7 (o3 1 (k8 (B5 N l g.1 g.2.1 g.2.2) fun a=>k8 (l8 N [59] a.2.1 a.2.2.1 a.2.2.2) fun e=>some (e.1,e.2.1,e.2.2,1,m,o,[],a.1.kind,a.1.text,a.1.number,a.1.keys,a.1.kids,p))) (o3 1 (o3 2 (k8 (B5 N l g.1 g.2.1 g.2.2) fun a=>k8 (l8 N [59] a.2.1 a.2.2.1 a.2.2.2) fun e=>some (e.1,e.2.1,e.2.2,1,m,o,[],a.1.kind,a.1.text,a.1.number,a.1.keys,a.1.kids,p)))))
abbrev f3w:=E3 [.box 0 0,.box 1 0,V0] [.cells [V2,V0,V0],.cells [V0,V1,V1,.nilS,.nilS,V0,V1,V0,.nilS,.nilS,.nilS,.nilS,V0]] [] [.cells [V2,V0,V0],.cells [V0,V1,V1,.nilS,.v τ29,V0,V1,V0,V4,.v (.sl O1),.nilS,.nilS,V0]] (List τ1×Int×Int×Int×d3×d3×List (d3×GExpr)×Int×d3×Int×List d3×List GExpr×Int) fun z=>((),(z.1,z.2.1,z.2.2.1,()),(z.2.2.2.1,z.2.2.2.2.1,z.2.2.2.2.2.1,(),z.2.2.2.2.2.2.1,z.2.2.2.2.2.2.2.1,z.2.2.2.2.2.2.2.2.1,z.2.2.2.2.2.2.2.2.2.1,z.2.2.2.2.2.2.2.2.2.2.1,z.2.2.2.2.2.2.2.2.2.2.2.1,(),(),z.2.2.2.2.2.2.2.2.2.2.2.2,()),())
abbrev e88:AF:=f3w fun x y=>let z:=y.2.1.2.2.2.2.2;a0s N x.2.2.1 y.1.1 y.1.2.1 y.1.2.2.1 y.2.1.1 y.2.1.2.1 y.2.1.2.2.1 z.1 z.2.1 z.2.2.1 z.2.2.2.2.2.2.2.1
def d8D:FuncId->Option Tmp->Option AF:=fun f _=>P0 [(138,b5C N),(140,b57 N),(141,e20 N),(145,e21 N)] f
theorem d8E:H5 (d8D N):=fun _ _ _ h=>r9 h (u4 (a04 N) (u4 (a03 N) (u4 (d9r N) (u4 (a90 N) F1))))
def f3v:Nat->Hint:=fun i=>
 match i with
 |100006=>⟨[],[1,2],[],[],[],[]⟩
 |_=>o5
abbrev f7e:Env:=M5 f3v (d8D N) (fun _=>false) (fun i=>match i with|203=>true|_=>false)
theorem d8F:I6 147 (e88 N):=
 T5 (f7e N) (t6 f3v (d8D N) _ _ (d8E N)) Tryz.func147 Tryz.call147 (e88 N) (fun _ y=>let z:=y.2.1.2.2.2.2;(y.1.1,y.1.2.1,y.1.2.2.1,y.2.1.1,y.2.1.2.1,y.2.1.2.2.1,z.1,z.2.1,z.2.2.1,z.2.2.2.1,z.2.2.2.2.1,z.2.2.2.2.2.1,z.2.2.2.2.2.2.2.2.1)) N
def x9(q:Int)(u:List τ1)(v w:Int):Option (GStmt×List τ1×Int×Int):=k8 (W6 N u v w) fun b=>k8 (R9 N b.1 q b.2.1 b.2.2.1 b.2.2.2) fun r=>k8 (n3 N 1 [109,97,99,114,111] r.1 r.2.1 r.2.2) fun c=>br (c.1) (k8 (E0 N c.2.1 c.2.2.1 c.2.2.2) fun m=>k8 (l8 N [40] m.2.1 m.2.2.1 m.2.2.2) fun t=>k8 (a4b N [41] true t.1 t.2.1 t.2.2 3 m.1 [] 0 [] 0 b.1) fun _=>none) (k8 (n3 N 1 [102,111,114] c.2.1 c.2.2.1 c.2.2.2) fun e=>br (e.1) (k8 (E0 N e.2.1 e.2.2.1 e.2.2.2) fun _=>none) (k8 (n3 N 1 [105,102] e.2.1 e.2.2.1 e.2.2.2) fun g=>br (g.1) (k8 (B5 N q g.2.1 g.2.2.1 g.2.2.2) fun _=>none) (k8 (n3 N 1 [117,115,101] g.2.1 g.2.2.1 g.2.2.2) fun l=>br (l.1) (k8 (B1 N l.2.1 l.2.2.1 l.2.2.2) fun o=>k8 (l8 N [59] o.2.1 o.2.2.1 o.2.2.2) fun B=>some (GStmt.mk 6 [] o.1 [] [] (GExpr.mk 0 [] 0 [] []) [] [] b.1,B)) (k8 (E0 N l.2.1 l.2.2.1 l.2.2.2) fun p=>k8 (a0s N q p.2.1 p.2.2.1 p.2.2.2 0 p.1 [] 0 [] 0 b.1) fun a=>some (GStmt.mk a.2.2.2.1 a.2.2.2.2.1 a.2.2.2.2.2.1 [] a.2.2.2.2.2.2.1 (GExpr.mk a.2.2.2.2.2.2.2.1 a.2.2.2.2.2.2.2.2.1 a.2.2.2.2.2.2.2.2.2.1 a.2.2.2.2.2.2.2.2.2.2.1 a.2.2.2.2.2.2.2.2.2.2.2.1) [] [] a.2.2.2.2.2.2.2.2.2.2.2.2,a.1,a.2.1,a.2.2.1)))))
abbrev f2B:=E3 [.box 0 0,V0] [.cells [V2,V0,V0]] [.v τ26] [.cells [V2,V0,V0]] (GStmt×List τ1×Int×Int) fun z=>((z.1,()),(z.2.1,z.2.2.1,z.2.2.2,()),())
abbrev e8O:AF:=f2B fun x y=>x9 N x.2.1 y.1.1 y.1.2.1 y.1.2.2.1
def d7E:FuncId->Option Tmp->Option AF:=fun f _=>P0 [(136,c69 N),(137,e3g N),(138,b5C N),(139,e3h N),(140,b57 N),(141,c63 N),(145,e21 N),(146,d2H N),(147,e88 N)] f
theorem d7F:H5 (d7E N):=fun _ _ _ h=>r9 h (u4 (b63 N) (u4 (c33 N) (u4 (a04 N) (u4 (a95 N) (u4 (a03 N) (u4 (c9Y N) (u4 (a90 N) (u4 (a96 N) (u4 (d8F N) F1)))))))))
def f2A:Nat->Hint:=fun i=>
 match i with
 |_=>o5
abbrev f6L:Env:=M5 f2A (d7E N) (fun _=>false) (fun i=>match i with|142=>true|_=>false)
theorem d7G:I6 74 (e8O N):=
 T5 (f6L N) (t6 f2A (d7E N) _ _ (d7F N)) Tryz.func74 Tryz.call74 (e8O N) (fun x y=>(x.1,y.1.1,y.1.2.1,y.1.2.2.1)) N
end
end
end Go.Proofs.YtckdohagilcloaaGreatDoor
