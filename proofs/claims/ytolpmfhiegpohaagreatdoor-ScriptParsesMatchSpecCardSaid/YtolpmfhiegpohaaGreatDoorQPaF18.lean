/- What functions of the program compute, as plain functions (printed). -/
import Derived.Test.YtolpmfhiegpohaaGreatDoorQPaF17
namespace Go.Proofs.YtolpmfhiegpohaaGreatDoor
open Go Go.RowKit
set_option maxRecDepth 100000
set_option linter.unusedVariables false
noncomputable section
variable(N:Nat)
def a8E(c6:ρ11)(p:Int)(k0 self:ρ7)(b g:Int)(c:Bool)(l:Int)(e:List τ0)(o:List τ3)(m:List GStmt):Option (Int×Int×Bool×Int×List τ0×List τ3×List GStmt):=br (!c) (br (decide (b<(e.length:Int))) (f5 (y5 N (e,(b,(g,(c,l)))) 4 [125]) fun q=>br (!q) (f5 (s6 N c6 p b g c l e o) fun a=>br (decide ((m.length + [GStmt.mk a.1.kind a.1.name a.1.text a.1.params a.1.args (GExpr.mk a.1.expr.kind a.1.expr.text a.1.expr.number a.1.expr.keys a.1.expr.kids) a.1.body a.1.els a.1.at_].length)*(24*Ty.sz τ16)<=140737488355328)) (self a.2.1 a.2.2.1 a.2.2.2.1 a.2.2.2.2.1 a.2.2.2.2.2.1 a.2.2.2.2.2.2 (m ++ [GStmt.mk a.1.kind a.1.name a.1.text a.1.params a.1.args (GExpr.mk a.1.expr.kind a.1.expr.text a.1.expr.number a.1.expr.keys a.1.expr.kids) a.1.body a.1.els a.1.at_])) none) (k0 b g c l e o m)) (k0 b g c l e o m)) (k0 b g c l e o m)
def b5g(N:Nat)(c6:ρ11)(a:Int)(k0:ρ7):Nat->Int->Int->Bool->Int->τ5->τ15->(List GStmt)->Option (Int×Int×Bool×Int×List τ0×List τ3×List GStmt)|0,_,_,_,_,_,_,_=>none|n+1,b,c,e,g,l,m,o=>a8E N c6 a k0 (b5g N c6 a k0 n) b c e g l m o
def H5(c6:ρ11)(a b c:Int)(e:Bool)(g:Int)(l:List τ0)(m:List τ3):Option (Int×Int×Bool×Int×List τ0×List τ3×List GStmt):=b5g N c6 a (fun o p q r t u v=>some (o,(p,(q,(r,(t,(u,v))))))) N b c e g l m []
abbrev e2i:=P4 [.box 0 0,V0] [.cells [.row 1,V0,V0,V2,V0,.row 2],.row 42 τ1 false,.row 82 τ8 true] [.row 3] [.cells [.row 1,V0,V0,V2,V0,.row 2],.row 42 τ1 false,.row 82 τ8 true,.row 71 τ16 false] (Int×Int×Bool×Int×List τ0×List τ3×List GStmt) fun z=>(((),()),(((),z.1,z.2.1,z.2.2.1,z.2.2.2.1,(),()),z.2.2.2.2.1,z.2.2.2.2.2.1,z.2.2.2.2.2.2,()))
abbrev d1F(c6:ρ11):AF:=e2i fun x y=>H5 N c6 x.2.1 y.1.2.1 y.1.2.2.1 y.1.2.2.2.1 y.1.2.2.2.2.1 y.2.1 y.2.2.1
abbrev d1G:SV [.row 3]->BV [.cells [.row 1,V0,V0,V2,V0,.row 2],.row 42 τ1 false,.row 82 τ8 true,.row 71 τ16 false]->(Int×Int×Bool×Int×List τ0×List τ3×List GStmt):=fun _ y=>(y.1.2.1,y.1.2.2.1,y.1.2.2.2.1,y.1.2.2.2.2.1,y.2.1,y.2.2.1,y.2.2.2.1)
def d1D(c6:ρ11):FuncId->Option Tmp->Option AF:=fun f _=>O5 [(52,a9f N),(53,e0b N c6)] f
theorem d1E(c6:ρ11)(u9:Sound Tryz.prog GW B7 96 (b2K fun x y=>c6 x.2.1 y.1.2.1 y.1.2.2.1 y.1.2.2.2.1 y.1.2.2.2.2.1 y.2.1 y.2.2.1)):∀f q F,d1D N c6 f q=some F->Sound Tryz.prog GW B7 f F:=fun _ _ _ h=>o6 h (v8 (a0P N) (v8 (c1w N c6 u9) G7))
def c3N:Nat->Hint:=fun i=>
 match i with
 |0=>⟨[],[0,1,5],[0,1,2,1005],[5],[0,1,2,1005],[]⟩
 |_=>o3
abbrev b6U(c6:ρ11):Env:=S9 c3N (d1D N c6) (fun _=>false) (fun _=>false)
abbrev c3M(c6:ρ11):=A8 (b6U N c6) Tryz.f26 (d1F N c6) d1G
noncomputable abbrev a4x:Code:=V7 (m9 Tryz.f26) [true,true,false,false,false]
abbrev a9z:List (Nat×Sl):=[(0,.box 0 0),(1,V0),(5,.row 1005)]
abbrev a9y:List (Nat×Sb):=[(0,.cells [.row 1,V0,V0,V2,V0,.row 2]),(1,.row 42 τ1 false),(2,.row 82 τ8 true),(1005,.row 71 τ16 false)]
def b5h(a b c:Int)(e:Bool)(g:Int)(l:List τ0)(m:List τ3)(o:List GStmt):St:=⟨37,[(0,.box 0 0),(1,.v τ2 a),(5,.row 1005)],[(0,.cells [.row 1,.v τ2 b,.v τ2 c,.v .bool e,.v τ2 g,.row 2]),(1,.row 42 τ1 false l),(2,.row 82 τ8 true m),(1005,.row 71 τ16 false o)]⟩
def a6N(_o a b:Int)(c:Bool)(e:Int)(g:List τ0)(l:List τ3)(m:List GStmt):St:=⟨37,[(5,.row 1005)],[(0,.cells [.row 1,.v τ2 a,.v τ2 b,.v .bool c,.v τ2 e,.row 2]),(1,.row 42 τ1 false g),(2,.row 82 τ8 true l),(1005,.row 71 τ16 false m)]⟩
def d6P(c6:ρ11)(a b c:Int)(e:Bool)(g:Int)(l:List τ0)(m:List τ3)(o:List GStmt)(k:Ex->St->Option (Int×Int×Bool×Int×List τ0×List τ3×List GStmt)):Option (Int×Int×Bool×Int×List τ0×List τ3×List GStmt):=b5g N c6 a (fun p q r t u v w=>k (.exit 0) (a6N a p q r t u v w)) N b c e g l m o
abbrev c5Q(c6:ρ11):FV a9z->HV a9y->(Ex->St->Option (Int×Int×Bool×Int×List τ0×List τ3×List GStmt))->Option (Int×Int×Bool×Int×List τ0×List τ3×List GStmt):=fun x y k=>d6P N c6 x.2.1 y.1.2.1 y.1.2.2.1 y.1.2.2.2.1 y.1.2.2.2.2.1 y.2.1 y.2.2.1 y.2.2.2.1 k
def b5i(c6:ρ11):Nat->Code->St->(Ex->St->Option (Int×Int×Bool×Int×List τ0×List τ3×List GStmt))->Option (Int×Int×Bool×Int×List τ0×List τ3×List GStmt):=fun i c=>
 match i with
 |0=>(LPc 37 a9z a9y (c5Q N c6) (fun st k=>iter (c3N 0) (k6 (b6U N c6) N c 0) N st k))
 |i=>fun st k=>iter (c3N i) (k6 (b6U N c6) N c i) N st k
theorem c3L(c6:ρ11)(a:Int)(KX:Nat->St->Option (Int×Int×Bool×Int×List τ0×List τ3×List GStmt))(I:St->Option (Int×Int×Bool×Int×List τ0×List τ3×List GStmt))(b c:Int)(e:Bool)(g:Int)(l:List τ0)(m:List τ3)(o:List GStmt):
  k7 (b5i N c6) (b6U N c6) a4x 0 (b5h a b c e g l m o) (p6 (c3N 0) I KX (c3M N c6))=a8E N c6 a (fun p q r t u v w=>KX 0 (a6N a p q r t u v w)) (fun b c e g l m o=>I (b5h a b c e g l m o)) b c e g l m o:=by kernel_rfl
theorem d1C(c6:ρ11):∀x y k,(∀st,k .ret st=(c3M N c6) st)->iter (c3N 0) (k6 (b6U N c6) N a4x 0) N ⟨37,Y7 a9z x,Y8 a9y y⟩ k=c5Q N c6 x y k:=fun x y k hk=>
 j9 (S:=(Int)×(Int)×(Bool)×(Int)×τ5×τ15×(List GStmt)×Unit) (c3N 0) _ (k7 (b5i N c6) (b6U N c6) a4x 0) (c3M N c6) (k9 _ _ N _ a4x 0 (show LoopsOk (b5i N c6) (b6U N c6) N (c3M N c6) []from trivial)) (fun s=>b5h x.2.1 s.1 s.2.1 s.2.2.1 s.2.2.2.1 s.2.2.2.2.1 s.2.2.2.2.2.1 s.2.2.2.2.2.2.1) k hk
  (fun self s=>a8E N c6 x.2.1 (fun a b c e g l m=>k (.exit 0) (a6N x.2.1 a b c e g l m)) (fun o p q r t u v=>self (o,p,q,r,t,u,v,())) s.1 s.2.1 s.2.2.1 s.2.2.2.1 s.2.2.2.2.1 s.2.2.2.2.2.1 s.2.2.2.2.2.2.1) (fun n s=>b5g N c6 x.2.1 (fun a b c e g l m=>k (.exit 0) (a6N x.2.1 a b c e g l m)) n s.1 s.2.1 s.2.2.1 s.2.2.2.1 s.2.2.2.2.1 s.2.2.2.2.2.1 s.2.2.2.2.2.2.1) (fun _=>rfl) (fun _ _=>rfl)
  (fun I s=>c3L N c6 x.2.1 (fun j=>k (.exit j)) I s.1 s.2.1 s.2.2.1 s.2.2.2.1 s.2.2.2.2.1 s.2.2.2.2.2.1 s.2.2.2.2.2.2.1) N (y.1.2.1,y.1.2.2.1,y.1.2.2.2.1,y.1.2.2.2.2.1,y.2.1,y.2.2.1,y.2.2.2.1,())
theorem e0f(c6:ρ11):F7 (b5i N c6) (b6U N c6) N (c3M N c6) 0 a4x:=fun st k hk=>p8 37 a9z a9y _ _ (c3M N c6) (d1C N c6) _ st k hk (rfl)
theorem d6Q(c6:ρ11)(x:SV [.box 0 0,V0])(y:BV [.cells [.row 1,V0,V0,V2,V0,.row 2],.row 42 τ1 false,.row 82 τ8 true]):F5 (b6U N c6) Tryz.f26 (d1F N c6) d1G (b5i N c6) x y=H5 N c6 x.2.1 y.1.2.1 y.1.2.2.1 y.1.2.2.2.1 y.1.2.2.2.2.1 y.2.1 y.2.2.1:=by kernel_rfl
theorem d1H(c6:ρ11)(u9:Sound Tryz.prog GW B7 96 (b2K fun x y=>c6 x.2.1 y.1.2.1 y.1.2.2.1 y.1.2.2.2.1 y.1.2.2.2.2.1 y.2.1 y.2.2.1)):Sound Tryz.prog GW B7 26 (d1F N c6):=
 a2A (y6 c3N (d1D N c6) _ _ (d1E N c6 u9)) Tryz.func26 rfl Tryz.call26 (d1F N c6) d1G (fun _ _=>rfl) N (b5i N c6) (show LoopsOk (b5i N c6) (b6U N c6) N (c3M N c6) [(0,a4x)]from⟨e0f N c6,trivial⟩) (d6Q N c6)
def x4(c6:ρ11)(c e g:Int)(l:Bool)(m:Int)(o:List τ0)(p:List τ3):Option (List GStmt×Int×Int×Bool×Int×List τ0×List τ3):=f5 (j7 N [123] e g l m o p) fun b=>f5 (H5 N c6 c b.1 b.2.1 b.2.2.1 b.2.2.2.1 b.2.2.2.2.1 b.2.2.2.2.2) fun a=>f5 (j7 N [125] a.1 a.2.1 a.2.2.1 a.2.2.2.1 a.2.2.2.2.1 a.2.2.2.2.2.1) fun q=>some (a.2.2.2.2.2.2,q)
abbrev e2J:=P4 [.box 0 0,V0] [.cells [.row 1,V0,V0,V2,V0,.row 2],.row 42 τ1 false,.row 82 τ8 true] [.v τ6] [.cells [.row 1,V0,V0,V2,V0,.row 2],.row 42 τ1 false,.row 82 τ8 true] (List GStmt×Int×Int×Bool×Int×List τ0×List τ3) fun z=>((z.1,()),(((),z.2.1,z.2.2.1,z.2.2.2.1,z.2.2.2.2.1,(),()),z.2.2.2.2.2.1,z.2.2.2.2.2.2,()))
abbrev e2H(c6:ρ11):AF:=e2J fun x y=>x4 N c6 x.2.1 y.1.2.1 y.1.2.2.1 y.1.2.2.2.1 y.1.2.2.2.2.1 y.2.1 y.2.2.1
def d2t(c6:ρ11):FuncId->Option Tmp->Option AF:=fun f _=>O5 [(26,d1F N c6),(100,b9j N)] f
theorem d2u(c6:ρ11)(u9:Sound Tryz.prog GW B7 96 (b2K fun x y=>c6 x.2.1 y.1.2.1 y.1.2.2.1 y.1.2.2.2.1 y.1.2.2.2.2.1 y.2.1 y.2.2.1)):∀f q F,d2t N c6 f q=some F->Sound Tryz.prog GW B7 f F:=fun _ _ _ h=>o6 h (v8 (d1H N c6 u9) (v8 (a2b N) G7))
def e2I:Nat->Hint:=fun i=>
 match i with
 |_=>o3
abbrev e49(c6:ρ11):Env:=S9 e2I (d2t N c6) (fun _=>false) (fun _=>false)
theorem d2v(c6:ρ11)(u9:Sound Tryz.prog GW B7 96 (b2K fun x y=>c6 x.2.1 y.1.2.1 y.1.2.2.1 y.1.2.2.2.1 y.1.2.2.2.2.1 y.2.1 y.2.2.1)):Sound Tryz.prog GW B7 96 (e2H N c6):=
 a1W (e49 N c6) (y6 e2I (d2t N c6) _ _ (d2u N c6 u9)) Tryz.func96 rfl Tryz.call96 (e2H N c6) (fun x y=>(x.1,y.1.2.1,y.1.2.2.1,y.1.2.2.2.1,y.1.2.2.2.2.1,y.2.1,y.2.2.1)) (fun _ _=>rfl) N (fun _ _=>by kernel_rfl) rfl
def D7(N:Nat):Nat->Int->Int->Int->Bool->Int->τ5->τ15->Option (List GStmt×Int×Int×Bool×Int×List τ0×List τ3)|0=>fun _ _ _ _ _ _ _=>none|d+1=>x4 N (D7 N d)
theorem c1O(N:Nat):∀d,Sound Tryz.prog GW B7 96 (b2K fun x y=>D7 N d x.2.1 y.1.2.1 y.1.2.2.1 y.1.2.2.2.1 y.1.2.2.2.2.1 y.2.1 y.2.2.1)
 |0=>Sound.never Tryz.call96 (fun _ _=>rfl)
 |d+1=>d2v N (D7 N d) (c1O N d)
def a8I(p:Int)(k0 self:ρ8)(b g:Int)(c:Bool)(l:Int)(e:List τ0)(m:List GStmt)(o:List τ3):Option (Int×Int×Bool×Int×List τ0×List GStmt×List τ3):=br (!c) (br (decide (b<(e.length:Int))) (f5 (y5 N (e,(b,(g,(c,l)))) 4 [125]) fun q=>br (!q) (f5 (s6 N (D7 N N) p b g c l e o) fun a=>br (decide ((m.length + [GStmt.mk a.1.kind a.1.name a.1.text a.1.params a.1.args (GExpr.mk a.1.expr.kind a.1.expr.text a.1.expr.number a.1.expr.keys a.1.expr.kids) a.1.body a.1.els a.1.at_].length)*(24*Ty.sz τ16)<=140737488355328)) (self a.2.1 a.2.2.1 a.2.2.2.1 a.2.2.2.2.1 a.2.2.2.2.2.1 (m ++ [GStmt.mk a.1.kind a.1.name a.1.text a.1.params a.1.args (GExpr.mk a.1.expr.kind a.1.expr.text a.1.expr.number a.1.expr.keys a.1.expr.kids) a.1.body a.1.els a.1.at_]) a.2.2.2.2.2.2) none) (k0 b g c l e m o)) (k0 b g c l e m o)) (k0 b g c l e m o)
def b2I(N:Nat)(a:Int)(k0:ρ8):Nat->Int->Int->Bool->Int->τ5->(List GStmt)->τ15->Option (Int×Int×Bool×Int×List τ0×List GStmt×List τ3)|0,_,_,_,_,_,_,_=>none|n+1,b,c,e,g,l,m,o=>a8I N a k0 (b2I N a k0 n) b c e g l m o
def P5(a b c:Int)(e:Bool)(g:Int)(l:List τ0):Option (Int×Int×Bool×Int×List τ0×List GStmt×List τ3):=b2I N a (fun m o p q r t u=>some (m,(o,(p,(q,(r,(t,u))))))) N b c e g l [] []
abbrev e2K:=P4 [.box 0 0,V0] [.cells [.row 1,V0,V0,V2,V0,.nilS],.row 42 τ1 false] [.row 2] [.cells [.row 1,V0,V0,V2,V0,.row 3],.row 42 τ1 false,.row 71 τ16 false,.row 82 τ8 true] (Int×Int×Bool×Int×List τ0×List GStmt×List τ3) fun z=>(((),()),(((),z.1,z.2.1,z.2.2.1,z.2.2.2.1,(),()),z.2.2.2.2.1,z.2.2.2.2.2.1,z.2.2.2.2.2.2,()))
abbrev d2y:AF:=e2K fun x y=>P5 N x.2.1 y.1.2.1 y.1.2.2.1 y.1.2.2.2.1 y.1.2.2.2.2.1 y.2.1
abbrev d2z:SV [.row 2]->BV [.cells [.row 1,V0,V0,V2,V0,.row 3],.row 42 τ1 false,.row 71 τ16 false,.row 82 τ8 true]->(Int×Int×Bool×Int×List τ0×List GStmt×List τ3):=fun _ y=>(y.1.2.1,y.1.2.2.1,y.1.2.2.2.1,y.1.2.2.2.2.1,y.2.1,y.2.2.1,y.2.2.2.1)
def d8G:FuncId->Option Tmp->Option AF:=fun f _=>O5 [(52,a9f N),(53,d8C fun x y=>s6 N (D7 N N) x.2.1 y.1.2.1 y.1.2.2.1 y.1.2.2.2.1 y.1.2.2.2.2.1 y.2.1 y.2.2.1)] f
theorem d2x:I8 (d8G N):=fun _ _ _ h=>o6 h (v8 (a0P N) (v8 (c1w N (D7 N N) (c1O N N)) G7))
def c8x:Nat->Hint:=fun i=>
 match i with
 |0=>⟨[],[0,1,5],[0,1,1005,950001],[5],[0,1,1005,950001],[(0,5,950001,82,τ8)]⟩
 |_=>o3
abbrev b6Y:Env:=S9 c8x (d8G N) FF FF
abbrev c3X:=A8 (b6Y N) Tryz.f26 (d2y N) d2z
abbrev a9I:List (Nat×Sl):=[(0,.box 0 0),(1,V0),(5,.row 1005)]
abbrev a9H:List (Nat×Sb):=[(0,.cells [.row 1,V0,V0,V2,V0,.row 950001]),(1,.row 42 τ1 false),(1005,.row 71 τ16 false),(950001,.row 82 τ8 true)]
def b5r(a b c:Int)(e:Bool)(g:Int)(l:List τ0)(m:List GStmt)(o:List τ3):St:=⟨37,[(0,.box 0 0),(1,.v τ2 a),(5,.row 1005)],[(0,.cells [.row 1,.v τ2 b,.v τ2 c,.v .bool e,.v τ2 g,.row 950001]),(1,.row 42 τ1 false l),(1005,.row 71 τ16 false m),(950001,.row 82 τ8 true o)]⟩
def a6R(_o a b:Int)(c:Bool)(e:Int)(g:List τ0)(l:List GStmt)(m:List τ3):St:=⟨37,[(5,.row 1005)],[(0,.cells [.row 1,.v τ2 a,.v τ2 b,.v .bool c,.v τ2 e,.row 950001]),(1,.row 42 τ1 false g),(1005,.row 71 τ16 false l),(950001,.row 82 τ8 true m)]⟩
def d62(a b c:Int)(e:Bool)(g:Int)(l:List τ0)(m:List GStmt)(o:List τ3)(k:Ex->St->Option (Int×Int×Bool×Int×List τ0×List GStmt×List τ3)):Option (Int×Int×Bool×Int×List τ0×List GStmt×List τ3):=b2I N a (fun p q r t u v w=>k (.exit 0) (a6R a p q r t u v w)) N b c e g l m o
abbrev c50:FV a9I->HV a9H->(Ex->St->Option (Int×Int×Bool×Int×List τ0×List GStmt×List τ3))->Option (Int×Int×Bool×Int×List τ0×List GStmt×List τ3):=fun x y k=>d62 N x.2.1 y.1.2.1 y.1.2.2.1 y.1.2.2.2.1 y.1.2.2.2.2.1 y.2.1 y.2.2.1 y.2.2.2.1 k
def b5s:Nat->Code->St->(Ex->St->Option (Int×Int×Bool×Int×List τ0×List GStmt×List τ3))->Option (Int×Int×Bool×Int×List τ0×List GStmt×List τ3):=fun i c=>
 match i with
 |0=>(LPc 37 a9I a9H (c50 N) (fun st k=>iter (c8x 0) (k6 (b6Y N) N c 0) N st k))
 |i=>fun st k=>iter (c8x i) (k6 (b6Y N) N c i) N st k
theorem c3W(a:Int)(KX:Nat->St->Option (Int×Int×Bool×Int×List τ0×List GStmt×List τ3))(I:St->Option (Int×Int×Bool×Int×List τ0×List GStmt×List τ3))(b c:Int)(e:Bool)(g:Int)(l:List τ0)(m:List GStmt)(o:List τ3):
  k7 (b5s N) (b6Y N) a4x 0 (b5r a b c e g l m o) (p6 (c8x 0) I KX (c3X N))=a8I N a (fun p q r t u v w=>KX 0 (a6R a p q r t u v w)) (fun b c e g l m o=>I (b5r a b c e g l m o)) b c e g l m o:=by kernel_rfl
theorem d2w:∀x y k,(∀st,k .ret st=(c3X N) st)->iter (c8x 0) (k6 (b6Y N) N a4x 0) N ⟨37,Y7 a9I x,Y8 a9H y⟩ k=c50 N x y k:=fun x y k hk=>
 j9 (S:=(Int)×(Int)×(Bool)×(Int)×τ5×(List GStmt)×τ15×Unit) (c8x 0) _ (k7 (b5s N) (b6Y N) a4x 0) (c3X N) (k9 _ _ N _ a4x 0 (show LoopsOk (b5s N) (b6Y N) N (c3X N) []from trivial)) (fun s=>b5r x.2.1 s.1 s.2.1 s.2.2.1 s.2.2.2.1 s.2.2.2.2.1 s.2.2.2.2.2.1 s.2.2.2.2.2.2.1) k hk
  (fun self s=>a8I N x.2.1 (fun a b c e g l m=>k (.exit 0) (a6R x.2.1 a b c e g l m)) (fun o p q r t u v=>self (o,p,q,r,t,u,v,())) s.1 s.2.1 s.2.2.1 s.2.2.2.1 s.2.2.2.2.1 s.2.2.2.2.2.1 s.2.2.2.2.2.2.1) (fun n s=>b2I N x.2.1 (fun a b c e g l m=>k (.exit 0) (a6R x.2.1 a b c e g l m)) n s.1 s.2.1 s.2.2.1 s.2.2.2.1 s.2.2.2.2.1 s.2.2.2.2.2.1 s.2.2.2.2.2.2.1) (fun _=>rfl) (fun _ _=>rfl)
  (fun I s=>c3W N x.2.1 (fun j=>k (.exit j)) I s.1 s.2.1 s.2.2.1 s.2.2.2.1 s.2.2.2.2.1 s.2.2.2.2.2.1 s.2.2.2.2.2.2.1) N (y.1.2.1,y.1.2.2.1,y.1.2.2.2.1,y.1.2.2.2.2.1,y.2.1,y.2.2.1,y.2.2.2.1,())
theorem e0v:F7 (b5s N) (b6Y N) N (c3X N) 0 a4x:=fun st k hk=>p8 37 a9I a9H _ _ (c3X N) (d2w N) _ st k hk (rfl)
theorem d63(x:SV [.box 0 0,V0])(y:BV [.cells [.row 1,V0,V0,V2,V0,.nilS],.row 42 τ1 false]):F5 (b6Y N) Tryz.f26 (d2y N) d2z (b5s N) x y=P5 N x.2.1 y.1.2.1 y.1.2.2.1 y.1.2.2.2.1 y.1.2.2.2.2.1 y.2.1:=by kernel_rfl
theorem d2A:P7 26 (d2y N):=
 a1X (d2x N) Tryz.func26 rfl Tryz.call26 (d2y N) d2z (fun _ _=>rfl) N (b5s N) (show LoopsOk (b5s N) (b6Y N) N (c3X N) [(0,a4x)]from⟨e0v N,trivial⟩) (d63 N)
def a4c(_N:Nat)(c:Int)(cw102901:List τ3)(k0:Option (Int×Int×List GStmt))(self:Int->Option (Int×Int×List GStmt))(a:Int):Option (Int×Int×List GStmt):=br (decide (a<c)) (br (decide (0<=a/\a<(cw102901.length:Int))) (f5 (l6 cw102901 a) fun b=>br (decide (b.2>=30)) (some (b.1,(2,[]))) (self (IntKind.i64.wrap (a+1)))) none) (k0)
def b1Z(N:Nat)(a:Int)(cw102901:List τ3)(k0:Option (Int×Int×List GStmt)):Nat->Int->Option (Int×Int×List GStmt)|0,_=>none|n+1,b=>a4c N a cw102901 k0 (b1Z N a cw102901 k0 n) b
def Y3(e:c8):Option (Int×Int×List GStmt):=f5 (a03 N e) fun b=>br (b.2.1 !=0) (some (b.1,(b.2.1,[]))) (f5 (P5 N 0 0 (e.length:Int) false 0 b.2.2) fun a=>br (decide (a.1<(a.2.2.2.2.1.length:Int))) (f5 (q8 N a.1 a.2.1 a.2.2.1 a.2.2.2.1 a.2.2.2.2.1 a.2.2.2.2.2.2) fun c=>br (c.2.2.1) (some (c.2.2.2.1,(10,[]))) (b1Z N (c.2.2.2.2.2.length:Int) c.2.2.2.2.2 (f5 (J4 N a.2.2.2.2.2.1) fun g=>br (g !=0) (some (0,(g,[]))) (some (0,(0,a.2.2.2.2.2.1)))) N 0)) (br (a.2.2.1) (some (a.2.2.2.1,(10,[]))) (b1Z N (a.2.2.2.2.2.2.length:Int) a.2.2.2.2.2.2 (f5 (J4 N a.2.2.2.2.2.1) fun l=>br (l !=0) (some (0,(l,[]))) (some (0,(0,a.2.2.2.2.2.1)))) N 0)))
abbrev d96:=P4 [V1] [] [.row 0,V0,V0] [.row 71 τ16 false] (Int×Int×List GStmt) fun z=>(((),z.1,z.2.1,()),(z.2.2,()))
abbrev c1m:AF:=d96 fun x _=>Y3 N x.1
abbrev c3E:SV [.row 0,V0,V0]->BV [.row 71 τ16 false]->(Int×Int×List GStmt):=fun x y=>(x.2.1,x.2.2.1,y.1)
def d1e:FuncId->Option Tmp->Option AF:=fun f _=>O5 [(25,c1g N),(26,d2y N),(27,c1R N),(28,e0T N)] f
theorem c8k:I8 (d1e N):=fun _ _ _ h=>o6 h (v8 (c8f N) (v8 (d2A N) (v8 (a28 N) (v8 (d4n N) G7))))
def b79:Nat->Hint:=fun i=>
 match i with
 |0=>⟨[],[9,53,54,55],[102900,102901],[9],[102900],[]⟩
 |100009=>⟨[1027,101500,102901],[],[],[],[],[]⟩
 |100014=>⟨[1011],[],[],[],[],[]⟩
 |_=>o3
abbrev a7N:Env:=S9 b79 (d1e N) FF FF
noncomputable abbrev b11:Code:=V7 (m9 Tryz.f14) [true,true,true,true,true,true,true,false,true,false,false]
abbrev b49:=A8 (a7N N) Tryz.f14 (c1m N) c3E
abbrev a6F:List (Nat×Sl):=[(9,.row 102900),(53,.row 102901),(54,V0),(55,V0)]
abbrev a6E:List (Nat×Sb):=[(102900,.row 71 τ16 false),(102901,.row 82 τ8 true)]
def b10(a:Int)(cw102900:List GStmt)(cw102901:List τ3)(b:Int):St:=⟨71,[(9,.row 102900),(53,.row 102901),(54,.v τ2 a),(55,.v τ2 b)],[(102900,.row 71 τ16 false cw102900),(102901,.row 82 τ8 true cw102901)]⟩
def a4d(_a:Int)(cw102900:List GStmt)(_cw102901:List τ3):St:=⟨71,[(9,.row 102900)],[(102900,.row 71 τ16 false cw102900)]⟩
def d1c(a:Int)(cw102900:List GStmt)(cw102901:List τ3)(b:Int)(k:Ex->St->Option (Int×Int×List GStmt)):Option (Int×Int×List GStmt):=b1Z N a cw102901 (k (.exit 0) (a4d a cw102900 cw102901)) N b
abbrev c1k:FV a6F->HV a6E->(Ex->St->Option (Int×Int×List GStmt))->Option (Int×Int×List GStmt):=fun x y k=>d1c N x.2.2.1 y.1 y.2.1 x.2.2.2.1 k
def a8z:Nat->Code->St->(Ex->St->Option (Int×Int×List GStmt))->Option (Int×Int×List GStmt):=fun i c=>
 match i with
 |0=>(LPc 71 a6F a6E (c1k N) (fun st k=>iter (b79 0) (k6 (a7N N) N c 0) N st k))
 |i=>fun st k=>iter (b79 i) (k6 (a7N N) N c i) N st k
theorem c1l(a:Int)(cw102900:List GStmt)(cw102901:List τ3)(KX:Nat->St->Option (Int×Int×List GStmt))(I:St->Option (Int×Int×List GStmt))(b:Int):
  k7 (a8z N) (a7N N) b11 0 (b10 a cw102900 cw102901 b) (p6 (b79 0) I KX (b49 N))=a4c N a cw102901 (KX 0 (a4d a cw102900 cw102901)) (fun b=>I (b10 a cw102900 cw102901 b)) b:=by kernel_rfl
theorem c8j:∀x y k,(∀st,k .ret st=(b49 N) st)->iter (b79 0) (k6 (a7N N) N b11 0) N ⟨71,Y7 a6F x,Y8 a6E y⟩ k=c1k N x y k:=fun x y k hk=>
 j9 (S:=(Int)×Unit) (b79 0) _ (k7 (a8z N) (a7N N) b11 0) (b49 N) (k9 _ _ N _ b11 0 (show LoopsOk (a8z N) (a7N N) N (b49 N) []from trivial)) (fun s=>b10 x.2.2.1 y.1 y.2.1 s.1) k hk
  (fun self s=>a4c N x.2.2.1 y.2.1 (k (.exit 0) (a4d x.2.2.1 y.1 y.2.1)) (fun a=>self (a,())) s.1) (fun n s=>b1Z N x.2.2.1 y.2.1 (k (.exit 0) (a4d x.2.2.1 y.1 y.2.1)) n s.1) (fun _=>rfl) (fun _ _=>rfl)
  (fun I s=>c1l N x.2.2.1 y.1 y.2.1 (fun j=>k (.exit j)) I s.1) N (x.2.2.2.1,())
theorem d6H:F7 (a8z N) (a7N N) N (b49 N) 0 b11:=fun st k hk=>p8 71 a6F a6E _ _ (b49 N) (c8j N) _ st k hk (rfl)
theorem d1d(x:SV [V1])(y:BV []):F5 (a7N N) Tryz.f14 (c1m N) c3E (a8z N) x y=Y3 N x.1:=by kernel_rfl
theorem c8l:P7 14 (c1m N):=
 a1X (c8k N) Tryz.func14 rfl Tryz.call14 (c1m N) c3E (fun _ _=>rfl) N (a8z N) (show LoopsOk (a8z N) (a7N N) N (b49 N) [(0,b11)]from⟨d6H N,trivial⟩) (d1d N)
end
end Go.Proofs.YtolpmfhiegpohaaGreatDoor
