/- % -/
import Derived.Test.YtckdohagilcloaaGreatDoorQWeF16
import Derived.Test.YtckdohagilcloaaGreatDoorQWeF12
namespace Go.Proofs.YtckdohagilcloaaGreatDoor
set_option maxRecDepth 100000
set_option linter.unusedVariables false
set_option linter.unusedSimpArgs false
open Go Go.RowKit
noncomputable section
noncomputable section
variable(N:Nat)
def T3(_N:Nat)(a:d3×GValue):Option Bool:=br (a.1==[110,97,109,101]) (some true) (some (a.1==[107,105,110,100]))
abbrev f3k:=E3 [.v τ12] [] [V3] [] (Bool) fun z=>((z,()),())
abbrev e83:AF:=f3k fun x _=>T3 N x.1
theorem d8n:I6 54 (e83 N):=
 N9 h0 F1 Tryz.func54 Tryz.call54 (e83 N) (fun x _=>x.1) N
def c0f(b:List τ9)(c:Int)(k0:τ39)(self:ρ34)(a:Int):Option Int:=br (decide (a<c)) (k8 (n8 b a) fun e=>k8 (T3 N e) fun g=>br (g) (some a) (self (IntKind.i64.wrap (a+1)))) (k0)
def d7k(N:Nat)(a:List τ9)(b:Int)(k0:τ39):Nat->Int->Option Int|0,_=>none|n+1,c=>c0f N a b k0 (d7k N a b k0 n) c
def L2(a:List τ9)(_b:Unit):Option Int:=d7k N a (a.length:Int) (some (-1:Int)) N 0
abbrev f2o:=E3 [.v τ31,.v (.clo 54 .un)] [] [V0] [] (Int) fun z=>((z,()),())
abbrev e8F:AF:=f2o fun x _=>L2 N x.1 x.2.1
abbrev e4A:SV [V0]->BV []->Int:=fun x _=>x.1
def e4z:FuncId->Option Tmp->Option AF:=fun f _=>P0 [(54,e83 N)] f
theorem d7n:H5 (e4z N):=fun _ _ _ h=>r9 h (u4 (d8n N) F1)
def f6E:Nat->Hint:=fun i=>
 match i with
 |0=>⟨[],[0,1,7,8],[],[],[],[]⟩
 |_=>o5
abbrev e2g:Env:=M5 f6E (e4z N) FF FF
noncomputable abbrev f2n:Code:=P9 (m8 Tryz.f105) [true,false,true,false,false]
abbrev f6D:=B4 (e2g N) Tryz.f105 (e8F N) e4A
abbrev d7m:List (Nat×Sl):=[(0,.v τ31),(1,.v (.clo 54 .un)),(7,V0),(8,V0)]
abbrev d7l:List (Nat×Sb):=[]
def c76:T9 (Int) d7m d7l:=fun K n x y=>d7k N x.1 x.2.2.1 (K 0 ⟨19,[],[]⟩) n x.2.2.2.1
def e4y:Nat->Code->St->(Ex->St->Option Int)->Option Int:=fun i c=>
 match i with
 |0=>U4 (e2g N) N 19 (c76 N) 0 c
 |i=>LpD (e2g N) N i c
theorem e8G:B2 (e4y N) (e2g N) N (f6D N) 0 f2n:=
 o0 (c76 N) (fun K f x y=>c0f N x.1 x.2.2.1 (K 0 ⟨19,[],[]⟩) (fun a=>f (x.1,x.2.1,x.2.2.1,a,x.2.2.2.2) y) x.2.2.2.1)
theorem d7o:I6 105 (e8F N):=
 X0 (d7n N) Tryz.func105 Tryz.call105 (e8F N) e4A N (e4y N) (P5 (e8G N) U6)
def I0(a:List τ9)(b:Unit):Option Bool:=k8 (L2 N a b) fun c=>some (decide (c>=0))
abbrev f1i:=E3 [.v τ31,.v (.clo 54 .un)] [] [V3] [] (Bool) fun z=>((z,()),())
abbrev e6X:AF:=f1i fun x _=>I0 N x.1 x.2.1
theorem d5j:I6 53 (e6X N):=
 N9 h0 (u4 (d7o N) F1) Tryz.func53 Tryz.call53 (e6X N) (fun x _=>x.1) N
def c0j(g:List τ9)(l:Int)(m:List τ9)(k0:τ39)(self:ρ34)(b:Int):Option Int:=br (decide (b<l)) (k8 (n8 g b) fun a=>k8 (Q6 N a.1) fun o=>br (!o) (some (5:Int)) (k8 (D1 N (C4 N N) (GValue.mk a.2.kind a.2.text a.2.number a.2.list a.2.cases)) fun c=>br (c !=0) (some c) (br (decide (b>0)) (k8 (n8 m (IntKind.i64.wrap (b-1))) fun e=>br (Op.bytesLess a.1 e.1||a.1==e.1) (some (8:Int)) (self (IntKind.i64.wrap (b+1)))) (self (IntKind.i64.wrap (b+1)))))) (k0)
def c8A(N:Nat)(a:List τ9)(b:Int)(c:List τ9)(k0:τ39):Nat->Int->Option Int|0,_=>none|n+1,e=>c0j N a b c k0 (c8A N a b c k0 n) e
def L8(a:d3×d3×List τ9):Option Int:=k8 (X3 N a.1) fun b=>br (!b) (some (3:Int)) (k8 (Q6 N a.2.1) fun c=>br (!c) (some (5:Int)) (br (decide ((a.2.2.length:Int)>30)) (some (2:Int)) (c8A N a.2.2 (a.2.2.length:Int) a.2.2 (k8 (I0 N a.2.2 ()) fun e=>br (e) (some (5:Int)) (some (0:Int))) N 0)))
abbrev f4p:=E3 [.v τ6] [] [V0] [] (Int) fun z=>((z,()),())
abbrev d9u:AF:=f4p fun x _=>L8 N x.1
abbrev e5j:SV [V0]->BV []->Int:=fun x _=>x.1
def e5i:FuncId->Option Tmp->Option AF:=fun f _=>P0 [(25,b43 N),(51,c2P N),(52,e0b fun x _=>D1 N (C4 N N) x.1),(53,e6X N)] f
theorem d9t:H5 (e5i N):=fun _ _ _ h=>r9 h (u4 (a7O N) (u4 (a7I N) (u4 (b5G N (C4 N N) (b5H N N)) (u4 (d5j N) F1))))
def f7D:Nat->Hint:=fun i=>
 match i with
 |0=>⟨[],[1,19,20,21],[1001],[1],[1001],[]⟩
 |_=>o5
abbrev e23:Env:=M5 f7D (e5i N) FF FF
noncomputable abbrev f4o:Code:=P9 (m8 Tryz.f26) [true,true,true,true,false,true,false,false]
abbrev f7C:=B4 (e23 N) Tryz.f26 (d9u N) e5j
abbrev d9s:List (Nat×Sl):=[(1,.box 1001 0),(19,.v τ31),(20,V0),(21,V0)]
abbrev b5y:List (Nat×Sb):=[(1001,.cells [V1,V1,.v τ31])]
def b8q(y:HV b5y):St:=⟨54,[(1,.box 1001 0)],unH b5y y⟩
def c8B:T9 (Int) d9s b5y:=fun K n x y=>c8A N x.2.1 x.2.2.1 y.1.2.2.1 (K 0 (b8q y)) n x.2.2.2.1
def e5h:Nat->Code->St->(Ex->St->Option Int)->Option Int:=fun i c=>
 match i with
 |0=>U4 (e23 N) N 54 (c8B N) 0 c
 |i=>LpD (e23 N) N i c
theorem e9t:B2 (e5h N) (e23 N) N (f7C N) 0 f4o:=
 o0 (c8B N) (fun K f x y=>c0j N x.2.1 x.2.2.1 y.1.2.2.1 (K 0 (b8q y)) (fun a=>f (x.1,x.2.1,x.2.2.1,a,x.2.2.2.2) y) x.2.2.2.1)
theorem c3X:I6 26 (d9u N):=
 X0 (d9t N) Tryz.func26 Tryz.call26 (d9u N) e5j N (e5h N) (P5 (e9t N) U6)
def c0h(g:List τ19)(l:Int)(m:List τ19)(k0:τ39)(self:ρ34)(a:Int):Option Int:=br (decide (a<l)) (k8 (n8 g a) fun b=>k8 (L8 N b) fun c=>br (c !=0) (some c) (br (decide (a>0)) (k8 (n8 m (IntKind.i64.wrap (a-1))) fun e=>br (Op.bytesLess b.1 e.1||b.1==e.1) (some (8:Int)) (self (IntKind.i64.wrap (a+1)))) (self (IntKind.i64.wrap (a+1))))) (k0)
def c3G(N:Nat)(a:List τ19)(b:Int)(c:List τ19)(k0:τ39):Nat->Int->Option Int|0,_=>none|n+1,e=>c0h N a b c k0 (c3G N a b c k0 n) e
def K8(a:d3×List τ19):Option Int:=br (!(a.1==[])) (k8 (X3 N a.1) fun b=>br (!b) (some (3:Int)) (br (decide ((a.2.length:Int)>500)) (some (2:Int)) (c3G N a.2 (a.2.length:Int) a.2 (some (0:Int)) N 0))) (br (decide ((a.2.length:Int)>500)) (some (2:Int)) (c3G N a.2 (a.2.length:Int) a.2 (some (0:Int)) N 0))
abbrev f3G:=E3 [.v τ33] [] [V0] [] (Int) fun z=>((z,()),())
abbrev e2D:AF:=f3G fun x _=>K8 N x.1
abbrev e4Y:SV [V0]->BV []->Int:=fun x _=>x.1
def e4X:FuncId->Option Tmp->Option AF:=fun f _=>P0 [(25,b43 N),(26,d9u N)] f
theorem d8P:H5 (e4X N):=fun _ _ _ h=>r9 h (u4 (a7O N) (u4 (c3X N) F1))
def f7j:Nat->Hint:=fun i=>
 match i with
 |0=>⟨[],[1,20,21,22],[1001],[],[],[]⟩
 |_=>o5
abbrev e2C:Env:=M5 f7j (e4X N) FF FF
noncomputable abbrev f3F:Code:=P9 (m8 Tryz.f9) [true,true,true,false,true,false,false]
abbrev f7i:=B4 (e2C N) Tryz.f9 (e2D N) e4Y
abbrev d8O:List (Nat×Sl):=[(1,.box 1001 0),(20,.v (.sl τ6)),(21,V0),(22,V0)]
abbrev d8N:List (Nat×Sb):=[(1001,.cells [V1,.v (.sl τ6)])]
def c8m:T9 (Int) d8O d8N:=fun K n x y=>c3G N x.2.1 x.2.2.1 y.1.2.1 (K 0 ⟨47,[],[]⟩) n x.2.2.2.1
def e4W:Nat->Code->St->(Ex->St->Option Int)->Option Int:=fun i c=>
 match i with
 |0=>U4 (e2C N) N 47 (c8m N) 0 c
 |i=>LpD (e2C N) N i c
theorem e9b:B2 (e4W N) (e2C N) N (f7i N) 0 f3F:=
 o0 (c8m N) (fun K f x y=>c0h N x.2.1 x.2.2.1 y.1.2.1 (K 0 ⟨47,[],[]⟩) (fun a=>f (x.1,x.2.1,x.2.2.1,a,x.2.2.2.2) y) x.2.2.2.1)
theorem d8Q:I6 9 (e2D N):=
 X0 (d8P N) Tryz.func9 Tryz.call9 (e2D N) e4Y N (e4W N) (P5 (e9b N) U6)
def y8(_N:Nat)(a:d3):Option GExpr:=some (GExpr.mk 1 a 0 [] [])
abbrev e68:=E3 [V1] [] [.v O1] [] (GExpr) fun z=>((z,()),())
abbrev c7f:AF:=e68 fun x _=>y8 N x.1
theorem b7e:I6 10 (c7f N):=
 N9 h0 F1 Tryz.func10 Tryz.call10 (c7f N) (fun x _=>x.1) N
abbrev b4h:=E3 [.v τ18] [] [.v O1] [] (GExpr) fun z=>((z,()),())
end
end
noncomputable section
noncomputable section
variable(N:Nat)
def a82(i7:ρ27)(e:List d3)(g:Int)(k1:(List GExpr)->Option GExpr)(self:Int->(List GExpr)->Option GExpr)(a:Int)(b:List GExpr):Option GExpr:=br (decide (a<g)) (k8 (n8 e a) fun l=>k8 (y8 N l) fun c=>br (Zf (b.length + [c].length) O1) (self (IntKind.i64.wrap (a+1)) (b ++ [c])) none) (k1 b)
def c35(N:Nat)(i7:ρ27)(a:List d3)(b:Int)(k1:(List GExpr)->Option GExpr):Nat->Int->(List GExpr)->Option GExpr|0,_,_=>none|n+1,c,e=>a82 N i7 a b k1 (c35 N i7 a b k1 n) c e
def D5(a:List GExpr)(b:GExpr)(self:ρ13)(c:Int)(e:List d3)(g:d3×GValue):Option GExpr:=br (Zf (a.length + [b].length) O1) (self (IntKind.i64.wrap (c+1)) (e ++ [g.1]) (a ++ [b])) none
def a0c(i7:ρ27)(a:d3×GValue)(b:List GExpr)(self:ρ13)(c:Int)(e:List d3):Option GExpr:=o3 1 (k8 (i7 (GValue.mk a.2.kind a.2.text a.2.number a.2.list a.2.cases)) fun g=>D5 b g self c e a)
def G6(i7:ρ27)(a:d3×GValue)(b:List GExpr)(self:ρ13)(c:Int)(e:List d3):Option GExpr:=q7 (a0c i7 a b self c e) (k8 (i7 (GValue.mk a.2.kind a.2.text a.2.number a.2.list a.2.cases)) fun g=>o3 1 (D5 b g self c e a))
def z6(a:List d3)(b:d3×GValue)(i7:ρ27)(c:List GExpr)(self:ρ13)(e:Int):Option GExpr:=q7 (br (Zf (a.length + [b.1].length) .str) (G6 i7 b c self e a) none) (br (Zf (a.length + [b.1].length) .str) (a0c i7 b c self e a) none)
def a83(_N:Nat)(i7:ρ27)(l:List τ9)(m:Int)(k3:ρ17)(self:ρ13)(c:Int)(b:List d3)(e:List GExpr):Option GExpr:=br (decide (c<m)) (k8 (n8 l c) fun a=>q7 (q7 (q7 (br (Zf (b.length + [a.1].length) .str) (q7 (G6 i7 a e self c b) (k8 (i7 (GValue.mk a.2.kind a.2.text a.2.number a.2.list a.2.cases)) fun g=>o3 1 (D5 e g self c b a))) none) (z6 b a i7 e self c)) (q7 (z6 b a i7 e self c) (br (Zf (b.length + [a.1].length) .str) (a0c i7 a e self c b) none))) (q7 (q7 (q7 (br (Zf (b.length + [a.1].length) .str) (q7 (G6 i7 a e self c b) (k8 (i7 (GValue.mk a.2.kind a.2.text a.2.number a.2.list a.2.cases)) fun g=>o3 1 (D5 e g self c b a))) none) (z6 b a i7 e self c)) (q7 (z6 b a i7 e self c) (br (Zf (b.length + [a.1].length) .str) (a0c i7 a e self c b) none))) (q7 (q7 (z6 b a i7 e self c) (br (Zf (b.length + [a.1].length) .str) (a0c i7 a e self c b) none)) (q7 (q7 (z6 b a i7 e self c) (br (Zf (b.length + [a.1].length) .str) (a0c i7 a e self c b) none)) (o3 1 (br (Zf (b.length + [a.1].length) .str) (a0c i7 a e self c b) none)))))) (k3 b e)
def c8I(N:Nat)(i7:ρ27)(a:List τ9)(b:Int)(k3:ρ17):Nat->Int->τ24->(List GExpr)->Option GExpr|0,_,_,_=>none|n+1,c,e,g=>a83 N i7 a b k3 (c8I N i7 a b k3 n) c e g
def M3(i7:ρ27)(a:GValue):Option GExpr:=br (a.kind==1) (k8 (y8 N a.text) fun b=>some (Ze b)) (br (a.kind==2) (some (GExpr.mk 2 [] a.number [] [])) (br (a.kind==3) (c35 N i7 a.list (a.list.length:Int) (fun c=>some (GExpr.mk 4 [] 0 [] c)) N 0 []) (c8I N i7 a.cases (a.cases.length:Int) (fun e g=>some (GExpr.mk 6 [] 0 e g)) N 0 [] [])))
abbrev f4N:=E3 [.v τ18] [] [.v O1] [] (GExpr) fun z=>((z,()),())
abbrev e9B(i7:ρ27):AF:=f4N fun x _=>M3 N i7 x.1
abbrev e5r:SV [.v O1]->BV []->GExpr:=fun x _=>x.1
def d9R(i7:ρ27):FuncId->Option Tmp->Option AF:=fun f _=>P0 [(10,c7f N),(11,b4h fun x _=>i7 x.1)] f
theorem d9S(i7:ρ27)(a1f:Sound Tryz.prog GW x6 11 (b4h fun x y=>i7 x.1)):∀f q F,d9R N i7 f q=some F->Sound Tryz.prog GW x6 f F:=fun _ _ _ h=>r9 h (u4 (b7e N) (u4 (a1f) F1))
def f4M:Nat->Hint:=fun i=>
 match i with
 |1=>⟨[],[2,3,24,25,26],[1002,1003,900001],[2,3],[1002,1003,900001],[(1003,4,900001,45,O1)]⟩
 |3=>⟨[],[2,3,41,42,43],[1002,1003,900002,900003],[2,3],[1002,1003,900002,900003],[(1003,3,900002,9,.str),(1003,4,900003,45,O1)]⟩
 |100012=>⟨[1003,900001],[],[],[],[],[]⟩
 |100019=>⟨[1007],[1,2,3],[2,3,8,9],[],[],[]⟩
 |_=>o5
abbrev d2I(i7:ρ27):Env:=M5 f4M (d9R N i7) (fun _=>false) (fun _=>false)
abbrev f4J(i7:ρ27):=B4 (d2I N i7) Tryz.f11 (e9B N i7) e5r
noncomputable abbrev f4L:Code:=P9 (m8 Tryz.f11) [true,true,false,true,false,true,true,true,true,true,false,true,false,true,false,false]
noncomputable abbrev f4K:Code:=P9 (m8 Tryz.f11) [true,true,true,true,false,true,false,false]
abbrev d9O:List (Nat×Sl):=[(2,.box 1002 0),(3,.box 1003 0),(24,V4),(25,V0),(26,V0)]
abbrev b5D:List (Nat×Sb):=[(1002,.cells [V0,V1,V0,.nilS,.nilS]),(1003,.cells [V0,V1,V0,.nilS,.row 900001]),(900001,.row 45 O1 false)]
def b8v(y:HV b5D):St:=⟨64,[(2,.box 1002 0),(3,.box 1003 0)],unH b5D y⟩
def c8H(i7:ρ27):T9 (GExpr) d9O b5D:=fun K n x y=>c35 N i7 x.2.2.1 x.2.2.2.1 (fun a=>K 1 (b8v (y.1,y.2.1,a,y.2.2.2))) n x.2.2.2.2.1 y.2.2.1
abbrev d9P:List (Nat×Sl):=[(2,.box 1002 0),(3,.box 1003 0),(41,.v τ31),(42,V0),(43,V0)]
abbrev b5E:List (Nat×Sb):=[(1002,.cells [V0,V1,V0,.nilS,.nilS]),(1003,.cells [V0,V1,V0,.row 900002,.row 900003]),(900002,.row 9 .str false),(900003,.row 45 O1 false)]
def b8w(y:HV b5E):St:=⟨64,[(2,.box 1002 0),(3,.box 1003 0)],unH b5E y⟩
def c8J(i7:ρ27):T9 (GExpr) d9P b5E:=fun K n x y=>c8I N i7 x.2.2.1 x.2.2.2.1 (fun a b=>K 3 (b8w (y.1,y.2.1,a,b,y.2.2.2.2))) n x.2.2.2.2.1 y.2.2.1 y.2.2.2.1
def d9Q(i7:ρ27):Nat->Code->St->(Ex->St->Option GExpr)->Option GExpr:=fun i c=>
 match i with
 |1=>U4 (d2I N i7) N 64 (c8H N i7) 1 c
 |3=>U4 (d2I N i7) N 64 (c8J N i7) 3 c
 |i=>LpD (d2I N i7) N i c
theorem e9D(i7:ρ27):B2 (d9Q N i7) (d2I N i7) N (f4J N i7) 3 f4K:=
 o0 (c8J N i7) (fun K f x y=>a83 N i7 x.2.2.1 x.2.2.2.1 (fun a b=>K 3 (b8w (y.1,y.2.1,a,b,y.2.2.2.2))) (fun c e g=>f (x.1,x.2.1,x.2.2.1,x.2.2.2.1,c,x.2.2.2.2.2) (y.1,y.2.1,e,g,y.2.2.2.2)) x.2.2.2.2.1 y.2.2.1 y.2.2.2.1)
theorem e9C(i7:ρ27):B2 (d9Q N i7) (d2I N i7) N (f4J N i7) 1 f4L:=
 o0 (c8H N i7) (fun K f x y=>a82 N i7 x.2.2.1 x.2.2.2.1 (fun a=>K 1 (b8v (y.1,y.2.1,a,y.2.2.2))) (fun b c=>f (x.1,x.2.1,x.2.2.1,x.2.2.2.1,b,x.2.2.2.2.2) (y.1,y.2.1,c,y.2.2.2)) x.2.2.2.2.1 y.2.2.1)
theorem d9T(i7:ρ27)(a1f:Sound Tryz.prog GW x6 11 (b4h fun x y=>i7 x.1)):Sound Tryz.prog GW x6 11 (e9B N i7):=
 a0l (t6 f4M (d9R N i7) _ _ (d9S N i7 a1f)) Tryz.func11 Tryz.call11 (e9B N i7) e5r N (d9Q N i7) (P5 (e9C N i7) (P5 (e9D N i7) U6))
def C9(N:Nat):Nat->GValue->Option (GExpr)|0=>fun _=>none|d+1=>M3 N (C9 N d)
theorem b64(N:Nat):∀d,Sound Tryz.prog GW x6 11 (b4h fun x y=>C9 N d x.1)
 |0=>Sound.never Tryz.call11 (fun _ _=>rfl)
 |d+1=>d9T N (C9 N d) (b64 N d)
end
end
noncomputable section
theorem Sound.callExt{P:Program}{G:World->Prop}{B0:Nat}{f:FuncId}{ps rs:List Sl}{R:Type}[BothC R]{out:R->SV rs×BV []}{F:SV ps->BV []->Option R}(h:Sound P G B0 f ⟨ps,[],rs,[],R,out,F⟩)
  {M:Nat->Nat->Prop} {w:World} {vs:List Value} {x:SV ps} {z:R} (hG:G w) (hB:B0<=w.heap.size) (hM:∀b o,M b o->b<w.heap.size) (ha:All2 (RepD0 M w g0) (a0E id ps x) vs) (hz:F x ()=some z):
  Calls P f vs.toArray w fun e w'=>∃vs' M' g',e = .returned (b12 vs')/\Ext w w'/\All2 (RepD0 M' w' g') (a0E id rs (out z).1) vs':=by
 refine(h.2 M w g0 vs x () z hG hB {args:=ha,res:=fun r blk h=>(by cases h),dom:=fun r gx h=>(by cases h),inj:=fun _ _ _ _ _ h=>(by cases h),low:=fun _ _ _ h=>(by cases h),chg:=fun _ _ _ _ h=>(by cases h),mlt:=hM,row:=fun _ _ _ h=>(by cases h)} hz).mono fun e w' hp=>?_
 obtain⟨vs',g',he,hX,_,hF,_⟩:=hp;exact⟨vs',_,g',he,hX.ext fun b ⟨_,_,h,_⟩=>(by cases h),hF.args⟩
noncomputable def U2(N:Nat)(l:List GStmt):Option τ36:=k8 (t8 N l) fun f=>br (f !=0) (some ([],f)) (k8 (u6 N N 0 l []) fun r=>br (decide ((r.length:Int)>50000)) (some ([],2)) (some (r,0)))
theorem c1z(N:Nat){M:Nat->Nat->Prop}{a w:World}{l:List GStmt}{v1:Value}{r:List UInt8}(hG:GW w)(hB:x6<=w.heap.size)(hM:∀b o,M b o->b<w.heap.size)(h1:RepV M w τ15 l v1)(hr:u6 N N 0 l []=some r)(hE:Ext a w):
  Calls Tryz.prog 28 #[.pointer (some ⟨w.heap.size,0,none⟩),.int .i64 0,v1] (w.alloc (.cells #[.pointer none,.slice none 0 0] 89)) fun e w'=>e = .returned (.tuple #[])/\
   Ext a w'/\∃p v,b2G w' w.heap.size p v (Lib.byteCells r)/\∀k,v.ownBlock=some k->a.heap.size<=k:=by
 obtain⟨W,hW⟩:∃W,W=w.alloc (.cells #[.pointer none,.slice none 0 0] 89):=⟨_,rfl⟩;rw[<-hW];have hEW:Ext w W:=by rw[hW];exact(Ext.refl w).alloc _
 have hWb:W.heap[w.heap.size]? = some (.cells #[.pointer none,.slice none 0 0] 89 (0,0)):=by rw[hW];exact heap_alloc_new w _
 have hWs:W.heap.size=w.heap.size+1:=by rw[hW];simp
 obtain⟨g,hgd⟩:∃g:Gh,g=fun r=>if r=0 then some ⟨some w.heap.size,0,S8 w.heap.size⟩else if r=1 then some ⟨none,0,.slice none 0 0⟩else none:=⟨_,rfl⟩
 have hg0:g 0=some ⟨some w.heap.size,0,S8 w.heap.size⟩:=by rw[hgd];rfl
 have hg1:g 1=some ⟨none,0,.slice none 0 0⟩:=by rw[hgd];rfl
 have hcase:∀r x b,g r=some x->x.blk=some b->r=0/\x=⟨some w.heap.size,0,S8 w.heap.size⟩/\b=w.heap.size:=fun r x b h hb=>by
  rw[hgd]at h;by_cases h0:r=0
  ·subst h0;obtain rfl:({blk:=some w.heap.size,lo:=0,v:=S8 w.heap.size}:GB)=x:=Option.some.inj h;injection hb with hb
   exact⟨rfl,rfl,hb.symm⟩
  ·by_cases h1:r=1
   ·subst h1;obtain rfl:({blk:=none,lo:=0,v:= .slice none 0 0}:GB)=x:=Option.some.inj h;cases hb
   ·simp[h0,h1]at h
 obtain⟨M2,hM2⟩:∃M2:Nat->Nat->Prop,M2=fun b o=>M b o\/b=w.heap.size:=⟨_,rfl⟩
 have hstep:Step M w M2 W:=by
  subst hM2;refine⟨fun ad u hc hm=>⟨hEW.cell hc,fun h=>?_⟩,fun b es c hc hm=>⟨(hEW.block b (z8 hc)).trans hc,fun h=>?_⟩⟩
  ·have:=World.block_lt_of_cell? w ad hc;rcases h with h|h
   ·exact hm h
   ·omega
  ·have:=z8 hc;rcases h with h|h
   ·exact hm h
   ·omega
 have hGW:GW W:=a7h w W (fun _=>False) hG (ExtX.of_ext hEW) fun _ h=>h.elim
 refine((c3q N N).2 M2 W g [.pointer (some ⟨w.heap.size,0,none⟩),.int .i64 0,v1] ((),0,l,()) (((),()),[],()) r hGW (by rw[hWs];omega)
  {args:=⟨⟨_,w.heap.size,hg0,rfl,rfl⟩,c9R .i64 0,h1.step hstep,trivial⟩,res:=fun r blk hr=>?_,dom:=fun r x h=>?_,inj:=fun r r' x x' k h1 h2 h3 h4=>(hcase _ _ _ h1 h3).1.trans (hcase _ _ _ h2 h4).1.symm,low:=fun r x k h1 h2=>?_,chg:=fun r x k o h1 h2=>?_,mlt:=fun k o h=>?_,row:=fun r x k h1 h2 h3=>?_} hr).mono fun e w' hq=>?_
 ·match r,hr with
  |0,hr=>
   obtain rfl:Blk.bld 89 [.row 1]=blk:=Option.some.inj hr;exact⟨_,hg0,w.heap.size,.pointer none,[.slice none 0 0],rfl,hWb,.inl rfl,⟨⟨_,none,0,0,hg1,rfl,rfl⟩,trivial⟩⟩
  |1,hr=>
   obtain rfl:Blk.row 5 .u8 true []=blk:=Option.some.inj hr;exact⟨_,hg1,by decide,[],World.ownsRow_nil _ _ _ _,rfl,rfl,fun i h=>by cases h⟩
  |n+2,hr=>cases hr
 ·rw[hgd]at h;by_cases h0:r=0
  ·subst h0;exact Nat.succ_pos 1
  ·by_cases h1:r=1
   ·subst h1;exact Nat.lt_succ_self 1
   ·simp[h0,h1]at h
 ·obtain⟨_,_,rfl⟩:=hcase _ _ _ h1 h2;exact⟨hB,by omega⟩
 ·obtain⟨_,rfl,rfl⟩:=hcase _ _ _ h1 h2;exact⟨fun _=>Nat.zero_le _,fun _=>by rw[hM2];exact .inr rfl⟩
 ·rw[hM2]at h;rcases h with h|h
  ·have:=hM k o h;omega
  ·omega
 ·obtain⟨_,rfl,rfl⟩:=hcase _ _ _ h1 h2;cases h3
 ·obtain⟨vs',g',he,hX,_,hF,hkeep,hnew⟩:=hq;have hv:=hF.args
  match vs',hv with
  |[],_=>
  refine⟨he,?_,?_⟩
  ·have hX2:ExtX (fun k=>k=w.heap.size) W w':=hX.wider fun k ⟨r,x,h1,h2⟩=>(hcase _ _ _ h1 h2).2.2
   have h0W:=hE.trans hEW;refine⟨hX2.os.trans h0W.os,hX2.tape.trans h0W.tape,hX2.output.trans h0W.output,Nat.le_trans h0W.size hX2.size,fun k hk=>?_⟩;have:=hE.size;rw[hX2.block k (by omega) (by omega)];exact h0W.block k hk
  ·have hg0':=hkeep 0 _ hg0 (.inl rfl);obtain⟨gx,hgx,b',p,us,e0,hb,hp,hus⟩:=hF.res 0 (.bld 89 [.row 1]) rfl;rw[hg0']at hgx;cases hgx;obtain rfl:w.heap.size=b':=by injection e0 with e1;injection e1
   match us,hus with
   |[v],hus=>
   obtain⟨⟨g1,A,n,c,hg1',hv1,hv2⟩,_⟩:=hus;have hg1':g' 1=some g1:=hg1';obtain⟨g1',hg1'',_,cs,hown,hblk,hlo,hcs⟩:=hF.res 1 (.row 5 .u8 true r) rfl;rw[hg1']at hg1'';cases hg1'';rw[<-hv1]at hown hblk;have hown:w'.ownsRow 0 5 1 v r.length cs:=hown;have hcs':cs=Lib.byteCells r:=b1A hown.1 hcs;subst hcs';refine⟨p,v,⟨hb,by simpa [Lib.byteCells]using hown,fun h=>?_⟩,fun k hk=>?_⟩
   ·have:=hF.inj 0 1 _ _ _ hg0' hg1' rfl (by rw[hblk,h]);cases this
   ·have:=hE.size;rcases hnew k ⟨1,g1,hg1',by rw[hblk,hk]⟩with⟨r,x,h1,h2⟩|h3
    ·obtain⟨_,_,rfl⟩:=hcase _ _ _ h1 h2;omega
    ·omega
set_option maxHeartbeats 1000000 in
set_option maxRecDepth 100000 in
theorem d07(N:Nat):I6 12 ⟨[V5],[],[V1,V0],[],d3×Int,fun z=>((z.1,z.2,()),()),fun x _=>U2 N x.1⟩:=by
 refine Sound.ofExt Tryz.call12 fun M w vs x z hG hM hA hz=>?_
 obtain⟨l,u⟩:=x
 match vs,hA with
 |[v1],hA=>
 obtain⟨h1,_⟩:=hA;have h1:RepV M w τ15 l v1:=h1;have hB:=c6c hG;have hz:U2 N l=some z:=hz;unfold U2 at hz;obtain⟨c,hc,hz⟩:=F9 hz;have cC:Calls Tryz.prog 27 #[v1] w fun e w'=>e = .returned (.int .i64 c)/\Ext w w':=by
  refine(Sound.callExt (c3H N) (vs:=[v1]) (x:=(l,())) (z:=c) hG hB hM ⟨h1,trivial⟩ hc).mono fun e w' hp=>?_
  obtain⟨vs',M',g',he,hE,hv⟩:=hp
  match vs',hv with
  |[v],hv=>
  obtain⟨hv,_⟩:=hv;have:v = .int .i64 c:=RepV.int hv;subst this;exact⟨he,hE⟩
 by_cases h0:c=0
 case neg=>
  have hne:(c !=0)=true:=by simpa using h0
  rw[hne,d9]at hz;cases hz
  go_enter Tryz.func12,Tryz.ntmps12
  go_wp2_with (go_at_call 27;refine cC.mono ?_;rintro e a ⟨rfl,hE⟩)
  go_ret2
  exact⟨[_,_],rfl,hE,b9D _,c9R .i64 _,trivial⟩
 subst h0;rw[bne_self_eq_false,g9]at hz;obtain⟨r,hr,hz⟩:=F9 hz;have cS:∀a,Ext w a->Calls Tryz.prog 28 #[.pointer (some ⟨a.heap.size,0,none⟩),.int .i64 0,v1] (a.alloc (.cells #[.pointer none,.slice none 0 0] 89)) fun e w'=>e = .returned (.tuple #[])/\
   Ext w w'/\∃p v,b2G w' a.heap.size p v (Lib.byteCells r)/\∀k,v.ownBlock=some k->w.heap.size<=k:=fun a hE=>
  c1z N (a7h w a (fun _=>False) hG (ExtX.of_ext hE) fun _ h=>h.elim) (Nat.le_trans hB hE.size) (fun b o h=>Nat.lt_of_lt_of_le (hM b o h) hE.size) (h1.step (Step.ext hE)) hr hE
 have hrl:(Lib.byteCells r).length=r.length:=by simp[Lib.byteCells]
 go_enter Tryz.func12,Tryz.ntmps12
 go_wp2_with (first
  |(go_at_call 27;refine cC.mono ?_;rintro e a ⟨rfl,hE⟩)
  |(go_at_call 28;refine(cS _ hE).mono ?_;rintro e g ⟨rfl,hE2,p,v,hbd,hvb⟩)
  |(go_at_call 29;refine(e5D hbd).mono ?_;rintro e m ⟨rfl,rfl⟩)
  |(go_at_call 30;refine(c8X hbd hE2 hvb).mono ?_;rintro e q ⟨rfl,hE4⟩))
 ·rename_i hgt;rw[decide_eq_true (show(r.length:Int)>50000 from hgt),d9]at hz;cases hz
  go_ret2
  exact⟨[_,_],rfl,hE2,b9D _,c9R .i64 _,trivial⟩
 ·rename_i hle hE4;rw[decide_eq_false (show ¬(r.length:Int)>50000 by omega),g9]at hz;cases hz
  go_ret2
  exact⟨[_,_],rfl,hE4,b9D _,c9R .i64 _,trivial⟩
end
noncomputable section
noncomputable section
variable(N:Nat)
def a5G(g:List τ9)(l:Int)(k2:ρ18)(self:Int->(List (d3×GExpr))->Option τ36)(c:Int)(e:List (d3×GExpr)):Option τ36:=br (decide (c<l)) (k8 (n8 g c) fun b=>k8 (C9 N N (GValue.mk b.2.kind b.2.text b.2.number b.2.list b.2.cases)) fun a=>br (Zf (e.length + [(b.1,Ze a)].length) (.pr .str O1)) (self (IntKind.i64.wrap (c+1)) (e ++ [(b.1,Ze a)])) none) (k2 e)
def b4y(N:Nat)(a:List τ9)(b:Int)(k2:ρ18):Nat->Int->(List (d3×GExpr))->Option τ36|0,_,_=>none|n+1,c,e=>a5G N a b k2 (b4y N a b k2 n) c e
def o6(c:d3×d3×List τ9)(e:List GStmt)(self:ρ20)(l:Int)(a b:GExpr):Option τ36:=b4y N c.2.2 (c.2.2.length:Int) (fun g=>br (Zf (e.length + [GStmt.mk 2 [116,97,114,103,101,116] [] [] g (GExpr.mk 0 [] 0 [] []) [] [] 0].length) τ26) (self (IntKind.i64.wrap (l+1)) (e ++ [GStmt.mk 2 [116,97,114,103,101,116] [] [] g (GExpr.mk 0 [] 0 [] []) [] [] 0])) none) N 0 [([110,97,109,101],Ze a),([107,105,110,100],Ze b)]
def a5F(l:List τ19)(m:Int)(k0:ρ25)(self:ρ20)(c:Int)(e:List GStmt):Option τ36:=br (decide (c<m)) (k8 (n8 l c) fun a=>q7 (k8 (y8 N a.1) fun g=>q7 (q7 (k8 (y8 N a.2.1) fun b=>q7 (q7 (o3 1 (o6 N a e self c g b)) (o6 N a e self c g b)) (o6 N a e self c g b)) (k8 (y8 N a.2.1) fun b=>o6 N a e self c g b)) (q7 (k8 (y8 N a.2.1) fun b=>q7 (q7 (q7 (o3 1 (o6 N a e self c g b)) (o6 N a e self c g b)) (o6 N a e self c g b)) (q7 (q7 (q7 (o3 1 (o6 N a e self c g b)) (o6 N a e self c g b)) (o6 N a e self c g b)) (o3 1 (o6 N a e self c g b)))) (q7 (k8 (y8 N a.2.1) fun b=>o6 N a e self c g b) (k8 (y8 N a.2.1) fun b=>o3 1 (o6 N a e self c g b))))) (k8 (y8 N a.1) fun g=>q7 (k8 (y8 N a.2.1) fun b=>o6 N a e self c g b) (k8 (y8 N a.2.1) fun b=>o3 1 (o6 N a e self c g b)))) (k0 e)
def b4w(N:Nat)(a:List τ19)(b:Int)(k0:ρ25):Nat->Int->(List GStmt)->Option τ36|0,_,_=>none|n+1,c,e=>a5F N a b k0 (b4w N a b k0 n) c e
def R8(a:d3×List τ19):Option τ36:=k8 (K8 N a) fun b=>br (b !=0) (some ([],b)) (b4w N a.2 (a.2.length:Int) (fun c=>k8 (U2 N c) fun e=>some e) N 0 [])
abbrev e7f(f:SV [.v τ33]->BV []->Option τ36):AF:={ps:=[.v τ33],bs:=[],rs:=[V1,V0],cs:=[],R:=d3×Int,out:=fun z=>((z.1,z.2,()),()),f:=f}
abbrev d5u:AF:=e7f fun x _=>R8 N x.1
abbrev d5v:SV [V1,V0]->BV []->τ36:=fun x _=>(x.1,x.2.1)
def d5t:FuncId->Option Tmp->Option AF:=fun f _=>P0 [(9,e2D N),(10,c7f N),(11,b4h fun x _=>C9 N N x.1),(12,e7u fun x _=>U2 N x.1)] f
theorem d0O:H5 (d5t N):=fun _ _ _ h=>r9 h (u4 (d8Q N) (u4 (b7e N) (u4 (b64 N N) (u4 (d07 N) F1))))
def f1n:Nat->Hint:=fun i=>
 match i with
 |0=>⟨[],[5,17,18,19],[1005],[5],[1005],[]⟩
 |2=>⟨[],[5,8,17,18,19,34,35,36],[1005,1008,1031],[5,8,17,18,19],[1005,1008,1031],[]⟩
 |100008=>⟨[1007],[],[],[],[],[]⟩
 |100012=>⟨[1008,1010,1031],[],[],[],[],[]⟩
 |_=>o5
abbrev b7i:Env:=M5 f1n (d5t N) FF FF
noncomputable abbrev e7e:Code:=P9 (m8 Tryz.f4) [true,true,true,false,true,false,false]
noncomputable abbrev e7d:Code:=P9 (m8 Tryz.f4) [true,true,true,false,true,false,false,true,true,false,false,true,true,false,true,false,false]
abbrev e34:=B4 (b7i N) Tryz.f4 (d5u N) d5v
abbrev b7j:List (Nat×Sl):=[(5,.row 1005),(8,.box 1008 0),(17,.v (.sl τ6)),(18,V0),(19,V0),(34,.v τ31),(35,V0),(36,V0)]
abbrev b0W:List (Nat×Sb):=[(1005,.row 51 τ26 false),(1008,.cells [V0,V1,V1,.nilS,.row 1031,V0,V1,V0,.nilS,.nilS,.nilS,.nilS,V0]),(1031,.row 48 (.pr .str O1) false)]
def b4z(x:FV b7j)(y:HV b0W):St:=⟨61,[(5,.row 1005),(8,.box 1008 0),(17,.v (.sl τ6) x.2.2.1),(18,.v τ3 x.2.2.2.1),(19,.v τ3 x.2.2.2.2.1)],unH b0W y⟩
def c2C:T9 (τ36) b7j b0W:=fun K n x y=>b4y N x.2.2.2.2.2.1 x.2.2.2.2.2.2.1 (fun a=>K 2 (b4z x (y.1,y.2.1,a,y.2.2.2))) n x.2.2.2.2.2.2.2.1 y.2.2.1
abbrev d0N:List (Nat×Sl):=[(5,.row 1005),(17,.v (.sl τ6)),(18,V0),(19,V0)]
abbrev b0V:List (Nat×Sb):=[(1005,.row 51 τ26 false)]
def b4x(y:HV b0V):St:=⟨61,[(5,.row 1005)],unH b0V y⟩
def c2B:T9 (τ36) d0N b0V:=fun K n x y=>b4w N x.2.1 x.2.2.1 (fun a=>K 0 (b4x (a,y.2))) n x.2.2.2.1 y.1
def c5B:Nat->Code->St->(Ex->St->Option τ36)->Option τ36:=fun i c=>
 match i with
 |0=>U4 (b7i N) N 61 (c2B N) 0 c
 |2=>U4 (b7i N) N 61 (c2C N) 2 c
 |i=>LpD (b7i N) N i c
theorem c7h:B2 (c5B N) (b7i N) N (e34 N) 2 e7d:=
 o0 (c2C N) (fun K f x y=>a5G N x.2.2.2.2.2.1 x.2.2.2.2.2.2.1 (fun a=>K 2 (b4z x (y.1,y.2.1,a,y.2.2.2))) (fun b c=>f (x.1,x.2.1,x.2.2.1,x.2.2.2.1,x.2.2.2.2.1,x.2.2.2.2.2.1,x.2.2.2.2.2.2.1,b,x.2.2.2.2.2.2.2.2) (y.1,y.2.1,c,y.2.2.2)) x.2.2.2.2.2.2.2.1 y.2.2.1)
theorem e1F:B2 (c5B N) (b7i N) N (e34 N) 0 e7e:=
 a4Q (c2B N) (fun K f x y=>a5F N x.2.1 x.2.2.1 (fun a=>K 0 (b4x (a,y.2))) (fun b c=>f (x.1,x.2.1,x.2.2.1,b,x.2.2.2.2) (c,y.2)) x.2.2.2.1 y.1) (P5 (c7h N) U6)
theorem d0P:I6 4 (d5u N):=
 X0 (d0O N) Tryz.func4 Tryz.call4 (d5u N) d5v N (c5B N) (P5 (e1F N) (P5 (c7h N) U6))
def L7(a:UInt8)(self:ρ33)(b:Int):Option Bool:=br (decide (a<48)) (k8 (strings_IndexByte [46,95,45,43] a) fun c=>br (decide (c<0)) (some false) (self (IntKind.i64.wrap (b+1)))) (br (decide (a>57)) (k8 (strings_IndexByte [46,95,45,43] a) fun e=>br (decide (e<0)) (some false) (self (IntKind.i64.wrap (b+1)))) (self (IntKind.i64.wrap (b+1))))
def a2m(_N:Nat)(c:d3)(e:Int)(k0:Option Bool)(self:ρ33)(b:Int):Option Bool:=br (decide (b<e)) (k8 (n8 c b) fun a=>br (decide (a<97)) (br (decide (a<65)) (L7 a self b) (br (decide (a>90)) (L7 a self b) (self (IntKind.i64.wrap (b+1))))) (br (decide (a>122)) (br (decide (a<65)) (L7 a self b) (br (decide (a>90)) (L7 a self b) (self (IntKind.i64.wrap (b+1))))) (self (IntKind.i64.wrap (b+1))))) (k0)
def b48(N:Nat)(a:d3)(b:Int)(k0:Option Bool):Nat->Int->Option Bool|0,_=>none|n+1,c=>a2m N a b k0 (b48 N a b k0 n) c
def a4a(a:d3):Option Bool:=b48 N a (a.length:Int) (br (!(a==[])) (br (!(a==[46])) (some (!(a==[46,46]))) (some false)) (some false)) N 0
abbrev e8m:=E3 [V1] [] [V3] [] (Bool) fun z=>((z,()),())
abbrev c7X:AF:=e8m fun x _=>a4a N x.1
abbrev d6Z:SV [V3]->BV []->Bool:=fun x _=>x.1
def d6Y(_N:Nat):FuncId->Option Tmp->Option AF:=fun f _=>P0 [(131,e3N)] f
theorem d2g:H5 (d6Y N):=fun _ _ _ h=>r9 h (u4 (a7B) F1)
def f2a:Nat->Hint:=fun i=>
 match i with
 |0=>⟨[],[0,6,7],[],[0],[],[]⟩
 |_=>o5
abbrev c7W:Env:=M5 f2a (d6Y N) FF FF
noncomputable abbrev e8l:Code:=P9 (m8 Tryz.f118) [true,false,true,false,false]
abbrev f18:=B4 (c7W N) Tryz.f118 (c7X N) d6Z
abbrev b7O:List (Nat×Sl):=[(0,V1),(6,V0),(7,V0)]
abbrev d2f:List (Nat×Sb):=[]
def b49(x:FV b7O):St:=⟨51,[(0,.v .str x.1)],[]⟩
def c3l:T9 (Bool) b7O d2f:=fun K n x y=>b48 N x.1 x.2.1 (K 0 (b49 x)) n x.2.2.1
def d6X:Nat->Code->St->(Ex->St->Option Bool)->Option Bool:=fun i c=>
 match i with
 |0=>U4 (c7W N) N 51 (c3l N) 0 c
 |i=>LpD (c7W N) N i c
theorem e2a:B2 (d6X N) (c7W N) N (f18 N) 0 e8l:=
 o0 (c3l N) (fun K f x y=>a2m N x.1 x.2.1 (K 0 (b49 x)) (fun a=>f (x.1,x.2.1,a,x.2.2.2) y) x.2.2.1)
theorem d2h:I6 118 (c7X N):=
 X0 (d2g N) Tryz.func118 Tryz.call118 (c7X N) d6Z N (d6X N) (P5 (e2a N) U6)
def a7Q(b:List d3)(c:Int)(k0:Option Bool)(self:ρ33)(a:Int):Option Bool:=br (decide (a<c)) (k8 (n8 b a) fun e=>k8 (a4a N e) fun g=>br (!g) (some false) (self (IntKind.i64.wrap (a+1)))) (k0)
def c0a(N:Nat)(a:List d3)(b:Int)(k0:Option Bool):Nat->Int->Option Bool|0,_=>none|n+1,c=>a7Q N a b k0 (c0a N a b k0 n) c
def a2x(a:d3):Option Bool:=k8 (strings_Split a [47]) fun b=>c0a N b (b.length:Int) (k8 (T2 N (a.length:Int) 1 200) fun c=>some c) N 0
abbrev e8k:=E3 [V1] [] [V3] [] (Bool) fun z=>((z,()),())
abbrev c7V:AF:=e8k fun x _=>a2x N x.1
abbrev d6W:SV [V3]->BV []->Bool:=fun x _=>x.1
def d6V:FuncId->Option Tmp->Option AF:=fun f _=>P0 [(49,d6c),(118,c7X N),(119,b7S N)] f
theorem d2e:H5 (d6V N):=fun _ _ _ h=>r9 h (u4 (b04) (u4 (d2h N) (u4 (a7S N) F1)))
def f16:Nat->Hint:=fun i=>
 match i with
 |0=>⟨[],[0,6,7,8],[],[0],[],[]⟩
 |_=>o5
abbrev c7U:Env:=M5 f16 (d6V N) FF FF
noncomputable abbrev e8j:Code:=P9 (m8 Tryz.f62) [true,false,true,false,false]
abbrev f12:=B4 (c7U N) Tryz.f62 (c7V N) d6W
abbrev b7L:List (Nat×Sl):=[(0,V1),(6,V4),(7,V0),(8,V0)]
abbrev d2d:List (Nat×Sb):=[]
def b46(x:FV b7L):St:=⟨19,[(0,.v .str x.1)],[]⟩
def c3k:T9 (Bool) b7L d2d:=fun K n x y=>c0a N x.2.1 x.2.2.1 (K 0 (b46 x)) n x.2.2.2.1
def d6U:Nat->Code->St->(Ex->St->Option Bool)->Option Bool:=fun i c=>
 match i with
 |0=>U4 (c7U N) N 19 (c3k N) 0 c
 |i=>LpD (c7U N) N i c
theorem e19:B2 (d6U N) (c7U N) N (f12 N) 0 e8j:=
 o0 (c3k N) (fun K f x y=>a7Q N x.2.1 x.2.2.1 (K 0 (b46 x)) (fun a=>f (x.1,x.2.1,x.2.2.1,a,x.2.2.2.2) y) x.2.2.2.1)
theorem b7M:I6 62 (c7V N):=
 X0 (d2e N) Tryz.func62 Tryz.call62 (c7V N) d6W N (d6U N) (P5 (e19 N) U6)
def a5l(a:d3):Option Bool:=br (a==[]) (some true) (k8 (a2x N a) fun b=>some b)
abbrev e8y:=E3 [V1] [] [V3] [] (Bool) fun z=>((z,()),())
abbrev d7c:AF:=e8y fun x _=>a5l N x.1
theorem d2q:I6 31 (d7c N):=
 N9 h0 (u4 (b7M N) F1) Tryz.func31 Tryz.call31 (d7c N) (fun x _=>x.1) N
def b2m(g:List τ9)(l:Int)(m:List τ9)(k1:τ39)(self:ρ34)(b:Int):Option Int:=br (decide (b<l)) (k8 (n8 g b) fun a=>k8 (T0 N a.1) fun o=>br (!o) (some (5:Int)) (k8 (P1 N (P2 N N) (GValue.mk a.2.kind a.2.text a.2.number a.2.list a.2.cases)) fun c=>br (c !=0) (some c) (br (decide (b>0)) (k8 (n8 m (IntKind.i64.wrap (b-1))) fun e=>br (Op.bytesLess a.1 e.1||a.1==e.1) (some (8:Int)) (self (IntKind.i64.wrap (b+1)))) (self (IntKind.i64.wrap (b+1)))))) (k1)
def b9K(N:Nat)(a:List τ9)(b:Int)(c:List τ9)(k1:τ39):Nat->Int->Option Int|0,_=>none|n+1,e=>b2m N a b c k1 (b9K N a b c k1 n) e
def b2n(_N:Nat)(c:List τ9)(e:Int)(k3:τ39)(self:ρ34)(a:Int):Option Int:=br (decide (a<e)) (k8 (n8 c a) fun b=>br (b.1==[110,97,109,101]) (some (5:Int)) (br (b.1==[107,105,110,100]) (some (5:Int)) (self (IntKind.i64.wrap (a+1))))) (k3)
def b9L(N:Nat)(a:List τ9)(b:Int)(k3:τ39):Nat->Int->Option Int|0,_=>none|n+1,c=>b2n N a b k3 (b9L N a b k3 n) c
def a0F(a:d3×d3×List τ9):Option Int:=k8 (a2x N a.1) fun b=>br (!b) (some (3:Int)) (k8 (T0 N a.2.1) fun c=>br (!c) (some (5:Int)) (br (decide ((a.2.2.length:Int)>30)) (some (2:Int)) (b9K N a.2.2 (a.2.2.length:Int) a.2.2 (b9L N a.2.2 (a.2.2.length:Int) (some (0:Int)) N 0) N 0)))
abbrev e6I:=E3 [.v τ6] [] [V0] [] (Int) fun z=>((z,()),())
abbrev c66:AF:=e6I fun x _=>a0F N x.1
abbrev d42:SV [V0]->BV []->Int:=fun x _=>x.1
def d41:FuncId->Option Tmp->Option AF:=fun f _=>P0 [(62,c7V N),(63,b7K N),(64,d5i fun x _=>P1 N (P2 N N) x.1)] f
theorem c96:H5 (d41 N):=fun _ _ _ h=>r9 h (u4 (b7M N) (u4 (b1g N) (u4 (b68 N (P2 N N) (b69 N N)) F1)))
def f1e:Nat->Hint:=fun i=>
 match i with
 |1=>⟨[],[1,24,25,26],[1001],[1],[1001],[]⟩
 |3=>⟨[],[57,58,59],[],[],[],[]⟩
 |_=>o5
abbrev b6Z:Env:=M5 f1e (d41 N) FF FF
noncomputable abbrev e6H:Code:=P9 (m8 Tryz.f32) [true,true,false,true,false,false]
noncomputable abbrev e6G:Code:=P9 (m8 Tryz.f32) [true,true,true,false,true,false,false]
abbrev e3O:=B4 (b6Z N) Tryz.f32 (c66 N) d42
abbrev c93:List (Nat×Sl):=[(1,.box 1001 0),(24,.v τ31),(25,V0),(26,V0)]
abbrev b0J:List (Nat×Sb):=[(1001,.cells [V1,V1,.v τ31])]
def b4e(y:HV b0J):St:=⟨72,[(1,.box 1001 0)],unH b0J y⟩
def c2j:T9 (Int) c93 b0J:=fun K n x y=>b9K N x.2.1 x.2.2.1 y.1.2.2.1 (K 1 (b4e y)) n x.2.2.2.1
abbrev c95:List (Nat×Sl):=[(57,.v τ31),(58,V0),(59,V0)]
abbrev c94:List (Nat×Sb):=[]
def c2k:T9 (Int) c95 c94:=fun K n x y=>b9L N x.1 x.2.1 (K 3 ⟨72,[],[]⟩) n x.2.2.1
def c5o:Nat->Code->St->(Ex->St->Option Int)->Option Int:=fun i c=>
 match i with
 |1=>U4 (b6Z N) N 72 (c2j N) 1 c
 |3=>U4 (b6Z N) N 72 (c2k N) 3 c
 |i=>LpD (b6Z N) N i c
theorem e1r:B2 (c5o N) (b6Z N) N (e3O N) 3 e6G:=
 o0 (c2k N) (fun K f x y=>b2n N x.1 x.2.1 (K 3 ⟨72,[],[]⟩) (fun a=>f (x.1,x.2.1,a,x.2.2.2) y) x.2.2.1)
theorem e1q:B2 (c5o N) (b6Z N) N (e3O N) 1 e6H:=
 o0 (c2j N) (fun K f x y=>b2m N x.2.1 x.2.2.1 y.1.2.2.1 (K 1 (b4e y)) (fun a=>f (x.1,x.2.1,x.2.2.1,a,x.2.2.2.2) y) x.2.2.2.1)
theorem c97:I6 32 (c66 N):=
 X0 (c96 N) Tryz.func32 Tryz.call32 (c66 N) d42 N (c5o N) (P5 (e1q N) (P5 (e1r N) U6))
end
end
end Go.Proofs.YtckdohagilcloaaGreatDoor
