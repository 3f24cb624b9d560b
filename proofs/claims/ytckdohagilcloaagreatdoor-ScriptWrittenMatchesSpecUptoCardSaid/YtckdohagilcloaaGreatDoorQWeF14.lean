/- % -/
import Derived.Test.YtckdohagilcloaaGreatDoorQWeF12
namespace Go.Proofs.YtckdohagilcloaaGreatDoor
set_option maxRecDepth 100000
set_option linter.unusedVariables false
open Go Go.RowKit
noncomputable section
noncomputable section
variable(N:Nat)
def C2(a:GValue)(N:Nat)(j0:ρ32):Option Int:=br (decide ((a.text.length:Int)>1000)) (some (2:Int)) (br (decide ((a.list.length:Int)>1000)) (some (2:Int)) (k8 (A5 N a.list ()) fun b=>br (b) (some (2:Int)) (br (decide ((a.cases.length:Int)>50)) (some (2:Int)) (k8 (J1 N a.text) fun c=>br (!c) (some (3:Int)) (k8 (A6 N a.list ()) fun e=>br (e) (some (3:Int)) (br (decide (a.number<0)) (some (1:Int)) (br (decide (a.number>999999999)) (some (1:Int)) (br (a.kind==4) (k8 (j0 a.cases) fun g=>some g) (some (0:Int))))))))))
def N4(a:GValue)(N:Nat)(j0:ρ32):Option Int:=br (decide ((a.list.length:Int)>0)) (br (a.kind !=3) (br (a.kind !=3) (some (3:Int)) (C2 a N j0)) (br (decide ((a.cases.length:Int)>0)) (br (a.kind !=4) (some (3:Int)) (C2 a N j0)) (C2 a N j0))) (br (decide ((a.cases.length:Int)>0)) (br (a.kind !=4) (some (3:Int)) (C2 a N j0)) (C2 a N j0))
def D1(j0:ρ32)(a:GValue):Option Int:=br (decide (a.kind<1)) (some (4:Int)) (br (decide (a.kind>4)) (some (4:Int)) (br (!(a.text==[])) (br (a.kind !=1) (br (a.kind !=1) (some (3:Int)) (C2 a N j0)) (br (a.number !=0) (br (a.kind !=2) (br (a.kind !=2) (some (3:Int)) (C2 a N j0)) (N4 a N j0)) (N4 a N j0))) (br (a.number !=0) (br (a.kind !=2) (br (a.kind !=2) (some (3:Int)) (C2 a N j0)) (N4 a N j0)) (N4 a N j0))))
abbrev e0b:=E3 [.v τ18] [] [V0] [] (Int) fun z=>((z,()),())
abbrev e9H(j0:ρ32):AF:=e0b fun x _=>D1 N j0 x.1
def c8O(j0:ρ32):FuncId->Option Tmp->Option AF:=fun f q=>
 match f with
  |100=>match q with|some 61=>some (z1g N)|some 77=>some (z2g N)|_=>none
  |102=>some (b7r N)
  |104=>some (b8y fun x _=>j0 x.1)
  |_=>none
theorem e0a(j0:ρ32)(G7:Sound Tryz.prog GW x6 104 (b8y fun x y=>j0 x.1)):∀f q F,c8O N j0 f q=some F->Sound Tryz.prog GW x6 f F:=by
 intro f q F h;unfold c8O at h;split at h
 ·split at h
  ·cases h;exact e2h N
  ·cases h;exact e2k N
  ·cases h
 ·cases h;exact a3o N
 ·cases h;exact G7
 ·cases h
def f4Y:Nat->Hint:=fun i=>
 match i with
 |_=>o5
abbrev f7O(j0:ρ32):Env:=M5 f4Y (c8O N j0) (fun _=>false) (fun _=>false)
theorem b5G(j0:ρ32)(G7:Sound Tryz.prog GW x6 104 (b8y fun x y=>j0 x.1)):Sound Tryz.prog GW x6 52 (e9H N j0):=
 T5 (f7O N j0) (t6 f4Y (c8O N j0) _ _ (e0a N j0 G7)) Tryz.func52 Tryz.call52 (e9H N j0) (fun x _=>x.1) N
def c0i(j0:ρ32)(c l:List τ9)(m:Int)(k0:τ39)(self:ρ34)(b:Int):Option Int:=br (decide (b<m)) (k8 (n8 l b) fun a=>k8 (a0J N a.1) fun e=>br (e !=0) (some e) (k8 (slc c 0 b) fun o=>k8 (P3 N o ((a.1,GValue.mk a.2.kind a.2.text a.2.number a.2.list a.2.cases),())) fun p=>br (p) (some (7:Int)) (br (a.2.kind==4) (some (4:Int)) (k8 (D1 N j0 (GValue.mk a.2.kind a.2.text a.2.number a.2.list a.2.cases)) fun g=>br (g !=0) (some g) (k8 (n8 c 0) fun q=>br (a.2.kind !=q.2.kind) (some (6:Int)) (self (IntKind.i64.wrap (b+1)))))))) (k0)
def d8V(N:Nat)(j0:ρ32)(a b:List τ9)(c:Int)(k0:τ39):Nat->Int->Option Int|0,_=>none|n+1,e=>c0i N j0 a b c k0 (d8V N j0 a b c k0 n) e
def U7(j0:ρ32)(a:List τ9):Option Int:=br ((a.length:Int)==0) (some (9:Int)) (d8V N j0 a a (a.length:Int) (some (0:Int)) N 0)
abbrev f3T:=E3 [.v τ31] [] [V0] [] (Int) fun z=>((z,()),())
abbrev e9g(j0:ρ32):AF:=f3T fun x _=>U7 N j0 x.1
abbrev e40:SV [V0]->BV []->Int:=fun x _=>x.1
def d8Y(j0:ρ32):FuncId->Option Tmp->Option AF:=fun f _=>P0 [(52,e9H N j0),(175,d5c N),(176,e7b N),(177,d3Z [.v (.ptr τ12)])] f
theorem d8Z(j0:ρ32)(G7:Sound Tryz.prog GW x6 104 (b8y fun x y=>j0 x.1)):∀f q F,d8Y N j0 f q=some F->Sound Tryz.prog GW x6 f F:=fun _ _ _ h=>r9 h (u4 (b5G N j0 G7) (u4 (d0k N) (u4 (d5r N) (u4 (b85 Tryz.call177 _) F1))))
def f3S:Nat->Hint:=fun i=>
 match i with
 |0=>⟨[],[0,10,11,12],[],[],[],[]⟩
 |_=>o5
abbrev e2J(j0:ρ32):Env:=M5 f3S (d8Y N j0) (fun _=>false) (fun _=>false)
abbrev f7m(j0:ρ32):=B4 (e2J N j0) Tryz.f104 (e9g N j0) e40
noncomputable abbrev f3R:Code:=P9 (m8 Tryz.f104) [true,true,false,true,false,false]
abbrev d8X:List (Nat×Sl):=[(0,.v τ31),(10,.v τ31),(11,V0),(12,V0)]
abbrev d8W:List (Nat×Sb):=[]
def c8o(j0:ρ32):T9 (Int) d8X d8W:=fun K n x y=>d8V N j0 x.1 x.2.1 x.2.2.1 (K 0 ⟨48,[],[]⟩) n x.2.2.2.1
def e4Z(j0:ρ32):Nat->Code->St->(Ex->St->Option Int)->Option Int:=fun i c=>
 match i with
 |0=>U4 (e2J N j0) N 48 (c8o N j0) 0 c
 |i=>LpD (e2J N j0) N i c
theorem e9h(j0:ρ32):B2 (e4Z N j0) (e2J N j0) N (f7m N j0) 0 f3R:=
 o0 (c8o N j0) (fun K f x y=>c0i N j0 x.1 x.2.1 x.2.2.1 (K 0 ⟨48,[],[]⟩) (fun a=>f (x.1,x.2.1,x.2.2.1,a,x.2.2.2.2) y) x.2.2.2.1)
theorem d80(j0:ρ32)(G7:Sound Tryz.prog GW x6 104 (b8y fun x y=>j0 x.1)):Sound Tryz.prog GW x6 104 (e9g N j0):=
 a0l (t6 f3S (d8Y N j0) _ _ (d8Z N j0 G7)) Tryz.func104 Tryz.call104 (e9g N j0) e40 N (e4Z N j0) (P5 (e9h N j0) U6)
def C4(N:Nat):Nat->τ25->Option (Int)|0=>fun _=>none|d+1=>U7 N (C4 N d)
theorem b5H(N:Nat):∀d,Sound Tryz.prog GW x6 104 (b8y fun x y=>C4 N d x.1)
 |0=>Sound.never Tryz.call104 (fun _ _=>rfl)
 |d+1=>d80 N (C4 N d) (b5H N d)
def b2B(_N:Nat)(b:d3)(c:Int)(k0:Option Bool)(self:ρ33)(a:Int):Option Bool:=br (decide (a<c)) (k8 (n8 b a) fun e=>br (e !=10) (k8 (n8 b a) fun g=>br (decide (g<32)) (some false) (k8 (n8 b a) fun l=>br (decide (l>126)) (some false) (self (IntKind.i64.wrap (a+1))))) (self (IntKind.i64.wrap (a+1)))) (k0)
def c5Y(N:Nat)(a:d3)(b:Int)(k0:Option Bool):Nat->Int->Option Bool|0,_=>none|n+1,c=>b2B N a b k0 (c5Y N a b k0 n) c
def N3(a:d3):Option Bool:=c5Y N a (a.length:Int) (some true) N 0
abbrev e8o:=E3 [V1] [] [V3] [] (Bool) fun z=>((z,()),())
abbrev b7P:AF:=e8o fun x _=>N3 N x.1
abbrev d62:SV [V3]->BV []->Bool:=fun x _=>x.1
def d61(_N:Nat):FuncId->Option Tmp->Option AF:=fun f _=>P0 [] f
theorem d2k:H5 (d61 N):=fun _ _ _ h=>r9 h F1
def f2c:Nat->Hint:=fun i=>
 match i with
 |0=>⟨[],[0,5,6],[],[],[],[]⟩
 |_=>o5
abbrev c7Y:Env:=M5 f2c (d61 N) FF FF
noncomputable abbrev e8n:Code:=P9 (m8 Tryz.f122) [true,false,true,false,false]
abbrev f2b:=B4 (c7Y N) Tryz.f122 (b7P N) d62
abbrev d2j:List (Nat×Sl):=[(0,V1),(5,V0),(6,V0)]
abbrev d2i:List (Nat×Sb):=[]
def c3m:T9 (Bool) d2j d2i:=fun K n x y=>c5Y N x.1 x.2.1 (K 0 ⟨26,[],[]⟩) n x.2.2.1
def d60:Nat->Code->St->(Ex->St->Option Bool)->Option Bool:=fun i c=>
 match i with
 |0=>U4 (c7Y N) N 26 (c3m N) 0 c
 |i=>LpD (c7Y N) N i c
theorem e2b:B2 (d60 N) (c7Y N) N (f2b N) 0 e8n:=
 o0 (c3m N) (fun K f x y=>b2B N x.1 x.2.1 (K 0 ⟨26,[],[]⟩) (fun a=>f (x.1,x.2.1,a,x.2.2.2) y) x.2.2.1)
theorem a7R:I6 122 (b7P N):=
 X0 (d2k N) Tryz.func122 Tryz.call122 (b7P N) d62 N (d60 N) (P5 (e2b N) U6)
def a1J(a:d3):Option Int:=br (decide ((a.length:Int)>1000)) (some (2:Int)) (k8 (N3 N a) fun b=>br (!b) (some (3:Int)) (some (0:Int)))
abbrev e7a:=E3 [V1] [] [V0] [] (Int) fun z=>((z,()),())
abbrev d5q:AF:=e7a fun x _=>a1J N x.1
theorem d0K:I6 188 (d5q N):=
 N9 h0 (u4 (a7R N) F1) Tryz.func188 Tryz.call188 (d5q N) (fun x _=>x.1) N
def Z1(a:GValue):Option Bool:=br ((a.list.length:Int)==0) (br ((a.cases.length:Int)==0) (some true) (some (a.kind==4))) (br (a.kind==3) (br ((a.cases.length:Int)==0) (some true) (some (a.kind==4))) (some false))
def a24(_N:Nat)(a:GValue):Option Bool:=br (a.text==[]) (br (a.number==0) (Z1 a) (br (a.kind==2) (Z1 a) (some false))) (br (a.kind==1) (br (a.number==0) (Z1 a) (br (a.kind==2) (Z1 a) (some false))) (some false))
abbrev e7T:=E3 [.v τ18] [] [V3] [] (Bool) fun z=>((z,()),())
abbrev d6p:AF:=e7T fun x _=>a24 N x.1
theorem d1H:I6 121 (d6p N):=
 N9 h0 F1 Tryz.func121 Tryz.call121 (d6p N) (fun x _=>x.1) N
def T2(_N:Nat)(a b c:Int):Option Bool:=br (decide (b<=a)) (some (decide (a<=c))) (some false)
abbrev e8r:=E3 [V0,V0,V0] [] [V3] [] (Bool) fun z=>((z,()),())
abbrev b7S:AF:=e8r fun x _=>T2 N x.1 x.2.1 x.2.2.1
theorem a7S:I6 119 (b7S N):=
 N9 h0 F1 Tryz.func119 Tryz.call119 (b7S N) (fun x _=>x.1) N
abbrev b0Q:=E3 [.v τ31] [] [V0] [] (Int) fun z=>((z,()),())
end
end
noncomputable section
noncomputable section
variable(N:Nat)
def b2q(_N:Nat)(d6:ρ32)(b:List d3)(c:Int)(k0:τ39)(self:ρ34)(a:Int):Option Int:=br (decide (a<c)) (k8 (n8 b a) fun e=>br (decide ((e.length:Int)>1000)) (some (2:Int)) (self (IntKind.i64.wrap (a+1)))) (k0)
def b9O(N:Nat)(d6:ρ32)(a:List d3)(b:Int)(k0:τ39):Nat->Int->Option Int|0,_=>none|n+1,c=>b2q N d6 a b k0 (b9O N d6 a b k0 n) c
def b2r(d6:ρ32)(b:List d3)(c:Int)(k2:τ39)(self:ρ34)(a:Int):Option Int:=br (decide (a<c)) (k8 (n8 b a) fun e=>k8 (N3 N e) fun g=>br (!g) (some (3:Int)) (self (IntKind.i64.wrap (a+1)))) (k2)
def b9P(N:Nat)(d6:ρ32)(a:List d3)(b:Int)(k2:τ39):Nat->Int->Option Int|0,_=>none|n+1,c=>b2r N d6 a b k2 (b9P N d6 a b k2 n) c
def P1(d6:ρ32)(a:GValue):Option Int:=br (decide (a.kind<1)) (some (4:Int)) (br (decide (a.kind>4)) (some (4:Int)) (k8 (a24 N (GValue.mk a.kind a.text a.number a.list a.cases)) fun b=>br (!b) (some (3:Int)) (br (decide ((a.text.length:Int)>1000)) (some (2:Int)) (br (decide ((a.list.length:Int)>1000)) (some (2:Int)) (br (decide ((a.cases.length:Int)>50)) (some (2:Int)) (b9O N d6 a.list (a.list.length:Int) (k8 (N3 N a.text) fun c=>br (!c) (some (3:Int)) (b9P N d6 a.list (a.list.length:Int) (k8 (T2 N a.number 0 999999999) fun e=>br (!e) (some (1:Int)) (br (a.kind==4) (k8 (d6 a.cases) fun g=>some g) (some (0:Int)))) N 0)) N 0))))))
abbrev d5i:=E3 [.v τ18] [] [V0] [] (Int) fun z=>((z,()),())
abbrev c7b(d6:ρ32):AF:=d5i fun x _=>P1 N d6 x.1
abbrev d5h:SV [V0]->BV []->Int:=fun x _=>x.1
def c5t(d6:ρ32):FuncId->Option Tmp->Option AF:=fun f _=>P0 [(119,b7S N),(121,d6p N),(122,b7P N),(123,b0Q fun x _=>d6 x.1)] f
theorem d0u(d6:ρ32)(J4:Sound Tryz.prog GW x6 123 (b0Q fun x y=>d6 x.1)):∀f q F,c5t N d6 f q=some F->Sound Tryz.prog GW x6 f F:=fun _ _ _ h=>r9 h (u4 (a7S N) (u4 (d1H N) (u4 (a7R N) (u4 (J4) F1))))
def e3V:Nat->Hint:=fun i=>
 match i with
 |0=>⟨[],[1,35,36,37],[1001],[1],[1001],[]⟩
 |2=>⟨[],[1,50,51,52],[1001],[1],[1001],[]⟩
 |_=>o5
abbrev b67(d6:ρ32):Env:=M5 e3V (c5t N d6) (fun _=>false) (fun _=>false)
abbrev e3U(d6:ρ32):=B4 (b67 N d6) Tryz.f64 (c7b N d6) d5h
noncomputable abbrev e6W:Code:=P9 (m8 Tryz.f64) [true,true,true,true,false,true,false,false]
noncomputable abbrev e6V:Code:=P9 (m8 Tryz.f64) [true,true,true,true,true,true,false,true,false,false]
abbrev d0s:List (Nat×Sl):=[(1,.box 1001 0),(35,V4),(36,V0),(37,V0)]
abbrev b0O:List (Nat×Sb):=[(1001,.cells [V0,V1,V0,V4,.v τ31])]
def b4m(y:HV b0O):St:=⟨70,[(1,.box 1001 0)],unH b0O y⟩
def c2u(d6:ρ32):T9 (Int) d0s b0O:=fun K n x y=>b9O N d6 x.2.1 x.2.2.1 (K 0 (b4m y)) n x.2.2.2.1
abbrev d0t:List (Nat×Sl):=[(1,.box 1001 0),(50,V4),(51,V0),(52,V0)]
abbrev b0P:List (Nat×Sb):=[(1001,.cells [V0,V1,V0,V4,.v τ31])]
def b4n(y:HV b0P):St:=⟨70,[(1,.box 1001 0)],unH b0P y⟩
def c2v(d6:ρ32):T9 (Int) d0t b0P:=fun K n x y=>b9P N d6 x.2.1 x.2.2.1 (K 2 (b4n y)) n x.2.2.2.1
def c5s(d6:ρ32):Nat->Code->St->(Ex->St->Option Int)->Option Int:=fun i c=>
 match i with
 |0=>U4 (b67 N d6) N 70 (c2u N d6) 0 c
 |2=>U4 (b67 N d6) N 70 (c2v N d6) 2 c
 |i=>LpD (b67 N d6) N i c
theorem e1z(d6:ρ32):B2 (c5s N d6) (b67 N d6) N (e3U N d6) 2 e6V:=
 o0 (c2v N d6) (fun K f x y=>b2r N d6 x.2.1 x.2.2.1 (K 2 (b4n y)) (fun a=>f (x.1,x.2.1,x.2.2.1,a,x.2.2.2.2) y) x.2.2.2.1)
theorem e1y(d6:ρ32):B2 (c5s N d6) (b67 N d6) N (e3U N d6) 0 e6W:=
 o0 (c2u N d6) (fun K f x y=>b2q N d6 x.2.1 x.2.2.1 (K 0 (b4m y)) (fun a=>f (x.1,x.2.1,x.2.2.1,a,x.2.2.2.2) y) x.2.2.2.1)
theorem b68(d6:ρ32)(J4:Sound Tryz.prog GW x6 123 (b0Q fun x y=>d6 x.1)):Sound Tryz.prog GW x6 64 (c7b N d6):=
 a0l (t6 e3V (c5t N d6) _ _ (d0u N d6 J4)) Tryz.func64 Tryz.call64 (c7b N d6) d5h N (c5s N d6) (P5 (e1y N d6) (P5 (e1z N d6) U6))
def c0n(_N:Nat)(d6:ρ32)(b:List τ9)(c:Int)(e:d3)(k2:τ39)(self:ρ34)(a:Int):Option Int:=br (decide (a<c)) (k8 (n8 b a) fun g=>br (g.1==e) (some (7:Int)) (self (IntKind.i64.wrap (a+1)))) (k2)
def c36(N:Nat)(d6:ρ32)(a:List τ9)(b:Int)(c:d3)(k2:τ39):Nat->Int->Option Int|0,_=>none|n+1,e=>c0n N d6 a b c k2 (c36 N d6 a b c k2 n) e
def c0m(d6:ρ32)(c m:List τ9)(o:Int)(k0:τ39)(self:ρ34)(b:Int):Option Int:=br (decide (b<o)) (k8 (n8 m b) fun a=>k8 (a1J N a.1) fun e=>br (e !=0) (some e) (k8 (slc c 0 b) fun g=>c36 N d6 g (g.length:Int) a.1 (br (a.2.kind==4) (some (4:Int)) (k8 (P1 N d6 (GValue.mk a.2.kind a.2.text a.2.number a.2.list a.2.cases)) fun l=>br (l !=0) (some l) (k8 (n8 c 0) fun p=>br (a.2.kind !=p.2.kind) (some (6:Int)) (self (IntKind.i64.wrap (b+1)))))) N 0)) (k0)
def d92(N:Nat)(d6:ρ32)(a b:List τ9)(c:Int)(k0:τ39):Nat->Int->Option Int|0,_=>none|n+1,e=>c0m N d6 a b c k0 (d92 N d6 a b c k0 n) e
def a0g(d6:ρ32)(a:List τ9):Option Int:=br ((a.length:Int)==0) (some (9:Int)) (d92 N d6 a a (a.length:Int) (some (0:Int)) N 0)
abbrev f4X:=E3 [.v τ31] [] [V0] [] (Int) fun z=>((z,()),())
abbrev e9F(d6:ρ32):AF:=f4X fun x _=>a0g N d6 x.1
abbrev e5v:SV [V0]->BV []->Int:=fun x _=>x.1
def d96(d6:ρ32):FuncId->Option Tmp->Option AF:=fun f _=>P0 [(64,c7b N d6),(188,d5q N)] f
theorem d97(d6:ρ32)(J4:Sound Tryz.prog GW x6 123 (b0Q fun x y=>d6 x.1)):∀f q F,d96 N d6 f q=some F->Sound Tryz.prog GW x6 f F:=fun _ _ _ h=>r9 h (u4 (b68 N d6 J4) (u4 (d0K N) F1))
def f4W:Nat->Hint:=fun i=>
 match i with
 |0=>⟨[],[0,12,13,14],[],[],[],[]⟩
 |2=>⟨[],[0,4,12,13,14,27,28,29],[1004],[0,4,12,13,14],[1004],[]⟩
 |_=>o5
abbrev d2J(d6:ρ32):Env:=M5 f4W (d96 N d6) (fun _=>false) (fun _=>false)
abbrev f4T(d6:ρ32):=B4 (d2J N d6) Tryz.f123 (e9F N d6) e5v
noncomputable abbrev f4V:Code:=P9 (m8 Tryz.f123) [true,true,false,true,false,false]
noncomputable abbrev f4U:Code:=P9 (m8 Tryz.f123) [true,true,false,true,false,false,true,true,false,false,true,true,false,true,false,false]
abbrev c37:List (Nat×Sl):=[(0,.v τ31),(4,.box 1004 0),(12,.v τ31),(13,V0),(14,V0),(27,.v τ31),(28,V0),(29,V0)]
abbrev b5F:List (Nat×Sb):=[(1004,.cells [V1,V0,V1,V0,V4,.v τ31])]
def b8x(x:FV c37)(y:HV b5F):St:=⟨59,[(0,.v τ31 x.1),(4,.box 1004 0),(12,.v τ31 x.2.2.1),(13,.v τ3 x.2.2.2.1),(14,.v τ3 x.2.2.2.2.1)],unH b5F y⟩
def c8N(d6:ρ32):T9 (Int) c37 b5F:=fun K n x y=>c36 N d6 x.2.2.2.2.2.1 x.2.2.2.2.2.2.1 y.1.1 (K 2 (b8x x y)) n x.2.2.2.2.2.2.2.1
abbrev d94:List (Nat×Sl):=[(0,.v τ31),(12,.v τ31),(13,V0),(14,V0)]
abbrev d93:List (Nat×Sb):=[]
def c8M(d6:ρ32):T9 (Int) d94 d93:=fun K n x y=>d92 N d6 x.1 x.2.1 x.2.2.1 (K 0 ⟨59,[],[]⟩) n x.2.2.2.1
def d95(d6:ρ32):Nat->Code->St->(Ex->St->Option Int)->Option Int:=fun i c=>
 match i with
 |0=>U4 (d2J N d6) N 59 (c8M N d6) 0 c
 |2=>U4 (d2J N d6) N 59 (c8N N d6) 2 c
 |i=>LpD (d2J N d6) N i c
theorem d98(d6:ρ32):B2 (d95 N d6) (d2J N d6) N (f4T N d6) 2 f4U:=
 o0 (c8N N d6) (fun K f x y=>c0n N d6 x.2.2.2.2.2.1 x.2.2.2.2.2.2.1 y.1.1 (K 2 (b8x x y)) (fun a=>f (x.1,x.2.1,x.2.2.1,x.2.2.2.1,x.2.2.2.2.1,x.2.2.2.2.2.1,x.2.2.2.2.2.2.1,a,x.2.2.2.2.2.2.2.2) y) x.2.2.2.2.2.2.2.1)
theorem e9G(d6:ρ32):B2 (d95 N d6) (d2J N d6) N (f4T N d6) 0 f4V:=
 a4Q (c8M N d6) (fun K f x y=>c0m N d6 x.1 x.2.1 x.2.2.1 (K 0 ⟨59,[],[]⟩) (fun a=>f (x.1,x.2.1,x.2.2.1,a,x.2.2.2.2) y) x.2.2.2.1) (P5 (d98 N d6) U6)
theorem d99(d6:ρ32)(J4:Sound Tryz.prog GW x6 123 (b0Q fun x y=>d6 x.1)):Sound Tryz.prog GW x6 123 (e9F N d6):=
 a0l (t6 f4W (d96 N d6) _ _ (d97 N d6 J4)) Tryz.func123 Tryz.call123 (e9F N d6) e5v N (d95 N d6) (P5 (e9G N d6) (P5 (d98 N d6) U6))
def P2(N:Nat):Nat->τ25->Option (Int)|0=>fun _=>none|d+1=>a0g N (P2 N d)
theorem b69(N:Nat):∀d,Sound Tryz.prog GW x6 123 (b0Q fun x y=>P2 N d x.1)
 |0=>Sound.never Tryz.call123 (fun _ _=>rfl)
 |d+1=>d99 N (P2 N d) (b69 N d)
def a23(_N:Nat)(a:Int):Option Bool:=k8 (br (a==1) (some true) (br (a==2) (some true) (br (a==3) (some true) (some (a==4))))) fun b=>some b
abbrev e7S:=E3 [V0] [] [V3] [] (Bool) fun z=>((z,()),())
abbrev c7E:AF:=e7S fun x _=>a23 N x.1
def c5Q(_N:Nat):FuncId->Option Tmp->Option AF:=fun f _=>P0 [] f
theorem d1G:H5 (c5Q N):=fun _ _ _ h=>r9 h F1
def e4f:Nat->Hint:=fun i=>
 match i with
 |_=>o5
abbrev f1L:Env:=M5 e4f (c5Q N) FF FF |>.jk (fun i=>match i with|1=>some 2|_=>none)
theorem b7z:I6 232 (c7E N):=
 T5 (f1L N) (EnvOk.jk (t6 e4f (c5Q N) _ _ (d1G N)) _) Tryz.func232 Tryz.call232 (c7E N) (fun x _=>x.1) N
def a09(_N:Nat)(a:UInt8):Option Bool:=br (decide (a>=97)) (br (decide (a<=122)) (some true) (br (decide (a>=48)) (br (decide (a<=57)) (some true) (some (a==95))) (some (a==95)))) (br (decide (a>=48)) (br (decide (a<=57)) (some true) (some (a==95))) (some (a==95)))
abbrev e63:=E3 [.v .u8] [] [V3] [] (Bool) fun z=>((z,()),())
abbrev d5o:AF:=e63 fun x _=>a09 N x.1
theorem d0D:I6 120 (d5o N):=
 N9 h0 F1 Tryz.func120 Tryz.call120 (d5o N) (fun x _=>x.1) N
def b2A(b:d3)(c:Int)(k0:Option Bool)(self:ρ33)(a:Int):Option Bool:=br (decide (a<c)) (k8 (n8 b a) fun e=>k8 (a09 N e) fun g=>br (!g) (some false) (self (IntKind.i64.wrap (a+1)))) (k0)
def b99(N:Nat)(a:d3)(b:Int)(k0:Option Bool):Nat->Int->Option Bool|0,_=>none|n+1,c=>b2A N a b k0 (b99 N a b k0 n) c
def T0(a:d3):Option Bool:=k8 (T2 N (a.length:Int) 1 40) fun b=>br (!b) (some false) (k8 (n8 a 0) fun c=>br (decide (c<97)) (some false) (k8 (n8 a 0) fun e=>br (decide (e>122)) (some false) (b99 N a (a.length:Int) (k8 (strings_Split [109,97,99,114,111,32,102,111,114,32,105,110,32,105,102,32,101,108,115,101,32,117,115,101,32,102,105,108,101,115,32,99,104,111,111,115,101] [32]) fun g=>k8 (s4 N g a) fun l=>some (!l)) N 0)))
abbrev e8i:=E3 [V1] [] [V3] [] (Bool) fun z=>((z,()),())
abbrev b7K:AF:=e8i fun x _=>T0 N x.1
abbrev d6T:SV [V3]->BV []->Bool:=fun x _=>x.1
def d6S:FuncId->Option Tmp->Option AF:=fun f _=>P0 [(49,d6c),(98,z9g N),(119,b7S N),(120,d5o N)] f
theorem d2c:H5 (d6S N):=fun _ _ _ h=>r9 h (u4 (b04) (u4 (b2D N) (u4 (a7S N) (u4 (d0D N) F1))))
def f10:Nat->Hint:=fun i=>
 match i with
 |0=>⟨[],[0,19,20],[],[0],[],[]⟩
 |_=>o5
abbrev c7T:Env:=M5 f10 (d6S N) FF FF
noncomputable abbrev e8h:Code:=P9 (m8 Tryz.f63) [true,true,false,true,false,false]
abbrev f1Z:=B4 (c7T N) Tryz.f63 (b7K N) d6T
abbrev b7J:List (Nat×Sl):=[(0,V1),(19,V0),(20,V0)]
abbrev d2b:List (Nat×Sb):=[]
def b45(x:FV b7J):St:=⟨33,[(0,.v .str x.1)],[]⟩
def c3j:T9 (Bool) b7J d2b:=fun K n x y=>b99 N x.1 x.2.1 (K 0 (b45 x)) n x.2.2.1
def d6R:Nat->Code->St->(Ex->St->Option Bool)->Option Bool:=fun i c=>
 match i with
 |0=>U4 (c7T N) N 33 (c3j N) 0 c
 |i=>LpD (c7T N) N i c
theorem e18:B2 (d6R N) (c7T N) N (f1Z N) 0 e8h:=
 o0 (c3j N) (fun K f x y=>b2A N x.1 x.2.1 (K 0 (b45 x)) (fun a=>f (x.1,x.2.1,a,x.2.2.2) y) x.2.2.1)
theorem b1g:I6 63 (b7K N):=
 X0 (d2c N) Tryz.func63 Tryz.call63 (b7K N) d6T N (d6R N) (P5 (e18 N) U6)
end
end
end Go.Proofs.YtckdohagilcloaaGreatDoor
