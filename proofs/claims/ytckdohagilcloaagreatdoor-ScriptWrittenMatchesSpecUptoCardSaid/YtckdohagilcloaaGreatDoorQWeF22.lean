/- % -/
import Derived.Test.YtckdohagilcloaaGreatDoorQWeF19
import Derived.Test.YtckdohagilcloaaGreatDoorQShelfS
import Derived.Test.YtckdohagilcloaaGreatDoorQWeF10
namespace Go.Proofs.YtckdohagilcloaaGreatDoor
set_option maxRecDepth 100000
set_option linter.unusedVariables false
set_option linter.unusedSimpArgs false
open Go Go.RowKit
noncomputable section
noncomputable section
variable(N:Nat)
def c0l(g:List τ19)(l:Int)(m:List τ19)(k0:τ39)(self:ρ34)(a:Int):Option Int:=br (decide (a<l)) (k8 (n8 g a) fun b=>k8 (a0F N b) fun c=>br (c !=0) (some c) (br (decide (a>0)) (k8 (n8 m (IntKind.i64.wrap (a-1))) fun e=>br (Op.bytesLess b.1 e.1||b.1==e.1) (some (8:Int)) (self (IntKind.i64.wrap (a+1)))) (self (IntKind.i64.wrap (a+1))))) (k0)
def c8K(N:Nat)(a:List τ19)(b:Int)(c:List τ19)(k0:τ39):Nat->Int->Option Int|0,_=>none|n+1,e=>c0l N a b c k0 (c8K N a b c k0 n) e
def O5(a:d3×List τ19):Option Int:=k8 (a5l N a.1) fun b=>br (!b) (some (3:Int)) (br (decide ((a.2.length:Int)>500)) (some (2:Int)) (c8K N a.2 (a.2.length:Int) a.2 (some (0:Int)) N 0))
abbrev f4P:=E3 [.v τ33] [] [V0] [] (Int) fun z=>((z,()),())
abbrev e3k:AF:=f4P fun x _=>O5 N x.1
abbrev e5u:SV [V0]->BV []->Int:=fun x _=>x.1
def e5t:FuncId->Option Tmp->Option AF:=fun f _=>P0 [(31,d7c N),(32,c66 N)] f
theorem d9X:H5 (e5t N):=fun _ _ _ h=>r9 h (u4 (d2q N) (u4 (c97 N) F1))
def f7M:Nat->Hint:=fun i=>
 match i with
 |0=>⟨[],[1,15,16,17],[1001],[],[],[]⟩
 |_=>o5
abbrev e3j:Env:=M5 f7M (e5t N) FF FF
noncomputable abbrev f4O:Code:=P9 (m8 Tryz.f13) [true,true,true,false,true,false,false]
abbrev f7L:=B4 (e3j N) Tryz.f13 (e3k N) e5u
abbrev d9W:List (Nat×Sl):=[(1,.box 1001 0),(15,.v (.sl τ6)),(16,V0),(17,V0)]
abbrev d9V:List (Nat×Sb):=[(1001,.cells [V1,.v (.sl τ6)])]
def c8L:T9 (Int) d9W d9V:=fun K n x y=>c8K N x.2.1 x.2.2.1 y.1.2.1 (K 0 ⟨42,[],[]⟩) n x.2.2.2.1
def e5s:Nat->Code->St->(Ex->St->Option Int)->Option Int:=fun i c=>
 match i with
 |0=>U4 (e3j N) N 42 (c8L N) 0 c
 |i=>LpD (e3j N) N i c
theorem e9E:B2 (e5s N) (e3j N) N (f7L N) 0 f4O:=
 o0 (c8L N) (fun K f x y=>c0l N x.2.1 x.2.2.1 y.1.2.1 (K 0 ⟨42,[],[]⟩) (fun a=>f (x.1,x.2.1,x.2.2.1,a,x.2.2.2.2) y) x.2.2.2.1)
theorem d9Y:I6 13 (e3k N):=
 X0 (d9X N) Tryz.func13 Tryz.call13 (e3k N) e5u N (e5s N) (P5 (e9E N) U6)
def a5S(_N:Nat)(e:List d3)(g:Int)(k0:(List GExpr)->Option (List GExpr))(self:Int->(List GExpr)->Option (List GExpr))(a:Int)(b:List GExpr):Option (List GExpr):=br (decide (a<g)) (k8 (n8 e a) fun c=>br (Zf (b.length + [GExpr.mk 1 c 0 [] []].length) O1) (self (IntKind.i64.wrap (a+1)) (b ++ [GExpr.mk 1 c 0 [] []])) none) (k0 b)
def c0e(N:Nat)(a:List d3)(b:Int)(k0:(List GExpr)->Option (List GExpr)):Nat->Int->(List GExpr)->Option (List GExpr)|0,_,_=>none|n+1,c,e=>a5S N a b k0 (c0e N a b k0 n) c e
def F3(a:List d3):Option (List GExpr):=c0e N a (a.length:Int) (fun b=>some b) N 0 []
abbrev e8A:=E3 [V4] [] [.row 0] [.row 45 O1 false] (List GExpr) fun z=>(((),()),z,())
abbrev c3p:AF:=e8A fun x _=>F3 N x.1
abbrev d7f:SV [.row 0]->BV [.row 45 O1 false]->(List GExpr):=fun _ y=>y.1
def d7e(_N:Nat):FuncId->Option Tmp->Option AF:=fun f _=>P0 [] f
theorem d2s:H5 (d7e N):=fun _ _ _ h=>r9 h F1
def f2i:Nat->Hint:=fun i=>
 match i with
 |0=>⟨[],[3,6,7,8],[1003],[3],[1003],[]⟩
 |_=>o5
abbrev c73:Env:=M5 f2i (d7e N) FF FF
noncomputable abbrev e8z:Code:=P9 (m8 Tryz.f14) [true,true,false,true,false,false]
abbrev f2h:=B4 (c73 N) Tryz.f14 (c3p N) d7f
abbrev d2r:List (Nat×Sl):=[(3,.row 1003),(6,V4),(7,V0),(8,V0)]
abbrev b1h:List (Nat×Sb):=[(1003,.row 45 O1 false)]
def b5e(y:HV b1h):St:=⟨19,[(3,.row 1003)],unH b1h y⟩
def c3o:T9 ((List GExpr)) d2r b1h:=fun K n x y=>c0e N x.2.1 x.2.2.1 (fun a=>K 0 (b5e (a,y.2))) n x.2.2.2.1 y.1
def d7d:Nat->Code->St->(Ex->St->Option (List GExpr))->Option (List GExpr):=fun i c=>
 match i with
 |0=>U4 (c73 N) N 19 (c3o N) 0 c
 |i=>LpD (c73 N) N i c
theorem e2e:B2 (d7d N) (c73 N) N (f2h N) 0 e8z:=
 o0 (c3o N) (fun K f x y=>a5S N x.2.1 x.2.2.1 (fun a=>K 0 (b5e (a,y.2))) (fun b c=>f (x.1,x.2.1,x.2.2.1,b,x.2.2.2.2) (c,y.2)) x.2.2.2.1 y.1)
theorem b70:I6 14 (c3p N):=
 X0 (d2s N) Tryz.func14 Tryz.call14 (c3p N) d7f N (d7d N) (P5 (e2e N) U6)
abbrev b47:=E3 [.v τ18] [] [.v O1] [] (GExpr) fun z=>((z,()),())
def I3(a:List GExpr)(b:GExpr)(self:ρ13)(c:Int)(e:List d3)(g:d3×GValue):Option GExpr:=br (Zf (a.length + [b].length) O1) (self (IntKind.i64.wrap (c+1)) (e ++ [g.1]) (a ++ [b])) none
def C1(l5:ρ27)(a:d3×GValue)(b:List GExpr)(self:ρ13)(c:Int)(e:List d3):Option GExpr:=o3 1 (k8 (l5 (GValue.mk a.2.kind a.2.text a.2.number a.2.list a.2.cases)) fun g=>I3 b g self c e a)
def N2(l5:ρ27)(a:d3×GValue)(b:List GExpr)(self:ρ13)(c:Int)(e:List d3):Option GExpr:=q7 (C1 l5 a b self c e) (k8 (l5 (GValue.mk a.2.kind a.2.text a.2.number a.2.list a.2.cases)) fun g=>o3 1 (I3 b g self c e a))
def D3(a:List d3)(b:d3×GValue)(l5:ρ27)(c:List GExpr)(self:ρ13)(e:Int):Option GExpr:=q7 (br (Zf (a.length + [b.1].length) .str) (N2 l5 b c self e a) none) (br (Zf (a.length + [b.1].length) .str) (C1 l5 b c self e a) none)
def a5I(_N:Nat)(l5:ρ27)(l:List τ9)(m:Int)(k1:ρ17)(self:ρ13)(c:Int)(b:List d3)(e:List GExpr):Option GExpr:=br (decide (c<m)) (k8 (n8 l c) fun a=>q7 (q7 (q7 (br (Zf (b.length + [a.1].length) .str) (q7 (N2 l5 a e self c b) (k8 (l5 (GValue.mk a.2.kind a.2.text a.2.number a.2.list a.2.cases)) fun g=>o3 1 (I3 e g self c b a))) none) (D3 b a l5 e self c)) (q7 (D3 b a l5 e self c) (br (Zf (b.length + [a.1].length) .str) (C1 l5 a e self c b) none))) (q7 (q7 (q7 (br (Zf (b.length + [a.1].length) .str) (q7 (N2 l5 a e self c b) (k8 (l5 (GValue.mk a.2.kind a.2.text a.2.number a.2.list a.2.cases)) fun g=>o3 1 (I3 e g self c b a))) none) (D3 b a l5 e self c)) (q7 (D3 b a l5 e self c) (br (Zf (b.length + [a.1].length) .str) (C1 l5 a e self c b) none))) (q7 (q7 (D3 b a l5 e self c) (br (Zf (b.length + [a.1].length) .str) (C1 l5 a e self c b) none)) (q7 (q7 (D3 b a l5 e self c) (br (Zf (b.length + [a.1].length) .str) (C1 l5 a e self c b) none)) (o3 1 (br (Zf (b.length + [a.1].length) .str) (C1 l5 a e self c b) none)))))) (k1 b e)
def b9S(N:Nat)(l5:ρ27)(a:List τ9)(b:Int)(k1:ρ17):Nat->Int->τ24->(List GExpr)->Option GExpr|0,_,_,_=>none|n+1,c,e,g=>a5I N l5 a b k1 (b9S N l5 a b k1 n) c e g
def Z7(l5:ρ27)(a:GValue):Option GExpr:=br (a.kind==1) (some (GExpr.mk 1 a.text 0 [] [])) (br (a.kind==2) (some (GExpr.mk 2 [] a.number [] [])) (br (a.kind==3) (k8 (F3 N a.list) fun b=>some (GExpr.mk 4 [] 0 [] b)) (b9S N l5 a.cases (a.cases.length:Int) (fun c e=>some (GExpr.mk 6 [] 0 c e)) N 0 [] [])))
abbrev e7p:=E3 [.v τ18] [] [.v O1] [] (GExpr) fun z=>((z,()),())
abbrev d5G(l5:ρ27):AF:=e7p fun x _=>Z7 N l5 x.1
abbrev d5H:SV [.v O1]->BV []->GExpr:=fun x _=>x.1
def c5F(l5:ρ27):FuncId->Option Tmp->Option AF:=fun f _=>P0 [(14,c3p N),(15,b47 fun x _=>l5 x.1)] f
theorem d01(l5:ρ27)(a4n:Sound Tryz.prog GW x6 15 (b47 fun x y=>l5 x.1)):∀f q F,c5F N l5 f q=some F->Sound Tryz.prog GW x6 f F:=fun _ _ _ h=>r9 h (u4 (b70 N) (u4 (a4n) F1))
def e37:Nat->Hint:=fun i=>
 match i with
 |1=>⟨[],[2,3,26,27,28],[1002,1003,900001,900002],[2,3],[1002,1003,900001,900002],[(1003,3,900001,9,.str),(1003,4,900002,45,O1)]⟩
 |100012=>⟨[1005],[1,2,3],[2,3,8,9],[],[],[]⟩
 |_=>o5
abbrev c7o(l5:ρ27):Env:=M5 e37 (c5F N l5) (fun _=>false) (fun _=>false)
abbrev f1q(l5:ρ27):=B4 (c7o N l5) Tryz.f15 (d5G N l5) d5H
noncomputable abbrev e7o:Code:=P9 (m8 Tryz.f15) [true,true,true,false,true,false,false]
abbrev d00:List (Nat×Sl):=[(2,.box 1002 0),(3,.box 1003 0),(26,.v τ31),(27,V0),(28,V0)]
abbrev b01:List (Nat×Sb):=[(1002,.cells [V0,V1,V0,.nilS,.nilS]),(1003,.cells [V0,V1,V0,.row 900001,.row 900002]),(900001,.row 9 .str false),(900002,.row 45 O1 false)]
def b4F(y:HV b01):St:=⟨49,[(2,.box 1002 0),(3,.box 1003 0)],unH b01 y⟩
def c2I(l5:ρ27):T9 (GExpr) d00 b01:=fun K n x y=>b9S N l5 x.2.2.1 x.2.2.2.1 (fun a b=>K 1 (b4F (y.1,y.2.1,a,b,y.2.2.2.2))) n x.2.2.2.2.1 y.2.2.1 y.2.2.2.1
def d5F(l5:ρ27):Nat->Code->St->(Ex->St->Option GExpr)->Option GExpr:=fun i c=>
 match i with
 |1=>U4 (c7o N l5) N 49 (c2I N l5) 1 c
 |i=>LpD (c7o N l5) N i c
theorem e1J(l5:ρ27):B2 (d5F N l5) (c7o N l5) N (f1q N l5) 1 e7o:=
 o0 (c2I N l5) (fun K f x y=>a5I N l5 x.2.2.1 x.2.2.2.1 (fun a b=>K 1 (b4F (y.1,y.2.1,a,b,y.2.2.2.2))) (fun c e g=>f (x.1,x.2.1,x.2.2.1,x.2.2.2.1,c,x.2.2.2.2.2) (y.1,y.2.1,e,g,y.2.2.2.2)) x.2.2.2.2.1 y.2.2.1 y.2.2.2.1)
theorem d02(l5:ρ27)(a4n:Sound Tryz.prog GW x6 15 (b47 fun x y=>l5 x.1)):Sound Tryz.prog GW x6 15 (d5G N l5):=
 a0l (t6 e37 (c5F N l5) _ _ (d01 N l5 a4n)) Tryz.func15 Tryz.call15 (d5G N l5) d5H N (d5F N l5) (P5 (e1J N l5) U6)
def N1(N:Nat):Nat->GValue->Option (GExpr)|0=>fun _=>none|d+1=>Z7 N (N1 N d)
theorem b7N(N:Nat):∀d,Sound Tryz.prog GW x6 15 (b47 fun x y=>N1 N d x.1)
 |0=>Sound.never Tryz.call15 (fun _ _=>rfl)
 |d+1=>d02 N (N1 N d) (b7N N d)
abbrev b5c:=E3 [V5] [] [V0] [] (Int) fun z=>((z,()),())
abbrev b5d:=E3 [.v O1] [] [V0] [] (Int) fun z=>((z,()),())
def a7M(_N:Nat)(n5:ρ30)(e:List GExpr)(g:Int)(k0:ρ34)(self:ρ28)(c b:Int):Option Int:=br (decide (b<g)) (k8 (n8 e b) fun a=>k8 (n5 (Ze a)) fun l=>self (IntKind.i64.wrap (c+l)) (IntKind.i64.wrap (b+1))) (k0 c)
def b9Y(N:Nat)(n5:ρ30)(a:List GExpr)(b:Int)(k0:ρ34):Nat->Int->Int->Option Int|0,_,_=>none|n+1,c,e=>a7M N n5 a b k0 (b9Y N n5 a b k0 n) c e
def a9C(n5:ρ30)(a:GExpr):Option Int:=b9Y N n5 a.kids (a.kids.length:Int) (fun b=>some b) N 1 0
abbrev e7R:=E3 [.v O1] [] [V0] [] (Int) fun z=>((z,()),())
abbrev d6n(n5:ρ30):AF:=e7R fun x _=>a9C N n5 x.1
abbrev d6o:SV [V0]->BV []->Int:=fun x _=>x.1
def c5P(_N:Nat)(n5:ρ30):FuncId->Option Tmp->Option AF:=fun f _=>P0 [(125,b5d fun x _=>n5 x.1)] f
theorem d1E(n5:ρ30)(a47:Sound Tryz.prog GW x6 125 (b5d fun x y=>n5 x.1)):∀f q F,c5P N n5 f q=some F->Sound Tryz.prog GW x6 f F:=fun _ _ _ h=>r9 h (u4 (a47) F1)
def e4e:Nat->Hint:=fun i=>
 match i with
 |0=>⟨[],[3,7,8,9],[],[3],[],[]⟩
 |_=>o5
abbrev c7D(n5:ρ30):Env:=M5 e4e (c5P N n5) (fun _=>false) (fun _=>false) |>.jk (fun _=>none)
abbrev f1K(n5:ρ30):=B4 (c7D N n5) Tryz.f125 (d6n N n5) d6o
noncomputable abbrev e7Q:Code:=P9 (m8 Tryz.f125) [true,true,false,true,false,false]
abbrev b7y:List (Nat×Sl):=[(3,V0),(7,.v (.sl O1)),(8,V0),(9,V0)]
abbrev d1D:List (Nat×Sb):=[]
def b4U(x:FV b7y):St:=⟨19,[(3,.v τ3 x.1)],[]⟩
def c25(n5:ρ30):T9 (Int) b7y d1D:=fun K n x y=>b9Y N n5 x.2.1 x.2.2.1 (fun a=>K 0 (b4U (a,x.2))) n x.1 x.2.2.2.1
def d6m(n5:ρ30):Nat->Code->St->(Ex->St->Option Int)->Option Int:=fun i c=>
 match i with
 |0=>U4 (c7D N n5) N 19 (c25 N n5) 0 c
 |i=>LpD (c7D N n5) N i c
theorem e1U(n5:ρ30):B2 (d6m N n5) (c7D N n5) N (f1K N n5) 0 e7Q:=
 o0 (c25 N n5) (fun K f x y=>a7M N n5 x.2.1 x.2.2.1 (fun a=>K 0 (b4U (a,x.2))) (fun b c=>f (b,x.2.1,x.2.2.1,c,x.2.2.2.2) y) x.1 x.2.2.2.1)
theorem d1F(n5:ρ30)(a47:Sound Tryz.prog GW x6 125 (b5d fun x y=>n5 x.1)):Sound Tryz.prog GW x6 125 (d6n N n5):=
 a0l (EnvOk.jk (t6 e4e (c5P N n5) _ _ (d1E N n5 a47)) _) Tryz.func125 Tryz.call125 (d6n N n5) d6o N (d6m N n5) (P5 (e1U N n5) U6)
def a0q(N:Nat):Nat->GExpr->Option (Int)|0=>fun _=>none|d+1=>a9C N (a0q N d)
theorem b7Y(N:Nat):∀d,Sound Tryz.prog GW x6 125 (b5d fun x y=>a0q N d x.1)
 |0=>Sound.never Tryz.call125 (fun _ _=>rfl)
 |d+1=>d1F N (a0q N d) (b7Y N d)
end
end
section
open Go Go.RowKit Go.Shelf
def strings_ReplaceAll(s o n:d3):Option d3:=if s.length<=1000000/\1<=o.length/\n.length<=1000000 then some (Lib.replaceAll s o n)else none
theorem d9U:Sound Tryz.prog GW x6 130 ⟨[V1,V1,V1],[],[V1],[],d3,fun z=>((z,()),()),fun x _=>strings_ReplaceAll x.1 x.2.1 x.2.2.1⟩:=by
 refine Sound.ofExt Tryz.call130 fun M w vs x z hG hM hA hz=>?_
 obtain⟨s,o,n,u⟩:=x
 match vs,hA with
 |[v1,v2,v3],hA=>
  obtain⟨h1,h2,h3,_⟩:=hA;change strings_ReplaceAll s o n=some z at hz;unfold strings_ReplaceAll at hz;split at hz
  ·rename_i hc;have e:Lib.replaceAll s o n=z:=Option.some.inj hz;subst e;rw[RepV.str h1,RepV.str h2,RepV.str h3];have hmul:=Lib.countB_mul_le ⟨o.toArray⟩ hc.2.1 s.length ⟨s.toArray⟩ (Nat.le_refl _);obtain⟨m,hm⟩:=hG.1;refine(Tryz.strings_ReplaceAll ⟨s.toArray⟩ ⟨o.toArray⟩ ⟨n.toArray⟩ m w (by show s.length<_;omega) hm hc.2.1 ?_).mono fun e w' hp=>?_
   ·have h4:Lib.countB ⟨s.toArray⟩ ⟨o.toArray⟩<=1000000:=by
     have h6:Lib.countB ⟨s.toArray⟩ ⟨o.toArray⟩<=Lib.countB ⟨s.toArray⟩ ⟨o.toArray⟩*o.length:=Nat.le_mul_of_pos_right _ hc.2.1;have h7:Lib.countB ⟨s.toArray⟩ ⟨o.toArray⟩*o.length<=s.length:=hmul;omega
    have h5:=Nat.mul_le_mul h4 hc.2.2;show s.length+Lib.countB ⟨s.toArray⟩ ⟨o.toArray⟩*n.length<=_;omega
   ·obtain⟨rfl,hE⟩:=hp;exact⟨[_],rfl,hE,b9D _,trivial⟩
  ·cases hz
end
noncomputable section
noncomputable section
variable(N:Nat)
def a5N(k6:ρ22)(e:List (d3×GExpr))(g:Int)(k2:ρ34)(self:ρ28)(c b:Int):Option Int:=br (decide (b<g)) (k8 (n8 e b) fun a=>k8 (a0q N N (Ze a.2)) fun l=>self (IntKind.i64.wrap (c+l)) (IntKind.i64.wrap (b+1))) (k2 c)
def b07(N:Nat)(k6:ρ22)(a:List (d3×GExpr))(b:Int)(k2:ρ34):Nat->Int->Int->Option Int|0,_,_=>none|n+1,c,e=>a5N N k6 a b k2 (b07 N k6 a b k2 n) c e
def a2l(k6:ρ22)(m:List GStmt)(o:Int)(k0:ρ34)(self:ρ28)(c b:Int):Option Int:=br (decide (b<o)) (k8 (n8 m b) fun a=>k8 (k6 a.body) fun g=>k8 (k6 a.els) fun l=>k8 (br (a.kind==1) (some true) (br (a.kind==4) (some true) (br (a.kind==5) (some true) (k8 (T1 N (Ze a.expr)) fun p=>some (!p))))) fun q=>br (q) (k8 (a0q N N (Ze a.expr)) fun r=>b07 N k6 a.args (a.args.length:Int) (fun e=>self e (IntKind.i64.wrap (b+1))) N (IntKind.i64.wrap ((IntKind.i64.wrap (c+(IntKind.i64.wrap ((IntKind.i64.wrap (1+g))+l))))+r)) 0) (b07 N k6 a.args (a.args.length:Int) (fun e=>self e (IntKind.i64.wrap (b+1))) N (IntKind.i64.wrap (c+(IntKind.i64.wrap ((IntKind.i64.wrap (1+g))+l)))) 0)) (k0 c)
def a8Y(N:Nat)(k6:ρ22)(a:List GStmt)(b:Int)(k0:ρ34):Nat->Int->Int->Option Int|0,_,_=>none|n+1,c,e=>a2l N k6 a b k0 (a8Y N k6 a b k0 n) c e
def a9B(k6:ρ22)(a:List GStmt):Option Int:=a8Y N k6 a (a.length:Int) (fun b=>some b) N 0 0
abbrev e7P:=E3 [V5] [] [V0] [] (Int) fun z=>((z,()),())
abbrev d6k(k6:ρ22):AF:=e7P fun x _=>a9B N k6 x.1
abbrev d6l:SV [V0]->BV []->Int:=fun x _=>x.1
def c5O(k6:ρ22):FuncId->Option Tmp->Option AF:=fun f _=>P0 [(65,b5c fun x _=>k6 x.1),(124,c7Z N),(125,b5d fun x _=>a0q N N x.1)] f
theorem d1B(k6:ρ22)(a43:Sound Tryz.prog GW x6 65 (b5c fun x y=>k6 x.1)):∀f q F,c5O N k6 f q=some F->Sound Tryz.prog GW x6 f F:=fun _ _ _ h=>r9 h (u4 (a43) (u4 (b7Q N) (u4 (b7Y N N) F1)))
def b7x:Nat->Hint:=fun i=>
 match i with
 |0=>⟨[],[3,8,9,10],[],[3],[],[]⟩
 |2=>⟨[],[3,8,9,10,49,50,51],[],[3,8,9,10],[],[]⟩
 |_=>o5
abbrev a8u(k6:ρ22):Env:=M5 b7x (c5O N k6) (fun _=>false) (fun _=>false) |>.jk (fun i=>match i with|6=>some 42|_=>none)
abbrev b4S(k6:ρ22):=B4 (a8u N k6) Tryz.f65 (d6k N k6) d6l
noncomputable abbrev e7O:Code:=P9 (m8 Tryz.f65) [true,true,false,true,false,false]
noncomputable abbrev b4T:Code:=P9 (m8 Tryz.f65) [true,true,false,true,false,false,true,true,false,false,true,true,true,true,false,false]
abbrev a7L:List (Nat×Sl):=[(3,V0),(8,V5),(9,V0),(10,V0),(49,.v τ29),(50,V0),(51,V0)]
abbrev a7K:List (Nat×Sb):=[]
def b08(a:List GStmt)(b c:Int)(e:List (d3×GExpr))(g l m:Int):St:=⟨63,[(3,.v τ3 l),(8,.v τ15 a),(9,.v τ3 b),(10,.v τ3 c),(49,.v τ29 e),(50,.v τ3 g),(51,.v τ3 m)],[]⟩
def a5O(a:List GStmt)(b c:Int)(_g:List (d3×GExpr))(_l e:Int):St:=⟨63,[(3,.v τ3 e),(8,.v τ15 a),(9,.v τ3 b),(10,.v τ3 c)],[]⟩
def d6j(k6:ρ22)(c:List GStmt)(e g:Int)(a:List (d3×GExpr))(b l m:Int)(k:Ex->St->Option Int):Option Int:=b07 N k6 a b (fun o=>k (.exit 2) (a5O c e g a b o)) N l m
abbrev c2Z(k6:ρ22):FV a7L->HV a7K->(Ex->St->Option Int)->Option Int:=fun x _ k=>d6j N k6 x.2.1 x.2.2.1 x.2.2.2.1 x.2.2.2.2.1 x.2.2.2.2.2.1 x.1 x.2.2.2.2.2.2.1 k
abbrev b7w:List (Nat×Sl):=[(3,V0),(8,V5),(9,V0),(10,V0)]
abbrev d1z:List (Nat×Sb):=[]
def b4R(x:FV b7w):St:=⟨63,[(3,.v τ3 x.1)],[]⟩
def c2Y(k6:ρ22):T9 (Int) b7w d1z:=fun K n x y=>a8Y N k6 x.2.1 x.2.2.1 (fun a=>K 0 (b4R (a,x.2))) n x.1 x.2.2.2.1
def b09(k6:ρ22):Nat->Code->St->(Ex->St->Option Int)->Option Int:=fun i c=>
 match i with
 |0=>U4 (a8u N k6) N 63 (c2Y N k6) 0 c
 |2=>(LPc 63 a7L a7K (c2Z N k6) (fun st k=>iter (b7x 2) (Q0 (a8u N k6) N c 2) N st k))
 |i=>LpD (a8u N k6) N i c
theorem c24(k6:ρ22)(e:List GStmt)(g l:Int)(a:List (d3×GExpr))(b:Int)(KX:Nat->St->Option Int)(I:St->Option Int)(c s51:Int):
  Q4 (b09 N k6) (a8u N k6) b4T 2 (b08 e g l a b c s51) (a2M (b7x 2) I KX (b4S N k6))=a5N N k6 a b (fun m=>KX 2 (a5O e g l a b m)) (fun c s51=>I (b08 e g l a b c s51)) c s51:=by kernel_rfl
theorem d1A(k6:ρ22):∀x y k,(∀st,k .ret st=(b4S N k6) st)->iter (b7x 2) (Q0 (a8u N k6) N b4T 2) N ⟨63,unF a7L x,unH a7K y⟩ k=c2Z N k6 x y k:=fun x _ k hk=>
 a0D (S:=(Int)×(Int)×Unit) (b7x 2) _ (Q4 (b09 N k6) (a8u N k6) b4T 2) (b4S N k6) (a0V _ _ N _ b4T 2 (show LoopsOk (b09 N k6) (a8u N k6) N (b4S N k6) []from trivial)) (fun s=>b08 x.2.1 x.2.2.1 x.2.2.2.1 x.2.2.2.2.1 x.2.2.2.2.2.1 s.1 s.2.1) k hk
  (fun self s=>a5N N k6 x.2.2.2.2.1 x.2.2.2.2.2.1 (fun a=>k (.exit 2) (a5O x.2.1 x.2.2.1 x.2.2.2.1 x.2.2.2.2.1 x.2.2.2.2.2.1 a)) (fun b c=>self (b,c,())) s.1 s.2.1) (fun n s=>b07 N k6 x.2.2.2.2.1 x.2.2.2.2.2.1 (fun a=>k (.exit 2) (a5O x.2.1 x.2.2.1 x.2.2.2.1 x.2.2.2.2.1 x.2.2.2.2.2.1 a)) n s.1 s.2.1) (fun _=>rfl) (fun _ _=>rfl)
  (fun I s=>c24 N k6 x.2.1 x.2.2.1 x.2.2.2.1 x.2.2.2.2.1 x.2.2.2.2.2.1 (fun j=>k (.exit j)) I s.1 s.2.1) N (x.1,x.2.2.2.2.2.2.1,())
theorem c7C(k6:ρ22):B2 (b09 N k6) (a8u N k6) N (b4S N k6) 2 b4T:=fun st k hk=>a4P 63 a7L a7K _ _ (b4S N k6) (d1A N k6) _ st k hk (rfl)
theorem e1T(k6:ρ22):B2 (b09 N k6) (a8u N k6) N (b4S N k6) 0 e7O:=
 a4Q (c2Y N k6) (fun K f x y=>a2l N k6 x.2.1 x.2.2.1 (fun a=>K 0 (b4R (a,x.2))) (fun b c=>f (b,x.2.1,x.2.2.1,c,x.2.2.2.2) y) x.1 x.2.2.2.1) (P5 (c7C N k6) U6)
theorem d1C(k6:ρ22)(a43:Sound Tryz.prog GW x6 65 (b5c fun x y=>k6 x.1)):Sound Tryz.prog GW x6 65 (d6k N k6):=
 a0l (EnvOk.jk (t6 b7x (c5O N k6) _ _ (d1B N k6 a43)) _) Tryz.func65 Tryz.call65 (d6k N k6) d6l N (b09 N k6) (P5 (e1T N k6) (P5 (c7C N k6) U6))
def R6(N:Nat):Nat->(List GStmt)->Option (Int)|0=>fun _=>none|d+1=>a9B N (R6 N d)
theorem b7X(N:Nat):∀d,Sound Tryz.prog GW x6 65 (b5c fun x y=>R6 N d x.1)
 |0=>Sound.never Tryz.call65 (fun _ _=>rfl)
 |d+1=>d1C N (R6 N d) (b7X N d)
def a0f(a:List GStmt):Option Int:=k8 (R6 N N a) fun b=>br (decide (b>50000)) (some (2:Int)) (k8 (J0 N (G8 N N) a 0) fun c=>some c)
abbrev f4S:=E3 [V5] [] [V0] [] (Int) fun z=>((z,()),())
abbrev f4Q:AF:=f4S fun x _=>a0f N x.1
def d9Z:FuncId->Option Tmp->Option AF:=fun f _=>P0 [(65,b5c fun x _=>R6 N N x.1),(66,d5E fun x _=>J0 N (G8 N N) x.1 x.2.1)] f
theorem d90:H5 (d9Z N):=fun _ _ _ h=>r9 h (u4 (b7X N N) (u4 (b7n N (G8 N N) (c3F N N)) F1))
def f4R:Nat->Hint:=fun i=>
 match i with
 |_=>o5
abbrev f7N:Env:=M5 f4R (d9Z N) FF FF |>.jk (fun _=>none)
theorem d91:I6 33 (f4Q N):=
 T5 (f7N N) (EnvOk.jk (t6 f4R (d9Z N) _ _ (d90 N)) _) Tryz.func33 Tryz.call33 (f4Q N) (fun x _=>x.1) N
abbrev a8W:=E3 [.v O1] [] [V1] [] (d3) fun z=>((z,()),())
def a7v(k7:ρ31)(a:GExpr)(b:Int):Option d3:=k8 (W5 N (Ze a) b) fun e=>br (e) (k8 (n8 a.kids b) fun g=>k8 (k7 g) fun c=>br (decide (([40]:d3).length+c.length<=9223372036854775807)) (br (decide (([40]++c).length+([41]:d3).length<=9223372036854775807)) (some (([40]++c) ++ [41])) none) none) (k8 (n8 a.kids b) fun l=>k8 (k7 l) fun m=>some m)
abbrev e8E:=E3 [.v O1,V0] [] [V1] [] (d3) fun z=>((z,()),())
abbrev d7j(k7:ρ31):AF:=e8E fun x _=>a7v N k7 x.1 x.2.1
def c53(k7:ρ31):FuncId->Option Tmp->Option AF:=fun f _=>P0 [(68,a8W fun x _=>k7 x.1),(196,c7g N)] f
theorem d2x(k7:ρ31)(O9:Sound Tryz.prog GW x6 68 (a8W fun x y=>k7 x.1)):∀f q F,c53 N k7 f q=some F->Sound Tryz.prog GW x6 f F:=fun _ _ _ h=>r9 h (u4 (O9) (u4 (b7g N) F1))
def e4x:Nat->Hint:=fun i=>
 match i with
 |_=>o5
abbrev f2m(k7:ρ31):Env:=M5 e4x (c53 N k7) (fun _=>false) (fun _=>false)
theorem d2y(k7:ρ31)(O9:Sound Tryz.prog GW x6 68 (a8W fun x y=>k7 x.1)):Sound Tryz.prog GW x6 129 (d7j N k7):=
 T5 (f2m N k7) (t6 e4x (c53 N k7) _ _ (d2x N k7 O9)) Tryz.func129 Tryz.call129 (d7j N k7) (fun x _=>x.1) N
def a1s(_N:Nat)(b:d3):Option d3:=k8 (strings_ReplaceAll b [92] [92,92]) fun c=>k8 (strings_ReplaceAll c [34] [92,34]) fun e=>k8 (strings_ReplaceAll e [10] [92,110]) fun a=>br (decide (([34]:d3).length+a.length<=9223372036854775807)) (br (decide (([34]++a).length+([34]:d3).length<=9223372036854775807)) (some (([34]++a) ++ [34])) none) none
abbrev e8q:=E3 [V1] [] [V1] [] (d3) fun z=>((z,()),())
abbrev c70:AF:=e8q fun x _=>a1s N x.1
theorem b7R:I6 69 (c70 N):=
 N9 h0 (u4 (d9U) F1) Tryz.func69 Tryz.call69 (c70 N) (fun x _=>x.1) N
def a0k(k7:ρ31)(m g:Int)(o:d3)(p:Int)(l:List d3)(q:List GExpr)(k0:ρ36)(self:ρ29)(a:Int)(b:List d3):Option d3:=br (decide (a<m)) (k8 (a7v N k7 (GExpr.mk g o p l q) a) fun c=>br (g==6) (k8 (n8 l a) fun r=>k8 (a1s N r) fun e=>br (decide (e.length+([58,32]:d3).length<=9223372036854775807)) (br (decide ((e ++ [58,32]).length+c.length<=9223372036854775807)) (br (Zf (b.length + [(e ++ [58,32])++c].length) .str) (self (IntKind.i64.wrap (a+1)) (b ++ [(e ++ [58,32])++c])) none) none) none) (br (Zf (b.length + [c].length) .str) (self (IntKind.i64.wrap (a+1)) (b ++ [c])) none)) (k0 b)
def b0S(N:Nat)(k7:ρ31)(a b:Int)(c:d3)(e:Int)(g:List d3)(l:List GExpr)(k0:ρ36):Nat->Int->τ24->Option d3|0,_,_=>none|n+1,m,o=>a0k N k7 a b c e g l k0 (b0S N k7 a b c e g l k0 n) m o
def E4(k7:ρ31)(a:GExpr):Option d3:=b0S N k7 (a.kids.length:Int) a.kind a.text a.number a.keys a.kids (fun b=>br (a.kind==1) (k8 (a1s N a.text) fun l=>some l) (br (a.kind==2) (k8 (strconv_Itoa a.number) fun m=>some m) (br (a.kind==3) (some a.text) (br (a.kind==4) (k8 (strings_Join b [44,32]) fun c=>br (decide (([91]:d3).length+c.length<=9223372036854775807)) (br (decide (([91]++c).length+([93]:d3).length<=9223372036854775807)) (some (([91]++c) ++ [93])) none) none) (br (a.kind==5) (k8 (strings_Join b [44,32]) fun e=>br (decide (([102,105,108,101,115,40]:d3).length+e.length<=9223372036854775807)) (br (decide (([102,105,108,101,115,40]++e).length+([41]:d3).length<=9223372036854775807)) (some (([102,105,108,101,115,40]++e) ++ [41])) none) none) (br (a.kind==6) (k8 (strings_Join b [44,32]) fun g=>br (decide (([99,104,111,111,115,101,32,123]:d3).length+g.length<=9223372036854775807)) (br (decide (([99,104,111,111,115,101,32,123]++g).length+([125]:d3).length<=9223372036854775807)) (some (([99,104,111,111,115,101,32,123]++g) ++ [125])) none) none) (br (a.kind==7) (k8 (strings_Join b [32,43,32]) fun o=>some o) (k8 (strings_Join b [32,61,61,32]) fun p=>some p)))))))) N 0 []
abbrev e62:=E3 [.v O1] [] [V1] [] (d3) fun z=>((z,()),())
abbrev d5m(k7:ρ31):AF:=e62 fun x _=>E4 N k7 x.1
abbrev d5n:SV [V1]->BV []->d3:=fun x _=>x.1
def c5w(k7:ρ31):FuncId->Option Tmp->Option AF:=fun f _=>P0 [(59,c3g),(69,c70 N),(113,d6F fun x _=>strconv_Itoa x.1),(129,d7j N k7)] f
theorem d0B(k7:ρ31)(O9:Sound Tryz.prog GW x6 68 (a8W fun x y=>k7 x.1)):∀f q F,c5w N k7 f q=some F->Sound Tryz.prog GW x6 f F:=fun _ _ _ h=>r9 h (u4 (a4M) (u4 (b7R N) (u4 (b7H) (u4 (d2y N k7 O9) F1))))
def e3Y:Nat->Hint:=fun i=>
 match i with
 |0=>⟨[],[1,3,8,9],[1001,1003],[1,3],[1001,1003],[]⟩
 |_=>o5
abbrev c7d(k7:ρ31):Env:=M5 e3Y (c5w N k7) (fun _=>false) (fun _=>false)
abbrev f1j(k7:ρ31):=B4 (c7d N k7) Tryz.f68 (d5m N k7) d5n
noncomputable abbrev e61:Code:=P9 (m8 Tryz.f68) [true,true,false,true,false,false]
abbrev d0A:List (Nat×Sl):=[(1,.box 1001 0),(3,.row 1003),(8,V0),(9,V0)]
abbrev b0T:List (Nat×Sb):=[(1001,.cells [V0,V1,V0,V4,.v (.sl O1)]),(1003,.row 9 .str false)]
def b4q(y:HV b0T):St:=⟨72,[(1,.box 1001 0),(3,.row 1003)],unH b0T y⟩
def c2y(k7:ρ31):T9 (d3) d0A b0T:=fun K n x y=>b0S N k7 x.2.2.1 y.1.1 y.1.2.1 y.1.2.2.1 y.1.2.2.2.1 y.1.2.2.2.2.1 (fun a=>K 0 (b4q (y.1,a,y.2.2))) n x.2.2.2.1 y.2.1
def d5l(k7:ρ31):Nat->Code->St->(Ex->St->Option d3)->Option d3:=fun i c=>
 match i with
 |0=>U4 (c7d N k7) N 72 (c2y N k7) 0 c
 |i=>LpD (c7d N k7) N i c
theorem e1C(k7:ρ31):B2 (d5l N k7) (c7d N k7) N (f1j N k7) 0 e61:=
 o0 (c2y N k7) (fun K f x y=>a0k N k7 x.2.2.1 y.1.1 y.1.2.1 y.1.2.2.1 y.1.2.2.2.1 y.1.2.2.2.2.1 (fun a=>K 0 (b4q (y.1,a,y.2.2))) (fun b c=>f (x.1,x.2.1,x.2.2.1,b,x.2.2.2.2) (y.1,c,y.2.2)) x.2.2.2.1 y.2.1)
theorem d0C(k7:ρ31)(O9:Sound Tryz.prog GW x6 68 (a8W fun x y=>k7 x.1)):Sound Tryz.prog GW x6 68 (d5m N k7):=
 a0l (t6 e3Y (c5w N k7) _ _ (d0B N k7 O9)) Tryz.func68 Tryz.call68 (d5m N k7) d5n N (d5l N k7) (P5 (e1C N k7) U6)
def s9(N:Nat):Nat->GExpr->Option (d3)|0=>fun _=>none|d+1=>E4 N (s9 N d)
theorem b7o(N:Nat):∀d,Sound Tryz.prog GW x6 68 (a8W fun x y=>s9 N d x.1)
 |0=>Sound.never Tryz.call68 (fun _ _=>rfl)
 |d+1=>d0C N (s9 N d) (b7o N d)
abbrev c0d:=E3 [V5,V0] [] [V1] [] (d3) fun z=>((z,()),())
end
end
noncomputable section
noncomputable section
variable(N:Nat)
def a5Q(l6:ρ19)(g:List (d3×GExpr))(l:Int)(k3:ρ36)(self:ρ29)(b:Int)(c:List d3):Option d3:=br (decide (b<l)) (k8 (n8 g b) fun a=>br (decide (a.1.length+([32,61,32]:d3).length<=9223372036854775807)) (k8 (s9 N N (Ze a.2)) fun e=>br (decide ((a.1 ++ [32,61,32]).length+e.length<=9223372036854775807)) (br (Zf (c.length + [(a.1 ++ [32,61,32])++e].length) .str) (self (IntKind.i64.wrap (b+1)) (c ++ [(a.1 ++ [32,61,32])++e])) none) none) none) (k3 c)
def b4Z(N:Nat)(l6:ρ19)(a:List (d3×GExpr))(b:Int)(k3:ρ36):Nat->Int->τ24->Option d3|0,_,_=>none|n+1,c,e=>a5Q N l6 a b k3 (b4Z N l6 a b k3 n) c e
def a5P(l6:ρ19)(r:Int)(a:d3)(B:List GStmt)(C:Int)(k0:d3->Option d3)(self:d3->Int->Option d3)(c:d3)(e:Int):Option d3:=br (decide (e<C)) (k8 (n8 B e) fun b=>br (b.kind==1) (br (decide (a.length+b.name.length<=9223372036854775807)) (br (decide ((a++b.name).length+([32,61,32]:d3).length<=9223372036854775807)) (k8 (s9 N N (Ze b.expr)) fun t=>br (decide (((a++b.name) ++ [32,61,32]).length+t.length<=9223372036854775807)) (br (decide ((((a++b.name) ++ [32,61,32])++t).length+([59,10]:d3).length<=9223372036854775807)) (br (decide (c.length+((((a++b.name) ++ [32,61,32])++t) ++ [59,10]).length<=9223372036854775807)) (self (c++((((a++b.name) ++ [32,61,32])++t) ++ [59,10])) (IntKind.i64.wrap (e+1))) none) none) none) none) none) (br (b.kind==2) (b4Z N l6 b.args (b.args.length:Int) (fun D=>br (decide (a.length+b.name.length<=9223372036854775807)) (br (decide ((a++b.name).length+([40]:d3).length<=9223372036854775807)) (k8 (strings_Join D [44,32]) fun u=>br (decide (((a++b.name) ++ [40]).length+u.length<=9223372036854775807)) (br (decide ((((a++b.name) ++ [40])++u).length+([41,59,10]:d3).length<=9223372036854775807)) (br (decide (c.length+((((a++b.name) ++ [40])++u) ++ [41,59,10]).length<=9223372036854775807)) (self (c++((((a++b.name) ++ [40])++u) ++ [41,59,10])) (IntKind.i64.wrap (e+1))) none) none) none) none) none) N 0 []) (br (b.kind==3) (br (decide (a.length+([109,97,99,114,111,32]:d3).length<=9223372036854775807)) (br (decide ((a ++ [109,97,99,114,111,32]).length+b.name.length<=9223372036854775807)) (br (decide (((a ++ [109,97,99,114,111,32])++b.name).length+([40]:d3).length<=9223372036854775807)) (k8 (strings_Join b.params [44,32]) fun l=>br (decide ((((a ++ [109,97,99,114,111,32])++b.name) ++ [40]).length+l.length<=9223372036854775807)) (br (decide (((((a ++ [109,97,99,114,111,32])++b.name) ++ [40])++l).length+([41,32,123,10]:d3).length<=9223372036854775807)) (k8 (l6 b.body (IntKind.i64.wrap (r+1))) fun p=>br (decide ((((((a ++ [109,97,99,114,111,32])++b.name) ++ [40])++l) ++ [41,32,123,10]).length+p.length<=9223372036854775807)) (br (decide (((((((a ++ [109,97,99,114,111,32])++b.name) ++ [40])++l) ++ [41,32,123,10])++p).length+a.length<=9223372036854775807)) (br (decide ((((((((a ++ [109,97,99,114,111,32])++b.name) ++ [40])++l) ++ [41,32,123,10])++p)++a).length+([125,10]:d3).length<=9223372036854775807)) (br (decide (c.length+((((((((a ++ [109,97,99,114,111,32])++b.name) ++ [40])++l) ++ [41,32,123,10])++p)++a) ++ [125,10]).length<=9223372036854775807)) (self (c++((((((((a ++ [109,97,99,114,111,32])++b.name) ++ [40])++l) ++ [41,32,123,10])++p)++a) ++ [125,10])) (IntKind.i64.wrap (e+1))) none) none) none) none) none) none) none) none) none) (br (b.kind==4) (br (decide (a.length+([102,111,114,32]:d3).length<=9223372036854775807)) (br (decide ((a ++ [102,111,114,32]).length+b.name.length<=9223372036854775807)) (br (decide (((a ++ [102,111,114,32])++b.name).length+([32,105,110,32]:d3).length<=9223372036854775807)) (k8 (s9 N N (Ze b.expr)) fun m=>br (decide ((((a ++ [102,111,114,32])++b.name) ++ [32,105,110,32]).length+m.length<=9223372036854775807)) (br (decide (((((a ++ [102,111,114,32])++b.name) ++ [32,105,110,32])++m).length+([32,123,10]:d3).length<=9223372036854775807)) (k8 (l6 b.body (IntKind.i64.wrap (r+1))) fun q=>br (decide ((((((a ++ [102,111,114,32])++b.name) ++ [32,105,110,32])++m) ++ [32,123,10]).length+q.length<=9223372036854775807)) (br (decide (((((((a ++ [102,111,114,32])++b.name) ++ [32,105,110,32])++m) ++ [32,123,10])++q).length+a.length<=9223372036854775807)) (br (decide ((((((((a ++ [102,111,114,32])++b.name) ++ [32,105,110,32])++m) ++ [32,123,10])++q)++a).length+([125,10]:d3).length<=9223372036854775807)) (br (decide (c.length+((((((((a ++ [102,111,114,32])++b.name) ++ [32,105,110,32])++m) ++ [32,123,10])++q)++a) ++ [125,10]).length<=9223372036854775807)) (self (c++((((((((a ++ [102,111,114,32])++b.name) ++ [32,105,110,32])++m) ++ [32,123,10])++q)++a) ++ [125,10])) (IntKind.i64.wrap (e+1))) none) none) none) none) none) none) none) none) none) (br (b.kind==5) (br (decide (a.length+([105,102,32]:d3).length<=9223372036854775807)) (k8 (s9 N N (Ze b.expr)) fun g=>br (decide ((a ++ [105,102,32]).length+g.length<=9223372036854775807)) (br (decide (((a ++ [105,102,32])++g).length+([32,123,10]:d3).length<=9223372036854775807)) (k8 (l6 b.body (IntKind.i64.wrap (r+1))) fun o=>br (decide ((((a ++ [105,102,32])++g) ++ [32,123,10]).length+o.length<=9223372036854775807)) (br (decide (c.length+((((a ++ [105,102,32])++g) ++ [32,123,10])++o).length<=9223372036854775807)) (br (decide ((b.els.length:Int)>0)) (br (decide (a.length+([125,32,101,108,115,101,32,123,10]:d3).length<=9223372036854775807)) (k8 (l6 b.els (IntKind.i64.wrap (r+1))) fun v=>br (decide ((a ++ [125,32,101,108,115,101,32,123,10]).length+v.length<=9223372036854775807)) (br (decide ((c++((((a ++ [105,102,32])++g) ++ [32,123,10])++o)).length+((a ++ [125,32,101,108,115,101,32,123,10])++v).length<=9223372036854775807)) (br (decide (a.length+([125,10]:d3).length<=9223372036854775807)) (br (decide (((c++((((a ++ [105,102,32])++g) ++ [32,123,10])++o))++((a ++ [125,32,101,108,115,101,32,123,10])++v)).length+(a ++ [125,10]).length<=9223372036854775807)) (self (((c++((((a ++ [105,102,32])++g) ++ [32,123,10])++o))++((a ++ [125,32,101,108,115,101,32,123,10])++v))++(a ++ [125,10])) (IntKind.i64.wrap (e+1))) none) none) none) none) none) (br (decide (a.length+([125,10]:d3).length<=9223372036854775807)) (br (decide ((c++((((a ++ [105,102,32])++g) ++ [32,123,10])++o)).length+(a ++ [125,10]).length<=9223372036854775807)) (self ((c++((((a ++ [105,102,32])++g) ++ [32,123,10])++o))++(a ++ [125,10])) (IntKind.i64.wrap (e+1))) none) none)) none) none) none) none) none) (br (decide (a.length+([117,115,101,32]:d3).length<=9223372036854775807)) (k8 (a1s N b.text) fun w=>br (decide ((a ++ [117,115,101,32]).length+w.length<=9223372036854775807)) (br (decide (((a ++ [117,115,101,32])++w).length+([59,10]:d3).length<=9223372036854775807)) (br (decide (c.length+(((a ++ [117,115,101,32])++w) ++ [59,10]).length<=9223372036854775807)) (self (c++(((a ++ [117,115,101,32])++w) ++ [59,10])) (IntKind.i64.wrap (e+1))) none) none) none) none)))))) (k0 c)
def b93(N:Nat)(l6:ρ19)(a:Int)(b:d3)(c:List GStmt)(e:Int)(k0:d3->Option d3):Nat->d3->Int->Option d3|0,_,_=>none|n+1,g,l=>a5P N l6 a b c e k0 (b93 N l6 a b c e k0 n) g l
def a28(l6:ρ19)(a:List GStmt)(b:Int):Option d3:=k8 (strings_Repeat [32,32] b) fun c=>b93 N l6 b c a (a.length:Int) (fun e=>some e) N [] 0
abbrev e72:=E3 [V5,V0] [] [V1] [] (d3) fun z=>((z,()),())
abbrev d6u(l6:ρ19):AF:=e72 fun x _=>a28 N l6 x.1 x.2.1
abbrev d6v:SV [V1]->BV []->d3:=fun x _=>x.1
def c5U(l6:ρ19):FuncId->Option Tmp->Option AF:=fun f _=>P0 [(34,c0d fun x _=>l6 x.1 x.2.1),(59,c3g),(67,e7m fun x _=>strings_Repeat x.1 x.2.1),(68,a8W fun x _=>s9 N N x.1),(69,c70 N)] f
theorem d1R(l6:ρ19)(a48:Sound Tryz.prog GW x6 34 (c0d fun x y=>l6 x.1 x.2.1)):∀f q F,c5U N l6 f q=some F->Sound Tryz.prog GW x6 f F:=fun _ _ _ h=>r9 h (u4 (a48) (u4 (a4M) (u4 (b7m) (u4 (b7o N N) (u4 (b7R N) F1)))))
def e4j:Nat->Hint:=fun i=>
 match i with
 |0=>⟨[],[1,5,6,14,15,16],[],[5],[],[]⟩
 |3=>⟨[],[1,5,6,8,9,14,15,16,48,49,50],[1008,1009],[1,5,6,8,9,14,15,16],[1008,1009],[]⟩
 |100015=>⟨[1011],[],[],[],[],[]⟩
 |_=>o5
abbrev b7C(l6:ρ19):Env:=M5 e4j (c5U N l6) (fun _=>false) (fun _=>false)
abbrev e4i(l6:ρ19):=B4 (b7C N l6) Tryz.f34 (d6u N l6) d6v
noncomputable abbrev e71:Code:=P9 (m8 Tryz.f34) [true,true,true,false,true,false,false]
noncomputable abbrev e70:Code:=P9 (m8 Tryz.f34) [true,true,true,false,true,false,false,true,true,false,false,true,true,false,true,true,true,false,true,false,true,false,false]
abbrev b7E:List (Nat×Sl):=[(1,V0),(5,V1),(6,V1),(8,.box 1008 0),(9,.row 1009),(14,V5),(15,V0),(16,V0),(48,.v τ29),(49,V0),(50,V0)]
abbrev b1c:List (Nat×Sb):=[(1008,.cells [V0,V1,V1,V4,.v τ29,V0,V1,V0,V4,.v (.sl O1),V5,V5,V0]),(1009,.row 9 .str false)]
def b40(x:FV b7E)(y:HV b1c):St:=⟨161,[(1,.v τ3 x.1),(5,.v .str x.2.1),(6,.v .str x.2.2.1),(8,.box 1008 0),(9,.row 1009),(14,.v τ15 x.2.2.2.2.2.1),(15,.v τ3 x.2.2.2.2.2.2.1),(16,.v τ3 x.2.2.2.2.2.2.2.1)],unH b1c y⟩
def c3c(l6:ρ19):T9 (d3) b7E b1c:=fun K n x y=>b4Z N l6 x.2.2.2.2.2.2.2.2.1 x.2.2.2.2.2.2.2.2.2.1 (fun a=>K 3 (b40 x (y.1,a,y.2.2))) n x.2.2.2.2.2.2.2.2.2.2.1 y.2.1
abbrev b7D:List (Nat×Sl):=[(1,V0),(5,V1),(6,V1),(14,V5),(15,V0),(16,V0)]
abbrev d1Q:List (Nat×Sb):=[]
def b4Y(x:FV b7D):St:=⟨161,[(5,.v .str x.2.1)],[]⟩
def c3b(l6:ρ19):T9 (d3) b7D d1Q:=fun K n x y=>b93 N l6 x.1 x.2.2.1 x.2.2.2.1 x.2.2.2.2.1 (fun a=>K 0 (b4Y (x.1,a,x.2.2))) n x.2.1 x.2.2.2.2.2.1
def c5T(l6:ρ19):Nat->Code->St->(Ex->St->Option d3)->Option d3:=fun i c=>
 match i with
 |0=>U4 (b7C N l6) N 161 (c3b N l6) 0 c
 |3=>U4 (b7C N l6) N 161 (c3c N l6) 3 c
 |i=>LpD (b7C N l6) N i c
theorem c7J(l6:ρ19):B2 (c5T N l6) (b7C N l6) N (e4i N l6) 3 e70:=
 o0 (c3c N l6) (fun K f x y=>a5Q N l6 x.2.2.2.2.2.2.2.2.1 x.2.2.2.2.2.2.2.2.2.1 (fun a=>K 3 (b40 x (y.1,a,y.2.2))) (fun b c=>f (x.1,x.2.1,x.2.2.1,x.2.2.2.1,x.2.2.2.2.1,x.2.2.2.2.2.1,x.2.2.2.2.2.2.1,x.2.2.2.2.2.2.2.1,x.2.2.2.2.2.2.2.2.1,x.2.2.2.2.2.2.2.2.2.1,b,x.2.2.2.2.2.2.2.2.2.2.2) (y.1,c,y.2.2)) x.2.2.2.2.2.2.2.2.2.2.1 y.2.1)
theorem e1Y(l6:ρ19):B2 (c5T N l6) (b7C N l6) N (e4i N l6) 0 e71:=
 a4Q (c3b N l6) (fun K f x y=>a5P N l6 x.1 x.2.2.1 x.2.2.2.1 x.2.2.2.2.1 (fun a=>K 0 (b4Y (x.1,a,x.2.2))) (fun b c=>f (x.1,b,x.2.2.1,x.2.2.2.1,x.2.2.2.2.1,c,x.2.2.2.2.2.2) y) x.2.1 x.2.2.2.2.2.1) (P5 (c7J N l6) U6)
theorem d1S(l6:ρ19)(a48:Sound Tryz.prog GW x6 34 (c0d fun x y=>l6 x.1 x.2.1)):Sound Tryz.prog GW x6 34 (d6u N l6):=
 a0l (t6 e4j (c5U N l6) _ _ (d1R N l6 a48)) Tryz.func34 Tryz.call34 (d6u N l6) d6v N (c5T N l6) (P5 (e1Y N l6) (P5 (c7J N l6) U6))
def X7(N:Nat):Nat->(List GStmt)->Int->Option (d3)|0=>fun _ _=>none|d+1=>a28 N (X7 N d)
theorem b7Z(N:Nat):∀d,Sound Tryz.prog GW x6 34 (c0d fun x y=>X7 N d x.1 x.2.1)
 |0=>Sound.never Tryz.call34 (fun _ _=>rfl)
 |d+1=>d1S N (X7 N d) (b7Z N d)
def a5k(a:List GStmt):Option τ36:=k8 (a0f N a) fun b=>br (b !=0) (some ([],b)) (k8 (X7 N N a 0) fun c=>br (decide ((c.length:Int)>50000)) (some ([],2)) (some (c,0)))
abbrev e8x(f:SV [V5]->BV []->Option τ36):AF:={ps:=[V5],bs:=[],rs:=[V1,V0],cs:=[],R:=d3×Int,out:=fun z=>((z.1,z.2,()),()),f:=f}
abbrev d7b:AF:=e8x fun x _=>a5k N x.1
theorem d2p:I6 16 (d7b N):=
 N9 h0 (u4 (d91 N) (u4 (b7Z N N) F1)) Tryz.func16 Tryz.call16 (d7b N) (fun x _=>(x.1,x.2.1)) N
end
end
end Go.Proofs.YtckdohagilcloaaGreatDoor
