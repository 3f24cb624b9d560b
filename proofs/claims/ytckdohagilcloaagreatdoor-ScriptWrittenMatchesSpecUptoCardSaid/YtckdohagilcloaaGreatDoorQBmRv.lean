/- % -/
import Derived.Test.YtckdohagilcloaaGreatDoorQWeF22
import Derived.Test.YtckdohagilcloaaGreatDoorQWeF6
import Derived.Test.YtckdohagilcloaaGreatDoorProg
import Derived.WalkKit
import Derived.Defers
import Derived.Recover
namespace Go.Proofs.YtckdohagilcloaaGreatDoor
set_option maxRecDepth 100000
set_option linter.unusedVariables false
set_option linter.unusedSimpArgs false
open Go Go.RowKit
noncomputable section
noncomputable section
def a5M(N:Nat)(c41:List τ9)(c42:Int)(k2:ρ18)(self:Int->(List (d3×GExpr))->Option τ36)(s43:Int)(w1038:List (d3×GExpr)):Option τ36:=br (decide (s43<c42)) (k8 (n8 c41 s43) fun t45=>k8 (N1 N N (GValue.mk t45.2.kind t45.2.text t45.2.number t45.2.list t45.2.cases)) fun t53=>br (Zf (w1038.length + [(t45.1,Ze t53)].length) (.pr .str O1)) (self (IntKind.i64.wrap (s43+(1:Int))) (w1038 ++ [(t45.1,Ze t53)])) none) (k2 w1038)
def b4P(N:Nat)(c41:List τ9)(c42:Int)(k2:ρ18):Nat->Int->(List (d3×GExpr))->Option τ36|0,_,_=>none|n+1,s43,w1038=>a5M N c41 c42 k2 (b4P N c41 c42 k2 n) s43 w1038
def o9(N:Nat)(t21:d3×d3×List τ9)(w1005:List GStmt)(self:ρ20)(s19:Int)(t28:GExpr)(t35:GExpr):Option τ36:=b4P N t21.2.2 (t21.2.2.length:Int) (fun o1_w1038=>br (Zf (w1005.length + [GStmt.mk (2:Int) ([116,97,114,103,101,116]:d3) ([]:d3) ([]:List d3) o1_w1038 (GExpr.mk (0:Int) ([]:d3) (0:Int) ([]:List d3) ([]:List GExpr)) ([]:List GStmt) ([]:List GStmt) (0:Int)].length) τ26) (self (IntKind.i64.wrap (s19+(1:Int))) (w1005 ++ [GStmt.mk (2:Int) ([116,97,114,103,101,116]:d3) ([]:d3) ([]:List d3) o1_w1038 (GExpr.mk (0:Int) ([]:d3) (0:Int) ([]:List d3) ([]:List GExpr)) ([]:List GStmt) ([]:List GStmt) (0:Int)])) none) N (0:Int) [(([110,97,109,101]:d3),Ze t28),(([107,105,110,100]:d3),Ze t35)]
def P7(t27:List GExpr)(N:Nat)(t21:d3×d3×List τ9)(w1005:List GStmt)(self:ρ20)(s19:Int):Option τ36:=q7 (k8 (n8 t27 (0:Int)) fun t28=>q7 (q7 (k8 (F3 N [t21.2.1]) fun t34=>k8 (n8 t34 (0:Int)) fun t35=>o9 N t21 w1005 self s19 t28 t35) (k8 (F3 N [t21.2.1]) fun t34=>k8 (n8 t34 (0:Int)) fun t35=>o3 2 (o9 N t21 w1005 self s19 t28 t35))) (k8 (F3 N [t21.2.1]) fun t34=>k8 (n8 t34 (0:Int)) fun t35=>q7 (o3 2 (o9 N t21 w1005 self s19 t28 t35)) (q7 (o3 1 (o9 N t21 w1005 self s19 t28 t35)) (o9 N t21 w1005 self s19 t28 t35)))) (k8 (F3 N [t21.2.1]) fun t34=>k8 (n8 t27 (0:Int)) fun t28=>k8 (n8 t34 (0:Int)) fun t35=>q7 (o3 2 (o9 N t21 w1005 self s19 t28 t35)) (q7 (o3 1 (o9 N t21 w1005 self s19 t28 t35)) (o9 N t21 w1005 self s19 t28 t35)))
def a5L(N:Nat)(c17:List τ19)(c18:Int)(k0:ρ25)(self:ρ20)(s19:Int)(w1005:List GStmt):Option τ36:=br (decide (s19<c18)) (k8 (n8 c17 s19) fun t21=>q7 (q7 (k8 (F3 N [t21.1]) fun t27=>q7 (k8 (n8 t27 (0:Int)) fun t28=>q7 (q7 (k8 (F3 N [t21.2.1]) fun t34=>k8 (n8 t34 (0:Int)) fun t35=>o9 N t21 w1005 self s19 t28 t35) (q7 (k8 (F3 N [t21.2.1]) fun t34=>k8 (n8 t34 (0:Int)) fun t35=>o9 N t21 w1005 self s19 t28 t35) (k8 (F3 N [t21.2.1]) fun t34=>k8 (n8 t34 (0:Int)) fun t35=>o3 2 (o9 N t21 w1005 self s19 t28 t35)))) (q7 (q7 (k8 (F3 N [t21.2.1]) fun t34=>k8 (n8 t34 (0:Int)) fun t35=>o9 N t21 w1005 self s19 t28 t35) (k8 (F3 N [t21.2.1]) fun t34=>k8 (n8 t34 (0:Int)) fun t35=>o3 2 (o9 N t21 w1005 self s19 t28 t35))) (k8 (F3 N [t21.2.1]) fun t34=>k8 (n8 t34 (0:Int)) fun t35=>q7 (o3 2 (o9 N t21 w1005 self s19 t28 t35)) (q7 (o3 1 (o9 N t21 w1005 self s19 t28 t35)) (o9 N t21 w1005 self s19 t28 t35))))) (P7 t27 N t21 w1005 self s19)) (k8 (F3 N [t21.1]) fun t27=>P7 t27 N t21 w1005 self s19)) (k8 (F3 N [t21.1]) fun t27=>P7 t27 N t21 w1005 self s19)) (k0 w1005)
def b4N(N:Nat)(c17:List τ19)(c18:Int)(k0:ρ25):Nat->Int->(List GStmt)->Option τ36|0,_,_=>none|n+1,s19,w1005=>a5L N c17 c18 k0 (b4N N c17 c18 k0 n) s19 w1005
def X5(N:Nat)(x0:d3×List τ19):Option τ36:=k8 (O5 N x0) fun t12=>br (t12 !=(0:Int)) (some (([]:d3),t12)) (b4N N x0.2 (x0.2.length:Int) (fun o0_w1005=>k8 (a5k N o0_w1005) fun t65=>some t65) N (0:Int) ([]:List GStmt))
abbrev e7N(f:SV [.v τ33]->BV []->Option τ36):AF:={ps:=[.v τ33],bs:=[],rs:=[.v .str,.v τ3],cs:=[],R:=d3×Int,out:=fun z=>((z.1,z.2,()),()),f:=f}
abbrev d6h(N:Nat):AF:=e7N fun x _=>X5 N x.1
abbrev d6i:SV [.v .str,.v τ3]->BV []->τ36:=fun x _=>(x.1,x.2.1)
def d6g(N:Nat):FuncId->Option Tmp->Option AF:=fun f _=>P0 [(13,e3k N),(14,c3p N),(15,b47 fun x _=>N1 N N x.1),(16,d7b N)] f
theorem d1x(N:Nat):H5 (d6g N):=fun _ _ _ h=>r9 h (u4 (d9Y N) (u4 (b70 N) (u4 (b7N N N) (u4 (d2p N) F1))))
def f1J:Nat->Hint:=fun i=>
 match i with
 |0=>⟨[],[5,17,18,19],[1005],[5],[1005],[]⟩
 |2=>⟨[],[5,8,17,18,19,41,42,43],[1005,1008,1038],[5,8,17,18,19],[1005,1008,1038],[]⟩
 |100009=>⟨[1007],[],[],[],[],[]⟩
 |100013=>⟨[1008,1010,1038],[],[],[],[],[]⟩
 |_=>o5
abbrev b7u(N:Nat):Env:=M5 f1J (d6g N) FF FF
noncomputable abbrev e7M:Code:=P9 (m8 Tryz.f5) [true,true,true,false,true,false,false]
noncomputable abbrev e7L:Code:=P9 (m8 Tryz.f5) [true,true,true,false,true,false,false,true,true,false,false,true,true,true,false,true,false,false]
abbrev e4d(N:Nat):=B4 (b7u N) Tryz.f5 (d6h N) d6i
abbrev b7v:List (Nat×Sl):=[(5,.row 1005),(8,.box 1008 0),(17,.v (.sl τ6)),(18,.v τ3),(19,.v τ3),(41,.v τ31),(42,.v τ3),(43,.v τ3)]
abbrev b06:List (Nat×Sb):=[(1005,.row 51 τ26 false),(1008,.cells [.v τ3,.v .str,.v .str,.nilS,.row 1038,.v τ3,.v .str,.v τ3,.nilS,.nilS,.nilS,.nilS,.v τ3]),(1038,.row 48 (.pr .str O1) false)]
def b4Q(x:FV b7v)(y:HV b06):St:=⟨68,[(5,.row 1005),(8,.box 1008 0),(17,.v (.sl τ6) x.2.2.1),(18,.v τ3 x.2.2.2.1),(19,.v τ3 x.2.2.2.2.1)],unH b06 y⟩
def c2X(N:Nat):T9 (τ36) b7v b06:=fun K n x y=>b4P N x.2.2.2.2.2.1 x.2.2.2.2.2.2.1 (fun o1_w1038=>K 2 (b4Q x (y.1,y.2.1,o1_w1038,y.2.2.2))) n x.2.2.2.2.2.2.2.1 y.2.2.1
abbrev d1w:List (Nat×Sl):=[(5,.row 1005),(17,.v (.sl τ6)),(18,.v τ3),(19,.v τ3)]
abbrev b05:List (Nat×Sb):=[(1005,.row 51 τ26 false)]
def b4O(y:HV b05):St:=⟨68,[(5,.row 1005)],unH b05 y⟩
def c2W(N:Nat):T9 (τ36) d1w b05:=fun K n x y=>b4N N x.2.1 x.2.2.1 (fun o0_w1005=>K 0 (b4O (o0_w1005,y.2))) n x.2.2.2.1 y.1
def c5N(N:Nat):Nat->Code->St->(Ex->St->Option τ36)->Option τ36:=fun i c=>
 match i with
 |0=>U4 (b7u N) N 68 (c2W N) 0 c
 |2=>U4 (b7u N) N 68 (c2X N) 2 c
 |i=>LpD (b7u N) N i c
theorem c7B(N:Nat):B2 (c5N N) (b7u N) N (e4d N) 2 e7L:=
 o0 (c2X N) (fun K f x y=>a5M N x.2.2.2.2.2.1 x.2.2.2.2.2.2.1 (fun o1_w1038=>K 2 (b4Q x (y.1,y.2.1,o1_w1038,y.2.2.2))) (fun s43 w1038=>f (x.1,x.2.1,x.2.2.1,x.2.2.2.1,x.2.2.2.2.1,x.2.2.2.2.2.1,x.2.2.2.2.2.2.1,s43,x.2.2.2.2.2.2.2.2) (y.1,y.2.1,w1038,y.2.2.2)) x.2.2.2.2.2.2.2.1 y.2.2.1)
theorem e1S(N:Nat):B2 (c5N N) (b7u N) N (e4d N) 0 e7M:=
 a4Q (c2W N) (fun K f x y=>a5L N x.2.1 x.2.2.1 (fun o0_w1005=>K 0 (b4O (o0_w1005,y.2))) (fun s19 w1005=>f (x.1,x.2.1,x.2.2.1,s19,x.2.2.2.2) (w1005,y.2)) x.2.2.2.1 y.1) (P5 (c7B N) U6)
theorem d1y(N:Nat):I6 5 (d6h N):=
 X0 (d1x N) Tryz.func5 Tryz.call5 (d6h N) d6i N (c5N N) (P5 (e1S N) (P5 (c7B N) U6))
def c7z(_N:Nat)(x0:List (d3×Bool))(x1:d3)(c7:Int)(k0:Option Bool)(self:ρ33)(s8:Int):Option Bool:=br (decide (s8<c7)) (k8 (n8 x1 s8) fun t13=>br (t13==(47:UInt8)) (k8 (slc x1 (0:Int) s8) fun t19=>br ((a0X x0 t19).getD (zero .bool)) (some true) (self (IntKind.i64.wrap (s8+(1:Int))))) (self (IntKind.i64.wrap (s8+(1:Int))))) (k0)
def c5M(N:Nat)(x0:List (d3×Bool))(x1:d3)(c7:Int)(k0:Option Bool):Nat->Int->Option Bool|0,_=>none|n+1,s8=>c7z N x0 x1 c7 k0 (c5M N x0 x1 c7 k0 n) s8
def a9e(N:Nat)(x0:List (d3×Bool))(x1:d3):Option Bool:=c5M N x0 x1 (x1.length:Int) (some false) N (0:Int)
abbrev e7K:=E3 [.v (.mp .bool),.v .str] [] [.v .bool] [] (Bool) fun z=>((z,()),())
abbrev c7A(N:Nat):AF:=e7K fun x _=>a9e N x.1 x.2.1
abbrev d6f:SV [.v .bool]->BV []->Bool:=fun x _=>x.1
def d6e(_N:Nat):FuncId->Option Tmp->Option AF:=fun f _=>P0 [] f
theorem d1u(N:Nat):H5 (d6e N):=fun _ _ _ h=>r9 h F1
def f1I:Nat->Hint:=fun i=>
 match i with
 |0=>⟨[],[0,1,7,8],[],[],[],[]⟩
 |_=>o5
abbrev c7y(N:Nat):Env:=M5 f1I (d6e N) FF FF
noncomputable abbrev e7J:Code:=P9 (m8 Tryz.f70) [true,false,true,false,false]
abbrev f1H(N:Nat):=B4 (c7y N) Tryz.f70 (c7A N) d6f
abbrev d1t:List (Nat×Sl):=[(0,.v (.mp .bool)),(1,.v .str),(7,.v τ3),(8,.v τ3)]
abbrev d1s:List (Nat×Sb):=[]
def c2V(N:Nat):T9 (Bool) d1t d1s:=fun K n x y=>c5M N x.1 x.2.1 x.2.2.1 (K 0 ⟨23,[],[]⟩) n x.2.2.2.1
def d6d(N:Nat):Nat->Code->St->(Ex->St->Option Bool)->Option Bool:=fun i c=>
 match i with
 |0=>U4 (c7y N) N 23 (c2V N) 0 c
 |i=>LpD (c7y N) N i c
theorem e1R(N:Nat):B2 (d6d N) (c7y N) N (f1H N) 0 e7J:=
 o0 (c2V N) (fun K f x y=>c7z N x.1 x.2.1 x.2.2.1 (K 0 ⟨23,[],[]⟩) (fun s8=>f (x.1,x.2.1,x.2.2.1,s8,x.2.2.2.2) y) x.2.2.2.1)
theorem d1v(N:Nat):I6 70 (c7A N):=
 X0 (d1u N) Tryz.func70 Tryz.call70 (c7A N) d6f N (d6d N) (P5 (e1R N) U6)
end
end
noncomputable section
noncomputable section
def b2p(N:Nat)(x0:List τ7)(c13:List τ7)(c14:Int)(k0:Int->τ27->Option Int)(self:Int->Int->τ27->Option Int)(s3:Int)(s15:Int)(m1012:List (d3×Bool)):Option Int:=br (decide (s15<c14)) (k8 (n8 c13 s15) fun t18=>k8 (X3 N t18.1) fun t23=>br (!t23) (some (3:Int)) (br (decide ((t18.2.2.length:Int)>(100000:Int))) (some (2:Int)) (br (decide (s15>(0:Int))) (k8 (n8 x0 (IntKind.i64.wrap (s15-(1:Int)))) fun t39=>br (Op.bytesLess t18.1 t39.1||t18.1==t39.1) (some (8:Int)) (self (IntKind.i64.wrap (s3+(t18.2.2.length:Int))) (IntKind.i64.wrap (s15+(1:Int))) (a1V m1012 t18.1 true))) (self (IntKind.i64.wrap (s3+(t18.2.2.length:Int))) (IntKind.i64.wrap (s15+(1:Int))) (a1V m1012 t18.1 true))))) (k0 s3 m1012)
def b9N(N:Nat)(x0:List τ7)(c13:List τ7)(c14:Int)(k0:Int->τ27->Option Int):Nat->Int->Int->τ27->Option Int|0,_,_,_=>none|n+1,s3,s15,m1012=>b2p N x0 c13 c14 k0 (b9N N x0 c13 c14 k0 n) s3 s15 m1012
def a9Q(N:Nat)(x0:List τ7)(c54:Int)(o0_m1012:List (d3×Bool))(k3:τ39)(self:ρ34)(s55:Int):Option Int:=br (decide (s55<c54)) (k8 (n8 x0 s55) fun t57=>k8 (a9e N o0_m1012 t57.1) fun t62=>br (t62) (some (12:Int)) (self (IntKind.i64.wrap (s55+(1:Int))))) (k3)
def b4j(N:Nat)(x0:List τ7)(c54:Int)(o0_m1012:List (d3×Bool))(k3:τ39):Nat->Int->Option Int|0,_=>none|n+1,s55=>a9Q N x0 c54 o0_m1012 k3 (b4j N x0 c54 o0_m1012 k3 n) s55
def Z0(N:Nat)(x0:List τ7):Option Int:=br (decide ((x0.length:Int)>(1000:Int))) (some (2:Int)) (b9N N x0 x0 (x0.length:Int) (fun o0_3 o0_m1012=>b4j N x0 (x0.length:Int) o0_m1012 (br (decide (o0_3>(2000000:Int))) (some (2:Int)) (some (0:Int))) N (0:Int)) N (0:Int) (0:Int) ([]:List (d3×Bool)))
abbrev e6U:=E3 [.v τ10] [] [.v τ3] [] (Int) fun z=>((z,()),())
abbrev c7a(N:Nat):AF:=e6U fun x _=>Z0 N x.1
abbrev d5g:SV [.v τ3]->BV []->Int:=fun x _=>x.1
def d5f(N:Nat):FuncId->Option Tmp->Option AF:=fun f _=>P0 [(25,b43 N),(70,c7A N)] f
theorem d0q(N:Nat):H5 (d5f N):=fun _ _ _ h=>r9 h (u4 (a7O N) (u4 (d1v N) F1))
def c2t:Nat->Hint:=fun i=>
 match i with
 |0=>⟨[],[0,3,4,13,14,15],[1012],[0,3,4],[1012],[]⟩
 |3=>⟨[],[3,4,53,54,55],[1012],[3],[],[]⟩
 |_=>o5
abbrev a8s(N:Nat):Env:=M5 c2t (d5f N) FF FF
noncomputable abbrev e6T:Code:=P9 (m8 Tryz.f35) [true,true,true,true,false,true,false,false]
noncomputable abbrev b4l:Code:=P9 (m8 Tryz.f35) [true,true,true,true,true,false,true,false,false]
abbrev b4k(N:Nat):=B4 (a8s N) Tryz.f35 (c7a N) d5g
abbrev b66:List (Nat×Sl):=[(0,.v τ10),(3,.v τ3),(4,.mref 1012),(13,.v τ10),(14,.v τ3),(15,.v τ3)]
abbrev b65:List (Nat×Sb):=[(1012,.map .bool)]
def b4i(x:FV b66)(y:HV b65):St:=⟨66,[(0,.v τ10 x.1),(3,.v τ3 x.2.1),(4,.mref 1012)],[(1012,.map .bool y.1)]⟩
def c2q(N:Nat):T9 (Int) b66 b65:=fun K n x y=>b9N N x.1 x.2.2.2.1 x.2.2.2.2.1 (fun o0_3 o0_m1012=>K 0 (b4i (x.1,o0_3,x.2.2) (o0_m1012,y.2))) n x.2.1 x.2.2.2.2.2.1 y.1
abbrev a7D:List (Nat×Sl):=[(3,.v τ3),(4,.mref 1012),(53,.v τ10),(54,.v τ3),(55,.v τ3)]
abbrev a7C:List (Nat×Sb):=[(1012,.map .bool)]
def b0M(o0_3:Int)(x0:List τ7)(c54:Int)(o0_m1012:List (d3×Bool))(s55:Int):St:=⟨66,[(3,.v τ3 o0_3),(4,.mref 1012),(53,.v τ10 x0),(54,.v τ3 c54),(55,.v τ3 s55)],[(1012,.map .bool o0_m1012)]⟩
def a5E(o0_3:Int)(_x0:List τ7)(_c54:Int)(_o0_m1012:List (d3×Bool)):St:=⟨66,[(3,.v τ3 o0_3)],[]⟩
def d5e(N:Nat)(o0_3:Int)(x0:List τ7)(c54:Int)(o0_m1012:List (d3×Bool))(s55:Int)(k:Ex->St->Option Int):Option Int:=b4j N x0 c54 o0_m1012 (k (.exit 3) (a5E o0_3 x0 c54 o0_m1012)) N s55
abbrev c2r(N:Nat):FV a7D->HV a7C->(Ex->St->Option Int)->Option Int:=fun x y k=>d5e N x.1 x.2.2.1 x.2.2.2.1 y.1 x.2.2.2.2.1 k
def b0N(N:Nat):Nat->Code->St->(Ex->St->Option Int)->Option Int:=fun i c=>
 match i with
 |0=>U4 (a8s N) N 66 (c2q N) 0 c
 |3=>(LPc 66 a7D a7C (c2r N) (fun st k=>iter (c2t 3) (Q0 (a8s N) N c 3) N st k))
 |i=>LpD (a8s N) N i c
theorem c2s(N:Nat)(o0_3:Int)(x0:List τ7)(c54:Int)(o0_m1012:List (d3×Bool))(KX:Nat->St->Option Int)(I:St->Option Int)(s55:Int):
  Q4 (b0N N) (a8s N) b4l 3 (b0M o0_3 x0 c54 o0_m1012 s55) (a2M (c2t 3) I KX (b4k N))=a9Q N x0 c54 o0_m1012 (KX 3 (a5E o0_3 x0 c54 o0_m1012)) (fun s55=>I (b0M o0_3 x0 c54 o0_m1012 s55)) s55:=by kernel_rfl
theorem d0p(N:Nat):∀x y k,(∀st,k .ret st=(b4k N) st)->iter (c2t 3) (Q0 (a8s N) N b4l 3) N ⟨66,unF a7D x,unH a7C y⟩ k=c2r N x y k:=fun x y k hk=>
 a0D (S:=(Int)×Unit) (c2t 3) _ (Q4 (b0N N) (a8s N) b4l 3) (b4k N) (a0V _ _ N _ b4l 3 (show LoopsOk (b0N N) (a8s N) N (b4k N) []from trivial)) (fun s=>b0M x.1 x.2.2.1 x.2.2.2.1 y.1 s.1) k hk
  (fun self s=>a9Q N x.2.2.1 x.2.2.2.1 y.1 (k (.exit 3) (a5E x.1 x.2.2.1 x.2.2.2.1 y.1)) (fun s55=>self (s55,())) s.1) (fun n s=>b4j N x.2.2.1 x.2.2.2.1 y.1 (k (.exit 3) (a5E x.1 x.2.2.1 x.2.2.2.1 y.1)) n s.1) (fun _=>rfl) (fun _ _=>rfl)
  (fun I s=>c2s N x.1 x.2.2.1 x.2.2.2.1 y.1 (fun j=>k (.exit j)) I s.1) N (x.2.2.2.2.1,())
theorem e1x(N:Nat):B2 (b0N N) (a8s N) N (b4k N) 3 b4l:=fun st k hk=>a4P 66 a7D a7C _ _ (b4k N) (d0p N) _ st k hk (rfl)
theorem e1w(N:Nat):B2 (b0N N) (a8s N) N (b4k N) 0 e6T:=
 o0 (c2q N) (fun K f x y=>b2p N x.1 x.2.2.2.1 x.2.2.2.2.1 (fun o0_3 o0_m1012=>K 0 (b4i (x.1,o0_3,x.2.2) (o0_m1012,y.2))) (fun s3 s15 m1012=>f (x.1,s3,x.2.2.1,x.2.2.2.1,x.2.2.2.2.1,s15,x.2.2.2.2.2.2) (m1012,y.2)) x.2.1 x.2.2.2.2.2.1 y.1)
theorem d0r(N:Nat):I6 35 (c7a N):=
 X0 (d0q N) Tryz.func35 Tryz.call35 (c7a N) d5g N (b0N N) (P5 (e1w N) (P5 (e1x N) U6))
def c0k(N:Nat)(c19:List R2)(c20:Int)(κ1_2:List R2)(k0:τ39)(self:ρ34)(s21:Int):Option Int:=br (decide (s21<c20)) (k8 (n8 c19 s21) fun t24=>k8 (X3 N t24.1) fun t28=>br (!t28) (some (3:Int)) (br (decide (s21>(0:Int))) (k8 (n8 κ1_2 (IntKind.i64.wrap (s21-(1:Int)))) fun t39=>br (Op.bytesLess t24.1 t39.1||t24.1==t39.1) (some (8:Int)) (self (IntKind.i64.wrap (s21+(1:Int))))) (self (IntKind.i64.wrap (s21+(1:Int)))))) (k0)
def b8r(N:Nat)(c19:List R2)(c20:Int)(κ1_2:List R2)(k0:τ39):Nat->Int->Option Int|0,_=>none|n+1,s21=>c0k N c19 c20 κ1_2 k0 (b8r N c19 c20 κ1_2 k0 n) s21
def X9(N:Nat)(x0:d3×d3×List R2×List τ7):Option Int:=br (!(x0.1==([]:d3))) (k8 (X3 N x0.1) fun t11=>br (!t11) (some (3:Int)) (br (decide ((x0.2.2.1.length:Int)>(20:Int))) (some (2:Int)) (b8r N x0.2.2.1 (x0.2.2.1.length:Int) x0.2.2.1 (k8 (Z0 N x0.2.2.2) fun t47=>some t47) N (0:Int)))) (br (decide ((x0.2.2.1.length:Int)>(20:Int))) (some (2:Int)) (b8r N x0.2.2.1 (x0.2.2.1.length:Int) x0.2.2.1 (k8 (Z0 N x0.2.2.2) fun t47_1=>some t47_1) N (0:Int)))
abbrev f4u:=E3 [.v τ37] [] [.v τ3] [] (Int) fun z=>((z,()),())
abbrev e26(N:Nat):AF:=f4u fun x _=>X9 N x.1
abbrev e5o:SV [.v τ3]->BV []->Int:=fun x _=>x.1
def e5n(N:Nat):FuncId->Option Tmp->Option AF:=fun f _=>P0 [(25,b43 N),(35,c7a N)] f
theorem d9B(N:Nat):H5 (e5n N):=fun _ _ _ h=>r9 h (u4 (a7O N) (u4 (d0r N) F1))
def f7G:Nat->Hint:=fun i=>
 match i with
 |0=>⟨[],[1,19,20,21],[1001],[1],[1001],[]⟩
 |_=>o5
abbrev e25(N:Nat):Env:=M5 f7G (e5n N) FF FF
noncomputable abbrev f4t:Code:=P9 (m8 Tryz.f17) [true,true,true,false,true,false,false]
abbrev f7F(N:Nat):=B4 (e25 N) Tryz.f17 (e26 N) e5o
abbrev d9A:List (Nat×Sl):=[(1,.box 1001 0),(19,.v τ17),(20,.v τ3),(21,.v τ3)]
abbrev b5z:List (Nat×Sb):=[(1001,.cells [.v .str,.v .str,.v τ17,.v τ10])]
def b8s(y:HV b5z):St:=⟨48,[(1,.box 1001 0)],unH b5z y⟩
def c8D(N:Nat):T9 (Int) d9A b5z:=fun K n x y=>b8r N x.2.1 x.2.2.1 y.1.2.2.1 (K 0 (b8s y)) n x.2.2.2.1
def e5m(N:Nat):Nat->Code->St->(Ex->St->Option Int)->Option Int:=fun i c=>
 match i with
 |0=>U4 (e25 N) N 48 (c8D N) 0 c
 |i=>LpD (e25 N) N i c
theorem e9w(N:Nat):B2 (e5m N) (e25 N) N (f7F N) 0 f4t:=
 o0 (c8D N) (fun K f x y=>c0k N x.2.1 x.2.2.1 y.1.2.2.1 (K 0 (b8s y)) (fun s21=>f (x.1,x.2.1,x.2.2.1,s21,x.2.2.2.2) y) x.2.2.2.1)
theorem d9C(N:Nat):I6 17 (e26 N):=
 X0 (d9B N) Tryz.func17 Tryz.call17 (e26 N) e5o N (e5m N) (P5 (e9w N) U6)
def Y0(N:Nat)(x0:UInt8):Option Bool:=k8 (J8 N x0) fun t4=>br (t4) (some true) (k8 (J7 N x0) fun t7=>br (t7) (some true) (some (x0==(95:UInt8))))
abbrev f4v:=E3 [.v .u8] [] [.v .bool] [] (Bool) fun z=>((z,()),())
abbrev e9x(N:Nat):AF:=f4v fun x _=>Y0 N x.1
theorem d9D(N:Nat):I6 133 (e9x N):=
 N9 h0 (u4 (b0Z N) (u4 (a7G N) F1)) Tryz.func133 Tryz.call133 (e9x N) (fun x _=>x.1) N
def stringslite_HasPrefix(_N:Nat)(x0:d3)(x1:d3):Option Bool:=br (decide ((x0.length:Int)>=(x1.length:Int))) (k8 (slc x0 (0:Int) (x1.length:Int)) fun t14=>some (t14==x1)) (some false)
abbrev f3j:=E3 [.v .str,.v .str] [] [.v .bool] [] (Bool) fun z=>((z,()),())
abbrev f3i(N:Nat):AF:=f3j fun x _=>stringslite_HasPrefix N x.1 x.2.1
theorem d8m(N:Nat):I6 195 (f3i N):=
 N9 h0 F1 Tryz.func195 Tryz.call195 (f3i N) (fun x _=>x.1) N
def strings_HasPrefix(N:Nat)(x0:d3)(x1:d3):Option Bool:=k8 (stringslite_HasPrefix N x0 x1) fun t7=>some t7
abbrev e6E:=E3 [.v .str,.v .str] [] [.v .bool] [] (Bool) fun z=>((z,()),())
abbrev e3M(N:Nat):AF:=e6E fun x _=>strings_HasPrefix N x.1 x.2.1
theorem c92(N:Nat):I6 128 (e3M N):=
 N9 h0 (u4 (d8m N) F1) Tryz.func128 Tryz.call128 (e3M N) (fun x _=>x.1) N
def b1l(_N:Nat)(y0_0:d3)(w1:List τ1)(k0:ρ15)(self:ρ15)(b0_1:Int):Option (d3×Int×List τ1):=br (decide (b0_1<(y0_0.length:Int))) (k8 (n8 y0_0 b0_1) fun t22=>br (t22==(32:UInt8)) (self (IntKind.i64.wrap (b0_1+(1:Int)))) (br (t22==(9:UInt8)) (self (IntKind.i64.wrap (b0_1+(1:Int)))) (br (t22==(10:UInt8)) (self (IntKind.i64.wrap (b0_1+(1:Int)))) (br (t22==(13:UInt8)) (self (IntKind.i64.wrap (b0_1+(1:Int)))) (br (t22==(35:UInt8)) (k8 (slc y0_0 b0_1 (y0_0.length:Int)) fun t56=>k8 (strings_IndexByte t56 (10:UInt8)) fun t57=>br (decide (t57<(0:Int))) (self (IntKind.i64.wrap (b0_1+(IntKind.i64.wrap ((y0_0.length:Int)-b0_1))))) (self (IntKind.i64.wrap (b0_1+t57)))) (some (y0_0,b0_1,w1))))))) (k0 b0_1)
def b8a(N:Nat)(y0_0:d3)(w1:List τ1)(k0:ρ15):Nat->Int->Option (d3×Int×List τ1)|0,_=>none|n+1,b0_1=>b1l N y0_0 w1 k0 (b8a N y0_0 w1 k0 n) b0_1
def Z9(N:Nat)(y0_0:d3)(y0_1:Int)(w1:List τ1):Option (d3×Int×List τ1):=b8a N y0_0 w1 (fun o0_0_1=>some (y0_0,o0_0_1,w1)) N y0_1
abbrev f2O:=E3 [.box 0 0] [.cells [.v .str,.v τ3,.row 1],.row 138 τ2 false] [] [.cells [.v .str,.v τ3,.row 1],.row 138 τ2 false] (d3×Int×List τ1) fun z=>((),(z.1,z.2.1,(),()),z.2.2,())
abbrev e2n(N:Nat):AF:=f2O fun _ y=>Z9 N y.1.1 y.1.2.1 y.2.1
abbrev e4L:SV []->BV [.cells [.v .str,.v τ3,.row 1],.row 138 τ2 false]->(d3×Int×List τ1):=fun _ y=>(y.1.1,y.1.2.1,y.2.1)
def e4K(_N:Nat):FuncId->Option Tmp->Option AF:=fun f _=>P0 [(131,e3N)] f
theorem d7V(N:Nat):H5 (e4K N):=fun _ _ _ h=>r9 h (u4 (a7B) F1)
def f6T:Nat->Hint:=fun i=>
 match i with
 |0=>⟨[],[0],[0,1],[],[0,1],[]⟩
 |100005=>⟨[0,1],[1],[],[],[],[]⟩
 |_=>o5
abbrev e2m(N:Nat):Env:=M5 f6T (e4K N) FF FF
noncomputable abbrev f2N:Code:=P9 (m8 Tryz.f71) [false,false]
abbrev f6S(N:Nat):=B4 (e2m N) Tryz.f71 (e2n N) e4L
abbrev d7U:List (Nat×Sl):=[(0,.box 0 0)]
abbrev b5k:List (Nat×Sb):=[(0,.cells [.v .str,.v τ3,.row 1]),(1,.row 138 τ2 false)]
def b8b(y:HV b5k):St:=⟨78,[],unH b5k y⟩
def c8e(N:Nat):T9 ((d3×Int×List τ1)) d7U b5k:=fun K n x y=>b8a N y.1.1 y.2.1 (fun o0_0_1=>K 0 (b8b ((y.1.1,o0_0_1,y.1.2.2),y.2))) n y.1.2.1
def e4J(N:Nat):Nat->Code->St->(Ex->St->Option (d3×Int×List τ1))->Option (d3×Int×List τ1):=fun i c=>
 match i with
 |0=>U4 (e2m N) N 78 (c8e N) 0 c
 |i=>LpD (e2m N) N i c
theorem e8V(N:Nat):B2 (e4J N) (e2m N) N (f6S N) 0 f2N:=
 o0 (c8e N) (fun K f x y=>b1l N y.1.1 y.2.1 (fun o0_0_1=>K 0 (b8b ((y.1.1,o0_0_1,y.1.2.2),y.2))) (fun b0_1=>f x ((y.1.1,b0_1,y.1.2.2),y.2)) y.1.2.1)
theorem d7W(N:Nat):I6 71 (e2n N):=
 X0 (d7V N) Tryz.func71 Tryz.call71 (e2n N) e4L N (e4J N) (P5 (e8V N) U6)
def b1o(N:Nat)(y0_0:d3)(k0:ρ37)(self:ρ37)(b0_1:Int):Option τ30:=br (decide (b0_1<(y0_0.length:Int))) (k8 (n8 y0_0 b0_1) fun t30=>k8 (Y0 N t30) fun t31=>br (t31) (self (IntKind.i64.wrap (b0_1+(1:Int)))) (k0 b0_1)) (k0 b0_1)
def c3J(N:Nat)(y0_0:d3)(k0:ρ37):Nat->Int->Option τ30|0,_=>none|n+1,b0_1=>b1o N y0_0 k0 (c3J N y0_0 k0 n) b0_1
def U8(N:Nat)(_x1:Unit)(y0_0:d3)(y0_1:Int)(w1:List τ1):Option τ30:=c3J N y0_0 (fun o0_0_1=>k8 (slc y0_0 y0_1 o0_0_1) fun t49=>some (t49,y0_0,o0_0_1,w1)) N y0_1
abbrev f3U(f:SV [.box 0 0,.v (.clo 133 .un)]->BV [.cells [.v .str,.v τ3,.row 1],.row 138 τ2 false]->Option τ30):AF:={ps:=[.box 0 0,.v (.clo 133 .un)],bs:=[.cells [.v .str,.v τ3,.row 1],.row 138 τ2 false],rs:=[.v .str],cs:=[.cells [.v .str,.v τ3,.row 1],.row 138 τ2 false],R:=d3×d3×Int×List τ1,out:=fun z=>((z.1,()),(z.2.1,z.2.2.1,(),()),z.2.2.2,()),f:=f}
abbrev e9i(N:Nat):AF:=f3U fun x y=>U8 N x.2.1 y.1.1 y.1.2.1 y.2.1
abbrev e44:SV [.v .str]->BV [.cells [.v .str,.v τ3,.row 1],.row 138 τ2 false]->τ30:=fun x y=>(x.1,y.1.1,y.1.2.1,y.2.1)
def e43(N:Nat):FuncId->Option Tmp->Option AF:=fun f _=>P0 [(133,e9x N)] f
theorem d81(N:Nat):H5 (e43 N):=fun _ _ _ h=>r9 h (u4 (d9D N) F1)
def f7o:Nat->Hint:=fun i=>
 match i with
 |0=>⟨[],[0,1,5],[0,1],[0,5],[0,1],[]⟩
 |100002=>⟨[0,1],[1],[],[],[],[]⟩
 |100004=>⟨[0,1],[1],[],[],[],[]⟩
 |_=>o5
abbrev e2K(N:Nat):Env:=M5 f7o (e43 N) FF FF
noncomputable abbrev e42:Code:=P9 (m8 Tryz.f132) [true,true,false,false,false]
abbrev f7n(N:Nat):=B4 (e2K N) Tryz.f132 (e9i N) e44
abbrev c3K:List (Nat×Sl):=[(0,.box 0 0),(1,.v (.clo 133 .un)),(5,.v τ3)]
abbrev b5o:List (Nat×Sb):=[(0,.cells [.v .str,.v τ3,.row 1]),(1,.row 138 τ2 false)]
def b8j(x:FV c3K)(y:HV b5o):St:=⟨50,[(0,.box 0 0),(5,.v τ3 x.2.2.1)],unH b5o y⟩
def c8p(N:Nat):T9 (τ30) c3K b5o:=fun K n x y=>c3J N y.1.1 (fun o0_0_1=>K 0 (b8j x ((y.1.1,o0_0_1,y.1.2.2),y.2))) n y.1.2.1
def e41(N:Nat):Nat->Code->St->(Ex->St->Option τ30)->Option τ30:=fun i c=>
 match i with
 |0=>U4 (e2K N) N 50 (c8p N) 0 c
 |i=>LpD (e2K N) N i c
theorem e9j(N:Nat):B2 (e41 N) (e2K N) N (f7n N) 0 e42:=
 o0 (c8p N) (fun K f x y=>b1o N y.1.1 (fun o0_0_1=>K 0 (b8j x ((y.1.1,o0_0_1,y.1.2.2),y.2))) (fun b0_1=>f x ((y.1.1,b0_1,y.1.2.2),y.2)) y.1.2.1)
theorem d82(N:Nat):I6 132 (e9i N):=
 X0 (d81 N) Tryz.func132 Tryz.call132 (e9i N) e44 N (e41 N) (P5 (e9j N) U6)
def b1p(N:Nat)(y0_0:d3)(k0:ρ37)(self:ρ37)(b0_1:Int):Option τ30:=br (decide (b0_1<(y0_0.length:Int))) (k8 (n8 y0_0 b0_1) fun t30=>k8 (J7 N t30) fun t31=>br (t31) (self (IntKind.i64.wrap (b0_1+(1:Int)))) (k0 b0_1)) (k0 b0_1)
def c3L(N:Nat)(y0_0:d3)(k0:ρ37):Nat->Int->Option τ30|0,_=>none|n+1,b0_1=>b1p N y0_0 k0 (c3L N y0_0 k0 n) b0_1
def U9(N:Nat)(_x1:Unit)(y0_0:d3)(y0_1:Int)(w1:List τ1):Option τ30:=c3L N y0_0 (fun o0_0_1=>k8 (slc y0_0 y0_1 o0_0_1) fun t49=>some (t49,y0_0,o0_0_1,w1)) N y0_1
abbrev f3V(f:SV [.box 0 0,.v (.clo 97 .un)]->BV [.cells [.v .str,.v τ3,.row 1],.row 138 τ2 false]->Option τ30):AF:={ps:=[.box 0 0,.v (.clo 97 .un)],bs:=[.cells [.v .str,.v τ3,.row 1],.row 138 τ2 false],rs:=[.v .str],cs:=[.cells [.v .str,.v τ3,.row 1],.row 138 τ2 false],R:=d3×d3×Int×List τ1,out:=fun z=>((z.1,()),(z.2.1,z.2.2.1,(),()),z.2.2.2,()),f:=f}
abbrev e2M(N:Nat):AF:=f3V fun x y=>U9 N x.2.1 y.1.1 y.1.2.1 y.2.1
abbrev e47:SV [.v .str]->BV [.cells [.v .str,.v τ3,.row 1],.row 138 τ2 false]->τ30:=fun x y=>(x.1,y.1.1,y.1.2.1,y.2.1)
def e46(N:Nat):FuncId->Option Tmp->Option AF:=fun f _=>P0 [(97,c7j N)] f
theorem d83(N:Nat):H5 (e46 N):=fun _ _ _ h=>r9 h (u4 (a7G N) F1)
def f7q:Nat->Hint:=fun i=>
 match i with
 |0=>⟨[],[0,1,5],[0,1],[0,5],[0,1],[]⟩
 |100002=>⟨[0,1],[1],[],[],[],[]⟩
 |100004=>⟨[0,1],[1],[],[],[],[]⟩
 |_=>o5
abbrev e2L(N:Nat):Env:=M5 f7q (e46 N) FF FF
abbrev f7p(N:Nat):=B4 (e2L N) Tryz.f132 (e2M N) e47
abbrev c3M:List (Nat×Sl):=[(0,.box 0 0),(1,.v (.clo 97 .un)),(5,.v τ3)]
abbrev b5p:List (Nat×Sb):=[(0,.cells [.v .str,.v τ3,.row 1]),(1,.row 138 τ2 false)]
def b8k(x:FV c3M)(y:HV b5p):St:=⟨50,[(0,.box 0 0),(5,.v τ3 x.2.2.1)],unH b5p y⟩
def c8q(N:Nat):T9 (τ30) c3M b5p:=fun K n x y=>c3L N y.1.1 (fun o0_0_1=>K 0 (b8k x ((y.1.1,o0_0_1,y.1.2.2),y.2))) n y.1.2.1
def e45(N:Nat):Nat->Code->St->(Ex->St->Option τ30)->Option τ30:=fun i c=>
 match i with
 |0=>U4 (e2L N) N 50 (c8q N) 0 c
 |i=>LpD (e2L N) N i c
theorem e9k(N:Nat):B2 (e45 N) (e2L N) N (f7p N) 0 e42:=
 o0 (c8q N) (fun K f x y=>b1p N y.1.1 (fun o0_0_1=>K 0 (b8k x ((y.1.1,o0_0_1,y.1.2.2),y.2))) (fun b0_1=>f x ((y.1.1,b0_1,y.1.2.2),y.2)) y.1.2.1)
theorem d84(N:Nat):I6 132 (e2M N):=
 X0 (d83 N) Tryz.func132 Tryz.call132 (e2M N) e47 N (e45 N) (P5 (e9k N) U6)
end
end
noncomputable section
noncomputable section
noncomputable def a9b:Code:=P9 (m8 Tryz.f37) [true,true]
noncomputable def a6A:Func:={Tryz.f37 with body:=some a9b}
def y9(w950001:List GStmt)(self:ρ8)(t14:GStmt×List τ1×Int×Int):Option (τe):=br (Zf (w950001.length + [GStmt.mk (0:Int) ([]:d3) ([]:d3) ([]:List d3) ([]:List (d3×GExpr)) (GExpr.mk (0:Int) ([]:d3) (0:Int) ([]:List d3) ([]:List GExpr)) ([]:List GStmt) ([]:List GStmt) (0:Int)].length) τ26) (br (decide (0<=(w950001.length:Int)/\(w950001.length:Int)<((w950001 ++ [GStmt.mk (0:Int) ([]:d3) ([]:d3) ([]:List d3) ([]:List (d3×GExpr)) (GExpr.mk (0:Int) ([]:d3) (0:Int) ([]:List d3) ([]:List GExpr)) ([]:List GStmt) ([]:List GStmt) (0:Int)]).length:Int))) (o3 1 (k8 (n8 (w950001 ++ [GStmt.mk (0:Int) ([]:d3) ([]:d3) ([]:List d3) ([]:List (d3×GExpr)) (GExpr.mk (0:Int) ([]:d3) (0:Int) ([]:List d3) ([]:List GExpr)) ([]:List GStmt) ([]:List GStmt) (0:Int)]) (w950001.length:Int)) fun _=>self t14.2.1 t14.2.2.1 t14.2.2.2 (a3F (w950001 ++ [GStmt.mk (0:Int) ([]:d3) ([]:d3) ([]:List d3) ([]:List (d3×GExpr)) (GExpr.mk (0:Int) ([]:d3) (0:Int) ([]:List d3) ([]:List GExpr)) ([]:List GStmt) ([]:List GStmt) (0:Int)]) (w950001.length:Int) t14.1))) none) none
def a81(N:Nat)(k0:ρ8)(self:ρ8)(b0_0:List τ1)(b0_1:Int)(b0_2:Int)(w950001:List GStmt):Option (τe):=br (decide ((b0_0.length:Int)>(0:Int))) (q7 (q7 (k8 (x9 N (0:Int) b0_0 b0_1 b0_2) fun t14=>o3 1 (y9 w950001 self t14)) (o3 1 (o3 1 (k8 (x9 N (0:Int) b0_0 b0_1 b0_2) fun t14=>y9 w950001 self t14)))) (q7 (k8 (x9 N (0:Int) b0_0 b0_1 b0_2) fun t14=>q7 (o3 1 (y9 w950001 self t14)) (y9 w950001 self t14)) (q7 (o3 1 (k8 (x9 N (0:Int) b0_0 b0_1 b0_2) fun t14=>y9 w950001 self t14)) (k8 (x9 N (0:Int) b0_0 b0_1 b0_2) fun t14=>y9 w950001 self t14)))) (k0 b0_0 b0_1 b0_2 w950001)
def c31(N:Nat)(k0:ρ8):Nat->τ22->Int->Int->(List GStmt)->Option (τe)|0,_,_,_,_=>none|n+1,b0_0,b0_1,b0_2,w950001=>a81 N k0 (c31 N k0 n) b0_0 b0_1 b0_2 w950001
def L9(N:Nat)(y0_0:List τ1)(y0_1:Int)(y0_2:Int)(_y2_0:Int)(_y3_0:Bool):Option (τe):=c31 N (fun o0_0_0 o0_0_1 o0_0_2 o0_w950001=>some (o0_w950001,(0:Int),true,o0_0_0,o0_0_1,o0_0_2,(0:Int),true,o0_w950001)) N y0_0 y0_1 y0_2 ([]:List GStmt)
abbrev f4D:=E3 [.box 0 0,.dead,.box 1 0,.box 2 0,.box 3 0] [.cells [.v (.sl τ2),.v τ3,.v τ3],.cells [.nilS],.cells [.v τ3],.cells [.v .bool]] [.v τ15,.v τ3,.v .bool] [.cells [.v (.sl τ2),.v τ3,.v τ3],.cells [.row 4],.cells [.v τ3],.cells [.v .bool],.row 51 τ26 false] (τe) fun z=>((z.1,z.2.1,z.2.2.1,()),(z.2.2.2.1,z.2.2.2.2.1,z.2.2.2.2.2.1,()),((),()),(z.2.2.2.2.2.2.1,()),(z.2.2.2.2.2.2.2.1,()),z.2.2.2.2.2.2.2.2,())
abbrev b56(N:Nat):AF:=f4D fun _ y=>L9 N y.1.1 y.1.2.1 y.1.2.2.1 y.2.2.1.1 y.2.2.2.1.1
abbrev a8x:SV [.v τ15,.v τ3,.v .bool]->BV [.cells [.v (.sl τ2),.v τ3,.v τ3],.cells [.row 4],.cells [.v τ3],.cells [.v .bool],.row 51 τ26 false]->(τe):=fun x y=>(x.1,x.2.1,x.2.2.1,y.1.1,y.1.2.1,y.1.2.2.1,y.2.2.1.1,y.2.2.2.1.1,y.2.2.2.2.1)
def d9M(N:Nat):FuncId->Option Tmp->Option AF:=fun f _=>P0 [(74,e8O N)] f
theorem d9N(N:Nat):H5 (d9M N):=fun _ _ _ h=>r9 h (u4 (d7G N) F1)
def d2G:Nat->Hint:=fun i=>
 match i with
 |0=>⟨[],[0,2,3,4],[0,1,2,3,950001],[2,3,4],[0,1,2,3,950001],[(1,0,950001,51,τ26)]⟩
 |100003=>⟨[],[1,2],[],[],[],[]⟩
 |_=>o5
abbrev a6r(N:Nat):Env:=M5 d2G (d9M N) (fun i=>match i with|17=>true|_=>false) (fun _=>false)
noncomputable abbrev f4C:Code:=P9 (m8 Tryz.f134) [true,true,true,true,false,true,false,false]
abbrev a94:List (Nat×Sl):=[(0,.box 0 0),(2,.box 1 0),(3,.box 2 0),(4,.box 3 0)]
abbrev a93:List (Nat×Sb):=[(0,.cells [.v (.sl τ2),.v τ3,.v τ3]),(1,.cells [.row 950001]),(2,.cells [.v τ3]),(3,.cells [.v .bool]),(950001,.row 51 τ26 true)]
def b5B(y2_0:Int)(y3_0:Bool)(b0_0:List τ1)(b0_1:Int)(b0_2:Int)(w950001:List GStmt):St:=⟨20,[(0,.box 0 0),(2,.box 1 0),(3,.box 2 0),(4,.box 3 0)],[(0,.cells [.v (.sl τ2) b0_0,.v τ3 b0_1,.v τ3 b0_2]),(1,.cells [.row 950001]),(2,.cells [.v τ3 y2_0]),(3,.cells [.v .bool y3_0]),(950001,.row 51 τ26 true w950001)]⟩
def a7X(y2_0:Int)(y3_0:Bool)(o0_0_0:List τ1)(o0_0_1:Int)(o0_0_2:Int)(o0_w950001:List GStmt):St:=⟨20,[(2,.box 1 0),(3,.box 2 0),(4,.box 3 0)],[(0,.cells [.v (.sl τ2) o0_0_0,.v τ3 o0_0_1,.v τ3 o0_0_2]),(1,.cells [.row 950001]),(2,.cells [.v τ3 y2_0]),(3,.cells [.v .bool y3_0]),(950001,.row 51 τ26 true o0_w950001)]⟩
def e3e(N:Nat)(y2_0:Int)(y3_0:Bool)(b0_0:List τ1)(b0_1:Int)(b0_2:Int)(w950001:List GStmt)(k:Ex->St->Option (τe)):Option (τe):=c31 N (fun o0_0_0 o0_0_1 o0_0_2 o0_w950001=>k (.exit 0) (a7X y2_0 y3_0 o0_0_0 o0_0_1 o0_0_2 o0_w950001)) N b0_0 b0_1 b0_2 w950001
abbrev c8F(N:Nat):FV a94->HV a93->(Ex->St->Option (τe))->Option (τe):=fun _ y k=>e3e N y.2.2.1.1 y.2.2.2.1.1 y.1.1 y.1.2.1 y.1.2.2.1 y.2.2.2.2.1 k
def b8u(N:Nat):Nat->Code->St->(Ex->St->Option (τe))->Option (τe):=fun i c=>
 match i with
 |0=>(LPc 20 a94 a93 (c8F N) (fun st k=>iter (d2G 0) (Q0 (a6r N) N c 0) N st k))
 |i=>fun st k=>iter (d2G i) (Q0 (a6r N) N c i) N st k
theorem c6a(N:Nat)(y2_0:Int)(y3_0:Bool)(KX:Nat->St->Option (τe))(I:St->Option (τe))(b0_0:List τ1)(b0_1:Int)(b0_2:Int)(w950001:List GStmt):
  Q4 (b8u N) (a6r N) (P9 (m8 a6A) [false,false,false]) 0 (b5B y2_0 y3_0 b0_0 b0_1 b0_2 w950001) (a2M (d2G 0) I KX (B4 (a6r N) a6A (b56 N) a8x))=a81 N (fun o0_0_0 o0_0_1 o0_0_2 o0_w950001=>KX 0 (a7X y2_0 y3_0 o0_0_0 o0_0_1 o0_0_2 o0_w950001)) (fun b0_0 b0_1 b0_2 w950001=>I (b5B y2_0 y3_0 b0_0 b0_1 b0_2 w950001)) b0_0 b0_1 b0_2 w950001:=by kernel_rfl
theorem d9L(N:Nat):∀x y k,(∀st,k .ret st=(B4 (a6r N) a6A (b56 N) a8x) st)->iter (d2G 0) (Q0 (a6r N) N (P9 (m8 a6A) [false,false,false]) 0) N ⟨20,unF a94 x,unH a93 y⟩ k=c8F N x y k:=fun _ y k hk=>
 a0D (S:=τ22×(Int)×(Int)×(List GStmt)×Unit) (d2G 0) _ (Q4 (b8u N) (a6r N) (P9 (m8 a6A) [false,false,false]) 0) (B4 (a6r N) a6A (b56 N) a8x) (a0V _ _ N _ (P9 (m8 a6A) [false,false,false]) 0 (show LoopsOk (b8u N) (a6r N) N (B4 (a6r N) a6A (b56 N) a8x) []from trivial)) (fun s=>b5B y.2.2.1.1 y.2.2.2.1.1 s.1 s.2.1 s.2.2.1 s.2.2.2.1) k hk
  (fun self s=>a81 N (fun o0_0_0 o0_0_1 o0_0_2 o0_w950001=>k (.exit 0) (a7X y.2.2.1.1 y.2.2.2.1.1 o0_0_0 o0_0_1 o0_0_2 o0_w950001)) (fun b0_0 b0_1 b0_2 w950001=>self (b0_0,b0_1,b0_2,w950001,())) s.1 s.2.1 s.2.2.1 s.2.2.2.1) (fun n s=>c31 N (fun o0_0_0 o0_0_1 o0_0_2 o0_w950001=>k (.exit 0) (a7X y.2.2.1.1 y.2.2.2.1.1 o0_0_0 o0_0_1 o0_0_2 o0_w950001)) n s.1 s.2.1 s.2.2.1 s.2.2.2.1) (fun _=>rfl) (fun _ _=>rfl)
  (fun I s=>c6a N y.2.2.1.1 y.2.2.2.1.1 (fun j=>k (.exit j)) I s.1 s.2.1 s.2.2.1 s.2.2.2.1) N (y.1.1,y.1.2.1,y.1.2.2.1,y.2.2.2.2.1,())
theorem e9A(N:Nat):B2 (b8u N) (a6r N) N (B4 (a6r N) a6A (b56 N) a8x) 0 (P9 (m8 a6A) [false,false,false]):=fun st k hk=>a4P 20 a94 a93 _ _ (B4 (a6r N) a6A (b56 N) a8x) (d9L N) _ st k hk (rfl)
theorem e3f(N:Nat)(x:SV [.box 0 0,.dead,.box 1 0,.box 2 0,.box 3 0])(y:BV [.cells [.v (.sl τ2),.v τ3,.v τ3],.cells [.nilS],.cells [.v τ3],.cells [.v .bool]]):b53 (a6r N) a6A (b56 N) a8x (b8u N) x y=L9 N y.1.1 y.1.2.1 y.1.2.2.1 y.2.2.1.1 y.2.2.2.1.1:=by kernel_rfl
theorem a5n(N:Nat)(x:SV [.box 0 0,.dead,.box 1 0,.box 2 0,.box 3 0])(y:BV [.cells [.v (.sl τ2),.v τ3,.v τ3],.cells [.nilS],.cells [.v τ3],.cells [.v .bool]])(z) (h:L9 N y.1.1 y.1.2.1 y.1.2.2.1 y.2.2.1.1 y.2.2.2.1.1=some z):b1I (a6r N) N a6A (b56 N) (bothClassic _) a8x x y=some z:=
 ((b2h (a6r N) N a6A (b56 N) a8x (b8u N) (P5 (e9A N) U6) x y).trans (e3f N x y)).trans h
end
end
section
set_option maxHeartbeats 2000000 in
theorem d3I(caps:Array Value)(w:World):
  CallsD Tryz.prog 73 caps .returning w fun e u w'=>(∃v,e = .returned v)/\u = .returning/\w'=w:=by
 refine callsD_of_wpS Tryz.func73 rfl fun c₀ cs hu=>?_
 have hT:19<=(caps++Array.replicate (Tryz.f73.ntmps-caps.size) undef).size:=by
  rw[Array.size_append,Array.size_replicate,Tryz.ntmps73];omega
 generalize (caps++Array.replicate (Tryz.f73.ntmps-caps.size) undef)=T at hT ⊢;have h6:6<T.size:=by omega
 have h3:3<T.size:=by omega
 have h7:7<T.size:=by omega
 have h8:8<T.size:=by omega
 apply wpS_seq;apply wpS_region;simp[wpOpsS,go_sem,recoverD,hu,Exit.thenS,h6,h3];apply wpS_seq;apply wpS_region;simp[wpOpsS,go_sem,Exit.thenS,h6,h3,h7,h8];refine wpS_cond (t:=false) (by simp[Act.eval,h8]) ?_;simp only[Bool.false_eq_true,if_false];refine wpS_of_wp (wp_skip ?_);cases c₀;simp_all[bodyPostS,results,Tryz.results73]
end
end Go.Proofs.YtckdohagilcloaaGreatDoor
