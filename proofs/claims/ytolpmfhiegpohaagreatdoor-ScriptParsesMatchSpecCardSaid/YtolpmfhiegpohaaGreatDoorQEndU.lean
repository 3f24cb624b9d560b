/- What functions of the program compute, as plain functions (printed). -/
import Derived.Test.YtolpmfhiegpohaaGreatDoorQPaF23
import Derived.Test.YtolpmfhiegpohaaGreatDoorQBmAl
import Derived.Test.YtolpmfhiegpohaaGreatDoorQBmSw
import Derived.ProofKit
import Derived.OpenShut
import Derived.ShutString
import Derived.DataReads
import Derived.ChangeShapes
import Derived.WideShapes
import Derived.Test.YtolpmfhiegpohaaGreatDoorRows
namespace Go.Proofs.YtolpmfhiegpohaaGreatDoor
set_option maxRecDepth 100000
set_option linter.unusedVariables false
set_option linter.unusedSimpArgs false
open Go Go.RowKit
noncomputable section
noncomputable section
def O2(_N:Nat)(x0:GExpr)(x1:Int):Option Bool:=f5 (l6 x0.kids x1) fun t9=>br (x0.kind==(7:Int)) (f5 (br (t9.kind==(8:Int)) (some true) (br (t9.kind==(7:Int)) (some (x1==(1:Int))) (some false))) fun j4=>some j4) (br (x0.kind==(8:Int)) (some (t9.kind==(8:Int))) (some false))
abbrev e3u:=P4 [.v τ4,.v τ2] [] [.v .bool] [] (Bool) fun z=>((z,()),())
abbrev e0X(N:Nat):AF:=e3u fun x _=>O2 N x.1 x.2.1
def d4s(_N:Nat):FuncId->Option Tmp->Option AF:=fun f _=>O5 [] f
theorem d4t(N:Nat):I8 (d4s N):=fun _ _ _ h=>o6 h G7
def e3t:Nat->Hint:=fun i=>
 match i with
 |_=>o3
abbrev e5r(N:Nat):Env:=S9 e3t (d4s N) FF FF |>.jk (fun i=>match i with|4=>some 4|_=>none)
theorem d4u(N:Nat):P7 108 (e0X N):=
 a1W (e5r N) (EnvOk.jk (y6 e3t (d4s N) _ _ (d4t N)) _) Tryz.func108 rfl Tryz.call108 (e0X N) (fun x _=>x.1) (fun _ _=>rfl) N (fun _ _=>by kernel_rfl) rfl
abbrev c1U:=P4 [.v τ4,.v τ2] [] [.v τ2] [] (Int) fun z=>((z,()),())
def a4k(N:Nat)(d5:ρ25)(x1:Int)(c17:List GExpr)(c18:Int)(κ2_0:Int)(κ2_1:c8)(κ2_2:Int)(κ2_3:List c8)(κ2_4:List GExpr)(k0:Option Int)(self:ρ30)(s19:Int):Option Int:=br (decide (s19<c18)) (f5 (l6 c17 s19) fun t22=>br (κ2_0 !=(7:Int)) (f5 (O2 N (GExpr.mk κ2_0 κ2_1 κ2_2 κ2_3 κ2_4) s19) fun t32=>br (t32) (f5 (d5 (GExpr.mk t22.kind t22.text t22.number t22.keys t22.kids) (IntKind.i64.wrap ((IntKind.i64.wrap (x1+(1:Int)))+(1:Int)))) fun t37=>br (t37 !=(0:Int)) (some t37) (self (IntKind.i64.wrap (s19+(1:Int))))) (f5 (d5 (GExpr.mk t22.kind t22.text t22.number t22.keys t22.kids) (IntKind.i64.wrap (x1+(1:Int)))) fun t37_1=>br (t37_1 !=(0:Int)) (some t37_1) (self (IntKind.i64.wrap (s19+(1:Int)))))) (f5 (O2 N (GExpr.mk κ2_0 κ2_1 κ2_2 κ2_3 κ2_4) s19) fun t32_2=>br (t32_2) (f5 (d5 (GExpr.mk t22.kind t22.text t22.number t22.keys t22.kids) (IntKind.i64.wrap (x1+(1:Int)))) fun t37_3=>br (t37_3 !=(0:Int)) (some t37_3) (self (IntKind.i64.wrap (s19+(1:Int))))) (f5 (d5 (GExpr.mk t22.kind t22.text t22.number t22.keys t22.kids) x1) fun t37_4=>br (t37_4 !=(0:Int)) (some t37_4) (self (IntKind.i64.wrap (s19+(1:Int))))))) (k0)
def a7R(N:Nat)(d5:ρ25)(x1:Int)(c17:List GExpr)(c18:Int)(κ2_0:Int)(κ2_1:c8)(κ2_2:Int)(κ2_3:List c8)(κ2_4:List GExpr)(k0:Option Int):Nat->Int->Option Int|0,_=>none|n+1,s19=>a4k N d5 x1 c17 c18 κ2_0 κ2_1 κ2_2 κ2_3 κ2_4 k0 (a7R N d5 x1 c17 c18 κ2_0 κ2_1 κ2_2 κ2_3 κ2_4 k0 n) s19
def C1(N:Nat)(d5:ρ25)(x0:GExpr)(x1:Int):Option Int:=f5 (l5 N (GExpr.mk x0.kind x0.text x0.number x0.keys x0.kids) x1) fun t12=>br (t12 !=(0:Int)) (some t12) (a7R N d5 x1 x0.kids (x0.kids.length:Int) x0.kind x0.text x0.number x0.keys x0.kids (some (0:Int)) N (0:Int))
abbrev e29:=P4 [.v τ4,.v τ2] [] [.v τ2] [] (Int) fun z=>((z,()),())
abbrev d7A(N:Nat)(d5:ρ25):AF:=e29 fun x _=>C1 N d5 x.1 x.2.1
abbrev d3Z:SV [.v τ2]->BV []->Int:=fun x _=>x.1
def d3X(N:Nat)(d5:ρ25):FuncId->Option Tmp->Option AF:=fun f _=>O5 [(87,c1U fun x _=>d5 x.1 x.2.1),(108,e0X N),(146,e0g N)] f
theorem d3Y(N:Nat)(d5:ρ25)(Y0:Sound Tryz.prog GW B7 87 (c1U fun x y=>d5 x.1 x.2.1)):∀f q F,d3X N d5 f q=some F->Sound Tryz.prog GW B7 f F:=fun _ _ _ h=>o6 h (v8 (Y0) (v8 (d4u N) (v8 (d1K N) G7)))
def c4v:Nat->Hint:=fun i=>
 match i with
 |0=>⟨[],[1,2,17,18,19],[1002],[],[],[]⟩
 |_=>o3
abbrev b65(N:Nat)(d5:ρ25):Env:=S9 c4v (d3X N d5) (fun _=>false) (fun _=>false) |>.jk (fun _=>none)
abbrev c4u(N:Nat)(d5:ρ25):=A8 (b65 N d5) Tryz.f87 (d7A N d5) d3Z
noncomputable abbrev b8s:Code:=V7 (m9 Tryz.f87) [true,true,false,true,false,false]
abbrev b0b:List (Nat×Sl):=[(1,.v τ2),(2,.box 1002 0),(17,.v (.sl τ4)),(18,.v τ2),(19,.v τ2)]
abbrev b0a:List (Nat×Sb):=[(1002,.cells [.v τ2,.v .str,.v τ2,.v V6,.v (.sl τ4)])]
def b53(x1:Int)(c17:List GExpr)(c18:Int)(κ2_0:Int)(κ2_1:c8)(κ2_2:Int)(κ2_3:List c8)(κ2_4:List GExpr)(s19:Int):St:=⟨42,[(1,.v τ2 x1),(2,.box 1002 0),(17,.v (.sl τ4) c17),(18,.v τ2 c18),(19,.v τ2 s19)],[(1002,.cells [.v τ2 κ2_0,.v .str κ2_1,.v τ2 κ2_2,.v V6 κ2_3,.v (.sl τ4) κ2_4])]⟩
def a66(_x1:Int)(_c17:List GExpr)(_c18:Int)(_κ2_0:Int)(_κ2_1:c8)(_κ2_2:Int)(_κ2_3:List c8)(_κ2_4:List GExpr):St:=⟨42,[],[]⟩
def d7y(N:Nat)(d5:ρ25)(x1:Int)(c17:List GExpr)(c18:Int)(κ2_0:Int)(κ2_1:c8)(κ2_2:Int)(κ2_3:List c8)(κ2_4:List GExpr)(s19:Int)(k:Ex->St->Option Int):Option Int:=a7R N d5 x1 c17 c18 κ2_0 κ2_1 κ2_2 κ2_3 κ2_4 (k (.exit 0) (a66 x1 c17 c18 κ2_0 κ2_1 κ2_2 κ2_3 κ2_4)) N s19
abbrev c6k(N:Nat)(d5:ρ25):FV b0b->HV b0a->(Ex->St->Option Int)->Option Int:=fun x y k=>d7y N d5 x.1 x.2.2.1 x.2.2.2.1 y.1.1 y.1.2.1 y.1.2.2.1 y.1.2.2.2.1 y.1.2.2.2.2.1 x.2.2.2.2.1 k
def b54(N:Nat)(d5:ρ25):Nat->Code->St->(Ex->St->Option Int)->Option Int:=fun i c=>
 match i with
 |0=>(LPc 42 b0b b0a (c6k N d5) (fun st k=>iter (c4v 0) (k6 (b65 N d5) N c 0) N st k))
 |i=>fun st k=>iter (c4v i) (k6 (b65 N d5) N c i) N st k
theorem c4t(N:Nat)(d5:ρ25)(x1:Int)(c17:List GExpr)(c18:Int)(κ2_0:Int)(κ2_1:c8)(κ2_2:Int)(κ2_3:List c8)(κ2_4:List GExpr)(KX:Nat->St->Option Int)(I:St->Option Int)(s19:Int):
  k7 (b54 N d5) (b65 N d5) b8s 0 (b53 x1 c17 c18 κ2_0 κ2_1 κ2_2 κ2_3 κ2_4 s19) (p6 (c4v 0) I KX (c4u N d5))=a4k N d5 x1 c17 c18 κ2_0 κ2_1 κ2_2 κ2_3 κ2_4 (KX 0 (a66 x1 c17 c18 κ2_0 κ2_1 κ2_2 κ2_3 κ2_4)) (fun s19=>I (b53 x1 c17 c18 κ2_0 κ2_1 κ2_2 κ2_3 κ2_4 s19)) s19:=by kernel_rfl
theorem d3W(N:Nat)(d5:ρ25):∀x y k,(∀st,k .ret st=(c4u N d5) st)->iter (c4v 0) (k6 (b65 N d5) N b8s 0) N ⟨42,Y7 b0b x,Y8 b0a y⟩ k=c6k N d5 x y k:=fun x y k hk=>
 j9 (S:=(Int)×Unit) (c4v 0) _ (k7 (b54 N d5) (b65 N d5) b8s 0) (c4u N d5) (k9 _ _ N _ b8s 0 (show LoopsOk (b54 N d5) (b65 N d5) N (c4u N d5) []from trivial)) (fun s=>b53 x.1 x.2.2.1 x.2.2.2.1 y.1.1 y.1.2.1 y.1.2.2.1 y.1.2.2.2.1 y.1.2.2.2.2.1 s.1) k hk
  (fun self s=>a4k N d5 x.1 x.2.2.1 x.2.2.2.1 y.1.1 y.1.2.1 y.1.2.2.1 y.1.2.2.2.1 y.1.2.2.2.2.1 (k (.exit 0) (a66 x.1 x.2.2.1 x.2.2.2.1 y.1.1 y.1.2.1 y.1.2.2.1 y.1.2.2.2.1 y.1.2.2.2.2.1)) (fun s19=>self (s19,())) s.1) (fun n s=>a7R N d5 x.1 x.2.2.1 x.2.2.2.1 y.1.1 y.1.2.1 y.1.2.2.1 y.1.2.2.2.1 y.1.2.2.2.2.1 (k (.exit 0) (a66 x.1 x.2.2.1 x.2.2.2.1 y.1.1 y.1.2.1 y.1.2.2.1 y.1.2.2.2.1 y.1.2.2.2.2.1)) n s.1) (fun _=>rfl) (fun _ _=>rfl)
  (fun I s=>c4t N d5 x.1 x.2.2.1 x.2.2.2.1 y.1.1 y.1.2.1 y.1.2.2.1 y.1.2.2.2.1 y.1.2.2.2.2.1 (fun j=>k (.exit j)) I s.1) N (x.2.2.2.2.1,())
theorem e0N(N:Nat)(d5:ρ25):F7 (b54 N d5) (b65 N d5) N (c4u N d5) 0 b8s:=fun st k hk=>p8 42 b0b b0a _ _ (c4u N d5) (d3W N d5) _ st k hk (rfl)
theorem d7z(N:Nat)(d5:ρ25)(x:SV [.v τ4,.v τ2])(y:BV []):F5 (b65 N d5) Tryz.f87 (d7A N d5) d3Z (b54 N d5) x y=C1 N d5 x.1 x.2.1:=by kernel_rfl
theorem d30(N:Nat)(d5:ρ25)(Y0:Sound Tryz.prog GW B7 87 (c1U fun x y=>d5 x.1 x.2.1)):Sound Tryz.prog GW B7 87 (d7A N d5):=
 a2A (EnvOk.jk (y6 c4v (d3X N d5) _ _ (d3Y N d5 Y0)) _) Tryz.func87 rfl Tryz.call87 (d7A N d5) d3Z (fun _ _=>rfl) N (b54 N d5) (show LoopsOk (b54 N d5) (b65 N d5) N (c4u N d5) [(0,b8s)]from⟨e0N N d5,trivial⟩) (d7z N d5)
def y0(N:Nat):Nat->GExpr->Int->Option (Int)|0=>fun _ _=>none|d+1=>C1 N (y0 N d)
theorem c1V(N:Nat):∀d,Sound Tryz.prog GW B7 87 (c1U fun x y=>y0 N d x.1 x.2.1)
 |0=>Sound.never Tryz.call87 (fun _ _=>rfl)
 |d+1=>d30 N (y0 N d) (c1V N d)
abbrev c1y:=P4 [.v τ6,.v τ2] [] [.v τ2] [] (Int) fun z=>((z,()),())
def a8y(N:Nat)(b8:ρ22)(x1:Int)(c38:List (c8×GExpr))(c39:Int)(k2:Option Int)(self:ρ30)(s40:Int):Option Int:=br (decide (s40<c39)) (f5 (l6 c38 s40) fun t42=>f5 (y0 N N (GExpr.mk t42.2.kind t42.2.text t42.2.number t42.2.keys t42.2.kids) (IntKind.i64.wrap (x1+(1:Int)))) fun t48=>br (t48 !=(0:Int)) (some t48) (self (IntKind.i64.wrap (s40+(1:Int))))) (k2)
def b2H(N:Nat)(b8:ρ22)(x1:Int)(c38:List (c8×GExpr))(c39:Int)(k2:Option Int):Nat->Int->Option Int|0,_=>none|n+1,s40=>a8y N b8 x1 c38 c39 k2 (b2H N b8 x1 c38 c39 k2 n) s40
def a19(N:Nat)(b8:ρ22)(x1:Int)(x0:List GStmt)(c15:Int)(k0:Option Int)(self:ρ30)(s16:Int):Option Int:=br (decide (s16<c15)) (f5 (l6 x0 s16) fun t18=>f5 (J7 N (GStmt.mk t18.kind t18.name t18.text t18.params t18.args (GExpr.mk t18.expr.kind t18.expr.text t18.expr.number t18.expr.keys t18.expr.kids) t18.body t18.els t18.at_) x1) fun t22=>br (t22 !=(0:Int)) (some t22) (f5 (F9 N (GStmt.mk t18.kind t18.name t18.text t18.params t18.args (GExpr.mk t18.expr.kind t18.expr.text t18.expr.number t18.expr.keys t18.expr.kids) t18.body t18.els t18.at_)) fun t27=>br (t27.2.2.2.2.1) (f5 (y0 N N (GExpr.mk t18.expr.kind t18.expr.text t18.expr.number t18.expr.keys t18.expr.kids) (IntKind.i64.wrap (x1+(1:Int)))) fun t33=>br (t33 !=(0:Int)) (some t33) (b2H N b8 x1 t18.args (t18.args.length:Int) (f5 (b8 t18.body (IntKind.i64.wrap (x1+(1:Int)))) fun t57=>br (t57 !=(0:Int)) (some t57) (f5 (b8 t18.els (IntKind.i64.wrap (x1+(1:Int)))) fun t65=>br (t65 !=(0:Int)) (some t65) (self (IntKind.i64.wrap (s16+(1:Int)))))) N (0:Int))) (b2H N b8 x1 t18.args (t18.args.length:Int) (f5 (b8 t18.body (IntKind.i64.wrap (x1+(1:Int)))) fun t57_1=>br (t57_1 !=(0:Int)) (some t57_1) (f5 (b8 t18.els (IntKind.i64.wrap (x1+(1:Int)))) fun t65_2=>br (t65_2 !=(0:Int)) (some t65_2) (self (IntKind.i64.wrap (s16+(1:Int)))))) N (0:Int)))) (k0)
def c1j(N:Nat)(b8:ρ22)(x1:Int)(x0:List GStmt)(c15:Int)(k0:Option Int):Nat->Int->Option Int|0,_=>none|n+1,s16=>a19 N b8 x1 x0 c15 k0 (c1j N b8 x1 x0 c15 k0 n) s16
def O8(N:Nat)(b8:ρ22)(x0:List GStmt)(x1:Int):Option Int:=c1j N b8 x1 x0 (x0.length:Int) (some (0:Int)) N (0:Int)
abbrev e19:=P4 [.v τ6,.v τ2] [] [.v τ2] [] (Int) fun z=>((z,()),())
abbrev d6G(N:Nat)(b8:ρ22):AF:=e19 fun x _=>O8 N b8 x.1 x.2.1
abbrev d1a:SV [.v τ2]->BV []->Int:=fun x _=>x.1
def d07(N:Nat)(b8:ρ22):FuncId->Option Tmp->Option AF:=fun f _=>O5 [(50,c1y fun x _=>b8 x.1 x.2.1),(84,c1s N),(86,e0W N),(87,c1U fun x _=>y0 N N x.1 x.2.1)] f
theorem d08(N:Nat)(b8:ρ22)(O6:Sound Tryz.prog GW B7 50 (c1y fun x y=>b8 x.1 x.2.1)):∀f q F,d07 N b8 f q=some F->Sound Tryz.prog GW B7 f F:=fun _ _ _ h=>o6 h (v8 (O6) (v8 (b17 N) (v8 (d4r N) (v8 (c1V N N) G7))))
def b47:Nat->Hint:=fun i=>
 match i with
 |0=>⟨[],[1,14,15,16],[],[],[],[]⟩
 |2=>⟨[],[1,6,14,15,16,38,39,40],[1006],[1,6,14,15,16],[1006],[]⟩
 |_=>o3
abbrev a7l(N:Nat)(b8:ρ22):Env:=S9 b47 (d07 N b8) (fun _=>false) (fun _=>false) |>.jk (fun _=>none)
abbrev b1Y(N:Nat)(b8:ρ22):=A8 (a7l N b8) Tryz.f50 (d6G N b8) d1a
noncomputable abbrev b77:Code:=V7 (m9 Tryz.f50) [true,false,true,false,false]
noncomputable abbrev b46:Code:=V7 (m9 Tryz.f50) [true,false,true,false,false,true,true,false,false,true,true,true,false,true,false,false]
abbrev a9t:List (Nat×Sl):=[(1,.v τ2),(6,.box 1006 0),(14,.v τ6),(15,.v τ2),(16,.v τ2),(38,.v (.sl τ9)),(39,.v τ2),(40,.v τ2)]
abbrev a9s:List (Nat×Sb):=[(1006,.cells [.v τ2,.v .str,.v .str,.v V6,.v (.sl τ9),.v τ2,.v .str,.v τ2,.v V6,.v (.sl τ4),.v τ6,.v τ6,.v τ2])]
def b45(x1:Int)(x0:List GStmt)(c15:Int)(s16:Int)(c38:List (c8×GExpr))(c39:Int)(κ6_0:Int)(κ6_1:c8)(κ6_2:c8)(κ6_3:List c8)(κ6_4:List (c8×GExpr))(κ6_5:Int)(κ6_6:c8)(κ6_7:Int)(κ6_8:List c8)(κ6_9:List GExpr)(κ6_10:List GStmt)(κ6_11:List GStmt)(κ6_12:Int)(s40:Int):St:=⟨70,[(1,.v τ2 x1),(6,.box 1006 0),(14,.v τ6 x0),(15,.v τ2 c15),(16,.v τ2 s16),(38,.v (.sl τ9) c38),(39,.v τ2 c39),(40,.v τ2 s40)],[(1006,.cells [.v τ2 κ6_0,.v .str κ6_1,.v .str κ6_2,.v V6 κ6_3,.v (.sl τ9) κ6_4,.v τ2 κ6_5,.v .str κ6_6,.v τ2 κ6_7,.v V6 κ6_8,.v (.sl τ4) κ6_9,.v τ6 κ6_10,.v τ6 κ6_11,.v τ2 κ6_12])]⟩
def a6D(x1:Int)(x0:List GStmt)(c15:Int)(s16:Int)(_c38:List (c8×GExpr))(_c39:Int)(κ6_0:Int)(κ6_1:c8)(κ6_2:c8)(κ6_3:List c8)(κ6_4:List (c8×GExpr))(κ6_5:Int)(κ6_6:c8)(κ6_7:Int)(κ6_8:List c8)(κ6_9:List GExpr)(κ6_10:List GStmt)(κ6_11:List GStmt)(κ6_12:Int):St:=⟨70,[(1,.v τ2 x1),(6,.box 1006 0),(14,.v τ6 x0),(15,.v τ2 c15),(16,.v τ2 s16)],[(1006,.cells [.v τ2 κ6_0,.v .str κ6_1,.v .str κ6_2,.v V6 κ6_3,.v (.sl τ9) κ6_4,.v τ2 κ6_5,.v .str κ6_6,.v τ2 κ6_7,.v V6 κ6_8,.v (.sl τ4) κ6_9,.v τ6 κ6_10,.v τ6 κ6_11,.v τ2 κ6_12])]⟩
def d6E(N:Nat)(b8:ρ22)(x1:Int)(x0:List GStmt)(c15:Int)(s16:Int)(c38:List (c8×GExpr))(c39:Int)(κ6_0:Int)(κ6_1:c8)(κ6_2:c8)(κ6_3:List c8)(κ6_4:List (c8×GExpr))(κ6_5:Int)(κ6_6:c8)(κ6_7:Int)(κ6_8:List c8)(κ6_9:List GExpr)(κ6_10:List GStmt)(κ6_11:List GStmt)(κ6_12:Int)(s40:Int)(k:Ex->St->Option Int):Option Int:=b2H N b8 x1 c38 c39 (k (.exit 2) (a6D x1 x0 c15 s16 c38 c39 κ6_0 κ6_1 κ6_2 κ6_3 κ6_4 κ6_5 κ6_6 κ6_7 κ6_8 κ6_9 κ6_10 κ6_11 κ6_12)) N s40
abbrev c5M(N:Nat)(b8:ρ22):FV a9t->HV a9s->(Ex->St->Option Int)->Option Int:=fun x y k=>d6E N b8 x.1 x.2.2.1 x.2.2.2.1 x.2.2.2.2.1 x.2.2.2.2.2.1 x.2.2.2.2.2.2.1 y.1.1 y.1.2.1 y.1.2.2.1 y.1.2.2.2.1 y.1.2.2.2.2.1 y.1.2.2.2.2.2.1 y.1.2.2.2.2.2.2.1 y.1.2.2.2.2.2.2.2.1 y.1.2.2.2.2.2.2.2.2.1 y.1.2.2.2.2.2.2.2.2.2.1 y.1.2.2.2.2.2.2.2.2.2.2.1 y.1.2.2.2.2.2.2.2.2.2.2.2.1 y.1.2.2.2.2.2.2.2.2.2.2.2.2.1 x.2.2.2.2.2.2.2.1 k
abbrev a9r:List (Nat×Sl):=[(1,.v τ2),(14,.v τ6),(15,.v τ2),(16,.v τ2)]
abbrev a9q:List (Nat×Sb):=[]
def b44(x1:Int)(x0:List GStmt)(c15:Int)(s16:Int):St:=⟨70,[(1,.v τ2 x1),(14,.v τ6 x0),(15,.v τ2 c15),(16,.v τ2 s16)],[]⟩
def a6C(_x1:Int)(_x0:List GStmt)(_c15:Int):St:=⟨70,[],[]⟩
def d6D(N:Nat)(b8:ρ22)(x1:Int)(x0:List GStmt)(c15:Int)(s16:Int)(k:Ex->St->Option Int):Option Int:=c1j N b8 x1 x0 c15 (k (.exit 0) (a6C x1 x0 c15)) N s16
abbrev c5L(N:Nat)(b8:ρ22):FV a9r->HV a9q->(Ex->St->Option Int)->Option Int:=fun x _ k=>d6D N b8 x.1 x.2.1 x.2.2.1 x.2.2.2.1 k
def a5r(N:Nat)(b8:ρ22):Nat->Code->St->(Ex->St->Option Int)->Option Int:=fun i c=>
 match i with
 |0=>(LPc 70 a9r a9q (c5L N b8) (fun st k=>iter (b47 0) (k6 (a7l N b8) N c 0) N st k))
 |2=>(LPc 70 a9t a9s (c5M N b8) (fun st k=>iter (b47 2) (k6 (a7l N b8) N c 2) N st k))
 |i=>fun st k=>iter (b47 i) (k6 (a7l N b8) N c i) N st k
theorem c3D(N:Nat)(b8:ρ22)(x1:Int)(x0:List GStmt)(c15:Int)(s16:Int)(c38:List (c8×GExpr))(c39:Int)(κ6_0:Int)(κ6_1:c8)(κ6_2:c8)(κ6_3:List c8)(κ6_4:List (c8×GExpr))(κ6_5:Int)(κ6_6:c8)(κ6_7:Int)(κ6_8:List c8)(κ6_9:List GExpr)(κ6_10:List GStmt)(κ6_11:List GStmt)(κ6_12:Int)(KX:Nat->St->Option Int)(I:St->Option Int)(s40:Int):
  k7 (a5r N b8) (a7l N b8) b46 2 (b45 x1 x0 c15 s16 c38 c39 κ6_0 κ6_1 κ6_2 κ6_3 κ6_4 κ6_5 κ6_6 κ6_7 κ6_8 κ6_9 κ6_10 κ6_11 κ6_12 s40) (p6 (b47 2) I KX (b1Y N b8))=a8y N b8 x1 c38 c39 (KX 2 (a6D x1 x0 c15 s16 c38 c39 κ6_0 κ6_1 κ6_2 κ6_3 κ6_4 κ6_5 κ6_6 κ6_7 κ6_8 κ6_9 κ6_10 κ6_11 κ6_12)) (fun s40=>I (b45 x1 x0 c15 s16 c38 c39 κ6_0 κ6_1 κ6_2 κ6_3 κ6_4 κ6_5 κ6_6 κ6_7 κ6_8 κ6_9 κ6_10 κ6_11 κ6_12 s40)) s40:=by kernel_rfl
theorem d06(N:Nat)(b8:ρ22):∀x y k,(∀st,k .ret st=(b1Y N b8) st)->iter (b47 2) (k6 (a7l N b8) N b46 2) N ⟨70,Y7 a9t x,Y8 a9s y⟩ k=c5M N b8 x y k:=fun x y k hk=>
 j9 (S:=(Int)×Unit) (b47 2) _ (k7 (a5r N b8) (a7l N b8) b46 2) (b1Y N b8) (k9 _ _ N _ b46 2 (show LoopsOk (a5r N b8) (a7l N b8) N (b1Y N b8) []from trivial)) (fun s=>b45 x.1 x.2.2.1 x.2.2.2.1 x.2.2.2.2.1 x.2.2.2.2.2.1 x.2.2.2.2.2.2.1 y.1.1 y.1.2.1 y.1.2.2.1 y.1.2.2.2.1 y.1.2.2.2.2.1 y.1.2.2.2.2.2.1 y.1.2.2.2.2.2.2.1 y.1.2.2.2.2.2.2.2.1 y.1.2.2.2.2.2.2.2.2.1 y.1.2.2.2.2.2.2.2.2.2.1 y.1.2.2.2.2.2.2.2.2.2.2.1 y.1.2.2.2.2.2.2.2.2.2.2.2.1 y.1.2.2.2.2.2.2.2.2.2.2.2.2.1 s.1) k hk
  (fun self s=>a8y N b8 x.1 x.2.2.2.2.2.1 x.2.2.2.2.2.2.1 (k (.exit 2) (a6D x.1 x.2.2.1 x.2.2.2.1 x.2.2.2.2.1 x.2.2.2.2.2.1 x.2.2.2.2.2.2.1 y.1.1 y.1.2.1 y.1.2.2.1 y.1.2.2.2.1 y.1.2.2.2.2.1 y.1.2.2.2.2.2.1 y.1.2.2.2.2.2.2.1 y.1.2.2.2.2.2.2.2.1 y.1.2.2.2.2.2.2.2.2.1 y.1.2.2.2.2.2.2.2.2.2.1 y.1.2.2.2.2.2.2.2.2.2.2.1 y.1.2.2.2.2.2.2.2.2.2.2.2.1 y.1.2.2.2.2.2.2.2.2.2.2.2.2.1)) (fun s40=>self (s40,())) s.1) (fun n s=>b2H N b8 x.1 x.2.2.2.2.2.1 x.2.2.2.2.2.2.1 (k (.exit 2) (a6D x.1 x.2.2.1 x.2.2.2.1 x.2.2.2.2.1 x.2.2.2.2.2.1 x.2.2.2.2.2.2.1 y.1.1 y.1.2.1 y.1.2.2.1 y.1.2.2.2.1 y.1.2.2.2.2.1 y.1.2.2.2.2.2.1 y.1.2.2.2.2.2.2.1 y.1.2.2.2.2.2.2.2.1 y.1.2.2.2.2.2.2.2.2.1 y.1.2.2.2.2.2.2.2.2.2.1 y.1.2.2.2.2.2.2.2.2.2.2.1 y.1.2.2.2.2.2.2.2.2.2.2.2.1 y.1.2.2.2.2.2.2.2.2.2.2.2.2.1)) n s.1) (fun _=>rfl) (fun _ _=>rfl)
  (fun I s=>c3D N b8 x.1 x.2.2.1 x.2.2.2.1 x.2.2.2.2.1 x.2.2.2.2.2.1 x.2.2.2.2.2.2.1 y.1.1 y.1.2.1 y.1.2.2.1 y.1.2.2.2.1 y.1.2.2.2.2.1 y.1.2.2.2.2.2.1 y.1.2.2.2.2.2.2.1 y.1.2.2.2.2.2.2.2.1 y.1.2.2.2.2.2.2.2.2.1 y.1.2.2.2.2.2.2.2.2.2.1 y.1.2.2.2.2.2.2.2.2.2.2.1 y.1.2.2.2.2.2.2.2.2.2.2.2.1 y.1.2.2.2.2.2.2.2.2.2.2.2.2.1 (fun j=>k (.exit j)) I s.1) N (x.2.2.2.2.2.2.2.1,())
theorem d09(N:Nat)(b8:ρ22):F7 (a5r N b8) (a7l N b8) N (b1Y N b8) 2 b46:=fun st k hk=>p8 70 a9t a9s _ _ (b1Y N b8) (d06 N b8) _ st k hk (rfl)
theorem c3C(N:Nat)(b8:ρ22)(x1:Int)(x0:List GStmt)(c15:Int)(KX:Nat->St->Option Int)(I:St->Option Int)(s16:Int):
  k7 (a5r N b8) (a7l N b8) b77 0 (b44 x1 x0 c15 s16) (p6 (b47 0) I KX (b1Y N b8))=a19 N b8 x1 x0 c15 (KX 0 (a6C x1 x0 c15)) (fun s16=>I (b44 x1 x0 c15 s16)) s16:=by kernel_rfl
theorem d05(N:Nat)(b8:ρ22):∀x y k,(∀st,k .ret st=(b1Y N b8) st)->iter (b47 0) (k6 (a7l N b8) N b77 0) N ⟨70,Y7 a9r x,Y8 a9q y⟩ k=c5L N b8 x y k:=fun x _ k hk=>
 j9 (S:=(Int)×Unit) (b47 0) _ (k7 (a5r N b8) (a7l N b8) b77 0) (b1Y N b8) (k9 _ _ N _ b77 0 (show LoopsOk (a5r N b8) (a7l N b8) N (b1Y N b8) [(2,b46)]from⟨d09 N b8,trivial⟩)) (fun s=>b44 x.1 x.2.1 x.2.2.1 s.1) k hk
  (fun self s=>a19 N b8 x.1 x.2.1 x.2.2.1 (k (.exit 0) (a6C x.1 x.2.1 x.2.2.1)) (fun s16=>self (s16,())) s.1) (fun n s=>c1j N b8 x.1 x.2.1 x.2.2.1 (k (.exit 0) (a6C x.1 x.2.1 x.2.2.1)) n s.1) (fun _=>rfl) (fun _ _=>rfl)
  (fun I s=>c3C N b8 x.1 x.2.1 x.2.2.1 (fun j=>k (.exit j)) I s.1) N (x.2.2.2.1,())
theorem d95(N:Nat)(b8:ρ22):F7 (a5r N b8) (a7l N b8) N (b1Y N b8) 0 b77:=fun st k hk=>p8 70 a9r a9q _ _ (b1Y N b8) (d05 N b8) _ st k hk (rfl)
theorem d6F(N:Nat)(b8:ρ22)(x:SV [.v τ6,.v τ2])(y:BV []):F5 (a7l N b8) Tryz.f50 (d6G N b8) d1a (a5r N b8) x y=O8 N b8 x.1 x.2.1:=by kernel_rfl
theorem d1b(N:Nat)(b8:ρ22)(O6:Sound Tryz.prog GW B7 50 (c1y fun x y=>b8 x.1 x.2.1)):Sound Tryz.prog GW B7 50 (d6G N b8):=
 a2A (EnvOk.jk (y6 b47 (d07 N b8) _ _ (d08 N b8 O6)) _) Tryz.func50 rfl Tryz.call50 (d6G N b8) d1a (fun _ _=>rfl) N (a5r N b8) (show LoopsOk (a5r N b8) (a7l N b8) N (b1Y N b8) [(0,b77),(2,b46)]from⟨d95 N b8,d09 N b8,trivial⟩) (d6F N b8)
def D0(N:Nat):Nat->(List GStmt)->Int->Option (Int)|0=>fun _ _=>none|d+1=>O8 N (D0 N d)
theorem c1z(N:Nat):∀d,Sound Tryz.prog GW B7 50 (c1y fun x y=>D0 N d x.1 x.2.1)
 |0=>Sound.never Tryz.call50 (fun _ _=>rfl)
 |d+1=>d1b N (D0 N d) (c1z N d)
def K8(N:Nat)(x0:List GStmt):Option Int:=f5 (F8 N N x0) fun t4=>br (decide (t4>(50000:Int))) (some (2:Int)) (f5 (D0 N N x0 (0:Int)) fun t7=>some t7)
abbrev e2L:=P4 [.v τ6] [] [.v τ2] [] (Int) fun z=>((z,()),())
abbrev e0w(N:Nat):AF:=e2L fun x _=>K8 N x.1
theorem d2B(N:Nat):P7 22 (e0w N):=
 V5 h0 [(49,b4Y fun x _=>F8 N N x.1),(50,c1y fun x _=>D0 N N x.1 x.2.1)] (v8 (b7Y N N) (v8 (c1z N N) G7)) Tryz.func22 rfl Tryz.call22 (e0w N) (fun x _=>x.1) (fun _ _=>rfl) N (fun _ _=>by kernel_rfl) rfl
def U8(N:Nat)(x0:c8):Option (List GStmt×Int×Int):=f5 (R9 N x0) fun t14=>br (t14.2.2 !=(0:Int)) (some (([]:List GStmt),t14.2)) (f5 (A1 N t14.1 (x0.length:Int) (-1:Int)) fun t29=>br (!t29.2.2.1) (some (([]:List GStmt),(t29.2.1,(10:Int)))) (br (decide (t29.2.2.2>=(0:Int))) (some (([]:List GStmt),(t29.2.2.2,(2:Int)))) (f5 (K8 N t29.1) fun t46=>br (t46 !=(0:Int)) (some (([]:List GStmt),((0:Int),t46))) (some (t29.1,((0:Int),(0:Int)))))))
abbrev d9X:=P4 [.v .str] [] [.v τ6,.v τ2,.v τ2] [] (List GStmt×Int×Int) fun z=>((z.1,z.2.1,z.2.2,()),())
abbrev d8y(N:Nat):AF:=d9X fun x _=>U8 N x.1
def e16:Nat->Hint:=fun i=>
 match i with
 |100009=>⟨[1026],[],[],[],[],[]⟩
 |_=>o3
theorem c78(N:Nat):P7 12 (d8y N):=
 V5 e16 [(7,b7T N),(21,d8K fun _ y=>A1 N y.1.1 y.1.2.1 y.1.2.2.1),(22,e0w N)] (v8 (b7V N) (v8 (d2T N) (v8 (d2B N) G7))) Tryz.func12 rfl Tryz.call12 (d8y N) (fun x _=>(x.1,x.2.1,x.2.2.1)) (fun _ _=>rfl) N (fun _ _=>by kernel_rfl) rfl
def a0l(N:Nat)(x0:c8):Option (List GStmt×Int×Int):=f5 (R9 N x0) fun t14=>br (t14.2.2 !=(0:Int)) (some (([]:List GStmt),t14.2)) (f5 (C2 N t14.1 (x0.length:Int) (-1:Int)) fun t29=>br (!t29.2) (some (([]:List GStmt),(t29.1,(10:Int)))) none)
abbrev d9G:=P4 [.v .str] [] [.v τ6,.v τ2,.v τ2] [] (List GStmt×Int×Int) fun z=>((z.1,z.2.1,z.2.2,()),())
abbrev d8v(N:Nat):AF:=d9G fun x _=>a0l N x.1
theorem c7v(N:Nat):P7 12 (d8v N):=
 V5 h0 [(7,b7T N),(21,d8F fun _ y=>C2 N y.1.1 y.1.2.1 y.1.2.2.1)] (v8 (b7V N) (v8 (d2e N) G7)) Tryz.func12 rfl Tryz.call12 (d8v N) (fun x _=>(x.1,x.2.1,x.2.2.1)) (fun _ _=>rfl) N (fun _ _=>by kernel_rfl) rfl
abbrev d0v:=P4 [.v .str] [] [.v τ6,.v τ2,.v τ2] [] (List GStmt×Int×Int) fun z=>((z.1,z.2.1,z.2.2,()),())
def O7(N:Nat)(s:c8):Option (List GStmt×Int×Int):=match U8 N s with
 |some z=>some z
 |none=>a0l N s
theorem c7H(N:Nat):P7 12 (d0v fun x _=>O7 N x.1):=by
 refine⟨Tryz.call12,fun M w g vs x y z hG hB hfr hz=>?_⟩
 have hz:O7 N x.1=some z:=hz
 unfold O7 at hz
 split at hz
 ·rename_i z' h
  cases hz
  exact(c78 N).2 M w g vs x y z hG hB hfr h
 ·exact(c7v N).2 M w g vs x y z hG hB hfr hz
def M3(N:Nat)(x0:c8):Option Bool:=f5 (O7 N x0) fun t11=>f5 (Y3 N x0) fun t17=>br (t11.2.2==t17.2.1) (br (t11.2.1==t17.1) (f5 (H7 N N t11.1 t17.2.2 true) fun t32=>br (t32) (f5 (a3n) fun t35=>some t35) (some false)) (some false)) (some false)
abbrev e5t:=P4 [.v .str] [] [.v .bool] [] (Bool) fun z=>((z,()),())
abbrev z7g(N:Nat):AF:=e5t fun x _=>M3 N x.1
theorem d7S(N:Nat):P7 4 (z7g N):=
 V5 h0 [(8,b6P fun _ _=>a3n),(12,d0v fun x _=>O7 N x.1),(13,c1P fun x _=>H7 N N x.1 x.2.1 x.2.2.1),(14,c1m N)] (v8 (b0U) (v8 (c7H N) (v8 (c1Q N N) (v8 (c8l N) G7)))) Tryz.func4 rfl Tryz.call4 (z7g N) (fun x _=>x.1) (fun _ _=>rfl) N (fun _ _=>by kernel_rfl) rfl
end
end
section
open Go Go.RowKit Go.ChangeShapes Go.WideShapes
def FitG(RR:(i:RC)->i.den->Prop):(t:Ty)->t.den->Prop | .u8,_=>True | .int k,x=>(Lit.int k x).wf=true | .bool,_=>True | .str,x=>x.length<=maxLen | .sl t,xs=>xs.length<=maxLen/\∀x∈xs,FitG RR t x | .pr a b,x=>FitG RR a x.1/\FitG RR b x.2 | .un,_=>True | .mp _,_=>True | .ptr _,_=>True | .np _,_=>True | .nl,_=>True | .clo _ _,_=>True | .rc i,x=>RR i x
def FitR(i:RC)(x:i.den):Prop:=∀RR:(i:RC)->i.den->Prop,(∀j y,FitG RR j.body (j.un y)->RR j y)->RR i x
def Fit:(t:Ty)->t.den->Prop:=FitG FitR
theorem FitG.mono{RR RR':(i:RC)->i.den->Prop}(hR:∀i x,RR i x->RR' i x):∀(t:Ty) (x:t.den),FitG RR t x->FitG RR' t x
 |.u8,_,h=>h
 |.int _,_,h=>h
 |.bool,_,h=>h
 |.str,_,h=>h
 |.sl t,_,h=>⟨h.1,fun x hx=>FitG.mono hR t x (h.2 x hx)⟩
 |.pr a b,_,h=>⟨FitG.mono hR a _ h.1,FitG.mono hR b _ h.2⟩
 |.un,_,h=>h
 |.mp _,_,h=>h
 |.ptr _,_,h=>h
 |.np _,_,h=>h
 |.nl,_,h=>h
 |.clo _ _,_,h=>h
 |.rc i,x,h=>hR i x h
theorem FitR.intro{i:RC}{x:i.den}(h:Fit i.body (i.un x)):FitR i x:=
 fun RR hc=>hc i x (FitG.mono (fun j y hy=>hy RR hc) _ _ h)
theorem FitR.elim{i:RC}{x:i.den}(h:FitR i x):Fit i.body (i.un x):=
 h (fun j y=>Fit j.body (j.un y)) fun _ _ hy=>FitG.mono (fun _ _ h=>FitR.intro h) _ _ hy
mutual
inductive Deep(P:Program)(R:RC->Option TypeId):Ty->TypeId->Prop where
 |u8 {T:TypeId}:P.underlying T=some (.int .u8)->Deep P R .u8 T
 |int {T:TypeId} {k:IntKind}:P.underlying T=some (.int k)->Deep P R (.int k) T
 |bool {T:TypeId}:P.underlying T=some .bool->Deep P R .bool T
 |str {T:TypeId}:P.underlying T=some .string->Deep P R .str T
 |sl {T e:TypeId} {t:Ty}:P.underlying T=some (.slice e)->P.cellsOf e=t.sz->Deep P R t e->Deep P R (.sl t) T
 |st {T:TypeId} {t:Ty} {fs:Array Field}:P.underlying T=some (.struct fs)->P.cellsOf T=t.sz->t.isAgg=true->DeepF P R t fs.toList 0->Deep P R t T
 |rc {T:TypeId} {i:RC}:R i=some T->Deep P R (.rc i) T
inductive DeepF(P:Program)(R:RC->Option TypeId):Ty->List Field->Nat->Prop where
 |nil {o:Nat}:DeepF P R .un [] o
 |one {t:Ty} {f:Field} {o:Nat}:f.offset=o->P.cellsOf f.type=t.sz->Deep P R t f.type->DeepF P R t [f] o
 |single {t:Ty} {f:Field} {o:Nat}:f.offset=o->P.cellsOf f.type=t.sz->Deep P R t f.type->DeepF P R (.pr t .un) [f] o
 |cons {a b:Ty} {f:Field} {fs:List Field} {o:Nat}:f.offset=o->P.cellsOf f.type=a.sz->Deep P R a f.type->DeepF P R b fs (o+a.sz)->DeepF P R (.pr a b) (f :: fs) o
end
def d8Z(P:Program)(R:RC->Option TypeId):Prop:=∀i T,R i=some T->∃fs,P.underlying T=some (.struct fs)/\P.cellsOf T=i.sz/\DeepF P R i.body fs.toList 0
abbrev M00:Nat->Nat->Prop:=fun _ _=>False
section
variable{H:Type}{enc:TypeId×Value->H}{P:Program}{w:World}{spare:Nat->Bool}{held:Bool}{R:RC->Option TypeId}
theorem b2n{α:Type}{p:Nat->α->Prop}:∀n,(∀i,i<n->∃x,p i x)->∃l:List α,l.length=n/\∀i (h:i<l.length),p i l[i]
 |0,_=>⟨[],rfl,fun i h=>absurd h (Nat.not_lt_zero _)⟩
 |n+1,h=>by
  obtain⟨l,hl,hp⟩:=b2n n fun i hi=>h i (Nat.lt_succ_of_lt hi)
  obtain⟨x,hx⟩:=h n (Nat.lt_succ_self _)
  refine⟨l ++ [x],by simp[hl],fun i hi=>?_⟩
  rcases Nat.lt_or_ge i l.length with h'|h'
  ·rw[List.getElem_append_left h'];exact hp i h'
  ·have:i=l.length:=by simp at hi;omega
   subst this
   simp[hl,hx]
theorem c0c{a:Addr}{n:Nat}{cs:List Value}(h:w.cells? 0 a n=some cs):Pl M00 w a cs:=by
 intro j u hu
 refine⟨?_,id⟩
 unfold World.cells? at h
 rw[if_pos (Nat.zero_le _)]at h
 have hl:=mapM_some_length h
 have hj:j<n:=by
  rcases Nat.lt_or_ge j cs.length with h'|h'
  ·rw[hl,List.length_range]at h';exact h'
  ·rw[List.getElem?_eq_none h']at hu;cases hu
 have:=mapM_some_get h j j (by rw[List.getElem?_range hj])
 rw[this];exact hu
theorem c2E{fuel:Nat}{cs:List Value}
  (ih:∀(t:Ty) (T:TypeId) (cs:List Value) (x:DataW H×List MemPlace),Deep P R t T->DataW.trod enc P w 0 spare held fuel T cs=some x->∃d:t.den,RepC M00 w t d cs/\Fit t d):
  ∀(fs:List Field) (t:Ty) (o:Nat) (xs:List (DataW H×List MemPlace)),DeepF P R t fs o->
   (fs.mapM fun f=>DataW.trod enc P w 0 spare held fuel f.type ((cs.drop f.offset).take (P.cellsOf f.type)))=some xs->∃d:t.den,RepC M00 w t d ((cs.drop o).take t.sz)/\Fit t d:=by
 intro fs
 induction fs with
 |nil=>
  intro t o xs hd _
  cases hd
  exact⟨(),List.take_zero,trivial⟩
 |cons f fs hfs=>
  intro t o xs hd hm
  have hhead:∃y,DataW.trod enc P w 0 spare held fuel f.type ((cs.drop f.offset).take (P.cellsOf f.type))=some y:=by
   have:=mapM_some_get hm 0 f rfl
   cases hx:xs[0]? with
   |none=>
    have hl:=mapM_some_length hm
    rw[List.getElem?_eq_none_iff]at hx
    simp at hl;omega
   |some y=>exact⟨y,this.trans hx⟩
  have htail:∃ys,(fs.mapM fun f=>DataW.trod enc P w 0 spare held fuel f.type ((cs.drop f.offset).take (P.cellsOf f.type)))=some ys:=by
   rw[List.mapM_cons]at hm
   obtain⟨y,hy⟩:=hhead
   rw[hy]at hm
   cases hys:(fs.mapM fun f=>DataW.trod enc P w 0 spare held fuel f.type ((cs.drop f.offset).take (P.cellsOf f.type)))with
   |none=>rw[hys]at hm;cases hm
   |some ys=>exact⟨ys,rfl⟩
  obtain⟨y,hy⟩:=hhead
  obtain⟨ys,hys⟩:=htail
  cases hd with
  |one ho hc h1=>
   rw[ho,hc]at hy
   exact ih _ _ _ _ h1 hy
  |single ho hc h1=>
   rw[ho,hc]at hy
   obtain⟨d,hd1,hd2⟩:=ih _ _ _ _ h1 hy
   exact⟨(d,()),⟨_,[],(List.append_nil _).symm,hd1,rfl⟩,hd2,trivial⟩
  |@cons a b _ _ _ ho hc h1 h2=>
   rw[ho,hc]at hy
   obtain⟨d,hd1,hd2⟩:=ih _ _ _ _ h1 hy
   obtain⟨e,he1,he2⟩:=hfs _ _ _ h2 hys
   refine⟨(d,e),⟨_,_,?_,hd1,he1⟩,hd2,he2⟩
   show(cs.drop o).take (a.sz+b.sz)=_
   rw[List.take_add,List.drop_drop]
theorem c99(hR:d8Z P R):∀(fuel:Nat) (t:Ty) (T:TypeId) (cs:List Value) (x:DataW H×List MemPlace),Deep P R t T->DataW.trod enc P w 0 spare held fuel T cs=some x->
  ∃d:t.den,RepC M00 w t d cs/\Fit t d:=by
 intro fuel
 induction fuel with
 |zero=>intro t T cs x _ h;cases h
 |succ fuel ih=>
  intro t T cs x hd h
  have hstruct:∀(t:Ty) (fs:Array Field),P.underlying T=some (.struct fs)->P.cellsOf T=t.sz->DeepF P R t fs.toList 0->∃d:t.den,RepC M00 w t d cs/\Fit t d:=fun t fs hu hc hf=>by
   unfold DataW.trod at h
   simp only[hu]at h
   split at h
   ·rename_i hl
    cases hm:(fs.toList.mapM fun f=>DataW.trod enc P w 0 spare held fuel f.type ((cs.drop f.offset).take (P.cellsOf f.type)))with
    |none=>rw[hm]at h;cases h
    |some xs=>
     obtain⟨d,h1,h2⟩:=c2E ih fs.toList t 0 xs hf hm
     rw[List.drop_zero,List.take_of_length_le (by omega)]at h1
     exact⟨d,h1,h2⟩
   ·cases h
  cases hd with
  |u8 hu=>
   have hx:∃n,cs=[.int .u8 n]/\(Lit.int .u8 n).wf=true:=by
    unfold DataW.trod at h
    split at h<;>simp_all
   obtain⟨n,rfl,hn⟩:=hx
   refine⟨UInt8.ofNat n.toNat,?_,trivial⟩
   show [Value.int .u8 n]=[Value.int .u8 (UInt8.ofNat n.toNat).toNat]
   simp[Lit.wf,IntKind.min,IntKind.max,IntKind.signed,IntKind.bits]at hn
   have:((UInt8.ofNat n.toNat).toNat:Int)=n:=by simp;omega
   rw[this]
  |@int _ k hu=>
   have hx:∃n,cs=[.int k n]/\(Lit.int k n).wf=true:=by
    unfold DataW.trod at h
    split at h<;>simp_all
   obtain⟨n,rfl,hn⟩:=hx
   exact⟨n,rfl,hn⟩
  |bool hu=>
   have hx:∃b,cs=[.bool b]:=by
    unfold DataW.trod at h
    split at h<;>simp_all
   obtain⟨b,rfl⟩:=hx
   exact⟨b,rfl,trivial⟩
  |str hu=>
   have hx:∃s:ByteArray,cs=[.string s]/\s.size<=maxLen:=by
    unfold DataW.trod at h
    split at h<;>simp_all
   obtain⟨s,rfl,hn⟩:=hx
   refine⟨s.data.toList,?_,?_⟩
   ·show [Value.string s]=[Value.string ⟨s.data.toList.toArray⟩]
    simp
   ·show s.data.toList.length<=maxLen
    simpa using hn
  |@sl _ e t hu hc he=>
   have hx:cs=[.slice none 0 0]\/∃a len cap,cs=[.slice (some a) len cap]/\len<=cap/\cap<=maxLen/\
     ∀i,i<len->∃y,(w.cells? 0 (a.add (i*P.cellsOf e)) (P.cellsOf e)).bind (DataW.trod enc P w 0 spare held fuel e)=some y:=by
    unfold DataW.trod at h
    split at h
    all_goals try (simp_all;done)
    ·rename_i hu2
     rw[hu]at hu2
     cases hu2
     simp only at h
     split at h
     ·rename_i hb
      right
      refine⟨_,_,_,rfl,hb.2.1,hb.2.2,fun i hi=>?_⟩
      cases hm:((List.range _).mapM fun i=>(w.cells? 0 (Addr.add _ (i*P.cellsOf e)) (P.cellsOf e)).bind (DataW.trod enc P w 0 spare held fuel e))with
      |none=>rw[hm]at h;cases h
      |some ys=>
       have h1:=mapM_some_get hm i i (by rw[List.getElem?_range hi])
       have hl:=mapM_some_length hm
       rw[List.length_range]at hl
       exact⟨ys[i]'(by omega),h1.trans (List.getElem?_eq_getElem (by omega))⟩
     ·cases h
   rcases hx with rfl|⟨a,len,cap,rfl,h1,h2,h3⟩
   ·exact⟨[],⟨none,0,rfl,Nat.le_refl _,Nat.zero_le _,fun i h=>absurd h (Nat.not_lt_zero _)⟩,Nat.zero_le _,fun x h=>by cases h⟩
   ·have hall:∀i,i<len->∃d:t.den,(∃es,RepC M00 w t d es/\Pl M00 w (a.add (i*t.sz)) es)/\Fit t d:=fun i hi=>by
     obtain⟨y,hy⟩:=h3 i hi
     rw[hc]at hy
     cases hcs:w.cells? 0 (a.add (i*t.sz)) t.sz with
     |none=>rw[hcs]at hy;cases hy
     |some es=>
      rw[hcs]at hy
      obtain⟨d,hd1,hd2⟩:=ih _ _ _ _ he hy
      exact⟨d,⟨es,hd1,c0c hcs⟩,hd2⟩
    obtain⟨l,hl,hp⟩:=b2n len hall
    refine⟨l,⟨some a,cap,?_,by omega,h2,fun i hi=>?_⟩,?_,fun x hx=>?_⟩
    ·rw[hl]
    ·obtain⟨⟨es,e1,e2⟩,_⟩:=hp i hi
     exact⟨a,es,rfl,e1,e2⟩
    ·show l.length<=maxLen;omega
    ·obtain⟨i,hi,rfl⟩:=List.getElem_of_mem hx
     exact(hp i hi).2
  |st hu hc ha hf=>exact hstruct t _ hu hc hf
  |rc hr=>
   obtain⟨fs,hu,hc,hf⟩:=hR _ _ hr
   rename_i i
   obtain⟨d,h1,h2⟩:=hstruct i.body fs hu (by rw[hc,RC.sz_body]) hf
   refine⟨i.mk d,RepC.rc.2 (by rw[RC.un_mk];exact h1),FitR.intro (by rw[RC.un_mk];exact h2)⟩
theorem c80(hR:d8Z P R){r:Reach}{base:Nat}{t:Ty}{T:TypeId}{v:Value}{d:DataW H}{p:List MemPlace}(hd:Deep P R t T)(hv:Value.okWide P w r base T v)(h:DataW.Trod enc P w 0 spare held T v d p):
  ∃x:t.den,RepV M00 w t x v/\Fit t x:=by
 obtain⟨fuel,hf⟩:=h
 obtain⟨x,h1,h2⟩:=c99 hR fuel t T _ _ hd hf
 refine⟨x,⟨_,h1,?_⟩,h2⟩
 have hagg:∀fs,P.underlying T=some (.struct fs)->t.isAgg=true->v=mkV t v.cells.toList:=fun fs hu ha=>by
  obtain⟨cs,rfl,_⟩:=okWide_struct hu hv
  rw[a0S ha]
  simp[Value.cells]
 have hone:∀c:Value,v=c->c.cells = #[c]->t.isAgg=false->v=mkV t v.cells.toList:=fun c e hc ha=>by
  subst e
  rw[hc,U5 ha]
 cases hd with
 |u8 hu=>obtain⟨n,rfl⟩:=okWide_int hu hv;exact hone _ rfl rfl rfl
 |int hu=>obtain⟨n,rfl⟩:=okWide_int hu hv;exact hone _ rfl rfl rfl
 |bool hu=>obtain⟨n,rfl⟩:=okWide_bool hu hv;exact hone _ rfl rfl rfl
 |str hu=>obtain⟨n,rfl⟩:=okWide_string hu hv;exact hone _ rfl rfl rfl
 |sl hu _ _=>obtain⟨a,l,c,rfl⟩:=okWide_slice hu hv;exact hone _ rfl rfl rfl
 |st hu _ ha _=>exact hagg _ hu ha
 |rc hr=>obtain⟨fs,hu,_⟩:=hR _ _ hr;exact hagg _ hu rfl
end
theorem d54{P:Program}{f:FuncId}{ps:List Sl}{F:SV ps->BV []->Option Bool}{out:Bool->SV [.v .bool]×BV []}(hout:∀z,(out z).1=(z,()))(hs:Sound P GW B7 f ⟨ps,[],[.v .bool],[],Bool,out,F⟩)
  {W:World} {vs:List Value} {x:SV ps} (hg:GW W) (ha:All2 (RepD0 M00 W g0) (U4 id ps x) vs) (hf:F x ()=some true):Calls P f vs.toArray W fun e W'=>e = .returned (.bool true)/\Ext W W':=by
 refine(hs.2 M00 W g0 vs x () true hg (d5F hg) {args:=ha,res:=fun r blk h=>(by cases h),dom:=fun r gx h=>(by cases h),inj:=fun _ _ _ _ _ h=>(by cases h),low:=fun _ _ _ h=>(by cases h),chg:=fun _ _ _ _ h=>(by cases h),mlt:=fun b o h=>h.elim,row:=fun _ _ _ h=>(by cases h)} hf).mono fun e W' hp=>?_
 obtain⟨vs',g',he,hE,_,hF,_⟩:=hp
 refine⟨?_,hE.ext fun b hb=>?_⟩
 ·have:=hF.args
  rw[hout]at this
  match vs',this with
  |[v],⟨h1,_⟩=>
   have h2:=RepV.plain (t:= .bool) rfl h1
   have h3:[v]=[.bool true]:=h2
   injection h3 with h3
   rw[he,h3]
   rfl
 ·obtain⟨r,x,h,_⟩:=hb
  cases h
end
section
open Go Go.RowKit Go.ChangeShapes Go.WideShapes
section
variable{H:Type}{enc:TypeId×Value->H}{P:Program}{w:World}{spare:Nat->Bool}{held:Bool}{R:RC->Option TypeId}{rb:(i:RC)->i.den->Nat}
end
end
end Go.Proofs.YtolpmfhiegpohaaGreatDoor
