/- What functions of the program compute, as plain functions (printed). -/
import Derived.Test.YtolpmfhiegpohaaGreatDoorQPaF23
import Derived.Test.YtolpmfhiegpohaaGreatDoorQBmAl
import Derived.Test.YtolpmfhiegpohaaGreatDoorQBmSw
import Derived.ProofKit
import Derived.OpenShut
import Derived.ShutString
import Derived.DataReads
import Derived.ChangeShapes
import Derived.WideShapes
import Derived.Test.YtolpmfhiegpohaaGreatDoorRows
namespace Go.Proofs.YtolpmfhiegpohaaGreatDoor
set_option maxRecDepth 100000
set_option linter.unusedVariables false
set_option linter.unusedSimpArgs false
open Go Go.RowKit
noncomputable section
noncomputable section
def O2(_N:Nat)(x0:GExpr)(x1:Int):Option Bool:=f5 (l6 x0.kids x1) fun t9=>br (x0.kind==(7:Int)) (f5 (br (t9.kind==(8:Int)) (some true) (br (t9.kind==(7:Int)) (some (x1==(1:Int))) (some false))) fun j4=>some j4) (br (x0.kind==(8:Int)) (some (t9.kind==(8:Int))) (some false))
abbrev e3e:=P4 [.v τ5,.v τ2] [] [.v .bool] [] (Bool) fun z=>((z,()),())
abbrev d7H(N:Nat):AF:=e3e fun x _=>O2 N x.1 x.2.1
def f2z(_N:Nat):FuncId->Option Tmp->Option AF:=fun f _=>O5 [] f
theorem f2A(N:Nat):I8 (f2z N):=fun _ _ _ h=>o6 h G7
def f5U:Nat->Hint:=fun i=>
 match i with
 |_=>o3
abbrev f6q(N:Nat):Env:=S9 f5U (f2z N) FF FF |>.jk (fun i=>match i with|4=>some 4|_=>none)
theorem c1K(N:Nat):P7 108 (d7H N):=
 a1W (f6q N) (EnvOk.jk (y6 f5U (f2z N) _ _ (f2A N)) _) Tryz.func108 rfl Tryz.call108 (d7H N) (fun x _=>x.1) (fun _ _=>rfl) N (fun _ _=>by kernel_rfl) rfl
abbrev e3n:=P4 [.v τ5,.v τ2] [] [.v τ2] [] (Int) fun z=>((z,()),())
def b5L(N:Nat)(d5:ρ17)(x1:Int)(c17:List GExpr)(c18:Int)(κ2_0:Int)(κ2_1:c8)(κ2_2:Int)(κ2_3:List c8)(κ2_4:List GExpr)(k0:Option Int)(self:ρ22)(s19:Int):Option Int:=br (decide (s19<c18)) (f5 (l6 c17 s19) fun t22=>br (κ2_0 !=(7:Int)) (f5 (O2 N (GExpr.mk κ2_0 κ2_1 κ2_2 κ2_3 κ2_4) s19) fun t32=>br (t32) (f5 (d5 (GExpr.mk t22.kind t22.text t22.number t22.keys t22.kids) (IntKind.i64.wrap ((IntKind.i64.wrap (x1+(1:Int)))+(1:Int)))) fun t37=>br (t37 !=(0:Int)) (some t37) (self (IntKind.i64.wrap (s19+(1:Int))))) (f5 (d5 (GExpr.mk t22.kind t22.text t22.number t22.keys t22.kids) (IntKind.i64.wrap (x1+(1:Int)))) fun t37_1=>br (t37_1 !=(0:Int)) (some t37_1) (self (IntKind.i64.wrap (s19+(1:Int)))))) (f5 (O2 N (GExpr.mk κ2_0 κ2_1 κ2_2 κ2_3 κ2_4) s19) fun t32_2=>br (t32_2) (f5 (d5 (GExpr.mk t22.kind t22.text t22.number t22.keys t22.kids) (IntKind.i64.wrap (x1+(1:Int)))) fun t37_3=>br (t37_3 !=(0:Int)) (some t37_3) (self (IntKind.i64.wrap (s19+(1:Int))))) (f5 (d5 (GExpr.mk t22.kind t22.text t22.number t22.keys t22.kids) x1) fun t37_4=>br (t37_4 !=(0:Int)) (some t37_4) (self (IntKind.i64.wrap (s19+(1:Int))))))) (k0)
def b5K(N:Nat)(d5:ρ17)(x1:Int)(c17:List GExpr)(c18:Int)(κ2_0:Int)(κ2_1:c8)(κ2_2:Int)(κ2_3:List c8)(κ2_4:List GExpr)(k0:Option Int):Nat->Int->Option Int|0,_=>none|n+1,s19=>b5L N d5 x1 c17 c18 κ2_0 κ2_1 κ2_2 κ2_3 κ2_4 k0 (b5K N d5 x1 c17 c18 κ2_0 κ2_1 κ2_2 κ2_3 κ2_4 k0 n) s19
def C1(N:Nat)(d5:ρ17)(x0:GExpr)(x1:Int):Option Int:=f5 (l5 N (GExpr.mk x0.kind x0.text x0.number x0.keys x0.kids) x1) fun t12=>br (t12 !=(0:Int)) (some t12) (b5K N d5 x1 x0.kids (x0.kids.length:Int) x0.kind x0.text x0.number x0.keys x0.kids (some (0:Int)) N (0:Int))
abbrev e2Z:=P4 [.v τ5,.v τ2] [] [.v τ2] [] (Int) fun z=>((z,()),())
abbrev d3j(N:Nat)(d5:ρ17):AF:=e2Z fun x _=>C1 N d5 x.1 x.2.1
abbrev d8N:SV [.v τ2]->BV []->Int:=fun x _=>x.1
def d3h(N:Nat)(d5:ρ17):FuncId->Option Tmp->Option AF:=fun f _=>O5 [(87,e3n fun x _=>d5 x.1 x.2.1),(108,d7H N),(146,d6N N)] f
theorem d3i(N:Nat)(d5:ρ17)(Y0:Sound Tryz.prog GW B7 87 (e3n fun x y=>d5 x.1 x.2.1)):∀f q F,d3h N d5 f q=some F->Sound Tryz.prog GW B7 f F:=fun _ _ _ h=>o6 h (v8 (Y0) (v8 (c1K N) (v8 (d1B N) G7)))
def c4f:Nat->Hint:=fun i=>
 match i with
 |0=>⟨[],[1,2,17,18,19],[1002],[],[],[]⟩
 |_=>o3
abbrev b5J(N:Nat)(d5:ρ17):Env:=S9 c4f (d3h N d5) (fun _=>false) (fun _=>false) |>.jk (fun _=>none)
abbrev c4e(N:Nat)(d5:ρ17):=A8 (b5J N d5) Tryz.f87 (d3j N d5) d8N
noncomputable abbrev e8P:Code:=V7 (m9 Tryz.f87) [true,true,false,true,false,false]
abbrev a9V:List (Nat×Sl):=[(1,.v τ2),(2,.box 1002 0),(17,.v (.sl τ5)),(18,.v τ2),(19,.v τ2)]
abbrev a9U:List (Nat×Sb):=[(1002,.cells [.v τ2,.v .str,.v τ2,.v τ11,.v (.sl τ5)])]
def b5M(x1:Int)(c17:List GExpr)(c18:Int)(κ2_0:Int)(κ2_1:c8)(κ2_2:Int)(κ2_3:List c8)(κ2_4:List GExpr)(s19:Int):St:=⟨42,[(1,.v τ2 x1),(2,.box 1002 0),(17,.v (.sl τ5) c17),(18,.v τ2 c18),(19,.v τ2 s19)],[(1002,.cells [.v τ2 κ2_0,.v .str κ2_1,.v τ2 κ2_2,.v τ11 κ2_3,.v (.sl τ5) κ2_4])]⟩
def a6X(_x1:Int)(_c17:List GExpr)(_c18:Int)(_κ2_0:Int)(_κ2_1:c8)(_κ2_2:Int)(_κ2_3:List c8)(_κ2_4:List GExpr):St:=⟨42,[],[]⟩
def d7i(N:Nat)(d5:ρ17)(x1:Int)(c17:List GExpr)(c18:Int)(κ2_0:Int)(κ2_1:c8)(κ2_2:Int)(κ2_3:List c8)(κ2_4:List GExpr)(s19:Int)(k:Ex->St->Option Int):Option Int:=b5K N d5 x1 c17 c18 κ2_0 κ2_1 κ2_2 κ2_3 κ2_4 (k (.exit 0) (a6X x1 c17 c18 κ2_0 κ2_1 κ2_2 κ2_3 κ2_4)) N s19
abbrev c6a(N:Nat)(d5:ρ17):FV a9V->HV a9U->(Ex->St->Option Int)->Option Int:=fun x y k=>d7i N d5 x.1 x.2.2.1 x.2.2.2.1 y.1.1 y.1.2.1 y.1.2.2.1 y.1.2.2.2.1 y.1.2.2.2.2.1 x.2.2.2.2.1 k
def b5N(N:Nat)(d5:ρ17):Nat->Code->St->(Ex->St->Option Int)->Option Int:=fun i c=>
 match i with
 |0=>(LPc 42 a9V a9U (c6a N d5) (fun st k=>iter (c4f 0) (V4 (b5J N d5) N c 0) N st k))
 |i=>fun st k=>iter (c4f i) (V4 (b5J N d5) N c i) N st k
theorem c4d(N:Nat)(d5:ρ17)(x1:Int)(c17:List GExpr)(c18:Int)(κ2_0:Int)(κ2_1:c8)(κ2_2:Int)(κ2_3:List c8)(κ2_4:List GExpr)(KX:Nat->St->Option Int)(I:St->Option Int)(s19:Int):
  a0b (b5N N d5) (b5J N d5) e8P 0 (b5M x1 c17 c18 κ2_0 κ2_1 κ2_2 κ2_3 κ2_4 s19) (p6 (c4f 0) I KX (c4e N d5))=b5L N d5 x1 c17 c18 κ2_0 κ2_1 κ2_2 κ2_3 κ2_4 (KX 0 (a6X x1 c17 c18 κ2_0 κ2_1 κ2_2 κ2_3 κ2_4)) (fun s19=>I (b5M x1 c17 c18 κ2_0 κ2_1 κ2_2 κ2_3 κ2_4 s19)) s19:=by kernel_rfl
theorem d3g(N:Nat)(d5:ρ17):∀x y k,(∀st,k .ret st=(c4e N d5) st)->iter (c4f 0) (V4 (b5J N d5) N e8P 0) N ⟨42,Y7 a9V x,Y8 a9U y⟩ k=c6a N d5 x y k:=fun x y k hk=>
 j9 (S:=(Int)×Unit) (c4f 0) _ (a0b (b5N N d5) (b5J N d5) e8P 0) (c4e N d5) (k9 _ _ N _ e8P 0 (show LoopsOk (b5N N d5) (b5J N d5) N (c4e N d5) []from trivial)) (fun s=>b5M x.1 x.2.2.1 x.2.2.2.1 y.1.1 y.1.2.1 y.1.2.2.1 y.1.2.2.2.1 y.1.2.2.2.2.1 s.1) k hk
  (fun self s=>b5L N d5 x.1 x.2.2.1 x.2.2.2.1 y.1.1 y.1.2.1 y.1.2.2.1 y.1.2.2.2.1 y.1.2.2.2.2.1 (k (.exit 0) (a6X x.1 x.2.2.1 x.2.2.2.1 y.1.1 y.1.2.1 y.1.2.2.1 y.1.2.2.2.1 y.1.2.2.2.2.1)) (fun s19=>self (s19,())) s.1) (fun n s=>b5K N d5 x.1 x.2.2.1 x.2.2.2.1 y.1.1 y.1.2.1 y.1.2.2.1 y.1.2.2.2.1 y.1.2.2.2.2.1 (k (.exit 0) (a6X x.1 x.2.2.1 x.2.2.2.1 y.1.1 y.1.2.1 y.1.2.2.1 y.1.2.2.2.1 y.1.2.2.2.2.1)) n s.1) (fun _=>rfl) (fun _ _=>rfl)
  (fun I s=>c4d N d5 x.1 x.2.2.1 x.2.2.2.1 y.1.1 y.1.2.1 y.1.2.2.1 y.1.2.2.2.1 y.1.2.2.2.2.1 (fun j=>k (.exit j)) I s.1) N (x.2.2.2.2.1,())
theorem e0H(N:Nat)(d5:ρ17):F7 (b5N N d5) (b5J N d5) N (c4e N d5) 0 e8P:=fun st k hk=>p8 42 a9V a9U _ _ (c4e N d5) (d3g N d5) _ st k hk (rfl)
theorem d7j(N:Nat)(d5:ρ17)(x:SV [.v τ5,.v τ2])(y:BV []):F5 (b5J N d5) Tryz.f87 (d3j N d5) d8N (b5N N d5) x y=C1 N d5 x.1 x.2.1:=by kernel_rfl
theorem d3m(N:Nat)(d5:ρ17)(Y0:Sound Tryz.prog GW B7 87 (e3n fun x y=>d5 x.1 x.2.1)):Sound Tryz.prog GW B7 87 (d3j N d5):=
 a2A (EnvOk.jk (y6 c4f (d3h N d5) _ _ (d3i N d5 Y0)) _) Tryz.func87 rfl Tryz.call87 (d3j N d5) d8N (fun _ _=>rfl) N (b5N N d5) (show LoopsOk (b5N N d5) (b5J N d5) N (c4e N d5) [(0,e8P)]from⟨e0H N d5,trivial⟩) (d7j N d5)
def y0(N:Nat):Nat->GExpr->Int->Option (Int)|0=>fun _ _=>none|d+1=>C1 N (y0 N d)
theorem d4k(N:Nat):∀d,Sound Tryz.prog GW B7 87 (e3n fun x y=>y0 N d x.1 x.2.1)
 |0=>Sound.never Tryz.call87 (fun _ _=>rfl)
 |d+1=>d3m N (y0 N d) (d4k N d)
abbrev c1y:=P4 [.v τ6,.v τ2] [] [.v τ2] [] (Int) fun z=>((z,()),())
def e5X(N:Nat)(b8:ρ13)(x1:Int)(c38:List (c8×GExpr))(c39:Int)(k2:Option Int)(self:ρ22)(s40:Int):Option Int:=br (decide (s40<c39)) (f5 (l6 c38 s40) fun t42=>f5 (y0 N N (GExpr.mk t42.2.kind t42.2.text t42.2.number t42.2.keys t42.2.kids) (IntKind.i64.wrap (x1+(1:Int)))) fun t48=>br (t48 !=(0:Int)) (some t48) (self (IntKind.i64.wrap (s40+(1:Int))))) (k2)
def e7b(N:Nat)(b8:ρ13)(x1:Int)(c38:List (c8×GExpr))(c39:Int)(k2:Option Int):Nat->Int->Option Int|0,_=>none|n+1,s40=>e5X N b8 x1 c38 c39 k2 (e7b N b8 x1 c38 c39 k2 n) s40
def e32(N:Nat)(b8:ρ13)(x1:Int)(x0:List GStmt)(c15:Int)(k0:Option Int)(self:ρ22)(s16:Int):Option Int:=br (decide (s16<c15)) (f5 (l6 x0 s16) fun t18=>f5 (J7 N (GStmt.mk t18.kind t18.name t18.text t18.params t18.args (GExpr.mk t18.expr.kind t18.expr.text t18.expr.number t18.expr.keys t18.expr.kids) t18.body t18.els t18.at_) x1) fun t22=>br (t22 !=(0:Int)) (some t22) (f5 (F9 N (GStmt.mk t18.kind t18.name t18.text t18.params t18.args (GExpr.mk t18.expr.kind t18.expr.text t18.expr.number t18.expr.keys t18.expr.kids) t18.body t18.els t18.at_)) fun t27=>br (t27.2.2.2.2.1) (f5 (y0 N N (GExpr.mk t18.expr.kind t18.expr.text t18.expr.number t18.expr.keys t18.expr.kids) (IntKind.i64.wrap (x1+(1:Int)))) fun t33=>br (t33 !=(0:Int)) (some t33) (e7b N b8 x1 t18.args (t18.args.length:Int) (f5 (b8 t18.body (IntKind.i64.wrap (x1+(1:Int)))) fun t57=>br (t57 !=(0:Int)) (some t57) (f5 (b8 t18.els (IntKind.i64.wrap (x1+(1:Int)))) fun t65=>br (t65 !=(0:Int)) (some t65) (self (IntKind.i64.wrap (s16+(1:Int)))))) N (0:Int))) (e7b N b8 x1 t18.args (t18.args.length:Int) (f5 (b8 t18.body (IntKind.i64.wrap (x1+(1:Int)))) fun t57_1=>br (t57_1 !=(0:Int)) (some t57_1) (f5 (b8 t18.els (IntKind.i64.wrap (x1+(1:Int)))) fun t65_2=>br (t65_2 !=(0:Int)) (some t65_2) (self (IntKind.i64.wrap (s16+(1:Int)))))) N (0:Int)))) (k0)
def e9o(N:Nat)(b8:ρ13)(x1:Int)(x0:List GStmt)(c15:Int)(k0:Option Int):Nat->Int->Option Int|0,_=>none|n+1,s16=>e32 N b8 x1 x0 c15 k0 (e9o N b8 x1 x0 c15 k0 n) s16
def O8(N:Nat)(b8:ρ13)(x0:List GStmt)(x1:Int):Option Int:=e9o N b8 x1 x0 (x0.length:Int) (some (0:Int)) N (0:Int)
abbrev e2c:=P4 [.v τ6,.v τ2] [] [.v τ2] [] (Int) fun z=>((z,()),())
abbrev e0a(N:Nat)(b8:ρ13):AF:=e2c fun x _=>O8 N b8 x.1 x.2.1
abbrev f1M:SV [.v τ2]->BV []->Int:=fun x _=>x.1
def d1m(N:Nat)(b8:ρ13):FuncId->Option Tmp->Option AF:=fun f _=>O5 [(50,c1y fun x _=>b8 x.1 x.2.1),(84,d47 N),(86,c8F N),(87,e3n fun x _=>y0 N N x.1 x.2.1)] f
theorem d1n(N:Nat)(b8:ρ13)(O6:Sound Tryz.prog GW B7 50 (c1y fun x y=>b8 x.1 x.2.1)):∀f q F,d1m N b8 f q=some F->Sound Tryz.prog GW B7 f F:=fun _ _ _ h=>o6 h (v8 (O6) (v8 (d49 N) (v8 (a5u N) (v8 (d4k N N) G7))))
def e2b:Nat->Hint:=fun i=>
 match i with
 |0=>⟨[],[1,14,15,16],[],[],[],[]⟩
 |2=>⟨[],[1,6,14,15,16,38,39,40],[1006],[1,6,14,15,16],[1006],[]⟩
 |_=>o3
abbrev e4W(N:Nat)(b8:ρ13):Env:=S9 e2b (d1m N b8) (fun _=>false) (fun _=>false) |>.jk (fun _=>none)
abbrev e65(N:Nat)(b8:ρ13):=A8 (e4W N b8) Tryz.f50 (e0a N b8) f1M
noncomputable abbrev e8I:Code:=V7 (m9 Tryz.f50) [true,false,true,false,false]
noncomputable abbrev e7F:Code:=V7 (m9 Tryz.f50) [true,false,true,false,false,true,true,false,false,true,true,true,false,true,false,false]
abbrev e6l:List (Nat×Sl):=[(1,.v τ2),(6,.box 1006 0),(14,.v τ6),(15,.v τ2),(16,.v τ2),(38,.v (.sl V6)),(39,.v τ2),(40,.v τ2)]
abbrev e6k:List (Nat×Sb):=[(1006,.cells [.v τ2,.v .str,.v .str,.v τ11,.v (.sl V6),.v τ2,.v .str,.v τ2,.v τ11,.v (.sl τ5),.v τ6,.v τ6,.v τ2])]
def e7E(x1:Int)(x0:List GStmt)(c15:Int)(s16:Int)(c38:List (c8×GExpr))(c39:Int)(κ6_0:Int)(κ6_1:c8)(κ6_2:c8)(κ6_3:List c8)(κ6_4:List (c8×GExpr))(κ6_5:Int)(κ6_6:c8)(κ6_7:Int)(κ6_8:List c8)(κ6_9:List GExpr)(κ6_10:List GStmt)(κ6_11:List GStmt)(κ6_12:Int)(s40:Int):St:=⟨70,[(1,.v τ2 x1),(6,.box 1006 0),(14,.v τ6 x0),(15,.v τ2 c15),(16,.v τ2 s16),(38,.v (.sl V6) c38),(39,.v τ2 c39),(40,.v τ2 s40)],[(1006,.cells [.v τ2 κ6_0,.v .str κ6_1,.v .str κ6_2,.v τ11 κ6_3,.v (.sl V6) κ6_4,.v τ2 κ6_5,.v .str κ6_6,.v τ2 κ6_7,.v τ11 κ6_8,.v (.sl τ5) κ6_9,.v τ6 κ6_10,.v τ6 κ6_11,.v τ2 κ6_12])]⟩
def e5A(x1:Int)(x0:List GStmt)(c15:Int)(s16:Int)(_c38:List (c8×GExpr))(_c39:Int)(κ6_0:Int)(κ6_1:c8)(κ6_2:c8)(κ6_3:List c8)(κ6_4:List (c8×GExpr))(κ6_5:Int)(κ6_6:c8)(κ6_7:Int)(κ6_8:List c8)(κ6_9:List GExpr)(κ6_10:List GStmt)(κ6_11:List GStmt)(κ6_12:Int):St:=⟨70,[(1,.v τ2 x1),(6,.box 1006 0),(14,.v τ6 x0),(15,.v τ2 c15),(16,.v τ2 s16)],[(1006,.cells [.v τ2 κ6_0,.v .str κ6_1,.v .str κ6_2,.v τ11 κ6_3,.v (.sl V6) κ6_4,.v τ2 κ6_5,.v .str κ6_6,.v τ2 κ6_7,.v τ11 κ6_8,.v (.sl τ5) κ6_9,.v τ6 κ6_10,.v τ6 κ6_11,.v τ2 κ6_12])]⟩
def f3G(N:Nat)(b8:ρ13)(x1:Int)(x0:List GStmt)(c15:Int)(s16:Int)(c38:List (c8×GExpr))(c39:Int)(κ6_0:Int)(κ6_1:c8)(κ6_2:c8)(κ6_3:List c8)(κ6_4:List (c8×GExpr))(κ6_5:Int)(κ6_6:c8)(κ6_7:Int)(κ6_8:List c8)(κ6_9:List GExpr)(κ6_10:List GStmt)(κ6_11:List GStmt)(κ6_12:Int)(s40:Int)(k:Ex->St->Option Int):Option Int:=e7b N b8 x1 c38 c39 (k (.exit 2) (e5A x1 x0 c15 s16 c38 c39 κ6_0 κ6_1 κ6_2 κ6_3 κ6_4 κ6_5 κ6_6 κ6_7 κ6_8 κ6_9 κ6_10 κ6_11 κ6_12)) N s40
abbrev f0z(N:Nat)(b8:ρ13):FV e6l->HV e6k->(Ex->St->Option Int)->Option Int:=fun x y k=>f3G N b8 x.1 x.2.2.1 x.2.2.2.1 x.2.2.2.2.1 x.2.2.2.2.2.1 x.2.2.2.2.2.2.1 y.1.1 y.1.2.1 y.1.2.2.1 y.1.2.2.2.1 y.1.2.2.2.2.1 y.1.2.2.2.2.2.1 y.1.2.2.2.2.2.2.1 y.1.2.2.2.2.2.2.2.1 y.1.2.2.2.2.2.2.2.2.1 y.1.2.2.2.2.2.2.2.2.2.1 y.1.2.2.2.2.2.2.2.2.2.2.1 y.1.2.2.2.2.2.2.2.2.2.2.2.1 y.1.2.2.2.2.2.2.2.2.2.2.2.2.1 x.2.2.2.2.2.2.2.1 k
abbrev e6j:List (Nat×Sl):=[(1,.v τ2),(14,.v τ6),(15,.v τ2),(16,.v τ2)]
abbrev e6i:List (Nat×Sb):=[]
def e7D(x1:Int)(x0:List GStmt)(c15:Int)(s16:Int):St:=⟨70,[(1,.v τ2 x1),(14,.v τ6 x0),(15,.v τ2 c15),(16,.v τ2 s16)],[]⟩
def e5z(_x1:Int)(_x0:List GStmt)(_c15:Int):St:=⟨70,[],[]⟩
def f3F(N:Nat)(b8:ρ13)(x1:Int)(x0:List GStmt)(c15:Int)(s16:Int)(k:Ex->St->Option Int):Option Int:=e9o N b8 x1 x0 c15 (k (.exit 0) (e5z x1 x0 c15)) N s16
abbrev f0y(N:Nat)(b8:ρ13):FV e6j->HV e6i->(Ex->St->Option Int)->Option Int:=fun x _ k=>f3F N b8 x.1 x.2.1 x.2.2.1 x.2.2.2.1 k
def e5h(N:Nat)(b8:ρ13):Nat->Code->St->(Ex->St->Option Int)->Option Int:=fun i c=>
 match i with
 |0=>(LPc 70 e6j e6i (f0y N b8) (fun st k=>iter (e2b 0) (V4 (e4W N b8) N c 0) N st k))
 |2=>(LPc 70 e6l e6k (f0z N b8) (fun st k=>iter (e2b 2) (V4 (e4W N b8) N c 2) N st k))
 |i=>fun st k=>iter (e2b i) (V4 (e4W N b8) N c i) N st k
theorem e9G(N:Nat)(b8:ρ13)(x1:Int)(x0:List GStmt)(c15:Int)(s16:Int)(c38:List (c8×GExpr))(c39:Int)(κ6_0:Int)(κ6_1:c8)(κ6_2:c8)(κ6_3:List c8)(κ6_4:List (c8×GExpr))(κ6_5:Int)(κ6_6:c8)(κ6_7:Int)(κ6_8:List c8)(κ6_9:List GExpr)(κ6_10:List GStmt)(κ6_11:List GStmt)(κ6_12:Int)(KX:Nat->St->Option Int)(I:St->Option Int)(s40:Int):
  a0b (e5h N b8) (e4W N b8) e7F 2 (e7E x1 x0 c15 s16 c38 c39 κ6_0 κ6_1 κ6_2 κ6_3 κ6_4 κ6_5 κ6_6 κ6_7 κ6_8 κ6_9 κ6_10 κ6_11 κ6_12 s40) (p6 (e2b 2) I KX (e65 N b8))=e5X N b8 x1 c38 c39 (KX 2 (e5A x1 x0 c15 s16 c38 c39 κ6_0 κ6_1 κ6_2 κ6_3 κ6_4 κ6_5 κ6_6 κ6_7 κ6_8 κ6_9 κ6_10 κ6_11 κ6_12)) (fun s40=>I (e7E x1 x0 c15 s16 c38 c39 κ6_0 κ6_1 κ6_2 κ6_3 κ6_4 κ6_5 κ6_6 κ6_7 κ6_8 κ6_9 κ6_10 κ6_11 κ6_12 s40)) s40:=by kernel_rfl
theorem f1K(N:Nat)(b8:ρ13):∀x y k,(∀st,k .ret st=(e65 N b8) st)->iter (e2b 2) (V4 (e4W N b8) N e7F 2) N ⟨70,Y7 e6l x,Y8 e6k y⟩ k=f0z N b8 x y k:=fun x y k hk=>
 j9 (S:=(Int)×Unit) (e2b 2) _ (a0b (e5h N b8) (e4W N b8) e7F 2) (e65 N b8) (k9 _ _ N _ e7F 2 (show LoopsOk (e5h N b8) (e4W N b8) N (e65 N b8) []from trivial)) (fun s=>e7E x.1 x.2.2.1 x.2.2.2.1 x.2.2.2.2.1 x.2.2.2.2.2.1 x.2.2.2.2.2.2.1 y.1.1 y.1.2.1 y.1.2.2.1 y.1.2.2.2.1 y.1.2.2.2.2.1 y.1.2.2.2.2.2.1 y.1.2.2.2.2.2.2.1 y.1.2.2.2.2.2.2.2.1 y.1.2.2.2.2.2.2.2.2.1 y.1.2.2.2.2.2.2.2.2.2.1 y.1.2.2.2.2.2.2.2.2.2.2.1 y.1.2.2.2.2.2.2.2.2.2.2.2.1 y.1.2.2.2.2.2.2.2.2.2.2.2.2.1 s.1) k hk
  (fun self s=>e5X N b8 x.1 x.2.2.2.2.2.1 x.2.2.2.2.2.2.1 (k (.exit 2) (e5A x.1 x.2.2.1 x.2.2.2.1 x.2.2.2.2.1 x.2.2.2.2.2.1 x.2.2.2.2.2.2.1 y.1.1 y.1.2.1 y.1.2.2.1 y.1.2.2.2.1 y.1.2.2.2.2.1 y.1.2.2.2.2.2.1 y.1.2.2.2.2.2.2.1 y.1.2.2.2.2.2.2.2.1 y.1.2.2.2.2.2.2.2.2.1 y.1.2.2.2.2.2.2.2.2.2.1 y.1.2.2.2.2.2.2.2.2.2.2.1 y.1.2.2.2.2.2.2.2.2.2.2.2.1 y.1.2.2.2.2.2.2.2.2.2.2.2.2.1)) (fun s40=>self (s40,())) s.1) (fun n s=>e7b N b8 x.1 x.2.2.2.2.2.1 x.2.2.2.2.2.2.1 (k (.exit 2) (e5A x.1 x.2.2.1 x.2.2.2.1 x.2.2.2.2.1 x.2.2.2.2.2.1 x.2.2.2.2.2.2.1 y.1.1 y.1.2.1 y.1.2.2.1 y.1.2.2.2.1 y.1.2.2.2.2.1 y.1.2.2.2.2.2.1 y.1.2.2.2.2.2.2.1 y.1.2.2.2.2.2.2.2.1 y.1.2.2.2.2.2.2.2.2.1 y.1.2.2.2.2.2.2.2.2.2.1 y.1.2.2.2.2.2.2.2.2.2.2.1 y.1.2.2.2.2.2.2.2.2.2.2.2.1 y.1.2.2.2.2.2.2.2.2.2.2.2.2.1)) n s.1) (fun _=>rfl) (fun _ _=>rfl)
  (fun I s=>e9G N b8 x.1 x.2.2.1 x.2.2.2.1 x.2.2.2.2.1 x.2.2.2.2.2.1 x.2.2.2.2.2.2.1 y.1.1 y.1.2.1 y.1.2.2.1 y.1.2.2.2.1 y.1.2.2.2.2.1 y.1.2.2.2.2.2.1 y.1.2.2.2.2.2.2.1 y.1.2.2.2.2.2.2.2.1 y.1.2.2.2.2.2.2.2.2.1 y.1.2.2.2.2.2.2.2.2.2.1 y.1.2.2.2.2.2.2.2.2.2.2.1 y.1.2.2.2.2.2.2.2.2.2.2.2.1 y.1.2.2.2.2.2.2.2.2.2.2.2.2.1 (fun j=>k (.exit j)) I s.1) N (x.2.2.2.2.2.2.2.1,())
theorem f1L(N:Nat)(b8:ρ13):F7 (e5h N b8) (e4W N b8) N (e65 N b8) 2 e7F:=fun st k hk=>p8 70 e6l e6k _ _ (e65 N b8) (f1K N b8) _ st k hk (rfl)
theorem e9F(N:Nat)(b8:ρ13)(x1:Int)(x0:List GStmt)(c15:Int)(KX:Nat->St->Option Int)(I:St->Option Int)(s16:Int):
  a0b (e5h N b8) (e4W N b8) e8I 0 (e7D x1 x0 c15 s16) (p6 (e2b 0) I KX (e65 N b8))=e32 N b8 x1 x0 c15 (KX 0 (e5z x1 x0 c15)) (fun s16=>I (e7D x1 x0 c15 s16)) s16:=by kernel_rfl
theorem f1J(N:Nat)(b8:ρ13):∀x y k,(∀st,k .ret st=(e65 N b8) st)->iter (e2b 0) (V4 (e4W N b8) N e8I 0) N ⟨70,Y7 e6j x,Y8 e6i y⟩ k=f0y N b8 x y k:=fun x _ k hk=>
 j9 (S:=(Int)×Unit) (e2b 0) _ (a0b (e5h N b8) (e4W N b8) e8I 0) (e65 N b8) (k9 _ _ N _ e8I 0 (show LoopsOk (e5h N b8) (e4W N b8) N (e65 N b8) [(2,e7F)]from⟨f1L N b8,trivial⟩)) (fun s=>e7D x.1 x.2.1 x.2.2.1 s.1) k hk
  (fun self s=>e32 N b8 x.1 x.2.1 x.2.2.1 (k (.exit 0) (e5z x.1 x.2.1 x.2.2.1)) (fun s16=>self (s16,())) s.1) (fun n s=>e9o N b8 x.1 x.2.1 x.2.2.1 (k (.exit 0) (e5z x.1 x.2.1 x.2.2.1)) n s.1) (fun _=>rfl) (fun _ _=>rfl)
  (fun I s=>e9F N b8 x.1 x.2.1 x.2.2.1 (fun j=>k (.exit j)) I s.1) N (x.2.2.2.1,())
theorem f4S(N:Nat)(b8:ρ13):F7 (e5h N b8) (e4W N b8) N (e65 N b8) 0 e8I:=fun st k hk=>p8 70 e6j e6i _ _ (e65 N b8) (f1J N b8) _ st k hk (rfl)
theorem f3H(N:Nat)(b8:ρ13)(x:SV [.v τ6,.v τ2])(y:BV []):F5 (e4W N b8) Tryz.f50 (e0a N b8) f1M (e5h N b8) x y=O8 N b8 x.1 x.2.1:=by kernel_rfl
theorem d1p(N:Nat)(b8:ρ13)(O6:Sound Tryz.prog GW B7 50 (c1y fun x y=>b8 x.1 x.2.1)):Sound Tryz.prog GW B7 50 (e0a N b8):=
 a2A (EnvOk.jk (y6 e2b (d1m N b8) _ _ (d1n N b8 O6)) _) Tryz.func50 rfl Tryz.call50 (e0a N b8) f1M (fun _ _=>rfl) N (e5h N b8) (show LoopsOk (e5h N b8) (e4W N b8) N (e65 N b8) [(0,e8I),(2,e7F)]from⟨f4S N b8,f1L N b8,trivial⟩) (f3H N b8)
def D0(N:Nat):Nat->(List GStmt)->Int->Option (Int)|0=>fun _ _=>none|d+1=>O8 N (D0 N d)
theorem c1z(N:Nat):∀d,Sound Tryz.prog GW B7 50 (c1y fun x y=>D0 N d x.1 x.2.1)
 |0=>Sound.never Tryz.call50 (fun _ _=>rfl)
 |d+1=>d1p N (D0 N d) (c1z N d)
def K8(N:Nat)(x0:List GStmt):Option Int:=f5 (F8 N N x0) fun t4=>br (decide (t4>(50000:Int))) (some (2:Int)) (f5 (D0 N N x0 (0:Int)) fun t7=>some t7)
abbrev e2G:=P4 [.v τ6] [] [.v τ2] [] (Int) fun z=>((z,()),())
abbrev e0u(N:Nat):AF:=e2G fun x _=>K8 N x.1
theorem d2s(N:Nat):P7 22 (e0u N):=
 V5 h0 [(49,e3H fun x _=>F8 N N x.1),(50,c1y fun x _=>D0 N N x.1 x.2.1)] (v8 (a0w N N) (v8 (c1z N N) G7)) Tryz.func22 rfl Tryz.call22 (e0u N) (fun x _=>x.1) (fun _ _=>rfl) N (fun _ _=>by kernel_rfl) rfl
def U8(N:Nat)(x0:c8):Option (List GStmt×Int×Int):=f5 (R9 N x0) fun t14=>br (t14.2.2 !=(0:Int)) (some (([]:List GStmt),t14.2)) (f5 (A1 N t14.1 (x0.length:Int) (-1:Int)) fun t29=>br (!t29.2.2.1) (some (([]:List GStmt),(t29.2.1,(10:Int)))) (br (decide (t29.2.2.2>=(0:Int))) (some (([]:List GStmt),(t29.2.2.2,(2:Int)))) (f5 (K8 N t29.1) fun t46=>br (t46 !=(0:Int)) (some (([]:List GStmt),((0:Int),t46))) (some (t29.1,((0:Int),(0:Int)))))))
abbrev e3G:=P4 [.v .str] [] [.v τ6,.v τ2,.v τ2] [] (List GStmt×Int×Int) fun z=>((z.1,z.2.1,z.2.2,()),())
abbrev b9j(N:Nat):AF:=e3G fun x _=>U8 N x.1
def f6u:Nat->Hint:=fun i=>
 match i with
 |100009=>⟨[1026],[],[],[],[],[]⟩
 |_=>o3
theorem a2b(N:Nat):P7 12 (b9j N):=
 V5 f6u [(7,c1R N),(21,e2M fun _ y=>A1 N y.1.1 y.1.2.1 y.1.2.2.1),(22,e0u N)] (v8 (a28 N) (v8 (c1D N) (v8 (d2s N) G7))) Tryz.func12 rfl Tryz.call12 (b9j N) (fun x _=>(x.1,x.2.1,x.2.2.1)) (fun _ _=>rfl) N (fun _ _=>by kernel_rfl) rfl
def a0l(N:Nat)(x0:c8):Option (List GStmt×Int×Int):=f5 (R9 N x0) fun t14=>br (t14.2.2 !=(0:Int)) (some (([]:List GStmt),t14.2)) (f5 (C2 N t14.1 (x0.length:Int) (-1:Int)) fun t29=>br (!t29.2) (some (([]:List GStmt),(t29.1,(10:Int)))) none)
abbrev e3w:=P4 [.v .str] [] [.v τ6,.v τ2,.v τ2] [] (List GStmt×Int×Int) fun z=>((z.1,z.2.1,z.2.2,()),())
abbrev e0Y(N:Nat):AF:=e3w fun x _=>a0l N x.1
theorem d4y(N:Nat):P7 12 (e0Y N):=
 V5 h0 [(7,c1R N),(21,e2w fun _ y=>C2 N y.1.1 y.1.2.1 y.1.2.2.1)] (v8 (a28 N) (v8 (d2b N) G7)) Tryz.func12 rfl Tryz.call12 (e0Y N) (fun x _=>(x.1,x.2.1,x.2.2.1)) (fun _ _=>rfl) N (fun _ _=>by kernel_rfl) rfl
abbrev a4A:=P4 [.v .str] [] [.v τ6,.v τ2,.v τ2] [] (List GStmt×Int×Int) fun z=>((z.1,z.2.1,z.2.2,()),())
def O7(N:Nat)(s:c8):Option (List GStmt×Int×Int):=match U8 N s with
 |some z=>some z
 |none=>a0l N s
theorem b0r(N:Nat):P7 12 (a4A fun x _=>O7 N x.1):=by
 refine⟨Tryz.call12,fun M w g vs x y z hG hB hfr hz=>?_⟩
 have hz:O7 N x.1=some z:=hz
 unfold O7 at hz
 split at hz
 ·rename_i z' h
  cases hz
  exact(a2b N).2 M w g vs x y z hG hB hfr h
 ·exact(d4y N).2 M w g vs x y z hG hB hfr hz
end
end
section
open Go Go.RowKit Go.ChangeShapes Go.WideShapes
def FitG(RR:(i:RC)->i.den->Prop):(t:Ty)->t.den->Prop | .u8,_=>True | .int k,x=>(Lit.int k x).wf=true | .bool,_=>True | .str,x=>x.length<=maxLen | .sl t,xs=>xs.length<=maxLen/\∀x∈xs,FitG RR t x | .pr a b,x=>FitG RR a x.1/\FitG RR b x.2 | .un,_=>True | .mp _,_=>True | .ptr _,_=>True | .np _,_=>True | .nl,_=>True | .clo _ _,_=>True | .rc i,x=>RR i x
def FitR(i:RC)(x:i.den):Prop:=∀RR:(i:RC)->i.den->Prop,(∀j y,FitG RR j.body (j.un y)->RR j y)->RR i x
def Fit:(t:Ty)->t.den->Prop:=FitG FitR
theorem FitG.mono{RR RR':(i:RC)->i.den->Prop}(hR:∀i x,RR i x->RR' i x):∀(t:Ty) (x:t.den),FitG RR t x->FitG RR' t x
 |.u8,_,h=>h
 |.int _,_,h=>h
 |.bool,_,h=>h
 |.str,_,h=>h
 |.sl t,_,h=>⟨h.1,fun x hx=>FitG.mono hR t x (h.2 x hx)⟩
 |.pr a b,_,h=>⟨FitG.mono hR a _ h.1,FitG.mono hR b _ h.2⟩
 |.un,_,h=>h
 |.mp _,_,h=>h
 |.ptr _,_,h=>h
 |.np _,_,h=>h
 |.nl,_,h=>h
 |.clo _ _,_,h=>h
 |.rc i,x,h=>hR i x h
theorem FitR.intro{i:RC}{x:i.den}(h:Fit i.body (i.un x)):FitR i x:=
 fun RR hc=>hc i x (FitG.mono (fun j y hy=>hy RR hc) _ _ h)
theorem FitR.elim{i:RC}{x:i.den}(h:FitR i x):Fit i.body (i.un x):=
 h (fun j y=>Fit j.body (j.un y)) fun _ _ hy=>FitG.mono (fun _ _ h=>FitR.intro h) _ _ hy
mutual
inductive Deep(P:Program)(R:RC->Option TypeId):Ty->TypeId->Prop where
 |u8 {T:TypeId}:P.underlying T=some (.int .u8)->Deep P R .u8 T
 |int {T:TypeId} {k:IntKind}:P.underlying T=some (.int k)->Deep P R (.int k) T
 |bool {T:TypeId}:P.underlying T=some .bool->Deep P R .bool T
 |str {T:TypeId}:P.underlying T=some .string->Deep P R .str T
 |sl {T e:TypeId} {t:Ty}:P.underlying T=some (.slice e)->P.cellsOf e=t.sz->Deep P R t e->Deep P R (.sl t) T
 |st {T:TypeId} {t:Ty} {fs:Array Field}:P.underlying T=some (.struct fs)->P.cellsOf T=t.sz->t.isAgg=true->DeepF P R t fs.toList 0->Deep P R t T
 |rc {T:TypeId} {i:RC}:R i=some T->Deep P R (.rc i) T
inductive DeepF(P:Program)(R:RC->Option TypeId):Ty->List Field->Nat->Prop where
 |nil {o:Nat}:DeepF P R .un [] o
 |one {t:Ty} {f:Field} {o:Nat}:f.offset=o->P.cellsOf f.type=t.sz->Deep P R t f.type->DeepF P R t [f] o
 |single {t:Ty} {f:Field} {o:Nat}:f.offset=o->P.cellsOf f.type=t.sz->Deep P R t f.type->DeepF P R (.pr t .un) [f] o
 |cons {a b:Ty} {f:Field} {fs:List Field} {o:Nat}:f.offset=o->P.cellsOf f.type=a.sz->Deep P R a f.type->DeepF P R b fs (o+a.sz)->DeepF P R (.pr a b) (f :: fs) o
end
def d8Z(P:Program)(R:RC->Option TypeId):Prop:=∀i T,R i=some T->∃fs,P.underlying T=some (.struct fs)/\P.cellsOf T=i.sz/\DeepF P R i.body fs.toList 0
abbrev M00:Nat->Nat->Prop:=fun _ _=>False
section
variable{H:Type}{enc:TypeId×Value->H}{P:Program}{w:World}{spare:Nat->Bool}{held:Bool}{R:RC->Option TypeId}
theorem b2n{α:Type}{p:Nat->α->Prop}:∀n,(∀i,i<n->∃x,p i x)->∃l:List α,l.length=n/\∀i (h:i<l.length),p i l[i]
 |0,_=>⟨[],rfl,fun i h=>absurd h (Nat.not_lt_zero _)⟩
 |n+1,h=>by
  obtain⟨l,hl,hp⟩:=b2n n fun i hi=>h i (Nat.lt_succ_of_lt hi)
  obtain⟨x,hx⟩:=h n (Nat.lt_succ_self _)
  refine⟨l ++ [x],by simp[hl],fun i hi=>?_⟩
  rcases Nat.lt_or_ge i l.length with h'|h'
  ·rw[List.getElem_append_left h'];exact hp i h'
  ·have:i=l.length:=by simp at hi;omega
   subst this
   simp[hl,hx]
theorem c0c{a:Addr}{n:Nat}{cs:List Value}(h:w.cells? 0 a n=some cs):Pl M00 w a cs:=by
 intro j u hu
 refine⟨?_,id⟩
 unfold World.cells? at h
 rw[if_pos (Nat.zero_le _)]at h
 have hl:=mapM_some_length h
 have hj:j<n:=by
  rcases Nat.lt_or_ge j cs.length with h'|h'
  ·rw[hl,List.length_range]at h';exact h'
  ·rw[List.getElem?_eq_none h']at hu;cases hu
 have:=mapM_some_get h j j (by rw[List.getElem?_range hj])
 rw[this];exact hu
end
theorem d54{P:Program}{f:FuncId}{ps:List Sl}{F:SV ps->BV []->Option Bool}{out:Bool->SV [.v .bool]×BV []}(hout:∀z,(out z).1=(z,()))(hs:Sound P GW B7 f ⟨ps,[],[.v .bool],[],Bool,out,F⟩)
  {W:World} {vs:List Value} {x:SV ps} (hg:GW W) (ha:All2 (RepD0 M00 W g0) (U4 id ps x) vs) (hf:F x ()=some true):Calls P f vs.toArray W fun e W'=>e = .returned (.bool true)/\Ext W W':=by
 refine(hs.2 M00 W g0 vs x () true hg (d5F hg) {args:=ha,res:=fun r blk h=>(by cases h),dom:=fun r gx h=>(by cases h),inj:=fun _ _ _ _ _ h=>(by cases h),low:=fun _ _ _ h=>(by cases h),chg:=fun _ _ _ _ h=>(by cases h),mlt:=fun b o h=>h.elim,row:=fun _ _ _ h=>(by cases h)} hf).mono fun e W' hp=>?_
 obtain⟨vs',g',he,hE,_,hF,_⟩:=hp
 refine⟨?_,hE.ext fun b hb=>?_⟩
 ·have:=hF.args
  rw[hout]at this
  match vs',this with
  |[v],⟨h1,_⟩=>
   have h2:=RepV.plain (t:= .bool) rfl h1
   have h3:[v]=[.bool true]:=h2
   injection h3 with h3
   rw[he,h3]
   rfl
 ·obtain⟨r,x,h,_⟩:=hb
  cases h
end
section
open Go Go.RowKit Go.ChangeShapes Go.WideShapes
def d5z(rb:(i:RC)->i.den->Nat):(t:Ty)->t.den->Nat | .u8,_=>1 | .int _,_=>1 | .bool,_=>1 | .str,x=>x.length+1 | .sl t,xs=>(xs.map (d5z rb t)).sum+1 | .pr a b,x=>d5z rb a x.1+d5z rb b x.2 | .un,_=>0 | .mp _,_=>0 | .ptr _,_=>0 | .np _,_=>0 | .nl,_=>0 | .clo _ _,_=>0 | .rc i,x=>rb i x
def f4M(rb:(i:RC)->i.den->Nat):Prop:=∀i x,rb i (i.mk x)<=d5z rb i.body x+1
def GValue.bulk:GValue->Nat | .mk _ t _ l cs=>1+(t.length+1+(1+((l.map (·.length+1)).sum+1+((cs.attach.map (fun c=>c.1.1.length+1+GValue.bulk c.1.2)).sum+1))))+1
termination_by v=>SizeOf.sizeOf v
decreasing_by
 have:=List.sizeOf_lt_of_mem c.2
 have h2:SizeOf.sizeOf c.1=1+SizeOf.sizeOf c.1.1+SizeOf.sizeOf c.1.2:=by cases c.1;rfl
 simp_wf
 omega
def GExpr.bulk:GExpr->Nat | .mk _ t _ l cs=>1+(t.length+1+(1+((l.map (·.length+1)).sum+1+((cs.attach.map (fun c=>GExpr.bulk c.1)).sum+1))))+1
termination_by v=>SizeOf.sizeOf v
decreasing_by
 have:=List.sizeOf_lt_of_mem c.2
 simp_wf
 omega
def GStmt.bulk:GStmt->Nat | .mk _ n t l a e b f _=>1+(n.length+1+(t.length+1+((l.map (·.length+1)).sum+1+((a.map (fun c=>c.1.length+1+c.2.bulk)).sum+1+(e.bulk+((b.attach.map (fun c=>GStmt.bulk c.1)).sum+1+((f.attach.map (fun c=>GStmt.bulk c.1)).sum+1+1)))))))+1
termination_by v=>SizeOf.sizeOf v
decreasing_by
 all_goals
  have:=List.sizeOf_lt_of_mem c.2
  simp_wf
  omega
def rbC:(i:RC)->i.den->Nat | .value,x=>GValue.bulk x | .expr,x=>GExpr.bulk x | .stmt,x=>GStmt.bulk x | .part,_=>0
theorem e4a{α β:Type}(f:α->β)(l:List α):l.attach.map (fun c=>f c.1)=l.map f:=by
 rw[show(fun c:{x // x∈l}=>f c.1)=f∘Subtype.val from rfl,<-List.map_map,List.attach_map_subtype_val]
theorem f1z:f4M rbC:=by
 intro i x
 cases i with
 |value=>
  obtain⟨k,t,n,l,cs⟩:=x
  have e:GValue.bulk (.mk k t n l cs)=d5z rbC RC.value.body ((k,t,n,l,cs):RC.value.body.den)+1:=by
   rw[GValue.bulk,e4a (fun c:c8×GValue=>c.1.length+1+GValue.bulk c.2) cs];rfl
  exact Nat.le_of_eq e
 |expr=>
  obtain⟨k,t,n,l,cs⟩:=x
  have e:GExpr.bulk (.mk k t n l cs)=d5z rbC RC.expr.body ((k,t,n,l,cs):RC.expr.body.den)+1:=by
   rw[GExpr.bulk,e4a (fun c:GExpr=>GExpr.bulk c) cs];rfl
  exact Nat.le_of_eq e
 |stmt=>
  obtain⟨k,n,t,l,a,e,b,f,p⟩:=x
  have e:GStmt.bulk (.mk k n t l a e b f p)=d5z rbC RC.stmt.body ((k,n,t,l,a,e,b,f,p):RC.stmt.body.den)+1:=by
   rw[GStmt.bulk,e4a (fun c:GStmt=>GStmt.bulk c) b,e4a (fun c:GStmt=>GStmt.bulk c) f];rfl
  exact Nat.le_of_eq e
 |part=>exact Nat.zero_le _
section
variable{H:Type}{enc:TypeId×Value->H}{P:Program}{w:World}{spare:Nat->Bool}{held:Bool}{R:RC->Option TypeId}{rb:(i:RC)->i.den->Nat}
theorem e4G(d:DataW H)(r:List (DataW H)):Rows.uptoBulkAll (d :: r)=Rows.uptoBulk d+Rows.uptoBulkAll r:=by simp[Rows.uptoBulkAll]
theorem e9n:Rows.uptoBulkAll ([]:List (DataW H))=0:=by simp[Rows.uptoBulkAll]
theorem f1C{α:Type}(f:α->Nat):∀(l:List α) (e:List (DataW H×List MemPlace)),l.length=e.length->(∀i (h:i<l.length) (h':i<e.length),f l[i]<=Rows.uptoBulk e[i].1)->(l.map f).sum<=Rows.uptoBulkAll (e.map (·.1))
 |[],e,_,_=>by simp
 |x :: l,[],h,_=>by simp at h
 |x :: l,y :: e,h,hf=>by
  have h0:=hf 0 (by simp) (by simp)
  have ih:=f1C f l e (by simpa using h) (fun i h1 h2=>by have:=hf (i+1) (by simpa using h1) (by simpa using h2);simpa using this)
  simp only[List.map_cons,List.sum_cons,e4G]
  simp only[List.getElem_cons_zero]at h0
  omega
theorem e9d{fuel:Nat}{cs:List Value}
  (ih:∀(t:Ty) (T:TypeId) (cs:List Value) (x:DataW H×List MemPlace),Deep P R t T->DataW.trod enc P w 0 spare held fuel T cs=some x->∃d:t.den,RepC M00 w t d cs/\Fit t d/\d5z rb t d<=Rows.uptoBulk x.1):
  ∀(fs:List Field) (t:Ty) (o:Nat) (xs:List (DataW H×List MemPlace)),DeepF P R t fs o->
   (fs.mapM fun f=>DataW.trod enc P w 0 spare held fuel f.type ((cs.drop f.offset).take (P.cellsOf f.type)))=some xs->∃d:t.den,RepC M00 w t d ((cs.drop o).take t.sz)/\Fit t d/\d5z rb t d<=Rows.uptoBulkAll (xs.map (·.1)):=by
 intro fs
 induction fs with
 |nil=>
  intro t o xs hd _
  cases hd
  exact⟨(),List.take_zero,trivial,Nat.zero_le _⟩
 |cons f fs hfs=>
  intro t o xs hd hm
  obtain⟨y,ys,hy,hys,rfl⟩:∃y ys,DataW.trod enc P w 0 spare held fuel f.type ((cs.drop f.offset).take (P.cellsOf f.type))=some y/\(fs.mapM fun f=>DataW.trod enc P w 0 spare held fuel f.type ((cs.drop f.offset).take (P.cellsOf f.type)))=some ys/\xs=y :: ys:=by
   rw[List.mapM_cons]at hm
   cases hy:DataW.trod enc P w 0 spare held fuel f.type ((cs.drop f.offset).take (P.cellsOf f.type))with
   |none=>rw[hy]at hm;cases hm
   |some y=>
    rw[hy]at hm
    cases hys:(fs.mapM fun f=>DataW.trod enc P w 0 spare held fuel f.type ((cs.drop f.offset).take (P.cellsOf f.type)))with
    |none=>rw[hys]at hm;cases hm
    |some ys=>rw[hys]at hm;exact⟨y,ys,rfl,rfl,(Option.some.inj hm).symm⟩
  rw[List.map_cons,e4G]
  cases hd with
  |one ho hc h1=>
   rw[ho,hc]at hy
   obtain⟨d,h1,h2,h3⟩:=ih _ _ _ _ h1 hy
   exact⟨d,h1,h2,by omega⟩
  |single ho hc h1=>
   rw[ho,hc]at hy
   obtain⟨d,hd1,hd2,hd3⟩:=ih _ _ _ _ h1 hy
   refine⟨(d,()),⟨_,[],(List.append_nil _).symm,hd1,rfl⟩,⟨hd2,trivial⟩,?_⟩
   show d5z rb _ d+0<=_
   omega
  |@cons a b _ _ _ ho hc h1 h2=>
   rw[ho,hc]at hy
   obtain⟨d,hd1,hd2,hd3⟩:=ih _ _ _ _ h1 hy
   obtain⟨e,he1,he2,he3⟩:=hfs _ _ _ h2 hys
   refine⟨(d,e),⟨_,_,?_,hd1,he1⟩,⟨hd2,he2⟩,?_⟩
   ·show(cs.drop o).take (a.sz+b.sz)=_
    rw[List.take_add,List.drop_drop]
   ·show d5z rb a d+d5z rb b e<=_
    omega
theorem f1a(hR:d8Z P R)(hrb:f4M rb):∀(fuel:Nat) (t:Ty) (T:TypeId) (cs:List Value) (x:DataW H×List MemPlace),Deep P R t T->DataW.trod enc P w 0 spare held fuel T cs=some x->
  ∃d:t.den,RepC M00 w t d cs/\Fit t d/\d5z rb t d<=Rows.uptoBulk x.1:=by
 intro fuel
 induction fuel with
 |zero=>intro t T cs x _ h;cases h
 |succ fuel ih=>
  intro t T cs x hd h
  have hstruct:∀(t:Ty) (fs:Array Field),P.underlying T=some (.struct fs)->P.cellsOf T=t.sz->DeepF P R t fs.toList 0->∃d:t.den,RepC M00 w t d cs/\Fit t d/\d5z rb t d+1<=Rows.uptoBulk x.1:=fun t fs hu hc hf=>by
   unfold DataW.trod at h
   simp only[hu]at h
   split at h
   ·rename_i hl
    cases hm:(fs.toList.mapM fun f=>DataW.trod enc P w 0 spare held fuel f.type ((cs.drop f.offset).take (P.cellsOf f.type)))with
    |none=>rw[hm]at h;cases h
    |some xs=>
     rw[hm]at h
     obtain⟨d,h1,h2,h3⟩:=e9d ih fs.toList t 0 xs hf hm
     rw[List.drop_zero,List.take_of_length_le (by omega)]at h1
     refine⟨d,h1,h2,?_⟩
     injection h with h
     subst h
     simp only[Rows.uptoBulk]
     omega
   ·cases h
  cases hd with
  |u8 hu=>
   have hx:∃n,cs=[.int .u8 n]/\(Lit.int .u8 n).wf=true/\x.1 = .lit (.int .u8 n):=by
    unfold DataW.trod at h
    split at h
    all_goals try (simp_all;done)
    rename_i k' n hu2
    rw[hu]at hu2
    cases hu2
    split at h
    ·rename_i hc
     obtain⟨rfl,hc⟩:=hc
     exact⟨n,rfl,hc,by injection h with h;rw[<-h]⟩
    ·cases h
   obtain⟨n,rfl,hn,hx⟩:=hx
   refine⟨UInt8.ofNat n.toNat,?_,trivial,by rw[hx];simp[Rows.uptoBulk,d5z]⟩
   show [Value.int .u8 n]=[Value.int .u8 (UInt8.ofNat n.toNat).toNat]
   simp[Lit.wf,IntKind.min,IntKind.max,IntKind.signed,IntKind.bits]at hn
   have:((UInt8.ofNat n.toNat).toNat:Int)=n:=by simp;omega
   rw[this]
  |@int _ k hu=>
   have hx:∃n,cs=[.int k n]/\(Lit.int k n).wf=true/\x.1 = .lit (.int k n):=by
    unfold DataW.trod at h
    split at h
    all_goals try (simp_all;done)
    rename_i k1 k' n hu2
    rw[hu]at hu2
    cases hu2
    split at h
    ·rename_i hc
     obtain⟨rfl,hc⟩:=hc
     exact⟨n,rfl,hc,by injection h with h;rw[<-h]⟩
    ·cases h
   obtain⟨n,rfl,hn,hx⟩:=hx
   exact⟨n,rfl,hn,by rw[hx];simp[Rows.uptoBulk,d5z]⟩
  |bool hu=>
   have hx:∃b,cs=[.bool b]/\x.1 = .lit (.bool b):=by
    unfold DataW.trod at h
    split at h
    all_goals try (simp_all;done)
    injection h with h
    exact⟨_,rfl,by rw[<-h]⟩
   obtain⟨b,rfl,hx⟩:=hx
   exact⟨b,rfl,trivial,by rw[hx];simp[Rows.uptoBulk,d5z]⟩
  |str hu=>
   have hx:∃s:ByteArray,cs=[.string s]/\s.size<=maxLen/\x.1 = .lit (.string s.data.toList):=by
    unfold DataW.trod at h
    split at h
    all_goals try (simp_all;done)
    split at h
    ·rename_i hc
     injection h with h
     exact⟨_,rfl,hc,by rw[<-h]⟩
    ·cases h
   obtain⟨s,rfl,hn,hx⟩:=hx
   refine⟨s.data.toList,?_,?_,by rw[hx];simp[Rows.uptoBulk,d5z]⟩
   ·show [Value.string s]=[Value.string ⟨s.data.toList.toArray⟩]
    simp
   ·show s.data.toList.length<=maxLen
    simpa using hn
  |@sl _ e t hu hc he=>
   have hx:(cs=[.slice none 0 0]/\x.1 = .nil)\/∃a len cap elems rest,cs=[.slice (some a) len cap]/\len<=cap/\cap<=maxLen/\
     ((List.range len).mapM fun i=>(w.cells? 0 (a.add (i*P.cellsOf e)) (P.cellsOf e)).bind (DataW.trod enc P w 0 spare held fuel e))=some elems/\x.1 = .slice (elems.map (·.1)) rest:=by
    unfold DataW.trod at h
    split at h
    all_goals try (simp_all;done)
    ·injection h with h
     exact .inl ⟨rfl,by rw[<-h]⟩
    ·rename_i hu2
     rw[hu]at hu2
     cases hu2
     simp only at h
     split at h
     ·rename_i hb
      right
      cases hm:((List.range _).mapM fun i=>(w.cells? 0 (Addr.add _ (i*P.cellsOf e)) (P.cellsOf e)).bind (DataW.trod enc P w 0 spare held fuel e))with
      |none=>rw[hm]at h;cases h
      |some ys=>
       rw[hm]at h
       simp only[Option.bind_some,Option.map_eq_some_iff]at h
       obtain⟨rest,_,h⟩:=h
       exact⟨_,_,_,ys,rest.map (·.1),rfl,hb.2.1,hb.2.2,hm,by rw[<-h]⟩
     ·cases h
   rcases hx with⟨rfl,hx⟩|⟨a,len,cap,elems,rest,rfl,h1,h2,hm,hx⟩
   ·refine⟨[],⟨none,0,rfl,Nat.le_refl _,Nat.zero_le _,fun i h=>absurd h (Nat.not_lt_zero _)⟩,⟨Nat.zero_le _,fun x h=>(by cases h)⟩,?_⟩
    rw[hx];simp[Rows.uptoBulk,d5z]
   ·have hl:=mapM_some_length hm
    rw[List.length_range]at hl
    have hall:∀i,i<len->∃d:t.den,(∃es,RepC M00 w t d es/\Pl M00 w (a.add (i*t.sz)) es)/\Fit t d/\∀h:i<elems.length,d5z rb t d<=Rows.uptoBulk elems[i].1:=fun i hi=>by
     have hi':i<elems.length:=by omega
     have hy:=mapM_some_get hm i i (by rw[List.getElem?_range hi])
     rw[List.getElem?_eq_getElem hi']at hy
     simp only[hc]at hy
     cases hcs:w.cells? 0 (a.add (i*t.sz)) t.sz with
     |none=>rw[hcs]at hy;cases hy
     |some es=>
      rw[hcs]at hy
      obtain⟨d,hd1,hd2,hd3⟩:=ih _ _ _ _ he hy
      exact⟨d,⟨es,hd1,c0c hcs⟩,hd2,fun _=>hd3⟩
    obtain⟨l,hll,hp⟩:=b2n len hall
    refine⟨l,⟨some a,cap,?_,by omega,h2,fun i hi=>?_⟩,⟨?_,fun x hx=>?_⟩,?_⟩
    ·rw[hll]
    ·obtain⟨⟨es,e1,e2⟩,_⟩:=hp i hi
     exact⟨a,es,rfl,e1,e2⟩
    ·show l.length<=maxLen;omega
    ·obtain⟨i,hi,rfl⟩:=List.getElem_of_mem hx
     exact(hp i hi).2.1
    ·rw[hx]
     simp only[Rows.uptoBulk,d5z]
     have:=f1C (d5z rb t) l elems (by omega) (fun i h1 h2=>(hp i h1).2.2 h2)
     omega
  |st hu hc ha hf=>
   obtain⟨d,h1,h2,h3⟩:=hstruct t _ hu hc hf
   exact⟨d,h1,h2,by omega⟩
  |rc hr=>
   obtain⟨fs,hu,hc,hf⟩:=hR _ _ hr
   rename_i i
   obtain⟨d,h1,h2,h3⟩:=hstruct i.body fs hu (by rw[hc,RC.sz_body]) hf
   refine⟨i.mk d,RepC.rc.2 (by rw[RC.un_mk];exact h1),FitR.intro (by rw[RC.un_mk];exact h2),?_⟩
   have:=hrb i d
   show rb i (i.mk d)<=_
   omega
theorem e8C(hR:d8Z P R)(hrb:f4M rb){r:Reach}{base:Nat}{t:Ty}{T:TypeId}{v:Value}{d:DataW H}{p:List MemPlace}(hd:Deep P R t T)(hv:Value.okWide P w r base T v)(h:DataW.Trod enc P w 0 spare held T v d p):
  ∃x:t.den,RepV M00 w t x v/\Fit t x/\d5z rb t x<=Rows.uptoBulk d:=by
 obtain⟨fuel,hf⟩:=h
 obtain⟨x,h1,h2,h3⟩:=f1a hR hrb fuel t T _ _ hd hf
 refine⟨x,⟨_,h1,?_⟩,h2,h3⟩
 have hagg:∀fs,P.underlying T=some (.struct fs)->t.isAgg=true->v=mkV t v.cells.toList:=fun fs hu ha=>by
  obtain⟨cs,rfl,_⟩:=okWide_struct hu hv
  rw[a0S ha]
  simp[Value.cells]
 have hone:∀c:Value,v=c->c.cells = #[c]->t.isAgg=false->v=mkV t v.cells.toList:=fun c e hc ha=>by
  subst e
  rw[hc,U5 ha]
 cases hd with
 |u8 hu=>obtain⟨n,rfl⟩:=okWide_int hu hv;exact hone _ rfl rfl rfl
 |int hu=>obtain⟨n,rfl⟩:=okWide_int hu hv;exact hone _ rfl rfl rfl
 |bool hu=>obtain⟨n,rfl⟩:=okWide_bool hu hv;exact hone _ rfl rfl rfl
 |str hu=>obtain⟨n,rfl⟩:=okWide_string hu hv;exact hone _ rfl rfl rfl
 |sl hu _ _=>obtain⟨a,l,c,rfl⟩:=okWide_slice hu hv;exact hone _ rfl rfl rfl
 |st hu _ ha _=>exact hagg _ hu ha
 |rc hr=>obtain⟨fs,hu,_⟩:=hR _ _ hr;exact hagg _ hu rfl
end
end
end Go.Proofs.YtolpmfhiegpohaaGreatDoor
