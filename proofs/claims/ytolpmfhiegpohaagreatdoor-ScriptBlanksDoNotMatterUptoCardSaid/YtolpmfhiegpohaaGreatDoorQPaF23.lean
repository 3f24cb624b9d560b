/- What functions of the program compute, as plain functions (printed). -/
import Derived.Test.YtolpmfhiegpohaaGreatDoorQPaF22
namespace Go.Proofs.YtolpmfhiegpohaaGreatDoor
open Go Go.RowKit
set_option maxRecDepth 100000
set_option linter.unusedVariables false
noncomputable section
variable(N:Nat)
def T7(b:List c8):Option (List c8×List c8):=f5 (S2 N b) fun a=>f5 (u0 a.2) fun c=>some (a.1,c)
abbrev e2F:=P4 [.fnc 226 [0]] [.cells [.v τ11]] [.row 1] [.cells [.v τ11],.row 9 .str true] (List c8×List c8) fun z=>(((),()),((z.1,()),z.2,()))
abbrev e0t:AF:=e2F fun _ y=>T7 N y.1.1
theorem d2r:P7 182 (e0t N):=
 V5 h0 [(224,e0k N),(225,a1a fun _ y=>u0 y.1)] (v8 (d15 N) (v8 (P2) G7)) Tryz.func182 rfl Tryz.call182 (e0t N) (fun _ y=>(y.1.1,y.2.1)) (fun _ _=>rfl) N (fun _ _=>by kernel_rfl) rfl
def j8(_N:Nat)(a:List c8):Option τ17:=br ((a).isEmpty) (n7 (some ([]:List c8)) (br (decide ((([]:List c8).length+a.length)*(24*Ty.sz .str)<=140737488355328)) (some ([]++a)) none)) (br (decide ((([]:List c8).length+a.length)*(24*Ty.sz .str)<=140737488355328)) (some ([]++a)) none)
abbrev slices_Clone_string_string_sg(f:SV [.v τ11]->BV []->Option τ17):AF:={ps:=[.v τ11],bs:=[],rs:=[.row 0],cs:=[.row 9 .str true],R:=List c8,out:=fun z=>(((),()),(z,())),f:=f}
abbrev o5:SV [.row 0]->BV [.row 9 .str true]->τ17:=fun _ y=>y.1
def o4(_N:Nat):FuncId->Option Tmp->Option AF:=fun f _=>
 match f with
  |_=>none
theorem G3:∀f q F,o4 N f q=some F->Sound Tryz.prog GW B7 f F:=by
 intro f q F h
 unfold o4 at h
 split at h
 ·cases h
def s9:Nat->Hint:=fun i=>
 match i with
 |_=>o3
abbrev m6:Env:=S9 s9 (o4 N) (fun i=>match i with|2=>true|5=>true|_=>false) (fun _=>false)
def a0c:Nat->Code->St->(Ex->St->Option τ17)->Option τ17:=fun i c=>
 match i with
 |i=>fun st k=>iter (s9 i) (V4 (m6 N) N c i) N st k
theorem H3(x:SV [.v τ11])(y:BV []):F5 (m6 N) Tryz.f185 (slices_Clone_string_string_sg fun x _=>j8 N x.1) o5 (a0c N) x y=j8 N x.1:=by kernel_rfl
theorem G4:Sound Tryz.prog GW B7 185 (slices_Clone_string_string_sg fun x _=>j8 N x.1):=
 a1T (y6 s9 (o4 N) _ _ (G3 N)) Tryz.func185 rfl Tryz.call185 (slices_Clone_string_string_sg fun x _=>j8 N x.1) o5 (fun _ _=>rfl) N (fun x y _ h=>((a3y (m6 N) N Tryz.f185 (slices_Clone_string_string_sg fun x _=>j8 N x.1) o5 (a0c N) (show LoopsOk (a0c N) (m6 N) N (A8 (m6 N) Tryz.f185 (slices_Clone_string_string_sg fun x _=>j8 N x.1) o5) []from trivial) x y).trans (H3 N x y)).trans h)
def w8(b:List c8):Option Bool:=f5 (L3 N b) fun c=>f5 (T7 N c) fun a=>f5 (j8 N a.2) fun e=>f5 (t6 e) fun g=>some (decide ((g.length:Int)<(a.2.length:Int)))
abbrev e3I:=P4 [.v τ11] [] [.v .bool] [] (Bool) fun z=>((z,()),())
abbrev d7W:AF:=e3I fun x _=>w8 N x.1
def f3i:FuncId->Option Tmp->Option AF:=fun f _=>O5 [(182,e0t N),(183,z8g N),(184,a0x fun _ y=>t6 y.1),(185,slices_Clone_string_string_sg fun x _=>j8 N x.1)] f
theorem f3j:I8 (f3i N):=fun _ _ _ h=>o6 h (v8 (d2r N) (v8 (c6z N) (v8 (Y4) (v8 (G4 N) G7))))
def f5Z:Nat->Hint:=fun i=>
 match i with
 |_=>o3
abbrev f6v:Env:=S9 f5Z (f3i N) FF FF |>.jk (fun _=>none)
theorem c1T:P7 145 (d7W N):=
 a1W (f6v N) (EnvOk.jk (y6 f5Z (f3i N) _ _ (f3j N)) _) Tryz.func145 rfl Tryz.call145 (d7W N) (fun x _=>x.1) (fun _ _=>rfl) N (fun _ _=>by kernel_rfl) rfl
def J7(a:GStmt)(x1:Int):Option Int:=br (decide (x1>=30)) (some (2:Int)) (f5 (br (decide (a.kind<1)) (some true) (some (decide (a.kind>6)))) fun ai=>br (ai) (some (4:Int)) (n7 (f5 (F9 N (GStmt.mk a.kind a.name a.text a.params a.args (GExpr.mk a.expr.kind a.expr.text a.expr.number a.expr.keys a.expr.kids) a.body a.els a.at_)) fun b=>j0 1 (f5 (Q2 N (GStmt.mk a.kind a.name a.text a.params a.args (GExpr.mk a.expr.kind a.expr.text a.expr.number a.expr.keys a.expr.kids) a.body a.els a.at_)) fun c=>br (b.1) (f5 (G8 N a.name) fun e=>br (e) (some (5:Int)) (f5 (br (b.2.2.1) (f5 (k8 N a.params ()) fun g=>some g) (some false)) fun l=>br (l) (some (5:Int)) (f5 (br (b.2.2.2.1) (f5 (k8 N c ()) fun m=>some m) (some false)) fun o=>br (o) (some (5:Int)) (f5 (br (!b.1) (some (!(a.name==[]))) (some false)) fun p=>br (p) (some (3:Int)) (f5 (br (!b.2.1) (some (!(a.text==[]))) (some false)) fun q=>br (q) (some (3:Int)) (f5 (br (!b.2.2.1) (some (decide ((a.params.length:Int)>0))) (some false)) fun r=>br (r) (some (3:Int)) (f5 (br (!b.2.2.2.1) (some (decide ((c.length:Int)>0))) (some false)) fun t=>br (t) (some (3:Int)) (f5 (br (!b.2.2.2.2.1) (f5 (I7 N (GExpr.mk a.expr.kind a.expr.text a.expr.number a.expr.keys a.expr.kids)) fun u=>some (!u)) (some false)) fun v=>br (v) (some (3:Int)) (f5 (br (!b.2.2.2.2.2.1) (some (decide ((a.body.length:Int)>0))) (some false)) fun w=>br (w) (some (3:Int)) (f5 (br (!b.2.2.2.2.2.2) (some (decide ((a.els.length:Int)>0))) (some false)) fun B=>br (B) (some (3:Int)) (f5 (x5 N a.text) fun C=>br (!C) (some (3:Int)) (f5 (br (decide ((a.params.length:Int)>30)) (some true) (some (decide ((c.length:Int)>30)))) fun D=>br (D) (some (2:Int)) (f5 (f5 (w8 N a.params) fun E=>br (E) (some true) (f5 (w8 N c) fun H=>some H)) fun J=>br (J) (some (7:Int)) (some (0:Int))))))))))))))) (f5 (br (b.2.2.1) (f5 (k8 N a.params ()) fun K=>some K) (some false)) fun L=>br (L) (some (5:Int)) (f5 (br (b.2.2.2.1) (f5 (k8 N c ()) fun O=>some O) (some false)) fun Q=>br (Q) (some (5:Int)) (f5 (br (!b.1) (some (!(a.name==[]))) (some false)) fun R=>br (R) (some (3:Int)) (f5 (br (!b.2.1) (some (!(a.text==[]))) (some false)) fun T=>br (T) (some (3:Int)) (f5 (br (!b.2.2.1) (some (decide ((a.params.length:Int)>0))) (some false)) fun U=>br (U) (some (3:Int)) (f5 (br (!b.2.2.2.1) (some (decide ((c.length:Int)>0))) (some false)) fun V=>br (V) (some (3:Int)) (f5 (br (!b.2.2.2.2.1) (f5 (I7 N (GExpr.mk a.expr.kind a.expr.text a.expr.number a.expr.keys a.expr.kids)) fun W=>some (!W)) (some false)) fun Y=>br (Y) (some (3:Int)) (f5 (br (!b.2.2.2.2.2.1) (some (decide ((a.body.length:Int)>0))) (some false)) fun aa=>br (aa) (some (3:Int)) (f5 (br (!b.2.2.2.2.2.2) (some (decide ((a.els.length:Int)>0))) (some false)) fun ab=>br (ab) (some (3:Int)) (f5 (x5 N a.text) fun ac=>br (!ac) (some (3:Int)) (f5 (br (decide ((a.params.length:Int)>30)) (some true) (some (decide ((c.length:Int)>30)))) fun ad=>br (ad) (some (2:Int)) (f5 (f5 (w8 N a.params) fun ae=>br (ae) (some true) (f5 (w8 N c) fun af=>some af)) fun ag=>br (ag) (some (7:Int)) (some (0:Int)))))))))))))))) (f5 (F9 N (GStmt.mk a.kind a.name a.text a.params a.args (GExpr.mk a.expr.kind a.expr.text a.expr.number a.expr.keys a.expr.kids) a.body a.els a.at_)) fun b=>f5 (Q2 N (GStmt.mk a.kind a.name a.text a.params a.args (GExpr.mk a.expr.kind a.expr.text a.expr.number a.expr.keys a.expr.kids) a.body a.els a.at_)) fun c=>br (b.1) (f5 (G8 N a.name) fun e=>br (e) (some (5:Int)) (f5 (br (b.2.2.1) (f5 (k8 N a.params ()) fun g=>some g) (some false)) fun l=>br (l) (some (5:Int)) (f5 (br (b.2.2.2.1) (f5 (k8 N c ()) fun m=>some m) (some false)) fun o=>br (o) (some (5:Int)) (f5 (br (!b.1) (some (!(a.name==[]))) (some false)) fun p=>br (p) (some (3:Int)) (f5 (br (!b.2.1) (some (!(a.text==[]))) (some false)) fun q=>br (q) (some (3:Int)) (f5 (br (!b.2.2.1) (some (decide ((a.params.length:Int)>0))) (some false)) fun r=>br (r) (some (3:Int)) (f5 (br (!b.2.2.2.1) (some (decide ((c.length:Int)>0))) (some false)) fun t=>br (t) (some (3:Int)) (f5 (br (!b.2.2.2.2.1) (f5 (I7 N (GExpr.mk a.expr.kind a.expr.text a.expr.number a.expr.keys a.expr.kids)) fun u=>some (!u)) (some false)) fun v=>br (v) (some (3:Int)) (f5 (br (!b.2.2.2.2.2.1) (some (decide ((a.body.length:Int)>0))) (some false)) fun w=>br (w) (some (3:Int)) (f5 (br (!b.2.2.2.2.2.2) (some (decide ((a.els.length:Int)>0))) (some false)) fun B=>br (B) (some (3:Int)) (f5 (x5 N a.text) fun C=>br (!C) (some (3:Int)) (f5 (br (decide ((a.params.length:Int)>30)) (some true) (some (decide ((c.length:Int)>30)))) fun D=>br (D) (some (2:Int)) (f5 (f5 (w8 N a.params) fun E=>br (E) (some true) (f5 (w8 N c) fun H=>some H)) fun J=>br (J) (some (7:Int)) (some (0:Int))))))))))))))) (f5 (br (b.2.2.1) (f5 (k8 N a.params ()) fun K=>some K) (some false)) fun L=>br (L) (some (5:Int)) (f5 (br (b.2.2.2.1) (f5 (k8 N c ()) fun O=>some O) (some false)) fun Q=>br (Q) (some (5:Int)) (f5 (br (!b.1) (some (!(a.name==[]))) (some false)) fun R=>br (R) (some (3:Int)) (f5 (br (!b.2.1) (some (!(a.text==[]))) (some false)) fun T=>br (T) (some (3:Int)) (f5 (br (!b.2.2.1) (some (decide ((a.params.length:Int)>0))) (some false)) fun U=>br (U) (some (3:Int)) (f5 (br (!b.2.2.2.1) (some (decide ((c.length:Int)>0))) (some false)) fun V=>br (V) (some (3:Int)) (f5 (br (!b.2.2.2.2.1) (f5 (I7 N (GExpr.mk a.expr.kind a.expr.text a.expr.number a.expr.keys a.expr.kids)) fun W=>some (!W)) (some false)) fun Y=>br (Y) (some (3:Int)) (f5 (br (!b.2.2.2.2.2.1) (some (decide ((a.body.length:Int)>0))) (some false)) fun aa=>br (aa) (some (3:Int)) (f5 (br (!b.2.2.2.2.2.2) (some (decide ((a.els.length:Int)>0))) (some false)) fun ab=>br (ab) (some (3:Int)) (f5 (x5 N a.text) fun ac=>br (!ac) (some (3:Int)) (f5 (br (decide ((a.params.length:Int)>30)) (some true) (some (decide ((c.length:Int)>30)))) fun ad=>br (ad) (some (2:Int)) (f5 (f5 (w8 N a.params) fun ae=>br (ae) (some true) (f5 (w8 N c) fun af=>some af)) fun ag=>br (ag) (some (7:Int)) (some (0:Int)))))))))))))))))
abbrev e3d:=P4 [.v τ16,V0] [] [V0] [] (Int) fun z=>((z,()),())
abbrev c8F:AF:=e3d fun x _=>J7 N x.1 x.2.1
def f2x:FuncId->Option Tmp->Option AF:=fun f _=>O5 [(84,d47 N),(140,f2U N),(141,f3M N),(142,z1g N),(143,c4H N),(144,d4Z N),(145,d7W N)] f
theorem f2y:I8 (f2x N):=fun _ _ _ h=>o6 h (v8 (d49 N) (v8 (c1Q N) (v8 (c1C N) (v8 (d6O N) (v8 (a5x N) (v8 (b6p N) (v8 (c1T N) G7)))))))
def f5T:Nat->Hint:=fun i=>
 match i with
 |100005=>⟨[1002],[],[],[],[],[]⟩
 |_=>o3
abbrev f6p:Env:=S9 f5T (f2x N) FF FF |>.jk (fun i=>match i with|3=>some 17|8=>some 22|9=>some 22|11=>some 46|12=>some 46|13=>some 46|14=>some 46|15=>some 46|16=>some 46|17=>some 46|21=>some 112|23=>some 122|_=>none)
theorem a5u:P7 86 (c8F N):=
 a1W (f6p N) (EnvOk.jk (y6 f5T (f2x N) _ _ (f2y N)) _) Tryz.func86 rfl Tryz.call86 (c8F N) (fun x _=>x.1) (fun _ _=>rfl) N (fun _ _=>by kernel_rfl) rfl
def Q1(a:c8):Option Bool:=f5 (x5 N a) fun b=>some (!b)
abbrev e2e:=P4 [V1] [] [.v .bool] [] (Bool) fun z=>((z,()),())
abbrev e0c:AF:=e2e fun x _=>Q1 N x.1
theorem d1s:P7 186 (e0c N):=
 V5 h0 [(144,d4Z N)] (v8 (b6p N) G7) Tryz.func186 rfl Tryz.call186 (e0c N) (fun x _=>x.1) (fun _ _=>rfl) N (fun _ _=>by kernel_rfl) rfl
def c1B(b:List c8)(c:Int)(k0:Option Int)(self:ρ22)(a:Int):Option Int:=br (decide (a<c)) (f5 (l6 b a) fun e=>f5 (Q1 N e) fun g=>br (g) (some a) (self (IntKind.i64.wrap (a+1)))) (k0)
def d2c(N:Nat)(a:List c8)(b:Int)(k0:Option Int):Nat->Int->Option Int|0,_=>none|n+1,c=>c1B N a b k0 (d2c N a b k0 n) c
def B6(a:List c8)(_b:Unit):Option Int:=d2c N a (a.length:Int) (some (-1:Int)) N 0
abbrev e46:=P4 [.v τ11,.v (.clo 186 .un)] [] [V0] [] (Int) fun z=>((z,()),())
abbrev z2g:AF:=e46 fun x _=>B6 N x.1 x.2.1
abbrev e0r:SV [V0]->BV []->Int:=fun x _=>x.1
def e2x:FuncId->Option Tmp->Option AF:=fun f _=>O5 [(186,e0c N)] f
theorem d6X:I8 (e2x N):=fun _ _ _ h=>o6 h (v8 (d1s N) G7)
def z2h:Nat->Hint:=fun i=>
 match i with
 |0=>⟨[],[0,1,7,8],[],[],[],[]⟩
 |_=>o3
abbrev z2E:Env:=S9 z2h (e2x N) FF FF
abbrev z2R:=A8 (z2E N) Tryz.f181 (z2g N) e0r
abbrev b3b:List (Nat×Sl):=[(0,.v τ11),(1,.v (.clo 186 .un)),(7,V0),(8,V0)]
abbrev b3a:List (Nat×Sb):=[]
def b9h(a:List c8)(b:Unit)(c e:Int):St:=⟨19,[(0,.v τ11 a),(1,.v (.clo 186 .un) b),(7,.v τ2 c),(8,.v τ2 e)],[]⟩
def a9E(_a:List c8)(_b:Unit)(_c:Int):St:=⟨19,[],[]⟩
def e0o(a:List c8)(c:Unit)(b e:Int)(k:Ex->St->Option Int):Option Int:=d2c N a b (k (.exit 0) (a9E a c b)) N e
abbrev d2d:FV b3b->HV b3a->(Ex->St->Option Int)->Option Int:=fun x _ k=>e0o N x.1 x.2.1 x.2.2.1 x.2.2.2.1 k
def c3S:Nat->Code->St->(Ex->St->Option Int)->Option Int:=fun i c=>
 match i with
 |0=>(LPc 19 b3b b3a (d2d N) (fun st k=>iter (z2h 0) (V4 (z2E N) N c 0) N st k))
 |i=>fun st k=>iter (z2h i) (V4 (z2E N) N c i) N st k
theorem c8w(a:List c8)(e:Unit)(b:Int)(KX:Nat->St->Option Int)(I:St->Option Int)(c:Int):
  a0b (c3S N) (z2E N) b2X 0 (b9h a e b c) (p6 (z2h 0) I KX (z2R N))=c1B N a b (KX 0 (a9E a e b)) (fun c=>I (b9h a e b c)) c:=by kernel_rfl
theorem d6W:∀x y k,(∀st,k .ret st=(z2R N) st)->iter (z2h 0) (V4 (z2E N) N b2X 0) N ⟨19,Y7 b3b x,Y8 b3a y⟩ k=d2d N x y k:=fun x _ k hk=>
 j9 (S:=(Int)×Unit) (z2h 0) _ (a0b (c3S N) (z2E N) b2X 0) (z2R N) (k9 _ _ N _ b2X 0 (show LoopsOk (c3S N) (z2E N) N (z2R N) []from trivial)) (fun s=>b9h x.1 x.2.1 x.2.2.1 s.1) k hk
  (fun self s=>c1B N x.1 x.2.2.1 (k (.exit 0) (a9E x.1 x.2.1 x.2.2.1)) (fun a=>self (a,())) s.1) (fun n s=>d2c N x.1 x.2.2.1 (k (.exit 0) (a9E x.1 x.2.1 x.2.2.1)) n s.1) (fun _=>rfl) (fun _ _=>rfl)
  (fun I s=>c8w N x.1 x.2.1 x.2.2.1 (fun j=>k (.exit j)) I s.1) N (x.2.2.2.1,())
theorem e2z:F7 (c3S N) (z2E N) N (z2R N) 0 b2X:=fun st k hk=>p8 19 b3b b3a _ _ (z2R N) (d6W N) _ st k hk (rfl)
theorem e0q(x:SV [.v τ11,.v (.clo 186 .un)])(y:BV []):F5 (z2E N) Tryz.f181 (z2g N) e0r (c3S N) x y=B6 N x.1 x.2.1:=by kernel_rfl
theorem d6Y:P7 181 (z2g N):=
 a1X (d6X N) Tryz.func181 rfl Tryz.call181 (z2g N) e0r (fun _ _=>rfl) N (c3S N) (show LoopsOk (c3S N) (z2E N) N (z2R N) [(0,b2X)]from⟨e2z N,trivial⟩) (e0q N)
def l4(a:List c8)(b:Unit):Option Bool:=f5 (B6 N a b) fun c=>some (decide (c>=0))
abbrev e4T:=P4 [.v τ11,.v (.clo 186 .un)] [] [.v .bool] [] (Bool) fun z=>((z,()),())
abbrev z0g:AF:=e4T fun x _=>l4 N x.1 x.2.1
theorem d6m:P7 142 (z0g N):=
 V5 h0 [(181,z2g N)] (v8 (d6Y N) G7) Tryz.func142 rfl Tryz.call142 (z0g N) (fun x _=>x.1) (fun _ _=>rfl) N (fun _ _=>by kernel_rfl) rfl
def l5(a:GExpr)(b:Int):Option Int:=f5 (br (a.kind==1) (some true) (some (a.kind==3))) fun c=>br (a.kind==1) (br (decide (b>=30)) (some (2:Int)) (f5 (br (decide (a.kind<1)) (some true) (some (decide (a.kind>8)))) fun e=>br (e) (some (4:Int)) (f5 (br (a.kind==3) (f5 (A9 N a.text) fun g=>some (!g)) (some false)) fun l=>br (l) (some (5:Int)) (f5 (br (!c) (some (!(a.text==[]))) (some false)) fun m=>br (m) (some (3:Int)) (f5 (br (a.number !=0) (some (a.kind !=2)) (some false)) fun o=>br (o) (some (3:Int)) (f5 (br (decide ((a.keys.length:Int)>0)) (some (a.kind !=6)) (some false)) fun p=>br (p) (some (3:Int)) (f5 (f5 (x5 N a.text) fun q=>br (!q) (some true) (f5 (l4 N a.keys ()) fun r=>some r)) fun t=>br (t) (some (3:Int)) (f5 (br (decide (a.number<0)) (some true) (some (decide (a.number>999999999)))) fun u=>br (u) (some (3:Int)) (f5 (br (decide ((0: Int)>=0)) (some ((a.kids.length:Int) !=0)) (some false)) fun v=>br (v) (some (3:Int)) (f5 (br (a.kind==6) (br ((a.keys.length:Int) !=(a.kids.length:Int)) (some true) (some ((a.keys.length:Int)==0))) (some false)) fun w=>br (w) (some (3:Int)) (f5 (w8 N a.keys) fun B=>br (B) (some (7:Int)) (some (0:Int))))))))))))) (br (a.kind==2) (br (decide (b>=30)) (some (2:Int)) (f5 (br (decide (a.kind<1)) (some true) (some (decide (a.kind>8)))) fun C=>br (C) (some (4:Int)) (f5 (br (a.kind==3) (f5 (A9 N a.text) fun D=>some (!D)) (some false)) fun E=>br (E) (some (5:Int)) (f5 (br (!c) (some (!(a.text==[]))) (some false)) fun H=>br (H) (some (3:Int)) (f5 (br (a.number !=0) (some (a.kind !=2)) (some false)) fun J=>br (J) (some (3:Int)) (f5 (br (decide ((a.keys.length:Int)>0)) (some (a.kind !=6)) (some false)) fun K=>br (K) (some (3:Int)) (f5 (f5 (x5 N a.text) fun L=>br (!L) (some true) (f5 (l4 N a.keys ()) fun O=>some O)) fun Q=>br (Q) (some (3:Int)) (f5 (br (decide (a.number<0)) (some true) (some (decide (a.number>999999999)))) fun R=>br (R) (some (3:Int)) (f5 (br (decide ((0: Int)>=0)) (some ((a.kids.length:Int) !=0)) (some false)) fun T=>br (T) (some (3:Int)) (f5 (br (a.kind==6) (br ((a.keys.length:Int) !=(a.kids.length:Int)) (some true) (some ((a.keys.length:Int)==0))) (some false)) fun U=>br (U) (some (3:Int)) (f5 (w8 N a.keys) fun V=>br (V) (some (7:Int)) (some (0:Int))))))))))))) (br (a.kind==3) (br (decide (b>=30)) (some (2:Int)) (f5 (br (decide (a.kind<1)) (some true) (some (decide (a.kind>8)))) fun W=>br (W) (some (4:Int)) (f5 (br (a.kind==3) (f5 (A9 N a.text) fun Y=>some (!Y)) (some false)) fun aa=>br (aa) (some (5:Int)) (f5 (br (!c) (some (!(a.text==[]))) (some false)) fun ab=>br (ab) (some (3:Int)) (f5 (br (a.number !=0) (some (a.kind !=2)) (some false)) fun ac=>br (ac) (some (3:Int)) (f5 (br (decide ((a.keys.length:Int)>0)) (some (a.kind !=6)) (some false)) fun ad=>br (ad) (some (3:Int)) (f5 (f5 (x5 N a.text) fun ae=>br (!ae) (some true) (f5 (l4 N a.keys ()) fun af=>some af)) fun ag=>br (ag) (some (3:Int)) (f5 (br (decide (a.number<0)) (some true) (some (decide (a.number>999999999)))) fun ah=>br (ah) (some (3:Int)) (f5 (br (decide ((0: Int)>=0)) (some ((a.kids.length:Int) !=0)) (some false)) fun ai=>br (ai) (some (3:Int)) (f5 (br (a.kind==6) (br ((a.keys.length:Int) !=(a.kids.length:Int)) (some true) (some ((a.keys.length:Int)==0))) (some false)) fun aj=>br (aj) (some (3:Int)) (f5 (w8 N a.keys) fun ak=>br (ak) (some (7:Int)) (some (0:Int))))))))))))) (br (a.kind==5) (br (decide (b>=30)) (some (2:Int)) (f5 (br (decide (a.kind<1)) (some true) (some (decide (a.kind>8)))) fun al=>br (al) (some (4:Int)) (f5 (br (a.kind==3) (f5 (A9 N a.text) fun am=>some (!am)) (some false)) fun an=>br (an) (some (5:Int)) (f5 (br (!c) (some (!(a.text==[]))) (some false)) fun ao=>br (ao) (some (3:Int)) (f5 (br (a.number !=0) (some (a.kind !=2)) (some false)) fun ap=>br (ap) (some (3:Int)) (f5 (br (decide ((a.keys.length:Int)>0)) (some (a.kind !=6)) (some false)) fun aq=>br (aq) (some (3:Int)) (f5 (f5 (x5 N a.text) fun ar=>br (!ar) (some true) (f5 (l4 N a.keys ()) fun au=>some au)) fun av=>br (av) (some (3:Int)) (f5 (br (decide (a.number<0)) (some true) (some (decide (a.number>999999999)))) fun aw=>br (aw) (some (3:Int)) (f5 (br (decide ((2: Int)>=0)) (some ((a.kids.length:Int) !=2)) (some false)) fun ax=>br (ax) (some (3:Int)) (f5 (br (a.kind==6) (br ((a.keys.length:Int) !=(a.kids.length:Int)) (some true) (some ((a.keys.length:Int)==0))) (some false)) fun ay=>br (ay) (some (3:Int)) (f5 (w8 N a.keys) fun az=>br (az) (some (7:Int)) (some (0:Int))))))))))))) (br (a.kind==7) (br (decide (b>=30)) (some (2:Int)) (f5 (br (decide (a.kind<1)) (some true) (some (decide (a.kind>8)))) fun ba=>br (ba) (some (4:Int)) (f5 (br (a.kind==3) (f5 (A9 N a.text) fun bb=>some (!bb)) (some false)) fun bc=>br (bc) (some (5:Int)) (f5 (br (!c) (some (!(a.text==[]))) (some false)) fun bd=>br (bd) (some (3:Int)) (f5 (br (a.number !=0) (some (a.kind !=2)) (some false)) fun bf=>br (bf) (some (3:Int)) (f5 (br (decide ((a.keys.length:Int)>0)) (some (a.kind !=6)) (some false)) fun bg=>br (bg) (some (3:Int)) (f5 (f5 (x5 N a.text) fun bh=>br (!bh) (some true) (f5 (l4 N a.keys ()) fun bi=>some bi)) fun bj=>br (bj) (some (3:Int)) (f5 (br (decide (a.number<0)) (some true) (some (decide (a.number>999999999)))) fun bk=>br (bk) (some (3:Int)) (f5 (br (decide ((2: Int)>=0)) (some ((a.kids.length:Int) !=2)) (some false)) fun bl=>br (bl) (some (3:Int)) (f5 (br (a.kind==6) (br ((a.keys.length:Int) !=(a.kids.length:Int)) (some true) (some ((a.keys.length:Int)==0))) (some false)) fun bm=>br (bm) (some (3:Int)) (f5 (w8 N a.keys) fun bn=>br (bn) (some (7:Int)) (some (0:Int))))))))))))) (br (a.kind==8) (br (decide (b>=30)) (some (2:Int)) (f5 (br (decide (a.kind<1)) (some true) (some (decide (a.kind>8)))) fun bo=>br (bo) (some (4:Int)) (f5 (br (a.kind==3) (f5 (A9 N a.text) fun bp=>some (!bp)) (some false)) fun bq=>br (bq) (some (5:Int)) (f5 (br (!c) (some (!(a.text==[]))) (some false)) fun bs=>br (bs) (some (3:Int)) (f5 (br (a.number !=0) (some (a.kind !=2)) (some false)) fun bt=>br (bt) (some (3:Int)) (f5 (br (decide ((a.keys.length:Int)>0)) (some (a.kind !=6)) (some false)) fun bu=>br (bu) (some (3:Int)) (f5 (f5 (x5 N a.text) fun bv=>br (!bv) (some true) (f5 (l4 N a.keys ()) fun bw=>some bw)) fun bx=>br (bx) (some (3:Int)) (f5 (br (decide (a.number<0)) (some true) (some (decide (a.number>999999999)))) fun bz=>br (bz) (some (3:Int)) (f5 (br (decide ((2: Int)>=0)) (some ((a.kids.length:Int) !=2)) (some false)) fun ca=>br (ca) (some (3:Int)) (f5 (br (a.kind==6) (br ((a.keys.length:Int) !=(a.kids.length:Int)) (some true) (some ((a.keys.length:Int)==0))) (some false)) fun cb=>br (cb) (some (3:Int)) (f5 (w8 N a.keys) fun cc=>br (cc) (some (7:Int)) (some (0:Int))))))))))))) (br (decide (b>=30)) (some (2:Int)) (f5 (br (decide (a.kind<1)) (some true) (some (decide (a.kind>8)))) fun cd=>br (cd) (some (4:Int)) (f5 (br (a.kind==3) (f5 (A9 N a.text) fun ce=>some (!ce)) (some false)) fun cf=>br (cf) (some (5:Int)) (f5 (br (!c) (some (!(a.text==[]))) (some false)) fun cg=>br (cg) (some (3:Int)) (f5 (br (a.number !=0) (some (a.kind !=2)) (some false)) fun ch=>br (ch) (some (3:Int)) (f5 (br (decide ((a.keys.length:Int)>0)) (some (a.kind !=6)) (some false)) fun ci=>br (ci) (some (3:Int)) (f5 (f5 (x5 N a.text) fun cj=>br (!cj) (some true) (f5 (l4 N a.keys ()) fun ck=>some ck)) fun cl=>br (cl) (some (3:Int)) (f5 (br (decide (a.number<0)) (some true) (some (decide (a.number>999999999)))) fun cm=>br (cm) (some (3:Int)) (f5 (br (decide ((-1:Int)>=0)) (some ((a.kids.length:Int) !=(-1:Int))) (some false)) fun cn=>br (cn) (some (3:Int)) (f5 (br (a.kind==6) (br ((a.keys.length:Int) !=(a.kids.length:Int)) (some true) (some ((a.keys.length:Int)==0))) (some false)) fun co=>br (co) (some (3:Int)) (f5 (w8 N a.keys) fun cp=>br (cp) (some (7:Int)) (some (0:Int))))))))))))))))))
abbrev e2h:=P4 [.v τ5,V0] [] [V0] [] (Int) fun z=>((z,()),())
abbrev d6N:AF:=e2h fun x _=>l5 N x.1 x.2.1
def d1y:FuncId->Option Tmp->Option AF:=fun f _=>O5 [(135,d4W N),(142,z0g N),(144,d4Z N),(145,d7W N)] f
theorem d1z:I8 (d1y N):=fun _ _ _ h=>o6 h (v8 (d4Y N) (v8 (d6m N) (v8 (b6p N) (v8 (c1T N) G7))))
def c3K:Nat->Hint:=fun i=>
 match i with
 |_=>o3
abbrev b6T:Env:=S9 c3K (d1y N) FF FF |>.jk (fun i=>match i with|1=>some 5|14=>some 28|16=>some 37|18=>some 47|19=>some 47|20=>some 47|22=>some 72|24=>some 82|25=>some 82|27=>some 100|_=>none)
theorem d1B:P7 146 (d6N N):=
 a1W (b6T N) (EnvOk.jk (y6 c3K (d1y N) _ _ (d1z N)) _) Tryz.func146 rfl Tryz.call146 (d6N N) (fun x _=>x.1) (fun _ _=>rfl) N (fun _ _=>by kernel_rfl) rfl
end
end Go.Proofs.YtolpmfhiegpohaaGreatDoor
