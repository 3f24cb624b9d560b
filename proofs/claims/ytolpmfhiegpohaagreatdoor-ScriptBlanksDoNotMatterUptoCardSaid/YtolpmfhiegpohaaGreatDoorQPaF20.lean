/- What functions of the program compute, as plain functions (printed). -/
import Derived.Test.YtolpmfhiegpohaaGreatDoorQPaF18
namespace Go.Proofs.YtolpmfhiegpohaaGreatDoor
set_option maxRecDepth 100000
set_option linter.unusedVariables false
open Go Go.RowKit
noncomputable section
noncomputable section
variable(N:Nat)
def e8q(_N:Nat)(b c:List c8)(e:Int)(k0:Option Bool)(self:ρ21)(a:Int):Option Bool:=br (decide (a<e)) (f5 (l6 b a) fun g=>f5 (l6 c a) fun l=>br (!(g==l)) (some false) (self (IntKind.i64.wrap (a+1)))) (k0)
def d8b(N:Nat)(a b:List c8)(c:Int)(k0:Option Bool):Nat->Int->Option Bool|0,_=>none|n+1,e=>e8q N a b c k0 (d8b N a b c k0 n) e
def A3(a b:List c8):Option Bool:=br ((a.length:Int) !=(b.length:Int)) (some false) (d8b N a b (a.length:Int) (some true) N 0)
abbrev e5x:=P4 [.v τ11,.v τ11] [] [.v .bool] [] (Bool) fun z=>((z,()),())
abbrev z9g:AF:=e5x fun x _=>A3 N x.1 x.2.1
abbrev e1l:SV [.v .bool]->BV []->Bool:=fun x _=>x.1
def e3W(_N:Nat):FuncId->Option Tmp->Option AF:=fun f _=>O5 [] f
theorem d8d:I8 (e3W N):=fun _ _ _ h=>o6 h G7
def z9h:Nat->Hint:=fun i=>
 match i with
 |0=>⟨[],[0,1,12,13],[],[],[],[]⟩
 |_=>o3
abbrev z9E:Env:=S9 z9h (e3W N) FF FF
noncomputable abbrev c8L:Code:=V7 (m9 Tryz.f23) [true,true,false,true,false,false]
abbrev z9R:=A8 (z9E N) Tryz.f23 (z9g N) e1l
abbrev b3i:List (Nat×Sl):=[(0,.v τ11),(1,.v τ11),(12,V0),(13,V0)]
abbrev b3h:List (Nat×Sb):=[]
def b9l(a b:List c8)(c e:Int):St:=⟨26,[(0,.v τ11 a),(1,.v τ11 b),(12,.v τ2 c),(13,.v τ2 e)],[]⟩
def b0D(_a _b:List c8)(_c:Int):St:=⟨26,[],[]⟩
def e1i(a b:List c8)(c e:Int)(k:Ex->St->Option Bool):Option Bool:=d8b N a b c (k (.exit 0) (b0D a b c)) N e
abbrev d5x:FV b3i->HV b3h->(Ex->St->Option Bool)->Option Bool:=fun x _ k=>e1i N x.1 x.2.1 x.2.2.1 x.2.2.2.1 k
def c4U:Nat->Code->St->(Ex->St->Option Bool)->Option Bool:=fun i c=>
 match i with
 |0=>(LPc 26 b3i b3h (d5x N) (fun st k=>iter (z9h 0) (V4 (z9E N) N c 0) N st k))
 |i=>fun st k=>iter (z9h i) (V4 (z9E N) N c i) N st k
theorem c8K(a b:List c8)(c:Int)(KX:Nat->St->Option Bool)(I:St->Option Bool)(e:Int):
  a0b (c4U N) (z9E N) c8L 0 (b9l a b c e) (p6 (z9h 0) I KX (z9R N))=e8q N a b c (KX 0 (b0D a b c)) (fun e=>I (b9l a b c e)) e:=by kernel_rfl
theorem d8c:∀x y k,(∀st,k .ret st=(z9R N) st)->iter (z9h 0) (V4 (z9E N) N c8L 0) N ⟨26,Y7 b3i x,Y8 b3h y⟩ k=d5x N x y k:=fun x _ k hk=>
 j9 (S:=(Int)×Unit) (z9h 0) _ (a0b (c4U N) (z9E N) c8L 0) (z9R N) (k9 _ _ N _ c8L 0 (show LoopsOk (c4U N) (z9E N) N (z9R N) []from trivial)) (fun s=>b9l x.1 x.2.1 x.2.2.1 s.1) k hk
  (fun self s=>e8q N x.1 x.2.1 x.2.2.1 (k (.exit 0) (b0D x.1 x.2.1 x.2.2.1)) (fun a=>self (a,())) s.1) (fun n s=>d8b N x.1 x.2.1 x.2.2.1 (k (.exit 0) (b0D x.1 x.2.1 x.2.2.1)) n s.1) (fun _=>rfl) (fun _ _=>rfl)
  (fun I s=>c8K N x.1 x.2.1 x.2.2.1 (fun j=>k (.exit j)) I s.1) N (x.2.2.2.1,())
theorem e3Y:F7 (c4U N) (z9E N) N (z9R N) 0 c8L:=fun st k hk=>p8 26 b3i b3h _ _ (z9R N) (d8c N) _ st k hk (rfl)
theorem e1k(x:SV [.v τ11,.v τ11])(y:BV []):F5 (z9E N) Tryz.f23 (z9g N) e1l (c4U N) x y=A3 N x.1 x.2.1:=by kernel_rfl
theorem d8e:P7 23 (z9g N):=
 a1X (d8d N) Tryz.func23 rfl Tryz.call23 (z9g N) e1l (fun _ _=>rfl) N (c4U N) (show LoopsOk (c4U N) (z9E N) N (z9R N) [(0,c8L)]from⟨e3Y N,trivial⟩) (e1k N)
abbrev e3A:=P4 [.v τ5,.v τ5] [] [.v .bool] [] (Bool) fun z=>((z,()),())
def e53(_N:Nat)(d8:ρ15)(b:Int)(c e:List GExpr)(k0:Option Bool)(self:ρ21)(a:Int):Option Bool:=br (decide (a<b)) (f5 (l6 c a) fun g=>f5 (l6 e a) fun l=>f5 (d8 g l) fun m=>br (!m) (some false) (self (IntKind.i64.wrap (a+1)))) (k0)
def e9r(N:Nat)(d8:ρ15)(a:Int)(b c:List GExpr)(k0:Option Bool):Nat->Int->Option Bool|0,_=>none|n+1,e=>e53 N d8 a b c k0 (e9r N d8 a b c k0 n) e
def R3(d8:ρ15)(a b:GExpr):Option Bool:=f5 (br (a.kind !=b.kind) (some true) (br (!(a.text==b.text)) (some true) (br (a.number !=b.number) (some true) (f5 (A3 N a.keys b.keys) fun c=>br (!c) (some true) (some ((a.kids.length:Int) !=(b.kids.length:Int))))))) fun e=>br (e) (some false) (e9r N d8 (a.kids.length:Int) a.kids b.kids (some true) N 0)
abbrev e3s:=P4 [.v τ5,.v τ5] [] [.v .bool] [] (Bool) fun z=>((z,()),())
abbrev e0W(d8:ρ15):AF:=e3s fun x _=>R3 N d8 x.1 x.2.1
abbrev f2O:SV [.v .bool]->BV []->Bool:=fun x _=>x.1
def d4p(d8:ρ15):FuncId->Option Tmp->Option AF:=fun f _=>O5 [(23,z9g N),(24,e3A fun x _=>d8 x.1 x.2.1)] f
theorem d4q(d8:ρ15)(a08:Sound Tryz.prog GW B7 24 (e3A fun x y=>d8 x.1 x.2.1)):∀f q F,d4p N d8 f q=some F->Sound Tryz.prog GW B7 f F:=fun _ _ _ h=>o6 h (v8 (d8e N) (v8 (a08) G7))
def e3r:Nat->Hint:=fun i=>
 match i with
 |0=>⟨[],[2,3,44,45],[1002,1003],[],[],[]⟩
 |_=>o3
abbrev e5q(d8:ρ15):Env:=S9 e3r (d4p N d8) (fun _=>false) (fun _=>false) |>.jk (fun i=>match i with|1=>some 41|_=>none)
abbrev e93(d8:ρ15):=A8 (e5q N d8) Tryz.f24 (e0W N d8) f2O
noncomputable abbrev e8T:Code:=V7 (m9 Tryz.f24) [true,true,false,true,false,false]
abbrev e6K:List (Nat×Sl):=[(2,.box 1002 0),(3,.box 1003 0),(44,V0),(45,V0)]
abbrev e6J:List (Nat×Sb):=[(1002,.cells [V0,V1,V0,.v τ11,.v (.sl τ5)]),(1003,.cells [V0,V1,V0,.v τ11,.v (.sl τ5)])]
def e79(a b:Int)(c:c8)(e:Int)(g:List c8)(l:List GExpr)(m:Int)(o:c8)(p:Int)(q:List c8)(r:List GExpr)(t:Int):St:=⟨61,[(2,.box 1002 0),(3,.box 1003 0),(44,.v τ2 a),(45,.v τ2 t)],[(1002,.cells [.v τ2 b,.v .str c,.v τ2 e,.v τ11 g,.v (.sl τ5) l]),(1003,.cells [.v τ2 m,.v .str o,.v τ2 p,.v τ11 q,.v (.sl τ5) r])]⟩
def e5L(_a _b:Int)(_c:c8)(_e:Int)(_g:List c8)(_l:List GExpr)(_m:Int)(_o:c8)(_p:Int)(_q:List c8)(_r:List GExpr):St:=⟨61,[],[]⟩
def f4c(d8:ρ15)(a e:Int)(g:c8)(l:Int)(m:List c8)(b:List GExpr)(o:Int)(p:c8)(q:Int)(r:List c8)(c:List GExpr)(t:Int)(k:Ex->St->Option Bool):Option Bool:=e9r N d8 a b c (k (.exit 0) (e5L a e g l m b o p q r c)) N t
abbrev f0Y(d8:ρ15):FV e6K->HV e6J->(Ex->St->Option Bool)->Option Bool:=fun x y k=>f4c N d8 x.2.2.1 y.1.1 y.1.2.1 y.1.2.2.1 y.1.2.2.2.1 y.1.2.2.2.2.1 y.2.1.1 y.2.1.2.1 y.2.1.2.2.1 y.2.1.2.2.2.1 y.2.1.2.2.2.2.1 x.2.2.2.1 k
def e8a(d8:ρ15):Nat->Code->St->(Ex->St->Option Bool)->Option Bool:=fun i c=>
 match i with
 |0=>(LPc 61 e6K e6J (f0Y N d8) (fun st k=>iter (e3r 0) (V4 (e5q N d8) N c 0) N st k))
 |i=>fun st k=>iter (e3r i) (V4 (e5q N d8) N c i) N st k
theorem e92(d8:ρ15)(a g:Int)(l:c8)(m:Int)(o:List c8)(b:List GExpr)(p:Int)(q:c8)(r:Int)(t:List c8)(c:List GExpr)(KX:Nat->St->Option Bool)(I:St->Option Bool)(e:Int):
  a0b (e8a N d8) (e5q N d8) e8T 0 (e79 a g l m o b p q r t c e) (p6 (e3r 0) I KX (e93 N d8))=e53 N d8 a b c (KX 0 (e5L a g l m o b p q r t c)) (fun e=>I (e79 a g l m o b p q r t c e)) e:=by kernel_rfl
theorem f2N(d8:ρ15):∀x y k,(∀st,k .ret st=(e93 N d8) st)->iter (e3r 0) (V4 (e5q N d8) N e8T 0) N ⟨61,Y7 e6K x,Y8 e6J y⟩ k=f0Y N d8 x y k:=fun x y k hk=>
 j9 (S:=(Int)×Unit) (e3r 0) _ (a0b (e8a N d8) (e5q N d8) e8T 0) (e93 N d8) (k9 _ _ N _ e8T 0 (show LoopsOk (e8a N d8) (e5q N d8) N (e93 N d8) []from trivial)) (fun s=>e79 x.2.2.1 y.1.1 y.1.2.1 y.1.2.2.1 y.1.2.2.2.1 y.1.2.2.2.2.1 y.2.1.1 y.2.1.2.1 y.2.1.2.2.1 y.2.1.2.2.2.1 y.2.1.2.2.2.2.1 s.1) k hk
  (fun self s=>e53 N d8 x.2.2.1 y.1.2.2.2.2.1 y.2.1.2.2.2.2.1 (k (.exit 0) (e5L x.2.2.1 y.1.1 y.1.2.1 y.1.2.2.1 y.1.2.2.2.1 y.1.2.2.2.2.1 y.2.1.1 y.2.1.2.1 y.2.1.2.2.1 y.2.1.2.2.2.1 y.2.1.2.2.2.2.1)) (fun a=>self (a,())) s.1) (fun n s=>e9r N d8 x.2.2.1 y.1.2.2.2.2.1 y.2.1.2.2.2.2.1 (k (.exit 0) (e5L x.2.2.1 y.1.1 y.1.2.1 y.1.2.2.1 y.1.2.2.2.1 y.1.2.2.2.2.1 y.2.1.1 y.2.1.2.1 y.2.1.2.2.1 y.2.1.2.2.2.1 y.2.1.2.2.2.2.1)) n s.1) (fun _=>rfl) (fun _ _=>rfl)
  (fun I s=>e92 N d8 x.2.2.1 y.1.1 y.1.2.1 y.1.2.2.1 y.1.2.2.2.1 y.1.2.2.2.2.1 y.2.1.1 y.2.1.2.1 y.2.1.2.2.1 y.2.1.2.2.2.1 y.2.1.2.2.2.2.1 (fun j=>k (.exit j)) I s.1) N (x.2.2.2.1,())
theorem f5k(d8:ρ15):F7 (e8a N d8) (e5q N d8) N (e93 N d8) 0 e8T:=fun st k hk=>p8 61 e6K e6J _ _ (e93 N d8) (f2N N d8) _ st k hk (rfl)
theorem f4d(d8:ρ15)(x:SV [.v τ5,.v τ5])(y:BV []):F5 (e5q N d8) Tryz.f24 (e0W N d8) f2O (e8a N d8) x y=R3 N d8 x.1 x.2.1:=by kernel_rfl
theorem d4r(d8:ρ15)(a08:Sound Tryz.prog GW B7 24 (e3A fun x y=>d8 x.1 x.2.1)):Sound Tryz.prog GW B7 24 (e0W N d8):=
 a2A (EnvOk.jk (y6 e3r (d4p N d8) _ _ (d4q N d8 a08)) _) Tryz.func24 rfl Tryz.call24 (e0W N d8) f2O (fun _ _=>rfl) N (e8a N d8) (show LoopsOk (e8a N d8) (e5q N d8) N (e93 N d8) [(0,e8T)]from⟨f5k N d8,trivial⟩) (f4d N d8)
def I6(N:Nat):Nat->GExpr->GExpr->Option (Bool)|0=>fun _ _=>none|d+1=>R3 N (I6 N d)
theorem d4T(N:Nat):∀d,Sound Tryz.prog GW B7 24 (e3A fun x y=>I6 N d x.1 x.2.1)
 |0=>Sound.never Tryz.call24 (fun _ _=>rfl)
 |d+1=>d4r N (I6 N d) (d4T N d)
abbrev e3l:=P4 [.v τ6,.v τ6,.v .bool] [] [.v .bool] [] (Bool) fun z=>((z,()),())
def e51(c7:X5)(e:Int)(b c:List (c8×GExpr))(k2:Option Bool)(self:ρ21)(a:Int):Option Bool:=br (decide (a<e)) (f5 (f5 (l6 b a) fun g=>f5 (l6 c a) fun l=>br (!(g.1==l.1)) (some true) (f5 (l6 b a) fun m=>f5 (l6 c a) fun o=>f5 (I6 N N m.2 o.2) fun p=>some (!p))) fun q=>br (q) (some false) (self (IntKind.i64.wrap (a+1)))) (k2)
def e9p(N:Nat)(c7:X5)(a:Int)(b c:List (c8×GExpr))(k2:Option Bool):Nat->Int->Option Bool|0,_=>none|n+1,e=>e51 N c7 a b c k2 (e9p N c7 a b c k2 n) e
def b5G(c7:X5)(g:List GStmt)(e:Bool)(l:List GStmt)(m:Int)(k0:Option Bool)(self:ρ21)(c:Int):Option Bool:=br (decide (c<m)) (f5 (l6 l c) fun a=>f5 (l6 g c) fun b=>f5 (br (a.kind !=b.kind) (some true) (br (!(a.name==b.name)) (some true) (br (!(a.text==b.text)) (some true) (f5 (A3 N a.params b.params) fun o=>br (!o) (some true) (br (e) (some (a.at_ !=b.at_)) (some false)))))) fun p=>br (p) (some false) (f5 (f5 (I6 N N (GExpr.mk a.expr.kind a.expr.text a.expr.number a.expr.keys a.expr.kids) (GExpr.mk b.expr.kind b.expr.text b.expr.number b.expr.keys b.expr.kids)) fun q=>br (!q) (some true) (br ((a.args.length:Int) !=(b.args.length:Int)) (some true) (f5 (c7 a.body b.body e) fun r=>br (!r) (some true) (f5 (c7 a.els b.els e) fun t=>some (!t))))) fun u=>br (u) (some false) (e9p N c7 (a.args.length:Int) a.args b.args (self (IntKind.i64.wrap (c+1))) N 0))) (k0)
def b5F(N:Nat)(c7:X5)(a:List GStmt)(b:Bool)(c:List GStmt)(e:Int)(k0:Option Bool):Nat->Int->Option Bool|0,_=>none|n+1,g=>b5G N c7 a b c e k0 (b5F N c7 a b c e k0 n) g
def E7(c7:X5)(a b:List GStmt)(c:Bool):Option Bool:=br ((a.length:Int) !=(b.length:Int)) (some false) (b5F N c7 b c a (a.length:Int) (some true) N 0)
abbrev e2Y:=P4 [.v τ6,.v τ6,.v .bool] [] [.v .bool] [] (Bool) fun z=>((z,()),())
abbrev d3c(c7:X5):AF:=e2Y fun x _=>E7 N c7 x.1 x.2.1 x.2.2.1
abbrev d8M:SV [.v .bool]->BV []->Bool:=fun x _=>x.1
def d3a(c7:X5):FuncId->Option Tmp->Option AF:=fun f _=>O5 [(13,e3l fun x _=>c7 x.1 x.2.1 x.2.2.1),(23,z9g N),(24,e3A fun x _=>I6 N N x.1 x.2.1)] f
theorem d3b(c7:X5)(X9:Sound Tryz.prog GW B7 13 (e3l fun x y=>c7 x.1 x.2.1 x.2.2.1)):∀f q F,d3a N c7 f q=some F->Sound Tryz.prog GW B7 f F:=fun _ _ _ h=>o6 h (v8 (X9) (v8 (d8e N) (v8 (d4T N N) G7)))
def c4c:Nat->Hint:=fun i=>
 match i with
 |0=>⟨[],[1,2,16,17,18],[],[],[],[]⟩
 |2=>⟨[],[1,2,8,9,16,17,18,99,100],[1008,1009],[1,2,16,17,18],[],[]⟩
 |_=>o3
abbrev b5E(c7:X5):Env:=S9 c4c (d3a N c7) (fun _=>false) (fun _=>false) |>.jk (fun i=>match i with|7=>some 63|9=>some 96|14=>some 131|_=>none)
abbrev c4b(c7:X5):=A8 (b5E N c7) Tryz.f13 (d3c N c7) d8M
noncomputable abbrev e8O:Code:=V7 (m9 Tryz.f13) [true,true,false,true,false,false]
noncomputable abbrev e7Z:Code:=V7 (m9 Tryz.f13) [true,true,false,true,false,false,true,true,false,false,true,true,true,true,true,false,false]
abbrev e6z:List (Nat×Sl):=[(1,.v τ6),(2,.v .bool),(8,.box 1008 0),(9,.box 1009 0),(16,.v τ6),(17,V0),(18,V0),(99,V0),(100,V0)]
abbrev e6y:List (Nat×Sb):=[(1008,.cells [V0,V1,V1,.v τ11,.v (.sl V6),V0,V1,V0,.v τ11,.v (.sl τ5),.v τ6,.v τ6,V0]),(1009,.cells [V0,V1,V1,.v τ11,.v (.sl V6),V0,V1,V0,.v τ11,.v (.sl τ5),.v τ6,.v τ6,V0])]
def e7Y(a:List GStmt)(b:Bool)(c:List GStmt)(e g:Int)(l m:Int)(o p:c8)(q:List c8)(r:List (c8×GExpr))(t:Int)(u:c8)(w:Int)(B:List c8)(C:List GExpr)(D E:List GStmt)(H J:Int)(K L:c8)(O:List c8)(Q:List (c8×GExpr))(R:Int)(T:c8)(U:Int)(V:List c8)(W:List GExpr)(Y aa:List GStmt)(ab ac:Int):St:=⟨134,[(1,.v τ6 a),(2,.v .bool b),(8,.box 1008 0),(9,.box 1009 0),(16,.v τ6 c),(17,.v τ2 e),(18,.v τ2 g),(99,.v τ2 l),(100,.v τ2 ac)],[(1008,.cells [.v τ2 m,.v .str o,.v .str p,.v τ11 q,.v (.sl V6) r,.v τ2 t,.v .str u,.v τ2 w,.v τ11 B,.v (.sl τ5) C,.v τ6 D,.v τ6 E,.v τ2 H]),(1009,.cells [.v τ2 J,.v .str K,.v .str L,.v τ11 O,.v (.sl V6) Q,.v τ2 R,.v .str T,.v τ2 U,.v τ11 V,.v (.sl τ5) W,.v τ6 Y,.v τ6 aa,.v τ2 ab])]⟩
def e5H(a:List GStmt)(b:Bool)(c:List GStmt)(e g:Int)(_l _m:Int)(_o _p:c8)(_q:List c8)(_r:List (c8×GExpr))(_t:Int)(_u:c8)(_w:Int)(_B:List c8)(_C:List GExpr)(_D _E:List GStmt)(_H _J:Int)(_K _L:c8)(_O:List c8)(_Q:List (c8×GExpr))(_R:Int)(_T:c8)(_U:Int)(_V:List c8)(_W:List GExpr)(_Y _aa:List GStmt)(_ab:Int):St:=⟨134,[(1,.v τ6 a),(2,.v .bool b),(16,.v τ6 c),(17,.v τ2 e),(18,.v τ2 g)],[]⟩
def f3V(c7:X5)(e:List GStmt)(g:Bool)(l:List GStmt)(m o:Int)(a p:Int)(q r:c8)(t:List c8)(b:List (c8×GExpr))(u:Int)(v:c8)(w:Int)(B:List c8)(C:List GExpr)(D E:List GStmt)(H J:Int)(K L:c8)(O:List c8)(c:List (c8×GExpr))(Q:Int)(R:c8)(T:Int)(U:List c8)(V:List GExpr)(W Y:List GStmt)(aa ab:Int)(k:Ex->St->Option Bool):Option Bool:=e9p N c7 a b c (k (.exit 2) (e5H e g l m o a p q r t b u v w B C D E H J K L O c Q R T U V W Y aa)) N ab
abbrev f0P(c7:X5):FV e6z->HV e6y->(Ex->St->Option Bool)->Option Bool:=fun x y k=>f3V N c7 x.1 x.2.1 x.2.2.2.2.1 x.2.2.2.2.2.1 x.2.2.2.2.2.2.1 x.2.2.2.2.2.2.2.1 y.1.1 y.1.2.1 y.1.2.2.1 y.1.2.2.2.1 y.1.2.2.2.2.1 y.1.2.2.2.2.2.1 y.1.2.2.2.2.2.2.1 y.1.2.2.2.2.2.2.2.1 y.1.2.2.2.2.2.2.2.2.1 y.1.2.2.2.2.2.2.2.2.2.1 y.1.2.2.2.2.2.2.2.2.2.2.1 y.1.2.2.2.2.2.2.2.2.2.2.2.1 y.1.2.2.2.2.2.2.2.2.2.2.2.2.1 y.2.1.1 y.2.1.2.1 y.2.1.2.2.1 y.2.1.2.2.2.1 y.2.1.2.2.2.2.1 y.2.1.2.2.2.2.2.1 y.2.1.2.2.2.2.2.2.1 y.2.1.2.2.2.2.2.2.2.1 y.2.1.2.2.2.2.2.2.2.2.1 y.2.1.2.2.2.2.2.2.2.2.2.1 y.2.1.2.2.2.2.2.2.2.2.2.2.1 y.2.1.2.2.2.2.2.2.2.2.2.2.2.1 y.2.1.2.2.2.2.2.2.2.2.2.2.2.2.1 x.2.2.2.2.2.2.2.2.1 k
abbrev a9T:List (Nat×Sl):=[(1,.v τ6),(2,.v .bool),(16,.v τ6),(17,V0),(18,V0)]
abbrev a9S:List (Nat×Sb):=[]
def b5H(a:List GStmt)(b:Bool)(c:List GStmt)(e g:Int):St:=⟨134,[(1,.v τ6 a),(2,.v .bool b),(16,.v τ6 c),(17,.v τ2 e),(18,.v τ2 g)],[]⟩
def a6W(_a:List GStmt)(_b:Bool)(_c:List GStmt)(_e:Int):St:=⟨134,[],[]⟩
def d7g(c7:X5)(a:List GStmt)(b:Bool)(c:List GStmt)(e g:Int)(k:Ex->St->Option Bool):Option Bool:=b5F N c7 a b c e (k (.exit 0) (a6W a b c e)) N g
abbrev c58(c7:X5):FV a9T->HV a9S->(Ex->St->Option Bool)->Option Bool:=fun x _ k=>d7g N c7 x.1 x.2.1 x.2.2.1 x.2.2.2.1 x.2.2.2.2.1 k
def b5I(c7:X5):Nat->Code->St->(Ex->St->Option Bool)->Option Bool:=fun i c=>
 match i with
 |0=>(LPc 134 a9T a9S (c58 N c7) (fun st k=>iter (c4c 0) (V4 (b5E N c7) N c 0) N st k))
 |2=>(LPc 134 e6z e6y (f0P N c7) (fun st k=>iter (c4c 2) (V4 (b5E N c7) N c 2) N st k))
 |i=>fun st k=>iter (c4c i) (V4 (b5E N c7) N c i) N st k
theorem e9U(c7:X5)(g:List GStmt)(l:Bool)(m:List GStmt)(o p:Int)(a q:Int)(r t:c8)(u:List c8)(b:List (c8×GExpr))(v:Int)(w:c8)(B:Int)(C:List c8)(D:List GExpr)(E H:List GStmt)(J K:Int)(L O:c8)(Q:List c8)(c:List (c8×GExpr))(R:Int)(T:c8)(U:Int)(V:List c8)(W:List GExpr)(Y aa:List GStmt)(ab:Int)(KX:Nat->St->Option Bool)(I:St->Option Bool)(e:Int):
  a0b (b5I N c7) (b5E N c7) e7Z 2 (e7Y g l m o p a q r t u b v w B C D E H J K L O Q c R T U V W Y aa ab e) (p6 (c4c 2) I KX (c4b N c7))=e51 N c7 a b c (KX 2 (e5H g l m o p a q r t u b v w B C D E H J K L O Q c R T U V W Y aa ab)) (fun e=>I (e7Y g l m o p a q r t u b v w B C D E H J K L O Q c R T U V W Y aa ab e)) e:=by kernel_rfl
theorem f2m(c7:X5):∀x y k,(∀st,k .ret st=(c4b N c7) st)->iter (c4c 2) (V4 (b5E N c7) N e7Z 2) N ⟨134,Y7 e6z x,Y8 e6y y⟩ k=f0P N c7 x y k:=fun x y k hk=>
 j9 (S:=(Int)×Unit) (c4c 2) _ (a0b (b5I N c7) (b5E N c7) e7Z 2) (c4b N c7) (k9 _ _ N _ e7Z 2 (show LoopsOk (b5I N c7) (b5E N c7) N (c4b N c7) []from trivial)) (fun s=>e7Y x.1 x.2.1 x.2.2.2.2.1 x.2.2.2.2.2.1 x.2.2.2.2.2.2.1 x.2.2.2.2.2.2.2.1 y.1.1 y.1.2.1 y.1.2.2.1 y.1.2.2.2.1 y.1.2.2.2.2.1 y.1.2.2.2.2.2.1 y.1.2.2.2.2.2.2.1 y.1.2.2.2.2.2.2.2.1 y.1.2.2.2.2.2.2.2.2.1 y.1.2.2.2.2.2.2.2.2.2.1 y.1.2.2.2.2.2.2.2.2.2.2.1 y.1.2.2.2.2.2.2.2.2.2.2.2.1 y.1.2.2.2.2.2.2.2.2.2.2.2.2.1 y.2.1.1 y.2.1.2.1 y.2.1.2.2.1 y.2.1.2.2.2.1 y.2.1.2.2.2.2.1 y.2.1.2.2.2.2.2.1 y.2.1.2.2.2.2.2.2.1 y.2.1.2.2.2.2.2.2.2.1 y.2.1.2.2.2.2.2.2.2.2.1 y.2.1.2.2.2.2.2.2.2.2.2.1 y.2.1.2.2.2.2.2.2.2.2.2.2.1 y.2.1.2.2.2.2.2.2.2.2.2.2.2.1 y.2.1.2.2.2.2.2.2.2.2.2.2.2.2.1 s.1) k hk
  (fun self s=>e51 N c7 x.2.2.2.2.2.2.2.1 y.1.2.2.2.2.1 y.2.1.2.2.2.2.1 (k (.exit 2) (e5H x.1 x.2.1 x.2.2.2.2.1 x.2.2.2.2.2.1 x.2.2.2.2.2.2.1 x.2.2.2.2.2.2.2.1 y.1.1 y.1.2.1 y.1.2.2.1 y.1.2.2.2.1 y.1.2.2.2.2.1 y.1.2.2.2.2.2.1 y.1.2.2.2.2.2.2.1 y.1.2.2.2.2.2.2.2.1 y.1.2.2.2.2.2.2.2.2.1 y.1.2.2.2.2.2.2.2.2.2.1 y.1.2.2.2.2.2.2.2.2.2.2.1 y.1.2.2.2.2.2.2.2.2.2.2.2.1 y.1.2.2.2.2.2.2.2.2.2.2.2.2.1 y.2.1.1 y.2.1.2.1 y.2.1.2.2.1 y.2.1.2.2.2.1 y.2.1.2.2.2.2.1 y.2.1.2.2.2.2.2.1 y.2.1.2.2.2.2.2.2.1 y.2.1.2.2.2.2.2.2.2.1 y.2.1.2.2.2.2.2.2.2.2.1 y.2.1.2.2.2.2.2.2.2.2.2.1 y.2.1.2.2.2.2.2.2.2.2.2.2.1 y.2.1.2.2.2.2.2.2.2.2.2.2.2.1 y.2.1.2.2.2.2.2.2.2.2.2.2.2.2.1)) (fun a=>self (a,())) s.1) (fun n s=>e9p N c7 x.2.2.2.2.2.2.2.1 y.1.2.2.2.2.1 y.2.1.2.2.2.2.1 (k (.exit 2) (e5H x.1 x.2.1 x.2.2.2.2.1 x.2.2.2.2.2.1 x.2.2.2.2.2.2.1 x.2.2.2.2.2.2.2.1 y.1.1 y.1.2.1 y.1.2.2.1 y.1.2.2.2.1 y.1.2.2.2.2.1 y.1.2.2.2.2.2.1 y.1.2.2.2.2.2.2.1 y.1.2.2.2.2.2.2.2.1 y.1.2.2.2.2.2.2.2.2.1 y.1.2.2.2.2.2.2.2.2.2.1 y.1.2.2.2.2.2.2.2.2.2.2.1 y.1.2.2.2.2.2.2.2.2.2.2.2.1 y.1.2.2.2.2.2.2.2.2.2.2.2.2.1 y.2.1.1 y.2.1.2.1 y.2.1.2.2.1 y.2.1.2.2.2.1 y.2.1.2.2.2.2.1 y.2.1.2.2.2.2.2.1 y.2.1.2.2.2.2.2.2.1 y.2.1.2.2.2.2.2.2.2.1 y.2.1.2.2.2.2.2.2.2.2.1 y.2.1.2.2.2.2.2.2.2.2.2.1 y.2.1.2.2.2.2.2.2.2.2.2.2.1 y.2.1.2.2.2.2.2.2.2.2.2.2.2.1 y.2.1.2.2.2.2.2.2.2.2.2.2.2.2.1)) n s.1) (fun _=>rfl) (fun _ _=>rfl)
  (fun I s=>e9U N c7 x.1 x.2.1 x.2.2.2.2.1 x.2.2.2.2.2.1 x.2.2.2.2.2.2.1 x.2.2.2.2.2.2.2.1 y.1.1 y.1.2.1 y.1.2.2.1 y.1.2.2.2.1 y.1.2.2.2.2.1 y.1.2.2.2.2.2.1 y.1.2.2.2.2.2.2.1 y.1.2.2.2.2.2.2.2.1 y.1.2.2.2.2.2.2.2.2.1 y.1.2.2.2.2.2.2.2.2.2.1 y.1.2.2.2.2.2.2.2.2.2.2.1 y.1.2.2.2.2.2.2.2.2.2.2.2.1 y.1.2.2.2.2.2.2.2.2.2.2.2.2.1 y.2.1.1 y.2.1.2.1 y.2.1.2.2.1 y.2.1.2.2.2.1 y.2.1.2.2.2.2.1 y.2.1.2.2.2.2.2.1 y.2.1.2.2.2.2.2.2.1 y.2.1.2.2.2.2.2.2.2.1 y.2.1.2.2.2.2.2.2.2.2.1 y.2.1.2.2.2.2.2.2.2.2.2.1 y.2.1.2.2.2.2.2.2.2.2.2.2.1 y.2.1.2.2.2.2.2.2.2.2.2.2.2.1 y.2.1.2.2.2.2.2.2.2.2.2.2.2.2.1 (fun j=>k (.exit j)) I s.1) N (x.2.2.2.2.2.2.2.2.1,())
theorem f2n(c7:X5):F7 (b5I N c7) (b5E N c7) N (c4b N c7) 2 e7Z:=fun st k hk=>p8 134 e6z e6y _ _ (c4b N c7) (f2m N c7) _ st k hk (rfl)
theorem c4a(c7:X5)(a:List GStmt)(b:Bool)(c:List GStmt)(e:Int)(KX:Nat->St->Option Bool)(I:St->Option Bool)(g:Int):
  a0b (b5I N c7) (b5E N c7) e8O 0 (b5H a b c e g) (p6 (c4c 0) I KX (c4b N c7))=b5G N c7 a b c e (KX 0 (a6W a b c e)) (fun g=>I (b5H a b c e g)) g:=by kernel_rfl
theorem d29(c7:X5):∀x y k,(∀st,k .ret st=(c4b N c7) st)->iter (c4c 0) (V4 (b5E N c7) N e8O 0) N ⟨134,Y7 a9T x,Y8 a9S y⟩ k=c58 N c7 x y k:=fun x _ k hk=>
 j9 (S:=(Int)×Unit) (c4c 0) _ (a0b (b5I N c7) (b5E N c7) e8O 0) (c4b N c7) (k9 _ _ N _ e8O 0 (show LoopsOk (b5I N c7) (b5E N c7) N (c4b N c7) [(2,e7Z)]from⟨f2n N c7,trivial⟩)) (fun s=>b5H x.1 x.2.1 x.2.2.1 x.2.2.2.1 s.1) k hk
  (fun self s=>b5G N c7 x.1 x.2.1 x.2.2.1 x.2.2.2.1 (k (.exit 0) (a6W x.1 x.2.1 x.2.2.1 x.2.2.2.1)) (fun a=>self (a,())) s.1) (fun n s=>b5F N c7 x.1 x.2.1 x.2.2.1 x.2.2.2.1 (k (.exit 0) (a6W x.1 x.2.1 x.2.2.1 x.2.2.2.1)) n s.1) (fun _=>rfl) (fun _ _=>rfl)
  (fun I s=>c4a N c7 x.1 x.2.1 x.2.2.1 x.2.2.2.1 (fun j=>k (.exit j)) I s.1) N (x.2.2.2.2.1,())
theorem e0G(c7:X5):F7 (b5I N c7) (b5E N c7) N (c4b N c7) 0 e8O:=fun st k hk=>p8 134 a9T a9S _ _ (c4b N c7) (d29 N c7) _ st k hk (rfl)
theorem d7h(c7:X5)(x:SV [.v τ6,.v τ6,.v .bool])(y:BV []):F5 (b5E N c7) Tryz.f13 (d3c N c7) d8M (b5I N c7) x y=E7 N c7 x.1 x.2.1 x.2.2.1:=by kernel_rfl
theorem d3f(c7:X5)(X9:Sound Tryz.prog GW B7 13 (e3l fun x y=>c7 x.1 x.2.1 x.2.2.1)):Sound Tryz.prog GW B7 13 (d3c N c7):=
 a2A (EnvOk.jk (y6 c4c (d3a N c7) _ _ (d3b N c7 X9)) _) Tryz.func13 rfl Tryz.call13 (d3c N c7) d8M (fun _ _=>rfl) N (b5I N c7) (show LoopsOk (b5I N c7) (b5E N c7) N (c4b N c7) [(0,e8O),(2,e7Z)]from⟨e0G N c7,f2n N c7,trivial⟩) (d7h N c7)
def H7(N:Nat):Nat->(List GStmt)->(List GStmt)->Bool->Option (Bool)|0=>fun _ _ _=>none|d+1=>E7 N (H7 N d)
theorem b0g(N:Nat):∀d,Sound Tryz.prog GW B7 13 (e3l fun x y=>H7 N d x.1 x.2.1 x.2.2.1)
 |0=>Sound.never Tryz.call13 (fun _ _=>rfl)
 |d+1=>d3f N (H7 N d) (b0g N d)
def Q7(a:UInt8):Option Bool:=f5 (G1 N a) fun b=>br (b) (some true) (f5 (G0 N a) fun c=>br (c) (some true) (some (a==95)))
abbrev e20:=P4 [.v .u8] [] [.v .bool] [] (Bool) fun z=>((z,()),())
abbrev d3q:AF:=e20 fun x _=>Q7 N x.1
theorem d3t:P7 35 (d3q N):=
 V5 h0 [(33,e01 N),(36,d4J N)] (v8 (d4N N) (v8 (d4M N) G7)) Tryz.func35 rfl Tryz.call35 (d3q N) (fun x _=>x.1) (fun _ _=>rfl) N (fun _ _=>by kernel_rfl) rfl
end
end
noncomputable section
noncomputable section
variable(N:Nat)
def S3(_N:Nat)(b a:c8):Option Bool:=br (decide ((b.length:Int)>=(a.length:Int))) (f5 (slc b 0 (a.length:Int)) fun c=>some (c==a)) (some false)
abbrev e2v:=P4 [V1,V1] [] [.v .bool] [] (Bool) fun z=>((z,()),())
abbrev e0m:AF:=e2v fun x _=>S3 N x.1 x.2.1
theorem d2a:P7 63 (e0m N):=
 V5 h0 [] G7 Tryz.func63 rfl Tryz.call63 (e0m N) (fun x _=>x.1) (fun _ _=>rfl) N (fun _ _=>by kernel_rfl) rfl
def S6(a b:c8):Option Bool:=f5 (S3 N a b) fun c=>some c
abbrev e3j:=P4 [V1,V1] [] [.v .bool] [] (Bool) fun z=>((z,()),())
abbrev b0f:AF:=e3j fun x _=>S6 N x.1 x.2.1
theorem R7:P7 39 (b0f N):=
 V5 h0 [(63,e0m N)] (v8 (d2a N) G7) Tryz.func39 rfl Tryz.call39 (b0f N) (fun x _=>x.1) (fun _ _=>rfl) N (fun _ _=>by kernel_rfl) rfl
def a8E(_N:Nat)(b:c8)(g:List τ0)(k0 self:Int->Option τ19)(a:Int):Option τ19:=br (decide (a<(b.length:Int))) (f5 (l6 b a) fun c=>br (c==32) (self (IntKind.i64.wrap (a+1))) (br (c==9) (self (IntKind.i64.wrap (a+1))) (br (c==10) (self (IntKind.i64.wrap (a+1))) (br (c==13) (self (IntKind.i64.wrap (a+1))) (br (c==35) (f5 (slc b a (b.length:Int)) fun l=>f5 (strings_IndexByte l 10) fun e=>br (decide (e<0)) (self (IntKind.i64.wrap (a+(IntKind.i64.wrap ((b.length:Int)-a))))) (self (IntKind.i64.wrap (a+e)))) (some (b,(a,g)))))))) (k0 a)
def b5g(N:Nat)(a:c8)(b:List τ0)(k0:Int->Option τ19):Nat->Int->Option τ19|0,_=>none|n+1,c=>a8E N a b k0 (b5g N a b k0 n) c
def D9(a:c8)(c:Int)(b:List τ0):Option τ19:=b5g N a b (fun e=>some (a,(e,b))) N c
abbrev e2i(f:SV [.box 0 0]->BV [.cells [V1,V0,.row 1],.row 42 τ1 false]->Option τ19):AF:={ps:=[.box 0 0],bs:=[.cells [V1,V0,.row 1],.row 42 τ1 false],rs:=[],cs:=[.cells [V1,V0,.row 1],.row 42 τ1 false],R:=c8×Int×List τ0,out:=fun z=>((),((z.1,z.2.1,(),()),z.2.2,())),f:=f}
abbrev d1F:AF:=e2i fun _ y=>D9 N y.1.1 y.1.2.1 y.2.1
abbrev d1G:SV []->BV [.cells [V1,V0,.row 1],.row 42 τ1 false]->τ19:=fun _ y=>(y.1.1,y.1.2.1,y.2.1)
def d1D(_N:Nat):FuncId->Option Tmp->Option AF:=fun f _=>O5 [(32,F0 fun x _=>strings_IndexByte x.1 x.2.1)] f
theorem d1E:I8 (d1D N):=fun _ _ _ h=>o6 h (v8 (F1) G7)
def c3N:Nat->Hint:=fun i=>
 match i with
 |0=>⟨[],[0],[0,1],[],[0,1],[]⟩
 |100005=>⟨[0,1],[1],[],[],[],[]⟩
 |_=>o3
abbrev b6U:Env:=S9 c3N (d1D N) FF FF
noncomputable abbrev a4x:Code:=V7 (m9 Tryz.f16) [false,false]
abbrev c3M:=A8 (b6U N) Tryz.f16 (d1F N) d1G
abbrev a9z:List (Nat×Sl):=[(0,.box 0 0)]
abbrev a9y:List (Nat×Sb):=[(0,.cells [V1,V0,.row 1]),(1,.row 42 τ1 false)]
def b5h(a:c8)(b:List τ0)(c:Int):St:=⟨78,[(0,.box 0 0)],[(0,.cells [.v .str a,.v τ2 c,.row 1]),(1,.row 42 τ1 false b)]⟩
def a6N(a:c8)(b:List τ0)(c:Int):St:=⟨78,[],[(0,.cells [.v .str a,.v τ2 c,.row 1]),(1,.row 42 τ1 false b)]⟩
def d6P(a:c8)(b:List τ0)(c:Int)(k:Ex->St->Option τ19):Option τ19:=b5g N a b (fun e=>k (.exit 0) (a6N a b e)) N c
abbrev c5Q:FV a9z->HV a9y->(Ex->St->Option τ19)->Option τ19:=fun _ y k=>d6P N y.1.1 y.2.1 y.1.2.1 k
def b5i:Nat->Code->St->(Ex->St->Option τ19)->Option τ19:=fun i c=>
 match i with
 |0=>(LPc 78 a9z a9y (c5Q N) (fun st k=>iter (c3N 0) (V4 (b6U N) N c 0) N st k))
 |i=>fun st k=>iter (c3N i) (V4 (b6U N) N c i) N st k
theorem c3L(a:c8)(b:List τ0)(KX:Nat->St->Option τ19)(I:St->Option τ19)(c:Int):
  a0b (b5i N) (b6U N) a4x 0 (b5h a b c) (p6 (c3N 0) I KX (c3M N))=a8E N a b (fun e=>KX 0 (a6N a b e)) (fun c=>I (b5h a b c)) c:=by kernel_rfl
theorem d1C:∀x y k,(∀st,k .ret st=(c3M N) st)->iter (c3N 0) (V4 (b6U N) N a4x 0) N ⟨78,Y7 a9z x,Y8 a9y y⟩ k=c5Q N x y k:=fun _ y k hk=>
 j9 (S:=(Int)×Unit) (c3N 0) _ (a0b (b5i N) (b6U N) a4x 0) (c3M N) (k9 _ _ N _ a4x 0 (show LoopsOk (b5i N) (b6U N) N (c3M N) []from trivial)) (fun s=>b5h y.1.1 y.2.1 s.1) k hk
  (fun self s=>a8E N y.1.1 y.2.1 (fun a=>k (.exit 0) (a6N y.1.1 y.2.1 a)) (fun b=>self (b,())) s.1) (fun n s=>b5g N y.1.1 y.2.1 (fun a=>k (.exit 0) (a6N y.1.1 y.2.1 a)) n s.1) (fun _=>rfl) (fun _ _=>rfl)
  (fun I s=>c3L N y.1.1 y.2.1 (fun j=>k (.exit j)) I s.1) N (y.1.2.1,())
theorem e0f:F7 (b5i N) (b6U N) N (c3M N) 0 a4x:=fun st k hk=>p8 78 a9z a9y _ _ (c3M N) (d1C N) _ st k hk (rfl)
theorem d6Q(x:SV [.box 0 0])(y:BV [.cells [V1,V0,.row 1],.row 42 τ1 false]):F5 (b6U N) Tryz.f16 (d1F N) d1G (b5i N) x y=D9 N y.1.1 y.1.2.1 y.2.1:=by kernel_rfl
theorem d1H:P7 16 (d1F N):=
 a1X (d1E N) Tryz.func16 rfl Tryz.call16 (d1F N) d1G (fun _ _=>rfl) N (b5i N) (show LoopsOk (b5i N) (b6U N) N (c3M N) [(0,a4x)]from⟨e0f N,trivial⟩) (d6Q N)
end
end
end Go.Proofs.YtolpmfhiegpohaaGreatDoor
