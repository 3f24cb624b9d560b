/- What functions of the program compute, as plain functions (printed). -/
import Derived.Test.YtolpmfhiegpohaaGreatDoorQPaF18
namespace Go.Proofs.YtolpmfhiegpohaaGreatDoor
set_option maxRecDepth 100000
set_option linter.unusedVariables false
open Go Go.RowKit
noncomputable section
noncomputable section
variable(N:Nat)
def b6r(_N:Nat)(b c:List c8)(e:Int)(k0:Option Bool)(self:ρ29)(a:Int):Option Bool:=br (decide (a<e)) (f5 (l6 b a) fun g=>f5 (l6 c a) fun l=>br (!(g==l)) (some false) (self (IntKind.i64.wrap (a+1)))) (k0)
def d40(N:Nat)(a b:List c8)(c:Int)(k0:Option Bool):Nat->Int->Option Bool|0,_=>none|n+1,e=>b6r N a b c k0 (d40 N a b c k0 n) e
def A3(a b:List c8):Option Bool:=br ((a.length:Int) !=(b.length:Int)) (some false) (d40 N a b (a.length:Int) (some true) N 0)
abbrev e5u:=P4 [V4,V4] [] [V2] [] (Bool) fun z=>((z,()),())
abbrev z8g:AF:=e5u fun x _=>A3 N x.1 x.2.1
abbrev e09:SV [V2]->BV []->Bool:=fun x _=>x.1
def e3J(_N:Nat):FuncId->Option Tmp->Option AF:=fun f _=>O5 [] f
theorem d7Y:I8 (e3J N):=fun _ _ _ h=>o6 h G7
def z8h:Nat->Hint:=fun i=>
 match i with
 |0=>⟨[],[0,1,12,13],[],[],[],[]⟩
 |_=>o3
abbrev z8E:Env:=S9 z8h (e3J N) FF FF
noncomputable abbrev c8J:Code:=V7 (m9 Tryz.f23) [true,true,false,true,false,false]
abbrev z8R:=A8 (z8E N) Tryz.f23 (z8g N) e09
abbrev b3g:List (Nat×Sl):=[(0,V4),(1,V4),(12,V0),(13,V0)]
abbrev b3f:List (Nat×Sb):=[]
def b9k(a b:List c8)(c e:Int):St:=⟨26,[(0,.v V6 a),(1,.v V6 b),(12,.v τ2 c),(13,.v τ2 e)],[]⟩
def b0s(_a _b:List c8)(_c:Int):St:=⟨26,[],[]⟩
def e06(a b:List c8)(c e:Int)(k:Ex->St->Option Bool):Option Bool:=d40 N a b c (k (.exit 0) (b0s a b c)) N e
abbrev d41:FV b3g->HV b3f->(Ex->St->Option Bool)->Option Bool:=fun x _ k=>e06 N x.1 x.2.1 x.2.2.1 x.2.2.2.1 k
def c4I:Nat->Code->St->(Ex->St->Option Bool)->Option Bool:=fun i c=>
 match i with
 |0=>(LPc 26 b3g b3f (d41 N) (fun st k=>iter (z8h 0) (k6 (z8E N) N c 0) N st k))
 |i=>fun st k=>iter (z8h i) (k6 (z8E N) N c i) N st k
theorem c8I(a b:List c8)(c:Int)(KX:Nat->St->Option Bool)(I:St->Option Bool)(e:Int):
  k7 (c4I N) (z8E N) c8J 0 (b9k a b c e) (p6 (z8h 0) I KX (z8R N))=b6r N a b c (KX 0 (b0s a b c)) (fun e=>I (b9k a b c e)) e:=by kernel_rfl
theorem d7X:∀x y k,(∀st,k .ret st=(z8R N) st)->iter (z8h 0) (k6 (z8E N) N c8J 0) N ⟨26,Y7 b3g x,Y8 b3f y⟩ k=d41 N x y k:=fun x _ k hk=>
 j9 (S:=(Int)×Unit) (z8h 0) _ (k7 (c4I N) (z8E N) c8J 0) (z8R N) (k9 _ _ N _ c8J 0 (show LoopsOk (c4I N) (z8E N) N (z8R N) []from trivial)) (fun s=>b9k x.1 x.2.1 x.2.2.1 s.1) k hk
  (fun self s=>b6r N x.1 x.2.1 x.2.2.1 (k (.exit 0) (b0s x.1 x.2.1 x.2.2.1)) (fun a=>self (a,())) s.1) (fun n s=>d40 N x.1 x.2.1 x.2.2.1 (k (.exit 0) (b0s x.1 x.2.1 x.2.2.1)) n s.1) (fun _=>rfl) (fun _ _=>rfl)
  (fun I s=>c8I N x.1 x.2.1 x.2.2.1 (fun j=>k (.exit j)) I s.1) N (x.2.2.2.1,())
theorem e3K:F7 (c4I N) (z8E N) N (z8R N) 0 c8J:=fun st k hk=>p8 26 b3g b3f _ _ (z8R N) (d7X N) _ st k hk (rfl)
theorem e08(x:SV [V4,V4])(y:BV []):F5 (z8E N) Tryz.f23 (z8g N) e09 (c4I N) x y=A3 N x.1 x.2.1:=by kernel_rfl
theorem c6z:P7 23 (z8g N):=
 a1X (d7Y N) Tryz.func23 rfl Tryz.call23 (z8g N) e09 (fun _ _=>rfl) N (c4I N) (show LoopsOk (c4I N) (z8E N) N (z8R N) [(0,c8J)]from⟨e3K N,trivial⟩) (e08 N)
abbrev b4G:=P4 [.v τ4,.v τ4] [] [V2] [] (Bool) fun z=>((z,()),())
def a8P(_N:Nat)(d8:ρ23)(b:Int)(c e:List GExpr)(k0:Option Bool)(self:ρ29)(a:Int):Option Bool:=br (decide (a<b)) (f5 (l6 c a) fun g=>f5 (l6 e a) fun l=>f5 (d8 g l) fun m=>br (!m) (some false) (self (IntKind.i64.wrap (a+1)))) (k0)
def c1Y(N:Nat)(d8:ρ23)(a:Int)(b c:List GExpr)(k0:Option Bool):Nat->Int->Option Bool|0,_=>none|n+1,e=>a8P N d8 a b c k0 (c1Y N d8 a b c k0 n) e
def R3(d8:ρ23)(a b:GExpr):Option Bool:=f5 (br (a.kind !=b.kind) (some true) (br (!(a.text==b.text)) (some true) (br (a.number !=b.number) (some true) (f5 (A3 N a.keys b.keys) fun c=>br (!c) (some true) (some ((a.kids.length:Int) !=(b.kids.length:Int))))))) fun e=>br (e) (some false) (c1Y N d8 (a.kids.length:Int) a.kids b.kids (some true) N 0)
abbrev e3R:=P4 [.v τ4,.v τ4] [] [V2] [] (Bool) fun z=>((z,()),())
abbrev d8a(d8:ρ23):AF:=e3R fun x _=>R3 N d8 x.1 x.2.1
abbrev d5p:SV [V2]->BV []->Bool:=fun x _=>x.1
def d5n(d8:ρ23):FuncId->Option Tmp->Option AF:=fun f _=>O5 [(23,z8g N),(24,b4G fun x _=>d8 x.1 x.2.1)] f
theorem d5o(d8:ρ23)(a08:Sound Tryz.prog GW B7 24 (b4G fun x y=>d8 x.1 x.2.1)):∀f q F,d5n N d8 f q=some F->Sound Tryz.prog GW B7 f F:=fun _ _ _ h=>o6 h (v8 (c6z N) (v8 (a08) G7))
def c4T:Nat->Hint:=fun i=>
 match i with
 |0=>⟨[],[2,3,44,45],[1002,1003],[],[],[]⟩
 |_=>o3
abbrev b69(d8:ρ23):Env:=S9 c4T (d5n N d8) (fun _=>false) (fun _=>false) |>.jk (fun i=>match i with|1=>some 41|_=>none)
abbrev c4S(d8:ρ23):=A8 (b69 N d8) Tryz.f24 (d8a N d8) d5p
noncomputable abbrev b8D:Code:=V7 (m9 Tryz.f24) [true,true,false,true,false,false]
abbrev b0C:List (Nat×Sl):=[(2,.box 1002 0),(3,.box 1003 0),(44,V0),(45,V0)]
abbrev b0B:List (Nat×Sb):=[(1002,.cells [V0,V1,V0,V4,.v (.sl τ4)]),(1003,.cells [V0,V1,V0,V4,.v (.sl τ4)])]
def b6D(a b:Int)(c:c8)(e:Int)(g:List c8)(l:List GExpr)(m:Int)(o:c8)(p:Int)(q:List c8)(r:List GExpr)(t:Int):St:=⟨61,[(2,.box 1002 0),(3,.box 1003 0),(44,.v τ2 a),(45,.v τ2 t)],[(1002,.cells [.v τ2 b,.v .str c,.v τ2 e,.v V6 g,.v (.sl τ4) l]),(1003,.cells [.v τ2 m,.v .str o,.v τ2 p,.v V6 q,.v (.sl τ4) r])]⟩
def a7h(_a _b:Int)(_c:c8)(_e:Int)(_g:List c8)(_l:List GExpr)(_m:Int)(_o:c8)(_p:Int)(_q:List c8)(_r:List GExpr):St:=⟨61,[],[]⟩
def d78(d8:ρ23)(a e:Int)(g:c8)(l:Int)(m:List c8)(b:List GExpr)(o:Int)(p:c8)(q:Int)(r:List c8)(c:List GExpr)(t:Int)(k:Ex->St->Option Bool):Option Bool:=c1Y N d8 a b c (k (.exit 0) (a7h a e g l m b o p q r c)) N t
abbrev c6E(d8:ρ23):FV b0C->HV b0B->(Ex->St->Option Bool)->Option Bool:=fun x y k=>d78 N d8 x.2.2.1 y.1.1 y.1.2.1 y.1.2.2.1 y.1.2.2.2.1 y.1.2.2.2.2.1 y.2.1.1 y.2.1.2.1 y.2.1.2.2.1 y.2.1.2.2.2.1 y.2.1.2.2.2.2.1 x.2.2.2.1 k
def b6E(d8:ρ23):Nat->Code->St->(Ex->St->Option Bool)->Option Bool:=fun i c=>
 match i with
 |0=>(LPc 61 b0C b0B (c6E N d8) (fun st k=>iter (c4T 0) (k6 (b69 N d8) N c 0) N st k))
 |i=>fun st k=>iter (c4T i) (k6 (b69 N d8) N c i) N st k
theorem c4R(d8:ρ23)(a g:Int)(l:c8)(m:Int)(o:List c8)(b:List GExpr)(p:Int)(q:c8)(r:Int)(t:List c8)(c:List GExpr)(KX:Nat->St->Option Bool)(I:St->Option Bool)(e:Int):
  k7 (b6E N d8) (b69 N d8) b8D 0 (b6D a g l m o b p q r t c e) (p6 (c4T 0) I KX (c4S N d8))=a8P N d8 a b c (KX 0 (a7h a g l m o b p q r t c)) (fun e=>I (b6D a g l m o b p q r t c e)) e:=by kernel_rfl
theorem d5m(d8:ρ23):∀x y k,(∀st,k .ret st=(c4S N d8) st)->iter (c4T 0) (k6 (b69 N d8) N b8D 0) N ⟨61,Y7 b0C x,Y8 b0B y⟩ k=c6E N d8 x y k:=fun x y k hk=>
 j9 (S:=(Int)×Unit) (c4T 0) _ (k7 (b6E N d8) (b69 N d8) b8D 0) (c4S N d8) (k9 _ _ N _ b8D 0 (show LoopsOk (b6E N d8) (b69 N d8) N (c4S N d8) []from trivial)) (fun s=>b6D x.2.2.1 y.1.1 y.1.2.1 y.1.2.2.1 y.1.2.2.2.1 y.1.2.2.2.2.1 y.2.1.1 y.2.1.2.1 y.2.1.2.2.1 y.2.1.2.2.2.1 y.2.1.2.2.2.2.1 s.1) k hk
  (fun self s=>a8P N d8 x.2.2.1 y.1.2.2.2.2.1 y.2.1.2.2.2.2.1 (k (.exit 0) (a7h x.2.2.1 y.1.1 y.1.2.1 y.1.2.2.1 y.1.2.2.2.1 y.1.2.2.2.2.1 y.2.1.1 y.2.1.2.1 y.2.1.2.2.1 y.2.1.2.2.2.1 y.2.1.2.2.2.2.1)) (fun a=>self (a,())) s.1) (fun n s=>c1Y N d8 x.2.2.1 y.1.2.2.2.2.1 y.2.1.2.2.2.2.1 (k (.exit 0) (a7h x.2.2.1 y.1.1 y.1.2.1 y.1.2.2.1 y.1.2.2.2.1 y.1.2.2.2.2.1 y.2.1.1 y.2.1.2.1 y.2.1.2.2.1 y.2.1.2.2.2.1 y.2.1.2.2.2.2.1)) n s.1) (fun _=>rfl) (fun _ _=>rfl)
  (fun I s=>c4R N d8 x.2.2.1 y.1.1 y.1.2.1 y.1.2.2.1 y.1.2.2.2.1 y.1.2.2.2.2.1 y.2.1.1 y.2.1.2.1 y.2.1.2.2.1 y.2.1.2.2.2.1 y.2.1.2.2.2.2.1 (fun j=>k (.exit j)) I s.1) N (x.2.2.2.1,())
theorem e1f(d8:ρ23):F7 (b6E N d8) (b69 N d8) N (c4S N d8) 0 b8D:=fun st k hk=>p8 61 b0C b0B _ _ (c4S N d8) (d5m N d8) _ st k hk (rfl)
theorem d79(d8:ρ23)(x:SV [.v τ4,.v τ4])(y:BV []):F5 (b69 N d8) Tryz.f24 (d8a N d8) d5p (b6E N d8) x y=R3 N d8 x.1 x.2.1:=by kernel_rfl
theorem d5q(d8:ρ23)(a08:Sound Tryz.prog GW B7 24 (b4G fun x y=>d8 x.1 x.2.1)):Sound Tryz.prog GW B7 24 (d8a N d8):=
 a2A (EnvOk.jk (y6 c4T (d5n N d8) _ _ (d5o N d8 a08)) _) Tryz.func24 rfl Tryz.call24 (d8a N d8) d5p (fun _ _=>rfl) N (b6E N d8) (show LoopsOk (b6E N d8) (b69 N d8) N (c4S N d8) [(0,b8D)]from⟨e1f N d8,trivial⟩) (d79 N d8)
def I6(N:Nat):Nat->GExpr->GExpr->Option (Bool)|0=>fun _ _=>none|d+1=>R3 N (I6 N d)
theorem b7R(N:Nat):∀d,Sound Tryz.prog GW B7 24 (b4G fun x y=>I6 N d x.1 x.2.1)
 |0=>Sound.never Tryz.call24 (fun _ _=>rfl)
 |d+1=>d5q N (I6 N d) (b7R N d)
abbrev c1P:=P4 [.v τ6,.v τ6,V2] [] [V2] [] (Bool) fun z=>((z,()),())
def a8L(c7:ρ21)(e:Int)(b c:List (c8×GExpr))(k2:Option Bool)(self:ρ29)(a:Int):Option Bool:=br (decide (a<e)) (f5 (f5 (l6 b a) fun g=>f5 (l6 c a) fun l=>br (!(g.1==l.1)) (some true) (f5 (l6 b a) fun m=>f5 (l6 c a) fun o=>f5 (I6 N N m.2 o.2) fun p=>some (!p))) fun q=>br (q) (some false) (self (IntKind.i64.wrap (a+1)))) (k2)
def c1G(N:Nat)(c7:ρ21)(a:Int)(b c:List (c8×GExpr))(k2:Option Bool):Nat->Int->Option Bool|0,_=>none|n+1,e=>a8L N c7 a b c k2 (c1G N c7 a b c k2 n) e
def a4j(c7:ρ21)(g:List GStmt)(e:Bool)(l:List GStmt)(m:Int)(k0:Option Bool)(self:ρ29)(c:Int):Option Bool:=br (decide (c<m)) (f5 (l6 l c) fun a=>f5 (l6 g c) fun b=>f5 (br (a.kind !=b.kind) (some true) (br (!(a.name==b.name)) (some true) (br (!(a.text==b.text)) (some true) (f5 (A3 N a.params b.params) fun o=>br (!o) (some true) (br (e) (some (a.at_ !=b.at_)) (some false)))))) fun p=>br (p) (some false) (f5 (f5 (I6 N N (GExpr.mk a.expr.kind a.expr.text a.expr.number a.expr.keys a.expr.kids) (GExpr.mk b.expr.kind b.expr.text b.expr.number b.expr.keys b.expr.kids)) fun q=>br (!q) (some true) (br ((a.args.length:Int) !=(b.args.length:Int)) (some true) (f5 (c7 a.body b.body e) fun r=>br (!r) (some true) (f5 (c7 a.els b.els e) fun t=>some (!t))))) fun u=>br (u) (some false) (c1G N c7 (a.args.length:Int) a.args b.args (self (IntKind.i64.wrap (c+1))) N 0))) (k0)
def c1F(N:Nat)(c7:ρ21)(a:List GStmt)(b:Bool)(c:List GStmt)(e:Int)(k0:Option Bool):Nat->Int->Option Bool|0,_=>none|n+1,g=>a4j N c7 a b c e k0 (c1F N c7 a b c e k0 n) g
def E7(c7:ρ21)(a b:List GStmt)(c:Bool):Option Bool:=br ((a.length:Int) !=(b.length:Int)) (some false) (c1F N c7 b c a (a.length:Int) (some true) N 0)
abbrev e23:=P4 [.v τ6,.v τ6,V2] [] [V2] [] (Bool) fun z=>((z,()),())
abbrev d7p(c7:ρ21):AF:=e23 fun x _=>E7 N c7 x.1 x.2.1 x.2.2.1
abbrev d3C:SV [V2]->BV []->Bool:=fun x _=>x.1
def d3z(c7:ρ21):FuncId->Option Tmp->Option AF:=fun f _=>O5 [(13,c1P fun x _=>c7 x.1 x.2.1 x.2.2.1),(23,z8g N),(24,b4G fun x _=>I6 N N x.1 x.2.1)] f
theorem d3A(c7:ρ21)(X9:Sound Tryz.prog GW B7 13 (c1P fun x y=>c7 x.1 x.2.1 x.2.2.1)):∀f q F,d3z N c7 f q=some F->Sound Tryz.prog GW B7 f F:=fun _ _ _ h=>o6 h (v8 (X9) (v8 (c6z N) (v8 (b7R N N) G7)))
def b5W:Nat->Hint:=fun i=>
 match i with
 |0=>⟨[],[1,2,16,17,18],[],[],[],[]⟩
 |2=>⟨[],[1,2,8,9,16,17,18,99,100],[1008,1009],[1,2,16,17,18],[],[]⟩
 |_=>o3
abbrev a7m(c7:ρ21):Env:=S9 b5W (d3z N c7) (fun _=>false) (fun _=>false) |>.jk (fun i=>match i with|7=>some 63|9=>some 96|14=>some 131|_=>none)
abbrev b2b(c7:ρ21):=A8 (a7m N c7) Tryz.f13 (d7p N c7) d3C
noncomputable abbrev b8o:Code:=V7 (m9 Tryz.f13) [true,true,false,true,false,false]
noncomputable abbrev b5V:Code:=V7 (m9 Tryz.f13) [true,true,false,true,false,false,true,true,false,false,true,true,true,true,true,false,false]
abbrev a92:List (Nat×Sl):=[(1,.v τ6),(2,V2),(8,.box 1008 0),(9,.box 1009 0),(16,.v τ6),(17,V0),(18,V0),(99,V0),(100,V0)]
abbrev a91:List (Nat×Sb):=[(1008,.cells [V0,V1,V1,V4,.v (.sl τ9),V0,V1,V0,V4,.v (.sl τ4),.v τ6,.v τ6,V0]),(1009,.cells [V0,V1,V1,V4,.v (.sl τ9),V0,V1,V0,V4,.v (.sl τ4),.v τ6,.v τ6,V0])]
def b5U(a:List GStmt)(b:Bool)(c:List GStmt)(e g:Int)(l m:Int)(o p:c8)(q:List c8)(r:List (c8×GExpr))(t:Int)(u:c8)(w:Int)(B:List c8)(C:List GExpr)(D E:List GStmt)(H J:Int)(K L:c8)(O:List c8)(Q:List (c8×GExpr))(R:Int)(T:c8)(U:Int)(V:List c8)(W:List GExpr)(Y aa:List GStmt)(ab ac:Int):St:=⟨134,[(1,.v τ6 a),(2,.v .bool b),(8,.box 1008 0),(9,.box 1009 0),(16,.v τ6 c),(17,.v τ2 e),(18,.v τ2 g),(99,.v τ2 l),(100,.v τ2 ac)],[(1008,.cells [.v τ2 m,.v .str o,.v .str p,.v V6 q,.v (.sl τ9) r,.v τ2 t,.v .str u,.v τ2 w,.v V6 B,.v (.sl τ4) C,.v τ6 D,.v τ6 E,.v τ2 H]),(1009,.cells [.v τ2 J,.v .str K,.v .str L,.v V6 O,.v (.sl τ9) Q,.v τ2 R,.v .str T,.v τ2 U,.v V6 V,.v (.sl τ4) W,.v τ6 Y,.v τ6 aa,.v τ2 ab])]⟩
def a60(a:List GStmt)(b:Bool)(c:List GStmt)(e g:Int)(_l _m:Int)(_o _p:c8)(_q:List c8)(_r:List (c8×GExpr))(_t:Int)(_u:c8)(_w:Int)(_B:List c8)(_C:List GExpr)(_D _E:List GStmt)(_H _J:Int)(_K _L:c8)(_O:List c8)(_Q:List (c8×GExpr))(_R:Int)(_T:c8)(_U:Int)(_V:List c8)(_W:List GExpr)(_Y _aa:List GStmt)(_ab:Int):St:=⟨134,[(1,.v τ6 a),(2,.v .bool b),(16,.v τ6 c),(17,.v τ2 e),(18,.v τ2 g)],[]⟩
def d7n(c7:ρ21)(e:List GStmt)(g:Bool)(l:List GStmt)(m o:Int)(a p:Int)(q r:c8)(t:List c8)(b:List (c8×GExpr))(u:Int)(v:c8)(w:Int)(B:List c8)(C:List GExpr)(D E:List GStmt)(H J:Int)(K L:c8)(O:List c8)(c:List (c8×GExpr))(Q:Int)(R:c8)(T:Int)(U:List c8)(V:List GExpr)(W Y:List GStmt)(aa ab:Int)(k:Ex->St->Option Bool):Option Bool:=c1G N c7 a b c (k (.exit 2) (a60 e g l m o a p q r t b u v w B C D E H J K L O c Q R T U V W Y aa)) N ab
abbrev c6g(c7:ρ21):FV a92->HV a91->(Ex->St->Option Bool)->Option Bool:=fun x y k=>d7n N c7 x.1 x.2.1 x.2.2.2.2.1 x.2.2.2.2.2.1 x.2.2.2.2.2.2.1 x.2.2.2.2.2.2.2.1 y.1.1 y.1.2.1 y.1.2.2.1 y.1.2.2.2.1 y.1.2.2.2.2.1 y.1.2.2.2.2.2.1 y.1.2.2.2.2.2.2.1 y.1.2.2.2.2.2.2.2.1 y.1.2.2.2.2.2.2.2.2.1 y.1.2.2.2.2.2.2.2.2.2.1 y.1.2.2.2.2.2.2.2.2.2.2.1 y.1.2.2.2.2.2.2.2.2.2.2.2.1 y.1.2.2.2.2.2.2.2.2.2.2.2.2.1 y.2.1.1 y.2.1.2.1 y.2.1.2.2.1 y.2.1.2.2.2.1 y.2.1.2.2.2.2.1 y.2.1.2.2.2.2.2.1 y.2.1.2.2.2.2.2.2.1 y.2.1.2.2.2.2.2.2.2.1 y.2.1.2.2.2.2.2.2.2.2.1 y.2.1.2.2.2.2.2.2.2.2.2.1 y.2.1.2.2.2.2.2.2.2.2.2.2.1 y.2.1.2.2.2.2.2.2.2.2.2.2.2.1 y.2.1.2.2.2.2.2.2.2.2.2.2.2.2.1 x.2.2.2.2.2.2.2.2.1 k
abbrev a90:List (Nat×Sl):=[(1,.v τ6),(2,V2),(16,.v τ6),(17,V0),(18,V0)]
abbrev a9Z:List (Nat×Sb):=[]
def b5T(a:List GStmt)(b:Bool)(c:List GStmt)(e g:Int):St:=⟨134,[(1,.v τ6 a),(2,.v .bool b),(16,.v τ6 c),(17,.v τ2 e),(18,.v τ2 g)],[]⟩
def a6Z(_a:List GStmt)(_b:Bool)(_c:List GStmt)(_e:Int):St:=⟨134,[],[]⟩
def d7m(c7:ρ21)(a:List GStmt)(b:Bool)(c:List GStmt)(e g:Int)(k:Ex->St->Option Bool):Option Bool:=c1F N c7 a b c e (k (.exit 0) (a6Z a b c e)) N g
abbrev c6f(c7:ρ21):FV a90->HV a9Z->(Ex->St->Option Bool)->Option Bool:=fun x _ k=>d7m N c7 x.1 x.2.1 x.2.2.1 x.2.2.2.1 x.2.2.2.2.1 k
def a5s(c7:ρ21):Nat->Code->St->(Ex->St->Option Bool)->Option Bool:=fun i c=>
 match i with
 |0=>(LPc 134 a90 a9Z (c6f N c7) (fun st k=>iter (b5W 0) (k6 (a7m N c7) N c 0) N st k))
 |2=>(LPc 134 a92 a91 (c6g N c7) (fun st k=>iter (b5W 2) (k6 (a7m N c7) N c 2) N st k))
 |i=>fun st k=>iter (b5W i) (k6 (a7m N c7) N c i) N st k
theorem c4k(c7:ρ21)(g:List GStmt)(l:Bool)(m:List GStmt)(o p:Int)(a q:Int)(r t:c8)(u:List c8)(b:List (c8×GExpr))(v:Int)(w:c8)(B:Int)(C:List c8)(D:List GExpr)(E H:List GStmt)(J K:Int)(L O:c8)(Q:List c8)(c:List (c8×GExpr))(R:Int)(T:c8)(U:Int)(V:List c8)(W:List GExpr)(Y aa:List GStmt)(ab:Int)(KX:Nat->St->Option Bool)(I:St->Option Bool)(e:Int):
  k7 (a5s N c7) (a7m N c7) b5V 2 (b5U g l m o p a q r t u b v w B C D E H J K L O Q c R T U V W Y aa ab e) (p6 (b5W 2) I KX (b2b N c7))=a8L N c7 a b c (KX 2 (a60 g l m o p a q r t u b v w B C D E H J K L O Q c R T U V W Y aa ab)) (fun e=>I (b5U g l m o p a q r t u b v w B C D E H J K L O Q c R T U V W Y aa ab e)) e:=by kernel_rfl
theorem d3y(c7:ρ21):∀x y k,(∀st,k .ret st=(b2b N c7) st)->iter (b5W 2) (k6 (a7m N c7) N b5V 2) N ⟨134,Y7 a92 x,Y8 a91 y⟩ k=c6g N c7 x y k:=fun x y k hk=>
 j9 (S:=(Int)×Unit) (b5W 2) _ (k7 (a5s N c7) (a7m N c7) b5V 2) (b2b N c7) (k9 _ _ N _ b5V 2 (show LoopsOk (a5s N c7) (a7m N c7) N (b2b N c7) []from trivial)) (fun s=>b5U x.1 x.2.1 x.2.2.2.2.1 x.2.2.2.2.2.1 x.2.2.2.2.2.2.1 x.2.2.2.2.2.2.2.1 y.1.1 y.1.2.1 y.1.2.2.1 y.1.2.2.2.1 y.1.2.2.2.2.1 y.1.2.2.2.2.2.1 y.1.2.2.2.2.2.2.1 y.1.2.2.2.2.2.2.2.1 y.1.2.2.2.2.2.2.2.2.1 y.1.2.2.2.2.2.2.2.2.2.1 y.1.2.2.2.2.2.2.2.2.2.2.1 y.1.2.2.2.2.2.2.2.2.2.2.2.1 y.1.2.2.2.2.2.2.2.2.2.2.2.2.1 y.2.1.1 y.2.1.2.1 y.2.1.2.2.1 y.2.1.2.2.2.1 y.2.1.2.2.2.2.1 y.2.1.2.2.2.2.2.1 y.2.1.2.2.2.2.2.2.1 y.2.1.2.2.2.2.2.2.2.1 y.2.1.2.2.2.2.2.2.2.2.1 y.2.1.2.2.2.2.2.2.2.2.2.1 y.2.1.2.2.2.2.2.2.2.2.2.2.1 y.2.1.2.2.2.2.2.2.2.2.2.2.2.1 y.2.1.2.2.2.2.2.2.2.2.2.2.2.2.1 s.1) k hk
  (fun self s=>a8L N c7 x.2.2.2.2.2.2.2.1 y.1.2.2.2.2.1 y.2.1.2.2.2.2.1 (k (.exit 2) (a60 x.1 x.2.1 x.2.2.2.2.1 x.2.2.2.2.2.1 x.2.2.2.2.2.2.1 x.2.2.2.2.2.2.2.1 y.1.1 y.1.2.1 y.1.2.2.1 y.1.2.2.2.1 y.1.2.2.2.2.1 y.1.2.2.2.2.2.1 y.1.2.2.2.2.2.2.1 y.1.2.2.2.2.2.2.2.1 y.1.2.2.2.2.2.2.2.2.1 y.1.2.2.2.2.2.2.2.2.2.1 y.1.2.2.2.2.2.2.2.2.2.2.1 y.1.2.2.2.2.2.2.2.2.2.2.2.1 y.1.2.2.2.2.2.2.2.2.2.2.2.2.1 y.2.1.1 y.2.1.2.1 y.2.1.2.2.1 y.2.1.2.2.2.1 y.2.1.2.2.2.2.1 y.2.1.2.2.2.2.2.1 y.2.1.2.2.2.2.2.2.1 y.2.1.2.2.2.2.2.2.2.1 y.2.1.2.2.2.2.2.2.2.2.1 y.2.1.2.2.2.2.2.2.2.2.2.1 y.2.1.2.2.2.2.2.2.2.2.2.2.1 y.2.1.2.2.2.2.2.2.2.2.2.2.2.1 y.2.1.2.2.2.2.2.2.2.2.2.2.2.2.1)) (fun a=>self (a,())) s.1) (fun n s=>c1G N c7 x.2.2.2.2.2.2.2.1 y.1.2.2.2.2.1 y.2.1.2.2.2.2.1 (k (.exit 2) (a60 x.1 x.2.1 x.2.2.2.2.1 x.2.2.2.2.2.1 x.2.2.2.2.2.2.1 x.2.2.2.2.2.2.2.1 y.1.1 y.1.2.1 y.1.2.2.1 y.1.2.2.2.1 y.1.2.2.2.2.1 y.1.2.2.2.2.2.1 y.1.2.2.2.2.2.2.1 y.1.2.2.2.2.2.2.2.1 y.1.2.2.2.2.2.2.2.2.1 y.1.2.2.2.2.2.2.2.2.2.1 y.1.2.2.2.2.2.2.2.2.2.2.1 y.1.2.2.2.2.2.2.2.2.2.2.2.1 y.1.2.2.2.2.2.2.2.2.2.2.2.2.1 y.2.1.1 y.2.1.2.1 y.2.1.2.2.1 y.2.1.2.2.2.1 y.2.1.2.2.2.2.1 y.2.1.2.2.2.2.2.1 y.2.1.2.2.2.2.2.2.1 y.2.1.2.2.2.2.2.2.2.1 y.2.1.2.2.2.2.2.2.2.2.1 y.2.1.2.2.2.2.2.2.2.2.2.1 y.2.1.2.2.2.2.2.2.2.2.2.2.1 y.2.1.2.2.2.2.2.2.2.2.2.2.2.1 y.2.1.2.2.2.2.2.2.2.2.2.2.2.2.1)) n s.1) (fun _=>rfl) (fun _ _=>rfl)
  (fun I s=>c4k N c7 x.1 x.2.1 x.2.2.2.2.1 x.2.2.2.2.2.1 x.2.2.2.2.2.2.1 x.2.2.2.2.2.2.2.1 y.1.1 y.1.2.1 y.1.2.2.1 y.1.2.2.2.1 y.1.2.2.2.2.1 y.1.2.2.2.2.2.1 y.1.2.2.2.2.2.2.1 y.1.2.2.2.2.2.2.2.1 y.1.2.2.2.2.2.2.2.2.1 y.1.2.2.2.2.2.2.2.2.2.1 y.1.2.2.2.2.2.2.2.2.2.2.1 y.1.2.2.2.2.2.2.2.2.2.2.2.1 y.1.2.2.2.2.2.2.2.2.2.2.2.2.1 y.2.1.1 y.2.1.2.1 y.2.1.2.2.1 y.2.1.2.2.2.1 y.2.1.2.2.2.2.1 y.2.1.2.2.2.2.2.1 y.2.1.2.2.2.2.2.2.1 y.2.1.2.2.2.2.2.2.2.1 y.2.1.2.2.2.2.2.2.2.2.1 y.2.1.2.2.2.2.2.2.2.2.2.1 y.2.1.2.2.2.2.2.2.2.2.2.2.1 y.2.1.2.2.2.2.2.2.2.2.2.2.2.1 y.2.1.2.2.2.2.2.2.2.2.2.2.2.2.1 (fun j=>k (.exit j)) I s.1) N (x.2.2.2.2.2.2.2.2.1,())
theorem d3B(c7:ρ21):F7 (a5s N c7) (a7m N c7) N (b2b N c7) 2 b5V:=fun st k hk=>p8 134 a92 a91 _ _ (b2b N c7) (d3y N c7) _ st k hk (rfl)
theorem c4j(c7:ρ21)(a:List GStmt)(b:Bool)(c:List GStmt)(e:Int)(KX:Nat->St->Option Bool)(I:St->Option Bool)(g:Int):
  k7 (a5s N c7) (a7m N c7) b8o 0 (b5T a b c e g) (p6 (b5W 0) I KX (b2b N c7))=a4j N c7 a b c e (KX 0 (a6Z a b c e)) (fun g=>I (b5T a b c e g)) g:=by kernel_rfl
theorem d3x(c7:ρ21):∀x y k,(∀st,k .ret st=(b2b N c7) st)->iter (b5W 0) (k6 (a7m N c7) N b8o 0) N ⟨134,Y7 a90 x,Y8 a9Z y⟩ k=c6f N c7 x y k:=fun x _ k hk=>
 j9 (S:=(Int)×Unit) (b5W 0) _ (k7 (a5s N c7) (a7m N c7) b8o 0) (b2b N c7) (k9 _ _ N _ b8o 0 (show LoopsOk (a5s N c7) (a7m N c7) N (b2b N c7) [(2,b5V)]from⟨d3B N c7,trivial⟩)) (fun s=>b5T x.1 x.2.1 x.2.2.1 x.2.2.2.1 s.1) k hk
  (fun self s=>a4j N c7 x.1 x.2.1 x.2.2.1 x.2.2.2.1 (k (.exit 0) (a6Z x.1 x.2.1 x.2.2.1 x.2.2.2.1)) (fun a=>self (a,())) s.1) (fun n s=>c1F N c7 x.1 x.2.1 x.2.2.1 x.2.2.2.1 (k (.exit 0) (a6Z x.1 x.2.1 x.2.2.1 x.2.2.2.1)) n s.1) (fun _=>rfl) (fun _ _=>rfl)
  (fun I s=>c4j N c7 x.1 x.2.1 x.2.2.1 x.2.2.2.1 (fun j=>k (.exit j)) I s.1) N (x.2.2.2.2.1,())
theorem e0J(c7:ρ21):F7 (a5s N c7) (a7m N c7) N (b2b N c7) 0 b8o:=fun st k hk=>p8 134 a90 a9Z _ _ (b2b N c7) (d3x N c7) _ st k hk (rfl)
theorem d7o(c7:ρ21)(x:SV [.v τ6,.v τ6,V2])(y:BV []):F5 (a7m N c7) Tryz.f13 (d7p N c7) d3C (a5s N c7) x y=E7 N c7 x.1 x.2.1 x.2.2.1:=by kernel_rfl
theorem d3D(c7:ρ21)(X9:Sound Tryz.prog GW B7 13 (c1P fun x y=>c7 x.1 x.2.1 x.2.2.1)):Sound Tryz.prog GW B7 13 (d7p N c7):=
 a2A (EnvOk.jk (y6 b5W (d3z N c7) _ _ (d3A N c7 X9)) _) Tryz.func13 rfl Tryz.call13 (d7p N c7) d3C (fun _ _=>rfl) N (a5s N c7) (show LoopsOk (a5s N c7) (a7m N c7) N (b2b N c7) [(0,b8o),(2,b5V)]from⟨e0J N c7,d3B N c7,trivial⟩) (d7o N c7)
def H7(N:Nat):Nat->(List GStmt)->(List GStmt)->Bool->Option (Bool)|0=>fun _ _ _=>none|d+1=>E7 N (H7 N d)
theorem c1Q(N:Nat):∀d,Sound Tryz.prog GW B7 13 (c1P fun x y=>H7 N d x.1 x.2.1 x.2.2.1)
 |0=>Sound.never Tryz.call13 (fun _ _=>rfl)
 |d+1=>d3D N (H7 N d) (c1Q N d)
def Q7(a:UInt8):Option Bool:=f5 (G1 N a) fun b=>br (b) (some true) (f5 (G0 N a) fun c=>br (c) (some true) (some (a==95)))
abbrev e3a:=P4 [.v .u8] [] [V2] [] (Bool) fun z=>((z,()),())
abbrev e0O:AF:=e3a fun x _=>Q7 N x.1
theorem d31:P7 35 (e0O N):=
 V5 h0 [(33,c0H N),(36,b7P N)] (v8 (b1n N) (v8 (a54 N) G7)) Tryz.func35 rfl Tryz.call35 (e0O N) (fun x _=>x.1) (fun _ _=>rfl) N (fun _ _=>by kernel_rfl) rfl
end
end
noncomputable section
noncomputable section
variable(N:Nat)
def S3(_N:Nat)(b a:c8):Option Bool:=br (decide ((b.length:Int)>=(a.length:Int))) (f5 (slc b 0 (a.length:Int)) fun c=>some (c==a)) (some false)
abbrev e2w:=P4 [V1,V1] [] [V2] [] (Bool) fun z=>((z,()),())
abbrev e0n:AF:=e2w fun x _=>S3 N x.1 x.2.1
theorem d2b:P7 63 (e0n N):=
 V5 h0 [] G7 Tryz.func63 rfl Tryz.call63 (e0n N) (fun x _=>x.1) (fun _ _=>rfl) N (fun _ _=>by kernel_rfl) rfl
def S6(a b:c8):Option Bool:=f5 (S3 N a b) fun c=>some c
abbrev e3z:=P4 [V1,V1] [] [V2] [] (Bool) fun z=>((z,()),())
abbrev e01:AF:=e3z fun x _=>S6 N x.1 x.2.1
theorem d4N:P7 39 (e01 N):=
 V5 h0 [(63,e0n N)] (v8 (d2b N) G7) Tryz.func39 rfl Tryz.call39 (e01 N) (fun x _=>x.1) (fun _ _=>rfl) N (fun _ _=>by kernel_rfl) rfl
def a8F(_N:Nat)(b:c8)(g:List τ0)(k0 self:Int->Option τ26)(a:Int):Option τ26:=br (decide (a<(b.length:Int))) (f5 (l6 b a) fun c=>br (c==32) (self (IntKind.i64.wrap (a+1))) (br (c==9) (self (IntKind.i64.wrap (a+1))) (br (c==10) (self (IntKind.i64.wrap (a+1))) (br (c==13) (self (IntKind.i64.wrap (a+1))) (br (c==35) (f5 (slc b a (b.length:Int)) fun l=>f5 (strings_IndexByte l 10) fun e=>br (decide (e<0)) (self (IntKind.i64.wrap (a+(IntKind.i64.wrap ((b.length:Int)-a))))) (self (IntKind.i64.wrap (a+e)))) (some (b,(a,g)))))))) (k0 a)
def b5j(N:Nat)(a:c8)(b:List τ0)(k0:Int->Option τ26):Nat->Int->Option τ26|0,_=>none|n+1,c=>a8F N a b k0 (b5j N a b k0 n) c
def D9(a:c8)(c:Int)(b:List τ0):Option τ26:=b5j N a b (fun e=>some (a,(e,b))) N c
abbrev e2l(f:SV [.box 0 0]->BV [.cells [V1,V0,.row 1],.row 42 τ1 false]->Option τ26):AF:={ps:=[.box 0 0],bs:=[.cells [V1,V0,.row 1],.row 42 τ1 false],rs:=[],cs:=[.cells [V1,V0,.row 1],.row 42 τ1 false],R:=c8×Int×List τ0,out:=fun z=>((),((z.1,z.2.1,(),()),z.2.2,())),f:=f}
abbrev d1N:AF:=e2l fun _ y=>D9 N y.1.1 y.1.2.1 y.2.1
abbrev d1O:SV []->BV [.cells [V1,V0,.row 1],.row 42 τ1 false]->τ26:=fun _ y=>(y.1.1,y.1.2.1,y.2.1)
def d8D(_N:Nat):FuncId->Option Tmp->Option AF:=fun f _=>O5 [(32,F0 fun x _=>strings_IndexByte x.1 x.2.1)] f
theorem d1M:I8 (d8D N):=fun _ _ _ h=>o6 h (v8 (F1) G7)
def c8u:Nat->Hint:=fun i=>
 match i with
 |0=>⟨[],[0],[0,1],[],[0,1],[]⟩
 |100005=>⟨[0,1],[1],[],[],[],[]⟩
 |_=>o3
abbrev b6V:Env:=S9 c8u (d8D N) FF FF
noncomputable abbrev b8e:Code:=V7 (m9 Tryz.f16) [false,false]
abbrev c3P:=A8 (b6V N) Tryz.f16 (d1N N) d1O
abbrev a9B:List (Nat×Sl):=[(0,.box 0 0)]
abbrev a9A:List (Nat×Sb):=[(0,.cells [V1,V0,.row 1]),(1,.row 42 τ1 false)]
def b5k(a:c8)(b:List τ0)(c:Int):St:=⟨78,[(0,.box 0 0)],[(0,.cells [.v .str a,.v τ2 c,.row 1]),(1,.row 42 τ1 false b)]⟩
def a6O(a:c8)(b:List τ0)(c:Int):St:=⟨78,[],[(0,.cells [.v .str a,.v τ2 c,.row 1]),(1,.row 42 τ1 false b)]⟩
def d6R(a:c8)(b:List τ0)(c:Int)(k:Ex->St->Option τ26):Option τ26:=b5j N a b (fun e=>k (.exit 0) (a6O a b e)) N c
abbrev c5R:FV a9B->HV a9A->(Ex->St->Option τ26)->Option τ26:=fun _ y k=>d6R N y.1.1 y.2.1 y.1.2.1 k
def b5l:Nat->Code->St->(Ex->St->Option τ26)->Option τ26:=fun i c=>
 match i with
 |0=>(LPc 78 a9B a9A (c5R N) (fun st k=>iter (c8u 0) (k6 (b6V N) N c 0) N st k))
 |i=>fun st k=>iter (c8u i) (k6 (b6V N) N c i) N st k
theorem c3O(a:c8)(b:List τ0)(KX:Nat->St->Option τ26)(I:St->Option τ26)(c:Int):
  k7 (b5l N) (b6V N) b8e 0 (b5k a b c) (p6 (c8u 0) I KX (c3P N))=a8F N a b (fun e=>KX 0 (a6O a b e)) (fun c=>I (b5k a b c)) c:=by kernel_rfl
theorem d1L:∀x y k,(∀st,k .ret st=(c3P N) st)->iter (c8u 0) (k6 (b6V N) N b8e 0) N ⟨78,Y7 a9B x,Y8 a9A y⟩ k=c5R N x y k:=fun _ y k hk=>
 j9 (S:=(Int)×Unit) (c8u 0) _ (k7 (b5l N) (b6V N) b8e 0) (c3P N) (k9 _ _ N _ b8e 0 (show LoopsOk (b5l N) (b6V N) N (c3P N) []from trivial)) (fun s=>b5k y.1.1 y.2.1 s.1) k hk
  (fun self s=>a8F N y.1.1 y.2.1 (fun a=>k (.exit 0) (a6O y.1.1 y.2.1 a)) (fun b=>self (b,())) s.1) (fun n s=>b5j N y.1.1 y.2.1 (fun a=>k (.exit 0) (a6O y.1.1 y.2.1 a)) n s.1) (fun _=>rfl) (fun _ _=>rfl)
  (fun I s=>c3O N y.1.1 y.2.1 (fun j=>k (.exit j)) I s.1) N (y.1.2.1,())
theorem e0h:F7 (b5l N) (b6V N) N (c3P N) 0 b8e:=fun st k hk=>p8 78 a9B a9A _ _ (c3P N) (d1L N) _ st k hk (rfl)
theorem d6S(x:SV [.box 0 0])(y:BV [.cells [V1,V0,.row 1],.row 42 τ1 false]):F5 (b6V N) Tryz.f16 (d1N N) d1O (b5l N) x y=D9 N y.1.1 y.1.2.1 y.2.1:=by kernel_rfl
theorem d1P:P7 16 (d1N N):=
 a1X (d1M N) Tryz.func16 rfl Tryz.call16 (d1N N) d1O (fun _ _=>rfl) N (b5l N) (show LoopsOk (b5l N) (b6V N) N (c3P N) [(0,b8e)]from⟨e0h N,trivial⟩) (d6S N)
end
end
end Go.Proofs.YtolpmfhiegpohaaGreatDoor
