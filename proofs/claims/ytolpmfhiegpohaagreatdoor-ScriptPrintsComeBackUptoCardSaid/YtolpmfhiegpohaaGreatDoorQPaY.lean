/- % -/
import Derived.Test.YtolpmfhiegpohaaGreatDoorQPaF23
import Derived.Test.YtolpmfhiegpohaaGreatDoorQBmDz
namespace Go.Proofs.YtolpmfhiegpohaaGreatDoor
set_option maxRecDepth 100000
set_option linter.unusedVariables false
open Go Go.RowKit
noncomputable section
noncomputable section
variable(N:Nat)
def e2x(_N:Nat)(b c:List d9)(e:Int)(k0:Option Bool)(self:ρ20)(a:Int):Option Bool:=br (decide (a<e)) (j8 (m7 b a) fun g=>j8 (m7 c a) fun l=>br (!(g==l)) (some false) (self (IntKind.i64.wrap (a+1)))) (k0)
def e6n(N:Nat)(a b:List d9)(c:Int)(k0:Option Bool):Nat->Int->Option Bool|0,_=>none|n+1,e=>e2x N a b c k0 (e6n N a b c k0 n) e
def G0(a b:List d9):Option Bool:=br ((a.length:Int) !=(b.length:Int)) (some false) (e6n N a b (a.length:Int) (some true) N 0)
abbrev e0t:=sgM [.v τ13,.v τ13] [] [V3] [] (Bool) fun z=>((z,()),())
abbrev e0s:AF:=e0t fun x _=>G0 N x.1 x.2.1
abbrev e7h:SV [V3]->BV []->Bool:=fun x _=>x.1
def e94(_N:Nat):FuncId->Option Tmp->Option AF:=fun f _=>t7 [] f
theorem e7g:a1f (e94 N):=fun _ _ _ h=>D7 h lkn
def e64:Nat->Hint:=fun i=>
 match i with
 |0=>⟨[],[0,1,12,13],[],[],[],[]⟩
 |_=>B8
abbrev e4L:Env:=mkE e64 (e94 N) FF FF
noncomputable abbrev e4W:Code:=cAt (C3 Tryz.f23) [true,true,false,true,false,false]
abbrev e5C:=P5 (e4L N) Tryz.f23 (e0s N) e7h
abbrev c82:List (Nat×Sl):=[(0,.v τ13),(1,.v τ13),(12,V0),(13,V0)]
abbrev c8s:List (Nat×Sb):=[]
def e2y(a b:List d9)(c e:Int):St:=⟨26,[(0,.v τ13 a),(1,.v τ13 b),(12,.v τ2 c),(13,.v τ2 e)],[]⟩
def b3g(_a _b:List d9)(_c:Int):St:=⟨26,[],[]⟩
def e9f(a b:List d9)(c e:Int)(k:Ex->St->Option Bool):Option Bool:=e6n N a b c (k (.exit 0) (b3g a b c)) N e
abbrev e6o:FV c82->HV c8s->(Ex->St->Option Bool)->Option Bool:=fun x _ k=>e9f N x.1 x.2.1 x.2.2.1 x.2.2.2.1 k
def e2z:Nat->Code->St->(Ex->St->Option Bool)->Option Bool:=fun i c=>
 match i with
 |0=>(LPc 26 c82 c8s (e6o N) (fun st k=>iter (e64 0) (q7 (e4L N) N c 0) N st k))
 |i=>fun st k=>iter (e64 i) (q7 (e4L N) N c i) N st k
theorem e5B(a b:List d9)(c:Int)(KX:Nat->St->Option Bool)(I:St->Option Bool)(e:Int):
  s4 (e2z N) (e4L N) e4W 0 (e2y a b c e) (I2 (e64 0) I KX (e5C N))=e2x N a b c (KX 0 (b3g a b c)) (fun e=>I (e2y a b c e)) e:=by kernel_rfl
theorem e7f:∀x y k,(∀st,k .ret st=(e5C N) st)->iter (e64 0) (q7 (e4L N) N e4W 0) N ⟨26,unF c82 x,unH c8s y⟩ k=e6o N x y k:=fun x _ k hk=>
 s5 (S:=(Int)×Unit) (e64 0) _ (s4 (e2z N) (e4L N) e4W 0) (e5C N) (x9 _ _ N _ e4W 0 (show LoopsOk (e2z N) (e4L N) N (e5C N) []from trivial)) (fun s=>e2y x.1 x.2.1 x.2.2.1 s.1) k hk
  (fun self s=>e2x N x.1 x.2.1 x.2.2.1 (k (.exit 0) (b3g x.1 x.2.1 x.2.2.1)) (fun a=>self (a,())) s.1) (fun n s=>e6n N x.1 x.2.1 x.2.2.1 (k (.exit 0) (b3g x.1 x.2.1 x.2.2.1)) n s.1) (fun _=>rfl) (fun _ _=>rfl)
  (fun I s=>e5B N x.1 x.2.1 x.2.2.1 (fun j=>k (.exit j)) I s.1) N (x.2.2.2.1,())
theorem f0i:a1g (e2z N) (e4L N) N (e5C N) 0 e4W:=fun st k hk=>J8 26 c82 c8s _ _ (e5C N) (e7f N) _ st k hk (rfl)
theorem e9g(x:SV [.v τ13,.v τ13])(y:BV []):a0f (e4L N) Tryz.f23 (e0s N) e7h (e2z N) x y=G0 N x.1 x.2.1:=by kernel_rfl
theorem d0p:Snd 23 (e0s N):=
 b2q (e7g N) Tryz.func23 rfl Tryz.call23 (e0s N) e7h (fun _ _=>rfl) N (e2z N) (show LoopsOk (e2z N) (e4L N) N (e5C N) [(0,e4W)]from⟨f0i N,trivial⟩) (e9g N)
abbrev e2a:=sgM [.v τ3,.v τ3] [] [V3] [] (Bool) fun z=>((z,()),())
def a3M(_N:Nat)(j7:ρ15)(b:Int)(c e:List GExpr)(k0:Option Bool)(self:ρ20)(a:Int):Option Bool:=br (decide (a<b)) (j8 (m7 c a) fun g=>j8 (m7 e a) fun l=>j8 (j7 g l) fun m=>br (!m) (some false) (self (IntKind.i64.wrap (a+1)))) (k0)
def f1I(N:Nat)(j7:ρ15)(a:Int)(b c:List GExpr)(k0:Option Bool):Nat->Int->Option Bool|0,_=>none|n+1,e=>a3M N j7 a b c k0 (f1I N j7 a b c k0 n) e
def a0C(j7:ρ15)(a b:GExpr):Option Bool:=j8 (br (a.kind !=b.kind) (some true) (br (!(a.text==b.text)) (some true) (br (a.number !=b.number) (some true) (j8 (G0 N a.keys b.keys) fun c=>br (!c) (some true) (some ((a.kids.length:Int) !=(b.kids.length:Int))))))) fun e=>br (e) (some false) (f1I N j7 (a.kids.length:Int) a.kids b.kids (some true) N 0)
abbrev e1Y:=sgM [.v τ3,.v τ3] [] [V3] [] (Bool) fun z=>((z,()),())
abbrev d9u(j7:ρ15):AF:=e1Y fun x _=>a0C N j7 x.1 x.2.1
abbrev f3R:SV [V3]->BV []->Bool:=fun x _=>x.1
def d3T(j7:ρ15):FuncId->Option Tmp->Option AF:=fun f _=>t7 [(23,e0s N),(24,e2a fun x _=>j7 x.1 x.2.1)] f
theorem d3U(j7:ρ15)(a3z:Sound Tryz.prog GW B0G 24 (e2a fun x y=>j7 x.1 x.2.1)):∀f q F,d3T N j7 f q=some F->Sound Tryz.prog GW B0G f F:=fun _ _ _ h=>D7 h (Q3 (d0p N) (Q3 (a3z) lkn))
def e1X:Nat->Hint:=fun i=>
 match i with
 |0=>⟨[],[2,3,44,45],[1002,1003],[],[],[]⟩
 |_=>B8
abbrev e3R(j7:ρ15):Env:=mkE e1X (d3T N j7) (fun _=>false) (fun _=>false) |>.jk (fun i=>match i with|1=>some 41|_=>none)
abbrev f2C(j7:ρ15):=P5 (e3R N j7) Tryz.f24 (d9u N j7) f3R
noncomputable abbrev f1L:Code:=cAt (C3 Tryz.f24) [true,true,false,true,false,false]
abbrev e6j:List (Nat×Sl):=[(2,.box 1002 0),(3,.box 1003 0),(44,V0),(45,V0)]
abbrev e5z:List (Nat×Sb):=[(1002,.cells [V0,V1,V0,.v τ13,.v (.sl τ3)]),(1003,.cells [V0,V1,V0,.v τ13,.v (.sl τ3)])]
def f0U(a b:Int)(c:d9)(e:Int)(g:List d9)(l:List GExpr)(m:Int)(o:d9)(p:Int)(q:List d9)(r:List GExpr)(t:Int):St:=⟨61,[(2,.box 1002 0),(3,.box 1003 0),(44,.v τ2 a),(45,.v τ2 t)],[(1002,.cells [.v τ2 b,.v .str c,.v τ2 e,.v τ13 g,.v (.sl τ3) l]),(1003,.cells [.v τ2 m,.v .str o,.v τ2 p,.v τ13 q,.v (.sl τ3) r])]⟩
def a85(_a _b:Int)(_c:d9)(_e:Int)(_g:List d9)(_l:List GExpr)(_m:Int)(_o:d9)(_p:Int)(_q:List d9)(_r:List GExpr):St:=⟨61,[],[]⟩
def f4E(j7:ρ15)(a e:Int)(g:d9)(l:Int)(m:List d9)(b:List GExpr)(o:Int)(p:d9)(q:Int)(r:List d9)(c:List GExpr)(t:Int)(k:Ex->St->Option Bool):Option Bool:=f1I N j7 a b c (k (.exit 0) (a85 a e g l m b o p q r c)) N t
abbrev f7Z(j7:ρ15):FV e6j->HV e5z->(Ex->St->Option Bool)->Option Bool:=fun x y k=>let z:=y.2.1.2;f4E N j7 x.2.2.1 y.1.1 y.1.2.1 y.1.2.2.1 y.1.2.2.2.1 y.1.2.2.2.2.1 y.2.1.1 z.1 z.2.1 z.2.2.1 z.2.2.2.1 x.2.2.2.1 k
def f0V(j7:ρ15):Nat->Code->St->(Ex->St->Option Bool)->Option Bool:=fun i c=>
 match i with
 |0=>(LPc 61 e6j e5z (f7Z N j7) (fun st k=>iter (e1X 0) (q7 (e3R N j7) N c 0) N st k))
 |i=>fun st k=>iter (e1X i) (q7 (e3R N j7) N c i) N st k
theorem f2B(j7:ρ15)(a g:Int)(l:d9)(m:Int)(o:List d9)(b:List GExpr)(p:Int)(q:d9)(r:Int)(t:List d9)(c:List GExpr)(KX:Nat->St->Option Bool)(I:St->Option Bool)(e:Int):
  s4 (f0V N j7) (e3R N j7) f1L 0 (f0U a g l m o b p q r t c e) (I2 (e1X 0) I KX (f2C N j7))=a3M N j7 a b c (KX 0 (a85 a g l m o b p q r t c)) (fun e=>I (f0U a g l m o b p q r t c e)) e:=by kernel_rfl
theorem f3Q(j7:ρ15):∀x y k,(∀st,k .ret st=(f2C N j7) st)->iter (e1X 0) (q7 (e3R N j7) N f1L 0) N ⟨61,unF e6j x,unH e5z y⟩ k=f7Z N j7 x y k:=fun x y k hk=>
 s5 (S:=(Int)×Unit) (e1X 0) _ (s4 (f0V N j7) (e3R N j7) f1L 0) (f2C N j7) (x9 _ _ N _ f1L 0 (show LoopsOk (f0V N j7) (e3R N j7) N (f2C N j7) []from trivial)) (fun s=>f0U x.2.2.1 y.1.1 y.1.2.1 y.1.2.2.1 y.1.2.2.2.1 y.1.2.2.2.2.1 y.2.1.1 y.2.1.2.1 y.2.1.2.2.1 y.2.1.2.2.2.1 y.2.1.2.2.2.2.1 s.1) k hk
  (fun self s=>a3M N j7 x.2.2.1 y.1.2.2.2.2.1 y.2.1.2.2.2.2.1 (k (.exit 0) (a85 x.2.2.1 y.1.1 y.1.2.1 y.1.2.2.1 y.1.2.2.2.1 y.1.2.2.2.2.1 y.2.1.1 y.2.1.2.1 y.2.1.2.2.1 y.2.1.2.2.2.1 y.2.1.2.2.2.2.1)) (fun a=>self (a,())) s.1) (fun n s=>f1I N j7 x.2.2.1 y.1.2.2.2.2.1 y.2.1.2.2.2.2.1 (k (.exit 0) (a85 x.2.2.1 y.1.1 y.1.2.1 y.1.2.2.1 y.1.2.2.2.1 y.1.2.2.2.2.1 y.2.1.1 y.2.1.2.1 y.2.1.2.2.1 y.2.1.2.2.2.1 y.2.1.2.2.2.2.1)) n s.1) (fun _=>rfl) (fun _ _=>rfl)
  (fun I s=>f2B N j7 x.2.2.1 y.1.1 y.1.2.1 y.1.2.2.1 y.1.2.2.2.1 y.1.2.2.2.2.1 y.2.1.1 y.2.1.2.1 y.2.1.2.2.1 y.2.1.2.2.2.1 y.2.1.2.2.2.2.1 (fun j=>k (.exit j)) I s.1) N (x.2.2.2.1,())
theorem f5k(j7:ρ15):a1g (f0V N j7) (e3R N j7) N (f2C N j7) 0 f1L:=fun st k hk=>J8 61 e6j e5z _ _ (f2C N j7) (f3Q N j7) _ st k hk (rfl)
theorem f4F(j7:ρ15)(x:SV [.v τ3,.v τ3])(y:BV []):a0f (e3R N j7) Tryz.f24 (d9u N j7) f3R (f0V N j7) x y=a0C N j7 x.1 x.2.1:=by kernel_rfl
theorem d3V(j7:ρ15)(a3z:Sound Tryz.prog GW B0G 24 (e2a fun x y=>j7 x.1 x.2.1)):Sound Tryz.prog GW B0G 24 (d9u N j7):=
 b48 (EnvOk.jk (P8 e1X (d3T N j7) _ _ (d3U N j7 a3z)) _) Tryz.func24 rfl Tryz.call24 (d9u N j7) f3R (fun _ _=>rfl) N (f0V N j7) (show LoopsOk (f0V N j7) (e3R N j7) N (f2C N j7) [(0,f1L)]from⟨f5k N j7,trivial⟩) (f4F N j7)
def Q9(N:Nat):Nat->GExpr->GExpr->Option (Bool)|0=>fun _ _=>none|d+1=>a0C N (Q9 N d)
theorem d4j(N:Nat):∀d,Sound Tryz.prog GW B0G 24 (e2a fun x y=>Q9 N d x.1 x.2.1)
 |0=>Sound.never Tryz.call24 (fun _ _=>rfl)
 |d+1=>d3V N (Q9 N d) (d4j N d)
abbrev e1T:=sgM [.v τ4,.v τ4,V3] [] [V3] [] (Bool) fun z=>((z,()),())
def f45(g8:ρ12)(e:Int)(b c:List (d9×GExpr))(k2:Option Bool)(self:ρ20)(a:Int):Option Bool:=br (decide (a<e)) (j8 (j8 (m7 b a) fun g=>j8 (m7 c a) fun l=>br (!(g.1==l.1)) (some true) (j8 (m7 b a) fun m=>j8 (m7 c a) fun o=>j8 (Q9 N N m.2 o.2) fun p=>some (!p))) fun q=>br (q) (some false) (self (IntKind.i64.wrap (a+1)))) (k2)
def f62(N:Nat)(g8:ρ12)(a:Int)(b c:List (d9×GExpr))(k2:Option Bool):Nat->Int->Option Bool|0,_=>none|n+1,e=>f45 N g8 a b c k2 (f62 N g8 a b c k2 n) e
def a3H(g8:ρ12)(g:List GStmt)(e:Bool)(l:List GStmt)(m:Int)(k0:Option Bool)(self:ρ20)(c:Int):Option Bool:=br (decide (c<m)) (j8 (m7 l c) fun a=>j8 (m7 g c) fun b=>j8 (br (a.kind !=b.kind) (some true) (br (!(a.name==b.name)) (some true) (br (!(a.text==b.text)) (some true) (j8 (G0 N a.params b.params) fun o=>br (!o) (some true) (br (e) (some (a.at_ !=b.at_)) (some false)))))) fun p=>br (p) (some false) (j8 (j8 (Q9 N N (Ze a.expr) (Ze b.expr)) fun q=>br (!q) (some true) (br ((a.args.length:Int) !=(b.args.length:Int)) (some true) (j8 (g8 a.body b.body e) fun r=>br (!r) (some true) (j8 (g8 a.els b.els e) fun t=>some (!t))))) fun u=>br (u) (some false) (f62 N g8 (a.args.length:Int) a.args b.args (self (IntKind.i64.wrap (c+1))) N 0))) (k0)
def b1J(N:Nat)(g8:ρ12)(a:List GStmt)(b:Bool)(c:List GStmt)(e:Int)(k0:Option Bool):Nat->Int->Option Bool|0,_=>none|n+1,g=>a3H N g8 a b c e k0 (b1J N g8 a b c e k0 n) g
def E7(g8:ρ12)(a b:List GStmt)(c:Bool):Option Bool:=br ((a.length:Int) !=(b.length:Int)) (some false) (b1J N g8 b c a (a.length:Int) (some true) N 0)
abbrev O8:=sgM [.v τ4,.v τ4,V3] [] [V3] [] (Bool) fun z=>((z,()),())
abbrev e9z(g8:ρ12):AF:=O8 fun x _=>E7 N g8 x.1 x.2.1 x.2.2.1
abbrev e8b:SV [V3]->BV []->Bool:=fun x _=>x.1
def e79(g8:ρ12):FuncId->Option Tmp->Option AF:=fun f _=>t7 [(13,e1T fun x _=>g8 x.1 x.2.1 x.2.2.1),(23,e0s N),(24,e2a fun x _=>Q9 N N x.1 x.2.1)] f
theorem e8a(g8:ρ12)(a1S:Sound Tryz.prog GW B0G 13 (e1T fun x y=>g8 x.1 x.2.1 x.2.2.1)):∀f q F,e79 N g8 f q=some F->Sound Tryz.prog GW B0G f F:=fun _ _ _ h=>D7 h (Q3 (a1S) (Q3 (d0p N) (Q3 (d4j N N) lkn)))
def e5V:Nat->Hint:=fun i=>
 match i with
 |0=>⟨[],[1,2,16,17,18],[],[],[],[]⟩
 |2=>⟨[],[1,2,8,9,16,17,18,99,100],[1008,1009],[1,2,16,17,18],[],[]⟩
 |_=>B8
abbrev e4N(g8:ρ12):Env:=mkE e5V (e79 N g8) (fun _=>false) (fun _=>false) |>.jk (fun i=>match i with|7=>some 63|9=>some 96|14=>some 131|_=>none)
abbrev e5U(g8:ρ12):=P5 (e4N N g8) Tryz.f13 (e9z N g8) e8b
noncomputable abbrev f6M:Code:=cAt (C3 Tryz.f13) [true,true,false,true,false,false]
noncomputable abbrev e46:Code:=cAt (C3 Tryz.f13) [true,true,false,true,false,false,true,true,false,false,true,true,true,true,true,false,false]
abbrev f5w:List (Nat×Sl):=[(1,.v τ4),(2,V3),(8,.box 1008 0),(9,.box 1009 0),(16,.v τ4),(17,V0),(18,V0),(99,V0),(100,V0)]
abbrev f5v:List (Nat×Sb):=[(1008,.cells [V0,V1,V1,.v τ13,.v (.sl τ12),V0,V1,V0,.v τ13,.v (.sl τ3),.v τ4,.v τ4,V0]),(1009,.cells [V0,V1,V1,.v τ13,.v (.sl τ12),V0,V1,V0,.v τ13,.v (.sl τ3),.v τ4,.v τ4,V0])]
def f6e(a:List GStmt)(b:Bool)(c:List GStmt)(e g:Int)(l m:Int)(o p:d9)(q:List d9)(r:List (d9×GExpr))(t:Int)(u:d9)(w:Int)(B:List d9)(C:List GExpr)(D E:List GStmt)(H J:Int)(K L:d9)(O:List d9)(Q:List (d9×GExpr))(R:Int)(T:d9)(U:Int)(V:List d9)(W:List GExpr)(Y aa:List GStmt)(ab ac:Int):St:=⟨134,[(1,.v τ4 a),(2,.v .bool b),(8,.box 1008 0),(9,.box 1009 0),(16,.v τ4 c),(17,.v τ2 e),(18,.v τ2 g),(99,.v τ2 l),(100,.v τ2 ac)],[(1008,.cells [.v τ2 m,.v .str o,.v .str p,.v τ13 q,.v (.sl τ12) r,.v τ2 t,.v .str u,.v τ2 w,.v τ13 B,.v (.sl τ3) C,.v τ4 D,.v τ4 E,.v τ2 H]),(1009,.cells [.v τ2 J,.v .str K,.v .str L,.v τ13 O,.v (.sl τ12) Q,.v τ2 R,.v .str T,.v τ2 U,.v τ13 V,.v (.sl τ3) W,.v τ4 Y,.v τ4 aa,.v τ2 ab])]⟩
def f35(a:List GStmt)(b:Bool)(c:List GStmt)(e g:Int)(_l _m:Int)(_o _p:d9)(_q:List d9)(_r:List (d9×GExpr))(_t:Int)(_u:d9)(_w:Int)(_B:List d9)(_C:List GExpr)(_D _E:List GStmt)(_H _J:Int)(_K _L:d9)(_O:List d9)(_Q:List (d9×GExpr))(_R:Int)(_T:d9)(_U:Int)(_V:List d9)(_W:List GExpr)(_Y _aa:List GStmt)(_ab:Int):St:=⟨134,[(1,.v τ4 a),(2,.v .bool b),(16,.v τ4 c),(17,.v τ2 e),(18,.v τ2 g)],[]⟩
def f9v(g8:ρ12)(e:List GStmt)(g:Bool)(l:List GStmt)(m o:Int)(a p:Int)(q r:d9)(t:List d9)(b:List (d9×GExpr))(u:Int)(v:d9)(w:Int)(B:List d9)(C:List GExpr)(D E:List GStmt)(H J:Int)(K L:d9)(O:List d9)(c:List (d9×GExpr))(Q:Int)(R:d9)(T:Int)(U:List d9)(V:List GExpr)(W Y:List GStmt)(aa ab:Int)(k:Ex->St->Option Bool):Option Bool:=f62 N g8 a b c (k (.exit 2) (f35 e g l m o a p q r t b u v w B C D E H J K L O c Q R T U V W Y aa)) N ab
abbrev f7V(g8:ρ12):FV f5w->HV f5v->(Ex->St->Option Bool)->Option Bool:=fun x y k=>let z:=y.2.1.2.2.2.2.2;let u:=y.1.2.2.2.2.2.2;f9v N g8 x.1 x.2.1 x.2.2.2.2.1 x.2.2.2.2.2.1 x.2.2.2.2.2.2.1 x.2.2.2.2.2.2.2.1 y.1.1 y.1.2.1 y.1.2.2.1 y.1.2.2.2.1 y.1.2.2.2.2.1 y.1.2.2.2.2.2.1 u.1 u.2.1 u.2.2.1 u.2.2.2.1 u.2.2.2.2.1 u.2.2.2.2.2.1 u.2.2.2.2.2.2.1 y.2.1.1 y.2.1.2.1 y.2.1.2.2.1 y.2.1.2.2.2.1 y.2.1.2.2.2.2.1 z.1 z.2.1 z.2.2.1 z.2.2.2.1 z.2.2.2.2.1 z.2.2.2.2.2.1 z.2.2.2.2.2.2.1 z.2.2.2.2.2.2.2.1 x.2.2.2.2.2.2.2.2.1 k
abbrev d8b:List (Nat×Sl):=[(1,.v τ4),(2,V3),(16,.v τ4),(17,V0),(18,V0)]
abbrev d7Y:List (Nat×Sb):=[]
def e4d(a:List GStmt)(b:Bool)(c:List GStmt)(e g:Int):St:=⟨134,[(1,.v τ4 a),(2,.v .bool b),(16,.v τ4 c),(17,.v τ2 e),(18,.v τ2 g)],[]⟩
def f33(_a:List GStmt)(_b:Bool)(_c:List GStmt)(_e:Int):St:=⟨134,[],[]⟩
def e9x(g8:ρ12)(a:List GStmt)(b:Bool)(c:List GStmt)(e g:Int)(k:Ex->St->Option Bool):Option Bool:=b1J N g8 a b c e (k (.exit 0) (f33 a b c e)) N g
abbrev e6J(g8:ρ12):FV d8b->HV d7Y->(Ex->St->Option Bool)->Option Bool:=fun x _ k=>e9x N g8 x.1 x.2.1 x.2.2.1 x.2.2.2.1 x.2.2.2.2.1 k
def e4e(g8:ρ12):Nat->Code->St->(Ex->St->Option Bool)->Option Bool:=fun i c=>
 match i with
 |0=>(LPc 134 d8b d7Y (e6J N g8) (fun st k=>iter (e5V 0) (q7 (e4N N g8) N c 0) N st k))
 |2=>(LPc 134 f5w f5v (f7V N g8) (fun st k=>iter (e5V 2) (q7 (e4N N g8) N c 2) N st k))
 |i=>fun st k=>iter (e5V i) (q7 (e4N N g8) N c i) N st k
theorem f7q(g8:ρ12)(g:List GStmt)(l:Bool)(m:List GStmt)(o p:Int)(a q:Int)(r t:d9)(u:List d9)(b:List (d9×GExpr))(v:Int)(w:d9)(B:Int)(C:List d9)(D:List GExpr)(E H:List GStmt)(J K:Int)(L O:d9)(Q:List d9)(c:List (d9×GExpr))(R:Int)(T:d9)(U:Int)(V:List d9)(W:List GExpr)(Y aa:List GStmt)(ab:Int)(KX:Nat->St->Option Bool)(I:St->Option Bool)(e:Int):
  s4 (e4e N g8) (e4N N g8) e46 2 (f6e g l m o p a q r t u b v w B C D E H J K L O Q c R T U V W Y aa ab e) (I2 (e5V 2) I KX (e5U N g8))=f45 N g8 a b c (KX 2 (f35 g l m o p a q r t u b v w B C D E H J K L O Q c R T U V W Y aa ab)) (fun e=>I (f6e g l m o p a q r t u b v w B C D E H J K L O Q c R T U V W Y aa ab e)) e:=by kernel_rfl
theorem f8Q(g8:ρ12):∀x y k,(∀st,k .ret st=(e5U N g8) st)->iter (e5V 2) (q7 (e4N N g8) N e46 2) N ⟨134,unF f5w x,unH f5v y⟩ k=f7V N g8 x y k:=fun x y k hk=>
 s5 (S:=(Int)×Unit) (e5V 2) _ (s4 (e4e N g8) (e4N N g8) e46 2) (e5U N g8) (x9 _ _ N _ e46 2 (show LoopsOk (e4e N g8) (e4N N g8) N (e5U N g8) []from trivial)) (fun s=>f6e x.1 x.2.1 x.2.2.2.2.1 x.2.2.2.2.2.1 x.2.2.2.2.2.2.1 x.2.2.2.2.2.2.2.1 y.1.1 y.1.2.1 y.1.2.2.1 y.1.2.2.2.1 y.1.2.2.2.2.1 y.1.2.2.2.2.2.1 y.1.2.2.2.2.2.2.1 y.1.2.2.2.2.2.2.2.1 y.1.2.2.2.2.2.2.2.2.1 y.1.2.2.2.2.2.2.2.2.2.1 y.1.2.2.2.2.2.2.2.2.2.2.1 y.1.2.2.2.2.2.2.2.2.2.2.2.1 y.1.2.2.2.2.2.2.2.2.2.2.2.2.1 y.2.1.1 y.2.1.2.1 y.2.1.2.2.1 y.2.1.2.2.2.1 y.2.1.2.2.2.2.1 y.2.1.2.2.2.2.2.1 y.2.1.2.2.2.2.2.2.1 y.2.1.2.2.2.2.2.2.2.1 y.2.1.2.2.2.2.2.2.2.2.1 y.2.1.2.2.2.2.2.2.2.2.2.1 y.2.1.2.2.2.2.2.2.2.2.2.2.1 y.2.1.2.2.2.2.2.2.2.2.2.2.2.1 y.2.1.2.2.2.2.2.2.2.2.2.2.2.2.1 s.1) k hk
  (fun self s=>f45 N g8 x.2.2.2.2.2.2.2.1 y.1.2.2.2.2.1 y.2.1.2.2.2.2.1 (k (.exit 2) (f35 x.1 x.2.1 x.2.2.2.2.1 x.2.2.2.2.2.1 x.2.2.2.2.2.2.1 x.2.2.2.2.2.2.2.1 y.1.1 y.1.2.1 y.1.2.2.1 y.1.2.2.2.1 y.1.2.2.2.2.1 y.1.2.2.2.2.2.1 y.1.2.2.2.2.2.2.1 y.1.2.2.2.2.2.2.2.1 y.1.2.2.2.2.2.2.2.2.1 y.1.2.2.2.2.2.2.2.2.2.1 y.1.2.2.2.2.2.2.2.2.2.2.1 y.1.2.2.2.2.2.2.2.2.2.2.2.1 y.1.2.2.2.2.2.2.2.2.2.2.2.2.1 y.2.1.1 y.2.1.2.1 y.2.1.2.2.1 y.2.1.2.2.2.1 y.2.1.2.2.2.2.1 y.2.1.2.2.2.2.2.1 y.2.1.2.2.2.2.2.2.1 y.2.1.2.2.2.2.2.2.2.1 y.2.1.2.2.2.2.2.2.2.2.1 y.2.1.2.2.2.2.2.2.2.2.2.1 y.2.1.2.2.2.2.2.2.2.2.2.2.1 y.2.1.2.2.2.2.2.2.2.2.2.2.2.1 y.2.1.2.2.2.2.2.2.2.2.2.2.2.2.1)) (fun a=>self (a,())) s.1) (fun n s=>f62 N g8 x.2.2.2.2.2.2.2.1 y.1.2.2.2.2.1 y.2.1.2.2.2.2.1 (k (.exit 2) (f35 x.1 x.2.1 x.2.2.2.2.1 x.2.2.2.2.2.1 x.2.2.2.2.2.2.1 x.2.2.2.2.2.2.2.1 y.1.1 y.1.2.1 y.1.2.2.1 y.1.2.2.2.1 y.1.2.2.2.2.1 y.1.2.2.2.2.2.1 y.1.2.2.2.2.2.2.1 y.1.2.2.2.2.2.2.2.1 y.1.2.2.2.2.2.2.2.2.1 y.1.2.2.2.2.2.2.2.2.2.1 y.1.2.2.2.2.2.2.2.2.2.2.1 y.1.2.2.2.2.2.2.2.2.2.2.2.1 y.1.2.2.2.2.2.2.2.2.2.2.2.2.1 y.2.1.1 y.2.1.2.1 y.2.1.2.2.1 y.2.1.2.2.2.1 y.2.1.2.2.2.2.1 y.2.1.2.2.2.2.2.1 y.2.1.2.2.2.2.2.2.1 y.2.1.2.2.2.2.2.2.2.1 y.2.1.2.2.2.2.2.2.2.2.1 y.2.1.2.2.2.2.2.2.2.2.2.1 y.2.1.2.2.2.2.2.2.2.2.2.2.1 y.2.1.2.2.2.2.2.2.2.2.2.2.2.1 y.2.1.2.2.2.2.2.2.2.2.2.2.2.2.1)) n s.1) (fun _=>rfl) (fun _ _=>rfl)
  (fun I s=>f7q N g8 x.1 x.2.1 x.2.2.2.2.1 x.2.2.2.2.2.1 x.2.2.2.2.2.2.1 x.2.2.2.2.2.2.2.1 y.1.1 y.1.2.1 y.1.2.2.1 y.1.2.2.2.1 y.1.2.2.2.2.1 y.1.2.2.2.2.2.1 y.1.2.2.2.2.2.2.1 y.1.2.2.2.2.2.2.2.1 y.1.2.2.2.2.2.2.2.2.1 y.1.2.2.2.2.2.2.2.2.2.1 y.1.2.2.2.2.2.2.2.2.2.2.1 y.1.2.2.2.2.2.2.2.2.2.2.2.1 y.1.2.2.2.2.2.2.2.2.2.2.2.2.1 y.2.1.1 y.2.1.2.1 y.2.1.2.2.1 y.2.1.2.2.2.1 y.2.1.2.2.2.2.1 y.2.1.2.2.2.2.2.1 y.2.1.2.2.2.2.2.2.1 y.2.1.2.2.2.2.2.2.2.1 y.2.1.2.2.2.2.2.2.2.2.1 y.2.1.2.2.2.2.2.2.2.2.2.1 y.2.1.2.2.2.2.2.2.2.2.2.2.1 y.2.1.2.2.2.2.2.2.2.2.2.2.2.1 y.2.1.2.2.2.2.2.2.2.2.2.2.2.2.1 (fun j=>k (.exit j)) I s.1) N (x.2.2.2.2.2.2.2.2.1,())
theorem f8R(g8:ρ12):a1g (e4e N g8) (e4N N g8) N (e5U N g8) 2 e46:=fun st k hk=>J8 134 f5w f5v _ _ (e5U N g8) (f8Q N g8) _ st k hk (rfl)
theorem e5T(g8:ρ12)(a:List GStmt)(b:Bool)(c:List GStmt)(e:Int)(KX:Nat->St->Option Bool)(I:St->Option Bool)(g:Int):
  s4 (e4e N g8) (e4N N g8) f6M 0 (e4d a b c e g) (I2 (e5V 0) I KX (e5U N g8))=a3H N g8 a b c e (KX 0 (f33 a b c e)) (fun g=>I (e4d a b c e g)) g:=by kernel_rfl
theorem e78(g8:ρ12):∀x y k,(∀st,k .ret st=(e5U N g8) st)->iter (e5V 0) (q7 (e4N N g8) N f6M 0) N ⟨134,unF d8b x,unH d7Y y⟩ k=e6J N g8 x y k:=fun x _ k hk=>
 s5 (S:=(Int)×Unit) (e5V 0) _ (s4 (e4e N g8) (e4N N g8) f6M 0) (e5U N g8) (x9 _ _ N _ f6M 0 (show LoopsOk (e4e N g8) (e4N N g8) N (e5U N g8) [(2,e46)]from⟨f8R N g8,trivial⟩)) (fun s=>e4d x.1 x.2.1 x.2.2.1 x.2.2.2.1 s.1) k hk
  (fun self s=>a3H N g8 x.1 x.2.1 x.2.2.1 x.2.2.2.1 (k (.exit 0) (f33 x.1 x.2.1 x.2.2.1 x.2.2.2.1)) (fun a=>self (a,())) s.1) (fun n s=>b1J N g8 x.1 x.2.1 x.2.2.1 x.2.2.2.1 (k (.exit 0) (f33 x.1 x.2.1 x.2.2.1 x.2.2.2.1)) n s.1) (fun _=>rfl) (fun _ _=>rfl)
  (fun I s=>e5T N g8 x.1 x.2.1 x.2.2.1 x.2.2.2.1 (fun j=>k (.exit j)) I s.1) N (x.2.2.2.2.1,())
theorem f0u(g8:ρ12):a1g (e4e N g8) (e4N N g8) N (e5U N g8) 0 f6M:=fun st k hk=>J8 134 d8b d7Y _ _ (e5U N g8) (e78 N g8) _ st k hk (rfl)
theorem e9y(g8:ρ12)(x:SV [.v τ4,.v τ4,V3])(y:BV []):a0f (e4N N g8) Tryz.f13 (e9z N g8) e8b (e4e N g8) x y=E7 N g8 x.1 x.2.1 x.2.2.1:=by kernel_rfl
theorem c1U(g8:ρ12)(a1S:Sound Tryz.prog GW B0G 13 (e1T fun x y=>g8 x.1 x.2.1 x.2.2.1)):Sound Tryz.prog GW B0G 13 (e9z N g8):=
 b48 (EnvOk.jk (P8 e5V (e79 N g8) _ _ (e8a N g8 a1S)) _) Tryz.func13 rfl Tryz.call13 (e9z N g8) e8b (fun _ _=>rfl) N (e4e N g8) (show LoopsOk (e4e N g8) (e4N N g8) N (e5U N g8) [(0,f6M),(2,e46)]from⟨f0u N g8,f8R N g8,trivial⟩) (e9y N g8)
def H2(N:Nat):Nat->(List GStmt)->(List GStmt)->Bool->Option (Bool)|0=>fun _ _ _=>none|d+1=>E7 N (H2 N d)
theorem b6B(N:Nat):∀d,Sound Tryz.prog GW B0G 13 (e1T fun x y=>H2 N d x.1 x.2.1 x.2.2.1)
 |0=>Sound.never Tryz.call13 (fun _ _=>rfl)
 |d+1=>c1U N (H2 N d) (b6B N d)
def a0v(a:UInt8):Option Bool:=j8 (O1 N a) fun b=>br (b) (some true) (j8 (O0 N a) fun c=>br (c) (some true) (some (a==95)))
abbrev c1W:=sgM [.v .u8] [] [V3] [] (Bool) fun z=>((z,()),())
abbrev f0v:AF:=c1W fun x _=>a0v N x.1
theorem c1X:Snd 35 (f0v N):=
 a4W h0 [(33,d6Q N),(36,d9y N)] (Q3 (d4c N) (Q3 (d37 N) lkn)) Tryz.func35 rfl Tryz.call35 (f0v N) (fun x _=>x.1) (fun _ _=>rfl) N (fun _ _=>by kernel_rfl) rfl
end
end
noncomputable section
noncomputable section
variable(N:Nat)
def c99(_N:Nat)(b a:d9):Option Bool:=br (decide ((b.length:Int)>=(a.length:Int))) (j8 (slc b 0 (a.length:Int)) fun c=>some (c==a)) (some false)
abbrev e01:=sgM [V1,V1] [] [V3] [] (Bool) fun z=>((z,()),())
abbrev d8R:AF:=e01 fun x _=>c99 N x.1 x.2.1
theorem d1v:Snd 63 (d8R N):=
 a4W h0 [] lkn Tryz.func63 rfl Tryz.call63 (d8R N) (fun x _=>x.1) (fun _ _=>rfl) N (fun _ _=>by kernel_rfl) rfl
def d93(a b:d9):Option Bool:=j8 (c99 N a b) fun c=>some c
abbrev e1R:=sgM [V1,V1] [] [V3] [] (Bool) fun z=>((z,()),())
abbrev d6A:AF:=e1R fun x _=>d93 N x.1 x.2.1
theorem d3E:Snd 39 (d6A N):=
 a4W h0 [(63,d8R N)] (Q3 (d1v N) lkn) Tryz.func39 rfl Tryz.call39 (d6A N) (fun x _=>x.1) (fun _ _=>rfl) N (fun _ _=>by kernel_rfl) rfl
def c5a(_N:Nat)(b:d9)(g:List τ0)(k0 self:Int->Option τ24)(a:Int):Option τ24:=br (decide (a<(b.length:Int))) (j8 (m7 b a) fun c=>br (c==32) (self (IntKind.i64.wrap (a+1))) (br (c==9) (self (IntKind.i64.wrap (a+1))) (br (c==10) (self (IntKind.i64.wrap (a+1))) (br (c==13) (self (IntKind.i64.wrap (a+1))) (br (c==35) (j8 (slc b a (b.length:Int)) fun l=>j8 (strings_IndexByte l 10) fun e=>br (decide (e<0)) (self (IntKind.i64.wrap (a+(IntKind.i64.wrap ((b.length:Int)-a))))) (self (IntKind.i64.wrap (a+e)))) (some (b,a,g))))))) (k0 a)
def e4Z(N:Nat)(a:d9)(b:List τ0)(k0:Int->Option τ24):Nat->Int->Option τ24|0,_=>none|n+1,c=>c5a N a b k0 (e4Z N a b k0 n) c
def L1(a:d9)(c:Int)(b:List τ0):Option τ24:=e4Z N a b (fun e=>some (a,e,b)) N c
abbrev e0M(f:SV [.box 0 0]->BV [.cells [V1,V0,.row 1],.row 42 τ1 false]->Option τ24):AF:={ps:=[.box 0 0],bs:=[.cells [V1,V0,.row 1],.row 42 τ1 false],rs:=[],cs:=[.cells [V1,V0,.row 1],.row 42 τ1 false],R:=d9×Int×List τ0,out:=fun z=>((),(z.1,z.2.1,(),()),z.2.2,()),f:=f}
abbrev d8H:AF:=e0M fun _ y=>L1 N y.1.1 y.1.2.1 y.2.1
abbrev e7y:SV []->BV [.cells [V1,V0,.row 1],.row 42 τ1 false]->τ24:=fun _ y=>(y.1.1,y.1.2.1,y.2.1)
def d04(_N:Nat):FuncId->Option Tmp->Option AF:=fun f _=>t7 [(32,e1S fun x _=>strings_IndexByte x.1 x.2.1)] f
theorem d05:a1f (d04 N):=fun _ _ _ h=>D7 h (Q3 (b1r) lkn)
def e0L:Nat->Hint:=fun i=>
 match i with
 |0=>⟨[],[0],[0,1],[],[0,1],[]⟩
 |100005=>⟨[0,1],[1],[],[],[],[]⟩
 |_=>B8
abbrev e3s:Env:=mkE e0L (d04 N) FF FF
noncomputable abbrev e40:Code:=cAt (C3 Tryz.f16) [false,false]
abbrev e5I:=P5 (e3s N) Tryz.f16 (d8H N) e7y
abbrev d4y:List (Nat×Sl):=[(0,.box 0 0)]
abbrev d4x:List (Nat×Sb):=[(0,.cells [V1,V0,.row 1]),(1,.row 42 τ1 false)]
def e3E(a:d9)(b:List τ0)(c:Int):St:=⟨78,[(0,.box 0 0)],[(0,.cells [.v .str a,.v τ2 c,.row 1]),(1,.row 42 τ1 false b)]⟩
def b6Z(a:d9)(b:List τ0)(c:Int):St:=⟨78,[],[(0,.cells [.v .str a,.v τ2 c,.row 1]),(1,.row 42 τ1 false b)]⟩
def e9m(a:d9)(b:List τ0)(c:Int)(k:Ex->St->Option τ24):Option τ24:=e4Z N a b (fun e=>k (.exit 0) (b6Z a b e)) N c
abbrev e6v:FV d4y->HV d4x->(Ex->St->Option τ24)->Option τ24:=fun _ y k=>e9m N y.1.1 y.2.1 y.1.2.1 k
def e3L:Nat->Code->St->(Ex->St->Option τ24)->Option τ24:=fun i c=>
 match i with
 |0=>(LPc 78 d4y d4x (e6v N) (fun st k=>iter (e0L 0) (q7 (e3s N) N c 0) N st k))
 |i=>fun st k=>iter (e0L i) (q7 (e3s N) N c i) N st k
theorem e5H(a:d9)(b:List τ0)(KX:Nat->St->Option τ24)(I:St->Option τ24)(c:Int):
  s4 (e3L N) (e3s N) e40 0 (e3E a b c) (I2 (e0L 0) I KX (e5I N))=c5a N a b (fun e=>KX 0 (b6Z a b e)) (fun c=>I (e3E a b c)) c:=by kernel_rfl
theorem e7x:∀x y k,(∀st,k .ret st=(e5I N) st)->iter (e0L 0) (q7 (e3s N) N e40 0) N ⟨78,unF d4y x,unH d4x y⟩ k=e6v N x y k:=fun _ y k hk=>
 s5 (S:=(Int)×Unit) (e0L 0) _ (s4 (e3L N) (e3s N) e40 0) (e5I N) (x9 _ _ N _ e40 0 (show LoopsOk (e3L N) (e3s N) N (e5I N) []from trivial)) (fun s=>e3E y.1.1 y.2.1 s.1) k hk
  (fun self s=>c5a N y.1.1 y.2.1 (fun a=>k (.exit 0) (b6Z y.1.1 y.2.1 a)) (fun b=>self (b,())) s.1) (fun n s=>e4Z N y.1.1 y.2.1 (fun a=>k (.exit 0) (b6Z y.1.1 y.2.1 a)) n s.1) (fun _=>rfl) (fun _ _=>rfl)
  (fun I s=>e5H N y.1.1 y.2.1 (fun j=>k (.exit j)) I s.1) N (y.1.2.1,())
theorem f0n:a1g (e3L N) (e3s N) N (e5I N) 0 e40:=fun st k hk=>J8 78 d4y d4x _ _ (e5I N) (e7x N) _ st k hk (rfl)
theorem e9n(x:SV [.box 0 0])(y:BV [.cells [V1,V0,.row 1],.row 42 τ1 false]):a0f (e3s N) Tryz.f16 (d8H N) e7y (e3L N) x y=L1 N y.1.1 y.1.2.1 y.2.1:=by kernel_rfl
theorem d07:Snd 16 (d8H N):=
 b2q (d05 N) Tryz.func16 rfl Tryz.call16 (d8H N) e7y (fun _ _=>rfl) N (e3L N) (show LoopsOk (e3L N) (e3s N) N (e5I N) [(0,e40)]from⟨f0n N,trivial⟩) (e9n N)
end
end
noncomputable section
noncomputable section
variable(N:Nat)
noncomputable def a8b:Code:=cAt (C3 Tryz.f21) [true,true]
noncomputable def a5X:Func:={Tryz.f21 with body:=some a8b}
def b9T(st:St)(t r:Nat):Bool:=match st.ev (.tmp t)with
 |.box r' o=>Nat.beq r' r&&Nat.beq o 0&&match r7 st.hp r with
  |some (.cells [_])=>true
  |_=>false
 |_=>false
def d7J(ρ:List Nat)(st:St):Bool:=(match ρ with | [0]=>true|_=>false)&&b9T st 2 1&&b9T st 3 2&&b9T st 4 3
@[reducible] def c2C(R:Type):BothC (Except Int R):=⟨o9,a5B,Go.Proofs.YtolpmfhiegpohaaGreatDoor.c64,b1M,fun c ρ st=>match d7J ρ st with|true=>some (.error c)|false=>none⟩
attribute [local instance 20000] c2C
def f6h(k0 self:ρ3)(c:List τ0)(e g:Int)(a:List GStmt):Option (Except Int (List GStmt×Int×Bool×List τ0×Int×Int×Int×Bool×List GStmt)):=br (decide ((c.length:Int)>0)) (o9 (o9 (m8 (o5 N N 0 c e g) fun b=>k9 1 (br (Zf (a.length + [Zv].length) τ17) (br (decide (0<=(a.length:Int)/\(a.length:Int)<((a ++ [Zv]).length:Int))) (k9 1 (j8 (m7 (a ++ [Zv]) (a.length:Int)) fun _=>self b.2.1 b.2.2.1 b.2.2.2 (I3 (a ++ [Zv]) (a.length:Int) b.1))) none) none)) (k9 1 (k9 1 (m8 (o5 N N 0 c e g) fun b=>br (Zf (a.length + [Zv].length) τ17) (br (decide (0<=(a.length:Int)/\(a.length:Int)<((a ++ [Zv]).length:Int))) (k9 1 (j8 (m7 (a ++ [Zv]) (a.length:Int)) fun _=>self b.2.1 b.2.2.1 b.2.2.2 (I3 (a ++ [Zv]) (a.length:Int) b.1))) none) none)))) (o9 (m8 (o5 N N 0 c e g) fun b=>o9 (k9 1 (br (Zf (a.length + [Zv].length) τ17) (br (decide (0<=(a.length:Int)/\(a.length:Int)<((a ++ [Zv]).length:Int))) (k9 1 (j8 (m7 (a ++ [Zv]) (a.length:Int)) fun _=>self b.2.1 b.2.2.1 b.2.2.2 (I3 (a ++ [Zv]) (a.length:Int) b.1))) none) none)) (br (Zf (a.length + [Zv].length) τ17) (br (decide (0<=(a.length:Int)/\(a.length:Int)<((a ++ [Zv]).length:Int))) (k9 1 (j8 (m7 (a ++ [Zv]) (a.length:Int)) fun _=>self b.2.1 b.2.2.1 b.2.2.2 (I3 (a ++ [Zv]) (a.length:Int) b.1))) none) none)) (o9 (k9 1 (m8 (o5 N N 0 c e g) fun b=>br (Zf (a.length + [Zv].length) τ17) (br (decide (0<=(a.length:Int)/\(a.length:Int)<((a ++ [Zv]).length:Int))) (k9 1 (j8 (m7 (a ++ [Zv]) (a.length:Int)) fun _=>self b.2.1 b.2.2.1 b.2.2.2 (I3 (a ++ [Zv]) (a.length:Int) b.1))) none) none)) (m8 (o5 N N 0 c e g) fun b=>br (Zf (a.length + [Zv].length) τ17) (br (decide (0<=(a.length:Int)/\(a.length:Int)<((a ++ [Zv]).length:Int))) (k9 1 (j8 (m7 (a ++ [Zv]) (a.length:Int)) fun _=>self b.2.1 b.2.2.1 b.2.2.2 (I3 (a ++ [Zv]) (a.length:Int) b.1))) none) none)))) (k0 c e g a)
def f6f(N:Nat)(k0:ρ3):Nat->τ6->Int->Int->(List GStmt)->Option (Except Int (List GStmt×Int×Bool×List τ0×Int×Int×Int×Bool×List GStmt))|0,_,_,_,_=>none|n+1,a,b,c,e=>f6h N k0 (f6f N k0 n) a b c e
def M6(b:List τ0)(c e _o:Int)(_p:Bool):Option (Except Int (List GStmt×Int×Bool×List τ0×Int×Int×Int×Bool×List GStmt)):=f6f N (fun g l m a=>some (.ok (a,0,true,g,l,m,0,true,a))) N b c e []
abbrev e1x(f:SV [.box 0 0,.dead,.box 1 0,.box 2 0,.box 3 0]->BV [.cells [V2,V0,V0],.cells [.nilS],.cells [V0],.cells [V3]]->Option (Except Int (List GStmt×Int×Bool×List τ0×Int×Int×Int×Bool×List GStmt))):PF:={ps:=[.box 0 0,.dead,.box 1 0,.box 2 0,.box 3 0],bs:=[.cells [V2,V0,V0],.cells [.nilS],.cells [V0],.cells [V3]],rs:=[.v τ4,V0,V3],cs:=[.cells [V2,V0,V0],.cells [.row 4],.cells [V0],.cells [V3],.row 71 τ17 false],R:=List GStmt×Int×Bool×List τ0×Int×Int×Int×Bool×List GStmt,out:=fun z=>((z.1,z.2.1,z.2.2.1,()),(z.2.2.2.1,z.2.2.2.2.1,z.2.2.2.2.2.1,()),((),()),(z.2.2.2.2.2.2.1,()),(z.2.2.2.2.2.2.2.1,()),z.2.2.2.2.2.2.2.2,()),f:=f}
abbrev b1c:PF:=e1x fun _ y=>M6 N y.1.1 y.1.2.1 y.1.2.2.1 y.2.2.1.1 y.2.2.2.1.1
abbrev f8U:SV [.v τ4,V0,V3]->BV [.cells [V2,V0,V0],.cells [.row 4],.cells [V0],.cells [V3],.row 71 τ17 false]->(List GStmt×Int×Bool×List τ0×Int×Int×Int×Bool×List GStmt):=fun x y=>(x.1,x.2.1,x.2.2.1,y.1.1,y.1.2.1,y.1.2.2.1,y.2.2.1.1,y.2.2.2.1.1,y.2.2.2.2.1)
abbrev f2L:SV [.v τ4,V0,V3]->BV [.cells [V2,V0,V0],.cells [.row 4],.cells [V0],.cells [V3],.row 71 τ17 false]->Except Int (List GStmt×Int×Bool×List τ0×Int×Int×Int×Bool×List GStmt):=fun x y=> .ok (f8U x y)
def d2P(_N:Nat):FuncId->Option Tmp->Option AF:=fun f _=>t7 [] f
theorem d2Q:a1f (d2P N):=fun _ _ _ h=>D7 h lkn
def c6H:FuncId->Option Tmp->Option PF:=fun f _=>
 match f with
  |48=>some (e0G fun x y=>o5 N N x.2.1 y.1.1 y.1.2.1 y.1.2.2.1)
  |_=>none
theorem d2R:∀f q F,c6H N f q=some F->SoundP Tryz.prog GW B0G c2M f F:=by
 intro f q F h;unfold c6H at h;split at h
 ·cases h;exact d0Q N N
 ·cases h
def e1w:Nat->Hint:=fun i=>
 match i with
 |0=>⟨[],[0,2,3,4],[0,1,2,3,950001],[2,3,4],[0,1,2,3,950001],[(1,0,950001,71,τ17)]⟩
 |100003=>⟨[],[1,2],[],[],[],[]⟩
 |_=>B8
abbrev e3I:Env:=a2Q e1w (d2P N) (c6H N) (fun i=>match i with|17=>true|_=>false) (fun _=>false)
abbrev f5y:List (Nat×Sl):=[(0,.box 0 0),(2,.box 1 0),(3,.box 2 0),(4,.box 3 0)]
abbrev f5x:List (Nat×Sb):=[(0,.cells [V2,V0,V0]),(1,.cells [.row 950001]),(2,.cells [V0]),(3,.cells [V3]),(950001,.row 71 τ17 true)]
def f6i(a:Int)(b:Bool)(c:List τ0)(e g:Int)(l:List GStmt):St:=⟨20,[(0,.box 0 0),(2,.box 1 0),(3,.box 2 0),(4,.box 3 0)],[(0,.cells [.v (.sl τ1) c,.v τ2 e,.v τ2 g]),(1,.cells [.row 950001]),(2,.cells [.v τ2 a]),(3,.cells [.v .bool b]),(950001,.row 71 τ17 true l)]⟩
def f4e(a:Int)(b:Bool)(c:List τ0)(e g:Int)(l:List GStmt):St:=⟨20,[(2,.box 1 0),(3,.box 2 0),(4,.box 3 0)],[(0,.cells [.v (.sl τ1) c,.v τ2 e,.v τ2 g]),(1,.cells [.row 950001]),(2,.cells [.v τ2 a]),(3,.cells [.v .bool b]),(950001,.row 71 τ17 true l)]⟩
def f9w(a:Int)(b:Bool)(c:List τ0)(e g:Int)(l:List GStmt)(k:Ex->St->Option (Except Int (List GStmt×Int×Bool×List τ0×Int×Int×Int×Bool×List GStmt))):Option (Except Int (List GStmt×Int×Bool×List τ0×Int×Int×Int×Bool×List GStmt)):=f6f N (fun m o p q=>k (.exit 0) (f4e a b m o p q)) N c e g l
abbrev f7W:FV f5y->HV f5x->(Ex->St->Option (Except Int (List GStmt×Int×Bool×List τ0×Int×Int×Int×Bool×List GStmt)))->Option (Except Int (List GStmt×Int×Bool×List τ0×Int×Int×Int×Bool×List GStmt)):=fun _ y k=>f9w N y.2.2.1.1 y.2.2.2.1.1 y.1.1 y.1.2.1 y.1.2.2.1 y.2.2.2.2.1 k
def f6j:Nat->Code->St->(Ex->St->Option (Except Int (List GStmt×Int×Bool×List τ0×Int×Int×Int×Bool×List GStmt)))->Option (Except Int (List GStmt×Int×Bool×List τ0×Int×Int×Int×Bool×List GStmt)):=fun i c=>
 match i with
 |0=>(LPc 20 f5y f5x (f7W N) (fun st k=>iter (e1w 0) (q7 (e3I N) N c 0) N st k))
 |i=>fun st k=>iter (e1w i) (q7 (e3I N) N c i) N st k
theorem f7s(g:Int)(l:Bool)(KX:Nat->St->Option (Except Int (List GStmt×Int×Bool×List τ0×Int×Int×Int×Bool×List GStmt)))(I:St->Option (Except Int (List GStmt×Int×Bool×List τ0×Int×Int×Int×Bool×List GStmt)))(a:List τ0)(b c:Int)(e:List GStmt):
  s4 (f6j N) (e3I N) (cAt (C3 a5X) [false,false,false]) 0 (f6i g l a b c e) (I2 (e1w 0) I KX (P5 (e3I N) a5X (PF.tf (b1c N)) f2L))=f6h N (fun m o p q=>KX 0 (f4e g l m o p q)) (fun a b c e=>I (f6i g l a b c e)) a b c e:=by kernel_rfl
theorem f8T:∀x y k,(∀st,k .ret st=(P5 (e3I N) a5X (PF.tf (b1c N)) f2L) st)->iter (e1w 0) (q7 (e3I N) N (cAt (C3 a5X) [false,false,false]) 0) N ⟨20,unF f5y x,unH f5x y⟩ k=f7W N x y k:=fun _ y k hk=>
 s5 (S:=τ6×(Int)×(Int)×(List GStmt)×Unit) (e1w 0) _ (s4 (f6j N) (e3I N) (cAt (C3 a5X) [false,false,false]) 0) (P5 (e3I N) a5X (PF.tf (b1c N)) f2L) (x9 _ _ N _ (cAt (C3 a5X) [false,false,false]) 0 (show LoopsOk (f6j N) (e3I N) N (P5 (e3I N) a5X (PF.tf (b1c N)) f2L) []from trivial)) (fun s=>f6i y.2.2.1.1 y.2.2.2.1.1 s.1 s.2.1 s.2.2.1 s.2.2.2.1) k hk
  (fun self s=>f6h N (fun a b c e=>k (.exit 0) (f4e y.2.2.1.1 y.2.2.2.1.1 a b c e)) (fun g l m o=>self (g,l,m,o,())) s.1 s.2.1 s.2.2.1 s.2.2.2.1) (fun n s=>f6f N (fun a b c e=>k (.exit 0) (f4e y.2.2.1.1 y.2.2.2.1.1 a b c e)) n s.1 s.2.1 s.2.2.1 s.2.2.2.1) (fun _=>rfl) (fun _ _=>rfl)
  (fun I s=>f7s N y.2.2.1.1 y.2.2.2.1.1 (fun j=>k (.exit j)) I s.1 s.2.1 s.2.2.1 s.2.2.2.1) N (y.1.1,y.1.2.1,y.1.2.2.1,y.2.2.2.2.1,())
theorem f98:a1g (f6j N) (e3I N) N (P5 (e3I N) a5X (PF.tf (b1c N)) f2L) 0 (cAt (C3 a5X) [false,false,false]):=fun st k hk=>J8 20 f5y f5x _ _ (P5 (e3I N) a5X (PF.tf (b1c N)) f2L) (f8T N) _ st k hk (rfl)
theorem f9x(x:SV [.box 0 0,.dead,.box 1 0,.box 2 0,.box 3 0])(y:BV [.cells [V2,V0,V0],.cells [.nilS],.cells [V0],.cells [V3]]):a0f (e3I N) a5X (PF.tf (b1c N)) f2L (f6j N) x y=M6 N y.1.1 y.1.2.1 y.1.2.2.1 y.2.2.1.1 y.2.2.2.1.1:=by kernel_rfl
theorem a6l(x:SV [.box 0 0,.dead,.box 1 0,.box 2 0,.box 3 0])(y:BV [.cells [V2,V0,V0],.cells [.nilS],.cells [V0],.cells [V3]])(z) (h:M6 N y.1.1 y.1.2.1 y.1.2.2.1 y.2.2.1.1 y.2.2.2.1.1=some z):b2W (e3I N) N a5X (PF.tf (b1c N)) (c2C _) f2L x y=some z:=
 ((a5h (e3I N) N a5X (PF.tf (b1c N)) f2L (f6j N) (show LoopsOk (f6j N) (e3I N) N (P5 (e3I N) a5X (PF.tf (b1c N)) f2L) [(0,(cAt (C3 a5X) [false,false,false]))]from⟨f98 N,trivial⟩) x y).trans (f9x N x y)).trans h
end
end
end Go.Proofs.YtolpmfhiegpohaaGreatDoor
