/- % -/
import Derived.Test.YtolpmfhiegpohaaGreatDoorQPaF23
import Derived.Test.YtolpmfhiegpohaaGreatDoorQBmDz
namespace Go.Proofs.YtolpmfhiegpohaaGreatDoor
set_option maxRecDepth 100000
set_option linter.unusedVariables false
open Go Go.RowKit
noncomputable section
noncomputable section
variable(N:Nat)
def a7i(_N:Nat)(b c:List d7)(e:Int)(k0:Option Bool)(self:ρ20)(a:Int):Option Bool:=br (decide (a<e)) (j8 (m6 b a) fun g=>j8 (m6 c a) fun l=>br (!(g==l)) (some false) (self (IntKind.i64.wrap (a+1)))) (k0)
def b8K(N:Nat)(a b:List d7)(c:Int)(k0:Option Bool):Nat->Int->Option Bool|0,_=>none|n+1,e=>a7i N a b c k0 (b8K N a b c k0 n) e
def D7(a b:List d7):Option Bool:=br ((a.length:Int) !=(b.length:Int)) (some false) (b8K N a b (a.length:Int) (some true) N 0)
abbrev d7z:=sgM [.v N3,.v N3] [] [V3] [] (Bool) fun z=>((z,()),())
abbrev c4Z:AF:=d7z fun x _=>D7 N x.1 x.2.1
abbrev c7q:SV [V3]->BV []->Bool:=fun x _=>x.1
def d4j(_N:Nat):FuncId->Option Tmp->Option AF:=fun f _=>lkF [] f
theorem c7p:X8 (d4j N):=fun _ _ _ h=>B9 h T8
def c40:Nat->Hint:=fun i=>
 match i with
 |0=>⟨[],[0,1,12,13],[],[],[],[]⟩
 |_=>y5
abbrev b4d:Env:=mkE c40 (d4j N) FF FF
noncomputable abbrev b5m:Code:=cAt (B3 Tryz.f23) [true,true,false,true,false,false]
abbrev c0J:=L9 (b4d N) Tryz.f23 (c4Z N) c7q
abbrev a7Z:List (Nat×Sl):=[(0,.v N3),(1,.v N3),(12,V0),(13,V0)]
abbrev a7Y:List (Nat×Sb):=[]
def b2D(a b:List d7)(c e:Int):St:=⟨26,[(0,.v N3 a),(1,.v N3 b),(12,.v τ2 c),(13,.v τ2 e)],[]⟩
def a5Y(_a _b:List d7)(_c:Int):St:=⟨26,[],[]⟩
def d2v(a b:List d7)(c e:Int)(k:Ex->St->Option Bool):Option Bool:=b8K N a b c (k (.exit 0) (a5Y a b c)) N e
abbrev c2Y:FV a7Z->HV a7Y->(Ex->St->Option Bool)->Option Bool:=fun x _ k=>d2v N x.1 x.2.1 x.2.2.1 x.2.2.2.1 k
def b2E:Nat->Code->St->(Ex->St->Option Bool)->Option Bool:=fun i c=>
 match i with
 |0=>(LPc 26 a7Z a7Y (c2Y N) (fun st k=>iter (c40 0) (o7 (b4d N) N c 0) N st k))
 |i=>fun st k=>iter (c40 i) (o7 (b4d N) N c i) N st k
theorem c0I(a b:List d7)(c:Int)(KX:Nat->St->Option Bool)(I:St->Option Bool)(e:Int):
  p8 (b2E N) (b4d N) b5m 0 (b2D a b c e) (F9 (c40 0) I KX (c0J N))=a7i N a b c (KX 0 (a5Y a b c)) (fun e=>I (b2D a b c e)) e:=by kernel_rfl
theorem c7o:∀x y k,(∀st,k .ret st=(c0J N) st)->iter (c40 0) (o7 (b4d N) N b5m 0) N ⟨26,unF a7Z x,unH a7Y y⟩ k=c2Y N x y k:=fun x _ k hk=>
 p9 (S:=(Int)×Unit) (c40 0) _ (p8 (b2E N) (b4d N) b5m 0) (c0J N) (u9 _ _ N _ b5m 0 (show LoopsOk (b2E N) (b4d N) N (c0J N) []from trivial)) (fun s=>b2D x.1 x.2.1 x.2.2.1 s.1) k hk
  (fun self s=>a7i N x.1 x.2.1 x.2.2.1 (k (.exit 0) (a5Y x.1 x.2.1 x.2.2.1)) (fun a=>self (a,())) s.1) (fun n s=>b8K N x.1 x.2.1 x.2.2.1 (k (.exit 0) (a5Y x.1 x.2.1 x.2.2.1)) n s.1) (fun _=>rfl) (fun _ _=>rfl)
  (fun I s=>c0I N x.1 x.2.1 x.2.2.1 (fun j=>k (.exit j)) I s.1) N (x.2.2.2.1,())
theorem d5O:Z1 (b2E N) (b4d N) N (c0J N) 0 b5m:=fun st k hk=>H3 26 a7Z a7Y _ _ (c0J N) (c7o N) _ st k hk (rfl)
theorem d2w(x:SV [.v N3,.v N3])(y:BV []):V4 (b4d N) Tryz.f23 (c4Z N) c7q (b2E N) x y=D7 N x.1 x.2.1:=by kernel_rfl
theorem b8L:Snd 23 (c4Z N):=
 a9J (c7p N) Tryz.func23 rfl Tryz.call23 (c4Z N) c7q (fun _ _=>rfl) N (b2E N) (show LoopsOk (b2E N) (b4d N) N (c0J N) [(0,b5m)]from⟨d5O N,trivial⟩) (d2w N)
abbrev b9a:=sgM [.v τ3,.v τ3] [] [V3] [] (Bool) fun z=>((z,()),())
def a7p(_N:Nat)(j0:ρ15)(b:Int)(c e:List GExpr)(k0:Option Bool)(self:ρ20)(a:Int):Option Bool:=br (decide (a<b)) (j8 (m6 c a) fun g=>j8 (m6 e a) fun l=>j8 (j0 g l) fun m=>br (!m) (some false) (self (IntKind.i64.wrap (a+1)))) (k0)
def b88(N:Nat)(j0:ρ15)(a:Int)(b c:List GExpr)(k0:Option Bool):Nat->Int->Option Bool|0,_=>none|n+1,e=>a7p N j0 a b c k0 (b88 N j0 a b c k0 n) e
def U9(j0:ρ15)(a b:GExpr):Option Bool:=j8 (br (a.kind !=b.kind) (some true) (br (!(a.text==b.text)) (some true) (br (a.number !=b.number) (some true) (j8 (D7 N a.keys b.keys) fun c=>br (!c) (some true) (some ((a.kids.length:Int) !=(b.kids.length:Int))))))) fun e=>br (e) (some false) (b88 N j0 (a.kids.length:Int) a.kids b.kids (some true) N 0)
abbrev d81:=sgM [.v τ3,.v τ3] [] [V3] [] (Bool) fun z=>((z,()),())
abbrev d3w(j0:ρ15):AF:=d81 fun x _=>U9 N j0 x.1 x.2.1
abbrev d0G:SV [V3]->BV []->Bool:=fun x _=>x.1
def d0E(j0:ρ15):FuncId->Option Tmp->Option AF:=fun f _=>lkF [(23,c4Z N),(24,b9a fun x _=>j0 x.1 x.2.1)] f
theorem d0F(j0:ρ15)(a1E:Sound Tryz.prog GW x9 24 (b9a fun x y=>j0 x.1 x.2.1)):∀f q F,d0E N j0 f q=some F->Sound Tryz.prog GW x9 f F:=fun _ _ _ h=>B9 h (L3 (b8L N) (L3 (a1E) T8))
def c1t:Nat->Hint:=fun i=>
 match i with
 |0=>⟨[],[2,3,44,45],[1002,1003],[],[],[]⟩
 |_=>y5
abbrev b4m(j0:ρ15):Env:=mkE c1t (d0E N j0) (fun _=>false) (fun _=>false) |>.jk (fun i=>match i with|1=>some 41|_=>none)
abbrev c1s(j0:ρ15):=L9 (b4m N j0) Tryz.f24 (d3w N j0) d0G
noncomputable abbrev b5D:Code:=cAt (B3 Tryz.f24) [true,true,false,true,false,false]
abbrev a8O:List (Nat×Sl):=[(2,.box 1002 0),(3,.box 1003 0),(44,V0),(45,V0)]
abbrev a8N:List (Nat×Sb):=[(1002,.cells [V0,V1,V0,.v N3,.v (.sl τ3)]),(1003,.cells [V0,V1,V0,.v N3,.v (.sl τ3)])]
def b3G(a b:Int)(c:d7)(e:Int)(g:List d7)(l:List GExpr)(m:Int)(o:d7)(p:Int)(q:List d7)(r:List GExpr)(t:Int):St:=⟨61,[(2,.box 1002 0),(3,.box 1003 0),(44,.v τ2 a),(45,.v τ2 t)],[(1002,.cells [.v τ2 b,.v .str c,.v τ2 e,.v N3 g,.v (.sl τ3) l]),(1003,.cells [.v τ2 m,.v .str o,.v τ2 p,.v N3 q,.v (.sl τ3) r])]⟩
def a6l(_a _b:Int)(_c:d7)(_e:Int)(_g:List d7)(_l:List GExpr)(_m:Int)(_o:d7)(_p:Int)(_q:List d7)(_r:List GExpr):St:=⟨61,[],[]⟩
def d3u(j0:ρ15)(a e:Int)(g:d7)(l:Int)(m:List d7)(b:List GExpr)(o:Int)(p:d7)(q:Int)(r:List d7)(c:List GExpr)(t:Int)(k:Ex->St->Option Bool):Option Bool:=b88 N j0 a b c (k (.exit 0) (a6l a e g l m b o p q r c)) N t
abbrev c3J(j0:ρ15):FV a8O->HV a8N->(Ex->St->Option Bool)->Option Bool:=fun x y k=>let z:=y.2.1.2;d3u N j0 x.2.2.1 y.1.1 y.1.2.1 y.1.2.2.1 y.1.2.2.2.1 y.1.2.2.2.2.1 y.2.1.1 z.1 z.2.1 z.2.2.1 z.2.2.2.1 x.2.2.2.1 k
def b3H(j0:ρ15):Nat->Code->St->(Ex->St->Option Bool)->Option Bool:=fun i c=>
 match i with
 |0=>(LPc 61 a8O a8N (c3J N j0) (fun st k=>iter (c1t 0) (o7 (b4m N j0) N c 0) N st k))
 |i=>fun st k=>iter (c1t i) (o7 (b4m N j0) N c i) N st k
theorem c1r(j0:ρ15)(a g:Int)(l:d7)(m:Int)(o:List d7)(b:List GExpr)(p:Int)(q:d7)(r:Int)(t:List d7)(c:List GExpr)(KX:Nat->St->Option Bool)(I:St->Option Bool)(e:Int):
  p8 (b3H N j0) (b4m N j0) b5D 0 (b3G a g l m o b p q r t c e) (F9 (c1t 0) I KX (c1s N j0))=a7p N j0 a b c (KX 0 (a6l a g l m o b p q r t c)) (fun e=>I (b3G a g l m o b p q r t c e)) e:=by kernel_rfl
theorem d0D(j0:ρ15):∀x y k,(∀st,k .ret st=(c1s N j0) st)->iter (c1t 0) (o7 (b4m N j0) N b5D 0) N ⟨61,unF a8O x,unH a8N y⟩ k=c3J N j0 x y k:=fun x y k hk=>
 p9 (S:=(Int)×Unit) (c1t 0) _ (p8 (b3H N j0) (b4m N j0) b5D 0) (c1s N j0) (u9 _ _ N _ b5D 0 (show LoopsOk (b3H N j0) (b4m N j0) N (c1s N j0) []from trivial)) (fun s=>b3G x.2.2.1 y.1.1 y.1.2.1 y.1.2.2.1 y.1.2.2.2.1 y.1.2.2.2.2.1 y.2.1.1 y.2.1.2.1 y.2.1.2.2.1 y.2.1.2.2.2.1 y.2.1.2.2.2.2.1 s.1) k hk
  (fun self s=>a7p N j0 x.2.2.1 y.1.2.2.2.2.1 y.2.1.2.2.2.2.1 (k (.exit 0) (a6l x.2.2.1 y.1.1 y.1.2.1 y.1.2.2.1 y.1.2.2.2.1 y.1.2.2.2.2.1 y.2.1.1 y.2.1.2.1 y.2.1.2.2.1 y.2.1.2.2.2.1 y.2.1.2.2.2.2.1)) (fun a=>self (a,())) s.1) (fun n s=>b88 N j0 x.2.2.1 y.1.2.2.2.2.1 y.2.1.2.2.2.2.1 (k (.exit 0) (a6l x.2.2.1 y.1.1 y.1.2.1 y.1.2.2.1 y.1.2.2.2.1 y.1.2.2.2.2.1 y.2.1.1 y.2.1.2.1 y.2.1.2.2.1 y.2.1.2.2.2.1 y.2.1.2.2.2.2.1)) n s.1) (fun _=>rfl) (fun _ _=>rfl)
  (fun I s=>c1r N j0 x.2.2.1 y.1.1 y.1.2.1 y.1.2.2.1 y.1.2.2.2.1 y.1.2.2.2.2.1 y.2.1.1 y.2.1.2.1 y.2.1.2.2.1 y.2.1.2.2.2.1 y.2.1.2.2.2.2.1 (fun j=>k (.exit j)) I s.1) N (x.2.2.2.1,())
theorem d6B(j0:ρ15):Z1 (b3H N j0) (b4m N j0) N (c1s N j0) 0 b5D:=fun st k hk=>H3 61 a8O a8N _ _ (c1s N j0) (d0D N j0) _ st k hk (rfl)
theorem d3v(j0:ρ15)(x:SV [.v τ3,.v τ3])(y:BV []):V4 (b4m N j0) Tryz.f24 (d3w N j0) d0G (b3H N j0) x y=U9 N j0 x.1 x.2.1:=by kernel_rfl
theorem d0H(j0:ρ15)(a1E:Sound Tryz.prog GW x9 24 (b9a fun x y=>j0 x.1 x.2.1)):Sound Tryz.prog GW x9 24 (d3w N j0):=
 b2f (EnvOk.jk (O3 c1t (d0E N j0) _ _ (d0F N j0 a1E)) _) Tryz.func24 rfl Tryz.call24 (d3w N j0) d0G (fun _ _=>rfl) N (b3H N j0) (show LoopsOk (b3H N j0) (b4m N j0) N (c1s N j0) [(0,b5D)]from⟨d6B N j0,trivial⟩) (d3v N j0)
def L8(N:Nat):Nat->GExpr->GExpr->Option (Bool)|0=>fun _ _=>none|d+1=>U9 N (L8 N d)
theorem b9b(N:Nat):∀d,Sound Tryz.prog GW x9 24 (b9a fun x y=>L8 N d x.1 x.2.1)
 |0=>Sound.never Tryz.call24 (fun _ _=>rfl)
 |d+1=>d0H N (L8 N d) (b9b N d)
abbrev b84:=sgM [.v τ5,.v τ5,V3] [] [V3] [] (Bool) fun z=>((z,()),())
def a7o(d6:ρ12)(e:Int)(b c:List (d7×GExpr))(k2:Option Bool)(self:ρ20)(a:Int):Option Bool:=br (decide (a<e)) (j8 (j8 (m6 b a) fun g=>j8 (m6 c a) fun l=>br (!(g.1==l.1)) (some true) (j8 (m6 b a) fun m=>j8 (m6 c a) fun o=>j8 (L8 N N m.2 o.2) fun p=>some (!p))) fun q=>br (q) (some false) (self (IntKind.i64.wrap (a+1)))) (k2)
def b8W(N:Nat)(d6:ρ12)(a:Int)(b c:List (d7×GExpr))(k2:Option Bool):Nat->Int->Option Bool|0,_=>none|n+1,e=>a7o N d6 a b c k2 (b8W N d6 a b c k2 n) e
def a1K(d6:ρ12)(g:List GStmt)(e:Bool)(l:List GStmt)(m:Int)(k0:Option Bool)(self:ρ20)(c:Int):Option Bool:=br (decide (c<m)) (j8 (m6 l c) fun a=>j8 (m6 g c) fun b=>j8 (br (a.kind !=b.kind) (some true) (br (!(a.name==b.name)) (some true) (br (!(a.text==b.text)) (some true) (j8 (D7 N a.params b.params) fun o=>br (!o) (some true) (br (e) (some (a.at_ !=b.at_)) (some false)))))) fun p=>br (p) (some false) (j8 (j8 (L8 N N (Ze a.expr) (Ze b.expr)) fun q=>br (!q) (some true) (br ((a.args.length:Int) !=(b.args.length:Int)) (some true) (j8 (d6 a.body b.body e) fun r=>br (!r) (some true) (j8 (d6 a.els b.els e) fun t=>some (!t))))) fun u=>br (u) (some false) (b8W N d6 (a.args.length:Int) a.args b.args (self (IntKind.i64.wrap (c+1))) N 0))) (k0)
def b3k(N:Nat)(d6:ρ12)(a:List GStmt)(b:Bool)(c:List GStmt)(e:Int)(k0:Option Bool):Nat->Int->Option Bool|0,_=>none|n+1,g=>a1K N d6 a b c e k0 (b3k N d6 a b c e k0 n) g
def C6(d6:ρ12)(a b:List GStmt)(c:Bool):Option Bool:=br ((a.length:Int) !=(b.length:Int)) (some false) (b3k N d6 b c a (a.length:Int) (some true) N 0)
abbrev d8y:=sgM [.v τ5,.v τ5,V3] [] [V3] [] (Bool) fun z=>((z,()),())
abbrev d3c(d6:ρ12):AF:=d8y fun x _=>C6 N d6 x.1 x.2.1 x.2.2.1
abbrev c9K:SV [V3]->BV []->Bool:=fun x _=>x.1
def c9H(d6:ρ12):FuncId->Option Tmp->Option AF:=fun f _=>lkF [(13,b84 fun x _=>d6 x.1 x.2.1 x.2.2.1),(23,c4Z N),(24,b9a fun x _=>L8 N N x.1 x.2.1)] f
theorem c9I(d6:ρ12)(a0s:Sound Tryz.prog GW x9 13 (b84 fun x y=>d6 x.1 x.2.1 x.2.2.1)):∀f q F,c9H N d6 f q=some F->Sound Tryz.prog GW x9 f F:=fun _ _ _ h=>B9 h (L3 (a0s) (L3 (b8L N) (L3 (b9b N N) T8)))
def b3o:Nat->Hint:=fun i=>
 match i with
 |0=>⟨[],[1,2,16,17,18],[],[],[],[]⟩
 |2=>⟨[],[1,2,8,9,16,17,18,99,100],[1008,1009],[1,2,16,17,18],[],[]⟩
 |_=>y5
abbrev a6B(d6:ρ12):Env:=mkE b3o (c9H N d6) (fun _=>false) (fun _=>false) |>.jk (fun i=>match i with|7=>some 63|9=>some 96|14=>some 131|_=>none)
abbrev a9W(d6:ρ12):=L9 (a6B N d6) Tryz.f13 (d3c N d6) c9K
noncomputable abbrev b5z:Code:=cAt (B3 Tryz.f13) [true,true,false,true,false,false]
noncomputable abbrev b3n:Code:=cAt (B3 Tryz.f13) [true,true,false,true,false,false,true,true,false,false,true,true,true,true,true,false,false]
abbrev a8B:List (Nat×Sl):=[(1,.v τ5),(2,V3),(8,.box 1008 0),(9,.box 1009 0),(16,.v τ5),(17,V0),(18,V0),(99,V0),(100,V0)]
abbrev a8A:List (Nat×Sb):=[(1008,.cells [V0,V1,V1,.v N3,.v (.sl X7),V0,V1,V0,.v N3,.v (.sl τ3),.v τ5,.v τ5,V0]),(1009,.cells [V0,V1,V1,.v N3,.v (.sl X7),V0,V1,V0,.v N3,.v (.sl τ3),.v τ5,.v τ5,V0])]
def b3m(a:List GStmt)(b:Bool)(c:List GStmt)(e g:Int)(l m:Int)(o p:d7)(q:List d7)(r:List (d7×GExpr))(t:Int)(u:d7)(w:Int)(B:List d7)(C:List GExpr)(D E:List GStmt)(H J:Int)(K L:d7)(O:List d7)(Q:List (d7×GExpr))(R:Int)(T:d7)(U:Int)(V:List d7)(W:List GExpr)(Y aa:List GStmt)(ab ac:Int):St:=⟨134,[(1,.v τ5 a),(2,.v .bool b),(8,.box 1008 0),(9,.box 1009 0),(16,.v τ5 c),(17,.v τ2 e),(18,.v τ2 g),(99,.v τ2 l),(100,.v τ2 ac)],[(1008,.cells [.v τ2 m,.v .str o,.v .str p,.v N3 q,.v (.sl X7) r,.v τ2 t,.v .str u,.v τ2 w,.v N3 B,.v (.sl τ3) C,.v τ5 D,.v τ5 E,.v τ2 H]),(1009,.cells [.v τ2 J,.v .str K,.v .str L,.v N3 O,.v (.sl X7) Q,.v τ2 R,.v .str T,.v τ2 U,.v N3 V,.v (.sl τ3) W,.v τ5 Y,.v τ5 aa,.v τ2 ab])]⟩
def a6g(a:List GStmt)(b:Bool)(c:List GStmt)(e g:Int)(_l _m:Int)(_o _p:d7)(_q:List d7)(_r:List (d7×GExpr))(_t:Int)(_u:d7)(_w:Int)(_B:List d7)(_C:List GExpr)(_D _E:List GStmt)(_H _J:Int)(_K _L:d7)(_O:List d7)(_Q:List (d7×GExpr))(_R:Int)(_T:d7)(_U:Int)(_V:List d7)(_W:List GExpr)(_Y _aa:List GStmt)(_ab:Int):St:=⟨134,[(1,.v τ5 a),(2,.v .bool b),(16,.v τ5 c),(17,.v τ2 e),(18,.v τ2 g)],[]⟩
def d3a(d6:ρ12)(e:List GStmt)(g:Bool)(l:List GStmt)(m o:Int)(a p:Int)(q r:d7)(t:List d7)(b:List (d7×GExpr))(u:Int)(v:d7)(w:Int)(B:List d7)(C:List GExpr)(D E:List GStmt)(H J:Int)(K L:d7)(O:List d7)(c:List (d7×GExpr))(Q:Int)(R:d7)(T:Int)(U:List d7)(V:List GExpr)(W Y:List GStmt)(aa ab:Int)(k:Ex->St->Option Bool):Option Bool:=b8W N d6 a b c (k (.exit 2) (a6g e g l m o a p q r t b u v w B C D E H J K L O c Q R T U V W Y aa)) N ab
abbrev c3w(d6:ρ12):FV a8B->HV a8A->(Ex->St->Option Bool)->Option Bool:=fun x y k=>let z:=y.2.1.2.2.2.2.2;let u:=y.1.2.2.2.2.2.2;d3a N d6 x.1 x.2.1 x.2.2.2.2.1 x.2.2.2.2.2.1 x.2.2.2.2.2.2.1 x.2.2.2.2.2.2.2.1 y.1.1 y.1.2.1 y.1.2.2.1 y.1.2.2.2.1 y.1.2.2.2.2.1 y.1.2.2.2.2.2.1 u.1 u.2.1 u.2.2.1 u.2.2.2.1 u.2.2.2.2.1 u.2.2.2.2.2.1 u.2.2.2.2.2.2.1 y.2.1.1 y.2.1.2.1 y.2.1.2.2.1 y.2.1.2.2.2.1 y.2.1.2.2.2.2.1 z.1 z.2.1 z.2.2.1 z.2.2.2.1 z.2.2.2.2.1 z.2.2.2.2.2.1 z.2.2.2.2.2.2.1 z.2.2.2.2.2.2.2.1 x.2.2.2.2.2.2.2.2.1 k
abbrev a8z:List (Nat×Sl):=[(1,.v τ5),(2,V3),(16,.v τ5),(17,V0),(18,V0)]
abbrev a8y:List (Nat×Sb):=[]
def b3l(a:List GStmt)(b:Bool)(c:List GStmt)(e g:Int):St:=⟨134,[(1,.v τ5 a),(2,.v .bool b),(16,.v τ5 c),(17,.v τ2 e),(18,.v τ2 g)],[]⟩
def a6f(_a:List GStmt)(_b:Bool)(_c:List GStmt)(_e:Int):St:=⟨134,[],[]⟩
def d29(d6:ρ12)(a:List GStmt)(b:Bool)(c:List GStmt)(e g:Int)(k:Ex->St->Option Bool):Option Bool:=b3k N d6 a b c e (k (.exit 0) (a6f a b c e)) N g
abbrev c3v(d6:ρ12):FV a8z->HV a8y->(Ex->St->Option Bool)->Option Bool:=fun x _ k=>d29 N d6 x.1 x.2.1 x.2.2.1 x.2.2.2.1 x.2.2.2.2.1 k
def a5t(d6:ρ12):Nat->Code->St->(Ex->St->Option Bool)->Option Bool:=fun i c=>
 match i with
 |0=>(LPc 134 a8z a8y (c3v N d6) (fun st k=>iter (b3o 0) (o7 (a6B N d6) N c 0) N st k))
 |2=>(LPc 134 a8B a8A (c3w N d6) (fun st k=>iter (b3o 2) (o7 (a6B N d6) N c 2) N st k))
 |i=>fun st k=>iter (b3o i) (o7 (a6B N d6) N c i) N st k
theorem c1g(d6:ρ12)(g:List GStmt)(l:Bool)(m:List GStmt)(o p:Int)(a q:Int)(r t:d7)(u:List d7)(b:List (d7×GExpr))(v:Int)(w:d7)(B:Int)(C:List d7)(D:List GExpr)(E H:List GStmt)(J K:Int)(L O:d7)(Q:List d7)(c:List (d7×GExpr))(R:Int)(T:d7)(U:Int)(V:List d7)(W:List GExpr)(Y aa:List GStmt)(ab:Int)(KX:Nat->St->Option Bool)(I:St->Option Bool)(e:Int):
  p8 (a5t N d6) (a6B N d6) b3n 2 (b3m g l m o p a q r t u b v w B C D E H J K L O Q c R T U V W Y aa ab e) (F9 (b3o 2) I KX (a9W N d6))=a7o N d6 a b c (KX 2 (a6g g l m o p a q r t u b v w B C D E H J K L O Q c R T U V W Y aa ab)) (fun e=>I (b3m g l m o p a q r t u b v w B C D E H J K L O Q c R T U V W Y aa ab e)) e:=by kernel_rfl
theorem c9G(d6:ρ12):∀x y k,(∀st,k .ret st=(a9W N d6) st)->iter (b3o 2) (o7 (a6B N d6) N b3n 2) N ⟨134,unF a8B x,unH a8A y⟩ k=c3w N d6 x y k:=fun x y k hk=>
 p9 (S:=(Int)×Unit) (b3o 2) _ (p8 (a5t N d6) (a6B N d6) b3n 2) (a9W N d6) (u9 _ _ N _ b3n 2 (show LoopsOk (a5t N d6) (a6B N d6) N (a9W N d6) []from trivial)) (fun s=>b3m x.1 x.2.1 x.2.2.2.2.1 x.2.2.2.2.2.1 x.2.2.2.2.2.2.1 x.2.2.2.2.2.2.2.1 y.1.1 y.1.2.1 y.1.2.2.1 y.1.2.2.2.1 y.1.2.2.2.2.1 y.1.2.2.2.2.2.1 y.1.2.2.2.2.2.2.1 y.1.2.2.2.2.2.2.2.1 y.1.2.2.2.2.2.2.2.2.1 y.1.2.2.2.2.2.2.2.2.2.1 y.1.2.2.2.2.2.2.2.2.2.2.1 y.1.2.2.2.2.2.2.2.2.2.2.2.1 y.1.2.2.2.2.2.2.2.2.2.2.2.2.1 y.2.1.1 y.2.1.2.1 y.2.1.2.2.1 y.2.1.2.2.2.1 y.2.1.2.2.2.2.1 y.2.1.2.2.2.2.2.1 y.2.1.2.2.2.2.2.2.1 y.2.1.2.2.2.2.2.2.2.1 y.2.1.2.2.2.2.2.2.2.2.1 y.2.1.2.2.2.2.2.2.2.2.2.1 y.2.1.2.2.2.2.2.2.2.2.2.2.1 y.2.1.2.2.2.2.2.2.2.2.2.2.2.1 y.2.1.2.2.2.2.2.2.2.2.2.2.2.2.1 s.1) k hk
  (fun self s=>a7o N d6 x.2.2.2.2.2.2.2.1 y.1.2.2.2.2.1 y.2.1.2.2.2.2.1 (k (.exit 2) (a6g x.1 x.2.1 x.2.2.2.2.1 x.2.2.2.2.2.1 x.2.2.2.2.2.2.1 x.2.2.2.2.2.2.2.1 y.1.1 y.1.2.1 y.1.2.2.1 y.1.2.2.2.1 y.1.2.2.2.2.1 y.1.2.2.2.2.2.1 y.1.2.2.2.2.2.2.1 y.1.2.2.2.2.2.2.2.1 y.1.2.2.2.2.2.2.2.2.1 y.1.2.2.2.2.2.2.2.2.2.1 y.1.2.2.2.2.2.2.2.2.2.2.1 y.1.2.2.2.2.2.2.2.2.2.2.2.1 y.1.2.2.2.2.2.2.2.2.2.2.2.2.1 y.2.1.1 y.2.1.2.1 y.2.1.2.2.1 y.2.1.2.2.2.1 y.2.1.2.2.2.2.1 y.2.1.2.2.2.2.2.1 y.2.1.2.2.2.2.2.2.1 y.2.1.2.2.2.2.2.2.2.1 y.2.1.2.2.2.2.2.2.2.2.1 y.2.1.2.2.2.2.2.2.2.2.2.1 y.2.1.2.2.2.2.2.2.2.2.2.2.1 y.2.1.2.2.2.2.2.2.2.2.2.2.2.1 y.2.1.2.2.2.2.2.2.2.2.2.2.2.2.1)) (fun a=>self (a,())) s.1) (fun n s=>b8W N d6 x.2.2.2.2.2.2.2.1 y.1.2.2.2.2.1 y.2.1.2.2.2.2.1 (k (.exit 2) (a6g x.1 x.2.1 x.2.2.2.2.1 x.2.2.2.2.2.1 x.2.2.2.2.2.2.1 x.2.2.2.2.2.2.2.1 y.1.1 y.1.2.1 y.1.2.2.1 y.1.2.2.2.1 y.1.2.2.2.2.1 y.1.2.2.2.2.2.1 y.1.2.2.2.2.2.2.1 y.1.2.2.2.2.2.2.2.1 y.1.2.2.2.2.2.2.2.2.1 y.1.2.2.2.2.2.2.2.2.2.1 y.1.2.2.2.2.2.2.2.2.2.2.1 y.1.2.2.2.2.2.2.2.2.2.2.2.1 y.1.2.2.2.2.2.2.2.2.2.2.2.2.1 y.2.1.1 y.2.1.2.1 y.2.1.2.2.1 y.2.1.2.2.2.1 y.2.1.2.2.2.2.1 y.2.1.2.2.2.2.2.1 y.2.1.2.2.2.2.2.2.1 y.2.1.2.2.2.2.2.2.2.1 y.2.1.2.2.2.2.2.2.2.2.1 y.2.1.2.2.2.2.2.2.2.2.2.1 y.2.1.2.2.2.2.2.2.2.2.2.2.1 y.2.1.2.2.2.2.2.2.2.2.2.2.2.1 y.2.1.2.2.2.2.2.2.2.2.2.2.2.2.1)) n s.1) (fun _=>rfl) (fun _ _=>rfl)
  (fun I s=>c1g N d6 x.1 x.2.1 x.2.2.2.2.1 x.2.2.2.2.2.1 x.2.2.2.2.2.2.1 x.2.2.2.2.2.2.2.1 y.1.1 y.1.2.1 y.1.2.2.1 y.1.2.2.2.1 y.1.2.2.2.2.1 y.1.2.2.2.2.2.1 y.1.2.2.2.2.2.2.1 y.1.2.2.2.2.2.2.2.1 y.1.2.2.2.2.2.2.2.2.1 y.1.2.2.2.2.2.2.2.2.2.1 y.1.2.2.2.2.2.2.2.2.2.2.1 y.1.2.2.2.2.2.2.2.2.2.2.2.1 y.1.2.2.2.2.2.2.2.2.2.2.2.2.1 y.2.1.1 y.2.1.2.1 y.2.1.2.2.1 y.2.1.2.2.2.1 y.2.1.2.2.2.2.1 y.2.1.2.2.2.2.2.1 y.2.1.2.2.2.2.2.2.1 y.2.1.2.2.2.2.2.2.2.1 y.2.1.2.2.2.2.2.2.2.2.1 y.2.1.2.2.2.2.2.2.2.2.2.1 y.2.1.2.2.2.2.2.2.2.2.2.2.1 y.2.1.2.2.2.2.2.2.2.2.2.2.2.1 y.2.1.2.2.2.2.2.2.2.2.2.2.2.2.1 (fun j=>k (.exit j)) I s.1) N (x.2.2.2.2.2.2.2.2.1,())
theorem c9J(d6:ρ12):Z1 (a5t N d6) (a6B N d6) N (a9W N d6) 2 b3n:=fun st k hk=>H3 134 a8B a8A _ _ (a9W N d6) (c9G N d6) _ st k hk (rfl)
theorem c1f(d6:ρ12)(a:List GStmt)(b:Bool)(c:List GStmt)(e:Int)(KX:Nat->St->Option Bool)(I:St->Option Bool)(g:Int):
  p8 (a5t N d6) (a6B N d6) b5z 0 (b3l a b c e g) (F9 (b3o 0) I KX (a9W N d6))=a1K N d6 a b c e (KX 0 (a6f a b c e)) (fun g=>I (b3l a b c e g)) g:=by kernel_rfl
theorem c9F(d6:ρ12):∀x y k,(∀st,k .ret st=(a9W N d6) st)->iter (b3o 0) (o7 (a6B N d6) N b5z 0) N ⟨134,unF a8z x,unH a8y y⟩ k=c3v N d6 x y k:=fun x _ k hk=>
 p9 (S:=(Int)×Unit) (b3o 0) _ (p8 (a5t N d6) (a6B N d6) b5z 0) (a9W N d6) (u9 _ _ N _ b5z 0 (show LoopsOk (a5t N d6) (a6B N d6) N (a9W N d6) [(2,b3n)]from⟨c9J N d6,trivial⟩)) (fun s=>b3l x.1 x.2.1 x.2.2.1 x.2.2.2.1 s.1) k hk
  (fun self s=>a1K N d6 x.1 x.2.1 x.2.2.1 x.2.2.2.1 (k (.exit 0) (a6f x.1 x.2.1 x.2.2.1 x.2.2.2.1)) (fun a=>self (a,())) s.1) (fun n s=>b3k N d6 x.1 x.2.1 x.2.2.1 x.2.2.2.1 (k (.exit 0) (a6f x.1 x.2.1 x.2.2.1 x.2.2.2.1)) n s.1) (fun _=>rfl) (fun _ _=>rfl)
  (fun I s=>c1f N d6 x.1 x.2.1 x.2.2.1 x.2.2.2.1 (fun j=>k (.exit j)) I s.1) N (x.2.2.2.2.1,())
theorem d6o(d6:ρ12):Z1 (a5t N d6) (a6B N d6) N (a9W N d6) 0 b5z:=fun st k hk=>H3 134 a8z a8y _ _ (a9W N d6) (c9F N d6) _ st k hk (rfl)
theorem d3b(d6:ρ12)(x:SV [.v τ5,.v τ5,V3])(y:BV []):V4 (a6B N d6) Tryz.f13 (d3c N d6) c9K (a5t N d6) x y=C6 N d6 x.1 x.2.1 x.2.2.1:=by kernel_rfl
theorem c9L(d6:ρ12)(a0s:Sound Tryz.prog GW x9 13 (b84 fun x y=>d6 x.1 x.2.1 x.2.2.1)):Sound Tryz.prog GW x9 13 (d3c N d6):=
 b2f (EnvOk.jk (O3 b3o (c9H N d6) _ _ (c9I N d6 a0s)) _) Tryz.func13 rfl Tryz.call13 (d3c N d6) c9K (fun _ _=>rfl) N (a5t N d6) (show LoopsOk (a5t N d6) (a6B N d6) N (a9W N d6) [(0,b5z),(2,b3n)]from⟨d6o N d6,c9J N d6,trivial⟩) (d3b N d6)
def F0(N:Nat):Nat->(List GStmt)->(List GStmt)->Bool->Option (Bool)|0=>fun _ _ _=>none|d+1=>C6 N (F0 N d)
theorem b85(N:Nat):∀d,Sound Tryz.prog GW x9 13 (b84 fun x y=>F0 N d x.1 x.2.1 x.2.2.1)
 |0=>Sound.never Tryz.call13 (fun _ _=>rfl)
 |d+1=>c9L N (F0 N d) (b85 N d)
def U6(a:UInt8):Option Bool:=j8 (J7 N a) fun b=>br (b) (some true) (j8 (J6 N a) fun c=>br (c) (some true) (some (a==95)))
abbrev d8A:=sgM [.v .u8] [] [V3] [] (Bool) fun z=>((z,()),())
abbrev d6q:AF:=d8A fun x _=>U6 N x.1
theorem c9R:Snd 35 (d6q N):=
 a2o h0 [(33,d0U N),(36,c5h N)] (L3 (b3O N) (L3 (a8V N) T8)) Tryz.func35 rfl Tryz.call35 (d6q N) (fun x _=>x.1) (fun _ _=>rfl) N (fun _ _=>by kernel_rfl) rfl
end
end
noncomputable section
noncomputable section
variable(N:Nat)
def a0u(_N:Nat)(b a:d7):Option Bool:=br (decide ((b.length:Int)>=(a.length:Int))) (j8 (slc b 0 (a.length:Int)) fun c=>some (c==a)) (some false)
abbrev d75:=sgM [V1,V1] [] [V3] [] (Bool) fun z=>((z,()),())
abbrev d56:AF:=d75 fun x _=>a0u N x.1 x.2.1
theorem c8r:Snd 63 (d56 N):=
 a2o h0 [] T8 Tryz.func63 rfl Tryz.call63 (d56 N) (fun x _=>x.1) (fun _ _=>rfl) N (fun _ _=>by kernel_rfl) rfl
def a0K(a b:d7):Option Bool:=j8 (a0u N a b) fun c=>some c
abbrev d8W:=sgM [V1,V1] [] [V3] [] (Bool) fun z=>((z,()),())
abbrev d6z:AF:=d8W fun x _=>a0K N x.1 x.2.1
theorem d0z:Snd 39 (d6z N):=
 a2o h0 [(63,d56 N)] (L3 (c8r N) T8) Tryz.func39 rfl Tryz.call39 (d6z N) (fun x _=>x.1) (fun _ _=>rfl) N (fun _ _=>by kernel_rfl) rfl
def a7j(_N:Nat)(b:d7)(g:List τ0)(k0 self:Int->Option τ24)(a:Int):Option τ24:=br (decide (a<(b.length:Int))) (j8 (m6 b a) fun c=>br (c==32) (self (IntKind.i64.wrap (a+1))) (br (c==9) (self (IntKind.i64.wrap (a+1))) (br (c==10) (self (IntKind.i64.wrap (a+1))) (br (c==13) (self (IntKind.i64.wrap (a+1))) (br (c==35) (j8 (slc b a (b.length:Int)) fun l=>j8 (strings_IndexByte l 10) fun e=>br (decide (e<0)) (self (IntKind.i64.wrap (a+(IntKind.i64.wrap ((b.length:Int)-a))))) (self (IntKind.i64.wrap (a+e)))) (some (b,a,g))))))) (k0 a)
def b2M(N:Nat)(a:d7)(b:List τ0)(k0:Int->Option τ24):Nat->Int->Option τ24|0,_=>none|n+1,c=>a7j N a b k0 (b2M N a b k0 n) c
def L1(a:d7)(c:Int)(b:List τ0):Option τ24:=b2M N a b (fun e=>some (a,e,b)) N c
abbrev d7R(f:SV [.box 0 0]->BV [.cells [V1,V0,.row 1],.row 42 τ1 false]->Option τ24):AF:={ps:=[.box 0 0],bs:=[.cells [V1,V0,.row 1],.row 42 τ1 false],rs:=[],cs:=[.cells [V1,V0,.row 1],.row 42 τ1 false],R:=d7×Int×List τ0,out:=fun z=>((),(z.1,z.2.1,(),()),z.2.2,()),f:=f}
abbrev c71:AF:=d7R fun _ y=>L1 N y.1.1 y.1.2.1 y.2.1
abbrev c72:SV []->BV [.cells [V1,V0,.row 1],.row 42 τ1 false]->τ24:=fun _ y=>(y.1.1,y.1.2.1,y.2.1)
def d4l(_N:Nat):FuncId->Option Tmp->Option AF:=fun f _=>lkF [(32,d4y fun x _=>strings_IndexByte x.1 x.2.1)] f
theorem c70:X8 (d4l N):=fun _ _ _ h=>B9 h (L3 (b83) T8)
def c42:Nat->Hint:=fun i=>
 match i with
 |0=>⟨[],[0],[0,1],[],[0,1],[]⟩
 |100005=>⟨[0,1],[1],[],[],[],[]⟩
 |_=>y5
abbrev b4f:Env:=mkE c42 (d4l N) FF FF
noncomputable abbrev b5q:Code:=cAt (B3 Tryz.f16) [false,false]
abbrev c0P:=L9 (b4f N) Tryz.f16 (c71 N) c72
abbrev a8c:List (Nat×Sl):=[(0,.box 0 0)]
abbrev a8b:List (Nat×Sb):=[(0,.cells [V1,V0,.row 1]),(1,.row 42 τ1 false)]
def b2N(a:d7)(b:List τ0)(c:Int):St:=⟨78,[(0,.box 0 0)],[(0,.cells [.v .str a,.v τ2 c,.row 1]),(1,.row 42 τ1 false b)]⟩
def a54(a:d7)(b:List τ0)(c:Int):St:=⟨78,[],[(0,.cells [.v .str a,.v τ2 c,.row 1]),(1,.row 42 τ1 false b)]⟩
def d2E(a:d7)(b:List τ0)(c:Int)(k:Ex->St->Option τ24):Option τ24:=b2M N a b (fun e=>k (.exit 0) (a54 a b e)) N c
abbrev c28:FV a8c->HV a8b->(Ex->St->Option τ24)->Option τ24:=fun _ y k=>d2E N y.1.1 y.2.1 y.1.2.1 k
def b2O:Nat->Code->St->(Ex->St->Option τ24)->Option τ24:=fun i c=>
 match i with
 |0=>(LPc 78 a8c a8b (c28 N) (fun st k=>iter (c42 0) (o7 (b4f N) N c 0) N st k))
 |i=>fun st k=>iter (c42 i) (o7 (b4f N) N c i) N st k
theorem c0O(a:d7)(b:List τ0)(KX:Nat->St->Option τ24)(I:St->Option τ24)(c:Int):
  p8 (b2O N) (b4f N) b5q 0 (b2N a b c) (F9 (c42 0) I KX (c0P N))=a7j N a b (fun e=>KX 0 (a54 a b e)) (fun c=>I (b2N a b c)) c:=by kernel_rfl
theorem c7Z:∀x y k,(∀st,k .ret st=(c0P N) st)->iter (c42 0) (o7 (b4f N) N b5q 0) N ⟨78,unF a8c x,unH a8b y⟩ k=c28 N x y k:=fun _ y k hk=>
 p9 (S:=(Int)×Unit) (c42 0) _ (p8 (b2O N) (b4f N) b5q 0) (c0P N) (u9 _ _ N _ b5q 0 (show LoopsOk (b2O N) (b4f N) N (c0P N) []from trivial)) (fun s=>b2N y.1.1 y.2.1 s.1) k hk
  (fun self s=>a7j N y.1.1 y.2.1 (fun a=>k (.exit 0) (a54 y.1.1 y.2.1 a)) (fun b=>self (b,())) s.1) (fun n s=>b2M N y.1.1 y.2.1 (fun a=>k (.exit 0) (a54 y.1.1 y.2.1 a)) n s.1) (fun _=>rfl) (fun _ _=>rfl)
  (fun I s=>c0O N y.1.1 y.2.1 (fun j=>k (.exit j)) I s.1) N (y.1.2.1,())
theorem d5W:Z1 (b2O N) (b4f N) N (c0P N) 0 b5q:=fun st k hk=>H3 78 a8c a8b _ _ (c0P N) (c7Z N) _ st k hk (rfl)
theorem d2F(x:SV [.box 0 0])(y:BV [.cells [V1,V0,.row 1],.row 42 τ1 false]):V4 (b4f N) Tryz.f16 (c71 N) c72 (b2O N) x y=L1 N y.1.1 y.1.2.1 y.2.1:=by kernel_rfl
theorem c73:Snd 16 (c71 N):=
 a9J (c70 N) Tryz.func16 rfl Tryz.call16 (c71 N) c72 (fun _ _=>rfl) N (b2O N) (show LoopsOk (b2O N) (b4f N) N (c0P N) [(0,b5q)]from⟨d5W N,trivial⟩) (d2F N)
end
end
noncomputable section
noncomputable section
variable(N:Nat)
noncomputable def a5C:Code:=cAt (B3 Tryz.f21) [true,true]
noncomputable def a3t:Func:={Tryz.f21 with body:=some a5C}
def b6Z(st:St)(t r:Nat):Bool:=match st.ev (.tmp t)with
 |.box r' o=>Nat.beq r' r&&Nat.beq o 0&&match p5 st.hp r with
  |some (.cells [_])=>true
  |_=>false
 |_=>false
def d4Q(ρ:List Nat)(st:St):Bool:=(match ρ with | [0]=>true|_=>false)&&b6Z st 2 1&&b6Z st 3 2&&b6Z st 4 3
@[reducible] def b9w(R:Type):BothC (Except Int R):=⟨n8,a28,Go.Proofs.YtolpmfhiegpohaaGreatDoor.c3U,a9d,fun c ρ st=>match d4Q ρ st with|true=>some (.error c)|false=>none⟩
attribute [local instance 20000] b9w
def b3s(k0 self:ρ3)(c:List τ0)(e g:Int)(a:List GStmt):Option (Except Int (τc)):=br (decide ((c.length:Int)>0)) (n8 (n8 (l8 (m9 N N 0 c e g) fun b=>k7 1 (br (Zf (a.length + [Zv].length) τ17) (br (decide (0<=(a.length:Int)/\(a.length:Int)<((a ++ [Zv]).length:Int))) (k7 1 (j8 (m6 (a ++ [Zv]) (a.length:Int)) fun _=>self b.2.1 b.2.2.1 b.2.2.2 (G0 (a ++ [Zv]) (a.length:Int) b.1))) none) none)) (k7 1 (k7 1 (l8 (m9 N N 0 c e g) fun b=>br (Zf (a.length + [Zv].length) τ17) (br (decide (0<=(a.length:Int)/\(a.length:Int)<((a ++ [Zv]).length:Int))) (k7 1 (j8 (m6 (a ++ [Zv]) (a.length:Int)) fun _=>self b.2.1 b.2.2.1 b.2.2.2 (G0 (a ++ [Zv]) (a.length:Int) b.1))) none) none)))) (n8 (l8 (m9 N N 0 c e g) fun b=>n8 (k7 1 (br (Zf (a.length + [Zv].length) τ17) (br (decide (0<=(a.length:Int)/\(a.length:Int)<((a ++ [Zv]).length:Int))) (k7 1 (j8 (m6 (a ++ [Zv]) (a.length:Int)) fun _=>self b.2.1 b.2.2.1 b.2.2.2 (G0 (a ++ [Zv]) (a.length:Int) b.1))) none) none)) (br (Zf (a.length + [Zv].length) τ17) (br (decide (0<=(a.length:Int)/\(a.length:Int)<((a ++ [Zv]).length:Int))) (k7 1 (j8 (m6 (a ++ [Zv]) (a.length:Int)) fun _=>self b.2.1 b.2.2.1 b.2.2.2 (G0 (a ++ [Zv]) (a.length:Int) b.1))) none) none)) (n8 (k7 1 (l8 (m9 N N 0 c e g) fun b=>br (Zf (a.length + [Zv].length) τ17) (br (decide (0<=(a.length:Int)/\(a.length:Int)<((a ++ [Zv]).length:Int))) (k7 1 (j8 (m6 (a ++ [Zv]) (a.length:Int)) fun _=>self b.2.1 b.2.2.1 b.2.2.2 (G0 (a ++ [Zv]) (a.length:Int) b.1))) none) none)) (l8 (m9 N N 0 c e g) fun b=>br (Zf (a.length + [Zv].length) τ17) (br (decide (0<=(a.length:Int)/\(a.length:Int)<((a ++ [Zv]).length:Int))) (k7 1 (j8 (m6 (a ++ [Zv]) (a.length:Int)) fun _=>self b.2.1 b.2.2.1 b.2.2.2 (G0 (a ++ [Zv]) (a.length:Int) b.1))) none) none)))) (k0 c e g a)
def b0q(N:Nat)(k0:ρ3):Nat->τ6->Int->Int->(List GStmt)->Option (Except Int (τc))|0,_,_,_,_=>none|n+1,a,b,c,e=>b3s N k0 (b0q N k0 n) a b c e
def G6(b:List τ0)(c e _o:Int)(_p:Bool):Option (Except Int (τc)):=b0q N (fun g l m a=>some (.ok (a,0,true,g,l,m,0,true,a))) N b c e []
abbrev d8C(f:SV [.box 0 0,.dead,.box 1 0,.box 2 0,.box 3 0]->BV [.cells [V2,V0,V0],.cells [.nilS],.cells [V0],.cells [V3]]->Option (Except Int (τc))):PF:={ps:=[.box 0 0,.dead,.box 1 0,.box 2 0,.box 3 0],bs:=[.cells [V2,V0,V0],.cells [.nilS],.cells [V0],.cells [V3]],rs:=[.v τ5,V0,V3],cs:=[.cells [V2,V0,V0],.cells [.row 4],.cells [V0],.cells [V3],.row 71 τ17 false],R:=τc,out:=fun z=>((z.1,z.2.1,z.2.2.1,()),(z.2.2.2.1,z.2.2.2.2.1,z.2.2.2.2.2.1,()),((),()),(z.2.2.2.2.2.2.1,()),(z.2.2.2.2.2.2.2.1,()),z.2.2.2.2.2.2.2.2,()),f:=f}
abbrev b3v:PF:=d8C fun _ y=>G6 N y.1.1 y.1.2.1 y.1.2.2.1 y.2.2.1.1 y.2.2.2.1.1
abbrev c9X:SV [.v τ5,V0,V3]->BV [.cells [V2,V0,V0],.cells [.row 4],.cells [V0],.cells [V3],.row 71 τ17 false]->(τc):=fun x y=>(x.1,x.2.1,x.2.2.1,y.1.1,y.1.2.1,y.1.2.2.1,y.2.2.1.1,y.2.2.2.1.1,y.2.2.2.2.1)
abbrev a5v:SV [.v τ5,V0,V3]->BV [.cells [V2,V0,V0],.cells [.row 4],.cells [V0],.cells [V3],.row 71 τ17 false]->Except Int (τc):=fun x y=> .ok (c9X x y)
def c9U(_N:Nat):FuncId->Option Tmp->Option AF:=fun f _=>lkF [] f
theorem c9V:X8 (c9U N):=fun _ _ _ h=>B9 h T8
def c3z:FuncId->Option Tmp->Option PF:=fun f _=>
 match f with
  |48=>some (a8a fun x y=>m9 N N x.2.1 y.1.1 y.1.2.1 y.1.2.2.1)
  |_=>none
theorem c9W:∀f q F,c3z N f q=some F->SoundP Tryz.prog GW x9 B2 f F:=by
 intro f q F h;unfold c3z at h;split at h
 ·cases h;exact b8N N N
 ·cases h
def c5a:Nat->Hint:=fun i=>
 match i with
 |0=>⟨[],[0,2,3,4],[0,1,2,3,950001],[2,3,4],[0,1,2,3,950001],[(1,0,950001,71,τ17)]⟩
 |100003=>⟨[],[1,2],[],[],[],[]⟩
 |_=>y5
abbrev a2A:Env:=a08 c5a (c9U N) (c3z N) (fun i=>match i with|17=>true|_=>false) (fun _=>false)
abbrev a8F:List (Nat×Sl):=[(0,.box 0 0),(2,.box 1 0),(3,.box 2 0),(4,.box 3 0)]
abbrev a8E:List (Nat×Sb):=[(0,.cells [V2,V0,V0]),(1,.cells [.row 950001]),(2,.cells [V0]),(3,.cells [V3]),(950001,.row 71 τ17 true)]
def b3t(a:Int)(b:Bool)(c:List τ0)(e g:Int)(l:List GStmt):St:=⟨20,[(0,.box 0 0),(2,.box 1 0),(3,.box 2 0),(4,.box 3 0)],[(0,.cells [.v (.sl τ1) c,.v τ2 e,.v τ2 g]),(1,.cells [.row 950001]),(2,.cells [.v τ2 a]),(3,.cells [.v .bool b]),(950001,.row 71 τ17 true l)]⟩
def a6i(a:Int)(b:Bool)(c:List τ0)(e g:Int)(l:List GStmt):St:=⟨20,[(2,.box 1 0),(3,.box 2 0),(4,.box 3 0)],[(0,.cells [.v (.sl τ1) c,.v τ2 e,.v τ2 g]),(1,.cells [.row 950001]),(2,.cells [.v τ2 a]),(3,.cells [.v .bool b]),(950001,.row 71 τ17 true l)]⟩
def d3g(a:Int)(b:Bool)(c:List τ0)(e g:Int)(l:List GStmt)(k:Ex->St->Option (Except Int (τc))):Option (Except Int (τc)):=b0q N (fun m o p q=>k (.exit 0) (a6i a b m o p q)) N c e g l
abbrev c3y:FV a8F->HV a8E->(Ex->St->Option (Except Int (τc)))->Option (Except Int (τc)):=fun _ y k=>d3g N y.2.2.1.1 y.2.2.2.1.1 y.1.1 y.1.2.1 y.1.2.2.1 y.2.2.2.2.1 k
def b3u:Nat->Code->St->(Ex->St->Option (Except Int (τc)))->Option (Except Int (τc)):=fun i c=>
 match i with
 |0=>(LPc 20 a8F a8E (c3y N) (fun st k=>iter (c5a 0) (o7 (a2A N) N c 0) N st k))
 |i=>fun st k=>iter (c5a i) (o7 (a2A N) N c i) N st k
theorem c1k(g:Int)(l:Bool)(KX:Nat->St->Option (Except Int (τc)))(I:St->Option (Except Int (τc)))(a:List τ0)(b c:Int)(e:List GStmt):
  p8 (b3u N) (a2A N) (cAt (B3 a3t) [false,false,false]) 0 (b3t g l a b c e) (F9 (c5a 0) I KX (L9 (a2A N) a3t (PF.tf (b3v N)) a5v))=b3s N (fun m o p q=>KX 0 (a6i g l m o p q)) (fun a b c e=>I (b3t g l a b c e)) a b c e:=by kernel_rfl
theorem c9T:∀x y k,(∀st,k .ret st=(L9 (a2A N) a3t (PF.tf (b3v N)) a5v) st)->iter (c5a 0) (o7 (a2A N) N (cAt (B3 a3t) [false,false,false]) 0) N ⟨20,unF a8F x,unH a8E y⟩ k=c3y N x y k:=fun _ y k hk=>
 p9 (S:=τ6×(Int)×(Int)×(List GStmt)×Unit) (c5a 0) _ (p8 (b3u N) (a2A N) (cAt (B3 a3t) [false,false,false]) 0) (L9 (a2A N) a3t (PF.tf (b3v N)) a5v) (u9 _ _ N _ (cAt (B3 a3t) [false,false,false]) 0 (show LoopsOk (b3u N) (a2A N) N (L9 (a2A N) a3t (PF.tf (b3v N)) a5v) []from trivial)) (fun s=>b3t y.2.2.1.1 y.2.2.2.1.1 s.1 s.2.1 s.2.2.1 s.2.2.2.1) k hk
  (fun self s=>b3s N (fun a b c e=>k (.exit 0) (a6i y.2.2.1.1 y.2.2.2.1.1 a b c e)) (fun g l m o=>self (g,l,m,o,())) s.1 s.2.1 s.2.2.1 s.2.2.2.1) (fun n s=>b0q N (fun a b c e=>k (.exit 0) (a6i y.2.2.1.1 y.2.2.2.1.1 a b c e)) n s.1 s.2.1 s.2.2.1 s.2.2.2.1) (fun _=>rfl) (fun _ _=>rfl)
  (fun I s=>c1k N y.2.2.1.1 y.2.2.2.1.1 (fun j=>k (.exit j)) I s.1 s.2.1 s.2.2.1 s.2.2.2.1) N (y.1.1,y.1.2.1,y.1.2.2.1,y.2.2.2.2.1,())
theorem d6s:Z1 (b3u N) (a2A N) N (L9 (a2A N) a3t (PF.tf (b3v N)) a5v) 0 (cAt (B3 a3t) [false,false,false]):=fun st k hk=>H3 20 a8F a8E _ _ (L9 (a2A N) a3t (PF.tf (b3v N)) a5v) (c9T N) _ st k hk (rfl)
theorem d3h(x:SV [.box 0 0,.dead,.box 1 0,.box 2 0,.box 3 0])(y:BV [.cells [V2,V0,V0],.cells [.nilS],.cells [V0],.cells [V3]]):V4 (a2A N) a3t (PF.tf (b3v N)) a5v (b3u N) x y=G6 N y.1.1 y.1.2.1 y.1.2.2.1 y.2.2.1.1 y.2.2.2.1.1:=by kernel_rfl
theorem a3O(x:SV [.box 0 0,.dead,.box 1 0,.box 2 0,.box 3 0])(y:BV [.cells [V2,V0,V0],.cells [.nilS],.cells [V0],.cells [V3]])(z) (h:G6 N y.1.1 y.1.2.1 y.1.2.2.1 y.2.2.1.1 y.2.2.2.1.1=some z):b0f (a2A N) N a3t (PF.tf (b3v N)) (b9w _) a5v x y=some z:=
 ((a7R (a2A N) N a3t (PF.tf (b3v N)) a5v (b3u N) (show LoopsOk (b3u N) (a2A N) N (L9 (a2A N) a3t (PF.tf (b3v N)) a5v) [(0,(cAt (B3 a3t) [false,false,false]))]from⟨d6s N,trivial⟩) x y).trans (d3h N x y)).trans h
end
end
end Go.Proofs.YtolpmfhiegpohaaGreatDoor
