/- % -/
import Derived.Test.YtckdohagilcloaaGreatDoorQWeF14
namespace Go.Proofs.YtckdohagilcloaaGreatDoor
set_option maxRecDepth 100000
set_option linter.unusedVariables false
open Go Go.RowKit
noncomputable section
noncomputable section
variable(N:Nat)
def b2s(b:List d3)(c:Int)(k0:τ39)(self:ρ34)(a:Int):Option Int:=br (decide (a<c)) (k8 (n8 b a) fun e=>k8 (T0 N e) fun g=>br (!g) (some (5:Int)) (self (IntKind.i64.wrap (a+1)))) (k0)
def b9Q(N:Nat)(a:List d3)(b:Int)(k0:τ39):Nat->Int->Option Int|0,_=>none|n+1,c=>b2s N a b k0 (b9Q N a b k0 n) c
def b2t(b:List (d3×GExpr))(c:Int)(k2:τ39)(self:ρ34)(a:Int):Option Int:=br (decide (a<c)) (k8 (n8 b a) fun e=>k8 (T0 N e.1) fun g=>br (!g) (some (5:Int)) (self (IntKind.i64.wrap (a+1)))) (k2)
def b4p(N:Nat)(a:List (d3×GExpr))(b:Int)(k2:τ39):Nat->Int->Option Int|0,_=>none|n+1,c=>b2t N a b k2 (b4p N a b k2 n) c
def a2L(a:GStmt):Option Int:=k8 (k8 (a23 N a.kind) fun b=>br (b) (k8 (T0 N a.name) fun c=>some (!c)) (some false)) fun e=>br (e) (some (5:Int)) (br (a.kind==3) (b9Q N a.params (a.params.length:Int) (br (a.kind==2) (b4p N a.args (a.args.length:Int) (some (0:Int)) N 0) (some (0:Int))) N 0) (br (a.kind==2) (b4p N a.args (a.args.length:Int) (some (0:Int)) N 0) (some (0:Int))))
abbrev e60:=E3 [.v τ26] [] [V0] [] (Int) fun z=>((z,()),())
abbrev c7c:AF:=e60 fun x _=>a2L N x.1
abbrev d5k:SV [V0]->BV []->Int:=fun x _=>x.1
def c5v:FuncId->Option Tmp->Option AF:=fun f _=>P0 [(63,b7K N),(232,c7E N)] f
theorem d0y:H5 (c5v N):=fun _ _ _ h=>r9 h (u4 (b1g N) (u4 (b7z N) F1))
def e3X:Nat->Hint:=fun i=>
 match i with
 |0=>⟨[],[1,20,21,22],[1001],[1],[1001],[]⟩
 |2=>⟨[],[34,35,36],[],[],[],[]⟩
 |_=>o5
abbrev b7a:Env:=M5 e3X (c5v N) FF FF |>.jk (fun i=>match i with|1=>some 15|_=>none)
noncomputable abbrev e6Z:Code:=P9 (m8 Tryz.f189) [true,true,false,true,false,true,false,false]
noncomputable abbrev e6Y:Code:=P9 (m8 Tryz.f189) [true,true,true,false,true,false,true,false,false]
abbrev e3W:=B4 (b7a N) Tryz.f189 (c7c N) d5k
abbrev d0v:List (Nat×Sl):=[(1,.box 1001 0),(20,V4),(21,V0),(22,V0)]
abbrev b0R:List (Nat×Sb):=[(1001,.cells [V0,V1,V1,V4,.v τ29,V0,V1,V0,V4,.v (.sl O1),V5,V5,V0])]
def b4o(y:HV b0R):St:=⟨45,[(1,.box 1001 0)],unH b0R y⟩
def c2w:T9 (Int) d0v b0R:=fun K n x y=>b9Q N x.2.1 x.2.2.1 (K 0 (b4o y)) n x.2.2.2.1
abbrev d0x:List (Nat×Sl):=[(34,.v τ29),(35,V0),(36,V0)]
abbrev d0w:List (Nat×Sb):=[]
def c2x:T9 (Int) d0x d0w:=fun K n x y=>b4p N x.1 x.2.1 (K 2 ⟨45,[],[]⟩) n x.2.2.1
def c5u:Nat->Code->St->(Ex->St->Option Int)->Option Int:=fun i c=>
 match i with
 |0=>U4 (b7a N) N 45 (c2w N) 0 c
 |2=>U4 (b7a N) N 45 (c2x N) 2 c
 |i=>LpD (b7a N) N i c
theorem e1B:B2 (c5u N) (b7a N) N (e3W N) 2 e6Y:=
 o0 (c2x N) (fun K f x y=>b2t N x.1 x.2.1 (K 2 ⟨45,[],[]⟩) (fun a=>f (x.1,x.2.1,a,x.2.2.2) y) x.2.2.1)
theorem e1A:B2 (c5u N) (b7a N) N (e3W N) 0 e6Z:=
 o0 (c2w N) (fun K f x y=>b2s N x.2.1 x.2.2.1 (K 0 (b4o y)) (fun a=>f (x.1,x.2.1,x.2.2.1,a,x.2.2.2.2) y) x.2.2.2.1)
theorem d0z:I6 189 (c7c N):=
 a0l (EnvOk.jk (t6 e3X (c5v N) _ _ (d0y N)) _) Tryz.func189 Tryz.call189 (c7c N) d5k N (c5u N) (P5 (e1A N) (P5 (e1B N) U6))
def T1(_N:Nat)(a:GExpr):Option Bool:=k8 (br (a.kind==0) (br (a.text==[]) (br (a.number==0) (br ((a.keys.length:Int)==0) (some ((a.kids.length:Int)==0)) (some false)) (some false)) (some false)) (some false)) fun b=>some b
abbrev e8p:=E3 [.v O1] [] [V3] [] (Bool) fun z=>((z,()),())
abbrev c7Z:AF:=e8p fun x _=>T1 N x.1
def c5Z(_N:Nat):FuncId->Option Tmp->Option AF:=fun f _=>P0 [] f
theorem d2l:H5 (c5Z N):=fun _ _ _ h=>r9 h F1
def e4q:Nat->Hint:=fun i=>
 match i with
 |_=>o5
abbrev f2d:Env:=M5 e4q (c5Z N) FF FF |>.jk (fun i=>match i with|1=>some 2|_=>none)
theorem b7Q:I6 124 (c7Z N):=
 T5 (f2d N) (EnvOk.jk (t6 e4q (c5Z N) _ _ (d2l N)) _) Tryz.func124 Tryz.call124 (c7Z N) (fun x _=>x.1) N
def a3C(a:GStmt):Option Bool:=k8 (br (!(a.name==[])) (k8 (a23 N a.kind) fun b=>some (!b)) (some false)) fun c=>br (c) (some false) (k8 (br (!(a.text==[])) (some (a.kind !=6)) (some false)) fun e=>br (e) (some false) (k8 (N3 N a.text) fun g=>br (!g) (some false) (k8 (br (decide ((a.params.length:Int)>0)) (some (a.kind !=3)) (some false)) fun l=>br (l) (some false) (k8 (br (decide ((a.args.length:Int)>0)) (some (a.kind !=2)) (some false)) fun m=>br (m) (some false) (k8 (k8 (T1 N (Ze a.expr)) fun o=>br (!o) (br (a.kind !=1) (br (a.kind !=4) (some (a.kind !=5)) (some false)) (some false)) (some false)) fun p=>br (p) (some false) (k8 (br (decide ((a.body.length:Int)>0)) (br (a.kind !=3) (br (a.kind !=4) (some (a.kind !=5)) (some false)) (some false)) (some false)) fun q=>br (q) (some false) (k8 (br ((a.els.length:Int)==0) (some true) (some (a.kind==5))) fun r=>some r)))))))
abbrev e7c:=E3 [.v τ26] [] [V3] [] (Bool) fun z=>((z,()),())
abbrev d5s:AF:=e7c fun x _=>a3C N x.1
def c5A:FuncId->Option Tmp->Option AF:=fun f _=>P0 [(122,b7P N),(124,c7Z N),(232,c7E N)] f
theorem d0L:H5 (c5A N):=fun _ _ _ h=>r9 h (u4 (a7R N) (u4 (b7Q N) (u4 (b7z N) F1)))
def e33:Nat->Hint:=fun i=>
 match i with
 |_=>o5
abbrev f1m:Env:=M5 e33 (c5A N) FF FF |>.jk (fun i=>match i with|2=>some 6|3=>some 6|6=>some 26|7=>some 26|9=>some 43|11=>some 60|13=>some 2|_=>none)
theorem d0M:I6 190 (d5s N):=
 T5 (f1m N) (EnvOk.jk (t6 e33 (c5A N) _ _ (d0L N)) _) Tryz.func190 Tryz.call190 (d5s N) (fun x _=>x.1) N
def b2x(b:List d3)(c:Int)(e:List d3)(k0:Option Bool)(self:ρ33)(a:Int):Option Bool:=br (decide (a<c)) (k8 (n8 b a) fun g=>k8 (slc e 0 a) fun l=>k8 (s4 N l g) fun m=>br (m) (some true) (self (IntKind.i64.wrap (a+1)))) (k0)
def b9Z(N:Nat)(a:List d3)(b:Int)(c:List d3)(k0:Option Bool):Nat->Int->Option Bool|0,_=>none|n+1,e=>b2x N a b c k0 (b9Z N a b c k0 n) e
def b2z(_N:Nat)(b:List (d3×GExpr))(c:Int)(e:d3)(k4:Option Bool)(self:ρ33)(a:Int):Option Bool:=br (decide (a<c)) (k8 (n8 b a) fun g=>br (e==g.1) (some true) (self (IntKind.i64.wrap (a+1)))) (k4)
def b91(N:Nat)(a:List (d3×GExpr))(b:Int)(c:d3)(k4:Option Bool):Nat->Int->Option Bool|0,_=>none|n+1,e=>b2z N a b c k4 (b91 N a b c k4 n) e
def b2y(c:List (d3×GExpr))(e:Int)(g:List (d3×GExpr))(k2:Option Bool)(self:ρ33)(a:Int):Option Bool:=br (decide (a<e)) (k8 (n8 c a) fun l=>k8 (slc g 0 a) fun b=>b91 N b (b.length:Int) l.1 (self (IntKind.i64.wrap (a+1))) N 0) (k2)
def b90(N:Nat)(a:List (d3×GExpr))(b:Int)(c:List (d3×GExpr))(k2:Option Bool):Nat->Int->Option Bool|0,_=>none|n+1,e=>b2y N a b c k2 (b90 N a b c k2 n) e
def a5m(a:GStmt):Option Bool:=b9Z N a.params (a.params.length:Int) a.params (b90 N a.args (a.args.length:Int) a.args (some false) N 0) N 0
abbrev e7Z:=E3 [.v τ26] [] [V3] [] (Bool) fun z=>((z,()),())
abbrev c7H:AF:=e7Z fun x _=>a5m N x.1
abbrev d6t:SV [V3]->BV []->Bool:=fun x _=>x.1
def c5S:FuncId->Option Tmp->Option AF:=fun f _=>P0 [(98,z9g N)] f
theorem d1O:H5 (c5S N):=fun _ _ _ h=>r9 h (u4 (b2D N) F1)
def e4h:Nat->Hint:=fun i=>
 match i with
 |0=>⟨[],[1,10,11,12],[1001],[1],[1001],[]⟩
 |2=>⟨[],[1,25,26,27],[1001],[],[],[]⟩
 |4=>⟨[],[1,6,25,26,27,35,36,37],[1001,1006],[1,25,26,27],[1001],[]⟩
 |_=>o5
abbrev b1S:Env:=M5 e4h (c5S N) FF FF |>.jk (fun _=>none)
noncomputable abbrev e7Y:Code:=P9 (m8 Tryz.f191) [true,false,true,false,false]
noncomputable abbrev e7X:Code:=P9 (m8 Tryz.f191) [true,true,false,true,false,false]
noncomputable abbrev e7W:Code:=P9 (m8 Tryz.f191) [true,true,false,true,false,false,true,true,false,false,true,true,false,false]
abbrev d6s:=B4 (b1S N) Tryz.f191 (c7H N) d6t
abbrev d1L:List (Nat×Sl):=[(1,.box 1001 0),(10,V4),(11,V0),(12,V0)]
abbrev b1b:List (Nat×Sb):=[(1001,.cells [V0,V1,V1,V4,.v τ29,V0,V1,V0,V4,.v (.sl O1),V5,V5,V0])]
def b4W(y:HV b1b):St:=⟨48,[(1,.box 1001 0)],unH b1b y⟩
def c28:T9 (Bool) d1L b1b:=fun K n x y=>b9Z N x.2.1 x.2.2.1 y.1.2.2.2.1 (K 0 (b4W y)) n x.2.2.2.1
abbrev b7B:List (Nat×Sl):=[(1,.box 1001 0),(6,.box 1006 0),(25,.v τ29),(26,V0),(27,V0),(35,.v τ29),(36,V0),(37,V0)]
abbrev b7A:List (Nat×Sb):=[(1001,.cells [V0,V1,V1,V4,.v τ29,V0,V1,V0,V4,.v (.sl O1),V5,V5,V0]),(1006,.cells [V1,V0,V1,V0,V4,.v (.sl O1)])]
def b4X(x:FV b7B)(y:HV b7A):St:=⟨48,[(1,.box 1001 0),(25,.v τ29 x.2.2.1),(26,.v τ3 x.2.2.2.1),(27,.v τ3 x.2.2.2.2.1)],[(1001,.cells [.v τ3 y.1.1,.v .str y.1.2.1,.v .str y.1.2.2.1,.v τ21 y.1.2.2.2.1,.v τ29 y.1.2.2.2.2.1,.v τ3 y.1.2.2.2.2.2.1,.v .str y.1.2.2.2.2.2.2.1,.v τ3 y.1.2.2.2.2.2.2.2.1,.v τ21 y.1.2.2.2.2.2.2.2.2.1,.v (.sl O1) y.1.2.2.2.2.2.2.2.2.2.1,.v τ15 y.1.2.2.2.2.2.2.2.2.2.2.1,.v τ15 y.1.2.2.2.2.2.2.2.2.2.2.2.1,.v τ3 y.1.2.2.2.2.2.2.2.2.2.2.2.2.1])]⟩
def c3a:T9 (Bool) b7B b7A:=fun K n x y=>b91 N x.2.2.2.2.2.1 x.2.2.2.2.2.2.1 y.2.1.1 (K 4 (b4X x y)) n x.2.2.2.2.2.2.2.1
abbrev d1N:List (Nat×Sl):=[(1,.box 1001 0),(25,.v τ29),(26,V0),(27,V0)]
abbrev d1M:List (Nat×Sb):=[(1001,.cells [V0,V1,V1,V4,.v τ29,V0,V1,V0,V4,.v (.sl O1),V5,V5,V0])]
def c29:T9 (Bool) d1N d1M:=fun K n x y=>b90 N x.2.1 x.2.2.1 y.1.2.2.2.2.1 (K 2 ⟨48,[],[]⟩) n x.2.2.2.1
def b92:Nat->Code->St->(Ex->St->Option Bool)->Option Bool:=fun i c=>
 match i with
 |0=>U4 (b1S N) N 48 (c28 N) 0 c
 |2=>U4 (b1S N) N 48 (c29 N) 2 c
 |4=>U4 (b1S N) N 48 (c3a N) 4 c
 |i=>LpD (b1S N) N i c
theorem c7I:B2 (b92 N) (b1S N) N (d6s N) 4 e7W:=
 o0 (c3a N) (fun K f x y=>b2z N x.2.2.2.2.2.1 x.2.2.2.2.2.2.1 y.2.1.1 (K 4 (b4X x y)) (fun a=>f (x.1,x.2.1,x.2.2.1,x.2.2.2.1,x.2.2.2.2.1,x.2.2.2.2.2.1,x.2.2.2.2.2.2.1,a,x.2.2.2.2.2.2.2.2) y) x.2.2.2.2.2.2.2.1)
theorem e1X:B2 (b92 N) (b1S N) N (d6s N) 2 e7X:=
 a4Q (c29 N) (fun K f x y=>b2y N x.2.1 x.2.2.1 y.1.2.2.2.2.1 (K 2 ⟨48,[],[]⟩) (fun a=>f (x.1,x.2.1,x.2.2.1,a,x.2.2.2.2) y) x.2.2.2.1) (P5 (c7I N) U6)
theorem e1W:B2 (b92 N) (b1S N) N (d6s N) 0 e7Y:=
 o0 (c28 N) (fun K f x y=>b2x N x.2.1 x.2.2.1 y.1.2.2.2.1 (K 0 (b4W y)) (fun a=>f (x.1,x.2.1,x.2.2.1,a,x.2.2.2.2) y) x.2.2.2.1)
theorem d1P:I6 191 (c7H N):=
 a0l (EnvOk.jk (t6 e4h (c5S N) _ _ (d1O N)) _) Tryz.func191 Tryz.call191 (c7H N) d6t N (b92 N) (P5 (e1W N) (P5 (e1X N) (P5 (c7I N) U6)))
def b2w(b:List d3)(c:Int)(k0:Option Bool)(self:ρ33)(a:Int):Option Bool:=br (decide (a<c)) (k8 (n8 b a) fun e=>k8 (N3 N e) fun g=>br (!g) (some false) (self (IntKind.i64.wrap (a+1)))) (k0)
def a8Z(N:Nat)(a:List d3)(b:Int)(k0:Option Bool):Nat->Int->Option Bool|0,_=>none|n+1,c=>b2w N a b k0 (a8Z N a b k0 n) c
def X6(a:GExpr):Option Bool:=k8 (br (!(a.text==[])) (br (a.kind !=1) (br (a.kind !=3) (some true) (k8 (N3 N a.text) fun b=>some (!b))) (k8 (N3 N a.text) fun c=>some (!c))) (k8 (N3 N a.text) fun e=>some (!e))) fun g=>br (g) (some false) (k8 (br (a.number !=0) (br (a.kind !=2) (some true) (k8 (T2 N a.number 0 999999999) fun l=>some (!l))) (k8 (T2 N a.number 0 999999999) fun m=>some (!m))) fun o=>br (o) (some false) (a8Z N a.keys (a.keys.length:Int) (br (a.kind==1) (k8 (br ((a.kids.length:Int)==0) (some ((a.keys.length:Int)==0)) (some false)) fun p=>some p) (br (a.kind==2) (k8 (br ((a.kids.length:Int)==0) (some ((a.keys.length:Int)==0)) (some false)) fun q=>some q) (br (a.kind==3) (k8 (br ((a.kids.length:Int)==0) (some ((a.keys.length:Int)==0)) (some false)) fun r=>some r) (br (a.kind==4) (some ((a.keys.length:Int)==0)) (br (a.kind==6) (k8 (br ((a.keys.length:Int)==(a.kids.length:Int)) (some (decide ((a.keys.length:Int)>0))) (some false)) fun t=>some t) (k8 (br ((a.kids.length:Int)==2) (some ((a.keys.length:Int)==0)) (some false)) fun u=>some u)))))) N 0))
abbrev e7V:=E3 [.v O1] [] [V3] [] (Bool) fun z=>((z,()),())
abbrev c7G:AF:=e7V fun x _=>X6 N x.1
abbrev d6r:SV [V3]->BV []->Bool:=fun x _=>x.1
def c5R:FuncId->Option Tmp->Option AF:=fun f _=>P0 [(119,b7S N),(122,b7P N)] f
theorem d1J:H5 (c5R N):=fun _ _ _ h=>r9 h (u4 (a7S N) (u4 (a7R N) F1))
def e4g:Nat->Hint:=fun i=>
 match i with
 |0=>⟨[],[1,39,40,41],[1001],[1],[1001],[]⟩
 |_=>o5
abbrev c7F:Env:=M5 e4g (c5R N) FF FF |>.jk (fun i=>match i with|1=>some 23|3=>some 37|15=>some 2|19=>some 2|20=>some 2|_=>none)
noncomputable abbrev e7U:Code:=P9 (m8 Tryz.f233) [true,true,true,false,true,false,false]
abbrev f1M:=B4 (c7F N) Tryz.f233 (c7G N) d6r
abbrev d1I:List (Nat×Sl):=[(1,.box 1001 0),(39,V4),(40,V0),(41,V0)]
abbrev b1a:List (Nat×Sb):=[(1001,.cells [V0,V1,V0,V4,.v (.sl O1)])]
def b4V(y:HV b1a):St:=⟨96,[(1,.box 1001 0)],unH b1a y⟩
def c27:T9 (Bool) d1I b1a:=fun K n x y=>a8Z N x.2.1 x.2.2.1 (K 0 (b4V y)) n x.2.2.2.1
def d6q:Nat->Code->St->(Ex->St->Option Bool)->Option Bool:=fun i c=>
 match i with
 |0=>U4 (c7F N) N 96 (c27 N) 0 c
 |i=>LpD (c7F N) N i c
theorem e1V:B2 (d6q N) (c7F N) N (f1M N) 0 e7U:=
 o0 (c27 N) (fun K f x y=>b2w N x.2.1 x.2.2.1 (K 0 (b4V y)) (fun a=>f (x.1,x.2.1,x.2.2.1,a,x.2.2.2.2) y) x.2.2.2.1)
theorem d1K:I6 233 (c7G N):=
 a0l (EnvOk.jk (t6 e4g (c5R N) _ _ (d1J N)) _) Tryz.func233 Tryz.call233 (c7G N) d6r N (d6q N) (P5 (e1V N) U6)
def W5(_N:Nat)(a:GExpr)(c:Int):Option Bool:=k8 (n8 a.kids c) fun b=>k8 (br (a.kind==7) (br (b.kind==8) (some true) (br (a.kind==7) (br (c==1) (some (b.kind==7)) (some false)) (some false))) (br (a.kind==8) (br (b.kind==8) (some true) (br (a.kind==7) (br (c==1) (some (b.kind==7)) (some false)) (some false))) (br (a.kind==7) (br (c==1) (some (b.kind==7)) (some false)) (some false)))) fun e=>some e
abbrev e69:=E3 [.v O1,V0] [] [V3] [] (Bool) fun z=>((z,()),())
abbrev c7g:AF:=e69 fun x _=>W5 N x.1 x.2.1
def c5z(_N:Nat):FuncId->Option Tmp->Option AF:=fun f _=>P0 [] f
theorem d0J:H5 (c5z N):=fun _ _ _ h=>r9 h F1
def e32:Nat->Hint:=fun i=>
 match i with
 |_=>o5
abbrev f1k:Env:=M5 e32 (c5z N) FF FF |>.jk (fun i=>match i with|2=>some 4|_=>none)
theorem b7g:I6 196 (c7g N):=
 T5 (f1k N) (EnvOk.jk (t6 e32 (c5z N) _ _ (d0J N)) _) Tryz.func196 Tryz.call196 (c7g N) (fun x _=>x.1) N
abbrev b4v:=E3 [.v O1,V0] [] [V0] [] (Int) fun z=>((z,()),())
end
end
noncomputable section
noncomputable section
variable(N:Nat)
def b2o(j9:ρ23)(b:List d3)(c:Int)(e:List d3)(k0:τ39)(self:ρ34)(a:Int):Option Int:=br (decide (a<c)) (k8 (n8 b a) fun g=>k8 (slc e 0 a) fun l=>k8 (s4 N l g) fun m=>br (m) (some (7:Int)) (self (IntKind.i64.wrap (a+1)))) (k0)
def a8V(N:Nat)(j9:ρ23)(a:List d3)(b:Int)(c:List d3)(k0:τ39):Nat->Int->Option Int|0,_=>none|n+1,e=>b2o N j9 a b c k0 (a8V N j9 a b c k0 n) e
def a4g(j9:ρ23)(c:Int)(l:List GExpr)(m o:Int)(p:d3)(q:Int)(r:List d3)(t:List GExpr)(k2:τ39)(self:ρ34)(b:Int):Option Int:=br (decide (b<m)) (k8 (n8 l b) fun a=>k8 (W5 N (GExpr.mk o p q r t) b) fun u=>br (u) (k8 (j9 (Ze a) (IntKind.i64.wrap (c+1))) fun e=>br (e !=0) (some e) (self (IntKind.i64.wrap (b+1)))) (k8 (j9 (Ze a) c) fun g=>br (g !=0) (some g) (self (IntKind.i64.wrap (b+1))))) (k2)
def a3L(N:Nat)(j9:ρ23)(a:Int)(b:List GExpr)(c e:Int)(g:d3)(l:Int)(m:List d3)(o:List GExpr)(k2:τ39):Nat->Int->Option Int|0,_=>none|n+1,p=>a4g N j9 a b c e g l m o k2 (a3L N j9 a b c e g l m o k2 n) p
def s5(j9:ρ23)(a:GExpr)(b:Int):Option Int:=br (decide (b>=30)) (some (2:Int)) (k8 (br (decide (a.kind<1)) (some true) (some (decide (a.kind>8)))) fun c=>br (c) (some (4:Int)) (k8 (br (a.kind==3) (k8 (T0 N a.text) fun e=>some (!e)) (some false)) fun g=>br (g) (some (5:Int)) (k8 (X6 N (Ze a)) fun l=>br (!l) (some (3:Int)) (a8V N j9 a.keys (a.keys.length:Int) a.keys (br (a.kind==7) (a3L N j9 b a.kids (a.kids.length:Int) a.kind a.text a.number a.keys a.kids (some (0:Int)) N 0) (a3L N j9 (IntKind.i64.wrap (b+1)) a.kids (a.kids.length:Int) a.kind a.text a.number a.keys a.kids (some (0:Int)) N 0)) N 0))))
abbrev e6P:=E3 [.v O1,V0] [] [V0] [] (Int) fun z=>((z,()),())
abbrev d5a(j9:ρ23):AF:=e6P fun x _=>s5 N j9 x.1 x.2.1
abbrev d5b:SV [V0]->BV []->Int:=fun x _=>x.1
def c5r(j9:ρ23):FuncId->Option Tmp->Option AF:=fun f _=>P0 [(63,b7K N),(98,z9g N),(192,b4v fun x _=>j9 x.1 x.2.1),(196,c7g N),(233,c7G N)] f
theorem d0i(j9:ρ23)(a14:Sound Tryz.prog GW x6 192 (b4v fun x y=>j9 x.1 x.2.1)):∀f q F,c5r N j9 f q=some F->Sound Tryz.prog GW x6 f F:=fun _ _ _ h=>r9 h (u4 (b1g N) (u4 (b2D N) (u4 (a14) (u4 (b7g N) (u4 (d1K N) F1)))))
def e3R:Nat->Hint:=fun i=>
 match i with
 |0=>⟨[],[1,2,35,36,37],[1002],[1,2],[1002],[]⟩
 |2=>⟨[],[2,7,56,57,58],[1002],[],[],[]⟩
 |_=>o5
abbrev b60(j9:ρ23):Env:=M5 e3R (c5r N j9) (fun _=>false) (fun _=>false) |>.jk (fun i=>match i with|3=>some 21|5=>some 30|_=>none)
abbrev e3Q(j9:ρ23):=B4 (b60 N j9) Tryz.f192 (d5a N j9) d5b
noncomputable abbrev e6O:Code:=P9 (m8 Tryz.f192) [true,true,true,true,true,false,true,false,false]
noncomputable abbrev e6N:Code:=P9 (m8 Tryz.f192) [true,true,true,true,true,true,true,true,false,true,false,false]
abbrev b61:List (Nat×Sl):=[(1,V0),(2,.box 1002 0),(35,V4),(36,V0),(37,V0)]
abbrev b0L:List (Nat×Sb):=[(1002,.cells [V0,V1,V0,V4,.v (.sl O1)])]
def b4f(x:FV b61)(y:HV b0L):St:=⟨76,[(1,.v τ3 x.1),(2,.box 1002 0)],unH b0L y⟩
def c2n(j9:ρ23):T9 (Int) b61 b0L:=fun K n x y=>a8V N j9 x.2.2.1 x.2.2.2.1 y.1.2.2.2.1 (K 0 (b4f x y)) n x.2.2.2.2.1
abbrev d0h:List (Nat×Sl):=[(2,.box 1002 0),(7,V0),(56,.v (.sl O1)),(57,V0),(58,V0)]
abbrev d0g:List (Nat×Sb):=[(1002,.cells [V0,V1,V0,V4,.v (.sl O1)])]
def c2o(j9:ρ23):T9 (Int) d0h d0g:=fun K n x y=>a3L N j9 x.2.1 x.2.2.1 x.2.2.2.1 y.1.1 y.1.2.1 y.1.2.2.1 y.1.2.2.2.1 y.1.2.2.2.2.1 (K 2 ⟨76,[],[]⟩) n x.2.2.2.2.1
def c5q(j9:ρ23):Nat->Code->St->(Ex->St->Option Int)->Option Int:=fun i c=>
 match i with
 |0=>U4 (b60 N j9) N 76 (c2n N j9) 0 c
 |2=>U4 (b60 N j9) N 76 (c2o N j9) 2 c
 |i=>LpD (b60 N j9) N i c
theorem e1v(j9:ρ23):B2 (c5q N j9) (b60 N j9) N (e3Q N j9) 2 e6N:=
 o0 (c2o N j9) (fun K f x y=>a4g N j9 x.2.1 x.2.2.1 x.2.2.2.1 y.1.1 y.1.2.1 y.1.2.2.1 y.1.2.2.2.1 y.1.2.2.2.2.1 (K 2 ⟨76,[],[]⟩) (fun a=>f (x.1,x.2.1,x.2.2.1,x.2.2.2.1,a,x.2.2.2.2.2) y) x.2.2.2.2.1)
theorem e1u(j9:ρ23):B2 (c5q N j9) (b60 N j9) N (e3Q N j9) 0 e6O:=
 o0 (c2n N j9) (fun K f x y=>b2o N j9 x.2.2.1 x.2.2.2.1 y.1.2.2.2.1 (K 0 (b4f x y)) (fun a=>f (x.1,x.2.1,x.2.2.1,x.2.2.2.1,a,x.2.2.2.2.2) y) x.2.2.2.2.1)
theorem d0j(j9:ρ23)(a14:Sound Tryz.prog GW x6 192 (b4v fun x y=>j9 x.1 x.2.1)):Sound Tryz.prog GW x6 192 (d5a N j9):=
 a0l (EnvOk.jk (t6 e3R (c5r N j9) _ _ (d0i N j9 a14)) _) Tryz.func192 Tryz.call192 (d5a N j9) d5b N (c5q N j9) (P5 (e1u N j9) (P5 (e1v N j9) U6))
def A9(N:Nat):Nat->GExpr->Int->Option (Int)|0=>fun _ _=>none|d+1=>s5 N (A9 N d)
theorem b7h(N:Nat):∀d,Sound Tryz.prog GW x6 192 (b4v fun x y=>A9 N d x.1 x.2.1)
 |0=>Sound.never Tryz.call192 (fun _ _=>rfl)
 |d+1=>d0j N (A9 N d) (b7h N d)
abbrev b8i:=E3 [.v τ26,V0] [] [V0] [] (Int) fun z=>((z,()),())
def a2k(_N:Nat)(d8:ρ24)(e:Int)(g:List GStmt)(l:Int)(k0:τ39)(self:ρ34)(b:Int):Option Int:=br (decide (b<l)) (k8 (n8 g b) fun a=>k8 (d8 (GStmt.mk a.kind a.name a.text a.params a.args (Ze a.expr) a.body a.els a.at_) e) fun c=>br (c !=0) (some c) (self (IntKind.i64.wrap (b+1)))) (k0)
def b9R(N:Nat)(d8:ρ24)(a:Int)(b:List GStmt)(c:Int)(k0:τ39):Nat->Int->Option Int|0,_=>none|n+1,e=>a2k N d8 a b c k0 (b9R N d8 a b c k0 n) e
def J0(d8:ρ24)(a:List GStmt)(b:Int):Option Int:=b9R N d8 b a (a.length:Int) (some (0:Int)) N 0
abbrev d5E:=E3 [V5,V0] [] [V0] [] (Int) fun z=>((z,()),())
abbrev c7n(d8:ρ24):AF:=d5E fun x _=>J0 N d8 x.1 x.2.1
abbrev d5D:SV [V0]->BV []->Int:=fun x _=>x.1
def c5E(_N:Nat)(d8:ρ24):FuncId->Option Tmp->Option AF:=fun f _=>P0 [(126,b8i fun x _=>d8 x.1 x.2.1)] f
theorem d0Z(d8:ρ24)(F0:Sound Tryz.prog GW x6 126 (b8i fun x y=>d8 x.1 x.2.1)):∀f q F,c5E N d8 f q=some F->Sound Tryz.prog GW x6 f F:=fun _ _ _ h=>r9 h (u4 (F0) F1)
def e36:Nat->Hint:=fun i=>
 match i with
 |0=>⟨[],[1,8,9,10],[],[],[],[]⟩
 |_=>o5
abbrev c7m(d8:ρ24):Env:=M5 e36 (c5E N d8) (fun _=>false) (fun _=>false) |>.jk (fun _=>none)
abbrev f1p(d8:ρ24):=B4 (c7m N d8) Tryz.f66 (c7n N d8) d5D
noncomputable abbrev e7n:Code:=P9 (m8 Tryz.f66) [true,false,true,false,false]
abbrev d0Y:List (Nat×Sl):=[(1,V0),(8,V5),(9,V0),(10,V0)]
abbrev d0X:List (Nat×Sb):=[]
def c2H(d8:ρ24):T9 (Int) d0Y d0X:=fun K n x y=>b9R N d8 x.1 x.2.1 x.2.2.1 (K 0 ⟨21,[],[]⟩) n x.2.2.2.1
def d5C(d8:ρ24):Nat->Code->St->(Ex->St->Option Int)->Option Int:=fun i c=>
 match i with
 |0=>U4 (c7m N d8) N 21 (c2H N d8) 0 c
 |i=>LpD (c7m N d8) N i c
theorem e1I(d8:ρ24):B2 (d5C N d8) (c7m N d8) N (f1p N d8) 0 e7n:=
 o0 (c2H N d8) (fun K f x y=>a2k N d8 x.1 x.2.1 x.2.2.1 (K 0 ⟨21,[],[]⟩) (fun a=>f (x.1,x.2.1,x.2.2.1,a,x.2.2.2.2) y) x.2.2.2.1)
theorem b7n(d8:ρ24)(F0:Sound Tryz.prog GW x6 126 (b8i fun x y=>d8 x.1 x.2.1)):Sound Tryz.prog GW x6 66 (c7n N d8):=
 a0l (EnvOk.jk (t6 e36 (c5E N d8) _ _ (d0Z N d8 F0)) _) Tryz.func66 Tryz.call66 (c7n N d8) d5D N (d5C N d8) (P5 (e1I N d8) U6)
def b1k(d8:ρ24)(e:Int)(g:List (d3×GExpr))(l:Int)(k1:τ39)(self:ρ34)(b:Int):Option Int:=br (decide (b<l)) (k8 (n8 g b) fun a=>k8 (A9 N N (Ze a.2) (IntKind.i64.wrap (e+1))) fun c=>br (c !=0) (some c) (self (IntKind.i64.wrap (b+1)))) (k1)
def b78(N:Nat)(d8:ρ24)(a:Int)(b:List (d3×GExpr))(c:Int)(k1:τ39):Nat->Int->Option Int|0,_=>none|n+1,e=>b1k N d8 a b c k1 (b78 N d8 a b c k1 n) e
def F2(d8:ρ24)(a:GStmt)(b:Int):Option Int:=br (decide (b>=30)) (some (2:Int)) (k8 (br (decide (a.kind<1)) (some true) (some (decide (a.kind>6)))) fun m=>br (m) (some (4:Int)) (k8 (a2L N (GStmt.mk a.kind a.name a.text a.params a.args (Ze a.expr) a.body a.els a.at_)) fun c=>br (c !=0) (some c) (k8 (a3C N (GStmt.mk a.kind a.name a.text a.params a.args (Ze a.expr) a.body a.els a.at_)) fun o=>br (!o) (some (3:Int)) (k8 (br (decide ((a.params.length:Int)>30)) (some true) (some (decide ((a.args.length:Int)>30)))) fun p=>br (p) (some (2:Int)) (k8 (a5m N (GStmt.mk a.kind a.name a.text a.params a.args (Ze a.expr) a.body a.els a.at_)) fun q=>br (q) (some (7:Int)) (k8 (br (a.kind==1) (some true) (br (a.kind==4) (some true) (some (a.kind==5)))) fun r=>br (r) (k8 (A9 N N (Ze a.expr) (IntKind.i64.wrap (b+1))) fun e=>br (e !=0) (some e) (b78 N d8 b a.args (a.args.length:Int) (k8 (J0 N d8 a.body (IntKind.i64.wrap (b+1))) fun g=>br (g !=0) (some g) (k8 (J0 N d8 a.els (IntKind.i64.wrap (b+1))) fun t=>some t)) N 0)) (b78 N d8 b a.args (a.args.length:Int) (k8 (J0 N d8 a.body (IntKind.i64.wrap (b+1))) fun l=>br (l !=0) (some l) (k8 (J0 N d8 a.els (IntKind.i64.wrap (b+1))) fun u=>some u)) N 0)))))))
abbrev f2K:=E3 [.v τ26,V0] [] [V0] [] (Int) fun z=>((z,()),())
abbrev e8S(d8:ρ24):AF:=f2K fun x _=>F2 N d8 x.1 x.2.1
abbrev e4I:SV [V0]->BV []->Int:=fun x _=>x.1
def d7O(d8:ρ24):FuncId->Option Tmp->Option AF:=fun f _=>P0 [(66,c7n N d8),(189,c7c N),(190,d5s N),(191,c7H N),(192,b4v fun x _=>A9 N N x.1 x.2.1)] f
theorem d7P(d8:ρ24)(F0:Sound Tryz.prog GW x6 126 (b8i fun x y=>d8 x.1 x.2.1)):∀f q F,d7O N d8 f q=some F->Sound Tryz.prog GW x6 f F:=fun _ _ _ h=>r9 h (u4 (b7n N d8 F0) (u4 (d0z N) (u4 (d0M N) (u4 (d1P N) (u4 (b7h N N) F1)))))
def f2J:Nat->Hint:=fun i=>
 match i with
 |1=>⟨[],[1,2,66,67,68],[1002],[1,2],[1002],[]⟩
 |_=>o5
abbrev e2l(d8:ρ24):Env:=M5 f2J (d7O N d8) (fun _=>false) (fun _=>false) |>.jk (fun i=>match i with|3=>some 20|10=>some 30|14=>some 56|_=>none)
abbrev f6Q(d8:ρ24):=B4 (e2l N d8) Tryz.f126 (e8S N d8) e4I
noncomputable abbrev f2I:Code:=P9 (m8 Tryz.f126) [true,true,true,true,true,true,false,true,false,false]
abbrev c3x:List (Nat×Sl):=[(1,V0),(2,.box 1002 0),(66,.v τ29),(67,V0),(68,V0)]
abbrev b5j:List (Nat×Sb):=[(1002,.cells [V0,V1,V1,V4,.v τ29,V0,V1,V0,V4,.v (.sl O1),V5,V5,V0])]
def b79(x:FV c3x)(y:HV b5j):St:=⟨94,[(1,.v τ3 x.1),(2,.box 1002 0)],unH b5j y⟩
def c8d(d8:ρ24):T9 (Int) c3x b5j:=fun K n x y=>b78 N d8 x.1 x.2.2.1 x.2.2.2.1 (K 1 (b79 x y)) n x.2.2.2.2.1
def e4H(d8:ρ24):Nat->Code->St->(Ex->St->Option Int)->Option Int:=fun i c=>
 match i with
 |1=>U4 (e2l N d8) N 94 (c8d N d8) 1 c
 |i=>LpD (e2l N d8) N i c
theorem e8T(d8:ρ24):B2 (e4H N d8) (e2l N d8) N (f6Q N d8) 1 f2I:=
 o0 (c8d N d8) (fun K f x y=>b1k N d8 x.1 x.2.2.1 x.2.2.2.1 (K 1 (b79 x y)) (fun a=>f (x.1,x.2.1,x.2.2.1,x.2.2.2.1,a,x.2.2.2.2.2) y) x.2.2.2.2.1)
theorem d7Q(d8:ρ24)(F0:Sound Tryz.prog GW x6 126 (b8i fun x y=>d8 x.1 x.2.1)):Sound Tryz.prog GW x6 126 (e8S N d8):=
 a0l (EnvOk.jk (t6 f2J (d7O N d8) _ _ (d7P N d8 F0)) _) Tryz.func126 Tryz.call126 (e8S N d8) e4I N (e4H N d8) (P5 (e8T N d8) U6)
def G8(N:Nat):Nat->GStmt->Int->Option (Int)|0=>fun _ _=>none|d+1=>F2 N (G8 N d)
theorem c3F(N:Nat):∀d,Sound Tryz.prog GW x6 126 (b8i fun x y=>G8 N d x.1 x.2.1)
 |0=>Sound.never Tryz.call126 (fun _ _=>rfl)
 |d+1=>d7Q N (G8 N d) (c3F N d)
def a1C(a:UInt8):Option Bool:=br (decide (a>=48)) (br (decide (a<=57)) (some true) (k8 (strings_IndexByte [46,95,45,43] a) fun b=>some (decide (b>=0)))) (k8 (strings_IndexByte [46,95,45,43] a) fun c=>some (decide (c>=0)))
def a2q(_N:Nat)(a:UInt8):Option Bool:=br (decide (a>=97)) (br (decide (a<=122)) (some true) (br (decide (a>=65)) (br (decide (a<=90)) (some true) (a1C a)) (a1C a))) (br (decide (a>=65)) (br (decide (a<=90)) (some true) (a1C a)) (a1C a))
abbrev e8d:=E3 [.v .u8] [] [V3] [] (Bool) fun z=>((z,()),())
abbrev d6J:AF:=e8d fun x _=>a2q N x.1
theorem d17:I6 95 (d6J N):=
 N9 h0 (u4 (a7B) F1) Tryz.func95 Tryz.call95 (d6J N) (fun x _=>x.1) N
def a7P(b:d3)(c:Int)(k0:Option Bool)(self:ρ33)(a:Int):Option Bool:=br (decide (a<c)) (k8 (n8 b a) fun e=>k8 (a2q N e) fun g=>br (!g) (some false) (self (IntKind.i64.wrap (a+1)))) (k0)
def b98(N:Nat)(a:d3)(b:Int)(k0:Option Bool):Nat->Int->Option Bool|0,_=>none|n+1,c=>a7P N a b k0 (b98 N a b k0 n) c
def a3U(a:d3):Option Bool:=b98 N a (a.length:Int) (br (!(a==[])) (br (!(a==[46])) (some (!(a==[46,46]))) (some false)) (some false)) N 0
abbrev e8g:=E3 [V1] [] [V3] [] (Bool) fun z=>((z,()),())
abbrev c7S:AF:=e8g fun x _=>a3U N x.1
abbrev d6Q:SV [V3]->BV []->Bool:=fun x _=>x.1
def d6P:FuncId->Option Tmp->Option AF:=fun f _=>P0 [(95,d6J N)] f
theorem d19:H5 (d6P N):=fun _ _ _ h=>r9 h (u4 (d17 N) F1)
def f1Y:Nat->Hint:=fun i=>
 match i with
 |0=>⟨[],[0,5,6],[],[0],[],[]⟩
 |_=>o5
abbrev c7R:Env:=M5 f1Y (d6P N) FF FF
noncomputable abbrev e8f:Code:=P9 (m8 Tryz.f50) [true,false,true,false,false]
abbrev f1X:=B4 (c7R N) Tryz.f50 (c7S N) d6Q
abbrev b7I:List (Nat×Sl):=[(0,V1),(5,V0),(6,V0)]
abbrev d18:List (Nat×Sb):=[]
def b44(x:FV b7I):St:=⟨25,[(0,.v .str x.1)],[]⟩
def c3i:T9 (Bool) b7I d18:=fun K n x y=>b98 N x.1 x.2.1 (K 0 (b44 x)) n x.2.2.1
def d6O:Nat->Code->St->(Ex->St->Option Bool)->Option Bool:=fun i c=>
 match i with
 |0=>U4 (c7R N) N 25 (c3i N) 0 c
 |i=>LpD (c7R N) N i c
theorem e17:B2 (d6O N) (c7R N) N (f1X N) 0 e8f:=
 o0 (c3i N) (fun K f x y=>a7P N x.1 x.2.1 (K 0 (b44 x)) (fun a=>f (x.1,x.2.1,a,x.2.2.2) y) x.2.2.1)
theorem d2a:I6 50 (c7S N):=
 X0 (d19 N) Tryz.func50 Tryz.call50 (c7S N) d6Q N (d6O N) (P5 (e17 N) U6)
def a7N(b:List d3)(c:Int)(k0:Option Bool)(self:ρ33)(a:Int):Option Bool:=br (decide (a<c)) (k8 (n8 b a) fun e=>k8 (a3U N e) fun g=>br (!g) (some false) (self (IntKind.i64.wrap (a+1)))) (k0)
def b97(N:Nat)(a:List d3)(b:Int)(k0:Option Bool):Nat->Int->Option Bool|0,_=>none|n+1,c=>a7N N a b k0 (b97 N a b k0 n) c
def X3(a:d3):Option Bool:=br (decide ((a.length:Int)<1)) (some false) (br (decide ((a.length:Int)>200)) (some false) (k8 (strings_Split a [47]) fun b=>b97 N b (b.length:Int) (some true) N 0))
abbrev e8c:=E3 [V1] [] [V3] [] (Bool) fun z=>((z,()),())
abbrev b43:AF:=e8c fun x _=>X3 N x.1
abbrev d6I:SV [V3]->BV []->Bool:=fun x _=>x.1
def d6H:FuncId->Option Tmp->Option AF:=fun f _=>P0 [(49,d6c),(50,c7S N)] f
theorem d16:H5 (d6H N):=fun _ _ _ h=>r9 h (u4 (b04) (u4 (d2a N) F1))
def f1U:Nat->Hint:=fun i=>
 match i with
 |0=>⟨[],[14,15,16],[],[],[],[]⟩
 |_=>o5
abbrev c7O:Env:=M5 f1U (d6H N) FF FF
noncomputable abbrev e8b:Code:=P9 (m8 Tryz.f25) [true,true,false,true,false,false]
abbrev f1T:=B4 (c7O N) Tryz.f25 (b43 N) d6I
abbrev d15:List (Nat×Sl):=[(14,V4),(15,V0),(16,V0)]
abbrev d14:List (Nat×Sb):=[]
def c3h:T9 (Bool) d15 d14:=fun K n x y=>b97 N x.1 x.2.1 (K 0 ⟨24,[],[]⟩) n x.2.2.1
def d6G:Nat->Code->St->(Ex->St->Option Bool)->Option Bool:=fun i c=>
 match i with
 |0=>U4 (c7O N) N 24 (c3h N) 0 c
 |i=>LpD (c7O N) N i c
theorem e14:B2 (d6G N) (c7O N) N (f1T N) 0 e8b:=
 o0 (c3h N) (fun K f x y=>a7N N x.1 x.2.1 (K 0 ⟨24,[],[]⟩) (fun a=>f (x.1,x.2.1,a,x.2.2.2) y) x.2.2.1)
theorem a7O:I6 25 (b43 N):=
 X0 (d16 N) Tryz.func25 Tryz.call25 (b43 N) d6I N (d6G N) (P5 (e14 N) U6)
end
end
end Go.Proofs.YtckdohagilcloaaGreatDoor
