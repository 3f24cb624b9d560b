/- % -/
import Derived.Test.YtckdohagilcloaaGreatDoorQWeF6
namespace Go.Proofs.YtckdohagilcloaaGreatDoor
set_option maxRecDepth 100000
set_option linter.unusedVariables false
open Go Go.RowKit
noncomputable section
noncomputable section
variable(N:Nat)
def D8(_N:Nat)(a:GStmt):Option (Bool×Bool×Bool×Bool×Bool×Bool×Bool):=br (a.kind==1) (some (true,false,false,false,true,false,false)) (br (a.kind==2) (some (true,false,false,true,false,false,false)) (br (a.kind==3) (some (true,false,true,false,false,true,false)) (br (a.kind==4) (some (true,false,false,false,true,true,false)) (br (a.kind==5) (some (false,false,false,false,true,true,true)) (some (false,true,false,false,false,false,false))))))
abbrev e8B:=E3 [.v τ26] [] [.v τ44] [] (Bool×Bool×Bool×Bool×Bool×Bool×Bool) fun z=>((z,()),())
abbrev c3r:AF:=e8B fun x _=>D8 N x.1
def c51(_N:Nat):FuncId->Option Tmp->Option AF:=fun f _=>P0 [] f
theorem d2t:H5 (c51 N):=fun _ _ _ h=>r9 h F1
def e4w:Nat->Hint:=fun i=>
 match i with
 |_=>o5
abbrev f2j:Env:=M5 e4w (c51 N) FF FF |>.jk (fun _=>none)
theorem b1i:I6 106 (c3r N):=
 T5 (f2j N) (EnvOk.jk (t6 e4w (c51 N) _ _ (d2t N)) _) Tryz.func106 Tryz.call106 (c3r N) (fun x _=>x.1) N
abbrev b5b:=E3 [.v O1] [] [V0] [] (Int) fun z=>((z,()),())
def a4h(_N:Nat)(m9:ρ30)(e:List GExpr)(g:Int)(k0:ρ34)(self:ρ28)(c b:Int):Option Int:=br (decide (b<g)) (k8 (n8 e b) fun a=>k8 (m9 (Ze a)) fun l=>self (IntKind.i64.wrap (c+l)) (IntKind.i64.wrap (b+1))) (k0 c)
def b9X(N:Nat)(m9:ρ30)(a:List GExpr)(b:Int)(k0:ρ34):Nat->Int->Int->Option Int|0,_,_=>none|n+1,c,e=>a4h N m9 a b k0 (b9X N m9 a b k0 n) c e
def a2g(m9:ρ30)(a:GExpr):Option Int:=b9X N m9 a.kids (a.kids.length:Int) (fun b=>some b) N 1 0
abbrev e7G:=E3 [.v O1] [] [V0] [] (Int) fun z=>((z,()),())
abbrev d56(m9:ρ30):AF:=e7G fun x _=>a2g N m9 x.1
abbrev d57:SV [V0]->BV []->Int:=fun x _=>x.1
def c5L(_N:Nat)(m9:ρ30):FuncId->Option Tmp->Option AF:=fun f _=>P0 [(107,b5b fun x _=>m9 x.1)] f
theorem d1q(m9:ρ30)(a4o:Sound Tryz.prog GW x6 107 (b5b fun x y=>m9 x.1)):∀f q F,c5L N m9 f q=some F->Sound Tryz.prog GW x6 f F:=fun _ _ _ h=>r9 h (u4 (a4o) F1)
def e4c:Nat->Hint:=fun i=>
 match i with
 |0=>⟨[],[3,7,8,9],[],[3],[],[]⟩
 |_=>o5
abbrev c7x(m9:ρ30):Env:=M5 e4c (c5L N m9) (fun _=>false) (fun _=>false) |>.jk (fun _=>none)
abbrev f1E(m9:ρ30):=B4 (c7x N m9) Tryz.f107 (d56 N m9) d57
noncomputable abbrev e7F:Code:=P9 (m8 Tryz.f107) [true,true,false,true,false,false]
abbrev b7s:List (Nat×Sl):=[(3,V0),(7,.v (.sl O1)),(8,V0),(9,V0)]
abbrev d1p:List (Nat×Sb):=[]
def b4M(x:FV b7s):St:=⟨19,[(3,.v τ3 x.1)],[]⟩
def c2U(m9:ρ30):T9 (Int) b7s d1p:=fun K n x y=>b9X N m9 x.2.1 x.2.2.1 (fun a=>K 0 (b4M (a,x.2))) n x.1 x.2.2.2.1
def d55(m9:ρ30):Nat->Code->St->(Ex->St->Option Int)->Option Int:=fun i c=>
 match i with
 |0=>U4 (c7x N m9) N 19 (c2U N m9) 0 c
 |i=>LpD (c7x N m9) N i c
theorem e1Q(m9:ρ30):B2 (d55 N m9) (c7x N m9) N (f1E N m9) 0 e7F:=
 o0 (c2U N m9) (fun K f x y=>a4h N m9 x.2.1 x.2.2.1 (fun a=>K 0 (b4M (a,x.2))) (fun b c=>f (b,x.2.1,x.2.2.1,c,x.2.2.2.2) y) x.1 x.2.2.2.1)
theorem d1r(m9:ρ30)(a4o:Sound Tryz.prog GW x6 107 (b5b fun x y=>m9 x.1)):Sound Tryz.prog GW x6 107 (d56 N m9):=
 a0l (EnvOk.jk (t6 e4c (c5L N m9) _ _ (d1q N m9 a4o)) _) Tryz.func107 Tryz.call107 (d56 N m9) d57 N (d55 N m9) (P5 (e1Q N m9) U6)
def T4(N:Nat):Nat->GExpr->Option (Int)|0=>fun _=>none|d+1=>a2g N (T4 N d)
theorem b7W(N:Nat):∀d,Sound Tryz.prog GW x6 107 (b5b fun x y=>T4 N d x.1)
 |0=>Sound.never Tryz.call107 (fun _ _=>rfl)
 |d+1=>d1r N (T4 N d) (b7W N d)
abbrev b95:=E3 [V5] [] [V0] [] (Int) fun z=>((z,()),())
def a0N(j7:ρ22)(e:List (d3×GExpr))(g:Int)(k2:ρ34)(self:ρ28)(c b:Int):Option Int:=br (decide (b<g)) (k8 (n8 e b) fun a=>k8 (T4 N N (Ze a.2)) fun l=>self (IntKind.i64.wrap (c+l)) (IntKind.i64.wrap (b+1))) (k2 c)
def a3N(N:Nat)(j7:ρ22)(a:List (d3×GExpr))(b:Int)(k2:ρ34):Nat->Int->Int->Option Int|0,_,_=>none|n+1,c,e=>a0N N j7 a b k2 (a3N N j7 a b k2 n) c e
def Q3(j7:ρ22)(g:List GStmt)(l:Int)(k0:ρ34)(self:ρ28)(c b:Int):Option Int:=br (decide (b<l)) (k8 (n8 g b) fun a=>k8 (D8 N (GStmt.mk a.kind a.name a.text a.params a.args (Ze a.expr) a.body a.els a.at_)) fun m=>br (m.2.2.2.2.1) (k8 (T4 N N (Ze a.expr)) fun o=>a3N N j7 a.args (a.args.length:Int) (fun e=>k8 (j7 a.body) fun p=>k8 (j7 a.els) fun q=>self (IntKind.i64.wrap (e+(IntKind.i64.wrap (p+q)))) (IntKind.i64.wrap (b+1))) N (IntKind.i64.wrap ((IntKind.i64.wrap (c+1))+o)) 0) (a3N N j7 a.args (a.args.length:Int) (fun e=>k8 (j7 a.body) fun r=>k8 (j7 a.els) fun t=>self (IntKind.i64.wrap (e+(IntKind.i64.wrap (r+t)))) (IntKind.i64.wrap (b+1))) N (IntKind.i64.wrap (c+1)) 0)) (k0 c)
def a3M(N:Nat)(j7:ρ22)(a:List GStmt)(b:Int)(k0:ρ34):Nat->Int->Int->Option Int|0,_,_=>none|n+1,c,e=>Q3 N j7 a b k0 (a3M N j7 a b k0 n) c e
def J6(j7:ρ22)(a:List GStmt):Option Int:=a3M N j7 a (a.length:Int) (fun b=>some b) N 0 0
abbrev e7h:=E3 [V5] [] [V0] [] (Int) fun z=>((z,()),())
abbrev d5x(j7:ρ22):AF:=e7h fun x _=>J6 N j7 x.1
abbrev d5y:SV [V0]->BV []->Int:=fun x _=>x.1
def c5C(j7:ρ22):FuncId->Option Tmp->Option AF:=fun f _=>P0 [(55,b95 fun x _=>j7 x.1),(106,c3r N),(107,b5b fun x _=>T4 N N x.1)] f
theorem d0S(j7:ρ22)(a3v:Sound Tryz.prog GW x6 55 (b95 fun x y=>j7 x.1)):∀f q F,c5C N j7 f q=some F->Sound Tryz.prog GW x6 f F:=fun _ _ _ h=>r9 h (u4 (a3v) (u4 (b1i N) (u4 (b7W N N) F1)))
def b7l:Nat->Hint:=fun i=>
 match i with
 |0=>⟨[],[3,8,9,10],[],[3],[],[]⟩
 |2=>⟨[],[3,5,8,9,10,25,26,27],[1005],[3,5,8,9,10],[1005],[]⟩
 |_=>o5
abbrev a8t(j7:ρ22):Env:=M5 b7l (c5C N j7) (fun _=>false) (fun _=>false) |>.jk (fun _=>none)
abbrev b4B(j7:ρ22):=B4 (a8t N j7) Tryz.f55 (d5x N j7) d5y
noncomputable abbrev e7g:Code:=P9 (m8 Tryz.f55) [true,true,false,true,false,false]
noncomputable abbrev b4C:Code:=P9 (m8 Tryz.f55) [true,true,false,true,false,false,true,true,false,false,true,true,true,false,true,false,false]
abbrev a7F:List (Nat×Sl):=[(3,V0),(5,.box 1005 0),(8,V5),(9,V0),(10,V0),(25,.v τ29),(26,V0),(27,V0)]
abbrev a7E:List (Nat×Sb):=[(1005,.cells [V0,V1,V1,V4,.v τ29,V0,V1,V0,V4,.v (.sl O1),V5,V5,V0])]
def b0X(a:List GStmt)(b c:Int)(e:List (d3×GExpr))(g l:Int)(m o:d3)(p:List d3)(q:List (d3×GExpr))(r:Int)(t:d3)(u:Int)(w:List d3)(B:List GExpr)(C D:List GStmt)(E H J:Int):St:=⟨48,[(3,.v τ3 H),(5,.box 1005 0),(8,.v τ15 a),(9,.v τ3 b),(10,.v τ3 c),(25,.v τ29 e),(26,.v τ3 g),(27,.v τ3 J)],[(1005,.cells [.v τ3 l,.v .str m,.v .str o,.v τ21 p,.v τ29 q,.v τ3 r,.v .str t,.v τ3 u,.v τ21 w,.v (.sl O1) B,.v τ15 C,.v τ15 D,.v τ3 E])]⟩
def a5H(a:List GStmt)(b c:Int)(_E:List (d3×GExpr))(_H e:Int)(g l:d3)(m:List d3)(o:List (d3×GExpr))(p:Int)(q:d3)(r:Int)(t:List d3)(u:List GExpr)(w B:List GStmt)(C D:Int):St:=⟨48,[(3,.v τ3 D),(5,.box 1005 0),(8,.v τ15 a),(9,.v τ3 b),(10,.v τ3 c)],[(1005,.cells [.v τ3 e,.v .str g,.v .str l,.v τ21 m,.v τ29 o,.v τ3 p,.v .str q,.v τ3 r,.v τ21 t,.v (.sl O1) u,.v τ15 w,.v τ15 B,.v τ3 C])]⟩
def d5w(j7:ρ22)(c:List GStmt)(e g:Int)(a:List (d3×GExpr))(b l:Int)(m o:d3)(p:List d3)(q:List (d3×GExpr))(r:Int)(t:d3)(u:Int)(v:List d3)(w:List GExpr)(B C:List GStmt)(D E H:Int)(k:Ex->St->Option Int):Option Int:=a3N N j7 a b (fun J=>k (.exit 2) (a5H c e g a b l m o p q r t u v w B C D J)) N E H
abbrev c2E(j7:ρ22):FV a7F->HV a7E->(Ex->St->Option Int)->Option Int:=fun x y k=>let z:=y.1.2.2.2.2.2.2;let u:=y.1.2.2;d5w N j7 x.2.2.1 x.2.2.2.1 x.2.2.2.2.1 x.2.2.2.2.2.1 x.2.2.2.2.2.2.1 y.1.1 y.1.2.1 u.1 u.2.1 u.2.2.1 u.2.2.2.1 z.1 z.2.1 z.2.2.1 z.2.2.2.1 z.2.2.2.2.1 z.2.2.2.2.2.1 z.2.2.2.2.2.2.1 x.1 x.2.2.2.2.2.2.2.1 k
abbrev b7k:List (Nat×Sl):=[(3,V0),(8,V5),(9,V0),(10,V0)]
abbrev d0Q:List (Nat×Sb):=[]
def b4A(x:FV b7k):St:=⟨48,[(3,.v τ3 x.1)],[]⟩
def c2D(j7:ρ22):T9 (Int) b7k d0Q:=fun K n x y=>a3M N j7 x.2.1 x.2.2.1 (fun a=>K 0 (b4A (a,x.2))) n x.1 x.2.2.2.1
def b0Y(j7:ρ22):Nat->Code->St->(Ex->St->Option Int)->Option Int:=fun i c=>
 match i with
 |0=>U4 (a8t N j7) N 48 (c2D N j7) 0 c
 |2=>(LPc 48 a7F a7E (c2E N j7) (fun st k=>iter (b7l 2) (Q0 (a8t N j7) N c 2) N st k))
 |i=>LpD (a8t N j7) N i c
theorem c2F(j7:ρ22)(e:List GStmt)(g l:Int)(a:List (d3×GExpr))(b m:Int)(o p:d3)(q:List d3)(r:List (d3×GExpr))(t:Int)(u:d3)(v:Int)(w:List d3)(B:List GExpr)(C D:List GStmt)(E:Int)(KX:Nat->St->Option Int)(I:St->Option Int)(c s27:Int):
  Q4 (b0Y N j7) (a8t N j7) b4C 2 (b0X e g l a b m o p q r t u v w B C D E c s27) (a2M (b7l 2) I KX (b4B N j7))=a0N N j7 a b (fun H=>KX 2 (a5H e g l a b m o p q r t u v w B C D E H)) (fun c s27=>I (b0X e g l a b m o p q r t u v w B C D E c s27)) c s27:=by kernel_rfl
theorem d0R(j7:ρ22):∀x y k,(∀st,k .ret st=(b4B N j7) st)->iter (b7l 2) (Q0 (a8t N j7) N b4C 2) N ⟨48,unF a7F x,unH a7E y⟩ k=c2E N j7 x y k:=fun x y k hk=>
 a0D (S:=(Int)×(Int)×Unit) (b7l 2) _ (Q4 (b0Y N j7) (a8t N j7) b4C 2) (b4B N j7) (a0V _ _ N _ b4C 2 (show LoopsOk (b0Y N j7) (a8t N j7) N (b4B N j7) []from trivial)) (fun s=>b0X x.2.2.1 x.2.2.2.1 x.2.2.2.2.1 x.2.2.2.2.2.1 x.2.2.2.2.2.2.1 y.1.1 y.1.2.1 y.1.2.2.1 y.1.2.2.2.1 y.1.2.2.2.2.1 y.1.2.2.2.2.2.1 y.1.2.2.2.2.2.2.1 y.1.2.2.2.2.2.2.2.1 y.1.2.2.2.2.2.2.2.2.1 y.1.2.2.2.2.2.2.2.2.2.1 y.1.2.2.2.2.2.2.2.2.2.2.1 y.1.2.2.2.2.2.2.2.2.2.2.2.1 y.1.2.2.2.2.2.2.2.2.2.2.2.2.1 s.1 s.2.1) k hk
  (fun self s=>a0N N j7 x.2.2.2.2.2.1 x.2.2.2.2.2.2.1 (fun a=>k (.exit 2) (a5H x.2.2.1 x.2.2.2.1 x.2.2.2.2.1 x.2.2.2.2.2.1 x.2.2.2.2.2.2.1 y.1.1 y.1.2.1 y.1.2.2.1 y.1.2.2.2.1 y.1.2.2.2.2.1 y.1.2.2.2.2.2.1 y.1.2.2.2.2.2.2.1 y.1.2.2.2.2.2.2.2.1 y.1.2.2.2.2.2.2.2.2.1 y.1.2.2.2.2.2.2.2.2.2.1 y.1.2.2.2.2.2.2.2.2.2.2.1 y.1.2.2.2.2.2.2.2.2.2.2.2.1 y.1.2.2.2.2.2.2.2.2.2.2.2.2.1 a)) (fun b c=>self (b,c,())) s.1 s.2.1) (fun n s=>a3N N j7 x.2.2.2.2.2.1 x.2.2.2.2.2.2.1 (fun a=>k (.exit 2) (a5H x.2.2.1 x.2.2.2.1 x.2.2.2.2.1 x.2.2.2.2.2.1 x.2.2.2.2.2.2.1 y.1.1 y.1.2.1 y.1.2.2.1 y.1.2.2.2.1 y.1.2.2.2.2.1 y.1.2.2.2.2.2.1 y.1.2.2.2.2.2.2.1 y.1.2.2.2.2.2.2.2.1 y.1.2.2.2.2.2.2.2.2.1 y.1.2.2.2.2.2.2.2.2.2.1 y.1.2.2.2.2.2.2.2.2.2.2.1 y.1.2.2.2.2.2.2.2.2.2.2.2.1 y.1.2.2.2.2.2.2.2.2.2.2.2.2.1 a)) n s.1 s.2.1) (fun _=>rfl) (fun _ _=>rfl)
  (fun I s=>c2F N j7 x.2.2.1 x.2.2.2.1 x.2.2.2.2.1 x.2.2.2.2.2.1 x.2.2.2.2.2.2.1 y.1.1 y.1.2.1 y.1.2.2.1 y.1.2.2.2.1 y.1.2.2.2.2.1 y.1.2.2.2.2.2.1 y.1.2.2.2.2.2.2.1 y.1.2.2.2.2.2.2.2.1 y.1.2.2.2.2.2.2.2.2.1 y.1.2.2.2.2.2.2.2.2.2.1 y.1.2.2.2.2.2.2.2.2.2.2.1 y.1.2.2.2.2.2.2.2.2.2.2.2.1 y.1.2.2.2.2.2.2.2.2.2.2.2.2.1 (fun j=>k (.exit j)) I s.1 s.2.1) N (x.1,x.2.2.2.2.2.2.2.1,())
theorem c7i(j7:ρ22):B2 (b0Y N j7) (a8t N j7) N (b4B N j7) 2 b4C:=fun st k hk=>a4P 48 a7F a7E _ _ (b4B N j7) (d0R N j7) _ st k hk (rfl)
theorem e1G(j7:ρ22):B2 (b0Y N j7) (a8t N j7) N (b4B N j7) 0 e7g:=
 a4Q (c2D N j7) (fun K f x y=>Q3 N j7 x.2.1 x.2.2.1 (fun a=>K 0 (b4A (a,x.2))) (fun b c=>f (b,x.2.1,x.2.2.1,c,x.2.2.2.2) y) x.1 x.2.2.2.1) (P5 (c7i N j7) U6)
theorem d0T(j7:ρ22)(a3v:Sound Tryz.prog GW x6 55 (b95 fun x y=>j7 x.1)):Sound Tryz.prog GW x6 55 (d5x N j7):=
 a0l (EnvOk.jk (t6 b7l (c5C N j7) _ _ (d0S N j7 a3v)) _) Tryz.func55 Tryz.call55 (d5x N j7) d5y N (b0Y N j7) (P5 (e1G N j7) (P5 (c7i N j7) U6))
def A4(N:Nat):Nat->(List GStmt)->Option (Int)|0=>fun _=>none|d+1=>J6 N (A4 N d)
theorem b7F(N:Nat):∀d,Sound Tryz.prog GW x6 55 (b95 fun x y=>A4 N d x.1)
 |0=>Sound.never Tryz.call55 (fun _ _=>rfl)
 |d+1=>d0T N (A4 N d) (b7F N d)
def a2j(_N:Nat)(e:List (d3×GExpr))(g:Int)(k0:ρ35)(self:Int->τ24->Option τ24)(a:Int)(b:List d3):Option τ24:=br (decide (a<g)) (k8 (n8 e a) fun c=>br (Zf (b.length + [c.1].length) .str) (self (IntKind.i64.wrap (a+1)) (b ++ [c.1])) none) (k0 b)
def b4D(N:Nat)(a:List (d3×GExpr))(b:Int)(k0:ρ35):Nat->Int->τ24->Option τ24|0,_,_=>none|n+1,c,e=>a2j N a b k0 (b4D N a b k0 n) c e
def H8(a:GStmt):Option τ24:=b4D N a.args (a.args.length:Int) (fun b=>some b) N 0 []
abbrev e7l(f:SV [.v τ26]->BV []->Option τ24):AF:={ps:=[.v τ26],bs:=[],rs:=[.row 0],cs:=[.row 9 .str false],R:=List d3,out:=fun z=>(((),()),z,()),f:=f}
abbrev c7l:AF:=e7l fun x _=>H8 N x.1
abbrev d5B:SV [.row 0]->BV [.row 9 .str false]->τ24:=fun _ y=>y.1
def c5D(_N:Nat):FuncId->Option Tmp->Option AF:=fun f _=>P0 [] f
theorem d0V:H5 (c5D N):=fun _ _ _ h=>r9 h F1
def e35:Nat->Hint:=fun i=>
 match i with
 |0=>⟨[],[3,7,8,9],[1003],[3],[1003],[]⟩
 |_=>o5
abbrev c7k:Env:=M5 e35 (c5D N) FF FF |>.jk (fun _=>none)
noncomputable abbrev e7k:Code:=P9 (m8 Tryz.f178) [true,true,false,true,false,false]
abbrev f1o:=B4 (c7k N) Tryz.f178 (c7l N) d5B
abbrev d0U:List (Nat×Sl):=[(3,.row 1003),(7,.v τ29),(8,V0),(9,V0)]
abbrev b00:List (Nat×Sb):=[(1003,.row 9 .str false)]
def b4E(y:HV b00):St:=⟨20,[(3,.row 1003)],unH b00 y⟩
def c2G:T9 (τ24) d0U b00:=fun K n x y=>b4D N x.2.1 x.2.2.1 (fun a=>K 0 (b4E (a,y.2))) n x.2.2.2.1 y.1
def d5A:Nat->Code->St->(Ex->St->Option τ24)->Option τ24:=fun i c=>
 match i with
 |0=>U4 (c7k N) N 20 (c2G N) 0 c
 |i=>LpD (c7k N) N i c
theorem e1H:B2 (d5A N) (c7k N) N (f1o N) 0 e7k:=
 o0 (c2G N) (fun K f x y=>a2j N x.2.1 x.2.2.1 (fun a=>K 0 (b4E (a,y.2))) (fun b c=>f (x.1,x.2.1,x.2.2.1,b,x.2.2.2.2) (c,y.2)) x.2.2.2.1 y.1)
theorem d0W:I6 178 (c7l N):=
 a0l (EnvOk.jk (t6 e35 (c5D N) _ _ (d0V N)) _) Tryz.func178 Tryz.call178 (c7l N) d5B N (d5A N) (P5 (e1H N) U6)
def C8(a:d3):Option Bool:=k8 (Q6 N a) fun b=>some (!b)
abbrev f3L:=E3 [V1] [] [V3] [] (Bool) fun z=>((z,()),())
abbrev e2E:AF:=f3L fun x _=>C8 N x.1
theorem c3I:I6 179 (e2E N):=
 N9 h0 (u4 (a7I N) F1) Tryz.func179 Tryz.call179 (e2E N) (fun x _=>x.1) N
def b8t(b:List d3)(c:Int)(k0:τ39)(self:ρ34)(a:Int):Option Int:=br (decide (a<c)) (k8 (n8 b a) fun e=>k8 (C8 N e) fun g=>br (g) (some a) (self (IntKind.i64.wrap (a+1)))) (k0)
def d9F(N:Nat)(a:List d3)(b:Int)(k0:τ39):Nat->Int->Option Int|0,_=>none|n+1,c=>b8t N a b k0 (d9F N a b k0 n) c
def G5(a:List d3)(_b:Unit):Option Int:=d9F N a (a.length:Int) (some (-1:Int)) N 0
abbrev f7J:=E3 [V4,.v (.clo 179 .un)] [] [V0] [] (Int) fun z=>((z,()),())
abbrev z7g:AF:=f7J fun x _=>G5 N x.1 x.2.1
abbrev f4A:SV [V0]->BV []->Int:=fun x _=>x.1
def f4y:FuncId->Option Tmp->Option AF:=fun f _=>P0 [(179,e2E N)] f
theorem e3a:H5 (f4y N):=fun _ _ _ h=>r9 h (u4 (c3I N) F1)
def z7h:Nat->Hint:=fun i=>
 match i with
 |0=>⟨[],[0,1,7,8],[],[],[],[]⟩
 |_=>o5
abbrev z7E:Env:=M5 z7h (f4y N) FF FF
noncomputable abbrev e29:Code:=P9 (m8 Tryz.f174) [true,false,true,false,false]
abbrev z7R:=B4 (z7E N) Tryz.f174 (z7g N) f4A
abbrev e28:List (Nat×Sl):=[(0,V4),(1,.v (.clo 179 .un)),(7,V0),(8,V0)]
abbrev e27:List (Nat×Sb):=[]
def d9G:T9 (Int) e28 e27:=fun K n x y=>d9F N x.1 x.2.2.1 (K 0 ⟨19,[],[]⟩) n x.2.2.2.1
def f4x:Nat->Code->St->(Ex->St->Option Int)->Option Int:=fun i c=>
 match i with
 |0=>U4 (z7E N) N 19 (d9G N) 0 c
 |i=>LpD (z7E N) N i c
theorem f4z:B2 (f4x N) (z7E N) N (z7R N) 0 e29:=
 o0 (d9G N) (fun K f x y=>b8t N x.1 x.2.2.1 (K 0 ⟨19,[],[]⟩) (fun a=>f (x.1,x.2.1,x.2.2.1,a,x.2.2.2.2) y) x.2.2.2.1)
theorem e3b:I6 174 (z7g N):=
 X0 (e3a N) Tryz.func174 Tryz.call174 (z7g N) f4A N (f4x N) (P5 (f4z N) U6)
def u7(a:List d3)(b:Unit):Option Bool:=k8 (G5 N a b) fun c=>some (decide (c>=0))
abbrev f67:=E3 [V4,.v (.clo 179 .un)] [] [V3] [] (Bool) fun z=>((z,()),())
abbrev z3g:AF:=f67 fun x _=>u7 N x.1 x.2.1
theorem e2s:I6 100 (z3g N):=
 N9 h0 (u4 (e3b N) F1) Tryz.func100 Tryz.call100 (z3g N) (fun x _=>x.1) N
def Q7(_N:Nat)(a:GExpr):Option Bool:=k8 (br (a.kind==0) (br (a.text==[]) (br (a.number==0) (br ((a.keys.length:Int)==0) (some ((a.kids.length:Int)==0)) (some false)) (some false)) (some false)) (some false)) fun b=>some b
abbrev e7C:=E3 [.v O1] [] [V3] [] (Bool) fun z=>((z,()),())
abbrev d51:AF:=e7C fun x _=>Q7 N x.1
def c5K(_N:Nat):FuncId->Option Tmp->Option AF:=fun f _=>P0 [] f
theorem d1k:H5 (c5K N):=fun _ _ _ h=>r9 h F1
def e4b:Nat->Hint:=fun i=>
 match i with
 |_=>o5
abbrev f1B:Env:=M5 e4b (c5K N) FF FF |>.jk (fun i=>match i with|1=>some 2|_=>none)
theorem d1l:I6 180 (d51 N):=
 T5 (f1B N) (EnvOk.jk (t6 e4b (c5K N) _ _ (d1k N)) _) Tryz.func180 Tryz.call180 (d51 N) (fun x _=>x.1) N
def b2v(_N:Nat)(b:d3)(c:Int)(k0:Option Bool)(self:ρ33)(a:Int):Option Bool:=br (decide (a<c)) (k8 (n8 b a) fun e=>br (e !=10) (k8 (n8 b a) fun g=>br (decide (g<32)) (some false) (k8 (n8 b a) fun l=>br (decide (l>126)) (some false) (self (IntKind.i64.wrap (a+1))))) (self (IntKind.i64.wrap (a+1)))) (k0)
def c5J(N:Nat)(a:d3)(b:Int)(k0:Option Bool):Nat->Int->Option Bool|0,_=>none|n+1,c=>b2v N a b k0 (c5J N a b k0 n) c
def J1(a:d3):Option Bool:=c5J N a (a.length:Int) (some true) N 0
abbrev e7B:=E3 [V1] [] [V3] [] (Bool) fun z=>((z,()),())
abbrev b7r:AF:=e7B fun x _=>J1 N x.1
abbrev d50:SV [V3]->BV []->Bool:=fun x _=>x.1
def d5Z(_N:Nat):FuncId->Option Tmp->Option AF:=fun f _=>P0 [] f
theorem d1j:H5 (d5Z N):=fun _ _ _ h=>r9 h F1
def f1A:Nat->Hint:=fun i=>
 match i with
 |0=>⟨[],[0,5,6],[],[],[],[]⟩
 |_=>o5
abbrev c7u:Env:=M5 f1A (d5Z N) FF FF
noncomputable abbrev e7A:Code:=P9 (m8 Tryz.f102) [true,false,true,false,false]
abbrev f1z:=B4 (c7u N) Tryz.f102 (b7r N) d50
abbrev d1i:List (Nat×Sl):=[(0,V1),(5,V0),(6,V0)]
abbrev d1h:List (Nat×Sb):=[]
def c2S:T9 (Bool) d1i d1h:=fun K n x y=>c5J N x.1 x.2.1 (K 0 ⟨26,[],[]⟩) n x.2.2.1
def d5Y:Nat->Code->St->(Ex->St->Option Bool)->Option Bool:=fun i c=>
 match i with
 |0=>U4 (c7u N) N 26 (c2S N) 0 c
 |i=>LpD (c7u N) N i c
theorem e1O:B2 (d5Y N) (c7u N) N (f1z N) 0 e7A:=
 o0 (c2S N) (fun K f x y=>b2v N x.1 x.2.1 (K 0 ⟨26,[],[]⟩) (fun a=>f (x.1,x.2.1,a,x.2.2.2) y) x.2.2.1)
theorem a3o:I6 102 (b7r N):=
 X0 (d1j N) Tryz.func102 Tryz.call102 (b7r N) d50 N (d5Y N) (P5 (e1O N) U6)
end
end
noncomputable section
noncomputable section
variable(N:Nat)
def Q2(_N:Nat)(a:List d3):Option τ24:=some a
abbrev f1G(f:SV [V4]->BV []->Option τ24):AF:={ps:=[V4],bs:=[],rs:=[.fnc 250 [0]],cs:=[.cells [V4]],R:=List d3,out:=fun z=>(((),()),(z,()),()),f:=f}
abbrev e7H:AF:=f1G fun x _=>Q2 N x.1
def d59(_N:Nat):FuncId->Option Tmp->Option AF:=fun f _=>P0 [] f
theorem d6a:H5 (d59 N):=fun _ _ _ h=>r9 h F1
def f1F:Nat->Hint:=fun i=>
 match i with
 |_=>o5
abbrev f6x:Env:=M5 f1F (d59 N) (fun _=>false) (fun i=>match i with|250=>true|_=>false)
theorem d6b:I6 223 (e7H N):=
 T5 (f6x N) (t6 f1F (d59 N) _ _ (d6a N)) Tryz.func223 Tryz.call223 (e7H N) (fun _ y=>y.1.1) N
def a0b(_N:Nat)(a:List d3):Option (List d3×List d3):=k8 (W7 a) fun b=>some b
abbrev f3h:=E3 [.fnc 250 [0]] [.cells [V4]] [.row 1] [.cells [V4],.row 9 .str true] (List d3×List d3) fun z=>(((),()),(z.1,()),z.2,())
abbrev f3g:AF:=f3h fun _ y=>a0b N y.1.1
theorem d8l:I6 249 (f3g N):=
 N9 h0 (u4 (d0m) F1) Tryz.func249 Tryz.call249 (f3g N) (fun _ y=>(y.1.1,y.2.1)) N
def a0u(b:List d3):Option (List d3×List d3):=k8 (a0b N b) fun a=>k8 (w6 a.2) fun c=>some (a.1,c)
abbrev f3E:=E3 [.fnc 250 [0]] [.cells [V4]] [.row 1] [.cells [V4],.row 9 .str true] (List d3×List d3) fun z=>(((),()),(z.1,()),z.2,())
abbrev e9a:AF:=f3E fun _ y=>a0u N y.1.1
theorem d8M:I6 222 (e9a N):=
 N9 h0 (u4 (c3t) (u4 (d8l N) F1)) Tryz.func222 Tryz.call222 (e9a N) (fun _ y=>(y.1.1,y.2.1)) N
def G1(_N:Nat)(a:List d3):Option τ24:=br ((a).isEmpty) (q7 (some ([]:List d3)) (br (Zf (([]:List d3).length+a.length) .str) (some ([]++a)) none)) (br (Zf (([]:List d3).length+a.length) .str) (some ([]++a)) none)
abbrev f1O(f:SV [V4]->BV []->Option τ24):AF:={ps:=[V4],bs:=[],rs:=[.row 0],cs:=[.row 9 .str true],R:=List d3,out:=fun z=>(((),()),z,()),f:=f}
abbrev e1Z:AF:=f1O fun x _=>G1 N x.1
def d6w(_N:Nat):FuncId->Option Tmp->Option AF:=fun f _=>P0 [] f
theorem d6x:H5 (d6w N):=fun _ _ _ h=>r9 h F1
def f1N:Nat->Hint:=fun i=>
 match i with
 |_=>o5
abbrev f6y:Env:=M5 f1N (d6w N) (fun i=>match i with|2=>true|5=>true|_=>false) (fun _=>false)
theorem c3d:I6 224 (e1Z N):=
 T5 (f6y N) (t6 f1N (d6w N) _ _ (d6x N)) Tryz.func224 Tryz.call224 (e1Z N) (fun _ y=>y.1) N
def a0L(b:List d3):Option Bool:=k8 (Q2 N b) fun c=>k8 (a0u N c) fun a=>k8 (G1 N a.2) fun e=>k8 (q8 e) fun g=>some (decide ((g.length:Int)<(a.2.length:Int)))
abbrev e78:=E3 [V4] [] [V3] [] (Bool) fun z=>((z,()),())
abbrev c7N:AF:=e78 fun x _=>a0L N x.1
def c5X:FuncId->Option Tmp->Option AF:=fun f _=>P0 [(46,e3S fun _ y=>q8 y.1),(222,e9a N),(223,e7H N),(224,e1Z N)] f
theorem d12:H5 (c5X N):=fun _ _ _ h=>r9 h (u4 (c2p) (u4 (d8M N) (u4 (d6b N) (u4 (c3d N) F1))))
def e4m:Nat->Hint:=fun i=>
 match i with
 |_=>o5
abbrev f1S:Env:=M5 e4m (c5X N) FF FF |>.jk (fun _=>none)
theorem b7G:I6 181 (c7N N):=
 T5 (f1S N) (EnvOk.jk (t6 e4m (c5X N) _ _ (d12 N)) _) Tryz.func181 Tryz.call181 (c7N N) (fun x _=>x.1) N
def E8(a:GStmt)(b:Bool×Bool×Bool×Bool×Bool×Bool×Bool)(c:List d3):Option Int:=k8 (br (b.2.2.1) (k8 (u7 N a.params ()) fun e=>some e) (some false)) fun g=>br (g) (some (5:Int)) (k8 (br (b.2.2.2.1) (k8 (u7 N c ()) fun l=>some l) (some false)) fun m=>br (m) (some (5:Int)) (k8 (br (!b.1) (some (!(a.name==[]))) (some false)) fun o=>br (o) (some (3:Int)) (k8 (br (!b.2.1) (some (!(a.text==[]))) (some false)) fun p=>br (p) (some (3:Int)) (k8 (br (!b.2.2.1) (some (decide ((a.params.length:Int)>0))) (some false)) fun q=>br (q) (some (3:Int)) (k8 (br (!b.2.2.2.1) (some (decide ((c.length:Int)>0))) (some false)) fun r=>br (r) (some (3:Int)) (k8 (br (!b.2.2.2.2.1) (k8 (Q7 N (Ze a.expr)) fun t=>some (!t)) (some false)) fun u=>br (u) (some (3:Int)) (k8 (br (!b.2.2.2.2.2.1) (some (decide ((a.body.length:Int)>0))) (some false)) fun v=>br (v) (some (3:Int)) (k8 (br (!b.2.2.2.2.2.2) (some (decide ((a.els.length:Int)>0))) (some false)) fun w=>br (w) (some (3:Int)) (k8 (J1 N a.text) fun B=>br (!B) (some (3:Int)) (k8 (br (decide ((a.params.length:Int)>30)) (some true) (some (decide ((c.length:Int)>30)))) fun C=>br (C) (some (2:Int)) (k8 (k8 (a0L N a.params) fun D=>br (D) (some true) (k8 (a0L N c) fun E=>some E)) fun H=>br (H) (some (7:Int)) (some (0:Int)))))))))))))
def C3(a:GStmt)(g:Int):Option Int:=br (decide (g>=30)) (some (2:Int)) (k8 (br (decide (a.kind<1)) (some true) (some (decide (a.kind>6)))) fun l=>br (l) (some (4:Int)) (q7 (k8 (D8 N (GStmt.mk a.kind a.name a.text a.params a.args (Ze a.expr) a.body a.els a.at_)) fun b=>o3 1 (k8 (H8 N (GStmt.mk a.kind a.name a.text a.params a.args (Ze a.expr) a.body a.els a.at_)) fun c=>br (b.1) (k8 (C8 N a.name) fun e=>br (e) (some (5:Int)) (E8 N a b c)) (E8 N a b c))) (k8 (D8 N (GStmt.mk a.kind a.name a.text a.params a.args (Ze a.expr) a.body a.els a.at_)) fun b=>k8 (H8 N (GStmt.mk a.kind a.name a.text a.params a.args (Ze a.expr) a.body a.els a.at_)) fun c=>br (b.1) (k8 (C8 N a.name) fun e=>br (e) (some (5:Int)) (E8 N a b c)) (E8 N a b c))))
abbrev f40:=E3 [.v τ26,V0] [] [V0] [] (Int) fun z=>((z,()),())
abbrev e9I:AF:=f40 fun x _=>C3 N x.1 x.2.1
def e0c:FuncId->Option Tmp->Option AF:=fun f _=>P0 [(100,z3g N),(102,b7r N),(106,c3r N),(178,c7l N),(179,e2E N),(180,d51 N),(181,c7N N)] f
theorem e0d:H5 (e0c N):=fun _ _ _ h=>r9 h (u4 (e2s N) (u4 (a3o N) (u4 (b1i N) (u4 (d0W N) (u4 (c3I N) (u4 (d1l N) (u4 (b7G N) F1)))))))
def f4Z:Nat->Hint:=fun i=>
 match i with
 |100005=>⟨[1002],[],[],[],[],[]⟩
 |_=>o5
abbrev f7P:Env:=M5 f4Z (e0c N) FF FF |>.jk (fun i=>match i with|3=>some 17|8=>some 22|9=>some 22|11=>some 46|12=>some 46|13=>some 46|14=>some 46|15=>some 46|16=>some 46|17=>some 46|21=>some 112|23=>some 122|_=>none)
theorem e0e:I6 108 (e9I N):=
 T5 (f7P N) (EnvOk.jk (t6 f4Z (e0c N) _ _ (e0d N)) _) Tryz.func108 Tryz.call108 (e9I N) (fun x _=>x.1) N
def O6(a:d3):Option Bool:=k8 (J1 N a) fun b=>some (!b)
abbrev f2z:=E3 [V1] [] [V3] [] (Bool) fun z=>((z,()),())
abbrev e8N:AF:=f2z fun x _=>O6 N x.1
theorem d7D:I6 225 (e8N N):=
 N9 h0 (u4 (a3o N) F1) Tryz.func225 Tryz.call225 (e8N N) (fun x _=>x.1) N
def b8h(b:List d3)(c:Int)(k0:τ39)(self:ρ34)(a:Int):Option Int:=br (decide (a<c)) (k8 (n8 b a) fun e=>k8 (O6 N e) fun g=>br (g) (some a) (self (IntKind.i64.wrap (a+1)))) (k0)
def d8G(N:Nat)(a:List d3)(b:Int)(k0:τ39):Nat->Int->Option Int|0,_=>none|n+1,c=>b8h N a b k0 (d8G N a b k0 n) c
def F6(a:List d3)(_b:Unit):Option Int:=d8G N a (a.length:Int) (some (-1:Int)) N 0
abbrev f7g:=E3 [V4,.v (.clo 225 .un)] [] [V0] [] (Int) fun z=>((z,()),())
abbrev z4g:AF:=f7g fun x _=>F6 N x.1 x.2.1
abbrev f3A:SV [V0]->BV []->Int:=fun x _=>x.1
def f3y:FuncId->Option Tmp->Option AF:=fun f _=>P0 [(225,e8N N)] f
theorem e2A:H5 (f3y N):=fun _ _ _ h=>r9 h (u4 (d7D N) F1)
def z4h:Nat->Hint:=fun i=>
 match i with
 |0=>⟨[],[0,1,7,8],[],[],[],[]⟩
 |_=>o5
abbrev z4E:Env:=M5 z4h (f3y N) FF FF
abbrev z4R:=B4 (z4E N) Tryz.f174 (z4g N) f3A
abbrev e2z:List (Nat×Sl):=[(0,V4),(1,.v (.clo 225 .un)),(7,V0),(8,V0)]
abbrev e2y:List (Nat×Sb):=[]
def d8H:T9 (Int) e2z e2y:=fun K n x y=>d8G N x.1 x.2.2.1 (K 0 ⟨19,[],[]⟩) n x.2.2.2.1
def f3x:Nat->Code->St->(Ex->St->Option Int)->Option Int:=fun i c=>
 match i with
 |0=>U4 (z4E N) N 19 (d8H N) 0 c
 |i=>LpD (z4E N) N i c
theorem f3z:B2 (f3x N) (z4E N) N (z4R N) 0 e29:=
 o0 (d8H N) (fun K f x y=>b8h N x.1 x.2.2.1 (K 0 ⟨19,[],[]⟩) (fun a=>f (x.1,x.2.1,x.2.2.1,a,x.2.2.2.2) y) x.2.2.2.1)
theorem e2B:I6 174 (z4g N):=
 X0 (e2A N) Tryz.func174 Tryz.call174 (z4g N) f3A N (f3x N) (P5 (f3z N) U6)
def v8(a:List d3)(b:Unit):Option Bool:=k8 (F6 N a b) fun c=>some (decide (c>=0))
abbrev f6u:=E3 [V4,.v (.clo 225 .un)] [] [V3] [] (Bool) fun z=>((z,()),())
abbrev z0g:AF:=f6u fun x _=>v8 N x.1 x.2.1
theorem e1n:I6 100 (z0g N):=
 N9 h0 (u4 (e2B N) F1) Tryz.func100 Tryz.call100 (z0g N) (fun x _=>x.1) N
end
end
end Go.Proofs.YtckdohagilcloaaGreatDoor
