/- What functions of the program compute, as plain functions (printed). -/
import Derived.Test.YtolpmfhiegpohaaGreatDoorQPaF10
namespace Go.Proofs.YtolpmfhiegpohaaGreatDoor
open Go Go.RowKit
set_option maxRecDepth 100000
set_option linter.unusedVariables false
noncomputable section
variable(N:Nat)
def a3Y(_N:Nat)(g9:ρ28)(e:List GExpr)(g:Int)(k0:ρ30)(self:ρ27)(c b:Int):Option Int:=br (decide (b<g)) (f5 (l6 e b) fun a=>f5 (g9 (GExpr.mk a.kind a.text a.number a.keys a.kids)) fun l=>self (IntKind.i64.wrap (c+l)) (IntKind.i64.wrap (b+1))) (k0 c)
def b4Q(N:Nat)(g9:ρ28)(a:List GExpr)(b:Int)(k0:ρ30):Nat->Int->Int->Option Int|0,_,_=>none|n+1,c,e=>a3Y N g9 a b k0 (b4Q N g9 a b k0 n) c e
def a3u(g9:ρ28)(a:GExpr):Option Int:=b4Q N g9 a.kids (a.kids.length:Int) (fun b=>some b) N 1 0
abbrev d9S:=P4 [.v τ4] [] [V0] [] (Int) fun z=>((z,()),())
abbrev c5E(g9:ρ28):AF:=d9S fun x _=>a3u N g9 x.1
abbrev c3r:SV [V0]->BV []->Int:=fun x _=>x.1
def c3q(_N:Nat)(g9:ρ28):FuncId->Option Tmp->Option AF:=fun f _=>O5 [(103,b5b fun x _=>g9 x.1)] f
theorem c7W(g9:ρ28)(a3m:Sound Tryz.prog GW B7 103 (b5b fun x y=>g9 x.1)):∀f q F,c3q N g9 f q=some F->Sound Tryz.prog GW B7 f F:=fun _ _ _ h=>o6 h (v8 (a3m) G7)
def b4S:Nat->Hint:=fun i=>
 match i with
 |0=>⟨[],[3,7,8,9],[],[3],[],[]⟩
 |_=>o3
abbrev a7I(g9:ρ28):Env:=S9 b4S (c3q N g9) (fun _=>false) (fun _=>false) |>.jk (fun _=>none)
abbrev b4R(g9:ρ28):=A8 (a7I N g9) Tryz.f103 (c5E N g9) c3r
noncomputable abbrev b1I:Code:=V7 (m9 Tryz.f103) [true,true,false,true,false,false]
abbrev a6n:List (Nat×Sl):=[(3,V0),(7,.v (.sl τ4)),(8,V0),(9,V0)]
abbrev a6m:List (Nat×Sb):=[]
def b1H(a:List GExpr)(b c e:Int):St:=⟨19,[(3,.v τ2 c),(7,.v (.sl τ4) a),(8,.v τ2 b),(9,.v τ2 e)],[]⟩
def a3Z(_b:List GExpr)(_c a:Int):St:=⟨19,[(3,.v τ2 a)],[]⟩
def d0I(g9:ρ28)(a:List GExpr)(b c e:Int)(k:Ex->St->Option Int):Option Int:=b4Q N g9 a b (fun g=>k (.exit 0) (a3Z a b g)) N c e
abbrev c00(g9:ρ28):FV a6n->HV a6m->(Ex->St->Option Int)->Option Int:=fun x _ k=>d0I N g9 x.2.1 x.2.2.1 x.1 x.2.2.2.1 k
def a8s(g9:ρ28):Nat->Code->St->(Ex->St->Option Int)->Option Int:=fun i c=>
 match i with
 |0=>(LPc 19 a6n a6m (c00 N g9) (fun st k=>iter (b4S 0) (k6 (a7I N g9) N c 0) N st k))
 |i=>fun st k=>iter (b4S i) (k6 (a7I N g9) N c i) N st k
theorem c01(g9:ρ28)(a:List GExpr)(b:Int)(KX:Nat->St->Option Int)(I:St->Option Int)(c e:Int):
  k7 (a8s N g9) (a7I N g9) b1I 0 (b1H a b c e) (p6 (b4S 0) I KX (b4R N g9))=a3Y N g9 a b (fun g=>KX 0 (a3Z a b g)) (fun c e=>I (b1H a b c e)) c e:=by kernel_rfl
theorem c7V(g9:ρ28):∀x y k,(∀st,k .ret st=(b4R N g9) st)->iter (b4S 0) (k6 (a7I N g9) N b1I 0) N ⟨19,Y7 a6n x,Y8 a6m y⟩ k=c00 N g9 x y k:=fun x _ k hk=>
 j9 (S:=(Int)×(Int)×Unit) (b4S 0) _ (k7 (a8s N g9) (a7I N g9) b1I 0) (b4R N g9) (k9 _ _ N _ b1I 0 (show LoopsOk (a8s N g9) (a7I N g9) N (b4R N g9) []from trivial)) (fun s=>b1H x.2.1 x.2.2.1 s.1 s.2.1) k hk
  (fun self s=>a3Y N g9 x.2.1 x.2.2.1 (fun a=>k (.exit 0) (a3Z x.2.1 x.2.2.1 a)) (fun b c=>self (b,c,())) s.1 s.2.1) (fun n s=>b4Q N g9 x.2.1 x.2.2.1 (fun a=>k (.exit 0) (a3Z x.2.1 x.2.2.1 a)) n s.1 s.2.1) (fun _=>rfl) (fun _ _=>rfl)
  (fun I s=>c01 N g9 x.2.1 x.2.2.1 (fun j=>k (.exit j)) I s.1 s.2.1) N (x.1,x.2.2.2.1,())
theorem d6w(g9:ρ28):F7 (a8s N g9) (a7I N g9) N (b4R N g9) 0 b1I:=fun st k hk=>p8 19 a6n a6m _ _ (b4R N g9) (c7V N g9) _ st k hk (rfl)
theorem d0J(g9:ρ28)(x:SV [.v τ4])(y:BV []):F5 (a7I N g9) Tryz.f103 (c5E N g9) c3r (a8s N g9) x y=a3u N g9 x.1:=by kernel_rfl
theorem c7X(g9:ρ28)(a3m:Sound Tryz.prog GW B7 103 (b5b fun x y=>g9 x.1)):Sound Tryz.prog GW B7 103 (c5E N g9):=
 a2A (EnvOk.jk (y6 b4S (c3q N g9) _ _ (c7W N g9 a3m)) _) Tryz.func103 rfl Tryz.call103 (c5E N g9) c3r (fun _ _=>rfl) N (a8s N g9) (show LoopsOk (a8s N g9) (a7I N g9) N (b4R N g9) [(0,b1I)]from⟨d6w N g9,trivial⟩) (d0J N g9)
def T1(N:Nat):Nat->GExpr->Option (Int)|0=>fun _=>none|d+1=>a3u N (T1 N d)
theorem b8b(N:Nat):∀d,Sound Tryz.prog GW B7 103 (b5b fun x y=>T1 N d x.1)
 |0=>Sound.never Tryz.call103 (fun _ _=>rfl)
 |d+1=>c7X N (T1 N d) (b8b N d)
abbrev b5a:=P4 [.v τ6] [] [V0] [] (Int) fun z=>((z,()),())
def a3W(d7:ρ24)(e:List (c8×GExpr))(g:Int)(k2:ρ30)(self:ρ27)(c b:Int):Option Int:=br (decide (b<g)) (f5 (l6 e b) fun a=>f5 (T1 N N (GExpr.mk a.2.kind a.2.text a.2.number a.2.keys a.2.kids)) fun l=>self (IntKind.i64.wrap (c+l)) (IntKind.i64.wrap (b+1))) (k2 c)
def b1E(N:Nat)(d7:ρ24)(a:List (c8×GExpr))(b:Int)(k2:ρ30):Nat->Int->Int->Option Int|0,_,_=>none|n+1,c,e=>a3W N d7 a b k2 (b1E N d7 a b k2 n) c e
def a0u(d7:ρ24)(m:List GStmt)(o:Int)(k0:ρ30)(self:ρ27)(c b:Int):Option Int:=br (decide (b<o)) (f5 (l6 m b) fun a=>f5 (d7 a.body) fun g=>f5 (d7 a.els) fun l=>f5 (br (a.kind==1) (some true) (br (a.kind==4) (some true) (br (a.kind==5) (some true) (f5 (O0 N (GExpr.mk a.expr.kind a.expr.text a.expr.number a.expr.keys a.expr.kids)) fun p=>some (!p))))) fun q=>br (q) (f5 (T1 N N (GExpr.mk a.expr.kind a.expr.text a.expr.number a.expr.keys a.expr.kids)) fun r=>b1E N d7 a.args (a.args.length:Int) (fun e=>self e (IntKind.i64.wrap (b+1))) N (IntKind.i64.wrap ((IntKind.i64.wrap (c+(IntKind.i64.wrap ((IntKind.i64.wrap (1+g))+l))))+r)) 0) (b1E N d7 a.args (a.args.length:Int) (fun e=>self e (IntKind.i64.wrap (b+1))) N (IntKind.i64.wrap (c+(IntKind.i64.wrap ((IntKind.i64.wrap (1+g))+l)))) 0)) (k0 c)
def a5o(N:Nat)(d7:ρ24)(a:List GStmt)(b:Int)(k0:ρ30):Nat->Int->Int->Option Int|0,_,_=>none|n+1,c,e=>a0u N d7 a b k0 (a5o N d7 a b k0 n) c e
def a3t(d7:ρ24)(a:List GStmt):Option Int:=a5o N d7 a (a.length:Int) (fun b=>some b) N 0 0
abbrev d9R:=P4 [.v τ6] [] [V0] [] (Int) fun z=>((z,()),())
abbrev c5C(d7:ρ24):AF:=d9R fun x _=>a3t N d7 x.1
abbrev c3p:SV [V0]->BV []->Int:=fun x _=>x.1
def c3o(d7:ρ24):FuncId->Option Tmp->Option AF:=fun f _=>O5 [(55,b5a fun x _=>d7 x.1),(102,c5J N),(103,b5b fun x _=>T1 N N x.1)] f
theorem c7T(d7:ρ24)(a3l:Sound Tryz.prog GW B7 55 (b5a fun x y=>d7 x.1)):∀f q F,c3o N d7 f q=some F->Sound Tryz.prog GW B7 f F:=fun _ _ _ h=>o6 h (v8 (a3l) (v8 (b75 N) (v8 (b8b N N) G7)))
def a5p:Nat->Hint:=fun i=>
 match i with
 |0=>⟨[],[3,8,9,10],[],[3],[],[]⟩
 |2=>⟨[],[3,8,9,10,49,50,51],[],[3,8,9,10],[],[]⟩
 |_=>o3
abbrev a1i(d7:ρ24):Env:=S9 a5p (c3o N d7) (fun _=>false) (fun _=>false) |>.jk (fun i=>match i with|6=>some 42|_=>none)
abbrev a23(d7:ρ24):=A8 (a1i N d7) Tryz.f55 (c5C N d7) c3p
noncomputable abbrev b1G:Code:=V7 (m9 Tryz.f55) [true,true,false,true,false,false]
noncomputable abbrev a8r:Code:=V7 (m9 Tryz.f55) [true,true,false,true,false,false,true,true,false,false,true,true,true,true,false,false]
abbrev a6l:List (Nat×Sl):=[(3,V0),(8,.v τ6),(9,V0),(10,V0),(49,.v (.sl τ9)),(50,V0),(51,V0)]
abbrev a6k:List (Nat×Sb):=[]
def b1F(a:List GStmt)(b c:Int)(e:List (c8×GExpr))(g l m:Int):St:=⟨63,[(3,.v τ2 l),(8,.v τ6 a),(9,.v τ2 b),(10,.v τ2 c),(49,.v (.sl τ9) e),(50,.v τ2 g),(51,.v τ2 m)],[]⟩
def a3X(a:List GStmt)(b c:Int)(_g:List (c8×GExpr))(_l e:Int):St:=⟨63,[(3,.v τ2 e),(8,.v τ6 a),(9,.v τ2 b),(10,.v τ2 c)],[]⟩
def d0G(d7:ρ24)(c:List GStmt)(e g:Int)(a:List (c8×GExpr))(b l m:Int)(k:Ex->St->Option Int):Option Int:=b1E N d7 a b (fun o=>k (.exit 2) (a3X c e g a b o)) N l m
abbrev c0Y(d7:ρ24):FV a6l->HV a6k->(Ex->St->Option Int)->Option Int:=fun x _ k=>d0G N d7 x.2.1 x.2.2.1 x.2.2.2.1 x.2.2.2.2.1 x.2.2.2.2.2.1 x.1 x.2.2.2.2.2.2.1 k
abbrev a6j:List (Nat×Sl):=[(3,V0),(8,.v τ6),(9,V0),(10,V0)]
abbrev a6i:List (Nat×Sb):=[]
def b1D(a:List GStmt)(b c e:Int):St:=⟨63,[(3,.v τ2 c),(8,.v τ6 a),(9,.v τ2 b),(10,.v τ2 e)],[]⟩
def a3V(_b:List GStmt)(_c a:Int):St:=⟨63,[(3,.v τ2 a)],[]⟩
def d0F(d7:ρ24)(a:List GStmt)(b c e:Int)(k:Ex->St->Option Int):Option Int:=a5o N d7 a b (fun g=>k (.exit 0) (a3V a b g)) N c e
abbrev c0W(d7:ρ24):FV a6j->HV a6i->(Ex->St->Option Int)->Option Int:=fun x _ k=>d0F N d7 x.2.1 x.2.2.1 x.1 x.2.2.2.1 k
def a17(d7:ρ24):Nat->Code->St->(Ex->St->Option Int)->Option Int:=fun i c=>
 match i with
 |0=>(LPc 63 a6j a6i (c0W N d7) (fun st k=>iter (a5p 0) (k6 (a1i N d7) N c 0) N st k))
 |2=>(LPc 63 a6l a6k (c0Y N d7) (fun st k=>iter (a5p 2) (k6 (a1i N d7) N c 2) N st k))
 |i=>fun st k=>iter (a5p i) (k6 (a1i N d7) N c i) N st k
theorem c0Z(d7:ρ24)(g:List GStmt)(l m:Int)(a:List (c8×GExpr))(b:Int)(KX:Nat->St->Option Int)(I:St->Option Int)(c e:Int):
  k7 (a17 N d7) (a1i N d7) a8r 2 (b1F g l m a b c e) (p6 (a5p 2) I KX (a23 N d7))=a3W N d7 a b (fun o=>KX 2 (a3X g l m a b o)) (fun c e=>I (b1F g l m a b c e)) c e:=by kernel_rfl
theorem c7S(d7:ρ24):∀x y k,(∀st,k .ret st=(a23 N d7) st)->iter (a5p 2) (k6 (a1i N d7) N a8r 2) N ⟨63,Y7 a6l x,Y8 a6k y⟩ k=c0Y N d7 x y k:=fun x _ k hk=>
 j9 (S:=(Int)×(Int)×Unit) (a5p 2) _ (k7 (a17 N d7) (a1i N d7) a8r 2) (a23 N d7) (k9 _ _ N _ a8r 2 (show LoopsOk (a17 N d7) (a1i N d7) N (a23 N d7) []from trivial)) (fun s=>b1F x.2.1 x.2.2.1 x.2.2.2.1 x.2.2.2.2.1 x.2.2.2.2.2.1 s.1 s.2.1) k hk
  (fun self s=>a3W N d7 x.2.2.2.2.1 x.2.2.2.2.2.1 (fun a=>k (.exit 2) (a3X x.2.1 x.2.2.1 x.2.2.2.1 x.2.2.2.2.1 x.2.2.2.2.2.1 a)) (fun b c=>self (b,c,())) s.1 s.2.1) (fun n s=>b1E N d7 x.2.2.2.2.1 x.2.2.2.2.2.1 (fun a=>k (.exit 2) (a3X x.2.1 x.2.2.1 x.2.2.2.1 x.2.2.2.2.1 x.2.2.2.2.2.1 a)) n s.1 s.2.1) (fun _=>rfl) (fun _ _=>rfl)
  (fun I s=>c0Z N d7 x.2.1 x.2.2.1 x.2.2.2.1 x.2.2.2.2.1 x.2.2.2.2.2.1 (fun j=>k (.exit j)) I s.1 s.2.1) N (x.1,x.2.2.2.2.2.2.1,())
theorem c5D(d7:ρ24):F7 (a17 N d7) (a1i N d7) N (a23 N d7) 2 a8r:=fun st k hk=>p8 63 a6l a6k _ _ (a23 N d7) (c7S N d7) _ st k hk (rfl)
theorem c0X(d7:ρ24)(a:List GStmt)(b:Int)(KX:Nat->St->Option Int)(I:St->Option Int)(c e:Int):
  k7 (a17 N d7) (a1i N d7) b1G 0 (b1D a b c e) (p6 (a5p 0) I KX (a23 N d7))=a0u N d7 a b (fun g=>KX 0 (a3V a b g)) (fun c e=>I (b1D a b c e)) c e:=by kernel_rfl
theorem c7R(d7:ρ24):∀x y k,(∀st,k .ret st=(a23 N d7) st)->iter (a5p 0) (k6 (a1i N d7) N b1G 0) N ⟨63,Y7 a6j x,Y8 a6i y⟩ k=c0W N d7 x y k:=fun x _ k hk=>
 j9 (S:=(Int)×(Int)×Unit) (a5p 0) _ (k7 (a17 N d7) (a1i N d7) b1G 0) (a23 N d7) (k9 _ _ N _ b1G 0 (show LoopsOk (a17 N d7) (a1i N d7) N (a23 N d7) [(2,a8r)]from⟨c5D N d7,trivial⟩)) (fun s=>b1D x.2.1 x.2.2.1 s.1 s.2.1) k hk
  (fun self s=>a0u N d7 x.2.1 x.2.2.1 (fun a=>k (.exit 0) (a3V x.2.1 x.2.2.1 a)) (fun b c=>self (b,c,())) s.1 s.2.1) (fun n s=>a5o N d7 x.2.1 x.2.2.1 (fun a=>k (.exit 0) (a3V x.2.1 x.2.2.1 a)) n s.1 s.2.1) (fun _=>rfl) (fun _ _=>rfl)
  (fun I s=>c0X N d7 x.2.1 x.2.2.1 (fun j=>k (.exit j)) I s.1 s.2.1) N (x.1,x.2.2.2.1,())
theorem d6v(d7:ρ24):F7 (a17 N d7) (a1i N d7) N (a23 N d7) 0 b1G:=fun st k hk=>p8 63 a6j a6i _ _ (a23 N d7) (c7R N d7) _ st k hk (rfl)
theorem d0H(d7:ρ24)(x:SV [.v τ6])(y:BV []):F5 (a1i N d7) Tryz.f55 (c5C N d7) c3p (a17 N d7) x y=a3t N d7 x.1:=by kernel_rfl
theorem c7U(d7:ρ24)(a3l:Sound Tryz.prog GW B7 55 (b5a fun x y=>d7 x.1)):Sound Tryz.prog GW B7 55 (c5C N d7):=
 a2A (EnvOk.jk (y6 a5p (c3o N d7) _ _ (c7T N d7 a3l)) _) Tryz.func55 rfl Tryz.call55 (c5C N d7) c3p (fun _ _=>rfl) N (a17 N d7) (show LoopsOk (a17 N d7) (a1i N d7) N (a23 N d7) [(0,b1G),(2,a8r)]from⟨d6v N d7,c5D N d7,trivial⟩) (d0H N d7)
def M5(N:Nat):Nat->(List GStmt)->Option (Int)|0=>fun _=>none|d+1=>a3t N (M5 N d)
theorem b8a(N:Nat):∀d,Sound Tryz.prog GW B7 55 (b5a fun x y=>M5 N d x.1)
 |0=>Sound.never Tryz.call55 (fun _ _=>rfl)
 |d+1=>c7U N (M5 N d) (b8a N d)
def a1r(_N:Nat)(a:Int):Option Bool:=f5 (br (a==1) (some true) (br (a==2) (some true) (br (a==3) (some true) (some (a==4))))) fun b=>some b
abbrev d9T:=P4 [V0] [] [V2] [] (Bool) fun z=>((z,()),())
abbrev c5F:AF:=d9T fun x _=>a1r N x.1
def c3s(_N:Nat):FuncId->Option Tmp->Option AF:=fun f _=>O5 [] f
theorem c7Y:I8 (c3s N):=fun _ _ _ h=>o6 h G7
def d8x:Nat->Hint:=fun i=>
 match i with
 |_=>o3
abbrev e1Y:Env:=S9 d8x (c3s N) FF FF |>.jk (fun i=>match i with|1=>some 2|_=>none)
theorem b7X:P7 194 (c5F N):=
 a1W (e1Y N) (EnvOk.jk (y6 d8x (c3s N) _ _ (c7Y N)) _) Tryz.func194 rfl Tryz.call194 (c5F N) (fun x _=>x.1) (fun _ _=>rfl) N (fun _ _=>by kernel_rfl) rfl
def b6t(b:List c8)(c:Int)(k0:Option Int)(self:ρ30)(a:Int):Option Int:=br (decide (a<c)) (f5 (l6 b a) fun e=>f5 (N7 N e) fun g=>br (!g) (some (5:Int)) (self (IntKind.i64.wrap (a+1)))) (k0)
def c1W(N:Nat)(a:List c8)(b:Int)(k0:Option Int):Nat->Int->Option Int|0,_=>none|n+1,c=>b6t N a b k0 (c1W N a b k0 n) c
def b6v(b:List (c8×GExpr))(c:Int)(k2:Option Int)(self:ρ30)(a:Int):Option Int:=br (decide (a<c)) (f5 (l6 b a) fun e=>f5 (N7 N e.1) fun g=>br (!g) (some (5:Int)) (self (IntKind.i64.wrap (a+1)))) (k2)
def b8y(N:Nat)(a:List (c8×GExpr))(b:Int)(k2:Option Int):Nat->Int->Option Int|0,_=>none|n+1,c=>b6v N a b k2 (b8y N a b k2 n) c
def X3(a:GStmt):Option Int:=f5 (f5 (a1r N a.kind) fun b=>br (b) (f5 (N7 N a.name) fun c=>some (!c)) (some false)) fun e=>br (e) (some (5:Int)) (br (a.kind==3) (c1W N a.params (a.params.length:Int) (br (a.kind==2) (b8y N a.args (a.args.length:Int) (some (0:Int)) N 0) (some (0:Int))) N 0) (br (a.kind==2) (b8y N a.args (a.args.length:Int) (some (0:Int)) N 0) (some (0:Int))))
abbrev e3N:=P4 [.v τ16] [] [V0] [] (Int) fun z=>((z,()),())
abbrev d47:AF:=e3N fun x _=>X3 N x.1
abbrev d48:SV [V0]->BV []->Int:=fun x _=>x.1
def d45:FuncId->Option Tmp->Option AF:=fun f _=>O5 [(149,b41 N),(194,c5F N)] f
theorem d46:I8 (d45 N):=fun _ _ _ h=>o6 h (v8 (b1S N) (v8 (b7X N) G7))
def b6x:Nat->Hint:=fun i=>
 match i with
 |0=>⟨[],[1,20,21,22],[1001],[1],[1001],[]⟩
 |2=>⟨[],[34,35,36],[],[],[],[]⟩
 |_=>o3
abbrev a7o:Env:=S9 b6x (d45 N) FF FF |>.jk (fun i=>match i with|1=>some 15|_=>none)
noncomputable abbrev b8A:Code:=V7 (m9 Tryz.f152) [true,true,false,true,false,true,false,false]
noncomputable abbrev b8z:Code:=V7 (m9 Tryz.f152) [true,true,true,false,true,false,true,false,false]
abbrev b2f:=A8 (a7o N) Tryz.f152 (d47 N) d48
abbrev b0u:List (Nat×Sl):=[(1,.box 1001 0),(20,V4),(21,V0),(22,V0)]
abbrev b0t:List (Nat×Sb):=[(1001,.cells [V0,V1,V1,V4,.v (.sl τ9),V0,V1,V0,V4,.v (.sl τ4),.v τ6,.v τ6,V0])]
def b6u(a:List c8)(b c:Int)(e g:c8)(l:List c8)(m:List (c8×GExpr))(o:Int)(p:c8)(q:Int)(r:List c8)(t:List GExpr)(u w:List GStmt)(B C:Int):St:=⟨45,[(1,.box 1001 0),(20,.v V6 a),(21,.v τ2 b),(22,.v τ2 C)],[(1001,.cells [.v τ2 c,.v .str e,.v .str g,.v V6 l,.v (.sl τ9) m,.v τ2 o,.v .str p,.v τ2 q,.v V6 r,.v (.sl τ4) t,.v τ6 u,.v τ6 w,.v τ2 B])]⟩
def a7d(_w:List c8)(_B a:Int)(b c:c8)(e:List c8)(g:List (c8×GExpr))(l:Int)(m:c8)(o:Int)(p:List c8)(q:List GExpr)(r t:List GStmt)(u:Int):St:=⟨45,[(1,.box 1001 0)],[(1001,.cells [.v τ2 a,.v .str b,.v .str c,.v V6 e,.v (.sl τ9) g,.v τ2 l,.v .str m,.v τ2 o,.v V6 p,.v (.sl τ4) q,.v τ6 r,.v τ6 t,.v τ2 u])]⟩
def d70(a:List c8)(b c:Int)(e g:c8)(l:List c8)(m:List (c8×GExpr))(o:Int)(p:c8)(q:Int)(r:List c8)(t:List GExpr)(u v:List GStmt)(w B:Int)(k:Ex->St->Option Int):Option Int:=c1W N a b (k (.exit 0) (a7d a b c e g l m o p q r t u v w)) N B
abbrev c6A:FV b0u->HV b0t->(Ex->St->Option Int)->Option Int:=fun x y k=>d70 N x.2.1 x.2.2.1 y.1.1 y.1.2.1 y.1.2.2.1 y.1.2.2.2.1 y.1.2.2.2.2.1 y.1.2.2.2.2.2.1 y.1.2.2.2.2.2.2.1 y.1.2.2.2.2.2.2.2.1 y.1.2.2.2.2.2.2.2.2.1 y.1.2.2.2.2.2.2.2.2.2.1 y.1.2.2.2.2.2.2.2.2.2.2.1 y.1.2.2.2.2.2.2.2.2.2.2.2.1 y.1.2.2.2.2.2.2.2.2.2.2.2.2.1 x.2.2.2.1 k
abbrev b0w:List (Nat×Sl):=[(34,.v (.sl τ9)),(35,V0),(36,V0)]
abbrev b0v:List (Nat×Sb):=[]
def b6w(a:List (c8×GExpr))(b c:Int):St:=⟨45,[(34,.v (.sl τ9) a),(35,.v τ2 b),(36,.v τ2 c)],[]⟩
def a7e(_a:List (c8×GExpr))(_b:Int):St:=⟨45,[],[]⟩
def d71(a:List (c8×GExpr))(b c:Int)(k:Ex->St->Option Int):Option Int:=b8y N a b (k (.exit 2) (a7e a b)) N c
abbrev c6B:FV b0w->HV b0v->(Ex->St->Option Int)->Option Int:=fun x _ k=>d71 N x.1 x.2.1 x.2.2.1 k
def a5y:Nat->Code->St->(Ex->St->Option Int)->Option Int:=fun i c=>
 match i with
 |0=>(LPc 45 b0u b0t (c6A N) (fun st k=>iter (b6x 0) (k6 (a7o N) N c 0) N st k))
 |2=>(LPc 45 b0w b0v (c6B N) (fun st k=>iter (b6x 2) (k6 (a7o N) N c 2) N st k))
 |i=>fun st k=>iter (b6x i) (k6 (a7o N) N c i) N st k
theorem c4K(a:List (c8×GExpr))(b:Int)(KX:Nat->St->Option Int)(I:St->Option Int)(c:Int):
  k7 (a5y N) (a7o N) b8z 2 (b6w a b c) (p6 (b6x 2) I KX (b2f N))=b6v N a b (KX 2 (a7e a b)) (fun c=>I (b6w a b c)) c:=by kernel_rfl
theorem d44:∀x y k,(∀st,k .ret st=(b2f N) st)->iter (b6x 2) (k6 (a7o N) N b8z 2) N ⟨45,Y7 b0w x,Y8 b0v y⟩ k=c6B N x y k:=fun x _ k hk=>
 j9 (S:=(Int)×Unit) (b6x 2) _ (k7 (a5y N) (a7o N) b8z 2) (b2f N) (k9 _ _ N _ b8z 2 (show LoopsOk (a5y N) (a7o N) N (b2f N) []from trivial)) (fun s=>b6w x.1 x.2.1 s.1) k hk
  (fun self s=>b6v N x.1 x.2.1 (k (.exit 2) (a7e x.1 x.2.1)) (fun a=>self (a,())) s.1) (fun n s=>b8y N x.1 x.2.1 (k (.exit 2) (a7e x.1 x.2.1)) n s.1) (fun _=>rfl) (fun _ _=>rfl)
  (fun I s=>c4K N x.1 x.2.1 (fun j=>k (.exit j)) I s.1) N (x.2.2.1,())
theorem e1c:F7 (a5y N) (a7o N) N (b2f N) 2 b8z:=fun st k hk=>p8 45 b0w b0v _ _ (b2f N) (d44 N) _ st k hk (rfl)
theorem c4J(a:List c8)(b e:Int)(g l:c8)(m:List c8)(o:List (c8×GExpr))(p:Int)(q:c8)(r:Int)(t:List c8)(u:List GExpr)(v w:List GStmt)(B:Int)(KX:Nat->St->Option Int)(I:St->Option Int)(c:Int):
  k7 (a5y N) (a7o N) b8A 0 (b6u a b e g l m o p q r t u v w B c) (p6 (b6x 0) I KX (b2f N))=b6t N a b (KX 0 (a7d a b e g l m o p q r t u v w B)) (fun c=>I (b6u a b e g l m o p q r t u v w B c)) c:=by kernel_rfl
theorem d43:∀x y k,(∀st,k .ret st=(b2f N) st)->iter (b6x 0) (k6 (a7o N) N b8A 0) N ⟨45,Y7 b0u x,Y8 b0t y⟩ k=c6A N x y k:=fun x y k hk=>
 j9 (S:=(Int)×Unit) (b6x 0) _ (k7 (a5y N) (a7o N) b8A 0) (b2f N) (k9 _ _ N _ b8A 0 (show LoopsOk (a5y N) (a7o N) N (b2f N) []from trivial)) (fun s=>b6u x.2.1 x.2.2.1 y.1.1 y.1.2.1 y.1.2.2.1 y.1.2.2.2.1 y.1.2.2.2.2.1 y.1.2.2.2.2.2.1 y.1.2.2.2.2.2.2.1 y.1.2.2.2.2.2.2.2.1 y.1.2.2.2.2.2.2.2.2.1 y.1.2.2.2.2.2.2.2.2.2.1 y.1.2.2.2.2.2.2.2.2.2.2.1 y.1.2.2.2.2.2.2.2.2.2.2.2.1 y.1.2.2.2.2.2.2.2.2.2.2.2.2.1 s.1) k hk
  (fun self s=>b6t N x.2.1 x.2.2.1 (k (.exit 0) (a7d x.2.1 x.2.2.1 y.1.1 y.1.2.1 y.1.2.2.1 y.1.2.2.2.1 y.1.2.2.2.2.1 y.1.2.2.2.2.2.1 y.1.2.2.2.2.2.2.1 y.1.2.2.2.2.2.2.2.1 y.1.2.2.2.2.2.2.2.2.1 y.1.2.2.2.2.2.2.2.2.2.1 y.1.2.2.2.2.2.2.2.2.2.2.1 y.1.2.2.2.2.2.2.2.2.2.2.2.1 y.1.2.2.2.2.2.2.2.2.2.2.2.2.1)) (fun a=>self (a,())) s.1) (fun n s=>c1W N x.2.1 x.2.2.1 (k (.exit 0) (a7d x.2.1 x.2.2.1 y.1.1 y.1.2.1 y.1.2.2.1 y.1.2.2.2.1 y.1.2.2.2.2.1 y.1.2.2.2.2.2.1 y.1.2.2.2.2.2.2.1 y.1.2.2.2.2.2.2.2.1 y.1.2.2.2.2.2.2.2.2.1 y.1.2.2.2.2.2.2.2.2.2.1 y.1.2.2.2.2.2.2.2.2.2.2.1 y.1.2.2.2.2.2.2.2.2.2.2.2.1 y.1.2.2.2.2.2.2.2.2.2.2.2.2.1)) n s.1) (fun _=>rfl) (fun _ _=>rfl)
  (fun I s=>c4J N x.2.1 x.2.2.1 y.1.1 y.1.2.1 y.1.2.2.1 y.1.2.2.2.1 y.1.2.2.2.2.1 y.1.2.2.2.2.2.1 y.1.2.2.2.2.2.2.1 y.1.2.2.2.2.2.2.2.1 y.1.2.2.2.2.2.2.2.2.1 y.1.2.2.2.2.2.2.2.2.2.1 y.1.2.2.2.2.2.2.2.2.2.2.1 y.1.2.2.2.2.2.2.2.2.2.2.2.1 y.1.2.2.2.2.2.2.2.2.2.2.2.2.1 (fun j=>k (.exit j)) I s.1) N (x.2.2.2.1,())
theorem e1b:F7 (a5y N) (a7o N) N (b2f N) 0 b8A:=fun st k hk=>p8 45 b0u b0t _ _ (b2f N) (d43 N) _ st k hk (rfl)
theorem d72(x:SV [.v τ16])(y:BV []):F5 (a7o N) Tryz.f152 (d47 N) d48 (a5y N) x y=X3 N x.1:=by kernel_rfl
theorem d49:P7 152 (d47 N):=
 a2A (EnvOk.jk (y6 b6x (d45 N) _ _ (d46 N)) _) Tryz.func152 rfl Tryz.call152 (d47 N) d48 (fun _ _=>rfl) N (a5y N) (show LoopsOk (a5y N) (a7o N) N (b2f N) [(0,b8A),(2,b8z)]from⟨e1b N,e1c N,trivial⟩) (d72 N)
def a9p(_N:Nat)(b:c8)(c:Int)(k0:Option Bool)(self:ρ29)(a:Int):Option Bool:=br (decide (a<c)) (f5 (l6 b a) fun e=>br (e !=10) (f5 (l6 b a) fun g=>br (decide (g<32)) (some false) (f5 (l6 b a) fun l=>br (decide (l>126)) (some false) (self (IntKind.i64.wrap (a+1))))) (self (IntKind.i64.wrap (a+1)))) (k0)
def b9g(N:Nat)(a:c8)(b:Int)(k0:Option Bool):Nat->Int->Option Bool|0,_=>none|n+1,c=>a9p N a b k0 (b9g N a b k0 n) c
def N9(a:c8):Option Bool:=b9g N a (a.length:Int) (some true) N 0
abbrev d92:=P4 [V1] [] [V2] [] (Bool) fun z=>((z,()),())
abbrev b72:AF:=d92 fun x _=>N9 N x.1
abbrev c3A:SV [V2]->BV []->Bool:=fun x _=>x.1
def d04(_N:Nat):FuncId->Option Tmp->Option AF:=fun f _=>O5 [] f
theorem c8h:I8 (d04 N):=fun _ _ _ h=>o6 h G7
def b73:Nat->Hint:=fun i=>
 match i with
 |0=>⟨[],[0,5,6],[],[],[],[]⟩
 |_=>o3
abbrev a7M:Env:=S9 b73 (d04 N) FF FF
noncomputable abbrev b1X:Code:=V7 (m9 Tryz.f195) [true,false,true,false,false]
abbrev b43:=A8 (a7M N) Tryz.f195 (b72 N) c3A
abbrev a6B:List (Nat×Sl):=[(0,V1),(5,V0),(6,V0)]
abbrev a6A:List (Nat×Sb):=[]
def b1W(a:c8)(b c:Int):St:=⟨26,[(0,.v .str a),(5,.v τ2 b),(6,.v τ2 c)],[]⟩
def a4b(_a:c8)(_b:Int):St:=⟨26,[],[]⟩
def d02(a:c8)(b c:Int)(k:Ex->St->Option Bool):Option Bool:=b9g N a b (k (.exit 0) (a4b a b)) N c
abbrev c1h:FV a6B->HV a6A->(Ex->St->Option Bool)->Option Bool:=fun x _ k=>d02 N x.1 x.2.1 x.2.2.1 k
def a8x:Nat->Code->St->(Ex->St->Option Bool)->Option Bool:=fun i c=>
 match i with
 |0=>(LPc 26 a6B a6A (c1h N) (fun st k=>iter (b73 0) (k6 (a7M N) N c 0) N st k))
 |i=>fun st k=>iter (b73 i) (k6 (a7M N) N c i) N st k
theorem c1i(a:c8)(b:Int)(KX:Nat->St->Option Bool)(I:St->Option Bool)(c:Int):
  k7 (a8x N) (a7M N) b1X 0 (b1W a b c) (p6 (b73 0) I KX (b43 N))=a9p N a b (KX 0 (a4b a b)) (fun c=>I (b1W a b c)) c:=by kernel_rfl
theorem c8g:∀x y k,(∀st,k .ret st=(b43 N) st)->iter (b73 0) (k6 (a7M N) N b1X 0) N ⟨26,Y7 a6B x,Y8 a6A y⟩ k=c1h N x y k:=fun x _ k hk=>
 j9 (S:=(Int)×Unit) (b73 0) _ (k7 (a8x N) (a7M N) b1X 0) (b43 N) (k9 _ _ N _ b1X 0 (show LoopsOk (a8x N) (a7M N) N (b43 N) []from trivial)) (fun s=>b1W x.1 x.2.1 s.1) k hk
  (fun self s=>a9p N x.1 x.2.1 (k (.exit 0) (a4b x.1 x.2.1)) (fun a=>self (a,())) s.1) (fun n s=>b9g N x.1 x.2.1 (k (.exit 0) (a4b x.1 x.2.1)) n s.1) (fun _=>rfl) (fun _ _=>rfl)
  (fun I s=>c1i N x.1 x.2.1 (fun j=>k (.exit j)) I s.1) N (x.2.2.1,())
theorem d6C:F7 (a8x N) (a7M N) N (b43 N) 0 b1X:=fun st k hk=>p8 26 a6B a6A _ _ (b43 N) (c8g N) _ st k hk (rfl)
theorem d03(x:SV [V1])(y:BV []):F5 (a7M N) Tryz.f195 (b72 N) c3A (a8x N) x y=N9 N x.1:=by kernel_rfl
theorem b74:P7 195 (b72 N):=
 a1X (c8h N) Tryz.func195 rfl Tryz.call195 (b72 N) c3A (fun _ _=>rfl) N (a8x N) (show LoopsOk (a8x N) (a7M N) N (b43 N) [(0,b1X)]from⟨d6C N,trivial⟩) (d03 N)
def a1S(a:GStmt):Option Bool:=f5 (br (!(a.name==[])) (f5 (a1r N a.kind) fun b=>some (!b)) (some false)) fun c=>br (c) (some false) (f5 (br (!(a.text==[])) (some (a.kind !=6)) (some false)) fun e=>br (e) (some false) (f5 (N9 N a.text) fun g=>br (!g) (some false) (f5 (br (decide ((a.params.length:Int)>0)) (some (a.kind !=3)) (some false)) fun l=>br (l) (some false) (f5 (br (decide ((a.args.length:Int)>0)) (some (a.kind !=2)) (some false)) fun m=>br (m) (some false) (f5 (f5 (O0 N (GExpr.mk a.expr.kind a.expr.text a.expr.number a.expr.keys a.expr.kids)) fun o=>br (!o) (br (a.kind !=1) (br (a.kind !=4) (some (a.kind !=5)) (some false)) (some false)) (some false)) fun p=>br (p) (some false) (f5 (br (decide ((a.body.length:Int)>0)) (br (a.kind !=3) (br (a.kind !=4) (some (a.kind !=5)) (some false)) (some false)) (some false)) fun q=>br (q) (some false) (f5 (br ((a.els.length:Int)==0) (some true) (some (a.kind==5))) fun r=>some r)))))))
abbrev e3V:=P4 [.v τ16] [] [V2] [] (Bool) fun z=>((z,()),())
abbrev e1h:AF:=e3V fun x _=>a1S N x.1
def d5u:FuncId->Option Tmp->Option AF:=fun f _=>O5 [(102,c5J N),(194,c5F N),(195,b72 N)] f
theorem d5v:I8 (d5u N):=fun _ _ _ h=>o6 h (v8 (b75 N) (v8 (b7X N) (v8 (b74 N) G7)))
def e3U:Nat->Hint:=fun i=>
 match i with
 |_=>o3
abbrev e5w:Env:=S9 e3U (d5u N) FF FF |>.jk (fun i=>match i with|2=>some 6|3=>some 6|6=>some 26|7=>some 26|9=>some 43|11=>some 60|13=>some 2|_=>none)
theorem d5w:P7 153 (e1h N):=
 a1W (e5w N) (EnvOk.jk (y6 e3U (d5u N) _ _ (d5v N)) _) Tryz.func153 rfl Tryz.call153 (e1h N) (fun x _=>x.1) (fun _ _=>rfl) N (fun _ _=>by kernel_rfl) rfl
end
end Go.Proofs.YtolpmfhiegpohaaGreatDoor
