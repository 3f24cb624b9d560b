/- What functions of the program compute, as plain functions (printed). -/
import Derived.Test.YtolpmfhiegpohaaGreatDoorQPaF21
namespace Go.Proofs.YtolpmfhiegpohaaGreatDoor
open Go Go.RowKit
set_option maxRecDepth 100000
set_option linter.unusedVariables false
noncomputable section
variable(N:Nat)
def a3T(_N:Nat)(d9:ρ28)(e:List GExpr)(g:Int)(k0:ρ30)(self:ρ27)(c b:Int):Option Int:=br (decide (b<g)) (f5 (l6 e b) fun a=>f5 (d9 (GExpr.mk a.kind a.text a.number a.keys a.kids)) fun l=>self (IntKind.i64.wrap (c+l)) (IntKind.i64.wrap (b+1))) (k0 c)
def b4N(N:Nat)(d9:ρ28)(a:List GExpr)(b:Int)(k0:ρ30):Nat->Int->Int->Option Int|0,_,_=>none|n+1,c,e=>a3T N d9 a b k0 (b4N N d9 a b k0 n) c e
def a2x(d9:ρ28)(a:GExpr):Option Int:=b4N N d9 a.kids (a.kids.length:Int) (fun b=>some b) N 1 0
abbrev d9Q:=P4 [.v τ4] [] [V0] [] (Int) fun z=>((z,()),())
abbrev c5B(d9:ρ28):AF:=d9Q fun x _=>a2x N d9 x.1
abbrev c3n:SV [V0]->BV []->Int:=fun x _=>x.1
def c3m(_N:Nat)(d9:ρ28):FuncId->Option Tmp->Option AF:=fun f _=>O5 [(85,b48 fun x _=>d9 x.1)] f
theorem c7P(d9:ρ28)(a2w:Sound Tryz.prog GW B7 85 (b48 fun x y=>d9 x.1)):∀f q F,c3m N d9 f q=some F->Sound Tryz.prog GW B7 f F:=fun _ _ _ h=>o6 h (v8 (a2w) G7)
def b4P:Nat->Hint:=fun i=>
 match i with
 |0=>⟨[],[3,7,8,9],[],[3],[],[]⟩
 |_=>o3
abbrev a7H(d9:ρ28):Env:=S9 b4P (c3m N d9) (fun _=>false) (fun _=>false) |>.jk (fun _=>none)
abbrev b4O(d9:ρ28):=A8 (a7H N d9) Tryz.f85 (c5B N d9) c3n
noncomputable abbrev b1C:Code:=V7 (m9 Tryz.f85) [true,true,false,true,false,false]
abbrev a6h:List (Nat×Sl):=[(3,V0),(7,.v (.sl τ4)),(8,V0),(9,V0)]
abbrev a6g:List (Nat×Sb):=[]
def b1B(a:List GExpr)(b c e:Int):St:=⟨19,[(3,.v τ2 c),(7,.v (.sl τ4) a),(8,.v τ2 b),(9,.v τ2 e)],[]⟩
def a3U(_b:List GExpr)(_c a:Int):St:=⟨19,[(3,.v τ2 a)],[]⟩
def d0D(d9:ρ28)(a:List GExpr)(b c e:Int)(k:Ex->St->Option Int):Option Int:=b4N N d9 a b (fun g=>k (.exit 0) (a3U a b g)) N c e
abbrev c0U(d9:ρ28):FV a6h->HV a6g->(Ex->St->Option Int)->Option Int:=fun x _ k=>d0D N d9 x.2.1 x.2.2.1 x.1 x.2.2.2.1 k
def a8q(d9:ρ28):Nat->Code->St->(Ex->St->Option Int)->Option Int:=fun i c=>
 match i with
 |0=>(LPc 19 a6h a6g (c0U N d9) (fun st k=>iter (b4P 0) (k6 (a7H N d9) N c 0) N st k))
 |i=>fun st k=>iter (b4P i) (k6 (a7H N d9) N c i) N st k
theorem c0V(d9:ρ28)(a:List GExpr)(b:Int)(KX:Nat->St->Option Int)(I:St->Option Int)(c e:Int):
  k7 (a8q N d9) (a7H N d9) b1C 0 (b1B a b c e) (p6 (b4P 0) I KX (b4O N d9))=a3T N d9 a b (fun g=>KX 0 (a3U a b g)) (fun c e=>I (b1B a b c e)) c e:=by kernel_rfl
theorem c7O(d9:ρ28):∀x y k,(∀st,k .ret st=(b4O N d9) st)->iter (b4P 0) (k6 (a7H N d9) N b1C 0) N ⟨19,Y7 a6h x,Y8 a6g y⟩ k=c0U N d9 x y k:=fun x _ k hk=>
 j9 (S:=(Int)×(Int)×Unit) (b4P 0) _ (k7 (a8q N d9) (a7H N d9) b1C 0) (b4O N d9) (k9 _ _ N _ b1C 0 (show LoopsOk (a8q N d9) (a7H N d9) N (b4O N d9) []from trivial)) (fun s=>b1B x.2.1 x.2.2.1 s.1 s.2.1) k hk
  (fun self s=>a3T N d9 x.2.1 x.2.2.1 (fun a=>k (.exit 0) (a3U x.2.1 x.2.2.1 a)) (fun b c=>self (b,c,())) s.1 s.2.1) (fun n s=>b4N N d9 x.2.1 x.2.2.1 (fun a=>k (.exit 0) (a3U x.2.1 x.2.2.1 a)) n s.1 s.2.1) (fun _=>rfl) (fun _ _=>rfl)
  (fun I s=>c0V N d9 x.2.1 x.2.2.1 (fun j=>k (.exit j)) I s.1 s.2.1) N (x.1,x.2.2.2.1,())
theorem d6u(d9:ρ28):F7 (a8q N d9) (a7H N d9) N (b4O N d9) 0 b1C:=fun st k hk=>p8 19 a6h a6g _ _ (b4O N d9) (c7O N d9) _ st k hk (rfl)
theorem d0E(d9:ρ28)(x:SV [.v τ4])(y:BV []):F5 (a7H N d9) Tryz.f85 (c5B N d9) c3n (a8q N d9) x y=a2x N d9 x.1:=by kernel_rfl
theorem c7Q(d9:ρ28)(a2w:Sound Tryz.prog GW B7 85 (b48 fun x y=>d9 x.1)):Sound Tryz.prog GW B7 85 (c5B N d9):=
 a2A (EnvOk.jk (y6 b4P (c3m N d9) _ _ (c7P N d9 a2w)) _) Tryz.func85 rfl Tryz.call85 (c5B N d9) c3n (fun _ _=>rfl) N (a8q N d9) (show LoopsOk (a8q N d9) (a7H N d9) N (b4O N d9) [(0,b1C)]from⟨d6u N d9,trivial⟩) (d0E N d9)
def Q3(N:Nat):Nat->GExpr->Option (Int)|0=>fun _=>none|d+1=>a2x N (Q3 N d)
theorem b78(N:Nat):∀d,Sound Tryz.prog GW B7 85 (b48 fun x y=>Q3 N d x.1)
 |0=>Sound.never Tryz.call85 (fun _ _=>rfl)
 |d+1=>c7Q N (Q3 N d) (b78 N d)
abbrev b4Y:=P4 [.v τ6] [] [V0] [] (Int) fun z=>((z,()),())
def a3M(d1:ρ24)(e:List (c8×GExpr))(g:Int)(k2:ρ30)(self:ρ27)(c b:Int):Option Int:=br (decide (b<g)) (f5 (l6 e b) fun a=>f5 (Q3 N N (GExpr.mk a.2.kind a.2.text a.2.number a.2.keys a.2.kids)) fun l=>self (IntKind.i64.wrap (c+l)) (IntKind.i64.wrap (b+1))) (k2 c)
def b1k(N:Nat)(d1:ρ24)(a:List (c8×GExpr))(b:Int)(k2:ρ30):Nat->Int->Int->Option Int|0,_,_=>none|n+1,c,e=>a3M N d1 a b k2 (b1k N d1 a b k2 n) c e
def a0s(d1:ρ24)(g:List GStmt)(l:Int)(k0:ρ30)(self:ρ27)(c b:Int):Option Int:=br (decide (b<l)) (f5 (l6 g b) fun a=>f5 (F9 N (GStmt.mk a.kind a.name a.text a.params a.args (GExpr.mk a.expr.kind a.expr.text a.expr.number a.expr.keys a.expr.kids) a.body a.els a.at_)) fun m=>br (m.2.2.2.2.1) (f5 (Q3 N N (GExpr.mk a.expr.kind a.expr.text a.expr.number a.expr.keys a.expr.kids)) fun o=>b1k N d1 a.args (a.args.length:Int) (fun e=>f5 (d1 a.body) fun p=>f5 (d1 a.els) fun q=>self (IntKind.i64.wrap (e+(IntKind.i64.wrap (p+q)))) (IntKind.i64.wrap (b+1))) N (IntKind.i64.wrap ((IntKind.i64.wrap (c+1))+o)) 0) (b1k N d1 a.args (a.args.length:Int) (fun e=>f5 (d1 a.body) fun r=>f5 (d1 a.els) fun t=>self (IntKind.i64.wrap (e+(IntKind.i64.wrap (r+t)))) (IntKind.i64.wrap (b+1))) N (IntKind.i64.wrap (c+1)) 0)) (k0 c)
def a5m(N:Nat)(d1:ρ24)(a:List GStmt)(b:Int)(k0:ρ30):Nat->Int->Int->Option Int|0,_,_=>none|n+1,c,e=>a0s N d1 a b k0 (a5m N d1 a b k0 n) c e
def a1U(d1:ρ24)(a:List GStmt):Option Int:=a5m N d1 a (a.length:Int) (fun b=>some b) N 0 0
abbrev d9H:=P4 [.v τ6] [] [V0] [] (Int) fun z=>((z,()),())
abbrev c5y(d1:ρ24):AF:=d9H fun x _=>a1U N d1 x.1
abbrev c3d:SV [V0]->BV []->Int:=fun x _=>x.1
def c3c(d1:ρ24):FuncId->Option Tmp->Option AF:=fun f _=>O5 [(49,b4Y fun x _=>d1 x.1),(84,c1s N),(85,b48 fun x _=>Q3 N N x.1)] f
theorem c7y(d1:ρ24)(a1O:Sound Tryz.prog GW B7 49 (b4Y fun x y=>d1 x.1)):∀f q F,c3c N d1 f q=some F->Sound Tryz.prog GW B7 f F:=fun _ _ _ h=>o6 h (v8 (a1O) (v8 (b17 N) (v8 (b78 N N) G7)))
def a5n:Nat->Hint:=fun i=>
 match i with
 |0=>⟨[],[3,8,9,10],[],[3],[],[]⟩
 |2=>⟨[],[3,5,8,9,10,25,26,27],[1005],[3,5,8,9,10],[1005],[]⟩
 |_=>o3
abbrev a1h(d1:ρ24):Env:=S9 a5n (c3c N d1) (fun _=>false) (fun _=>false) |>.jk (fun _=>none)
abbrev a22(d1:ρ24):=A8 (a1h N d1) Tryz.f49 (c5y N d1) c3d
noncomputable abbrev b1m:Code:=V7 (m9 Tryz.f49) [true,true,false,true,false,false]
noncomputable abbrev a8k:Code:=V7 (m9 Tryz.f49) [true,true,false,true,false,false,true,true,false,false,true,true,true,false,true,false,false]
abbrev a52:List (Nat×Sl):=[(3,V0),(5,.box 1005 0),(8,.v τ6),(9,V0),(10,V0),(25,.v (.sl τ9)),(26,V0),(27,V0)]
abbrev a50:List (Nat×Sb):=[(1005,.cells [V0,V1,V1,V4,.v (.sl τ9),V0,V1,V0,V4,.v (.sl τ4),.v τ6,.v τ6,V0])]
def b1l(a:List GStmt)(b c:Int)(e:List (c8×GExpr))(g l:Int)(m o:c8)(p:List c8)(q:List (c8×GExpr))(r:Int)(t:c8)(u:Int)(w:List c8)(B:List GExpr)(C D:List GStmt)(E H J:Int):St:=⟨48,[(3,.v τ2 H),(5,.box 1005 0),(8,.v τ6 a),(9,.v τ2 b),(10,.v τ2 c),(25,.v (.sl τ9) e),(26,.v τ2 g),(27,.v τ2 J)],[(1005,.cells [.v τ2 l,.v .str m,.v .str o,.v V6 p,.v (.sl τ9) q,.v τ2 r,.v .str t,.v τ2 u,.v V6 w,.v (.sl τ4) B,.v τ6 C,.v τ6 D,.v τ2 E])]⟩
def a3N(a:List GStmt)(b c:Int)(_E:List (c8×GExpr))(_H e:Int)(g l:c8)(m:List c8)(o:List (c8×GExpr))(p:Int)(q:c8)(r:Int)(t:List c8)(u:List GExpr)(w B:List GStmt)(C D:Int):St:=⟨48,[(3,.v τ2 D),(5,.box 1005 0),(8,.v τ6 a),(9,.v τ2 b),(10,.v τ2 c)],[(1005,.cells [.v τ2 e,.v .str g,.v .str l,.v V6 m,.v (.sl τ9) o,.v τ2 p,.v .str q,.v τ2 r,.v V6 t,.v (.sl τ4) u,.v τ6 w,.v τ6 B,.v τ2 C])]⟩
def d0h(d1:ρ24)(c:List GStmt)(e g:Int)(a:List (c8×GExpr))(b l:Int)(m o:c8)(p:List c8)(q:List (c8×GExpr))(r:Int)(t:c8)(u:Int)(v:List c8)(w:List GExpr)(B C:List GStmt)(D E H:Int)(k:Ex->St->Option Int):Option Int:=b1k N d1 a b (fun J=>k (.exit 2) (a3N c e g a b l m o p q r t u v w B C D J)) N E H
abbrev c0F(d1:ρ24):FV a52->HV a50->(Ex->St->Option Int)->Option Int:=fun x y k=>d0h N d1 x.2.2.1 x.2.2.2.1 x.2.2.2.2.1 x.2.2.2.2.2.1 x.2.2.2.2.2.2.1 y.1.1 y.1.2.1 y.1.2.2.1 y.1.2.2.2.1 y.1.2.2.2.2.1 y.1.2.2.2.2.2.1 y.1.2.2.2.2.2.2.1 y.1.2.2.2.2.2.2.2.1 y.1.2.2.2.2.2.2.2.2.1 y.1.2.2.2.2.2.2.2.2.2.1 y.1.2.2.2.2.2.2.2.2.2.2.1 y.1.2.2.2.2.2.2.2.2.2.2.2.1 y.1.2.2.2.2.2.2.2.2.2.2.2.2.1 x.1 x.2.2.2.2.2.2.2.1 k
abbrev a5Z:List (Nat×Sl):=[(3,V0),(8,.v τ6),(9,V0),(10,V0)]
abbrev a5Y:List (Nat×Sb):=[]
def b1j(a:List GStmt)(b c e:Int):St:=⟨48,[(3,.v τ2 c),(8,.v τ6 a),(9,.v τ2 b),(10,.v τ2 e)],[]⟩
def a3L(_b:List GStmt)(_c a:Int):St:=⟨48,[(3,.v τ2 a)],[]⟩
def d0g(d1:ρ24)(a:List GStmt)(b c e:Int)(k:Ex->St->Option Int):Option Int:=a5m N d1 a b (fun g=>k (.exit 0) (a3L a b g)) N c e
abbrev c0D(d1:ρ24):FV a5Z->HV a5Y->(Ex->St->Option Int)->Option Int:=fun x _ k=>d0g N d1 x.2.1 x.2.2.1 x.1 x.2.2.2.1 k
def a16(d1:ρ24):Nat->Code->St->(Ex->St->Option Int)->Option Int:=fun i c=>
 match i with
 |0=>(LPc 48 a5Z a5Y (c0D N d1) (fun st k=>iter (a5n 0) (k6 (a1h N d1) N c 0) N st k))
 |2=>(LPc 48 a52 a50 (c0F N d1) (fun st k=>iter (a5n 2) (k6 (a1h N d1) N c 2) N st k))
 |i=>fun st k=>iter (a5n i) (k6 (a1h N d1) N c i) N st k
theorem c0G(d1:ρ24)(g:List GStmt)(l m:Int)(a:List (c8×GExpr))(b o:Int)(p q:c8)(r:List c8)(t:List (c8×GExpr))(u:Int)(v:c8)(w:Int)(B:List c8)(C:List GExpr)(D E:List GStmt)(H:Int)(KX:Nat->St->Option Int)(I:St->Option Int)(c e:Int):
  k7 (a16 N d1) (a1h N d1) a8k 2 (b1l g l m a b o p q r t u v w B C D E H c e) (p6 (a5n 2) I KX (a22 N d1))=a3M N d1 a b (fun J=>KX 2 (a3N g l m a b o p q r t u v w B C D E H J)) (fun c e=>I (b1l g l m a b o p q r t u v w B C D E H c e)) c e:=by kernel_rfl
theorem c7x(d1:ρ24):∀x y k,(∀st,k .ret st=(a22 N d1) st)->iter (a5n 2) (k6 (a1h N d1) N a8k 2) N ⟨48,Y7 a52 x,Y8 a50 y⟩ k=c0F N d1 x y k:=fun x y k hk=>
 j9 (S:=(Int)×(Int)×Unit) (a5n 2) _ (k7 (a16 N d1) (a1h N d1) a8k 2) (a22 N d1) (k9 _ _ N _ a8k 2 (show LoopsOk (a16 N d1) (a1h N d1) N (a22 N d1) []from trivial)) (fun s=>b1l x.2.2.1 x.2.2.2.1 x.2.2.2.2.1 x.2.2.2.2.2.1 x.2.2.2.2.2.2.1 y.1.1 y.1.2.1 y.1.2.2.1 y.1.2.2.2.1 y.1.2.2.2.2.1 y.1.2.2.2.2.2.1 y.1.2.2.2.2.2.2.1 y.1.2.2.2.2.2.2.2.1 y.1.2.2.2.2.2.2.2.2.1 y.1.2.2.2.2.2.2.2.2.2.1 y.1.2.2.2.2.2.2.2.2.2.2.1 y.1.2.2.2.2.2.2.2.2.2.2.2.1 y.1.2.2.2.2.2.2.2.2.2.2.2.2.1 s.1 s.2.1) k hk
  (fun self s=>a3M N d1 x.2.2.2.2.2.1 x.2.2.2.2.2.2.1 (fun a=>k (.exit 2) (a3N x.2.2.1 x.2.2.2.1 x.2.2.2.2.1 x.2.2.2.2.2.1 x.2.2.2.2.2.2.1 y.1.1 y.1.2.1 y.1.2.2.1 y.1.2.2.2.1 y.1.2.2.2.2.1 y.1.2.2.2.2.2.1 y.1.2.2.2.2.2.2.1 y.1.2.2.2.2.2.2.2.1 y.1.2.2.2.2.2.2.2.2.1 y.1.2.2.2.2.2.2.2.2.2.1 y.1.2.2.2.2.2.2.2.2.2.2.1 y.1.2.2.2.2.2.2.2.2.2.2.2.1 y.1.2.2.2.2.2.2.2.2.2.2.2.2.1 a)) (fun b c=>self (b,c,())) s.1 s.2.1) (fun n s=>b1k N d1 x.2.2.2.2.2.1 x.2.2.2.2.2.2.1 (fun a=>k (.exit 2) (a3N x.2.2.1 x.2.2.2.1 x.2.2.2.2.1 x.2.2.2.2.2.1 x.2.2.2.2.2.2.1 y.1.1 y.1.2.1 y.1.2.2.1 y.1.2.2.2.1 y.1.2.2.2.2.1 y.1.2.2.2.2.2.1 y.1.2.2.2.2.2.2.1 y.1.2.2.2.2.2.2.2.1 y.1.2.2.2.2.2.2.2.2.1 y.1.2.2.2.2.2.2.2.2.2.1 y.1.2.2.2.2.2.2.2.2.2.2.1 y.1.2.2.2.2.2.2.2.2.2.2.2.1 y.1.2.2.2.2.2.2.2.2.2.2.2.2.1 a)) n s.1 s.2.1) (fun _=>rfl) (fun _ _=>rfl)
  (fun I s=>c0G N d1 x.2.2.1 x.2.2.2.1 x.2.2.2.2.1 x.2.2.2.2.2.1 x.2.2.2.2.2.2.1 y.1.1 y.1.2.1 y.1.2.2.1 y.1.2.2.2.1 y.1.2.2.2.2.1 y.1.2.2.2.2.2.1 y.1.2.2.2.2.2.2.1 y.1.2.2.2.2.2.2.2.1 y.1.2.2.2.2.2.2.2.2.1 y.1.2.2.2.2.2.2.2.2.2.1 y.1.2.2.2.2.2.2.2.2.2.2.1 y.1.2.2.2.2.2.2.2.2.2.2.2.1 y.1.2.2.2.2.2.2.2.2.2.2.2.2.1 (fun j=>k (.exit j)) I s.1 s.2.1) N (x.1,x.2.2.2.2.2.2.2.1,())
theorem c5z(d1:ρ24):F7 (a16 N d1) (a1h N d1) N (a22 N d1) 2 a8k:=fun st k hk=>p8 48 a52 a50 _ _ (a22 N d1) (c7x N d1) _ st k hk (rfl)
theorem c0E(d1:ρ24)(a:List GStmt)(b:Int)(KX:Nat->St->Option Int)(I:St->Option Int)(c e:Int):
  k7 (a16 N d1) (a1h N d1) b1m 0 (b1j a b c e) (p6 (a5n 0) I KX (a22 N d1))=a0s N d1 a b (fun g=>KX 0 (a3L a b g)) (fun c e=>I (b1j a b c e)) c e:=by kernel_rfl
theorem c7w(d1:ρ24):∀x y k,(∀st,k .ret st=(a22 N d1) st)->iter (a5n 0) (k6 (a1h N d1) N b1m 0) N ⟨48,Y7 a5Z x,Y8 a5Y y⟩ k=c0D N d1 x y k:=fun x _ k hk=>
 j9 (S:=(Int)×(Int)×Unit) (a5n 0) _ (k7 (a16 N d1) (a1h N d1) b1m 0) (a22 N d1) (k9 _ _ N _ b1m 0 (show LoopsOk (a16 N d1) (a1h N d1) N (a22 N d1) [(2,a8k)]from⟨c5z N d1,trivial⟩)) (fun s=>b1j x.2.1 x.2.2.1 s.1 s.2.1) k hk
  (fun self s=>a0s N d1 x.2.1 x.2.2.1 (fun a=>k (.exit 0) (a3L x.2.1 x.2.2.1 a)) (fun b c=>self (b,c,())) s.1 s.2.1) (fun n s=>a5m N d1 x.2.1 x.2.2.1 (fun a=>k (.exit 0) (a3L x.2.1 x.2.2.1 a)) n s.1 s.2.1) (fun _=>rfl) (fun _ _=>rfl)
  (fun I s=>c0E N d1 x.2.1 x.2.2.1 (fun j=>k (.exit j)) I s.1 s.2.1) N (x.1,x.2.2.2.1,())
theorem d6o(d1:ρ24):F7 (a16 N d1) (a1h N d1) N (a22 N d1) 0 b1m:=fun st k hk=>p8 48 a5Z a5Y _ _ (a22 N d1) (c7w N d1) _ st k hk (rfl)
theorem d0i(d1:ρ24)(x:SV [.v τ6])(y:BV []):F5 (a1h N d1) Tryz.f49 (c5y N d1) c3d (a16 N d1) x y=a1U N d1 x.1:=by kernel_rfl
theorem c7z(d1:ρ24)(a1O:Sound Tryz.prog GW B7 49 (b4Y fun x y=>d1 x.1)):Sound Tryz.prog GW B7 49 (c5y N d1):=
 a2A (EnvOk.jk (y6 a5n (c3c N d1) _ _ (c7y N d1 a1O)) _) Tryz.func49 rfl Tryz.call49 (c5y N d1) c3d (fun _ _=>rfl) N (a16 N d1) (show LoopsOk (a16 N d1) (a1h N d1) N (a22 N d1) [(0,b1m),(2,a8k)]from⟨d6o N d1,c5z N d1,trivial⟩) (d0i N d1)
def F8(N:Nat):Nat->(List GStmt)->Option (Int)|0=>fun _=>none|d+1=>a1U N (F8 N d)
theorem b7Y(N:Nat):∀d,Sound Tryz.prog GW B7 49 (b4Y fun x y=>F8 N d x.1)
 |0=>Sound.never Tryz.call49 (fun _ _=>rfl)
 |d+1=>c7z N (F8 N d) (b7Y N d)
def a3O(_N:Nat)(e:List (c8×GExpr))(g:Int)(k0:τ23->Option τ23)(self:Int->τ23->Option τ23)(a:Int)(b:List c8):Option τ23:=br (decide (a<g)) (f5 (l6 e a) fun c=>br (decide ((b.length + [c.1].length)*(24*Ty.sz .str)<=140737488355328)) (self (IntKind.i64.wrap (a+1)) (b ++ [c.1])) none) (k0 b)
def b4A(N:Nat)(a:List (c8×GExpr))(b:Int)(k0:τ23->Option τ23):Nat->Int->τ23->Option τ23|0,_,_=>none|n+1,c,e=>a3O N a b k0 (b4A N a b k0 n) c e
def Q2(a:GStmt):Option τ23:=b4A N a.args (a.args.length:Int) (fun b=>some b) N 0 []
abbrev d9K(f:SV [.v τ16]->BV []->Option τ23):AF:={ps:=[.v τ16],bs:=[],rs:=[.row 0],cs:=[.row 9 .str false],R:=List c8,out:=fun z=>(((),()),(z,())),f:=f}
abbrev c0K:AF:=d9K fun x _=>Q2 N x.1
abbrev c3f:SV [.row 0]->BV [.row 9 .str false]->τ23:=fun _ y=>y.1
def c3e(_N:Nat):FuncId->Option Tmp->Option AF:=fun f _=>O5 [] f
theorem c7B:I8 (c3e N):=fun _ _ _ h=>o6 h G7
def b4C:Nat->Hint:=fun i=>
 match i with
 |0=>⟨[],[3,7,8,9],[1003],[3],[1003],[]⟩
 |_=>o3
abbrev a7C:Env:=S9 b4C (c3e N) FF FF |>.jk (fun _=>none)
noncomputable abbrev b1p:Code:=V7 (m9 Tryz.f140) [true,true,false,true,false,false]
abbrev b4B:=A8 (a7C N) Tryz.f140 (c0K N) c3f
abbrev a56:List (Nat×Sl):=[(3,.row 1003),(7,.v (.sl τ9)),(8,V0),(9,V0)]
abbrev a55:List (Nat×Sb):=[(1003,.row 9 .str false)]
def b1o(a:List (c8×GExpr))(b c:Int)(e:List c8):St:=⟨20,[(3,.row 1003),(7,.v (.sl τ9) a),(8,.v τ2 b),(9,.v τ2 c)],[(1003,.row 9 .str false e)]⟩
def a3P(_b:List (c8×GExpr))(_c:Int)(a:List c8):St:=⟨20,[(3,.row 1003)],[(1003,.row 9 .str false a)]⟩
def d0j(a:List (c8×GExpr))(b c:Int)(e:List c8)(k:Ex->St->Option τ23):Option τ23:=b4A N a b (fun g=>k (.exit 0) (a3P a b g)) N c e
abbrev c0I:FV a56->HV a55->(Ex->St->Option τ23)->Option τ23:=fun x y k=>d0j N x.2.1 x.2.2.1 x.2.2.2.1 y.1 k
def a8l:Nat->Code->St->(Ex->St->Option τ23)->Option τ23:=fun i c=>
 match i with
 |0=>(LPc 20 a56 a55 (c0I N) (fun st k=>iter (b4C 0) (k6 (a7C N) N c 0) N st k))
 |i=>fun st k=>iter (b4C i) (k6 (a7C N) N c i) N st k
theorem c0J(a:List (c8×GExpr))(b:Int)(KX:Nat->St->Option τ23)(I:St->Option τ23)(c:Int)(e:List c8):
  k7 (a8l N) (a7C N) b1p 0 (b1o a b c e) (p6 (b4C 0) I KX (b4B N))=a3O N a b (fun g=>KX 0 (a3P a b g)) (fun c e=>I (b1o a b c e)) c e:=by kernel_rfl
theorem c7A:∀x y k,(∀st,k .ret st=(b4B N) st)->iter (b4C 0) (k6 (a7C N) N b1p 0) N ⟨20,Y7 a56 x,Y8 a55 y⟩ k=c0I N x y k:=fun x y k hk=>
 j9 (S:=(Int)×τ23×Unit) (b4C 0) _ (k7 (a8l N) (a7C N) b1p 0) (b4B N) (k9 _ _ N _ b1p 0 (show LoopsOk (a8l N) (a7C N) N (b4B N) []from trivial)) (fun s=>b1o x.2.1 x.2.2.1 s.1 s.2.1) k hk
  (fun self s=>a3O N x.2.1 x.2.2.1 (fun a=>k (.exit 0) (a3P x.2.1 x.2.2.1 a)) (fun b c=>self (b,c,())) s.1 s.2.1) (fun n s=>b4A N x.2.1 x.2.2.1 (fun a=>k (.exit 0) (a3P x.2.1 x.2.2.1 a)) n s.1 s.2.1) (fun _=>rfl) (fun _ _=>rfl)
  (fun I s=>c0J N x.2.1 x.2.2.1 (fun j=>k (.exit j)) I s.1 s.2.1) N (x.2.2.2.1,y.1,())
theorem d6p:F7 (a8l N) (a7C N) N (b4B N) 0 b1p:=fun st k hk=>p8 20 a56 a55 _ _ (b4B N) (c7A N) _ st k hk (rfl)
theorem d0k(x:SV [.v τ16])(y:BV []):F5 (a7C N) Tryz.f140 (c0K N) c3f (a8l N) x y=Q2 N x.1:=by kernel_rfl
theorem c7C:P7 140 (c0K N):=
 a2A (EnvOk.jk (y6 b4C (c3e N) _ _ (c7B N)) _) Tryz.func140 rfl Tryz.call140 (c0K N) c3f (fun _ _=>rfl) N (a8l N) (show LoopsOk (a8l N) (a7C N) N (b4B N) [(0,b1p)]from⟨d6p N,trivial⟩) (d0k N)
def G8(a:c8):Option Bool:=f5 (A9 N a) fun b=>some (!b)
abbrev e2M:=P4 [V1] [] [V2] [] (Bool) fun z=>((z,()),())
abbrev d64:AF:=e2M fun x _=>G8 N x.1
theorem c1D:P7 141 (d64 N):=
 V5 h0 [(135,b4J N)] (v8 (b1u N) G7) Tryz.func141 rfl Tryz.call141 (d64 N) (fun x _=>x.1) (fun _ _=>rfl) N (fun _ _=>by kernel_rfl) rfl
def c1E(b:List c8)(c:Int)(k0:Option Int)(self:ρ30)(a:Int):Option Int:=br (decide (a<c)) (f5 (l6 b a) fun e=>f5 (G8 N e) fun g=>br (g) (some a) (self (IntKind.i64.wrap (a+1)))) (k0)
def d2C(N:Nat)(a:List c8)(b:Int)(k0:Option Int):Nat->Int->Option Int|0,_=>none|n+1,c=>c1E N a b k0 (d2C N a b k0 n) c
def D2(a:List c8)(_b:Unit):Option Int:=d2C N a (a.length:Int) (some (-1:Int)) N 0
abbrev e5a:=P4 [V4,.v (.clo 141 .un)] [] [V0] [] (Int) fun z=>((z,()),())
abbrev z3g:AF:=e5a fun x _=>D2 N x.1 x.2.1
abbrev e0A:SV [V0]->BV []->Int:=fun x _=>x.1
def e2N:FuncId->Option Tmp->Option AF:=fun f _=>O5 [(141,d64 N)] f
theorem d66:I8 (e2N N):=fun _ _ _ h=>o6 h (v8 (c1D N) G7)
def z3h:Nat->Hint:=fun i=>
 match i with
 |0=>⟨[],[0,1,7,8],[],[],[],[]⟩
 |_=>o3
abbrev z3E:Env:=S9 z3h (e2N N) FF FF
noncomputable abbrev b2X:Code:=V7 (m9 Tryz.f181) [true,false,true,false,false]
abbrev z3R:=A8 (z3E N) Tryz.f181 (z3g N) e0A
abbrev b3d:List (Nat×Sl):=[(0,V4),(1,.v (.clo 141 .un)),(7,V0),(8,V0)]
abbrev b3c:List (Nat×Sb):=[]
def b9i(a:List c8)(b:Unit)(c e:Int):St:=⟨19,[(0,.v V6 a),(1,.v (.clo 141 .un) b),(7,.v τ2 c),(8,.v τ2 e)],[]⟩
def a9J(_a:List c8)(_b:Unit)(_c:Int):St:=⟨19,[],[]⟩
def e0x(a:List c8)(c:Unit)(b e:Int)(k:Ex->St->Option Int):Option Int:=d2C N a b (k (.exit 0) (a9J a c b)) N e
abbrev d2D:FV b3d->HV b3c->(Ex->St->Option Int)->Option Int:=fun x _ k=>e0x N x.1 x.2.1 x.2.2.1 x.2.2.2.1 k
def c3Y:Nat->Code->St->(Ex->St->Option Int)->Option Int:=fun i c=>
 match i with
 |0=>(LPc 19 b3d b3c (d2D N) (fun st k=>iter (z3h 0) (k6 (z3E N) N c 0) N st k))
 |i=>fun st k=>iter (z3h i) (k6 (z3E N) N c i) N st k
theorem c8y(a:List c8)(e:Unit)(b:Int)(KX:Nat->St->Option Int)(I:St->Option Int)(c:Int):
  k7 (c3Y N) (z3E N) b2X 0 (b9i a e b c) (p6 (z3h 0) I KX (z3R N))=c1E N a b (KX 0 (a9J a e b)) (fun c=>I (b9i a e b c)) c:=by kernel_rfl
theorem d65:∀x y k,(∀st,k .ret st=(z3R N) st)->iter (z3h 0) (k6 (z3E N) N b2X 0) N ⟨19,Y7 b3d x,Y8 b3c y⟩ k=d2D N x y k:=fun x _ k hk=>
 j9 (S:=(Int)×Unit) (z3h 0) _ (k7 (c3Y N) (z3E N) b2X 0) (z3R N) (k9 _ _ N _ b2X 0 (show LoopsOk (c3Y N) (z3E N) N (z3R N) []from trivial)) (fun s=>b9i x.1 x.2.1 x.2.2.1 s.1) k hk
  (fun self s=>c1E N x.1 x.2.2.1 (k (.exit 0) (a9J x.1 x.2.1 x.2.2.1)) (fun a=>self (a,())) s.1) (fun n s=>d2C N x.1 x.2.2.1 (k (.exit 0) (a9J x.1 x.2.1 x.2.2.1)) n s.1) (fun _=>rfl) (fun _ _=>rfl)
  (fun I s=>c8y N x.1 x.2.1 x.2.2.1 (fun j=>k (.exit j)) I s.1) N (x.2.2.2.1,())
theorem e2P:F7 (c3Y N) (z3E N) N (z3R N) 0 b2X:=fun st k hk=>p8 19 b3d b3c _ _ (z3R N) (d65 N) _ st k hk (rfl)
theorem e0z(x:SV [V4,.v (.clo 141 .un)])(y:BV []):F5 (z3E N) Tryz.f181 (z3g N) e0A (c3Y N) x y=D2 N x.1 x.2.1:=by kernel_rfl
theorem d67:P7 181 (z3g N):=
 a1X (d66 N) Tryz.func181 rfl Tryz.call181 (z3g N) e0A (fun _ _=>rfl) N (c3Y N) (show LoopsOk (c3Y N) (z3E N) N (z3R N) [(0,b2X)]from⟨e2P N,trivial⟩) (e0z N)
def k8(a:List c8)(b:Unit):Option Bool:=f5 (D2 N a b) fun c=>some (decide (c>=0))
abbrev e40:=P4 [V4,.v (.clo 141 .un)] [] [V2] [] (Bool) fun z=>((z,()),())
abbrev z1g:AF:=e40 fun x _=>k8 N x.1 x.2.1
theorem d6O:P7 142 (z1g N):=
 V5 h0 [(181,z3g N)] (v8 (d67 N) G7) Tryz.func142 rfl Tryz.call142 (z1g N) (fun x _=>x.1) (fun _ _=>rfl) N (fun _ _=>by kernel_rfl) rfl
def I7(_N:Nat)(a:GExpr):Option Bool:=f5 (br (a.kind==0) (br (a.text==[]) (br (a.number==0) (br ((a.keys.length:Int)==0) (some ((a.kids.length:Int)==0)) (some false)) (some false)) (some false)) (some false)) fun b=>some b
abbrev d9P:=P4 [.v τ4] [] [V2] [] (Bool) fun z=>((z,()),())
abbrev d0C:AF:=d9P fun x _=>I7 N x.1
def c3l(_N:Nat):FuncId->Option Tmp->Option AF:=fun f _=>O5 [] f
theorem c7M:I8 (c3l N):=fun _ _ _ h=>o6 h G7
def d8w:Nat->Hint:=fun i=>
 match i with
 |_=>o3
abbrev e1X:Env:=S9 d8w (c3l N) FF FF |>.jk (fun i=>match i with|1=>some 2|_=>none)
theorem c7N:P7 143 (d0C N):=
 a1W (e1X N) (EnvOk.jk (y6 d8w (c3l N) _ _ (c7M N)) _) Tryz.func143 rfl Tryz.call143 (d0C N) (fun x _=>x.1) (fun _ _=>rfl) N (fun _ _=>by kernel_rfl) rfl
def a9i(_N:Nat)(b:c8)(c:Int)(k0:Option Bool)(self:ρ29)(a:Int):Option Bool:=br (decide (a<c)) (f5 (l6 b a) fun e=>br (e !=10) (f5 (l6 b a) fun g=>br (decide (g<32)) (some false) (f5 (l6 b a) fun l=>br (decide (l>126)) (some false) (self (IntKind.i64.wrap (a+1))))) (self (IntKind.i64.wrap (a+1)))) (k0)
def b9f(N:Nat)(a:c8)(b:Int)(k0:Option Bool):Nat->Int->Option Bool|0,_=>none|n+1,c=>a9i N a b k0 (b9f N a b k0 n) c
def x5(a:c8):Option Bool:=b9f N a (a.length:Int) (some true) N 0
abbrev d9O:=P4 [V1] [] [V2] [] (Bool) fun z=>((z,()),())
abbrev b4M:AF:=d9O fun x _=>x5 N x.1
abbrev c3k:SV [V2]->BV []->Bool:=fun x _=>x.1
def d0B(_N:Nat):FuncId->Option Tmp->Option AF:=fun f _=>O5 [] f
theorem c7L:I8 (d0B N):=fun _ _ _ h=>o6 h G7
def b7W:Nat->Hint:=fun i=>
 match i with
 |0=>⟨[],[0,5,6],[],[],[],[]⟩
 |_=>o3
abbrev a7G:Env:=S9 b7W (d0B N) FF FF
noncomputable abbrev b1z:Code:=V7 (m9 Tryz.f144) [true,false,true,false,false]
abbrev b4L:=A8 (a7G N) Tryz.f144 (b4M N) c3k
abbrev a6f:List (Nat×Sl):=[(0,V1),(5,V0),(6,V0)]
abbrev a6e:List (Nat×Sb):=[]
def b1y(a:c8)(b c:Int):St:=⟨26,[(0,.v .str a),(5,.v τ2 b),(6,.v τ2 c)],[]⟩
def a3S(_a:c8)(_b:Int):St:=⟨26,[],[]⟩
def d0z(a:c8)(b c:Int)(k:Ex->St->Option Bool):Option Bool:=b9f N a b (k (.exit 0) (a3S a b)) N c
abbrev c0S:FV a6f->HV a6e->(Ex->St->Option Bool)->Option Bool:=fun x _ k=>d0z N x.1 x.2.1 x.2.2.1 k
def a8p:Nat->Code->St->(Ex->St->Option Bool)->Option Bool:=fun i c=>
 match i with
 |0=>(LPc 26 a6f a6e (c0S N) (fun st k=>iter (b7W 0) (k6 (a7G N) N c 0) N st k))
 |i=>fun st k=>iter (b7W i) (k6 (a7G N) N c i) N st k
theorem c0T(a:c8)(b:Int)(KX:Nat->St->Option Bool)(I:St->Option Bool)(c:Int):
  k7 (a8p N) (a7G N) b1z 0 (b1y a b c) (p6 (b7W 0) I KX (b4L N))=a9i N a b (KX 0 (a3S a b)) (fun c=>I (b1y a b c)) c:=by kernel_rfl
theorem c7K:∀x y k,(∀st,k .ret st=(b4L N) st)->iter (b7W 0) (k6 (a7G N) N b1z 0) N ⟨26,Y7 a6f x,Y8 a6e y⟩ k=c0S N x y k:=fun x _ k hk=>
 j9 (S:=(Int)×Unit) (b7W 0) _ (k7 (a8p N) (a7G N) b1z 0) (b4L N) (k9 _ _ N _ b1z 0 (show LoopsOk (a8p N) (a7G N) N (b4L N) []from trivial)) (fun s=>b1y x.1 x.2.1 s.1) k hk
  (fun self s=>a9i N x.1 x.2.1 (k (.exit 0) (a3S x.1 x.2.1)) (fun a=>self (a,())) s.1) (fun n s=>b9f N x.1 x.2.1 (k (.exit 0) (a3S x.1 x.2.1)) n s.1) (fun _=>rfl) (fun _ _=>rfl)
  (fun I s=>c0T N x.1 x.2.1 (fun j=>k (.exit j)) I s.1) N (x.2.2.1,())
theorem d6t:F7 (a8p N) (a7G N) N (b4L N) 0 b1z:=fun st k hk=>p8 26 a6f a6e _ _ (b4L N) (c7K N) _ st k hk (rfl)
theorem d0A(x:SV [V1])(y:BV []):F5 (a7G N) Tryz.f144 (b4M N) c3k (a8p N) x y=x5 N x.1:=by kernel_rfl
theorem b1A:P7 144 (b4M N):=
 a1X (c7L N) Tryz.func144 rfl Tryz.call144 (b4M N) c3k (fun _ _=>rfl) N (a8p N) (show LoopsOk (a8p N) (a7G N) N (b4L N) [(0,b1z)]from⟨d6t N,trivial⟩) (d0A N)
def L3(_N:Nat)(a:List c8):Option τ23:=some a
abbrev e5p(f:SV [V4]->BV []->Option τ23):AF:={ps:=[V4],bs:=[],rs:=[.fnc 226 [0]],cs:=[.cells [V4]],R:=List c8,out:=fun z=>(((),()),((z,()),())),f:=f}
abbrev z6g:AF:=e5p fun x _=>L3 N x.1
def e0U(_N:Nat):FuncId->Option Tmp->Option AF:=fun f _=>O5 [] f
theorem d7I:I8 (e0U N):=fun _ _ _ h=>o6 h G7
def z6h:Nat->Hint:=fun i=>
 match i with
 |_=>o3
abbrev z6E:Env:=S9 z6h (e0U N) (fun _=>false) (fun i=>match i with|226=>true|_=>false)
theorem d7J:P7 183 (z6g N):=
 a1W (z6E N) (y6 z6h (e0U N) _ _ (d7I N)) Tryz.func183 rfl Tryz.call183 (z6g N) (fun _ y=>y.1.1) (fun _ _=>rfl) N (fun _ _=>by kernel_rfl) rfl
def S2(_N:Nat)(a:List c8):Option (List c8×List c8):=f5 (I4 a) fun b=>some b
abbrev e2v:=P4 [.fnc 226 [0]] [.cells [V4]] [.row 1] [.cells [V4],.row 9 .str true] (List c8×List c8) fun z=>(((),()),((z.1,()),z.2,()))
abbrev e0m:AF:=e2v fun _ y=>S2 N y.1.1
theorem d2a:P7 224 (e0m N):=
 V5 h0 [(260,a7k fun _ y=>I4 y.1.1)] (v8 (a0n) G7) Tryz.func224 rfl Tryz.call224 (e0m N) (fun _ y=>(y.1.1,y.2.1)) (fun _ _=>rfl) N (fun _ _=>by kernel_rfl) rfl
end
end Go.Proofs.YtolpmfhiegpohaaGreatDoor
