/- What functions of the program compute, as plain functions (printed). -/
import Derived.Test.YtolpmfhiegpohaaGreatDoorQPaF21
namespace Go.Proofs.YtolpmfhiegpohaaGreatDoor
open Go Go.RowKit
set_option maxRecDepth 100000
set_option linter.unusedVariables false
noncomputable section
variable(N:Nat)
def e56(_N:Nat)(d9:ρ20)(e:List GExpr)(g:Int)(k0:ρ22)(self:ρ19)(c b:Int):Option Int:=br (decide (b<g)) (f5 (l6 e b) fun a=>f5 (d9 (GExpr.mk a.kind a.text a.number a.keys a.kids)) fun l=>self (IntKind.i64.wrap (c+l)) (IntKind.i64.wrap (b+1))) (k0 c)
def e9t(N:Nat)(d9:ρ20)(a:List GExpr)(b:Int)(k0:ρ22):Nat->Int->Int->Option Int|0,_,_=>none|n+1,c,e=>e56 N d9 a b k0 (e9t N d9 a b k0 n) c e
def a2x(d9:ρ20)(a:GExpr):Option Int:=e9t N d9 a.kids (a.kids.length:Int) (fun b=>some b) N 1 0
abbrev e3F:=P4 [.v τ5] [] [V0] [] (Int) fun z=>((z,()),())
abbrev d7V(d9:ρ20):AF:=e3F fun x _=>a2x N d9 x.1
abbrev f3h:SV [V0]->BV []->Int:=fun x _=>x.1
def f3f(_N:Nat)(d9:ρ20):FuncId->Option Tmp->Option AF:=fun f _=>O5 [(85,e3M fun x _=>d9 x.1)] f
theorem f3g(d9:ρ20)(a2w:Sound Tryz.prog GW B7 85 (e3M fun x y=>d9 x.1)):∀f q F,f3f N d9 f q=some F->Sound Tryz.prog GW B7 f F:=fun _ _ _ h=>o6 h (v8 (a2w) G7)
def f0e:Nat->Hint:=fun i=>
 match i with
 |0=>⟨[],[3,7,8,9],[],[3],[],[]⟩
 |_=>o3
abbrev e8y(d9:ρ20):Env:=S9 f0e (f3f N d9) (fun _=>false) (fun _=>false) |>.jk (fun _=>none)
abbrev f0d(d9:ρ20):=A8 (e8y N d9) Tryz.f85 (d7V N d9) f3h
noncomputable abbrev e80:Code:=V7 (m9 Tryz.f85) [true,true,false,true,false,false]
abbrev e6U:List (Nat×Sl):=[(3,V0),(7,.v (.sl τ5)),(8,V0),(9,V0)]
abbrev e6T:List (Nat×Sb):=[]
def e8k(a:List GExpr)(b c e:Int):St:=⟨19,[(3,.v τ2 c),(7,.v (.sl τ5) a),(8,.v τ2 b),(9,.v τ2 e)],[]⟩
def e5P(_b:List GExpr)(_c a:Int):St:=⟨19,[(3,.v τ2 a)],[]⟩
def f4o(d9:ρ20)(a:List GExpr)(b c e:Int)(k:Ex->St->Option Int):Option Int:=e9t N d9 a b (fun g=>k (.exit 0) (e5P a b g)) N c e
abbrev f04(d9:ρ20):FV e6U->HV e6T->(Ex->St->Option Int)->Option Int:=fun x _ k=>f4o N d9 x.2.1 x.2.2.1 x.1 x.2.2.2.1 k
def e8l(d9:ρ20):Nat->Code->St->(Ex->St->Option Int)->Option Int:=fun i c=>
 match i with
 |0=>(LPc 19 e6U e6T (f04 N d9) (fun st k=>iter (f0e 0) (V4 (e8y N d9) N c 0) N st k))
 |i=>fun st k=>iter (f0e i) (V4 (e8y N d9) N c i) N st k
theorem f0c(d9:ρ20)(a:List GExpr)(b:Int)(KX:Nat->St->Option Int)(I:St->Option Int)(c e:Int):
  a0b (e8l N d9) (e8y N d9) e80 0 (e8k a b c e) (p6 (f0e 0) I KX (f0d N d9))=e56 N d9 a b (fun g=>KX 0 (e5P a b g)) (fun c e=>I (e8k a b c e)) c e:=by kernel_rfl
theorem f3e(d9:ρ20):∀x y k,(∀st,k .ret st=(f0d N d9) st)->iter (f0e 0) (V4 (e8y N d9) N e80 0) N ⟨19,Y7 e6U x,Y8 e6T y⟩ k=f04 N d9 x y k:=fun x _ k hk=>
 j9 (S:=(Int)×(Int)×Unit) (f0e 0) _ (a0b (e8l N d9) (e8y N d9) e80 0) (f0d N d9) (k9 _ _ N _ e80 0 (show LoopsOk (e8l N d9) (e8y N d9) N (f0d N d9) []from trivial)) (fun s=>e8k x.2.1 x.2.2.1 s.1 s.2.1) k hk
  (fun self s=>e56 N d9 x.2.1 x.2.2.1 (fun a=>k (.exit 0) (e5P x.2.1 x.2.2.1 a)) (fun b c=>self (b,c,())) s.1 s.2.1) (fun n s=>e9t N d9 x.2.1 x.2.2.1 (fun a=>k (.exit 0) (e5P x.2.1 x.2.2.1 a)) n s.1 s.2.1) (fun _=>rfl) (fun _ _=>rfl)
  (fun I s=>f0c N d9 x.2.1 x.2.2.1 (fun j=>k (.exit j)) I s.1 s.2.1) N (x.1,x.2.2.2.1,())
theorem f5p(d9:ρ20):F7 (e8l N d9) (e8y N d9) N (f0d N d9) 0 e80:=fun st k hk=>p8 19 e6U e6T _ _ (f0d N d9) (f3e N d9) _ st k hk (rfl)
theorem f4p(d9:ρ20)(x:SV [.v τ5])(y:BV []):F5 (e8y N d9) Tryz.f85 (d7V N d9) f3h (e8l N d9) x y=a2x N d9 x.1:=by kernel_rfl
theorem c1S(d9:ρ20)(a2w:Sound Tryz.prog GW B7 85 (e3M fun x y=>d9 x.1)):Sound Tryz.prog GW B7 85 (d7V N d9):=
 a2A (EnvOk.jk (y6 f0e (f3f N d9) _ _ (f3g N d9 a2w)) _) Tryz.func85 rfl Tryz.call85 (d7V N d9) f3h (fun _ _=>rfl) N (e8l N d9) (show LoopsOk (e8l N d9) (e8y N d9) N (f0d N d9) [(0,e80)]from⟨f5p N d9,trivial⟩) (f4p N d9)
def Q3(N:Nat):Nat->GExpr->Option (Int)|0=>fun _=>none|d+1=>a2x N (Q3 N d)
theorem d42(N:Nat):∀d,Sound Tryz.prog GW B7 85 (e3M fun x y=>Q3 N d x.1)
 |0=>Sound.never Tryz.call85 (fun _ _=>rfl)
 |d+1=>c1S N (Q3 N d) (d42 N d)
abbrev e3H:=P4 [.v τ6] [] [V0] [] (Int) fun z=>((z,()),())
def e54(f4:ρ16)(e:List (c8×GExpr))(g:Int)(k2:ρ22)(self:ρ19)(c b:Int):Option Int:=br (decide (b<g)) (f5 (l6 e b) fun a=>f5 (Q3 N N (GExpr.mk a.2.kind a.2.text a.2.number a.2.keys a.2.kids)) fun l=>self (IntKind.i64.wrap (c+l)) (IntKind.i64.wrap (b+1))) (k2 c)
def e8U(N:Nat)(f4:ρ16)(a:List (c8×GExpr))(b:Int)(k2:ρ22):Nat->Int->Int->Option Int|0,_,_=>none|n+1,c,e=>e54 N f4 a b k2 (e8U N f4 a b k2 n) c e
def b6c(f4:ρ16)(g:List GStmt)(l:Int)(k0:ρ22)(self:ρ19)(c b:Int):Option Int:=br (decide (b<l)) (f5 (l6 g b) fun a=>f5 (F9 N (GStmt.mk a.kind a.name a.text a.params a.args (GExpr.mk a.expr.kind a.expr.text a.expr.number a.expr.keys a.expr.kids) a.body a.els a.at_)) fun m=>br (m.2.2.2.2.1) (f5 (Q3 N N (GExpr.mk a.expr.kind a.expr.text a.expr.number a.expr.keys a.expr.kids)) fun o=>e8U N f4 a.args (a.args.length:Int) (fun e=>f5 (f4 a.body) fun p=>f5 (f4 a.els) fun q=>self (IntKind.i64.wrap (e+(IntKind.i64.wrap (p+q)))) (IntKind.i64.wrap (b+1))) N (IntKind.i64.wrap ((IntKind.i64.wrap (c+1))+o)) 0) (e8U N f4 a.args (a.args.length:Int) (fun e=>f5 (f4 a.body) fun r=>f5 (f4 a.els) fun t=>self (IntKind.i64.wrap (e+(IntKind.i64.wrap (r+t)))) (IntKind.i64.wrap (b+1))) N (IntKind.i64.wrap (c+1)) 0)) (k0 c)
def b6b(N:Nat)(f4:ρ16)(a:List GStmt)(b:Int)(k0:ρ22):Nat->Int->Int->Option Int|0,_,_=>none|n+1,c,e=>b6c N f4 a b k0 (b6b N f4 a b k0 n) c e
def a1U(f4:ρ16)(a:List GStmt):Option Int:=b6b N f4 a (a.length:Int) (fun b=>some b) N 0 0
abbrev e3x:=P4 [.v τ6] [] [V0] [] (Int) fun z=>((z,()),())
abbrev d4C(f4:ρ16):AF:=e3x fun x _=>a1U N f4 x.1
abbrev d8Q:SV [V0]->BV []->Int:=fun x _=>x.1
def d4A(f4:ρ16):FuncId->Option Tmp->Option AF:=fun f _=>O5 [(49,e3H fun x _=>f4 x.1),(84,d47 N),(85,e3M fun x _=>Q3 N N x.1)] f
theorem d4B(f4:ρ16)(a1O:Sound Tryz.prog GW B7 49 (e3H fun x y=>f4 x.1)):∀f q F,d4A N f4 f q=some F->Sound Tryz.prog GW B7 f F:=fun _ _ _ h=>o6 h (v8 (a1O) (v8 (d49 N) (v8 (d42 N N) G7)))
def c4z:Nat->Hint:=fun i=>
 match i with
 |0=>⟨[],[3,8,9,10],[],[3],[],[]⟩
 |2=>⟨[],[3,5,8,9,10,25,26,27],[1005],[3,5,8,9,10],[1005],[]⟩
 |_=>o3
abbrev b6a(f4:ρ16):Env:=S9 c4z (d4A N f4) (fun _=>false) (fun _=>false) |>.jk (fun _=>none)
abbrev c4y(f4:ρ16):=A8 (b6a N f4) Tryz.f49 (d4C N f4) d8Q
noncomputable abbrev e8V:Code:=V7 (m9 Tryz.f49) [true,true,false,true,false,false]
noncomputable abbrev S8:Code:=V7 (m9 Tryz.f49) [true,true,false,true,false,false,true,true,false,false,true,true,true,false,true,false,false]
abbrev e6M:List (Nat×Sl):=[(3,V0),(5,.box 1005 0),(8,.v τ6),(9,V0),(10,V0),(25,.v (.sl V6)),(26,V0),(27,V0)]
abbrev e6L:List (Nat×Sb):=[(1005,.cells [V0,V1,V1,.v τ11,.v (.sl V6),V0,V1,V0,.v τ11,.v (.sl τ5),.v τ6,.v τ6,V0])]
def e8b(a:List GStmt)(b c:Int)(e:List (c8×GExpr))(g l:Int)(m o:c8)(p:List c8)(q:List (c8×GExpr))(r:Int)(t:c8)(u:Int)(w:List c8)(B:List GExpr)(C D:List GStmt)(E H J:Int):St:=⟨48,[(3,.v τ2 H),(5,.box 1005 0),(8,.v τ6 a),(9,.v τ2 b),(10,.v τ2 c),(25,.v (.sl V6) e),(26,.v τ2 g),(27,.v τ2 J)],[(1005,.cells [.v τ2 l,.v .str m,.v .str o,.v τ11 p,.v (.sl V6) q,.v τ2 r,.v .str t,.v τ2 u,.v τ11 w,.v (.sl τ5) B,.v τ6 C,.v τ6 D,.v τ2 E])]⟩
def e5M(a:List GStmt)(b c:Int)(_E:List (c8×GExpr))(_H e:Int)(g l:c8)(m:List c8)(o:List (c8×GExpr))(p:Int)(q:c8)(r:Int)(t:List c8)(u:List GExpr)(w B:List GStmt)(C D:Int):St:=⟨48,[(3,.v τ2 D),(5,.box 1005 0),(8,.v τ6 a),(9,.v τ2 b),(10,.v τ2 c)],[(1005,.cells [.v τ2 e,.v .str g,.v .str l,.v τ11 m,.v (.sl V6) o,.v τ2 p,.v .str q,.v τ2 r,.v τ11 t,.v (.sl τ5) u,.v τ6 w,.v τ6 B,.v τ2 C])]⟩
def f4e(f4:ρ16)(c:List GStmt)(e g:Int)(a:List (c8×GExpr))(b l:Int)(m o:c8)(p:List c8)(q:List (c8×GExpr))(r:Int)(t:c8)(u:Int)(v:List c8)(w:List GExpr)(B C:List GStmt)(D E H:Int)(k:Ex->St->Option Int):Option Int:=e8U N f4 a b (fun J=>k (.exit 2) (e5M c e g a b l m o p q r t u v w B C D J)) N E H
abbrev f0Z(f4:ρ16):FV e6M->HV e6L->(Ex->St->Option Int)->Option Int:=fun x y k=>f4e N f4 x.2.2.1 x.2.2.2.1 x.2.2.2.2.1 x.2.2.2.2.2.1 x.2.2.2.2.2.2.1 y.1.1 y.1.2.1 y.1.2.2.1 y.1.2.2.2.1 y.1.2.2.2.2.1 y.1.2.2.2.2.2.1 y.1.2.2.2.2.2.2.1 y.1.2.2.2.2.2.2.2.1 y.1.2.2.2.2.2.2.2.2.1 y.1.2.2.2.2.2.2.2.2.2.1 y.1.2.2.2.2.2.2.2.2.2.2.1 y.1.2.2.2.2.2.2.2.2.2.2.2.1 y.1.2.2.2.2.2.2.2.2.2.2.2.2.1 x.1 x.2.2.2.2.2.2.2.1 k
abbrev b0i:List (Nat×Sl):=[(3,V0),(8,.v τ6),(9,V0),(10,V0)]
abbrev b0h:List (Nat×Sb):=[]
def b6d(a:List GStmt)(b c e:Int):St:=⟨48,[(3,.v τ2 c),(8,.v τ6 a),(9,.v τ2 b),(10,.v τ2 e)],[]⟩
def a68(_b:List GStmt)(_c a:Int):St:=⟨48,[(3,.v τ2 a)],[]⟩
def d7K(f4:ρ16)(a:List GStmt)(b c e:Int)(k:Ex->St->Option Int):Option Int:=b6b N f4 a b (fun g=>k (.exit 0) (a68 a b g)) N c e
abbrev c6s(f4:ρ16):FV b0i->HV b0h->(Ex->St->Option Int)->Option Int:=fun x _ k=>d7K N f4 x.2.1 x.2.2.1 x.1 x.2.2.2.1 k
def b6e(f4:ρ16):Nat->Code->St->(Ex->St->Option Int)->Option Int:=fun i c=>
 match i with
 |0=>(LPc 48 b0i b0h (c6s N f4) (fun st k=>iter (c4z 0) (V4 (b6a N f4) N c 0) N st k))
 |2=>(LPc 48 e6M e6L (f0Z N f4) (fun st k=>iter (c4z 2) (V4 (b6a N f4) N c 2) N st k))
 |i=>fun st k=>iter (c4z i) (V4 (b6a N f4) N c i) N st k
theorem e94(f4:ρ16)(g:List GStmt)(l m:Int)(a:List (c8×GExpr))(b o:Int)(p q:c8)(r:List c8)(t:List (c8×GExpr))(u:Int)(v:c8)(w:Int)(B:List c8)(C:List GExpr)(D E:List GStmt)(H:Int)(KX:Nat->St->Option Int)(I:St->Option Int)(c e:Int):
  a0b (b6e N f4) (b6a N f4) S8 2 (e8b g l m a b o p q r t u v w B C D E H c e) (p6 (c4z 2) I KX (c4y N f4))=e54 N f4 a b (fun J=>KX 2 (e5M g l m a b o p q r t u v w B C D E H J)) (fun c e=>I (e8b g l m a b o p q r t u v w B C D E H c e)) c e:=by kernel_rfl
theorem f2P(f4:ρ16):∀x y k,(∀st,k .ret st=(c4y N f4) st)->iter (c4z 2) (V4 (b6a N f4) N S8 2) N ⟨48,Y7 e6M x,Y8 e6L y⟩ k=f0Z N f4 x y k:=fun x y k hk=>
 j9 (S:=(Int)×(Int)×Unit) (c4z 2) _ (a0b (b6e N f4) (b6a N f4) S8 2) (c4y N f4) (k9 _ _ N _ S8 2 (show LoopsOk (b6e N f4) (b6a N f4) N (c4y N f4) []from trivial)) (fun s=>e8b x.2.2.1 x.2.2.2.1 x.2.2.2.2.1 x.2.2.2.2.2.1 x.2.2.2.2.2.2.1 y.1.1 y.1.2.1 y.1.2.2.1 y.1.2.2.2.1 y.1.2.2.2.2.1 y.1.2.2.2.2.2.1 y.1.2.2.2.2.2.2.1 y.1.2.2.2.2.2.2.2.1 y.1.2.2.2.2.2.2.2.2.1 y.1.2.2.2.2.2.2.2.2.2.1 y.1.2.2.2.2.2.2.2.2.2.2.1 y.1.2.2.2.2.2.2.2.2.2.2.2.1 y.1.2.2.2.2.2.2.2.2.2.2.2.2.1 s.1 s.2.1) k hk
  (fun self s=>e54 N f4 x.2.2.2.2.2.1 x.2.2.2.2.2.2.1 (fun a=>k (.exit 2) (e5M x.2.2.1 x.2.2.2.1 x.2.2.2.2.1 x.2.2.2.2.2.1 x.2.2.2.2.2.2.1 y.1.1 y.1.2.1 y.1.2.2.1 y.1.2.2.2.1 y.1.2.2.2.2.1 y.1.2.2.2.2.2.1 y.1.2.2.2.2.2.2.1 y.1.2.2.2.2.2.2.2.1 y.1.2.2.2.2.2.2.2.2.1 y.1.2.2.2.2.2.2.2.2.2.1 y.1.2.2.2.2.2.2.2.2.2.2.1 y.1.2.2.2.2.2.2.2.2.2.2.2.1 y.1.2.2.2.2.2.2.2.2.2.2.2.2.1 a)) (fun b c=>self (b,c,())) s.1 s.2.1) (fun n s=>e8U N f4 x.2.2.2.2.2.1 x.2.2.2.2.2.2.1 (fun a=>k (.exit 2) (e5M x.2.2.1 x.2.2.2.1 x.2.2.2.2.1 x.2.2.2.2.2.1 x.2.2.2.2.2.2.1 y.1.1 y.1.2.1 y.1.2.2.1 y.1.2.2.2.1 y.1.2.2.2.2.1 y.1.2.2.2.2.2.1 y.1.2.2.2.2.2.2.1 y.1.2.2.2.2.2.2.2.1 y.1.2.2.2.2.2.2.2.2.1 y.1.2.2.2.2.2.2.2.2.2.1 y.1.2.2.2.2.2.2.2.2.2.2.1 y.1.2.2.2.2.2.2.2.2.2.2.2.1 y.1.2.2.2.2.2.2.2.2.2.2.2.2.1 a)) n s.1 s.2.1) (fun _=>rfl) (fun _ _=>rfl)
  (fun I s=>e94 N f4 x.2.2.1 x.2.2.2.1 x.2.2.2.2.1 x.2.2.2.2.2.1 x.2.2.2.2.2.2.1 y.1.1 y.1.2.1 y.1.2.2.1 y.1.2.2.2.1 y.1.2.2.2.2.1 y.1.2.2.2.2.2.1 y.1.2.2.2.2.2.2.1 y.1.2.2.2.2.2.2.2.1 y.1.2.2.2.2.2.2.2.2.1 y.1.2.2.2.2.2.2.2.2.2.1 y.1.2.2.2.2.2.2.2.2.2.2.1 y.1.2.2.2.2.2.2.2.2.2.2.2.1 y.1.2.2.2.2.2.2.2.2.2.2.2.2.1 (fun j=>k (.exit j)) I s.1 s.2.1) N (x.1,x.2.2.2.2.2.2.2.1,())
theorem f2Q(f4:ρ16):F7 (b6e N f4) (b6a N f4) N (c4y N f4) 2 S8:=fun st k hk=>p8 48 e6M e6L _ _ (c4y N f4) (f2P N f4) _ st k hk (rfl)
theorem c4x(f4:ρ16)(a:List GStmt)(b:Int)(KX:Nat->St->Option Int)(I:St->Option Int)(c e:Int):
  a0b (b6e N f4) (b6a N f4) e8V 0 (b6d a b c e) (p6 (c4z 0) I KX (c4y N f4))=b6c N f4 a b (fun g=>KX 0 (a68 a b g)) (fun c e=>I (b6d a b c e)) c e:=by kernel_rfl
theorem d4z(f4:ρ16):∀x y k,(∀st,k .ret st=(c4y N f4) st)->iter (c4z 0) (V4 (b6a N f4) N e8V 0) N ⟨48,Y7 b0i x,Y8 b0h y⟩ k=c6s N f4 x y k:=fun x _ k hk=>
 j9 (S:=(Int)×(Int)×Unit) (c4z 0) _ (a0b (b6e N f4) (b6a N f4) e8V 0) (c4y N f4) (k9 _ _ N _ e8V 0 (show LoopsOk (b6e N f4) (b6a N f4) N (c4y N f4) [(2,S8)]from⟨f2Q N f4,trivial⟩)) (fun s=>b6d x.2.1 x.2.2.1 s.1 s.2.1) k hk
  (fun self s=>b6c N f4 x.2.1 x.2.2.1 (fun a=>k (.exit 0) (a68 x.2.1 x.2.2.1 a)) (fun b c=>self (b,c,())) s.1 s.2.1) (fun n s=>b6b N f4 x.2.1 x.2.2.1 (fun a=>k (.exit 0) (a68 x.2.1 x.2.2.1 a)) n s.1 s.2.1) (fun _=>rfl) (fun _ _=>rfl)
  (fun I s=>c4x N f4 x.2.1 x.2.2.1 (fun j=>k (.exit j)) I s.1 s.2.1) N (x.1,x.2.2.2.1,())
theorem e0Z(f4:ρ16):F7 (b6e N f4) (b6a N f4) N (c4y N f4) 0 e8V:=fun st k hk=>p8 48 b0i b0h _ _ (c4y N f4) (d4z N f4) _ st k hk (rfl)
theorem d7L(f4:ρ16)(x:SV [.v τ6])(y:BV []):F5 (b6a N f4) Tryz.f49 (d4C N f4) d8Q (b6e N f4) x y=a1U N f4 x.1:=by kernel_rfl
theorem d4F(f4:ρ16)(a1O:Sound Tryz.prog GW B7 49 (e3H fun x y=>f4 x.1)):Sound Tryz.prog GW B7 49 (d4C N f4):=
 a2A (EnvOk.jk (y6 c4z (d4A N f4) _ _ (d4B N f4 a1O)) _) Tryz.func49 rfl Tryz.call49 (d4C N f4) d8Q (fun _ _=>rfl) N (b6e N f4) (show LoopsOk (b6e N f4) (b6a N f4) N (c4y N f4) [(0,e8V),(2,S8)]from⟨e0Z N f4,f2Q N f4,trivial⟩) (d7L N f4)
def F8(N:Nat):Nat->(List GStmt)->Option (Int)|0=>fun _=>none|d+1=>a1U N (F8 N d)
theorem a0w(N:Nat):∀d,Sound Tryz.prog GW B7 49 (e3H fun x y=>F8 N d x.1)
 |0=>Sound.never Tryz.call49 (fun _ _=>rfl)
 |d+1=>d4F N (F8 N d) (a0w N d)
def e55(_N:Nat)(e:List (c8×GExpr))(g:Int)(k0:τ17->Option τ17)(self:Int->τ17->Option τ17)(a:Int)(b:List c8):Option τ17:=br (decide (a<g)) (f5 (l6 e a) fun c=>br (decide ((b.length + [c.1].length)*(24*Ty.sz .str)<=140737488355328)) (self (IntKind.i64.wrap (a+1)) (b ++ [c.1])) none) (k0 b)
def e9s(N:Nat)(a:List (c8×GExpr))(b:Int)(k0:τ17->Option τ17):Nat->Int->τ17->Option τ17|0,_,_=>none|n+1,c,e=>e55 N a b k0 (e9s N a b k0 n) c e
def Q2(a:GStmt):Option τ17:=e9s N a.args (a.args.length:Int) (fun b=>some b) N 0 []
abbrev c1P(f:SV [.v τ16]->BV []->Option τ17):AF:={ps:=[.v τ16],bs:=[],rs:=[.row 0],cs:=[.row 9 .str false],R:=List c8,out:=fun z=>(((),()),(z,())),f:=f}
abbrev f2U:AF:=c1P fun x _=>Q2 N x.1
abbrev f2V:SV [.row 0]->BV [.row 9 .str false]->τ17:=fun _ y=>y.1
def f2S(_N:Nat):FuncId->Option Tmp->Option AF:=fun f _=>O5 [] f
theorem f2T:I8 (f2S N):=fun _ _ _ h=>o6 h G7
def e97:Nat->Hint:=fun i=>
 match i with
 |0=>⟨[],[3,7,8,9],[1003],[3],[1003],[]⟩
 |_=>o3
abbrev e8v:Env:=S9 e97 (f2S N) FF FF |>.jk (fun _=>none)
noncomputable abbrev e8W:Code:=V7 (m9 Tryz.f140) [true,true,false,true,false,false]
abbrev e96:=A8 (e8v N) Tryz.f140 (f2U N) f2V
abbrev e6O:List (Nat×Sl):=[(3,.row 1003),(7,.v (.sl V6)),(8,V0),(9,V0)]
abbrev e6N:List (Nat×Sb):=[(1003,.row 9 .str false)]
def e8c(a:List (c8×GExpr))(b c:Int)(e:List c8):St:=⟨20,[(3,.row 1003),(7,.v (.sl V6) a),(8,.v τ2 b),(9,.v τ2 c)],[(1003,.row 9 .str false e)]⟩
def e5N(_b:List (c8×GExpr))(_c:Int)(a:List c8):St:=⟨20,[(3,.row 1003)],[(1003,.row 9 .str false a)]⟩
def f4f(a:List (c8×GExpr))(b c:Int)(e:List c8)(k:Ex->St->Option τ17):Option τ17:=e9s N a b (fun g=>k (.exit 0) (e5N a b g)) N c e
abbrev f00:FV e6O->HV e6N->(Ex->St->Option τ17)->Option τ17:=fun x y k=>f4f N x.2.1 x.2.2.1 x.2.2.2.1 y.1 k
def e8d:Nat->Code->St->(Ex->St->Option τ17)->Option τ17:=fun i c=>
 match i with
 |0=>(LPc 20 e6O e6N (f00 N) (fun st k=>iter (e97 0) (V4 (e8v N) N c 0) N st k))
 |i=>fun st k=>iter (e97 i) (V4 (e8v N) N c i) N st k
theorem e95(a:List (c8×GExpr))(b:Int)(KX:Nat->St->Option τ17)(I:St->Option τ17)(c:Int)(e:List c8):
  a0b (e8d N) (e8v N) e8W 0 (e8c a b c e) (p6 (e97 0) I KX (e96 N))=e55 N a b (fun g=>KX 0 (e5N a b g)) (fun c e=>I (e8c a b c e)) c e:=by kernel_rfl
theorem f2R:∀x y k,(∀st,k .ret st=(e96 N) st)->iter (e97 0) (V4 (e8v N) N e8W 0) N ⟨20,Y7 e6O x,Y8 e6N y⟩ k=f00 N x y k:=fun x y k hk=>
 j9 (S:=(Int)×τ17×Unit) (e97 0) _ (a0b (e8d N) (e8v N) e8W 0) (e96 N) (k9 _ _ N _ e8W 0 (show LoopsOk (e8d N) (e8v N) N (e96 N) []from trivial)) (fun s=>e8c x.2.1 x.2.2.1 s.1 s.2.1) k hk
  (fun self s=>e55 N x.2.1 x.2.2.1 (fun a=>k (.exit 0) (e5N x.2.1 x.2.2.1 a)) (fun b c=>self (b,c,())) s.1 s.2.1) (fun n s=>e9s N x.2.1 x.2.2.1 (fun a=>k (.exit 0) (e5N x.2.1 x.2.2.1 a)) n s.1 s.2.1) (fun _=>rfl) (fun _ _=>rfl)
  (fun I s=>e95 N x.2.1 x.2.2.1 (fun j=>k (.exit j)) I s.1 s.2.1) N (x.2.2.2.1,y.1,())
theorem f5l:F7 (e8d N) (e8v N) N (e96 N) 0 e8W:=fun st k hk=>p8 20 e6O e6N _ _ (e96 N) (f2R N) _ st k hk (rfl)
theorem f4g(x:SV [.v τ16])(y:BV []):F5 (e8v N) Tryz.f140 (f2U N) f2V (e8d N) x y=Q2 N x.1:=by kernel_rfl
theorem c1Q:P7 140 (f2U N):=
 a2A (EnvOk.jk (y6 e97 (f2S N) _ _ (f2T N)) _) Tryz.func140 rfl Tryz.call140 (f2U N) f2V (fun _ _=>rfl) N (e8d N) (show LoopsOk (e8d N) (e8v N) N (e96 N) [(0,e8W)]from⟨f5l N,trivial⟩) (f4g N)
def G8(a:c8):Option Bool:=f5 (A9 N a) fun b=>some (!b)
abbrev b8i:=P4 [V1] [] [.v .bool] [] (Bool) fun z=>((z,()),())
abbrev f3M:AF:=b8i fun x _=>G8 N x.1
theorem c1C:P7 141 (f3M N):=
 V5 h0 [(135,d4W N)] (v8 (d4Y N) G7) Tryz.func141 rfl Tryz.call141 (f3M N) (fun x _=>x.1) (fun _ _=>rfl) N (fun _ _=>by kernel_rfl) rfl
def c1E(b:List c8)(c:Int)(k0:Option Int)(self:ρ22)(a:Int):Option Int:=br (decide (a<c)) (f5 (l6 b a) fun e=>f5 (G8 N e) fun g=>br (g) (some a) (self (IntKind.i64.wrap (a+1)))) (k0)
def d2C(N:Nat)(a:List c8)(b:Int)(k0:Option Int):Nat->Int->Option Int|0,_=>none|n+1,c=>c1E N a b k0 (d2C N a b k0 n) c
def D2(a:List c8)(_b:Unit):Option Int:=d2C N a (a.length:Int) (some (-1:Int)) N 0
abbrev e5a:=P4 [.v τ11,.v (.clo 141 .un)] [] [V0] [] (Int) fun z=>((z,()),())
abbrev z3g:AF:=e5a fun x _=>D2 N x.1 x.2.1
abbrev e0A:SV [V0]->BV []->Int:=fun x _=>x.1
def e2N:FuncId->Option Tmp->Option AF:=fun f _=>O5 [(141,f3M N)] f
theorem d66:I8 (e2N N):=fun _ _ _ h=>o6 h (v8 (c1C N) G7)
def z3h:Nat->Hint:=fun i=>
 match i with
 |0=>⟨[],[0,1,7,8],[],[],[],[]⟩
 |_=>o3
abbrev z3E:Env:=S9 z3h (e2N N) FF FF
noncomputable abbrev b2X:Code:=V7 (m9 Tryz.f181) [true,false,true,false,false]
abbrev z3R:=A8 (z3E N) Tryz.f181 (z3g N) e0A
abbrev b3d:List (Nat×Sl):=[(0,.v τ11),(1,.v (.clo 141 .un)),(7,V0),(8,V0)]
abbrev b3c:List (Nat×Sb):=[]
def b9i(a:List c8)(b:Unit)(c e:Int):St:=⟨19,[(0,.v τ11 a),(1,.v (.clo 141 .un) b),(7,.v τ2 c),(8,.v τ2 e)],[]⟩
def a9J(_a:List c8)(_b:Unit)(_c:Int):St:=⟨19,[],[]⟩
def e0x(a:List c8)(c:Unit)(b e:Int)(k:Ex->St->Option Int):Option Int:=d2C N a b (k (.exit 0) (a9J a c b)) N e
abbrev d2D:FV b3d->HV b3c->(Ex->St->Option Int)->Option Int:=fun x _ k=>e0x N x.1 x.2.1 x.2.2.1 x.2.2.2.1 k
def c3Y:Nat->Code->St->(Ex->St->Option Int)->Option Int:=fun i c=>
 match i with
 |0=>(LPc 19 b3d b3c (d2D N) (fun st k=>iter (z3h 0) (V4 (z3E N) N c 0) N st k))
 |i=>fun st k=>iter (z3h i) (V4 (z3E N) N c i) N st k
theorem c8y(a:List c8)(e:Unit)(b:Int)(KX:Nat->St->Option Int)(I:St->Option Int)(c:Int):
  a0b (c3Y N) (z3E N) b2X 0 (b9i a e b c) (p6 (z3h 0) I KX (z3R N))=c1E N a b (KX 0 (a9J a e b)) (fun c=>I (b9i a e b c)) c:=by kernel_rfl
theorem d65:∀x y k,(∀st,k .ret st=(z3R N) st)->iter (z3h 0) (V4 (z3E N) N b2X 0) N ⟨19,Y7 b3d x,Y8 b3c y⟩ k=d2D N x y k:=fun x _ k hk=>
 j9 (S:=(Int)×Unit) (z3h 0) _ (a0b (c3Y N) (z3E N) b2X 0) (z3R N) (k9 _ _ N _ b2X 0 (show LoopsOk (c3Y N) (z3E N) N (z3R N) []from trivial)) (fun s=>b9i x.1 x.2.1 x.2.2.1 s.1) k hk
  (fun self s=>c1E N x.1 x.2.2.1 (k (.exit 0) (a9J x.1 x.2.1 x.2.2.1)) (fun a=>self (a,())) s.1) (fun n s=>d2C N x.1 x.2.2.1 (k (.exit 0) (a9J x.1 x.2.1 x.2.2.1)) n s.1) (fun _=>rfl) (fun _ _=>rfl)
  (fun I s=>c8y N x.1 x.2.1 x.2.2.1 (fun j=>k (.exit j)) I s.1) N (x.2.2.2.1,())
theorem e2P:F7 (c3Y N) (z3E N) N (z3R N) 0 b2X:=fun st k hk=>p8 19 b3d b3c _ _ (z3R N) (d65 N) _ st k hk (rfl)
theorem e0z(x:SV [.v τ11,.v (.clo 141 .un)])(y:BV []):F5 (z3E N) Tryz.f181 (z3g N) e0A (c3Y N) x y=D2 N x.1 x.2.1:=by kernel_rfl
theorem d67:P7 181 (z3g N):=
 a1X (d66 N) Tryz.func181 rfl Tryz.call181 (z3g N) e0A (fun _ _=>rfl) N (c3Y N) (show LoopsOk (c3Y N) (z3E N) N (z3R N) [(0,b2X)]from⟨e2P N,trivial⟩) (e0z N)
def k8(a:List c8)(b:Unit):Option Bool:=f5 (D2 N a b) fun c=>some (decide (c>=0))
abbrev e40:=P4 [.v τ11,.v (.clo 141 .un)] [] [.v .bool] [] (Bool) fun z=>((z,()),())
abbrev z1g:AF:=e40 fun x _=>k8 N x.1 x.2.1
theorem d6O:P7 142 (z1g N):=
 V5 h0 [(181,z3g N)] (v8 (d67 N) G7) Tryz.func142 rfl Tryz.call142 (z1g N) (fun x _=>x.1) (fun _ _=>rfl) N (fun _ _=>by kernel_rfl) rfl
def I7(_N:Nat)(a:GExpr):Option Bool:=f5 (br (a.kind==0) (br (a.text==[]) (br (a.number==0) (br ((a.keys.length:Int)==0) (some ((a.kids.length:Int)==0)) (some false)) (some false)) (some false)) (some false)) fun b=>some b
abbrev e3E:=P4 [.v τ5] [] [.v .bool] [] (Bool) fun z=>((z,()),())
abbrev c4H:AF:=e3E fun x _=>I7 N x.1
def f3c(_N:Nat):FuncId->Option Tmp->Option AF:=fun f _=>O5 [] f
theorem f3d:I8 (f3c N):=fun _ _ _ h=>o6 h G7
def f5Y:Nat->Hint:=fun i=>
 match i with
 |_=>o3
abbrev f6t:Env:=S9 f5Y (f3c N) FF FF |>.jk (fun i=>match i with|1=>some 2|_=>none)
theorem a5x:P7 143 (c4H N):=
 a1W (f6t N) (EnvOk.jk (y6 f5Y (f3c N) _ _ (f3d N)) _) Tryz.func143 rfl Tryz.call143 (c4H N) (fun x _=>x.1) (fun _ _=>rfl) N (fun _ _=>by kernel_rfl) rfl
def e8h(_N:Nat)(b:c8)(c:Int)(k0:Option Bool)(self:ρ21)(a:Int):Option Bool:=br (decide (a<c)) (f5 (l6 b a) fun e=>br (e !=10) (f5 (l6 b a) fun g=>br (decide (g<32)) (some false) (f5 (l6 b a) fun l=>br (decide (l>126)) (some false) (self (IntKind.i64.wrap (a+1))))) (self (IntKind.i64.wrap (a+1)))) (k0)
def f02(N:Nat)(a:c8)(b:Int)(k0:Option Bool):Nat->Int->Option Bool|0,_=>none|n+1,c=>e8h N a b k0 (f02 N a b k0 n) c
def x5(a:c8):Option Bool:=f02 N a (a.length:Int) (some true) N 0
abbrev e3D:=P4 [V1] [] [.v .bool] [] (Bool) fun z=>((z,()),())
abbrev d4Z:AF:=e3D fun x _=>x5 N x.1
abbrev f3b:SV [.v .bool]->BV []->Bool:=fun x _=>x.1
def f4J(_N:Nat):FuncId->Option Tmp->Option AF:=fun f _=>O5 [] f
theorem f3a:I8 (f4J N):=fun _ _ _ h=>o6 h G7
def f1i:Nat->Hint:=fun i=>
 match i with
 |0=>⟨[],[0,5,6],[],[],[],[]⟩
 |_=>o3
abbrev e8x:Env:=S9 f1i (f4J N) FF FF
noncomputable abbrev e8Z:Code:=V7 (m9 Tryz.f144) [true,false,true,false,false]
abbrev f0b:=A8 (e8x N) Tryz.f144 (d4Z N) f3b
abbrev e6S:List (Nat×Sl):=[(0,V1),(5,V0),(6,V0)]
abbrev e6R:List (Nat×Sb):=[]
def e8i(a:c8)(b c:Int):St:=⟨26,[(0,.v .str a),(5,.v τ2 b),(6,.v τ2 c)],[]⟩
def e5O(_a:c8)(_b:Int):St:=⟨26,[],[]⟩
def f4m(a:c8)(b c:Int)(k:Ex->St->Option Bool):Option Bool:=f02 N a b (k (.exit 0) (e5O a b)) N c
abbrev f03:FV e6S->HV e6R->(Ex->St->Option Bool)->Option Bool:=fun x _ k=>f4m N x.1 x.2.1 x.2.2.1 k
def e8j:Nat->Code->St->(Ex->St->Option Bool)->Option Bool:=fun i c=>
 match i with
 |0=>(LPc 26 e6S e6R (f03 N) (fun st k=>iter (f1i 0) (V4 (e8x N) N c 0) N st k))
 |i=>fun st k=>iter (f1i i) (V4 (e8x N) N c i) N st k
theorem f0a(a:c8)(b:Int)(KX:Nat->St->Option Bool)(I:St->Option Bool)(c:Int):
  a0b (e8j N) (e8x N) e8Z 0 (e8i a b c) (p6 (f1i 0) I KX (f0b N))=e8h N a b (KX 0 (e5O a b)) (fun c=>I (e8i a b c)) c:=by kernel_rfl
theorem f2Z:∀x y k,(∀st,k .ret st=(f0b N) st)->iter (f1i 0) (V4 (e8x N) N e8Z 0) N ⟨26,Y7 e6S x,Y8 e6R y⟩ k=f03 N x y k:=fun x _ k hk=>
 j9 (S:=(Int)×Unit) (f1i 0) _ (a0b (e8j N) (e8x N) e8Z 0) (f0b N) (k9 _ _ N _ e8Z 0 (show LoopsOk (e8j N) (e8x N) N (f0b N) []from trivial)) (fun s=>e8i x.1 x.2.1 s.1) k hk
  (fun self s=>e8h N x.1 x.2.1 (k (.exit 0) (e5O x.1 x.2.1)) (fun a=>self (a,())) s.1) (fun n s=>f02 N x.1 x.2.1 (k (.exit 0) (e5O x.1 x.2.1)) n s.1) (fun _=>rfl) (fun _ _=>rfl)
  (fun I s=>f0a N x.1 x.2.1 (fun j=>k (.exit j)) I s.1) N (x.2.2.1,())
theorem f5o:F7 (e8j N) (e8x N) N (f0b N) 0 e8Z:=fun st k hk=>p8 26 e6S e6R _ _ (f0b N) (f2Z N) _ st k hk (rfl)
theorem f4n(x:SV [V1])(y:BV []):F5 (e8x N) Tryz.f144 (d4Z N) f3b (e8j N) x y=x5 N x.1:=by kernel_rfl
theorem b6p:P7 144 (d4Z N):=
 a1X (f3a N) Tryz.func144 rfl Tryz.call144 (d4Z N) f3b (fun _ _=>rfl) N (e8j N) (show LoopsOk (e8j N) (e8x N) N (f0b N) [(0,e8Z)]from⟨f5o N,trivial⟩) (f4n N)
def L3(_N:Nat)(a:List c8):Option τ17:=some a
abbrev e5u(f:SV [.v τ11]->BV []->Option τ17):AF:={ps:=[.v τ11],bs:=[],rs:=[.fnc 226 [0]],cs:=[.cells [.v τ11]],R:=List c8,out:=fun z=>(((),()),((z,()),())),f:=f}
abbrev z8g:AF:=e5u fun x _=>L3 N x.1
def e3J(_N:Nat):FuncId->Option Tmp->Option AF:=fun f _=>O5 [] f
theorem d7Y:I8 (e3J N):=fun _ _ _ h=>o6 h G7
def z8h:Nat->Hint:=fun i=>
 match i with
 |_=>o3
abbrev z8E:Env:=S9 z8h (e3J N) (fun _=>false) (fun i=>match i with|226=>true|_=>false)
theorem c6z:P7 183 (z8g N):=
 a1W (z8E N) (y6 z8h (e3J N) _ _ (d7Y N)) Tryz.func183 rfl Tryz.call183 (z8g N) (fun _ y=>y.1.1) (fun _ _=>rfl) N (fun _ _=>by kernel_rfl) rfl
def S2(_N:Nat)(a:List c8):Option (List c8×List c8):=f5 (I4 a) fun b=>some b
abbrev e2s:=P4 [.fnc 226 [0]] [.cells [.v τ11]] [.row 1] [.cells [.v τ11],.row 9 .str true] (List c8×List c8) fun z=>(((),()),((z.1,()),z.2,()))
abbrev e0k:AF:=e2s fun _ y=>S2 N y.1.1
theorem d15:P7 224 (e0k N):=
 V5 h0 [(260,a7k fun _ y=>I4 y.1.1)] (v8 (a0n) G7) Tryz.func224 rfl Tryz.call224 (e0k N) (fun _ y=>(y.1.1,y.2.1)) (fun _ _=>rfl) N (fun _ _=>by kernel_rfl) rfl
end
end Go.Proofs.YtolpmfhiegpohaaGreatDoor
