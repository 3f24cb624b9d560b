/- % -/
import Derived.Test.YtolpmfhiegpohaaGreatDoorQPaF9
namespace Go.Proofs.YtolpmfhiegpohaaGreatDoor
open Go Go.RowKit
set_option maxRecDepth 100000
set_option linter.unusedVariables false
noncomputable section
variable(N:Nat)
def S6(_N:Nat)(a:GStmt):Option (Bool×Bool×Bool×Bool×Bool×Bool×Bool):=br (a.kind==1) (some (true,false,false,false,true,false,false)) (br (a.kind==2) (some (true,false,false,true,false,false,false)) (br (a.kind==3) (some (true,false,true,false,false,true,false)) (br (a.kind==4) (some (true,false,false,false,true,true,false)) (br (a.kind==5) (some (false,false,false,false,true,true,true)) (some (false,true,false,false,false,false,false))))))
abbrev d5N:=sgM [.v τ17] [] [.v τ26] [] (Bool×Bool×Bool×Bool×Bool×Bool×Bool) fun z=>((z,()),())
abbrev b8J:AF:=d5N fun x _=>S6 N x.1
def c0H(_N:Nat):FuncId->Option Tmp->Option AF:=fun f _=>lkF [] f
theorem c4Y:X8 (c0H N):=fun _ _ _ h=>B9 h T8
def d4i:Nat->Hint:=fun i=>
 match i with
 |_=>y5
abbrev d7y:Env:=mkE d4i (c0H N) FF FF |>.jk (fun _=>none)
theorem a9T:Snd 84 (b8J N):=
 a6K (d7y N) (EnvOk.jk (O3 d4i (c0H N) _ _ (c4Y N)) _) Tryz.func84 rfl Tryz.call84 (b8J N) (fun x _=>x.1) (fun _ _=>rfl) N (fun _ _=>by kernel_rfl) rfl
abbrev b2C:=sgM [.v τ3] [] [V0] [] (Int) fun z=>((z,()),())
def a4a(_N:Nat)(j6:ρ18)(e:List GExpr)(g:Int)(k0:ρ21)(self:Int->Int->Option Int)(c b:Int):Option Int:=br (decide (b<g)) (j8 (m6 e b) fun a=>j8 (j6 (Ze a)) fun l=>self (IntKind.i64.wrap (c+l)) (IntKind.i64.wrap (b+1))) (k0 c)
def b9g(N:Nat)(j6:ρ18)(a:List GExpr)(b:Int)(k0:ρ21):Nat->Int->Int->Option Int|0,_,_=>none|n+1,c,e=>a4a N j6 a b k0 (b9g N j6 a b k0 n) c e
def a0e(j6:ρ18)(a:GExpr):Option Int:=b9g N j6 a.kids (a.kids.length:Int) (fun b=>some b) N 1 0
abbrev d9h:=sgM [.v τ3] [] [V0] [] (Int) fun z=>((z,()),())
abbrev d3U(j6:ρ18):AF:=d9h fun x _=>a0e N j6 x.1
abbrev d1q:SV [V0]->BV []->Int:=fun x _=>x.1
def d1o(_N:Nat)(j6:ρ18):FuncId->Option Tmp->Option AF:=fun f _=>lkF [(85,b2C fun x _=>j6 x.1)] f
theorem d1p(j6:ρ18)(a2W:Sound Tryz.prog GW x9 85 (b2C fun x y=>j6 x.1)):∀f q F,d1o N j6 f q=some F->Sound Tryz.prog GW x9 f F:=fun _ _ _ h=>B9 h (L3 (a2W) T8)
def c1O:Nat->Hint:=fun i=>
 match i with
 |0=>⟨[],[3,7,8,9],[],[3],[],[]⟩
 |_=>y5
abbrev b4s(j6:ρ18):Env:=mkE c1O (d1o N j6) (fun _=>false) (fun _=>false) |>.jk (fun _=>none)
abbrev c1N(j6:ρ18):=L9 (b4s N j6) Tryz.f85 (d3U N j6) d1q
noncomputable abbrev b5K:Code:=cAt (B3 Tryz.f85) [true,true,false,true,false,false]
abbrev a89:List (Nat×Sl):=[(3,V0),(7,.v (.sl τ3)),(8,V0),(9,V0)]
abbrev a88:List (Nat×Sb):=[]
def b31(a:List GExpr)(b c e:Int):St:=⟨19,[(3,.v τ2 c),(7,.v (.sl τ3) a),(8,.v τ2 b),(9,.v τ2 e)],[]⟩
def a6s(_b:List GExpr)(_c a:Int):St:=⟨19,[(3,.v τ2 a)],[]⟩
def d3S(j6:ρ18)(a:List GExpr)(b c e:Int)(k:Ex->St->Option Int):Option Int:=b9g N j6 a b (fun g=>k (.exit 0) (a6s a b g)) N c e
abbrev c3T(j6:ρ18):FV a89->HV a88->(Ex->St->Option Int)->Option Int:=fun x _ k=>d3S N j6 x.2.1 x.2.2.1 x.1 x.2.2.2.1 k
def b32(j6:ρ18):Nat->Code->St->(Ex->St->Option Int)->Option Int:=fun i c=>
 match i with
 |0=>(LPc 19 a89 a88 (c3T N j6) (fun st k=>iter (c1O 0) (o7 (b4s N j6) N c 0) N st k))
 |i=>fun st k=>iter (c1O i) (o7 (b4s N j6) N c i) N st k
theorem c1M(j6:ρ18)(a:List GExpr)(b:Int)(KX:Nat->St->Option Int)(I:St->Option Int)(c e:Int):
  p8 (b32 N j6) (b4s N j6) b5K 0 (b31 a b c e) (F9 (c1O 0) I KX (c1N N j6))=a4a N j6 a b (fun g=>KX 0 (a6s a b g)) (fun c e=>I (b31 a b c e)) c e:=by kernel_rfl
theorem d1n(j6:ρ18):∀x y k,(∀st,k .ret st=(c1N N j6) st)->iter (c1O 0) (o7 (b4s N j6) N b5K 0) N ⟨19,unF a89 x,unH a88 y⟩ k=c3T N j6 x y k:=fun x _ k hk=>
 p9 (S:=(Int)×(Int)×Unit) (c1O 0) _ (p8 (b32 N j6) (b4s N j6) b5K 0) (c1N N j6) (u9 _ _ N _ b5K 0 (show LoopsOk (b32 N j6) (b4s N j6) N (c1N N j6) []from trivial)) (fun s=>b31 x.2.1 x.2.2.1 s.1 s.2.1) k hk
  (fun self s=>a4a N j6 x.2.1 x.2.2.1 (fun a=>k (.exit 0) (a6s x.2.1 x.2.2.1 a)) (fun b c=>self (b,c,())) s.1 s.2.1) (fun n s=>b9g N j6 x.2.1 x.2.2.1 (fun a=>k (.exit 0) (a6s x.2.1 x.2.2.1 a)) n s.1 s.2.1) (fun _=>rfl) (fun _ _=>rfl)
  (fun I s=>c1M N j6 x.2.1 x.2.2.1 (fun j=>k (.exit j)) I s.1 s.2.1) N (x.1,x.2.2.2.1,())
theorem d6Q(j6:ρ18):Z1 (b32 N j6) (b4s N j6) N (c1N N j6) 0 b5K:=fun st k hk=>H3 19 a89 a88 _ _ (c1N N j6) (d1n N j6) _ st k hk (rfl)
theorem d3T(j6:ρ18)(x:SV [.v τ3])(y:BV []):V4 (b4s N j6) Tryz.f85 (d3U N j6) d1q (b32 N j6) x y=a0e N j6 x.1:=by kernel_rfl
theorem d1r(j6:ρ18)(a2W:Sound Tryz.prog GW x9 85 (b2C fun x y=>j6 x.1)):Sound Tryz.prog GW x9 85 (d3U N j6):=
 b2f (EnvOk.jk (O3 c1O (d1o N j6) _ _ (d1p N j6 a2W)) _) Tryz.func85 rfl Tryz.call85 (d3U N j6) d1q (fun _ _=>rfl) N (b32 N j6) (show LoopsOk (b32 N j6) (b4s N j6) N (c1N N j6) [(0,b5K)]from⟨d6Q N j6,trivial⟩) (d3T N j6)
def S2(N:Nat):Nat->GExpr->Option (Int)|0=>fun _=>none|d+1=>a0e N (S2 N d)
theorem b5l(N:Nat):∀d,Sound Tryz.prog GW x9 85 (b2C fun x y=>S2 N d x.1)
 |0=>Sound.never Tryz.call85 (fun _ _=>rfl)
 |d+1=>d1r N (S2 N d) (b5l N d)
abbrev b9i:=sgM [.v τ5] [] [V0] [] (Int) fun z=>((z,()),())
def a1e(f5:ρ16)(e:List (d7×GExpr))(g:Int)(k2:ρ21)(self:Int->Int->Option Int)(c b:Int):Option Int:=br (decide (b<g)) (j8 (m6 e b) fun a=>j8 (S2 N N (Ze a.2)) fun l=>self (IntKind.i64.wrap (c+l)) (IntKind.i64.wrap (b+1))) (k2 c)
def a5y(N:Nat)(f5:ρ16)(a:List (d7×GExpr))(b:Int)(k2:ρ21):Nat->Int->Int->Option Int|0,_,_=>none|n+1,c,e=>a1e N f5 a b k2 (a5y N f5 a b k2 n) c e
def X1(f5:ρ16)(g:List GStmt)(l:Int)(k0:ρ21)(self:Int->Int->Option Int)(c b:Int):Option Int:=br (decide (b<l)) (j8 (m6 g b) fun a=>j8 (S6 N (GStmt.mk a.kind a.name a.text a.params a.args (Ze a.expr) a.body a.els a.at_)) fun m=>br (m.2.2.2.2.1) (j8 (S2 N N (Ze a.expr)) fun o=>a5y N f5 a.args (a.args.length:Int) (fun e=>j8 (f5 a.body) fun p=>j8 (f5 a.els) fun q=>self (IntKind.i64.wrap (e+(IntKind.i64.wrap (p+q)))) (IntKind.i64.wrap (b+1))) N (IntKind.i64.wrap ((IntKind.i64.wrap (c+1))+o)) 0) (a5y N f5 a.args (a.args.length:Int) (fun e=>j8 (f5 a.body) fun r=>j8 (f5 a.els) fun t=>self (IntKind.i64.wrap (e+(IntKind.i64.wrap (r+t)))) (IntKind.i64.wrap (b+1))) N (IntKind.i64.wrap (c+1)) 0)) (k0 c)
def a5x(N:Nat)(f5:ρ16)(a:List GStmt)(b:Int)(k0:ρ21):Nat->Int->Int->Option Int|0,_,_=>none|n+1,c,e=>X1 N f5 a b k0 (a5x N f5 a b k0 n) c e
def E8(f5:ρ16)(a:List GStmt):Option Int:=a5x N f5 a (a.length:Int) (fun b=>some b) N 0 0
abbrev d85:=sgM [.v τ5] [] [V0] [] (Int) fun z=>((z,()),())
abbrev d3E(f5:ρ16):AF:=d85 fun x _=>E8 N f5 x.1
abbrev d0S:SV [V0]->BV []->Int:=fun x _=>x.1
def d0P(f5:ρ16):FuncId->Option Tmp->Option AF:=fun f _=>lkF [(49,b9i fun x _=>f5 x.1),(84,b8J N),(85,b2C fun x _=>S2 N N x.1)] f
theorem d0Q(f5:ρ16)(a18:Sound Tryz.prog GW x9 49 (b9i fun x y=>f5 x.1)):∀f q F,d0P N f5 f q=some F->Sound Tryz.prog GW x9 f F:=fun _ _ _ h=>B9 h (L3 (a18) (L3 (a9T N) (L3 (b5l N N) T8)))
def b3N:Nat->Hint:=fun i=>
 match i with
 |0=>⟨[],[3,8,9,10],[],[3],[],[]⟩
 |2=>⟨[],[3,5,8,9,10,25,26,27],[1005],[3,5,8,9,10],[1005],[]⟩
 |_=>y5
abbrev a6C(f5:ρ16):Env:=mkE b3N (d0P N f5) (fun _=>false) (fun _=>false) |>.jk (fun _=>none)
abbrev a9X(f5:ρ16):=L9 (a6C N f5) Tryz.f49 (d3E N f5) d0S
noncomputable abbrev b5E:Code:=cAt (B3 Tryz.f49) [true,true,false,true,false,false]
noncomputable abbrev b3M:Code:=cAt (B3 Tryz.f49) [true,true,false,true,false,false,true,true,false,false,true,true,true,false,true,false,false]
abbrev a8U:List (Nat×Sl):=[(3,V0),(5,.box 1005 0),(8,.v τ5),(9,V0),(10,V0),(25,.v (.sl X7)),(26,V0),(27,V0)]
abbrev a8T:List (Nat×Sb):=[(1005,.cells [V0,V1,V1,.v N3,.v (.sl X7),V0,V1,V0,.v N3,.v (.sl τ3),.v τ5,.v τ5,V0])]
def b3L(a:List GStmt)(b c:Int)(e:List (d7×GExpr))(g l:Int)(m o:d7)(p:List d7)(q:List (d7×GExpr))(r:Int)(t:d7)(u:Int)(w:List d7)(B:List GExpr)(C D:List GStmt)(E H J:Int):St:=⟨48,[(3,.v τ2 H),(5,.box 1005 0),(8,.v τ5 a),(9,.v τ2 b),(10,.v τ2 c),(25,.v (.sl X7) e),(26,.v τ2 g),(27,.v τ2 J)],[(1005,.cells [.v τ2 l,.v .str m,.v .str o,.v N3 p,.v (.sl X7) q,.v τ2 r,.v .str t,.v τ2 u,.v N3 w,.v (.sl τ3) B,.v τ5 C,.v τ5 D,.v τ2 E])]⟩
def a6n(a:List GStmt)(b c:Int)(_E:List (d7×GExpr))(_H e:Int)(g l:d7)(m:List d7)(o:List (d7×GExpr))(p:Int)(q:d7)(r:Int)(t:List d7)(u:List GExpr)(w B:List GStmt)(C D:Int):St:=⟨48,[(3,.v τ2 D),(5,.box 1005 0),(8,.v τ5 a),(9,.v τ2 b),(10,.v τ2 c)],[(1005,.cells [.v τ2 e,.v .str g,.v .str l,.v N3 m,.v (.sl X7) o,.v τ2 p,.v .str q,.v τ2 r,.v N3 t,.v (.sl τ3) u,.v τ5 w,.v τ5 B,.v τ2 C])]⟩
def d3C(f5:ρ16)(c:List GStmt)(e g:Int)(a:List (d7×GExpr))(b l:Int)(m o:d7)(p:List d7)(q:List (d7×GExpr))(r:Int)(t:d7)(u:Int)(v:List d7)(w:List GExpr)(B C:List GStmt)(D E H:Int)(k:Ex->St->Option Int):Option Int:=a5y N f5 a b (fun J=>k (.exit 2) (a6n c e g a b l m o p q r t u v w B C D J)) N E H
abbrev c3L(f5:ρ16):FV a8U->HV a8T->(Ex->St->Option Int)->Option Int:=fun x y k=>let z:=y.1.2.2.2.2.2.2;let u:=y.1.2.2;d3C N f5 x.2.2.1 x.2.2.2.1 x.2.2.2.2.1 x.2.2.2.2.2.1 x.2.2.2.2.2.2.1 y.1.1 y.1.2.1 u.1 u.2.1 u.2.2.1 u.2.2.2.1 z.1 z.2.1 z.2.2.1 z.2.2.2.1 z.2.2.2.2.1 z.2.2.2.2.2.1 z.2.2.2.2.2.2.1 x.1 x.2.2.2.2.2.2.2.1 k
abbrev a8S:List (Nat×Sl):=[(3,V0),(8,.v τ5),(9,V0),(10,V0)]
abbrev a8R:List (Nat×Sb):=[]
def b3K(a:List GStmt)(b c e:Int):St:=⟨48,[(3,.v τ2 c),(8,.v τ5 a),(9,.v τ2 b),(10,.v τ2 e)],[]⟩
def a6m(_b:List GStmt)(_c a:Int):St:=⟨48,[(3,.v τ2 a)],[]⟩
def d3B(f5:ρ16)(a:List GStmt)(b c e:Int)(k:Ex->St->Option Int):Option Int:=a5x N f5 a b (fun g=>k (.exit 0) (a6m a b g)) N c e
abbrev c3K(f5:ρ16):FV a8S->HV a8R->(Ex->St->Option Int)->Option Int:=fun x _ k=>d3B N f5 x.2.1 x.2.2.1 x.1 x.2.2.2.1 k
def a5z(f5:ρ16):Nat->Code->St->(Ex->St->Option Int)->Option Int:=fun i c=>
 match i with
 |0=>(LPc 48 a8S a8R (c3K N f5) (fun st k=>iter (b3N 0) (o7 (a6C N f5) N c 0) N st k))
 |2=>(LPc 48 a8U a8T (c3L N f5) (fun st k=>iter (b3N 2) (o7 (a6C N f5) N c 2) N st k))
 |i=>fun st k=>iter (b3N i) (o7 (a6C N f5) N c i) N st k
theorem c1x(f5:ρ16)(g:List GStmt)(l m:Int)(a:List (d7×GExpr))(b o:Int)(p q:d7)(r:List d7)(t:List (d7×GExpr))(u:Int)(v:d7)(w:Int)(B:List d7)(C:List GExpr)(D E:List GStmt)(H:Int)(KX:Nat->St->Option Int)(I:St->Option Int)(c e:Int):
  p8 (a5z N f5) (a6C N f5) b3M 2 (b3L g l m a b o p q r t u v w B C D E H c e) (F9 (b3N 2) I KX (a9X N f5))=a1e N f5 a b (fun J=>KX 2 (a6n g l m a b o p q r t u v w B C D E H J)) (fun c e=>I (b3L g l m a b o p q r t u v w B C D E H c e)) c e:=by kernel_rfl
theorem d0O(f5:ρ16):∀x y k,(∀st,k .ret st=(a9X N f5) st)->iter (b3N 2) (o7 (a6C N f5) N b3M 2) N ⟨48,unF a8U x,unH a8T y⟩ k=c3L N f5 x y k:=fun x y k hk=>
 p9 (S:=(Int)×(Int)×Unit) (b3N 2) _ (p8 (a5z N f5) (a6C N f5) b3M 2) (a9X N f5) (u9 _ _ N _ b3M 2 (show LoopsOk (a5z N f5) (a6C N f5) N (a9X N f5) []from trivial)) (fun s=>b3L x.2.2.1 x.2.2.2.1 x.2.2.2.2.1 x.2.2.2.2.2.1 x.2.2.2.2.2.2.1 y.1.1 y.1.2.1 y.1.2.2.1 y.1.2.2.2.1 y.1.2.2.2.2.1 y.1.2.2.2.2.2.1 y.1.2.2.2.2.2.2.1 y.1.2.2.2.2.2.2.2.1 y.1.2.2.2.2.2.2.2.2.1 y.1.2.2.2.2.2.2.2.2.2.1 y.1.2.2.2.2.2.2.2.2.2.2.1 y.1.2.2.2.2.2.2.2.2.2.2.2.1 y.1.2.2.2.2.2.2.2.2.2.2.2.2.1 s.1 s.2.1) k hk
  (fun self s=>a1e N f5 x.2.2.2.2.2.1 x.2.2.2.2.2.2.1 (fun a=>k (.exit 2) (a6n x.2.2.1 x.2.2.2.1 x.2.2.2.2.1 x.2.2.2.2.2.1 x.2.2.2.2.2.2.1 y.1.1 y.1.2.1 y.1.2.2.1 y.1.2.2.2.1 y.1.2.2.2.2.1 y.1.2.2.2.2.2.1 y.1.2.2.2.2.2.2.1 y.1.2.2.2.2.2.2.2.1 y.1.2.2.2.2.2.2.2.2.1 y.1.2.2.2.2.2.2.2.2.2.1 y.1.2.2.2.2.2.2.2.2.2.2.1 y.1.2.2.2.2.2.2.2.2.2.2.2.1 y.1.2.2.2.2.2.2.2.2.2.2.2.2.1 a)) (fun b c=>self (b,c,())) s.1 s.2.1) (fun n s=>a5y N f5 x.2.2.2.2.2.1 x.2.2.2.2.2.2.1 (fun a=>k (.exit 2) (a6n x.2.2.1 x.2.2.2.1 x.2.2.2.2.1 x.2.2.2.2.2.1 x.2.2.2.2.2.2.1 y.1.1 y.1.2.1 y.1.2.2.1 y.1.2.2.2.1 y.1.2.2.2.2.1 y.1.2.2.2.2.2.1 y.1.2.2.2.2.2.2.1 y.1.2.2.2.2.2.2.2.1 y.1.2.2.2.2.2.2.2.2.1 y.1.2.2.2.2.2.2.2.2.2.1 y.1.2.2.2.2.2.2.2.2.2.2.1 y.1.2.2.2.2.2.2.2.2.2.2.2.1 y.1.2.2.2.2.2.2.2.2.2.2.2.2.1 a)) n s.1 s.2.1) (fun _=>rfl) (fun _ _=>rfl)
  (fun I s=>c1x N f5 x.2.2.1 x.2.2.2.1 x.2.2.2.2.1 x.2.2.2.2.2.1 x.2.2.2.2.2.2.1 y.1.1 y.1.2.1 y.1.2.2.1 y.1.2.2.2.1 y.1.2.2.2.2.1 y.1.2.2.2.2.2.1 y.1.2.2.2.2.2.2.1 y.1.2.2.2.2.2.2.2.1 y.1.2.2.2.2.2.2.2.2.1 y.1.2.2.2.2.2.2.2.2.2.1 y.1.2.2.2.2.2.2.2.2.2.2.1 y.1.2.2.2.2.2.2.2.2.2.2.2.1 y.1.2.2.2.2.2.2.2.2.2.2.2.2.1 (fun j=>k (.exit j)) I s.1 s.2.1) N (x.1,x.2.2.2.2.2.2.2.1,())
theorem d0R(f5:ρ16):Z1 (a5z N f5) (a6C N f5) N (a9X N f5) 2 b3M:=fun st k hk=>H3 48 a8U a8T _ _ (a9X N f5) (d0O N f5) _ st k hk (rfl)
theorem c1w(f5:ρ16)(a:List GStmt)(b:Int)(KX:Nat->St->Option Int)(I:St->Option Int)(c e:Int):
  p8 (a5z N f5) (a6C N f5) b5E 0 (b3K a b c e) (F9 (b3N 0) I KX (a9X N f5))=X1 N f5 a b (fun g=>KX 0 (a6m a b g)) (fun c e=>I (b3K a b c e)) c e:=by kernel_rfl
theorem d0N(f5:ρ16):∀x y k,(∀st,k .ret st=(a9X N f5) st)->iter (b3N 0) (o7 (a6C N f5) N b5E 0) N ⟨48,unF a8S x,unH a8R y⟩ k=c3K N f5 x y k:=fun x _ k hk=>
 p9 (S:=(Int)×(Int)×Unit) (b3N 0) _ (p8 (a5z N f5) (a6C N f5) b5E 0) (a9X N f5) (u9 _ _ N _ b5E 0 (show LoopsOk (a5z N f5) (a6C N f5) N (a9X N f5) [(2,b3M)]from⟨d0R N f5,trivial⟩)) (fun s=>b3K x.2.1 x.2.2.1 s.1 s.2.1) k hk
  (fun self s=>X1 N f5 x.2.1 x.2.2.1 (fun a=>k (.exit 0) (a6m x.2.1 x.2.2.1 a)) (fun b c=>self (b,c,())) s.1 s.2.1) (fun n s=>a5x N f5 x.2.1 x.2.2.1 (fun a=>k (.exit 0) (a6m x.2.1 x.2.2.1 a)) n s.1 s.2.1) (fun _=>rfl) (fun _ _=>rfl)
  (fun I s=>c1w N f5 x.2.1 x.2.2.1 (fun j=>k (.exit j)) I s.1 s.2.1) N (x.1,x.2.2.2.1,())
theorem d6H(f5:ρ16):Z1 (a5z N f5) (a6C N f5) N (a9X N f5) 0 b5E:=fun st k hk=>H3 48 a8S a8R _ _ (a9X N f5) (d0N N f5) _ st k hk (rfl)
theorem d3D(f5:ρ16)(x:SV [.v τ5])(y:BV []):V4 (a6C N f5) Tryz.f49 (d3E N f5) d0S (a5z N f5) x y=E8 N f5 x.1:=by kernel_rfl
theorem d0T(f5:ρ16)(a18:Sound Tryz.prog GW x9 49 (b9i fun x y=>f5 x.1)):Sound Tryz.prog GW x9 49 (d3E N f5):=
 b2f (EnvOk.jk (O3 b3N (d0P N f5) _ _ (d0Q N f5 a18)) _) Tryz.func49 rfl Tryz.call49 (d3E N f5) d0S (fun _ _=>rfl) N (a5z N f5) (show LoopsOk (a5z N f5) (a6C N f5) N (a9X N f5) [(0,b5E),(2,b3M)]from⟨d6H N f5,d0R N f5,trivial⟩) (d3D N f5)
def t7(N:Nat):Nat->(List GStmt)->Option (Int)|0=>fun _=>none|d+1=>E8 N (t7 N d)
theorem b9j(N:Nat):∀d,Sound Tryz.prog GW x9 49 (b9i fun x y=>t7 N d x.1)
 |0=>Sound.never Tryz.call49 (fun _ _=>rfl)
 |d+1=>d0T N (t7 N d) (b9j N d)
def a7q(_N:Nat)(e:List (d7×GExpr))(g:Int)(k0:τ20->Option τ20)(self:Int->τ20->Option τ20)(a:Int)(b:List d7):Option τ20:=br (decide (a<g)) (j8 (m6 e a) fun c=>br (Zf (b.length + [c.1].length) .str) (self (IntKind.i64.wrap (a+1)) (b ++ [c.1])) none) (k0 b)
def b89(N:Nat)(a:List (d7×GExpr))(b:Int)(k0:τ20->Option τ20):Nat->Int->τ20->Option τ20|0,_,_=>none|n+1,c,e=>a7q N a b k0 (b89 N a b k0 n) c e
def J8(a:GStmt):Option τ20:=b89 N a.args (a.args.length:Int) (fun b=>some b) N 0 []
abbrev d88(f:SV [.v τ17]->BV []->Option τ20):AF:={ps:=[.v τ17],bs:=[],rs:=[.row 0],cs:=[.row 9 .str false],R:=List d7,out:=fun z=>(((),()),z,()),f:=f}
abbrev d0Y:AF:=d88 fun x _=>J8 N x.1
abbrev d0Z:SV [.row 0]->BV [.row 9 .str false]->τ20:=fun _ y=>y.1
def d0W(_N:Nat):FuncId->Option Tmp->Option AF:=fun f _=>lkF [] f
theorem d0X:X8 (d0W N):=fun _ _ _ h=>B9 h T8
def c1A:Nat->Hint:=fun i=>
 match i with
 |0=>⟨[],[3,7,8,9],[1003],[3],[1003],[]⟩
 |_=>y5
abbrev b4n:Env:=mkE c1A (d0W N) FF FF |>.jk (fun _=>none)
noncomputable abbrev b5F:Code:=cAt (B3 Tryz.f140) [true,true,false,true,false,false]
abbrev c1z:=L9 (b4n N) Tryz.f140 (d0Y N) d0Z
abbrev a8X:List (Nat×Sl):=[(3,.row 1003),(7,.v (.sl X7)),(8,V0),(9,V0)]
abbrev a8W:List (Nat×Sb):=[(1003,.row 9 .str false)]
def b3P(a:List (d7×GExpr))(b c:Int)(e:List d7):St:=⟨20,[(3,.row 1003),(7,.v (.sl X7) a),(8,.v τ2 b),(9,.v τ2 c)],[(1003,.row 9 .str false e)]⟩
def a6o(_b:List (d7×GExpr))(_c:Int)(a:List d7):St:=⟨20,[(3,.row 1003)],[(1003,.row 9 .str false a)]⟩
def d3F(a:List (d7×GExpr))(b c:Int)(e:List d7)(k:Ex->St->Option τ20):Option τ20:=b89 N a b (fun g=>k (.exit 0) (a6o a b g)) N c e
abbrev c3M:FV a8X->HV a8W->(Ex->St->Option τ20)->Option τ20:=fun x y k=>d3F N x.2.1 x.2.2.1 x.2.2.2.1 y.1 k
def b3Q:Nat->Code->St->(Ex->St->Option τ20)->Option τ20:=fun i c=>
 match i with
 |0=>(LPc 20 a8X a8W (c3M N) (fun st k=>iter (c1A 0) (o7 (b4n N) N c 0) N st k))
 |i=>fun st k=>iter (c1A i) (o7 (b4n N) N c i) N st k
theorem c1y(a:List (d7×GExpr))(b:Int)(KX:Nat->St->Option τ20)(I:St->Option τ20)(c:Int)(e:List d7):
  p8 (b3Q N) (b4n N) b5F 0 (b3P a b c e) (F9 (c1A 0) I KX (c1z N))=a7q N a b (fun g=>KX 0 (a6o a b g)) (fun c e=>I (b3P a b c e)) c e:=by kernel_rfl
theorem d0V:∀x y k,(∀st,k .ret st=(c1z N) st)->iter (c1A 0) (o7 (b4n N) N b5F 0) N ⟨20,unF a8X x,unH a8W y⟩ k=c3M N x y k:=fun x y k hk=>
 p9 (S:=(Int)×τ20×Unit) (c1A 0) _ (p8 (b3Q N) (b4n N) b5F 0) (c1z N) (u9 _ _ N _ b5F 0 (show LoopsOk (b3Q N) (b4n N) N (c1z N) []from trivial)) (fun s=>b3P x.2.1 x.2.2.1 s.1 s.2.1) k hk
  (fun self s=>a7q N x.2.1 x.2.2.1 (fun a=>k (.exit 0) (a6o x.2.1 x.2.2.1 a)) (fun b c=>self (b,c,())) s.1 s.2.1) (fun n s=>b89 N x.2.1 x.2.2.1 (fun a=>k (.exit 0) (a6o x.2.1 x.2.2.1 a)) n s.1 s.2.1) (fun _=>rfl) (fun _ _=>rfl)
  (fun I s=>c1y N x.2.1 x.2.2.1 (fun j=>k (.exit j)) I s.1 s.2.1) N (x.2.2.2.1,y.1,())
theorem d6I:Z1 (b3Q N) (b4n N) N (c1z N) 0 b5F:=fun st k hk=>H3 20 a8X a8W _ _ (c1z N) (d0V N) _ st k hk (rfl)
theorem d3G(x:SV [.v τ17])(y:BV []):V4 (b4n N) Tryz.f140 (d0Y N) d0Z (b3Q N) x y=J8 N x.1:=by kernel_rfl
theorem d00:Snd 140 (d0Y N):=
 b2f (EnvOk.jk (O3 c1A (d0W N) _ _ (d0X N)) _) Tryz.func140 rfl Tryz.call140 (d0Y N) d0Z (fun _ _=>rfl) N (b3Q N) (show LoopsOk (b3Q N) (b4n N) N (c1z N) [(0,b5F)]from⟨d6I N,trivial⟩) (d3G N)
def y7(a:d7):Option Bool:=j8 (C7 N a) fun b=>some (!b)
abbrev d8g:=sgM [V1] [] [V3] [] (Bool) fun z=>((z,()),())
abbrev d2P:AF:=d8g fun x _=>y7 N x.1
theorem b8T:Snd 141 (d2P N):=
 a2o h0 [(135,c1D N)] (L3 (a80 N) T8) Tryz.func141 rfl Tryz.call141 (d2P N) (fun x _=>x.1) (fun _ _=>rfl) N (fun _ _=>by kernel_rfl) rfl
def b8U(b:List d7)(c:Int)(k0:Option Int)(self:ρ21)(a:Int):Option Int:=br (decide (a<c)) (j8 (m6 b a) fun e=>j8 (y7 N e) fun g=>br (g) (some a) (self (IntKind.i64.wrap (a+1)))) (k0)
def c8K(N:Nat)(a:List d7)(b:Int)(k0:Option Int):Nat->Int->Option Int|0,_=>none|n+1,c=>b8U N a b k0 (c8K N a b k0 n) c
def H6(a:List d7)(_b:Unit):Option Int:=c8K N a (a.length:Int) (some (-1:Int)) N 0
abbrev e0x:=sgM [.v N3,.v (.clo 141 .un)] [] [V0] [] (Int) fun z=>((z,()),())
abbrev z3g:AF:=e0x fun x _=>H6 N x.1 x.2.1
abbrev d6f:SV [V0]->BV []->Int:=fun x _=>x.1
def d8h:FuncId->Option Tmp->Option AF:=fun f _=>lkF [(141,d2P N)] f
theorem d2R:X8 (d8h N):=fun _ _ _ h=>B9 h (L3 (b8T N) T8)
def z3h:Nat->Hint:=fun i=>
 match i with
 |0=>⟨[],[0,1,7,8],[],[],[],[]⟩
 |_=>y5
abbrev z3E:Env:=mkE z3h (d8h N) FF FF
noncomputable abbrev b0v:Code:=cAt (B3 Tryz.f181) [true,false,true,false,false]
abbrev z3R:=L9 (z3E N) Tryz.f181 (z3g N) d6f
abbrev b0T:List (Nat×Sl):=[(0,.v N3),(1,.v (.clo 141 .un)),(7,V0),(8,V0)]
abbrev b0S:List (Nat×Sb):=[]
def b6U(a:List d7)(b:Unit)(c e:Int):St:=⟨19,[(0,.v N3 a),(1,.v (.clo 141 .un) b),(7,.v τ2 c),(8,.v τ2 e)],[]⟩
def a8i(_a:List d7)(_b:Unit)(_c:Int):St:=⟨19,[],[]⟩
def d6c(a:List d7)(c:Unit)(b e:Int)(k:Ex->St->Option Int):Option Int:=c8K N a b (k (.exit 0) (a8i a c b)) N e
abbrev c8L:FV b0T->HV b0S->(Ex->St->Option Int)->Option Int:=fun x _ k=>d6c N x.1 x.2.1 x.2.2.1 x.2.2.2.1 k
def c0W:Nat->Code->St->(Ex->St->Option Int)->Option Int:=fun i c=>
 match i with
 |0=>(LPc 19 b0T b0S (c8L N) (fun st k=>iter (z3h 0) (o7 (z3E N) N c 0) N st k))
 |i=>fun st k=>iter (z3h i) (o7 (z3E N) N c i) N st k
theorem c45(a:List d7)(e:Unit)(b:Int)(KX:Nat->St->Option Int)(I:St->Option Int)(c:Int):
  p8 (c0W N) (z3E N) b0v 0 (b6U a e b c) (F9 (z3h 0) I KX (z3R N))=b8U N a b (KX 0 (a8i a e b)) (fun c=>I (b6U a e b c)) c:=by kernel_rfl
theorem d2Q:∀x y k,(∀st,k .ret st=(z3R N) st)->iter (z3h 0) (o7 (z3E N) N b0v 0) N ⟨19,unF b0T x,unH b0S y⟩ k=c8L N x y k:=fun x _ k hk=>
 p9 (S:=(Int)×Unit) (z3h 0) _ (p8 (c0W N) (z3E N) b0v 0) (z3R N) (u9 _ _ N _ b0v 0 (show LoopsOk (c0W N) (z3E N) N (z3R N) []from trivial)) (fun s=>b6U x.1 x.2.1 x.2.2.1 s.1) k hk
  (fun self s=>b8U N x.1 x.2.2.1 (k (.exit 0) (a8i x.1 x.2.1 x.2.2.1)) (fun a=>self (a,())) s.1) (fun n s=>c8K N x.1 x.2.2.1 (k (.exit 0) (a8i x.1 x.2.1 x.2.2.1)) n s.1) (fun _=>rfl) (fun _ _=>rfl)
  (fun I s=>c45 N x.1 x.2.1 x.2.2.1 (fun j=>k (.exit j)) I s.1) N (x.2.2.2.1,())
theorem d8j:Z1 (c0W N) (z3E N) N (z3R N) 0 b0v:=fun st k hk=>H3 19 b0T b0S _ _ (z3R N) (d2Q N) _ st k hk (rfl)
theorem d6e(x:SV [.v N3,.v (.clo 141 .un)])(y:BV []):V4 (z3E N) Tryz.f181 (z3g N) d6f (c0W N) x y=H6 N x.1 x.2.1:=by kernel_rfl
theorem d2S:Snd 181 (z3g N):=
 a9J (d2R N) Tryz.func181 rfl Tryz.call181 (z3g N) d6f (fun _ _=>rfl) N (c0W N) (show LoopsOk (c0W N) (z3E N) N (z3R N) [(0,b0v)]from⟨d8j N,trivial⟩) (d6e N)
def l5(a:List d7)(b:Unit):Option Bool:=j8 (H6 N a b) fun c=>some (decide (c>=0))
abbrev e0m:=sgM [.v N3,.v (.clo 141 .un)] [] [V3] [] (Bool) fun z=>((z,()),())
abbrev z1g:AF:=e0m fun x _=>l5 N x.1 x.2.1
theorem d2D:Snd 142 (z1g N):=
 a2o h0 [(181,z3g N)] (L3 (d2S N) T8) Tryz.func142 rfl Tryz.call142 (z1g N) (fun x _=>x.1) (fun _ _=>rfl) N (fun _ _=>by kernel_rfl) rfl
def P0(_N:Nat)(a:GExpr):Option Bool:=j8 (br (a.kind==0) (br (a.text==[]) (br (a.number==0) (br ((a.keys.length:Int)==0) (some ((a.kids.length:Int)==0)) (some false)) (some false)) (some false)) (some false)) fun b=>some b
abbrev d9g:=sgM [.v τ3] [] [V3] [] (Bool) fun z=>((z,()),())
abbrev d6P:AF:=d9g fun x _=>P0 N x.1
def d1k(_N:Nat):FuncId->Option Tmp->Option AF:=fun f _=>lkF [] f
theorem d1l:X8 (d1k N):=fun _ _ _ h=>B9 h T8
def d9f:Nat->Hint:=fun i=>
 match i with
 |_=>y5
abbrev e0T:Env:=mkE d9f (d1k N) FF FF |>.jk (fun i=>match i with|1=>some 2|_=>none)
theorem d1m:Snd 143 (d6P N):=
 a6K (e0T N) (EnvOk.jk (O3 d9f (d1k N) _ _ (d1l N)) _) Tryz.func143 rfl Tryz.call143 (d6P N) (fun x _=>x.1) (fun _ _=>rfl) N (fun _ _=>by kernel_rfl) rfl
def b3Y(_N:Nat)(b:d7)(c:Int)(k0:Option Bool)(self:ρ20)(a:Int):Option Bool:=br (decide (a<c)) (j8 (m6 b a) fun e=>br (e !=10) (j8 (m6 b a) fun g=>br (decide (g<32)) (some false) (j8 (m6 b a) fun l=>br (decide (l>126)) (some false) (self (IntKind.i64.wrap (a+1))))) (self (IntKind.i64.wrap (a+1)))) (k0)
def c3R(N:Nat)(a:d7)(b:Int)(k0:Option Bool):Nat->Int->Option Bool|0,_=>none|n+1,c=>b3Y N a b k0 (c3R N a b k0 n) c
def u0(a:d7):Option Bool:=c3R N a (a.length:Int) (some true) N 0
abbrev d4E:=sgM [V1] [] [V3] [] (Bool) fun z=>((z,()),())
abbrev c1L:AF:=d4E fun x _=>u0 N x.1
abbrev d1j:SV [V3]->BV []->Bool:=fun x _=>x.1
def d4D(_N:Nat):FuncId->Option Tmp->Option AF:=fun f _=>lkF [] f
theorem d1i:X8 (d4D N):=fun _ _ _ h=>B9 h T8
def c5l:Nat->Hint:=fun i=>
 match i with
 |0=>⟨[],[0,5,6],[],[],[],[]⟩
 |_=>y5
abbrev b4r:Env:=mkE c5l (d4D N) FF FF
noncomputable abbrev b5J:Code:=cAt (B3 Tryz.f144) [true,false,true,false,false]
abbrev c1K:=L9 (b4r N) Tryz.f144 (c1L N) d1j
abbrev a86:List (Nat×Sl):=[(0,V1),(5,V0),(6,V0)]
abbrev a85:List (Nat×Sb):=[]
def b3Z(a:d7)(b c:Int):St:=⟨26,[(0,.v .str a),(5,.v τ2 b),(6,.v τ2 c)],[]⟩
def a6r(_a:d7)(_b:Int):St:=⟨26,[],[]⟩
def d3Q(a:d7)(b c:Int)(k:Ex->St->Option Bool):Option Bool:=c3R N a b (k (.exit 0) (a6r a b)) N c
abbrev c3S:FV a86->HV a85->(Ex->St->Option Bool)->Option Bool:=fun x _ k=>d3Q N x.1 x.2.1 x.2.2.1 k
def b30:Nat->Code->St->(Ex->St->Option Bool)->Option Bool:=fun i c=>
 match i with
 |0=>(LPc 26 a86 a85 (c3S N) (fun st k=>iter (c5l 0) (o7 (b4r N) N c 0) N st k))
 |i=>fun st k=>iter (c5l i) (o7 (b4r N) N c i) N st k
theorem c1J(a:d7)(b:Int)(KX:Nat->St->Option Bool)(I:St->Option Bool)(c:Int):
  p8 (b30 N) (b4r N) b5J 0 (b3Z a b c) (F9 (c5l 0) I KX (c1K N))=b3Y N a b (KX 0 (a6r a b)) (fun c=>I (b3Z a b c)) c:=by kernel_rfl
theorem d1h:∀x y k,(∀st,k .ret st=(c1K N) st)->iter (c5l 0) (o7 (b4r N) N b5J 0) N ⟨26,unF a86 x,unH a85 y⟩ k=c3S N x y k:=fun x _ k hk=>
 p9 (S:=(Int)×Unit) (c5l 0) _ (p8 (b30 N) (b4r N) b5J 0) (c1K N) (u9 _ _ N _ b5J 0 (show LoopsOk (b30 N) (b4r N) N (c1K N) []from trivial)) (fun s=>b3Z x.1 x.2.1 s.1) k hk
  (fun self s=>b3Y N x.1 x.2.1 (k (.exit 0) (a6r x.1 x.2.1)) (fun a=>self (a,())) s.1) (fun n s=>c3R N x.1 x.2.1 (k (.exit 0) (a6r x.1 x.2.1)) n s.1) (fun _=>rfl) (fun _ _=>rfl)
  (fun I s=>c1J N x.1 x.2.1 (fun j=>k (.exit j)) I s.1) N (x.2.2.1,())
theorem d6O:Z1 (b30 N) (b4r N) N (c1K N) 0 b5J:=fun st k hk=>H3 26 a86 a85 _ _ (c1K N) (d1h N) _ st k hk (rfl)
theorem d3R(x:SV [V1])(y:BV []):V4 (b4r N) Tryz.f144 (c1L N) d1j (b30 N) x y=u0 N x.1:=by kernel_rfl
theorem a87:Snd 144 (c1L N):=
 a9J (d1i N) Tryz.func144 rfl Tryz.call144 (c1L N) d1j (fun _ _=>rfl) N (b30 N) (show LoopsOk (b30 N) (b4r N) N (c1K N) [(0,b5J)]from⟨d6O N,trivial⟩) (d3R N)
end
end Go.Proofs.YtolpmfhiegpohaaGreatDoor
