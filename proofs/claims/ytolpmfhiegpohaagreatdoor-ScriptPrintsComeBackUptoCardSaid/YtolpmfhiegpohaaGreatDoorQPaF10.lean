/- % -/
import Derived.Test.YtolpmfhiegpohaaGreatDoorQPaF9
namespace Go.Proofs.YtolpmfhiegpohaaGreatDoor
open Go Go.RowKit
set_option maxRecDepth 100000
set_option linter.unusedVariables false
noncomputable section
variable(N:Nat)
def K7(_N:Nat)(a:GStmt):Option (Bool×Bool×Bool×Bool×Bool×Bool×Bool):=br (a.kind==1) (some (true,false,false,false,true,false,false)) (br (a.kind==2) (some (true,false,false,true,false,false,false)) (br (a.kind==3) (some (true,false,true,false,false,true,false)) (br (a.kind==4) (some (true,false,false,false,true,true,false)) (br (a.kind==5) (some (false,false,false,false,true,true,true)) (some (false,true,false,false,false,false,false))))))
abbrev f91:=sgM [.v τ17] [] [.v τ26] [] (Bool×Bool×Bool×Bool×Bool×Bool×Bool) fun z=>((z,()),())
abbrev f61:AF:=f91 fun x _=>K7 N x.1
def f7h(_N:Nat):FuncId->Option Tmp->Option AF:=fun f _=>t7 [] f
theorem f8e:a1f (f7h N):=fun _ _ _ h=>D7 h lkn
def f9N:Nat->Hint:=fun i=>
 match i with
 |_=>B8
abbrev g0v:Env:=mkE f9N (f7h N) FF FF |>.jk (fun _=>none)
theorem f5Q:Snd 84 (f61 N):=
 b0u (g0v N) (EnvOk.jk (P8 f9N (f7h N) _ _ (f8e N)) _) Tryz.func84 rfl Tryz.call84 (f61 N) (fun x _=>x.1) (fun _ _=>rfl) N (fun _ _=>by kernel_rfl) rfl
abbrev f5W:=sgM [.v τ3] [] [V0] [] (Int) fun z=>((z,()),())
def f2a(_N:Nat)(j9:P4)(e:List GExpr)(g:Int)(k0:ρ21)(self:Int->Int->Option Int)(c b:Int):Option Int:=br (decide (b<g)) (j8 (m7 e b) fun a=>j8 (j9 (Ze a)) fun l=>self (IntKind.i64.wrap (c+l)) (IntKind.i64.wrap (b+1))) (k0 c)
def f63(N:Nat)(j9:P4)(a:List GExpr)(b:Int)(k0:ρ21):Nat->Int->Int->Option Int|0,_,_=>none|n+1,c,e=>f2a N j9 a b k0 (f63 N j9 a b k0 n) c e
def a5t(j9:P4)(a:GExpr):Option Int:=f63 N j9 a.kids (a.kids.length:Int) (fun b=>some b) N 1 0
abbrev e5q:=sgM [.v τ3] [] [V0] [] (Int) fun z=>((z,()),())
abbrev f4O(j9:P4):AF:=e5q fun x _=>a5t N j9 x.1
abbrev f9a:SV [V0]->BV []->Int:=fun x _=>x.1
def f4a(_N:Nat)(j9:P4):FuncId->Option Tmp->Option AF:=fun f _=>t7 [(85,f5W fun x _=>j9 x.1)] f
theorem f4b(j9:P4)(a5s:Sound Tryz.prog GW B0G 85 (f5W fun x y=>j9 x.1)):∀f q F,f4a N j9 f q=some F->Sound Tryz.prog GW B0G f F:=fun _ _ _ h=>D7 h (Q3 (a5s) lkn)
def f5M:Nat->Hint:=fun i=>
 match i with
 |0=>⟨[],[3,7,8,9],[],[3],[],[]⟩
 |_=>B8
abbrev f6g(j9:P4):Env:=mkE f5M (f4a N j9) (fun _=>false) (fun _=>false) |>.jk (fun _=>none)
abbrev f7B(j9:P4):=P5 (f6g N j9) Tryz.f85 (f4O N j9) f9a
noncomputable abbrev f6S:Code:=cAt (C3 Tryz.f85) [true,true,false,true,false,false]
abbrev f5H:List (Nat×Sl):=[(3,V0),(7,.v (.sl τ3)),(8,V0),(9,V0)]
abbrev f5G:List (Nat×Sb):=[]
def f6t(a:List GExpr)(b c e:Int):St:=⟨19,[(3,.v τ2 c),(7,.v (.sl τ3) a),(8,.v τ2 b),(9,.v τ2 e)],[]⟩
def f4m(_b:List GExpr)(_c a:Int):St:=⟨19,[(3,.v τ2 a)],[]⟩
def f9D(j9:P4)(a:List GExpr)(b c e:Int)(k:Ex->St->Option Int):Option Int:=f63 N j9 a b (fun g=>k (.exit 0) (f4m a b g)) N c e
abbrev f74(j9:P4):FV f5H->HV f5G->(Ex->St->Option Int)->Option Int:=fun x _ k=>f9D N j9 x.2.1 x.2.2.1 x.1 x.2.2.2.1 k
def f6u(j9:P4):Nat->Code->St->(Ex->St->Option Int)->Option Int:=fun i c=>
 match i with
 |0=>(LPc 19 f5H f5G (f74 N j9) (fun st k=>iter (f5M 0) (q7 (f6g N j9) N c 0) N st k))
 |i=>fun st k=>iter (f5M i) (q7 (f6g N j9) N c i) N st k
theorem f7A(j9:P4)(a:List GExpr)(b:Int)(KX:Nat->St->Option Int)(I:St->Option Int)(c e:Int):
  s4 (f6u N j9) (f6g N j9) f6S 0 (f6t a b c e) (I2 (f5M 0) I KX (f7B N j9))=f2a N j9 a b (fun g=>KX 0 (f4m a b g)) (fun c e=>I (f6t a b c e)) c e:=by kernel_rfl
theorem f89(j9:P4):∀x y k,(∀st,k .ret st=(f7B N j9) st)->iter (f5M 0) (q7 (f6g N j9) N f6S 0) N ⟨19,unF f5H x,unH f5G y⟩ k=f74 N j9 x y k:=fun x _ k hk=>
 s5 (S:=(Int)×(Int)×Unit) (f5M 0) _ (s4 (f6u N j9) (f6g N j9) f6S 0) (f7B N j9) (x9 _ _ N _ f6S 0 (show LoopsOk (f6u N j9) (f6g N j9) N (f7B N j9) []from trivial)) (fun s=>f6t x.2.1 x.2.2.1 s.1 s.2.1) k hk
  (fun self s=>f2a N j9 x.2.1 x.2.2.1 (fun a=>k (.exit 0) (f4m x.2.1 x.2.2.1 a)) (fun b c=>self (b,c,())) s.1 s.2.1) (fun n s=>f63 N j9 x.2.1 x.2.2.1 (fun a=>k (.exit 0) (f4m x.2.1 x.2.2.1 a)) n s.1 s.2.1) (fun _=>rfl) (fun _ _=>rfl)
  (fun I s=>f7A N j9 x.2.1 x.2.2.1 (fun j=>k (.exit j)) I s.1 s.2.1) N (x.1,x.2.2.2.1,())
theorem g0d(j9:P4):a1g (f6u N j9) (f6g N j9) N (f7B N j9) 0 f6S:=fun st k hk=>J8 19 f5H f5G _ _ (f7B N j9) (f89 N j9) _ st k hk (rfl)
theorem f9E(j9:P4)(x:SV [.v τ3])(y:BV []):a0f (f6g N j9) Tryz.f85 (f4O N j9) f9a (f6u N j9) x y=a5t N j9 x.1:=by kernel_rfl
theorem e5r(j9:P4)(a5s:Sound Tryz.prog GW B0G 85 (f5W fun x y=>j9 x.1)):Sound Tryz.prog GW B0G 85 (f4O N j9):=
 b48 (EnvOk.jk (P8 f5M (f4a N j9) _ _ (f4b N j9 a5s)) _) Tryz.func85 rfl Tryz.call85 (f4O N j9) f9a (fun _ _=>rfl) N (f6u N j9) (show LoopsOk (f6u N j9) (f6g N j9) N (f7B N j9) [(0,f6S)]from⟨g0d N j9,trivial⟩) (f9E N j9)
def U7(N:Nat):Nat->GExpr->Option (Int)|0=>fun _=>none|d+1=>a5t N (U7 N d)
theorem f6E(N:Nat):∀d,Sound Tryz.prog GW B0G 85 (f5W fun x y=>U7 N d x.1)
 |0=>Sound.never Tryz.call85 (fun _ _=>rfl)
 |d+1=>e5r N (U7 N d) (f6E N d)
abbrev f1o:=sgM [.v τ4] [] [V0] [] (Int) fun z=>((z,()),())
def e8z(g9:ρ16)(e:List (d9×GExpr))(g:Int)(k2:ρ21)(self:Int->Int->Option Int)(c b:Int):Option Int:=br (decide (b<g)) (j8 (m7 e b) fun a=>j8 (U7 N N (Ze a.2)) fun l=>self (IntKind.i64.wrap (c+l)) (IntKind.i64.wrap (b+1))) (k2 c)
def f2M(N:Nat)(g9:ρ16)(a:List (d9×GExpr))(b:Int)(k2:ρ21):Nat->Int->Int->Option Int|0,_,_=>none|n+1,c,e=>e8z N g9 a b k2 (f2M N g9 a b k2 n) c e
def b6N(g9:ρ16)(g:List GStmt)(l:Int)(k0:ρ21)(self:Int->Int->Option Int)(c b:Int):Option Int:=br (decide (b<l)) (j8 (m7 g b) fun a=>j8 (K7 N (GStmt.mk a.kind a.name a.text a.params a.args (Ze a.expr) a.body a.els a.at_)) fun m=>br (m.2.2.2.2.1) (j8 (U7 N N (Ze a.expr)) fun o=>f2M N g9 a.args (a.args.length:Int) (fun e=>j8 (g9 a.body) fun p=>j8 (g9 a.els) fun q=>self (IntKind.i64.wrap (e+(IntKind.i64.wrap (p+q)))) (IntKind.i64.wrap (b+1))) N (IntKind.i64.wrap ((IntKind.i64.wrap (c+1))+o)) 0) (f2M N g9 a.args (a.args.length:Int) (fun e=>j8 (g9 a.body) fun r=>j8 (g9 a.els) fun t=>self (IntKind.i64.wrap (e+(IntKind.i64.wrap (r+t)))) (IntKind.i64.wrap (b+1))) N (IntKind.i64.wrap (c+1)) 0)) (k0 c)
def c6W(N:Nat)(g9:ρ16)(a:List GStmt)(b:Int)(k0:ρ21):Nat->Int->Int->Option Int|0,_,_=>none|n+1,c,e=>b6N N g9 a b k0 (c6W N g9 a b k0 n) c e
def a05(g9:ρ16)(a:List GStmt):Option Int:=c6W N g9 a (a.length:Int) (fun b=>some b) N 0 0
abbrev e14:=sgM [.v τ4] [] [V0] [] (Int) fun z=>((z,()),())
abbrev c4U(g9:ρ16):AF:=e14 fun x _=>a05 N g9 x.1
abbrev d34:SV [V0]->BV []->Int:=fun x _=>x.1
def d7y(g9:ρ16):FuncId->Option Tmp->Option AF:=fun f _=>t7 [(49,f1o fun x _=>g9 x.1),(84,f61 N),(85,f5W fun x _=>U7 N N x.1)] f
theorem d33(g9:ρ16)(a4q:Sound Tryz.prog GW B0G 49 (f1o fun x y=>g9 x.1)):∀f q F,d7y N g9 f q=some F->Sound Tryz.prog GW B0G f F:=fun _ _ _ h=>D7 h (Q3 (a4q) (Q3 (f5Q N) (Q3 (f6E N N) lkn)))
def c8n:Nat->Hint:=fun i=>
 match i with
 |0=>⟨[],[3,8,9,10],[],[3],[],[]⟩
 |2=>⟨[],[3,5,8,9,10,25,26,27],[1005],[3,5,8,9,10],[1005],[]⟩
 |_=>B8
abbrev b7k(g9:ρ16):Env:=mkE c8n (d7y N g9) (fun _=>false) (fun _=>false) |>.jk (fun _=>none)
abbrev c4T(g9:ρ16):=P5 (b7k N g9) Tryz.f49 (c4U N g9) d34
noncomputable abbrev f6Q:Code:=cAt (C3 Tryz.f49) [true,true,false,true,false,false]
noncomputable abbrev b8E:Code:=cAt (C3 Tryz.f49) [true,true,false,true,false,false,true,true,false,false,true,true,true,false,true,false,false]
abbrev f5D:List (Nat×Sl):=[(3,V0),(5,.box 1005 0),(8,.v τ4),(9,V0),(10,V0),(25,.v (.sl τ12)),(26,V0),(27,V0)]
abbrev f5C:List (Nat×Sb):=[(1005,.cells [V0,V1,V1,.v τ13,.v (.sl τ12),V0,V1,V0,.v τ13,.v (.sl τ3),.v τ4,.v τ4,V0])]
def f6o(a:List GStmt)(b c:Int)(e:List (d9×GExpr))(g l:Int)(m o:d9)(p:List d9)(q:List (d9×GExpr))(r:Int)(t:d9)(u:Int)(w:List d9)(B:List GExpr)(C D:List GStmt)(E H J:Int):St:=⟨48,[(3,.v τ2 H),(5,.box 1005 0),(8,.v τ4 a),(9,.v τ2 b),(10,.v τ2 c),(25,.v (.sl τ12) e),(26,.v τ2 g),(27,.v τ2 J)],[(1005,.cells [.v τ2 l,.v .str m,.v .str o,.v τ13 p,.v (.sl τ12) q,.v τ2 r,.v .str t,.v τ2 u,.v τ13 w,.v (.sl τ3) B,.v τ4 C,.v τ4 D,.v τ2 E])]⟩
def f4h(a:List GStmt)(b c:Int)(_E:List (d9×GExpr))(_H e:Int)(g l:d9)(m:List d9)(o:List (d9×GExpr))(p:Int)(q:d9)(r:Int)(t:List d9)(u:List GExpr)(w B:List GStmt)(C D:Int):St:=⟨48,[(3,.v τ2 D),(5,.box 1005 0),(8,.v τ4 a),(9,.v τ2 b),(10,.v τ2 c)],[(1005,.cells [.v τ2 e,.v .str g,.v .str l,.v τ13 m,.v (.sl τ12) o,.v τ2 p,.v .str q,.v τ2 r,.v τ13 t,.v (.sl τ3) u,.v τ4 w,.v τ4 B,.v τ2 C])]⟩
def f9A(g9:ρ16)(c:List GStmt)(e g:Int)(a:List (d9×GExpr))(b l:Int)(m o:d9)(p:List d9)(q:List (d9×GExpr))(r:Int)(t:d9)(u:Int)(v:List d9)(w:List GExpr)(B C:List GStmt)(D E H:Int)(k:Ex->St->Option Int):Option Int:=f2M N g9 a b (fun J=>k (.exit 2) (f4h c e g a b l m o p q r t u v w B C D J)) N E H
abbrev f71(g9:ρ16):FV f5D->HV f5C->(Ex->St->Option Int)->Option Int:=fun x y k=>let z:=y.1.2.2.2.2.2.2;let u:=y.1.2.2;f9A N g9 x.2.2.1 x.2.2.2.1 x.2.2.2.2.1 x.2.2.2.2.2.1 x.2.2.2.2.2.2.1 y.1.1 y.1.2.1 u.1 u.2.1 u.2.2.1 u.2.2.2.1 z.1 z.2.1 z.2.2.1 z.2.2.2.1 z.2.2.2.2.1 z.2.2.2.2.2.1 z.2.2.2.2.2.2.1 x.1 x.2.2.2.2.2.2.2.1 k
abbrev b1B:List (Nat×Sl):=[(3,V0),(8,.v τ4),(9,V0),(10,V0)]
abbrev b1A:List (Nat×Sb):=[]
def b6O(a:List GStmt)(b c e:Int):St:=⟨48,[(3,.v τ2 c),(8,.v τ4 a),(9,.v τ2 b),(10,.v τ2 e)],[]⟩
def a8Z(_b:List GStmt)(_c a:Int):St:=⟨48,[(3,.v τ2 a)],[]⟩
def d6M(g9:ρ16)(a:List GStmt)(b c e:Int)(k:Ex->St->Option Int):Option Int:=c6W N g9 a b (fun g=>k (.exit 0) (a8Z a b g)) N c e
abbrev c6X(g9:ρ16):FV b1B->HV b1A->(Ex->St->Option Int)->Option Int:=fun x _ k=>d6M N g9 x.2.1 x.2.2.1 x.1 x.2.2.2.1 k
def b6P(g9:ρ16):Nat->Code->St->(Ex->St->Option Int)->Option Int:=fun i c=>
 match i with
 |0=>(LPc 48 b1B b1A (c6X N g9) (fun st k=>iter (c8n 0) (q7 (b7k N g9) N c 0) N st k))
 |2=>(LPc 48 f5D f5C (f71 N g9) (fun st k=>iter (c8n 2) (q7 (b7k N g9) N c 2) N st k))
 |i=>fun st k=>iter (c8n i) (q7 (b7k N g9) N c i) N st k
theorem f7w(g9:ρ16)(g:List GStmt)(l m:Int)(a:List (d9×GExpr))(b o:Int)(p q:d9)(r:List d9)(t:List (d9×GExpr))(u:Int)(v:d9)(w:Int)(B:List d9)(C:List GExpr)(D E:List GStmt)(H:Int)(KX:Nat->St->Option Int)(I:St->Option Int)(c e:Int):
  s4 (b6P N g9) (b7k N g9) b8E 2 (f6o g l m a b o p q r t u v w B C D E H c e) (I2 (c8n 2) I KX (c4T N g9))=e8z N g9 a b (fun J=>KX 2 (f4h g l m a b o p q r t u v w B C D E H J)) (fun c e=>I (f6o g l m a b o p q r t u v w B C D E H c e)) c e:=by kernel_rfl
theorem f81(g9:ρ16):∀x y k,(∀st,k .ret st=(c4T N g9) st)->iter (c8n 2) (q7 (b7k N g9) N b8E 2) N ⟨48,unF f5D x,unH f5C y⟩ k=f71 N g9 x y k:=fun x y k hk=>
 s5 (S:=(Int)×(Int)×Unit) (c8n 2) _ (s4 (b6P N g9) (b7k N g9) b8E 2) (c4T N g9) (x9 _ _ N _ b8E 2 (show LoopsOk (b6P N g9) (b7k N g9) N (c4T N g9) []from trivial)) (fun s=>f6o x.2.2.1 x.2.2.2.1 x.2.2.2.2.1 x.2.2.2.2.2.1 x.2.2.2.2.2.2.1 y.1.1 y.1.2.1 y.1.2.2.1 y.1.2.2.2.1 y.1.2.2.2.2.1 y.1.2.2.2.2.2.1 y.1.2.2.2.2.2.2.1 y.1.2.2.2.2.2.2.2.1 y.1.2.2.2.2.2.2.2.2.1 y.1.2.2.2.2.2.2.2.2.2.1 y.1.2.2.2.2.2.2.2.2.2.2.1 y.1.2.2.2.2.2.2.2.2.2.2.2.1 y.1.2.2.2.2.2.2.2.2.2.2.2.2.1 s.1 s.2.1) k hk
  (fun self s=>e8z N g9 x.2.2.2.2.2.1 x.2.2.2.2.2.2.1 (fun a=>k (.exit 2) (f4h x.2.2.1 x.2.2.2.1 x.2.2.2.2.1 x.2.2.2.2.2.1 x.2.2.2.2.2.2.1 y.1.1 y.1.2.1 y.1.2.2.1 y.1.2.2.2.1 y.1.2.2.2.2.1 y.1.2.2.2.2.2.1 y.1.2.2.2.2.2.2.1 y.1.2.2.2.2.2.2.2.1 y.1.2.2.2.2.2.2.2.2.1 y.1.2.2.2.2.2.2.2.2.2.1 y.1.2.2.2.2.2.2.2.2.2.2.1 y.1.2.2.2.2.2.2.2.2.2.2.2.1 y.1.2.2.2.2.2.2.2.2.2.2.2.2.1 a)) (fun b c=>self (b,c,())) s.1 s.2.1) (fun n s=>f2M N g9 x.2.2.2.2.2.1 x.2.2.2.2.2.2.1 (fun a=>k (.exit 2) (f4h x.2.2.1 x.2.2.2.1 x.2.2.2.2.1 x.2.2.2.2.2.1 x.2.2.2.2.2.2.1 y.1.1 y.1.2.1 y.1.2.2.1 y.1.2.2.2.1 y.1.2.2.2.2.1 y.1.2.2.2.2.2.1 y.1.2.2.2.2.2.2.1 y.1.2.2.2.2.2.2.2.1 y.1.2.2.2.2.2.2.2.2.1 y.1.2.2.2.2.2.2.2.2.2.1 y.1.2.2.2.2.2.2.2.2.2.2.1 y.1.2.2.2.2.2.2.2.2.2.2.2.1 y.1.2.2.2.2.2.2.2.2.2.2.2.2.1 a)) n s.1 s.2.1) (fun _=>rfl) (fun _ _=>rfl)
  (fun I s=>f7w N g9 x.2.2.1 x.2.2.2.1 x.2.2.2.2.1 x.2.2.2.2.2.1 x.2.2.2.2.2.2.1 y.1.1 y.1.2.1 y.1.2.2.1 y.1.2.2.2.1 y.1.2.2.2.2.1 y.1.2.2.2.2.2.1 y.1.2.2.2.2.2.2.1 y.1.2.2.2.2.2.2.2.1 y.1.2.2.2.2.2.2.2.2.1 y.1.2.2.2.2.2.2.2.2.2.1 y.1.2.2.2.2.2.2.2.2.2.2.1 y.1.2.2.2.2.2.2.2.2.2.2.2.1 y.1.2.2.2.2.2.2.2.2.2.2.2.2.1 (fun j=>k (.exit j)) I s.1 s.2.1) N (x.1,x.2.2.2.2.2.2.2.1,())
theorem f82(g9:ρ16):a1g (b6P N g9) (b7k N g9) N (c4T N g9) 2 b8E:=fun st k hk=>J8 48 f5D f5C _ _ (c4T N g9) (f81 N g9) _ st k hk (rfl)
theorem c4S(g9:ρ16)(a:List GStmt)(b:Int)(KX:Nat->St->Option Int)(I:St->Option Int)(c e:Int):
  s4 (b6P N g9) (b7k N g9) f6Q 0 (b6O a b c e) (I2 (c8n 0) I KX (c4T N g9))=b6N N g9 a b (fun g=>KX 0 (a8Z a b g)) (fun c e=>I (b6O a b c e)) c e:=by kernel_rfl
theorem d32(g9:ρ16):∀x y k,(∀st,k .ret st=(c4T N g9) st)->iter (c8n 0) (q7 (b7k N g9) N f6Q 0) N ⟨48,unF b1B x,unH b1A y⟩ k=c6X N g9 x y k:=fun x _ k hk=>
 s5 (S:=(Int)×(Int)×Unit) (c8n 0) _ (s4 (b6P N g9) (b7k N g9) f6Q 0) (c4T N g9) (x9 _ _ N _ f6Q 0 (show LoopsOk (b6P N g9) (b7k N g9) N (c4T N g9) [(2,b8E)]from⟨f82 N g9,trivial⟩)) (fun s=>b6O x.2.1 x.2.2.1 s.1 s.2.1) k hk
  (fun self s=>b6N N g9 x.2.1 x.2.2.1 (fun a=>k (.exit 0) (a8Z x.2.1 x.2.2.1 a)) (fun b c=>self (b,c,())) s.1 s.2.1) (fun n s=>c6W N g9 x.2.1 x.2.2.1 (fun a=>k (.exit 0) (a8Z x.2.1 x.2.2.1 a)) n s.1 s.2.1) (fun _=>rfl) (fun _ _=>rfl)
  (fun I s=>c4S N g9 x.2.1 x.2.2.1 (fun j=>k (.exit j)) I s.1 s.2.1) N (x.1,x.2.2.2.1,())
theorem d9x(g9:ρ16):a1g (b6P N g9) (b7k N g9) N (c4T N g9) 0 f6Q:=fun st k hk=>J8 48 b1B b1A _ _ (c4T N g9) (d32 N g9) _ st k hk (rfl)
theorem d6N(g9:ρ16)(x:SV [.v τ4])(y:BV []):a0f (b7k N g9) Tryz.f49 (c4U N g9) d34 (b6P N g9) x y=a05 N g9 x.1:=by kernel_rfl
theorem b6Q(g9:ρ16)(a4q:Sound Tryz.prog GW B0G 49 (f1o fun x y=>g9 x.1)):Sound Tryz.prog GW B0G 49 (c4U N g9):=
 b48 (EnvOk.jk (P8 c8n (d7y N g9) _ _ (d33 N g9 a4q)) _) Tryz.func49 rfl Tryz.call49 (c4U N g9) d34 (fun _ _=>rfl) N (b6P N g9) (show LoopsOk (b6P N g9) (b7k N g9) N (c4T N g9) [(0,f6Q),(2,b8E)]from⟨d9x N g9,f82 N g9,trivial⟩) (d6N N g9)
def C9(N:Nat):Nat->(List GStmt)->Option (Int)|0=>fun _=>none|d+1=>a05 N (C9 N d)
theorem e83(N:Nat):∀d,Sound Tryz.prog GW B0G 49 (f1o fun x y=>C9 N d x.1)
 |0=>Sound.never Tryz.call49 (fun _ _=>rfl)
 |d+1=>b6Q N (C9 N d) (e83 N d)
def e4s(_N:Nat)(e:List (d9×GExpr))(g:Int)(k0:τ20->Option τ20)(self:Int->τ20->Option τ20)(a:Int)(b:List d9):Option τ20:=br (decide (a<g)) (j8 (m7 e a) fun c=>br (Zf (b.length + [c.1].length) .str) (self (IntKind.i64.wrap (a+1)) (b ++ [c.1])) none) (k0 b)
def e5n(N:Nat)(a:List (d9×GExpr))(b:Int)(k0:τ20->Option τ20):Nat->Int->τ20->Option τ20|0,_,_=>none|n+1,c,e=>e4s N a b k0 (e5n N a b k0 n) c e
def R6(a:GStmt):Option τ20:=e5n N a.args (a.args.length:Int) (fun b=>some b) N 0 []
abbrev e19(f:SV [.v τ17]->BV []->Option τ20):AF:={ps:=[.v τ17],bs:=[],rs:=[.row 0],cs:=[.row 9 .str false],R:=List d9,out:=fun z=>(((),()),z,()),f:=f}
abbrev e18:AF:=e19 fun x _=>R6 N x.1
abbrev e8C:SV [.row 0]->BV [.row 9 .str false]->τ20:=fun _ y=>y.1
def e98(_N:Nat):FuncId->Option Tmp->Option AF:=fun f _=>t7 [] f
theorem e8B:a1f (e98 N):=fun _ _ _ h=>D7 h lkn
def e3V:Nat->Hint:=fun i=>
 match i with
 |0=>⟨[],[3,7,8,9],[1003],[3],[1003],[]⟩
 |_=>B8
abbrev e4O:Env:=mkE e3V (e98 N) FF FF |>.jk (fun _=>none)
noncomputable abbrev e48:Code:=cAt (C3 Tryz.f140) [true,true,false,true,false,false]
abbrev e54:=P5 (e4O N) Tryz.f140 (e18 N) e8C
abbrev d9N:List (Nat×Sl):=[(3,.row 1003),(7,.v (.sl τ12)),(8,V0),(9,V0)]
abbrev d9M:List (Nat×Sb):=[(1003,.row 9 .str false)]
def e4t(a:List (d9×GExpr))(b c:Int)(e:List d9):St:=⟨20,[(3,.row 1003),(7,.v (.sl τ12) a),(8,.v τ2 b),(9,.v τ2 c)],[(1003,.row 9 .str false e)]⟩
def c2q(_b:List (d9×GExpr))(_c:Int)(a:List d9):St:=⟨20,[(3,.row 1003)],[(1003,.row 9 .str false a)]⟩
def e9K(a:List (d9×GExpr))(b c:Int)(e:List d9)(k:Ex->St->Option τ20):Option τ20:=e5n N a b (fun g=>k (.exit 0) (c2q a b g)) N c e
abbrev e6S:FV d9N->HV d9M->(Ex->St->Option τ20)->Option τ20:=fun x y k=>e9K N x.2.1 x.2.2.1 x.2.2.2.1 y.1 k
def e4u:Nat->Code->St->(Ex->St->Option τ20)->Option τ20:=fun i c=>
 match i with
 |0=>(LPc 20 d9N d9M (e6S N) (fun st k=>iter (e3V 0) (q7 (e4O N) N c 0) N st k))
 |i=>fun st k=>iter (e3V i) (q7 (e4O N) N c i) N st k
theorem e53(a:List (d9×GExpr))(b:Int)(KX:Nat->St->Option τ20)(I:St->Option τ20)(c:Int)(e:List d9):
  s4 (e4u N) (e4O N) e48 0 (e4t a b c e) (I2 (e3V 0) I KX (e54 N))=e4s N a b (fun g=>KX 0 (c2q a b g)) (fun c e=>I (e4t a b c e)) c e:=by kernel_rfl
theorem e8A:∀x y k,(∀st,k .ret st=(e54 N) st)->iter (e3V 0) (q7 (e4O N) N e48 0) N ⟨20,unF d9N x,unH d9M y⟩ k=e6S N x y k:=fun x y k hk=>
 s5 (S:=(Int)×τ20×Unit) (e3V 0) _ (s4 (e4u N) (e4O N) e48 0) (e54 N) (x9 _ _ N _ e48 0 (show LoopsOk (e4u N) (e4O N) N (e54 N) []from trivial)) (fun s=>e4t x.2.1 x.2.2.1 s.1 s.2.1) k hk
  (fun self s=>e4s N x.2.1 x.2.2.1 (fun a=>k (.exit 0) (c2q x.2.1 x.2.2.1 a)) (fun b c=>self (b,c,())) s.1 s.2.1) (fun n s=>e5n N x.2.1 x.2.2.1 (fun a=>k (.exit 0) (c2q x.2.1 x.2.2.1 a)) n s.1 s.2.1) (fun _=>rfl) (fun _ _=>rfl)
  (fun I s=>e53 N x.2.1 x.2.2.1 (fun j=>k (.exit j)) I s.1 s.2.1) N (x.2.2.2.1,y.1,())
theorem f0D:a1g (e4u N) (e4O N) N (e54 N) 0 e48:=fun st k hk=>J8 20 d9N d9M _ _ (e54 N) (e8A N) _ st k hk (rfl)
theorem e9L(x:SV [.v τ17])(y:BV []):a0f (e4O N) Tryz.f140 (e18 N) e8C (e4u N) x y=R6 N x.1:=by kernel_rfl
theorem d4d:Snd 140 (e18 N):=
 b48 (EnvOk.jk (P8 e3V (e98 N) _ _ (e8B N)) _) Tryz.func140 rfl Tryz.call140 (e18 N) e8C (fun _ _=>rfl) N (e4u N) (show LoopsOk (e4u N) (e4O N) N (e54 N) [(0,e48)]from⟨f0D N,trivial⟩) (e9L N)
def B4(a:d9):Option Bool:=j8 (G5 N a) fun b=>some (!b)
abbrev e1a:=sgM [V1] [] [V3] [] (Bool) fun z=>((z,()),())
abbrev d1S:AF:=e1a fun x _=>B4 N x.1
theorem d1V:Snd 141 (d1S N):=
 a4W h0 [(135,d6T N)] (Q3 (c2i N) lkn) Tryz.func141 rfl Tryz.call141 (d1S N) (fun x _=>x.1) (fun _ _=>rfl) N (fun _ _=>by kernel_rfl) rfl
def b5Q(b:List d9)(c:Int)(k0:Option Int)(self:ρ21)(a:Int):Option Int:=br (decide (a<c)) (j8 (m7 b a) fun e=>j8 (B4 N e) fun g=>br (g) (some a) (self (IntKind.i64.wrap (a+1)))) (k0)
def c8a(N:Nat)(a:List d9)(b:Int)(k0:Option Int):Nat->Int->Option Int|0,_=>none|n+1,c=>b5Q N a b k0 (c8a N a b k0 n) c
def G1(a:List d9)(_b:Unit):Option Int:=c8a N a (a.length:Int) (some (-1:Int)) N 0
abbrev e3z:=sgM [.v τ13,.v (.clo 141 .un)] [] [V0] [] (Int) fun z=>((z,()),())
abbrev z3g:AF:=e3z fun x _=>G1 N x.1 x.2.1
abbrev d82:SV [V0]->BV []->Int:=fun x _=>x.1
def e1b:FuncId->Option Tmp->Option AF:=fun f _=>t7 [(141,d1S N)] f
theorem d5X:a1f (e1b N):=fun _ _ _ h=>D7 h (Q3 (d1V N) lkn)
def z3h:Nat->Hint:=fun i=>
 match i with
 |0=>⟨[],[0,1,7,8],[],[],[],[]⟩
 |_=>B8
abbrev z3E:Env:=mkE z3h (e1b N) FF FF
noncomputable abbrev b3e:Code:=cAt (C3 Tryz.f181) [true,false,true,false,false]
abbrev z3R:=P5 (z3E N) Tryz.f181 (z3g N) d82
abbrev b3C:List (Nat×Sl):=[(0,.v τ13),(1,.v (.clo 141 .un)),(7,V0),(8,V0)]
abbrev b3B:List (Nat×Sb):=[]
def b9M(a:List d9)(b:Unit)(c e:Int):St:=⟨19,[(0,.v τ13 a),(1,.v (.clo 141 .un) b),(7,.v τ2 c),(8,.v τ2 e)],[]⟩
def b0W(_a:List d9)(_b:Unit)(_c:Int):St:=⟨19,[],[]⟩
def d8Z(a:List d9)(c:Unit)(b e:Int)(k:Ex->St->Option Int):Option Int:=c8a N a b (k (.exit 0) (b0W a c b)) N e
abbrev d1W:FV b3C->HV b3B->(Ex->St->Option Int)->Option Int:=fun x _ k=>d8Z N x.1 x.2.1 x.2.2.1 x.2.2.2.1 k
def c4e:Nat->Code->St->(Ex->St->Option Int)->Option Int:=fun i c=>
 match i with
 |0=>(LPc 19 b3C b3B (d1W N) (fun st k=>iter (z3h 0) (q7 (z3E N) N c 0) N st k))
 |i=>fun st k=>iter (z3h i) (q7 (z3E N) N c i) N st k
theorem c8b(a:List d9)(e:Unit)(b:Int)(KX:Nat->St->Option Int)(I:St->Option Int)(c:Int):
  s4 (c4e N) (z3E N) b3e 0 (b9M a e b c) (I2 (z3h 0) I KX (z3R N))=b5Q N a b (KX 0 (b0W a e b)) (fun c=>I (b9M a e b c)) c:=by kernel_rfl
theorem d5W:∀x y k,(∀st,k .ret st=(z3R N) st)->iter (z3h 0) (q7 (z3E N) N b3e 0) N ⟨19,unF b3C x,unH b3B y⟩ k=d1W N x y k:=fun x _ k hk=>
 s5 (S:=(Int)×Unit) (z3h 0) _ (s4 (c4e N) (z3E N) b3e 0) (z3R N) (x9 _ _ N _ b3e 0 (show LoopsOk (c4e N) (z3E N) N (z3R N) []from trivial)) (fun s=>b9M x.1 x.2.1 x.2.2.1 s.1) k hk
  (fun self s=>b5Q N x.1 x.2.2.1 (k (.exit 0) (b0W x.1 x.2.1 x.2.2.1)) (fun a=>self (a,())) s.1) (fun n s=>c8a N x.1 x.2.2.1 (k (.exit 0) (b0W x.1 x.2.1 x.2.2.1)) n s.1) (fun _=>rfl) (fun _ _=>rfl)
  (fun I s=>c8b N x.1 x.2.1 x.2.2.1 (fun j=>k (.exit j)) I s.1) N (x.2.2.2.1,())
theorem e1d:a1g (c4e N) (z3E N) N (z3R N) 0 b3e:=fun st k hk=>J8 19 b3C b3B _ _ (z3R N) (d5W N) _ st k hk (rfl)
theorem d81(x:SV [.v τ13,.v (.clo 141 .un)])(y:BV []):a0f (z3E N) Tryz.f181 (z3g N) d82 (c4e N) x y=G1 N x.1 x.2.1:=by kernel_rfl
theorem d5Y:Snd 181 (z3g N):=
 b2q (d5X N) Tryz.func181 rfl Tryz.call181 (z3g N) d82 (fun _ _=>rfl) N (c4e N) (show LoopsOk (c4e N) (z3E N) N (z3R N) [(0,b3e)]from⟨e1d N,trivial⟩) (d81 N)
def l7(a:List d9)(b:Unit):Option Bool:=j8 (G1 N a b) fun c=>some (decide (c>=0))
abbrev e3p:=sgM [.v τ13,.v (.clo 141 .un)] [] [V3] [] (Bool) fun z=>((z,()),())
abbrev z1g:AF:=e3p fun x _=>l7 N x.1 x.2.1
theorem d5B:Snd 142 (z1g N):=
 a4W h0 [(181,z3g N)] (Q3 (d5Y N) lkn) Tryz.func142 rfl Tryz.call142 (z1g N) (fun x _=>x.1) (fun _ _=>rfl) N (fun _ _=>by kernel_rfl) rfl
def J5(_N:Nat)(a:GExpr):Option Bool:=j8 (br (a.kind==0) (br (a.text==[]) (br (a.number==0) (br ((a.keys.length:Int)==0) (some ((a.kids.length:Int)==0)) (some false)) (some false)) (some false)) (some false)) fun b=>some b
abbrev f1j:=sgM [.v τ3] [] [V3] [] (Bool) fun z=>((z,()),())
abbrev f1i:AF:=f1j fun x _=>J5 N x.1
def f30(_N:Nat):FuncId->Option Tmp->Option AF:=fun f _=>t7 [] f
theorem f88:a1f (f30 N):=fun _ _ _ h=>D7 h lkn
def f1Z:Nat->Hint:=fun i=>
 match i with
 |_=>B8
abbrev f1B:Env:=mkE f1Z (f30 N) FF FF |>.jk (fun i=>match i with|1=>some 2|_=>none)
theorem e8T:Snd 143 (f1i N):=
 b0u (f1B N) (EnvOk.jk (P8 f1Z (f30 N) _ _ (f88 N)) _) Tryz.func143 rfl Tryz.call143 (f1i N) (fun x _=>x.1) (fun _ _=>rfl) N (fun _ _=>by kernel_rfl) rfl
def f6p(_N:Nat)(b:d9)(c:Int)(k0:Option Bool)(self:ρ20)(a:Int):Option Bool:=br (decide (a<c)) (j8 (m7 b a) fun e=>br (e !=10) (j8 (m7 b a) fun g=>br (decide (g<32)) (some false) (j8 (m7 b a) fun l=>br (decide (l>126)) (some false) (self (IntKind.i64.wrap (a+1))))) (self (IntKind.i64.wrap (a+1)))) (k0)
def f72(N:Nat)(a:d9)(b:Int)(k0:Option Bool):Nat->Int->Option Bool|0,_=>none|n+1,c=>f6p N a b k0 (f72 N a b k0 n) c
def y8(a:d9):Option Bool:=f72 N a (a.length:Int) (some true) N 0
abbrev f0a:=sgM [V1] [] [V3] [] (Bool) fun z=>((z,()),())
abbrev f7z:AF:=f0a fun x _=>y8 N x.1
abbrev f86:SV [V3]->BV []->Bool:=fun x _=>x.1
def f9P(_N:Nat):FuncId->Option Tmp->Option AF:=fun f _=>t7 [] f
theorem f84:a1f (f9P N):=fun _ _ _ h=>D7 h lkn
def f8g:Nat->Hint:=fun i=>
 match i with
 |0=>⟨[],[0,5,6],[],[],[],[]⟩
 |_=>B8
abbrev f6A:Env:=mkE f8g (f9P N) FF FF
noncomputable abbrev f6R:Code:=cAt (C3 Tryz.f144) [true,false,true,false,false]
abbrev f7y:=P5 (f6A N) Tryz.f144 (f7z N) f86
abbrev f5F:List (Nat×Sl):=[(0,V1),(5,V0),(6,V0)]
abbrev f5E:List (Nat×Sb):=[]
def f6q(a:d9)(b c:Int):St:=⟨26,[(0,.v .str a),(5,.v τ2 b),(6,.v τ2 c)],[]⟩
def f4l(_a:d9)(_b:Int):St:=⟨26,[],[]⟩
def f9B(a:d9)(b c:Int)(k:Ex->St->Option Bool):Option Bool:=f72 N a b (k (.exit 0) (f4l a b)) N c
abbrev f73:FV f5F->HV f5E->(Ex->St->Option Bool)->Option Bool:=fun x _ k=>f9B N x.1 x.2.1 x.2.2.1 k
def f6r:Nat->Code->St->(Ex->St->Option Bool)->Option Bool:=fun i c=>
 match i with
 |0=>(LPc 26 f5F f5E (f73 N) (fun st k=>iter (f8g 0) (q7 (f6A N) N c 0) N st k))
 |i=>fun st k=>iter (f8g i) (q7 (f6A N) N c i) N st k
theorem f7x(a:d9)(b:Int)(KX:Nat->St->Option Bool)(I:St->Option Bool)(c:Int):
  s4 (f6r N) (f6A N) f6R 0 (f6q a b c) (I2 (f8g 0) I KX (f7y N))=f6p N a b (KX 0 (f4l a b)) (fun c=>I (f6q a b c)) c:=by kernel_rfl
theorem f83:∀x y k,(∀st,k .ret st=(f7y N) st)->iter (f8g 0) (q7 (f6A N) N f6R 0) N ⟨26,unF f5F x,unH f5E y⟩ k=f73 N x y k:=fun x _ k hk=>
 s5 (S:=(Int)×Unit) (f8g 0) _ (s4 (f6r N) (f6A N) f6R 0) (f7y N) (x9 _ _ N _ f6R 0 (show LoopsOk (f6r N) (f6A N) N (f7y N) []from trivial)) (fun s=>f6q x.1 x.2.1 s.1) k hk
  (fun self s=>f6p N x.1 x.2.1 (k (.exit 0) (f4l x.1 x.2.1)) (fun a=>self (a,())) s.1) (fun n s=>f72 N x.1 x.2.1 (k (.exit 0) (f4l x.1 x.2.1)) n s.1) (fun _=>rfl) (fun _ _=>rfl)
  (fun I s=>f7x N x.1 x.2.1 (fun j=>k (.exit j)) I s.1) N (x.2.2.1,())
theorem g0c:a1g (f6r N) (f6A N) N (f7y N) 0 f6R:=fun st k hk=>J8 26 f5F f5E _ _ (f7y N) (f83 N) _ st k hk (rfl)
theorem f9C(x:SV [V1])(y:BV []):a0f (f6A N) Tryz.f144 (f7z N) f86 (f6r N) x y=y8 N x.1:=by kernel_rfl
theorem e5p:Snd 144 (f7z N):=
 b2q (f84 N) Tryz.func144 rfl Tryz.call144 (f7z N) f86 (fun _ _=>rfl) N (f6r N) (show LoopsOk (f6r N) (f6A N) N (f7y N) [(0,f6R)]from⟨g0c N,trivial⟩) (f9C N)
end
end Go.Proofs.YtolpmfhiegpohaaGreatDoor
