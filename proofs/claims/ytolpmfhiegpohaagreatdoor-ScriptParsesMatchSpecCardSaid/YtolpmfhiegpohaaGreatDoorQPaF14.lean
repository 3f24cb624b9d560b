/- What functions of the program compute, as plain functions (printed). -/
import Derived.Test.YtolpmfhiegpohaaGreatDoorQPaF12
namespace Go.Proofs.YtolpmfhiegpohaaGreatDoor
set_option maxRecDepth 100000
set_option linter.unusedVariables false
open Go Go.RowKit
noncomputable section
noncomputable section
variable(N:Nat)
def a0t(_N:Nat)(b6:ρ26)(e:Int)(g:List GStmt)(l:Int)(k0:Option Int)(self:ρ30)(b:Int):Option Int:=br (decide (b<l)) (f5 (l6 g b) fun a=>f5 (b6 (GStmt.mk a.kind a.name a.text a.params a.args (GExpr.mk a.expr.kind a.expr.text a.expr.number a.expr.keys a.expr.kids) a.body a.els a.at_) e) fun c=>br (c !=0) (some c) (self (IntKind.i64.wrap (b+1)))) (k0)
def b4D(N:Nat)(b6:ρ26)(a:Int)(b:List GStmt)(c:Int)(k0:Option Int):Nat->Int->Option Int|0,_=>none|n+1,e=>a0t N b6 a b c k0 (b4D N b6 a b c k0 n) e
def E0(b6:ρ26)(a:List GStmt)(b:Int):Option Int:=b4D N b6 b a (a.length:Int) (some (0:Int)) N 0
abbrev d0n:=P4 [.v τ6,V0] [] [V0] [] (Int) fun z=>((z,()),())
abbrev c0N(b6:ρ26):AF:=d0n fun x _=>E0 N b6 x.1 x.2.1
abbrev c3h:SV [V0]->BV []->Int:=fun x _=>x.1
def c3g(_N:Nat)(b6:ρ26):FuncId->Option Tmp->Option AF:=fun f _=>O5 [(104,b8i fun x _=>b6 x.1 x.2.1)] f
theorem c7E(b6:ρ26)(B4:Sound Tryz.prog GW B7 104 (b8i fun x y=>b6 x.1 x.2.1)):∀f q F,c3g N b6 f q=some F->Sound Tryz.prog GW B7 f F:=fun _ _ _ h=>o6 h (v8 (B4) G7)
def b4F:Nat->Hint:=fun i=>
 match i with
 |0=>⟨[],[1,8,9,10],[],[],[],[]⟩
 |_=>o3
abbrev a7D(b6:ρ26):Env:=S9 b4F (c3g N b6) (fun _=>false) (fun _=>false) |>.jk (fun _=>none)
abbrev b4E(b6:ρ26):=A8 (a7D N b6) Tryz.f56 (c0N N b6) c3h
noncomputable abbrev b1r:Code:=V7 (m9 Tryz.f56) [true,false,true,false,false]
abbrev a59:List (Nat×Sl):=[(1,V0),(8,.v τ6),(9,V0),(10,V0)]
abbrev a58:List (Nat×Sb):=[]
def b1q(a:Int)(b:List GStmt)(c e:Int):St:=⟨21,[(1,.v τ2 a),(8,.v τ6 b),(9,.v τ2 c),(10,.v τ2 e)],[]⟩
def a3Q(_a:Int)(_b:List GStmt)(_c:Int):St:=⟨21,[],[]⟩
def d0l(b6:ρ26)(a:Int)(b:List GStmt)(c e:Int)(k:Ex->St->Option Int):Option Int:=b4D N b6 a b c (k (.exit 0) (a3Q a b c)) N e
abbrev c0L(b6:ρ26):FV a59->HV a58->(Ex->St->Option Int)->Option Int:=fun x _ k=>d0l N b6 x.1 x.2.1 x.2.2.1 x.2.2.2.1 k
def a8m(b6:ρ26):Nat->Code->St->(Ex->St->Option Int)->Option Int:=fun i c=>
 match i with
 |0=>(LPc 21 a59 a58 (c0L N b6) (fun st k=>iter (b4F 0) (k6 (a7D N b6) N c 0) N st k))
 |i=>fun st k=>iter (b4F i) (k6 (a7D N b6) N c i) N st k
theorem c0M(b6:ρ26)(a:Int)(b:List GStmt)(c:Int)(KX:Nat->St->Option Int)(I:St->Option Int)(e:Int):
  k7 (a8m N b6) (a7D N b6) b1r 0 (b1q a b c e) (p6 (b4F 0) I KX (b4E N b6))=a0t N b6 a b c (KX 0 (a3Q a b c)) (fun e=>I (b1q a b c e)) e:=by kernel_rfl
theorem c7D(b6:ρ26):∀x y k,(∀st,k .ret st=(b4E N b6) st)->iter (b4F 0) (k6 (a7D N b6) N b1r 0) N ⟨21,Y7 a59 x,Y8 a58 y⟩ k=c0L N b6 x y k:=fun x _ k hk=>
 j9 (S:=(Int)×Unit) (b4F 0) _ (k7 (a8m N b6) (a7D N b6) b1r 0) (b4E N b6) (k9 _ _ N _ b1r 0 (show LoopsOk (a8m N b6) (a7D N b6) N (b4E N b6) []from trivial)) (fun s=>b1q x.1 x.2.1 x.2.2.1 s.1) k hk
  (fun self s=>a0t N b6 x.1 x.2.1 x.2.2.1 (k (.exit 0) (a3Q x.1 x.2.1 x.2.2.1)) (fun a=>self (a,())) s.1) (fun n s=>b4D N b6 x.1 x.2.1 x.2.2.1 (k (.exit 0) (a3Q x.1 x.2.1 x.2.2.1)) n s.1) (fun _=>rfl) (fun _ _=>rfl)
  (fun I s=>c0M N b6 x.1 x.2.1 x.2.2.1 (fun j=>k (.exit j)) I s.1) N (x.2.2.2.1,())
theorem d6q(b6:ρ26):F7 (a8m N b6) (a7D N b6) N (b4E N b6) 0 b1r:=fun st k hk=>p8 21 a59 a58 _ _ (b4E N b6) (c7D N b6) _ st k hk (rfl)
theorem d0m(b6:ρ26)(x:SV [.v τ6,V0])(y:BV []):F5 (a7D N b6) Tryz.f56 (c0N N b6) c3h (a8m N b6) x y=E0 N b6 x.1 x.2.1:=by kernel_rfl
theorem b7Q(b6:ρ26)(B4:Sound Tryz.prog GW B7 104 (b8i fun x y=>b6 x.1 x.2.1)):Sound Tryz.prog GW B7 56 (c0N N b6):=
 a2A (EnvOk.jk (y6 b4F (c3g N b6) _ _ (c7E N b6 B4)) _) Tryz.func56 rfl Tryz.call56 (c0N N b6) c3h (fun _ _=>rfl) N (a8m N b6) (show LoopsOk (a8m N b6) (a7D N b6) N (b4E N b6) [(0,b1r)]from⟨d6q N b6,trivial⟩) (d0m N b6)
def a8D(b6:ρ26)(e:Int)(g:List (c8×GExpr))(l:Int)(k1:Option Int)(self:ρ30)(b:Int):Option Int:=br (decide (b<l)) (f5 (l6 g b) fun a=>f5 (w4 N N (GExpr.mk a.2.kind a.2.text a.2.number a.2.keys a.2.kids) (IntKind.i64.wrap (e+1))) fun c=>br (c !=0) (some c) (self (IntKind.i64.wrap (b+1)))) (k1)
def b5d(N:Nat)(b6:ρ26)(a:Int)(b:List (c8×GExpr))(c:Int)(k1:Option Int):Nat->Int->Option Int|0,_=>none|n+1,e=>a8D N b6 a b c k1 (b5d N b6 a b c k1 n) e
def y9(b6:ρ26)(a:GStmt)(b:Int):Option Int:=br (decide (b>=30)) (some (2:Int)) (f5 (br (decide (a.kind<1)) (some true) (some (decide (a.kind>6)))) fun m=>br (m) (some (4:Int)) (f5 (X3 N (GStmt.mk a.kind a.name a.text a.params a.args (GExpr.mk a.expr.kind a.expr.text a.expr.number a.expr.keys a.expr.kids) a.body a.els a.at_)) fun c=>br (c !=0) (some c) (f5 (a1S N (GStmt.mk a.kind a.name a.text a.params a.args (GExpr.mk a.expr.kind a.expr.text a.expr.number a.expr.keys a.expr.kids) a.body a.els a.at_)) fun o=>br (!o) (some (3:Int)) (f5 (br (decide ((a.params.length:Int)>30)) (some true) (some (decide ((a.args.length:Int)>30)))) fun p=>br (p) (some (2:Int)) (f5 (a1s N (GStmt.mk a.kind a.name a.text a.params a.args (GExpr.mk a.expr.kind a.expr.text a.expr.number a.expr.keys a.expr.kids) a.body a.els a.at_)) fun q=>br (q) (some (7:Int)) (f5 (br (a.kind==1) (some true) (br (a.kind==4) (some true) (some (a.kind==5)))) fun r=>br (r) (f5 (w4 N N (GExpr.mk a.expr.kind a.expr.text a.expr.number a.expr.keys a.expr.kids) (IntKind.i64.wrap (b+1))) fun e=>br (e !=0) (some e) (b5d N b6 b a.args (a.args.length:Int) (f5 (E0 N b6 a.body (IntKind.i64.wrap (b+1))) fun g=>br (g !=0) (some g) (f5 (E0 N b6 a.els (IntKind.i64.wrap (b+1))) fun t=>some t)) N 0)) (b5d N b6 b a.args (a.args.length:Int) (f5 (E0 N b6 a.body (IntKind.i64.wrap (b+1))) fun l=>br (l !=0) (some l) (f5 (E0 N b6 a.els (IntKind.i64.wrap (b+1))) fun u=>some u)) N 0)))))))
abbrev e2h:=P4 [.v τ16,V0] [] [V0] [] (Int) fun z=>((z,()),())
abbrev d6N(b6:ρ26):AF:=e2h fun x _=>y9 N b6 x.1 x.2.1
abbrev d1A:SV [V0]->BV []->Int:=fun x _=>x.1
def d1y(b6:ρ26):FuncId->Option Tmp->Option AF:=fun f _=>O5 [(56,c0N N b6),(152,d47 N),(153,e1h N),(154,c1b N),(155,c1Z fun x _=>w4 N N x.1 x.2.1)] f
theorem d1z(b6:ρ26)(B4:Sound Tryz.prog GW B7 104 (b8i fun x y=>b6 x.1 x.2.1)):∀f q F,d1y N b6 f q=some F->Sound Tryz.prog GW B7 f F:=fun _ _ _ h=>o6 h (v8 (b7Q N b6 B4) (v8 (d49 N) (v8 (d5w N) (v8 (c77 N) (v8 (c10 N N) G7)))))
def c3K:Nat->Hint:=fun i=>
 match i with
 |1=>⟨[],[1,2,66,67,68],[1002],[1,2],[1002],[]⟩
 |_=>o3
abbrev b6T(b6:ρ26):Env:=S9 c3K (d1y N b6) (fun _=>false) (fun _=>false) |>.jk (fun i=>match i with|3=>some 20|10=>some 30|14=>some 56|_=>none)
abbrev c3J(b6:ρ26):=A8 (b6T N b6) Tryz.f104 (d6N N b6) d1A
noncomputable abbrev b8d:Code:=V7 (m9 Tryz.f104) [true,true,true,true,true,true,false,true,false,false]
abbrev a9x:List (Nat×Sl):=[(1,V0),(2,.box 1002 0),(66,.v (.sl τ9)),(67,V0),(68,V0)]
abbrev a9w:List (Nat×Sb):=[(1002,.cells [V0,V1,V1,V4,.v (.sl τ9),V0,V1,V0,V4,.v (.sl τ4),.v τ6,.v τ6,V0])]
def b5e(a:Int)(b:List (c8×GExpr))(c e:Int)(g l:c8)(m:List c8)(o:List (c8×GExpr))(p:Int)(q:c8)(r:Int)(t:List c8)(u:List GExpr)(w B:List GStmt)(C D:Int):St:=⟨94,[(1,.v τ2 a),(2,.box 1002 0),(66,.v (.sl τ9) b),(67,.v τ2 c),(68,.v τ2 D)],[(1002,.cells [.v τ2 e,.v .str g,.v .str l,.v V6 m,.v (.sl τ9) o,.v τ2 p,.v .str q,.v τ2 r,.v V6 t,.v (.sl τ4) u,.v τ6 w,.v τ6 B,.v τ2 C])]⟩
def a6M(a:Int)(_B:List (c8×GExpr))(_C b:Int)(c e:c8)(g:List c8)(l:List (c8×GExpr))(m:Int)(o:c8)(p:Int)(q:List c8)(r:List GExpr)(t u:List GStmt)(w:Int):St:=⟨94,[(1,.v τ2 a),(2,.box 1002 0)],[(1002,.cells [.v τ2 b,.v .str c,.v .str e,.v V6 g,.v (.sl τ9) l,.v τ2 m,.v .str o,.v τ2 p,.v V6 q,.v (.sl τ4) r,.v τ6 t,.v τ6 u,.v τ2 w])]⟩
def d6L(b6:ρ26)(a:Int)(b:List (c8×GExpr))(c e:Int)(g l:c8)(m:List c8)(o:List (c8×GExpr))(p:Int)(q:c8)(r:Int)(t:List c8)(u:List GExpr)(v w:List GStmt)(B C:Int)(k:Ex->St->Option Int):Option Int:=b5d N b6 a b c (k (.exit 1) (a6M a b c e g l m o p q r t u v w B)) N C
abbrev c5P(b6:ρ26):FV a9x->HV a9w->(Ex->St->Option Int)->Option Int:=fun x y k=>d6L N b6 x.1 x.2.2.1 x.2.2.2.1 y.1.1 y.1.2.1 y.1.2.2.1 y.1.2.2.2.1 y.1.2.2.2.2.1 y.1.2.2.2.2.2.1 y.1.2.2.2.2.2.2.1 y.1.2.2.2.2.2.2.2.1 y.1.2.2.2.2.2.2.2.2.1 y.1.2.2.2.2.2.2.2.2.2.1 y.1.2.2.2.2.2.2.2.2.2.2.1 y.1.2.2.2.2.2.2.2.2.2.2.2.1 y.1.2.2.2.2.2.2.2.2.2.2.2.2.1 x.2.2.2.2.1 k
def b5f(b6:ρ26):Nat->Code->St->(Ex->St->Option Int)->Option Int:=fun i c=>
 match i with
 |1=>(LPc 94 a9x a9w (c5P N b6) (fun st k=>iter (c3K 1) (k6 (b6T N b6) N c 1) N st k))
 |i=>fun st k=>iter (c3K i) (k6 (b6T N b6) N c i) N st k
theorem c3I(b6:ρ26)(a:Int)(b:List (c8×GExpr))(c g:Int)(l m:c8)(o:List c8)(p:List (c8×GExpr))(q:Int)(r:c8)(t:Int)(u:List c8)(v:List GExpr)(w B:List GStmt)(C:Int)(KX:Nat->St->Option Int)(I:St->Option Int)(e:Int):
  k7 (b5f N b6) (b6T N b6) b8d 1 (b5e a b c g l m o p q r t u v w B C e) (p6 (c3K 1) I KX (c3J N b6))=a8D N b6 a b c (KX 1 (a6M a b c g l m o p q r t u v w B C)) (fun e=>I (b5e a b c g l m o p q r t u v w B C e)) e:=by kernel_rfl
theorem d1x(b6:ρ26):∀x y k,(∀st,k .ret st=(c3J N b6) st)->iter (c3K 1) (k6 (b6T N b6) N b8d 1) N ⟨94,Y7 a9x x,Y8 a9w y⟩ k=c5P N b6 x y k:=fun x y k hk=>
 j9 (S:=(Int)×Unit) (c3K 1) _ (k7 (b5f N b6) (b6T N b6) b8d 1) (c3J N b6) (k9 _ _ N _ b8d 1 (show LoopsOk (b5f N b6) (b6T N b6) N (c3J N b6) []from trivial)) (fun s=>b5e x.1 x.2.2.1 x.2.2.2.1 y.1.1 y.1.2.1 y.1.2.2.1 y.1.2.2.2.1 y.1.2.2.2.2.1 y.1.2.2.2.2.2.1 y.1.2.2.2.2.2.2.1 y.1.2.2.2.2.2.2.2.1 y.1.2.2.2.2.2.2.2.2.1 y.1.2.2.2.2.2.2.2.2.2.1 y.1.2.2.2.2.2.2.2.2.2.2.1 y.1.2.2.2.2.2.2.2.2.2.2.2.1 y.1.2.2.2.2.2.2.2.2.2.2.2.2.1 s.1) k hk
  (fun self s=>a8D N b6 x.1 x.2.2.1 x.2.2.2.1 (k (.exit 1) (a6M x.1 x.2.2.1 x.2.2.2.1 y.1.1 y.1.2.1 y.1.2.2.1 y.1.2.2.2.1 y.1.2.2.2.2.1 y.1.2.2.2.2.2.1 y.1.2.2.2.2.2.2.1 y.1.2.2.2.2.2.2.2.1 y.1.2.2.2.2.2.2.2.2.1 y.1.2.2.2.2.2.2.2.2.2.1 y.1.2.2.2.2.2.2.2.2.2.2.1 y.1.2.2.2.2.2.2.2.2.2.2.2.1 y.1.2.2.2.2.2.2.2.2.2.2.2.2.1)) (fun a=>self (a,())) s.1) (fun n s=>b5d N b6 x.1 x.2.2.1 x.2.2.2.1 (k (.exit 1) (a6M x.1 x.2.2.1 x.2.2.2.1 y.1.1 y.1.2.1 y.1.2.2.1 y.1.2.2.2.1 y.1.2.2.2.2.1 y.1.2.2.2.2.2.1 y.1.2.2.2.2.2.2.1 y.1.2.2.2.2.2.2.2.1 y.1.2.2.2.2.2.2.2.2.1 y.1.2.2.2.2.2.2.2.2.2.1 y.1.2.2.2.2.2.2.2.2.2.2.1 y.1.2.2.2.2.2.2.2.2.2.2.2.1 y.1.2.2.2.2.2.2.2.2.2.2.2.2.1)) n s.1) (fun _=>rfl) (fun _ _=>rfl)
  (fun I s=>c3I N b6 x.1 x.2.2.1 x.2.2.2.1 y.1.1 y.1.2.1 y.1.2.2.1 y.1.2.2.2.1 y.1.2.2.2.2.1 y.1.2.2.2.2.2.1 y.1.2.2.2.2.2.2.1 y.1.2.2.2.2.2.2.2.1 y.1.2.2.2.2.2.2.2.2.1 y.1.2.2.2.2.2.2.2.2.2.1 y.1.2.2.2.2.2.2.2.2.2.2.1 y.1.2.2.2.2.2.2.2.2.2.2.2.1 y.1.2.2.2.2.2.2.2.2.2.2.2.2.1 (fun j=>k (.exit j)) I s.1) N (x.2.2.2.2.1,())
theorem e0e(b6:ρ26):F7 (b5f N b6) (b6T N b6) N (c3J N b6) 1 b8d:=fun st k hk=>p8 94 a9x a9w _ _ (c3J N b6) (d1x N b6) _ st k hk (rfl)
theorem d6M(b6:ρ26)(x:SV [.v τ16,V0])(y:BV []):F5 (b6T N b6) Tryz.f104 (d6N N b6) d1A (b5f N b6) x y=y9 N b6 x.1 x.2.1:=by kernel_rfl
theorem d1B(b6:ρ26)(B4:Sound Tryz.prog GW B7 104 (b8i fun x y=>b6 x.1 x.2.1)):Sound Tryz.prog GW B7 104 (d6N N b6):=
 a2A (EnvOk.jk (y6 c3K (d1y N b6) _ _ (d1z N b6 B4)) _) Tryz.func104 rfl Tryz.call104 (d6N N b6) d1A (fun _ _=>rfl) N (b5f N b6) (show LoopsOk (b5f N b6) (b6T N b6) N (c3J N b6) [(1,b8d)]from⟨e0e N b6,trivial⟩) (d6M N b6)
def D4(N:Nat):Nat->GStmt->Int->Option (Int)|0=>fun _ _=>none|d+1=>y9 N (D4 N d)
theorem c1C(N:Nat):∀d,Sound Tryz.prog GW B7 104 (b8i fun x y=>D4 N d x.1 x.2.1)
 |0=>Sound.never Tryz.call104 (fun _ _=>rfl)
 |d+1=>d1B N (D4 N d) (c1C N d)
def J4(a:List GStmt):Option Int:=f5 (M5 N N a) fun b=>br (decide (b>50000)) (some (2:Int)) (f5 (E0 N (D4 N N) a 0) fun c=>some c)
abbrev e3p:=P4 [.v τ6] [] [V0] [] (Int) fun z=>((z,()),())
abbrev e0T:AF:=e3p fun x _=>J4 N x.1
def d4l:FuncId->Option Tmp->Option AF:=fun f _=>O5 [(55,b5a fun x _=>M5 N N x.1),(56,d0n fun x _=>E0 N (D4 N N) x.1 x.2.1)] f
theorem d4m:I8 (d4l N):=fun _ _ _ h=>o6 h (v8 (b8a N N) (v8 (b7Q N (D4 N N) (c1C N N)) G7))
def e3o:Nat->Hint:=fun i=>
 match i with
 |_=>o3
abbrev e5n:Env:=S9 e3o (d4l N) FF FF |>.jk (fun _=>none)
theorem d4n:P7 28 (e0T N):=
 a1W (e5n N) (EnvOk.jk (y6 e3o (d4l N) _ _ (d4m N)) _) Tryz.func28 rfl Tryz.call28 (e0T N) (fun x _=>x.1) (fun _ _=>rfl) N (fun _ _=>by kernel_rfl) rfl
def y5(_N:Nat)(a:List τ0×Int×Int×Bool×Int)(b:Int)(c:c8):Option Bool:=br (!a.2.2.2.1) (br (decide (a.2.1<(a.1.length:Int))) (f5 (l6 a.1 a.2.1) fun e=>br (e.1==b) (f5 (l6 a.1 a.2.1) fun g=>some (g.2.1==c)) (some false)) (some false)) (some false)
abbrev d9E:=P4 [.v τ25,V0,V1] [] [V2] [] (Bool) fun z=>((z,()),())
abbrev a9f:AF:=d9E fun x _=>y5 N x.1 x.2.1 x.2.2.1
theorem a0P:P7 52 (a9f N):=
 V5 h0 [] G7 Tryz.func52 rfl Tryz.call52 (a9f N) (fun x _=>x.1) (fun _ _=>rfl) N (fun _ _=>by kernel_rfl) rfl
def H9(_N:Nat)(a:List τ0×Int×Int×Bool×Int):Option Int:=br (decide (a.2.1<(a.1.length:Int))) (f5 (l6 a.1 a.2.1) fun b=>some b.2.2.2) (some a.2.2.1)
abbrev e3D:=P4 [.v τ25] [] [V0] [] (Int) fun z=>((z,()),())
abbrev d4Z:AF:=e3D fun x _=>H9 N x.1
theorem b6p:P7 54 (d4Z N):=
 V5 h0 [] G7 Tryz.func54 rfl Tryz.call54 (d4Z N) (fun x _=>x.1) (fun _ _=>rfl) N (fun _ _=>by kernel_rfl) rfl
def j5(m:Int)(o:c8)(a b:Int)(c:Bool)(e:Int)(g:List τ0)(l:List τ3):Option τ30:=f5 (y5 N (g,(a,(b,(c,e)))) m o) fun p=>br (p) (some (true,(IntKind.i64.wrap (a+1),(b,(c,(e,(g,l))))))) (some (false,(a,(b,(c,(e,(g,l)))))))
abbrev e3H(f:SV [.box 0 0,V0,V1]->BV [.cells [.row 1,V0,V0,V2,V0,.row 2],.row 42 τ1 false,.row 82 τ8 true]->Option τ30):AF:={ps:=[.box 0 0,V0,V1],bs:=[.cells [.row 1,V0,V0,V2,V0,.row 2],.row 42 τ1 false,.row 82 τ8 true],rs:=[V2],cs:=[.cells [.row 1,V0,V0,V2,V0,.row 2],.row 42 τ1 false,.row 82 τ8 true],R:=Bool×Int×Int×Bool×Int×List τ0×List τ3,out:=fun z=>((z.1,()),(((),z.2.1,z.2.2.1,z.2.2.2.1,z.2.2.2.2.1,(),()),z.2.2.2.2.2.1,z.2.2.2.2.2.2,())),f:=f}
abbrev b6q:AF:=e3H fun x y=>j5 N x.2.1 x.2.2.1 y.1.2.1 y.1.2.2.1 y.1.2.2.2.1 y.1.2.2.2.2.1 y.2.1 y.2.2.1
theorem a0w:P7 93 (b6q N):=
 V5 h0 [(52,a9f N)] (v8 (a0P N) G7) Tryz.func93 rfl Tryz.call93 (b6q N) (fun x y=>(x.1,y.1.2.1,y.1.2.2.1,y.1.2.2.2.1,y.1.2.2.2.2.1,y.2.1,y.2.2.1)) (fun _ _=>rfl) N (fun _ _=>by kernel_rfl) rfl
def q8(a b:Int)(c:Bool)(g:Int)(e:List τ0)(l:List τ3):Option τ12:=br (!c) (f5 (H9 N (e,(a,(b,(c,g))))) fun m=>some (a,(b,(true,(m,(e,l)))))) (some (a,(b,(c,(g,(e,l))))))
abbrev e3C(f:SV [.box 0 0]->BV [.cells [.row 1,V0,V0,V2,V0,.row 2],.row 42 τ1 false,.row 82 τ8 true]->Option τ12):AF:={ps:=[.box 0 0],bs:=[.cells [.row 1,V0,V0,V2,V0,.row 2],.row 42 τ1 false,.row 82 τ8 true],rs:=[],cs:=[.cells [.row 1,V0,V0,V2,V0,.row 2],.row 42 τ1 false,.row 82 τ8 true],R:=Int×Int×Bool×Int×List τ0×List τ3,out:=fun z=>((),(((),z.1,z.2.1,z.2.2.1,z.2.2.2.1,(),()),z.2.2.2.2.1,z.2.2.2.2.2,())),f:=f}
abbrev c1R:AF:=e3C fun _ y=>q8 N y.1.2.1 y.1.2.2.1 y.1.2.2.2.1 y.1.2.2.2.2.1 y.2.1 y.2.2.1
theorem a28:P7 27 (c1R N):=
 V5 h0 [(54,d4Z N)] (v8 (b6p N) G7) Tryz.func27 rfl Tryz.call27 (c1R N) (fun _ y=>(y.1.2.1,y.1.2.2.1,y.1.2.2.2.1,y.1.2.2.2.2.1,y.2.1,y.2.2.1)) (fun _ _=>rfl) N (fun _ _=>by kernel_rfl) rfl
def r8(a e:Int)(c:Bool)(g:Int)(b:List τ0)(l:List τ3):Option τ20:=br (c) (f5 (q8 N a e c g b l) fun m=>some ([],m)) (br (decide (a>=(b.length:Int))) (f5 (q8 N a e c g b l) fun o=>some ([],o)) (f5 (l6 b a) fun p=>br (p.1 !=1) (f5 (q8 N a e c g b l) fun q=>some ([],q)) (f5 (l6 b a) fun r=>f5 (N7 N r.2.1) fun t=>br (!t) (f5 (q8 N a e c g b l) fun u=>some ([],u)) (f5 (l6 b (IntKind.i64.wrap ((IntKind.i64.wrap (a+1))-1))) fun v=>some (v.2.1,(IntKind.i64.wrap (a+1),(e,(c,(g,(b,l))))))))))
abbrev e3E(f:SV [.box 0 0]->BV [.cells [.row 1,V0,V0,V2,V0,.row 2],.row 42 τ1 false,.row 82 τ8 true]->Option τ20):AF:={ps:=[.box 0 0],bs:=[.cells [.row 1,V0,V0,V2,V0,.row 2],.row 42 τ1 false,.row 82 τ8 true],rs:=[V1],cs:=[.cells [.row 1,V0,V0,V2,V0,.row 2],.row 42 τ1 false,.row 82 τ8 true],R:=c8×Int×Int×Bool×Int×List τ0×List τ3,out:=fun z=>((z.1,()),(((),z.2.1,z.2.2.1,z.2.2.2.1,z.2.2.2.2.1,(),()),z.2.2.2.2.2.1,z.2.2.2.2.2.2,())),f:=f}
abbrev c4H:AF:=e3E fun _ y=>r8 N y.1.2.1 y.1.2.2.1 y.1.2.2.2.1 y.1.2.2.2.2.1 y.2.1 y.2.2.1
theorem a5x:P7 94 (c4H N):=
 V5 h0 [(27,c1R N),(149,b41 N)] (v8 (a28 N) (v8 (b1S N) G7)) Tryz.func94 rfl Tryz.call94 (c4H N) (fun x y=>(x.1,y.1.2.1,y.1.2.2.1,y.1.2.2.2.1,y.1.2.2.2.2.1,y.2.1,y.2.2.1)) (fun _ _=>rfl) N (fun _ _=>by kernel_rfl) rfl
def C9(b:Int)(c:c8)(e g:Int)(l:Bool)(m:Int)(o:List τ0)(p:List τ3):Option τ12:=f5 (j5 N b c e g l m o p) fun a=>br (!a.1) (f5 (q8 N a.2.1 a.2.2.1 a.2.2.2.1 a.2.2.2.2.1 a.2.2.2.2.2.1 a.2.2.2.2.2.2) fun q=>some q) (some a.2)
abbrev e3F(f:SV [.box 0 0,V0,V1]->BV [.cells [.row 1,V0,V0,V2,V0,.row 2],.row 42 τ1 false,.row 82 τ8 true]->Option τ12):AF:={ps:=[.box 0 0,V0,V1],bs:=[.cells [.row 1,V0,V0,V2,V0,.row 2],.row 42 τ1 false,.row 82 τ8 true],rs:=[],cs:=[.cells [.row 1,V0,V0,V2,V0,.row 2],.row 42 τ1 false,.row 82 τ8 true],R:=Int×Int×Bool×Int×List τ0×List τ3,out:=fun z=>((),(((),z.1,z.2.1,z.2.2.1,z.2.2.2.1,(),()),z.2.2.2.2.1,z.2.2.2.2.2,())),f:=f}
abbrev d7V:AF:=e3F fun x y=>C9 N x.2.1 x.2.2.1 y.1.2.1 y.1.2.2.1 y.1.2.2.2.1 y.1.2.2.2.2.1 y.2.1 y.2.2.1
theorem c1S:P7 97 (d7V N):=
 V5 h0 [(27,c1R N),(93,b6q N)] (v8 (a28 N) (v8 (a0w N) G7)) Tryz.func97 rfl Tryz.call97 (d7V N) (fun _ y=>(y.1.2.1,y.1.2.2.1,y.1.2.2.2.1,y.1.2.2.2.2.1,y.2.1,y.2.2.1)) (fun _ _=>rfl) N (fun _ _=>by kernel_rfl) rfl
def j7(a:c8)(b c:Int)(e:Bool)(g:Int)(l:List τ0)(m:List τ3):Option τ12:=f5 (C9 N 4 a b c e g l m) fun o=>some o
abbrev e3G(f:SV [.box 0 0,V1]->BV [.cells [.row 1,V0,V0,V2,V0,.row 2],.row 42 τ1 false,.row 82 τ8 true]->Option τ12):AF:={ps:=[.box 0 0,V1],bs:=[.cells [.row 1,V0,V0,V2,V0,.row 2],.row 42 τ1 false,.row 82 τ8 true],rs:=[],cs:=[.cells [.row 1,V0,V0,V2,V0,.row 2],.row 42 τ1 false,.row 82 τ8 true],R:=Int×Int×Bool×Int×List τ0×List τ3,out:=fun z=>((),(((),z.1,z.2.1,z.2.2.1,z.2.2.2.1,(),()),z.2.2.2.2.1,z.2.2.2.2.2,())),f:=f}
abbrev b9j:AF:=e3G fun x y=>j7 N x.2.1 y.1.2.1 y.1.2.2.1 y.1.2.2.2.1 y.1.2.2.2.2.1 y.2.1 y.2.2.1
theorem a2b:P7 100 (b9j N):=
 V5 h0 [(97,d7V N)] (v8 (c1S N) G7) Tryz.func100 rfl Tryz.call100 (b9j N) (fun _ y=>(y.1.2.1,y.1.2.2.1,y.1.2.2.2.1,y.1.2.2.2.2.1,y.2.1,y.2.2.1)) (fun _ _=>rfl) N (fun _ _=>by kernel_rfl) rfl
end
end
noncomputable section
noncomputable section
variable(N:Nat)
def b2c(k0 self:ρ20)(m o:Int)(l:Bool)(p:Int)(q:List τ0)(r:List τ3)(c:List c8):Option τ11:=br (!l) (br (decide ((c.length:Int)>0)) (f5 (r8 N m o l p q r) fun e=>br (decide ((c.length + [e.1].length)*(24*Ty.sz .str)<=140737488355328)) (f5 (j5 N 4 [44] e.2.1 e.2.2.1 e.2.2.2.1 e.2.2.2.2.1 e.2.2.2.2.2.1 e.2.2.2.2.2.2) fun a=>br (!a.1) (k0 a.2.1 a.2.2.1 a.2.2.2.1 a.2.2.2.2.1 a.2.2.2.2.2.1 a.2.2.2.2.2.2 (c ++ [e.1])) (self a.2.1 a.2.2.1 a.2.2.2.1 a.2.2.2.2.1 a.2.2.2.2.2.1 a.2.2.2.2.2.2 (c ++ [e.1]))) none) (f5 (y5 N (q,(m,(o,(l,p)))) 4 [41]) fun t=>br (!t) (f5 (r8 N m o l p q r) fun g=>br (decide ((c.length + [g.1].length)*(24*Ty.sz .str)<=140737488355328)) (f5 (j5 N 4 [44] g.2.1 g.2.2.1 g.2.2.2.1 g.2.2.2.2.1 g.2.2.2.2.2.1 g.2.2.2.2.2.2) fun b=>br (!b.1) (k0 b.2.1 b.2.2.1 b.2.2.2.1 b.2.2.2.2.1 b.2.2.2.2.2.1 b.2.2.2.2.2.2 (c ++ [g.1])) (self b.2.1 b.2.2.1 b.2.2.2.1 b.2.2.2.2.1 b.2.2.2.2.2.1 b.2.2.2.2.2.2 (c ++ [g.1]))) none) (k0 m o l p q r c))) (k0 m o l p q r c)
def a7Q(N:Nat)(k0:ρ20):Nat->Int->Int->Bool->Int->τ5->τ15->τ23->Option τ11|0,_,_,_,_,_,_,_=>none|n+1,a,b,c,e,g,l,m=>b2c N k0 (a7Q N k0 n) a b c e g l m
def I0(c e:Int)(g:Bool)(l:Int)(m:List τ0)(o:List τ3):Option τ11:=f5 (j7 N [40] c e g l m o) fun a=>a7Q N (fun p q r t u v w=>f5 (j7 N [41] p q r t u v) fun b=>some (b.1,(b.2.1,(b.2.2.1,(b.2.2.2.1,(b.2.2.2.2.1,(b.2.2.2.2.2,w))))))) N a.1 a.2.1 a.2.2.1 a.2.2.2.1 a.2.2.2.2.1 a.2.2.2.2.2 []
abbrev e28(f:SV [.box 0 0]->BV [.cells [.row 1,V0,V0,V2,V0,.row 2],.row 42 τ1 false,.row 82 τ8 true]->Option τ11):AF:={ps:=[.box 0 0],bs:=[.cells [.row 1,V0,V0,V2,V0,.row 2],.row 42 τ1 false,.row 82 τ8 true],rs:=[.row 3],cs:=[.cells [.row 1,V0,V0,V2,V0,.row 2],.row 42 τ1 false,.row 82 τ8 true,.row 9 .str false],R:=Int×Int×Bool×Int×List τ0×List τ3×List c8,out:=fun z=>(((),()),(((),z.1,z.2.1,z.2.2.1,z.2.2.2.1,(),()),z.2.2.2.2.1,z.2.2.2.2.2.1,z.2.2.2.2.2.2,())),f:=f}
abbrev d3T:AF:=e28 fun _ y=>I0 N y.1.2.1 y.1.2.2.1 y.1.2.2.2.1 y.1.2.2.2.2.1 y.2.1 y.2.2.1
abbrev d3U:SV [.row 3]->BV [.cells [.row 1,V0,V0,V2,V0,.row 2],.row 42 τ1 false,.row 82 τ8 true,.row 9 .str false]->τ11:=fun _ y=>(y.1.2.1,y.1.2.2.1,y.1.2.2.2.1,y.1.2.2.2.2.1,y.2.1,y.2.2.1,y.2.2.2.1)
def d8P:FuncId->Option Tmp->Option AF:=fun f _=>O5 [(52,a9f N),(93,b6q N),(94,c4H N),(100,b9j N)] f
theorem d3S:I8 (d8P N):=fun _ _ _ h=>o6 h (v8 (a0P N) (v8 (a0w N) (v8 (a5x N) (v8 (a2b N) G7))))
def c8D:Nat->Hint:=fun i=>
 match i with
 |0=>⟨[],[0,3],[0,1,2,1003],[0,3],[0,1,2,1003],[]⟩
 |_=>o3
abbrev b64:Env:=S9 c8D (d8P N) FF FF
noncomputable abbrev b8r:Code:=V7 (m9 Tryz.f95) [true,true,true,false,false,false]
abbrev c4s:=A8 (b64 N) Tryz.f95 (d3T N) d3U
abbrev a99:List (Nat×Sl):=[(0,.box 0 0),(3,.row 1003)]
abbrev a98:List (Nat×Sb):=[(0,.cells [.row 1,V0,V0,V2,V0,.row 2]),(1,.row 42 τ1 false),(2,.row 82 τ8 true),(1003,.row 9 .str false)]
def b51(a b:Int)(c:Bool)(e:Int)(g:List τ0)(l:List τ3)(m:List c8):St:=⟨34,[(0,.box 0 0),(3,.row 1003)],[(0,.cells [.row 1,.v τ2 a,.v τ2 b,.v .bool c,.v τ2 e,.row 2]),(1,.row 42 τ1 false g),(2,.row 82 τ8 true l),(1003,.row 9 .str false m)]⟩
def a65(a b:Int)(c:Bool)(e:Int)(g:List τ0)(l:List τ3)(m:List c8):St:=⟨34,[(0,.box 0 0),(3,.row 1003)],[(0,.cells [.row 1,.v τ2 a,.v τ2 b,.v .bool c,.v τ2 e,.row 2]),(1,.row 42 τ1 false g),(2,.row 82 τ8 true l),(1003,.row 9 .str false m)]⟩
def d7w(a b:Int)(c:Bool)(e:Int)(g:List τ0)(l:List τ3)(m:List c8)(k:Ex->St->Option τ11):Option τ11:=a7Q N (fun o p q r t u v=>k (.exit 0) (a65 o p q r t u v)) N a b c e g l m
abbrev c6j:FV a99->HV a98->(Ex->St->Option τ11)->Option τ11:=fun _ y k=>d7w N y.1.2.1 y.1.2.2.1 y.1.2.2.2.1 y.1.2.2.2.2.1 y.2.1 y.2.2.1 y.2.2.2.1 k
def b52:Nat->Code->St->(Ex->St->Option τ11)->Option τ11:=fun i c=>
 match i with
 |0=>(LPc 34 a99 a98 (c6j N) (fun st k=>iter (c8D 0) (k6 (b64 N) N c 0) N st k))
 |i=>fun st k=>iter (c8D i) (k6 (b64 N) N c i) N st k
theorem c4r(KX:Nat->St->Option τ11)(I:St->Option τ11)(a b:Int)(c:Bool)(e:Int)(g:List τ0)(l:List τ3)(m:List c8):
  k7 (b52 N) (b64 N) b8r 0 (b51 a b c e g l m) (p6 (c8D 0) I KX (c4s N))=b2c N (fun o p q r t u v=>KX 0 (a65 o p q r t u v)) (fun a b c e g l m=>I (b51 a b c e g l m)) a b c e g l m:=by kernel_rfl
theorem d3R:∀x y k,(∀st,k .ret st=(c4s N) st)->iter (c8D 0) (k6 (b64 N) N b8r 0) N ⟨34,Y7 a99 x,Y8 a98 y⟩ k=c6j N x y k:=fun _ y k hk=>
 j9 (S:=(Int)×(Int)×(Bool)×(Int)×τ5×τ15×τ23×Unit) (c8D 0) _ (k7 (b52 N) (b64 N) b8r 0) (c4s N) (k9 _ _ N _ b8r 0 (show LoopsOk (b52 N) (b64 N) N (c4s N) []from trivial)) (fun s=>b51 s.1 s.2.1 s.2.2.1 s.2.2.2.1 s.2.2.2.2.1 s.2.2.2.2.2.1 s.2.2.2.2.2.2.1) k hk
  (fun self s=>b2c N (fun a b c e g l m=>k (.exit 0) (a65 a b c e g l m)) (fun o p q r t u v=>self (o,p,q,r,t,u,v,())) s.1 s.2.1 s.2.2.1 s.2.2.2.1 s.2.2.2.2.1 s.2.2.2.2.2.1 s.2.2.2.2.2.2.1) (fun n s=>a7Q N (fun a b c e g l m=>k (.exit 0) (a65 a b c e g l m)) n s.1 s.2.1 s.2.2.1 s.2.2.2.1 s.2.2.2.2.1 s.2.2.2.2.2.1 s.2.2.2.2.2.2.1) (fun _=>rfl) (fun _ _=>rfl)
  (fun I s=>c4r N (fun j=>k (.exit j)) I s.1 s.2.1 s.2.2.1 s.2.2.2.1 s.2.2.2.2.1 s.2.2.2.2.2.1 s.2.2.2.2.2.2.1) N (y.1.2.1,y.1.2.2.1,y.1.2.2.2.1,y.1.2.2.2.2.1,y.2.1,y.2.2.1,y.2.2.2.1,())
theorem e0M:F7 (b52 N) (b64 N) N (c4s N) 0 b8r:=fun st k hk=>p8 34 a99 a98 _ _ (c4s N) (d3R N) _ st k hk (rfl)
theorem d7x(x:SV [.box 0 0])(y:BV [.cells [.row 1,V0,V0,V2,V0,.row 2],.row 42 τ1 false,.row 82 τ8 true]):F5 (b64 N) Tryz.f95 (d3T N) d3U (b52 N) x y=I0 N y.1.2.1 y.1.2.2.1 y.1.2.2.2.1 y.1.2.2.2.2.1 y.2.1 y.2.2.1:=by kernel_rfl
theorem d3V:P7 95 (d3T N):=
 a1X (d3S N) Tryz.func95 rfl Tryz.call95 (d3T N) d3U (fun _ _=>rfl) N (b52 N) (show LoopsOk (b52 N) (b64 N) N (c4s N) [(0,b8r)]from⟨e0M N,trivial⟩) (d7x N)
abbrev b2K:=P4 [.box 0 0,V0] [.cells [.row 1,V0,V0,V2,V0,.row 2],.row 42 τ1 false,.row 82 τ8 true] [.v τ6] [.cells [.row 1,V0,V0,V2,V0,.row 2],.row 42 τ1 false,.row 82 τ8 true] (List GStmt×Int×Int×Bool×Int×List τ0×List τ3) fun z=>((z.1,()),(((),z.2.1,z.2.2.1,z.2.2.2.1,z.2.2.2.2.1,(),()),z.2.2.2.2.2.1,z.2.2.2.2.2.2,()))
def M6(b c e:Int)(g:Bool)(l:Int)(m:List τ0)(o:List τ3):Option τ12:=n7 (f5 (H9 N (m,(c,(e,(g,l))))) fun a=>br (decide ((o.length + [(a,b)].length)*(24*Ty.sz τ8)<=140737488355328)) (some (c,(e,(g,(l,(m,o ++ [(a,b)])))))) none) (f5 (H9 N (m,(c,(e,(g,l))))) fun a=>j0 2 (br (decide ((o.length + [(a,b)].length)*(24*Ty.sz τ8)<=140737488355328)) (some (c,(e,(g,(l,(m,o ++ [(a,b)])))))) none))
abbrev e27(f:SV [.box 0 0,V0]->BV [.cells [.row 1,V0,V0,V2,V0,.row 2],.row 42 τ1 false,.row 82 τ8 true]->Option τ12):AF:={ps:=[.box 0 0,V0],bs:=[.cells [.row 1,V0,V0,V2,V0,.row 2],.row 42 τ1 false,.row 82 τ8 true],rs:=[],cs:=[.cells [.row 1,V0,V0,V2,V0,.row 2],.row 42 τ1 false,.row 82 τ8 true],R:=Int×Int×Bool×Int×List τ0×List τ3,out:=fun z=>((),(((),z.1,z.2.1,z.2.2.1,z.2.2.2.1,(),()),z.2.2.2.2.1,z.2.2.2.2.2,())),f:=f}
abbrev d7v:AF:=e27 fun x y=>M6 N x.2.1 y.1.2.1 y.1.2.2.1 y.1.2.2.2.1 y.1.2.2.2.2.1 y.2.1 y.2.2.1
def d3P:FuncId->Option Tmp->Option AF:=fun f _=>O5 [(54,d4Z N)] f
theorem d3Q:I8 (d3P N):=fun _ _ _ h=>o6 h (v8 (b6p N) G7)
def e26:Nat->Hint:=fun i=>
 match i with
 |100000=>⟨[],[1,2],[],[],[],[]⟩
 |_=>o3
abbrev e5f:Env:=S9 e26 (d3P N) (fun i=>match i with|14=>true|_=>false) (fun _=>false)
theorem c1I:P7 92 (d7v N):=
 a1W (e5f N) (y6 e26 (d3P N) _ _ (d3Q N)) Tryz.func92 rfl Tryz.call92 (d7v N) (fun _ y=>(y.1.2.1,y.1.2.2.1,y.1.2.2.2.1,y.1.2.2.2.2.1,y.2.1,y.2.2.1)) (fun _ _=>rfl) N (fun _ _=>by kernel_rfl) rfl
abbrev a4A:=P4 [.box 0 0,V0] [.cells [.row 1,V0,V0,V2,V0,.row 2],.row 42 τ1 false,.row 82 τ8 true] [.v τ4] [.cells [.row 1,V0,V0,V2,V0,.row 2],.row 42 τ1 false,.row 82 τ8 true] (GExpr×Int×Int×Bool×Int×List τ0×List τ3) fun z=>((z.1,()),(((),z.2.1,z.2.2.1,z.2.2.2.1,z.2.2.2.2.1,(),()),z.2.2.2.2.2.1,z.2.2.2.2.2.2,()))
def I1(a e:Int)(c:Bool)(g:Int)(b:List τ0)(l:List τ3):Option τ20:=br (c) (f5 (q8 N a e c g b l) fun m=>some ([],m)) (br (decide (a>=(b.length:Int))) (f5 (q8 N a e c g b l) fun o=>some ([],o)) (f5 (l6 b a) fun p=>br (p.1 !=2) (f5 (q8 N a e c g b l) fun q=>some ([],q)) (f5 (l6 b (IntKind.i64.wrap ((IntKind.i64.wrap (a+1))-1))) fun r=>some (r.2.1,(IntKind.i64.wrap (a+1),(e,(c,(g,(b,l)))))))))
abbrev e3I(f:SV [.box 0 0]->BV [.cells [.row 1,V0,V0,V2,V0,.row 2],.row 42 τ1 false,.row 82 τ8 true]->Option τ20):AF:={ps:=[.box 0 0],bs:=[.cells [.row 1,V0,V0,V2,V0,.row 2],.row 42 τ1 false,.row 82 τ8 true],rs:=[V1],cs:=[.cells [.row 1,V0,V0,V2,V0,.row 2],.row 42 τ1 false,.row 82 τ8 true],R:=c8×Int×Int×Bool×Int×List τ0×List τ3,out:=fun z=>((z.1,()),(((),z.2.1,z.2.2.1,z.2.2.2.1,z.2.2.2.2.1,(),()),z.2.2.2.2.2.1,z.2.2.2.2.2.2,())),f:=f}
abbrev d7W:AF:=e3I fun _ y=>I1 N y.1.2.1 y.1.2.2.1 y.1.2.2.2.1 y.1.2.2.2.2.1 y.2.1 y.2.2.1
theorem c1T:P7 99 (d7W N):=
 V5 h0 [(27,c1R N)] (v8 (a28 N) G7) Tryz.func99 rfl Tryz.call99 (d7W N) (fun x y=>(x.1,y.1.2.1,y.1.2.2.1,y.1.2.2.2.1,y.1.2.2.2.2.1,y.2.1,y.2.2.1)) (fun _ _=>rfl) N (fun _ _=>by kernel_rfl) rfl
end
end
end Go.Proofs.YtolpmfhiegpohaaGreatDoor
