/- % -/
import Derived.Test.YtckdohagilcloaaGreatDoorQWeF10
namespace Go.Proofs.YtckdohagilcloaaGreatDoor
set_option maxRecDepth 100000
set_option linter.unusedVariables false
open Go Go.RowKit
noncomputable section
noncomputable section
variable(N:Nat)
def N5(a8:ρ14)(a:Int)(b:d3)(c:List GStmt)(e:List UInt8):Option τ23:=br (decide (b.length+([32,123]:d3).length<=9223372036854775807)) (k8 (B6 N a (b ++ [32,123]) e) fun g=>k8 (a8 (IntKind.i64.wrap (a+1)) c g) fun l=>some l) none
abbrev f3C(f:SV [.box 0 0,V0,V1,V5]->BV [.bld 89 [.row 1],.row 5 .u8 true]->Option τ23):AF:={ps:=[.box 0 0,V0,V1,V5],bs:=[.bld 89 [.row 1],.row 5 .u8 true],rs:=[],cs:=[.bld 89 [.row 1],.row 5 .u8 true],R:=List UInt8,out:=fun z=>((),((),()),z,()),f:=f}
abbrev e89(a8:ρ14):AF:=f3C fun x y=>N5 N a8 x.2.1 x.2.2.1 x.2.2.2.1 y.2.1
def d8I(a8:ρ14):FuncId->Option Tmp->Option AF:=fun f _=>P0 [(28,b72 fun x y=>a8 x.2.1 x.2.2.1 y.2.1),(57,e22 N)] f
theorem d8J(a8:ρ14)(A3:Sound Tryz.prog GW x6 28 (b72 fun x y=>a8 x.2.1 x.2.2.1 y.2.1)):∀f q F,d8I N a8 f q=some F->Sound Tryz.prog GW x6 f F:=fun _ _ _ h=>r9 h (u4 (A3) (u4 (c3W N) F1))
def f3B:Nat->Hint:=fun i=>
 match i with
 |_=>o5
abbrev f7h(a8:ρ14):Env:=M5 f3B (d8I N a8) (fun _=>false) (fun _=>false)
theorem d8K(a8:ρ14)(A3:Sound Tryz.prog GW x6 28 (b72 fun x y=>a8 x.2.1 x.2.2.1 y.2.1)):Sound Tryz.prog GW x6 61 (e89 N a8):=
 T5 (f7h N a8) (t6 f3B (d8I N a8) _ _ (d8J N a8 A3)) Tryz.func61 Tryz.call61 (e89 N a8) (fun _ y=>y.2.1) N
def a8X(a8:ρ14)(g:List (d3×GExpr))(l:Int)(k3:τ24->Option τ23)(self:Int->τ24->Option τ23)(b:Int)(c:List d3):Option τ23:=br (decide (b<l)) (k8 (n8 g b) fun a=>br (decide (a.1.length+([32,61,32]:d3).length<=9223372036854775807)) (k8 (w8 N N (Ze a.2)) fun e=>br (decide ((a.1 ++ [32,61,32]).length+e.length<=9223372036854775807)) (br (Zf (c.length + [(a.1 ++ [32,61,32])++e].length) .str) (self (IntKind.i64.wrap (b+1)) (c ++ [(a.1 ++ [32,61,32])++e])) none) none) none) (k3 c)
def c2K(N:Nat)(a8:ρ14)(a:List (d3×GExpr))(b:Int)(k3:τ24->Option τ23):Nat->Int->τ24->Option τ23|0,_,_=>none|n+1,c,e=>a8X N a8 a b k3 (c2K N a8 a b k3 n) c e
def a7d(a8:ρ14)(b:Int)(t:List GStmt)(u:Int)(k0:τ23->Option τ23)(self:Int->τ23->Option τ23)(c:Int)(e:List UInt8):Option τ23:=br (decide (c<u)) (k8 (n8 t c) fun a=>br (a.kind==1) (br (decide (a.name.length+([32,61,32]:d3).length<=9223372036854775807)) (k8 (w8 N N (Ze a.expr)) fun g=>br (decide ((a.name ++ [32,61,32]).length+g.length<=9223372036854775807)) (br (decide (((a.name ++ [32,61,32])++g).length+([59]:d3).length<=9223372036854775807)) (k8 (B6 N b (((a.name ++ [32,61,32])++g) ++ [59]) e) fun v=>self (IntKind.i64.wrap (c+1)) v) none) none) none) (br (a.kind==2) (c2K N a8 a.args (a.args.length:Int) (fun w=>br (decide (a.name.length+([40]:d3).length<=9223372036854775807)) (k8 (strings_Join w [44,32]) fun l=>br (decide ((a.name ++ [40]).length+l.length<=9223372036854775807)) (br (decide (((a.name ++ [40])++l).length+([41,59]:d3).length<=9223372036854775807)) (k8 (B6 N b (((a.name ++ [40])++l) ++ [41,59]) e) fun B=>self (IntKind.i64.wrap (c+1)) B) none) none) none) N 0 []) (br (a.kind==6) (k8 (J2 a.text) fun m=>br (decide (([117,115,101,32]:d3).length+m.length<=9223372036854775807)) (br (decide (([117,115,101,32]++m).length+([59]:d3).length<=9223372036854775807)) (k8 (B6 N b (([117,115,101,32]++m) ++ [59]) e) fun C=>self (IntKind.i64.wrap (c+1)) C) none) none) (br (a.kind==3) (br (decide (([109,97,99,114,111,32]:d3).length+a.name.length<=9223372036854775807)) (br (decide (([109,97,99,114,111,32]++a.name).length+([40]:d3).length<=9223372036854775807)) (k8 (strings_Join a.params [44,32]) fun o=>br (decide ((([109,97,99,114,111,32]++a.name) ++ [40]).length+o.length<=9223372036854775807)) (br (decide (((([109,97,99,114,111,32]++a.name) ++ [40])++o).length+([41]:d3).length<=9223372036854775807)) (k8 (N5 N a8 b (((([109,97,99,114,111,32]++a.name) ++ [40])++o) ++ [41]) a.body e) fun D=>k8 (B6 N b [125] D) fun E=>self (IntKind.i64.wrap (c+1)) E) none) none) none) none) (br (a.kind==4) (br (decide (([102,111,114,32]:d3).length+a.name.length<=9223372036854775807)) (br (decide (([102,111,114,32]++a.name).length+([32,105,110,32]:d3).length<=9223372036854775807)) (k8 (w8 N N (Ze a.expr)) fun p=>br (decide ((([102,111,114,32]++a.name) ++ [32,105,110,32]).length+p.length<=9223372036854775807)) (k8 (N5 N a8 b ((([102,111,114,32]++a.name) ++ [32,105,110,32])++p) a.body e) fun H=>k8 (B6 N b [125] H) fun J=>self (IntKind.i64.wrap (c+1)) J) none) none) none) (br (a.kind==5) (k8 (w8 N N (Ze a.expr)) fun q=>br (decide (([105,102,32]:d3).length+q.length<=9223372036854775807)) (k8 (N5 N a8 b ([105,102,32]++q) a.body e) fun r=>br (decide ((a.els.length:Int)>0)) (k8 (N5 N a8 b [125,32,101,108,115,101] a.els r) fun K=>k8 (B6 N b [125] K) fun L=>self (IntKind.i64.wrap (c+1)) L) (k8 (B6 N b [125] r) fun O=>self (IntKind.i64.wrap (c+1)) O)) none) (self (IntKind.i64.wrap (c+1)) e))))))) (k0 e)
def c2J(N:Nat)(a8:ρ14)(a:Int)(b:List GStmt)(c:Int)(k0:τ23->Option τ23):Nat->Int->τ23->Option τ23|0,_,_=>none|n+1,e,g=>a7d N a8 a b c k0 (c2J N a8 a b c k0 n) e g
def I9(a8:ρ14)(b:Int)(a:List GStmt)(c:List UInt8):Option τ23:=c2J N a8 b a (a.length:Int) (fun e=>some e) N 0 c
abbrev f1s(f:SV [.box 0 0,V0,V5]->BV [.bld 89 [.row 1],.row 5 .u8 true]->Option τ23):AF:={ps:=[.box 0 0,V0,V5],bs:=[.bld 89 [.row 1],.row 5 .u8 true],rs:=[],cs:=[.bld 89 [.row 1],.row 5 .u8 true],R:=List UInt8,out:=fun z=>((),((),()),z,()),f:=f}
abbrev e7q(a8:ρ14):AF:=f1s fun x y=>I9 N a8 x.2.1 x.2.2.1 y.2.1
abbrev e38:SV []->BV [.bld 89 [.row 1],.row 5 .u8 true]->τ23:=fun _ y=>y.2.1
def d5J(a8:ρ14):FuncId->Option Tmp->Option AF:=fun f _=>P0 [(57,e22 N),(58,a3O fun x _=>w8 N N x.1),(59,c3g),(60,d58 fun x _=>J2 x.1),(61,e89 N a8)] f
theorem d5K(a8:ρ14)(A3:Sound Tryz.prog GW x6 28 (b72 fun x y=>a8 x.2.1 x.2.2.1 y.2.1)):∀f q F,d5J N a8 f q=some F->Sound Tryz.prog GW x6 f F:=fun _ _ _ h=>r9 h (u4 (c3W N) (u4 (b7V N N) (u4 (a4M) (u4 (b7t) (u4 (d8K N a8 A3) F1)))))
def d04:Nat->Hint:=fun i=>
 match i with
 |0=>⟨[],[0,1,11,12,13],[0,1],[],[0,1],[]⟩
 |3=>⟨[],[0,1,7,8,11,12,13,35,36,37],[0,1,1007,1008],[0,1,7,8,11,12,13],[0,1,1007,1008],[]⟩
 |100005=>⟨[1007],[],[],[],[],[]⟩
 |100011=>⟨[1010],[],[],[],[],[]⟩
 |100013=>⟨[1007],[],[],[],[],[]⟩
 |100017=>⟨[1007],[],[],[],[],[]⟩
 |100020=>⟨[1007],[],[],[],[],[]⟩
 |100023=>⟨[1007],[],[],[],[],[]⟩
 |_=>o5
abbrev b9T(a8:ρ14):Env:=M5 d04 (d5J N a8) (fun _=>false) (fun _=>false)
abbrev d03(a8:ρ14):=B4 (b9T N a8) Tryz.f28 (e7q N a8) e38
noncomputable abbrev f1r:Code:=P9 (m8 Tryz.f28) [true,false,false,true,true,false,false,true,true,false,true,true,true,false,true,false,true,false,false]
noncomputable abbrev c2N:Code:=P9 (m8 Tryz.f28) [true,false,false]
abbrev c2L:List (Nat×Sl):=[(0,.box 0 0),(1,V0),(7,.box 1007 0),(8,.row 1008),(11,V5),(12,V0),(13,V0),(35,.v τ29),(36,V0),(37,V0)]
abbrev b4H:List (Nat×Sb):=[(0,.bld 89 [.row 1]),(1,.row 5 .u8 true),(1007,.cells [V0,V1,V1,V4,.v τ29,V0,V1,V0,V4,.v (.sl O1),V5,V5,V0]),(1008,.row 9 .str false)]
def b7p(x:FV c2L)(y:HV b4H):St:=⟨133,[(0,.box 0 0),(1,.v τ3 x.2.1),(7,.box 1007 0),(8,.row 1008),(11,.v τ15 x.2.2.2.2.1),(12,.v τ3 x.2.2.2.2.2.1),(13,.v τ3 x.2.2.2.2.2.2.1)],unH b4H y⟩
def c7q(a8:ρ14):T9 (τ23) c2L b4H:=fun K n x y=>c2K N a8 x.2.2.2.2.2.2.2.1 x.2.2.2.2.2.2.2.2.1 (fun a=>K 3 (b7p x (y.1,y.2.1,y.2.2.1,a,y.2.2.2.2))) n x.2.2.2.2.2.2.2.2.2.1 y.2.2.2.1
abbrev a9U:List (Nat×Sl):=[(0,.box 0 0),(1,V0),(11,V5),(12,V0),(13,V0)]
abbrev a9T:List (Nat×Sb):=[(0,.bld 89 [.row 1]),(1,.row 5 .u8 true)]
def b4G(a:Int)(b:List GStmt)(c e:Int)(g:List UInt8):St:=⟨133,[(0,.box 0 0),(1,.v τ3 a),(11,.v τ15 b),(12,.v τ3 c),(13,.v τ3 e)],[(0,.bld 89 [.row 1]),(1,.row 5 .u8 true g)]⟩
def a7H(_b:Int)(_c:List GStmt)(_e:Int)(a:List UInt8):St:=⟨133,[],[(0,.bld 89 [.row 1]),(1,.row 5 .u8 true a)]⟩
def e1K(a8:ρ14)(a:Int)(b:List GStmt)(c e:Int)(g:List UInt8)(k:Ex->St->Option τ23):Option τ23:=c2J N a8 a b c (fun l=>k (.exit 0) (a7H a b c l)) N e g
abbrev c7p(a8:ρ14):FV a9U->HV a9T->(Ex->St->Option τ23)->Option τ23:=fun x y k=>e1K N a8 x.2.1 x.2.2.1 x.2.2.2.1 x.2.2.2.2.1 y.2.1 k
def c2M(a8:ρ14):Nat->Code->St->(Ex->St->Option τ23)->Option τ23:=fun i c=>
 match i with
 |0=>(LPc 133 a9U a9T (c7p N a8) (fun st k=>iter (d04 0) (Q0 (b9T N a8) N c 0) N st k))
 |3=>U4 (b9T N a8) N 133 (c7q N a8) 3 c
 |i=>LpD (b9T N a8) N i c
theorem d5L(a8:ρ14):B2 (c2M N a8) (b9T N a8) N (d03 N a8) 3 f1r:=
 o0 (c7q N a8) (fun K f x y=>a8X N a8 x.2.2.2.2.2.2.2.1 x.2.2.2.2.2.2.2.2.1 (fun a=>K 3 (b7p x (y.1,y.2.1,y.2.2.1,a,y.2.2.2.2))) (fun b c=>f (x.1,x.2.1,x.2.2.1,x.2.2.2.1,x.2.2.2.2.1,x.2.2.2.2.2.1,x.2.2.2.2.2.2.1,x.2.2.2.2.2.2.2.1,x.2.2.2.2.2.2.2.2.1,b,x.2.2.2.2.2.2.2.2.2.2) (y.1,y.2.1,y.2.2.1,c,y.2.2.2.2)) x.2.2.2.2.2.2.2.2.2.1 y.2.2.2.1)
theorem c5G(a8:ρ14)(a:Int)(b:List GStmt)(c:Int)(KX:Nat->St->Option τ23)(I:St->Option τ23)(e:Int)(w1_1:List UInt8):
  Q4 (c2M N a8) (b9T N a8) c2N 0 (b4G a b c e w1_1) (a2M (d04 0) I KX (d03 N a8))=a7d N a8 a b c (fun g=>KX 0 (a7H a b c g)) (fun e w1_1=>I (b4G a b c e w1_1)) e w1_1:=by kernel_rfl
theorem d5I(a8:ρ14):∀x y k,(∀st,k .ret st=(d03 N a8) st)->iter (d04 0) (Q0 (b9T N a8) N c2N 0) N ⟨133,unF a9U x,unH a9T y⟩ k=c7p N a8 x y k:=fun x y k hk=>
 a0D (S:=(Int)×τ23×Unit) (d04 0) _ (Q4 (c2M N a8) (b9T N a8) c2N 0) (d03 N a8) (a0V _ _ N _ c2N 0 (P5 (d5L N a8) U6)) (fun s=>b4G x.2.1 x.2.2.1 x.2.2.2.1 s.1 s.2.1) k hk
  (fun self s=>a7d N a8 x.2.1 x.2.2.1 x.2.2.2.1 (fun a=>k (.exit 0) (a7H x.2.1 x.2.2.1 x.2.2.2.1 a)) (fun b c=>self (b,c,())) s.1 s.2.1) (fun n s=>c2J N a8 x.2.1 x.2.2.1 x.2.2.2.1 (fun a=>k (.exit 0) (a7H x.2.1 x.2.2.1 x.2.2.2.1 a)) n s.1 s.2.1) (fun _=>rfl) (fun _ _=>rfl)
  (fun I s=>c5G N a8 x.2.1 x.2.2.1 x.2.2.2.1 (fun j=>k (.exit j)) I s.1 s.2.1) N (x.2.2.2.2.1,y.2.1,())
theorem e7r(a8:ρ14):B2 (c2M N a8) (b9T N a8) N (d03 N a8) 0 c2N:=fun st k hk=>a4P 133 a9U a9T _ _ (d03 N a8) (d5I N a8) _ st k hk (rfl)
theorem d5M(a8:ρ14)(A3:Sound Tryz.prog GW x6 28 (b72 fun x y=>a8 x.2.1 x.2.2.1 y.2.1)):Sound Tryz.prog GW x6 28 (e7q N a8):=
 a0l (t6 d04 (d5J N a8) _ _ (d5K N a8 A3)) Tryz.func28 Tryz.call28 (e7q N a8) e38 N (c2M N a8) (P5 (e7r N a8) (P5 (d5L N a8) U6))
def u6(N:Nat):Nat->Int->(List GStmt)->τ23->Option τ23|0=>fun _ _ _=>none|d+1=>I9 N (u6 N d)
theorem c3q(N:Nat):∀d,Sound Tryz.prog GW x6 28 (b72 fun x y=>u6 N d x.2.1 x.2.2.1 y.2.1)
 |0=>Sound.never Tryz.call28 (fun _ _=>rfl)
 |d+1=>d5M N (u6 N d) (c3q N d)
end
end
noncomputable section
noncomputable section
variable(N:Nat)
def a0J(a:d3):Option Int:=br (decide ((a.length:Int)>1000)) (some (2:Int)) (k8 (J1 N a) fun b=>br (!b) (some (3:Int)) (some (0:Int)))
abbrev e6Q:=E3 [V1] [] [V0] [] (Int) fun z=>((z,()),())
abbrev d5c:AF:=e6Q fun x _=>a0J N x.1
theorem d0k:I6 175 (d5c N):=
 N9 h0 (u4 (a3o N) F1) Tryz.func175 Tryz.call175 (d5c N) (fun x _=>x.1) N
def a0S(_N:Nat)(a b:d3×GValue):Option Bool:=some (a.1==b.1)
abbrev f3M:=E3 [.v τ12,.v (.ptr τ12)] [] [V3] [] (Bool) fun z=>((z,()),())
abbrev e9e:AF:=f3M fun x _=>a0S N x.1 x.2.1
theorem d8T:I6 177 (e9e N):=
 N9 h0 F1 Tryz.func177 Tryz.call177 (e9e N) (fun x _=>x.1) N
def c0g(b:List τ9)(c:τ9×Unit)(e:Int)(k0:τ39)(self:ρ34)(a:Int):Option Int:=br (decide (a<e)) (k8 (n8 b a) fun g=>k8 (a0S N g c.1) fun l=>br (l) (some a) (self (IntKind.i64.wrap (a+1)))) (k0)
def d7p(N:Nat)(a:List τ9)(b:τ9×Unit)(c:Int)(k0:τ39):Nat->Int->Option Int|0,_=>none|n+1,e=>c0g N a b c k0 (d7p N a b c k0 n) e
def L3(a:List τ9)(b:τ9×Unit):Option Int:=d7p N a b (a.length:Int) (some (-1:Int)) N 0
abbrev f2q:=E3 [.v τ31,.v (.clo 177 (.pr (.ptr τ12) .un))] [] [V0] [] (Int) fun z=>((z,()),())
abbrev e8H:AF:=f2q fun x _=>L3 N x.1 x.2.1
abbrev e4D:SV [V0]->BV []->Int:=fun x _=>x.1
def e4C:FuncId->Option Tmp->Option AF:=fun f _=>P0 [(177,e9e N)] f
theorem d7s:H5 (e4C N):=fun _ _ _ h=>r9 h (u4 (d8T N) F1)
def f6I:Nat->Hint:=fun i=>
 match i with
 |0=>⟨[],[0,1,7,8],[],[],[],[]⟩
 |_=>o5
abbrev e2i:Env:=M5 f6I (e4C N) FF FF
noncomputable abbrev f2p:Code:=P9 (m8 Tryz.f221) [true,false,true,false,false]
abbrev f6H:=B4 (e2i N) Tryz.f221 (e8H N) e4D
abbrev d7r:List (Nat×Sl):=[(0,.v τ31),(1,.v (.clo 177 (.pr (.ptr τ12) .un))),(7,V0),(8,V0)]
abbrev d7q:List (Nat×Sb):=[]
def c77:T9 (Int) d7r d7q:=fun K n x y=>d7p N x.1 x.2.1 x.2.2.1 (K 0 ⟨19,[],[]⟩) n x.2.2.2.1
def e4B:Nat->Code->St->(Ex->St->Option Int)->Option Int:=fun i c=>
 match i with
 |0=>U4 (e2i N) N 19 (c77 N) 0 c
 |i=>LpD (e2i N) N i c
theorem e8I:B2 (e4B N) (e2i N) N (f6H N) 0 f2p:=
 o0 (c77 N) (fun K f x y=>c0g N x.1 x.2.1 x.2.2.1 (K 0 ⟨19,[],[]⟩) (fun a=>f (x.1,x.2.1,x.2.2.1,a,x.2.2.2.2) y) x.2.2.2.1)
theorem d7t:I6 221 (e8H N):=
 X0 (d7s N) Tryz.func221 Tryz.call221 (e8H N) e4D N (e4B N) (P5 (e8I N) U6)
def P3(a:List τ9)(b:τ9×Unit):Option Bool:=k8 (L3 N a b) fun c=>some (decide (c>=0))
abbrev f1l:=E3 [.v τ31,.v (.clo 177 (.pr (.ptr τ12) .un))] [] [V3] [] (Bool) fun z=>((z,()),())
abbrev e7b:AF:=f1l fun x _=>P3 N x.1 x.2.1
theorem d5r:I6 176 (e7b N):=
 N9 h0 (u4 (d7t N) F1) Tryz.func176 Tryz.call176 (e7b N) (fun x _=>x.1) N
def a0Q(_N:Nat)(a:d3):Option Bool:=some (decide ((a.length:Int)>1000))
abbrev f3J:=E3 [V1] [] [V3] [] (Bool) fun z=>((z,()),())
abbrev e9c:AF:=f3J fun x _=>a0Q N x.1
theorem d8R:I6 101 (e9c N):=
 N9 h0 F1 Tryz.func101 Tryz.call101 (e9c N) (fun x _=>x.1) N
def c8n(b:List d3)(c:Int)(k0:τ39)(self:ρ34)(a:Int):Option Int:=br (decide (a<c)) (k8 (n8 b a) fun e=>k8 (a0Q N e) fun g=>br (g) (some a) (self (IntKind.i64.wrap (a+1)))) (k0)
def e9f(N:Nat)(a:List d3)(b:Int)(k0:τ39):Nat->Int->Option Int|0,_=>none|n+1,c=>c8n N a b k0 (e9f N a b k0 n) c
def F7(a:List d3)(_b:Unit):Option Int:=e9f N a (a.length:Int) (some (-1:Int)) N 0
abbrev f7l:=E3 [V4,.v (.clo 101 .un)] [] [V0] [] (Int) fun z=>((z,()),())
abbrev z5g:AF:=f7l fun x _=>F7 N x.1 x.2.1
abbrev f3Q:SV [V0]->BV []->Int:=fun x _=>x.1
def f3O:FuncId->Option Tmp->Option AF:=fun f _=>P0 [(101,e9c N)] f
theorem e2H:H5 (f3O N):=fun _ _ _ h=>r9 h (u4 (d8R N) F1)
def z5h:Nat->Hint:=fun i=>
 match i with
 |0=>⟨[],[0,1,7,8],[],[],[],[]⟩
 |_=>o5
abbrev z5E:Env:=M5 z5h (f3O N) FF FF
abbrev z5R:=B4 (z5E N) Tryz.f174 (z5g N) f3Q
abbrev e2G:List (Nat×Sl):=[(0,V4),(1,.v (.clo 101 .un)),(7,V0),(8,V0)]
abbrev e2F:List (Nat×Sb):=[]
def d8U:T9 (Int) e2G e2F:=fun K n x y=>e9f N x.1 x.2.2.1 (K 0 ⟨19,[],[]⟩) n x.2.2.2.1
def f3N:Nat->Code->St->(Ex->St->Option Int)->Option Int:=fun i c=>
 match i with
 |0=>U4 (z5E N) N 19 (d8U N) 0 c
 |i=>LpD (z5E N) N i c
theorem f3P:B2 (f3N N) (z5E N) N (z5R N) 0 e29:=
 o0 (d8U N) (fun K f x y=>c8n N x.1 x.2.2.1 (K 0 ⟨19,[],[]⟩) (fun a=>f (x.1,x.2.1,x.2.2.1,a,x.2.2.2.2) y) x.2.2.2.1)
theorem e2I:I6 174 (z5g N):=
 X0 (e2H N) Tryz.func174 Tryz.call174 (z5g N) f3Q N (f3N N) (P5 (f3P N) U6)
def A5(a:List d3)(b:Unit):Option Bool:=k8 (F7 N a b) fun c=>some (decide (c>=0))
abbrev f6G:=E3 [V4,.v (.clo 101 .un)] [] [V3] [] (Bool) fun z=>((z,()),())
abbrev z1g:AF:=f6G fun x _=>A5 N x.1 x.2.1
theorem e2h:I6 100 (z1g N):=
 N9 h0 (u4 (e2I N) F1) Tryz.func100 Tryz.call100 (z1g N) (fun x _=>x.1) N
def a0R(a:d3):Option Bool:=k8 (J1 N a) fun b=>some (!b)
abbrev f3K:=E3 [V1] [] [V3] [] (Bool) fun z=>((z,()),())
abbrev e9d:AF:=f3K fun x _=>a0R N x.1
theorem d8S:I6 103 (e9d N):=
 N9 h0 (u4 (a3o N) F1) Tryz.func103 Tryz.call103 (e9d N) (fun x _=>x.1) N
def c8u(b:List d3)(c:Int)(k0:τ39)(self:ρ34)(a:Int):Option Int:=br (decide (a<c)) (k8 (n8 b a) fun e=>k8 (a0R N e) fun g=>br (g) (some a) (self (IntKind.i64.wrap (a+1)))) (k0)
def e9p(N:Nat)(a:List d3)(b:Int)(k0:τ39):Nat->Int->Option Int|0,_=>none|n+1,c=>c8u N a b k0 (e9p N a b k0 n) c
def F8(a:List d3)(_b:Unit):Option Int:=e9p N a (a.length:Int) (some (-1:Int)) N 0
abbrev f7w:=E3 [V4,.v (.clo 103 .un)] [] [V0] [] (Int) fun z=>((z,()),())
abbrev z6g:AF:=f7w fun x _=>F8 N x.1 x.2.1
abbrev f4g:SV [V0]->BV []->Int:=fun x _=>x.1
def f4e:FuncId->Option Tmp->Option AF:=fun f _=>P0 [(103,e9d N)] f
theorem e2T:H5 (f4e N):=fun _ _ _ h=>r9 h (u4 (d8S N) F1)
def z6h:Nat->Hint:=fun i=>
 match i with
 |0=>⟨[],[0,1,7,8],[],[],[],[]⟩
 |_=>o5
abbrev z6E:Env:=M5 z6h (f4e N) FF FF
abbrev z6R:=B4 (z6E N) Tryz.f174 (z6g N) f4g
abbrev e2S:List (Nat×Sl):=[(0,V4),(1,.v (.clo 103 .un)),(7,V0),(8,V0)]
abbrev e2R:List (Nat×Sb):=[]
def d9k:T9 (Int) e2S e2R:=fun K n x y=>e9p N x.1 x.2.2.1 (K 0 ⟨19,[],[]⟩) n x.2.2.2.1
def f4d:Nat->Code->St->(Ex->St->Option Int)->Option Int:=fun i c=>
 match i with
 |0=>U4 (z6E N) N 19 (d9k N) 0 c
 |i=>LpD (z6E N) N i c
theorem f4f:B2 (f4d N) (z6E N) N (z6R N) 0 e29:=
 o0 (d9k N) (fun K f x y=>c8u N x.1 x.2.2.1 (K 0 ⟨19,[],[]⟩) (fun a=>f (x.1,x.2.1,x.2.2.1,a,x.2.2.2.2) y) x.2.2.2.1)
theorem e2U:I6 174 (z6g N):=
 X0 (e2T N) Tryz.func174 Tryz.call174 (z6g N) f4g N (f4d N) (P5 (f4f N) U6)
def A6(a:List d3)(b:Unit):Option Bool:=k8 (F8 N a b) fun c=>some (decide (c>=0))
abbrev f6P:=E3 [V4,.v (.clo 103 .un)] [] [V3] [] (Bool) fun z=>((z,()),())
abbrev z2g:AF:=f6P fun x _=>A6 N x.1 x.2.1
theorem e2k:I6 100 (z2g N):=
 N9 h0 (u4 (e2U N) F1) Tryz.func100 Tryz.call100 (z2g N) (fun x _=>x.1) N
abbrev b8y:=E3 [.v τ31] [] [V0] [] (Int) fun z=>((z,()),())
end
end
end Go.Proofs.YtckdohagilcloaaGreatDoor
