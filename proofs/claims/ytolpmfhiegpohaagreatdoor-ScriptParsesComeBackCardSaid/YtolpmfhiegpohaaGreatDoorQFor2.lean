/- % -/
import Derived.Test.YtolpmfhiegpohaaGreatDoorQPaY
import Derived.Test.YtolpmfhiegpohaaGreatDoorQBmAl
import Derived.Test.YtolpmfhiegpohaaGreatDoorQPaF19
import Derived.Test.YtolpmfhiegpohaaGreatDoorQBmJ
namespace Go.Proofs.YtolpmfhiegpohaaGreatDoor
set_option maxRecDepth 100000
set_option linter.unusedVariables false
set_option linter.unusedSimpArgs false
open Go Go.RowKit
noncomputable section
noncomputable section
def a7m(N:Nat)(y0_0:d7)(k0:Int->Option τ9)(self:Int->Option τ9)(b0_1:Int):Option τ9:=br (decide (b0_1<(y0_0.length:Int))) (j8 (m6 y0_0 b0_1) fun t30=>j8 (U6 N t30) fun t31=>br (t31) (self (IntKind.i64.wrap (b0_1+(1:Int)))) (k0 b0_1)) (k0 b0_1)
def b5u(N:Nat)(y0_0:d7)(k0:Int->Option τ9):Nat->Int->Option τ9|0,_=>none|n+1,b0_1=>a7m N y0_0 k0 (b5u N y0_0 k0 n) b0_1
def O5(N:Nat)(_x1:Unit)(y0_0:d7)(y0_1:Int)(w1:List τ0):Option τ9:=b5u N y0_0 (fun o0_0_1=>j8 (slc y0_0 y0_1 o0_0_1) fun t49=>some (t49,y0_0,o0_0_1,w1)) N y0_1
abbrev d8k(f:SV [.box 0 0,.v (.clo 35 .un)]->BV [.cells [.v .str,.v τ2,.row 1],.row 42 τ1 false]->Option τ9):AF:={ps:=[.box 0 0,.v (.clo 35 .un)],bs:=[.cells [.v .str,.v τ2,.row 1],.row 42 τ1 false],rs:=[.v .str],cs:=[.cells [.v .str,.v τ2,.row 1],.row 42 τ1 false],R:=d7×d7×Int×List τ0,out:=fun z=>((z.1,()),(z.2.1,z.2.2.1,(),()),z.2.2.2,()),f:=f}
abbrev c8O(N:Nat):AF:=d8k fun x y=>O5 N x.2.1 y.1.1 y.1.2.1 y.2.1
abbrev c8P:SV [.v .str]->BV [.cells [.v .str,.v τ2,.row 1],.row 42 τ1 false]->τ9:=fun x y=>(x.1,y.1.1,y.1.2.1,y.2.1)
def d4o(N:Nat):FuncId->Option Tmp->Option AF:=fun f _=>lkF [(35,d6q N)] f
theorem c8N(N:Nat):X8 (d4o N):=fun _ _ _ h=>B9 h (L3 (c9R N) T8)
def c46:Nat->Hint:=fun i=>
 match i with
 |0=>⟨[],[0,1,5],[0,1],[0,5],[0,1],[]⟩
 |100002=>⟨[0,1],[1],[],[],[],[]⟩
 |100004=>⟨[0,1],[1],[],[],[],[]⟩
 |_=>y5
abbrev b4i(N:Nat):Env:=mkE c46 (d4o N) FF FF
noncomputable abbrev a4r:Code:=cAt (B3 Tryz.f34) [true,true,false,false,false]
abbrev c0Y(N:Nat):=L9 (b4i N) Tryz.f34 (c8O N) c8P
abbrev a8k:List (Nat×Sl):=[(0,.box 0 0),(1,.v (.clo 35 .un)),(5,.v τ2)]
abbrev a8j:List (Nat×Sb):=[(0,.cells [.v .str,.v τ2,.row 1]),(1,.row 42 τ1 false)]
def b2U(x1:Unit)(y0_1:Int)(y0_0:d7)(w1:List τ0)(b0_1:Int):St:=⟨50,[(0,.box 0 0),(1,.v (.clo 35 .un) x1),(5,.v τ2 y0_1)],[(0,.cells [.v .str y0_0,.v τ2 b0_1,.row 1]),(1,.row 42 τ1 false w1)]⟩
def a58(_x1:Unit)(y0_1:Int)(y0_0:d7)(w1:List τ0)(o0_0_1:Int):St:=⟨50,[(0,.box 0 0),(5,.v τ2 y0_1)],[(0,.cells [.v .str y0_0,.v τ2 o0_0_1,.row 1]),(1,.row 42 τ1 false w1)]⟩
def d2T(N:Nat)(x1:Unit)(y0_1:Int)(y0_0:d7)(w1:List τ0)(b0_1:Int)(k:Ex->St->Option τ9):Option τ9:=b5u N y0_0 (fun o0_0_1=>k (.exit 0) (a58 x1 y0_1 y0_0 w1 o0_0_1)) N b0_1
abbrev c3h(N:Nat):FV a8k->HV a8j->(Ex->St->Option τ9)->Option τ9:=fun x y k=>d2T N x.2.1 x.2.2.1 y.1.1 y.2.1 y.1.2.1 k
def b2V(N:Nat):Nat->Code->St->(Ex->St->Option τ9)->Option τ9:=fun i c=>
 match i with
 |0=>(LPc 50 a8k a8j (c3h N) (fun st k=>iter (c46 0) (o7 (b4i N) N c 0) N st k))
 |i=>fun st k=>iter (c46 i) (o7 (b4i N) N c i) N st k
theorem c0X(N:Nat)(x1:Unit)(y0_1:Int)(y0_0:d7)(w1:List τ0)(KX:Nat->St->Option τ9)(I:St->Option τ9)(b0_1:Int):
  p8 (b2V N) (b4i N) a4r 0 (b2U x1 y0_1 y0_0 w1 b0_1) (F9 (c46 0) I KX (c0Y N))=a7m N y0_0 (fun o0_0_1=>KX 0 (a58 x1 y0_1 y0_0 w1 o0_0_1)) (fun b0_1=>I (b2U x1 y0_1 y0_0 w1 b0_1)) b0_1:=by kernel_rfl
theorem c8M(N:Nat):∀x y k,(∀st,k .ret st=(c0Y N) st)->iter (c46 0) (o7 (b4i N) N a4r 0) N ⟨50,unF a8k x,unH a8j y⟩ k=c3h N x y k:=fun x y k hk=>
 p9 (S:=(Int)×Unit) (c46 0) _ (p8 (b2V N) (b4i N) a4r 0) (c0Y N) (u9 _ _ N _ a4r 0 (show LoopsOk (b2V N) (b4i N) N (c0Y N) []from trivial)) (fun s=>b2U x.2.1 x.2.2.1 y.1.1 y.2.1 s.1) k hk
  (fun self s=>a7m N y.1.1 (fun o0_0_1=>k (.exit 0) (a58 x.2.1 x.2.2.1 y.1.1 y.2.1 o0_0_1)) (fun b0_1=>self (b0_1,())) s.1) (fun n s=>b5u N y.1.1 (fun o0_0_1=>k (.exit 0) (a58 x.2.1 x.2.2.1 y.1.1 y.2.1 o0_0_1)) n s.1) (fun _=>rfl) (fun _ _=>rfl)
  (fun I s=>c0X N x.2.1 x.2.2.1 y.1.1 y.2.1 (fun j=>k (.exit j)) I s.1) N (y.1.2.1,())
theorem d6g(N:Nat):Z1 (b2V N) (b4i N) N (c0Y N) 0 a4r:=fun st k hk=>H3 50 a8k a8j _ _ (c0Y N) (c8M N) _ st k hk (rfl)
theorem d2U(N:Nat)(x:SV [.box 0 0,.v (.clo 35 .un)])(y:BV [.cells [.v .str,.v τ2,.row 1],.row 42 τ1 false]):V4 (b4i N) Tryz.f34 (c8O N) c8P (b2V N) x y=O5 N x.2.1 y.1.1 y.1.2.1 y.2.1:=by kernel_rfl
theorem c8Q(N:Nat):Snd 34 (c8O N):=
 a9J (c8N N) Tryz.func34 rfl Tryz.call34 (c8O N) c8P (fun _ _=>rfl) N (b2V N) (show LoopsOk (b2V N) (b4i N) N (c0Y N) [(0,a4r)]from⟨d6g N,trivial⟩) (d2U N)
def a7n(N:Nat)(y0_0:d7)(k0:Int->Option τ9)(self:Int->Option τ9)(b0_1:Int):Option τ9:=br (decide (b0_1<(y0_0.length:Int))) (j8 (m6 y0_0 b0_1) fun t30=>j8 (J6 N t30) fun t31=>br (t31) (self (IntKind.i64.wrap (b0_1+(1:Int)))) (k0 b0_1)) (k0 b0_1)
def b5v(N:Nat)(y0_0:d7)(k0:Int->Option τ9):Nat->Int->Option τ9|0,_=>none|n+1,b0_1=>a7n N y0_0 k0 (b5v N y0_0 k0 n) b0_1
def O6(N:Nat)(_x1:Unit)(y0_0:d7)(y0_1:Int)(w1:List τ0):Option τ9:=b5v N y0_0 (fun o0_0_1=>j8 (slc y0_0 y0_1 o0_0_1) fun t49=>some (t49,y0_0,o0_0_1,w1)) N y0_1
abbrev d8l(f:SV [.box 0 0,.v (.clo 36 .un)]->BV [.cells [.v .str,.v τ2,.row 1],.row 42 τ1 false]->Option τ9):AF:={ps:=[.box 0 0,.v (.clo 36 .un)],bs:=[.cells [.v .str,.v τ2,.row 1],.row 42 τ1 false],rs:=[.v .str],cs:=[.cells [.v .str,.v τ2,.row 1],.row 42 τ1 false],R:=d7×d7×Int×List τ0,out:=fun z=>((z.1,()),(z.2.1,z.2.2.1,(),()),z.2.2.2,()),f:=f}
abbrev c8T(N:Nat):AF:=d8l fun x y=>O6 N x.2.1 y.1.1 y.1.2.1 y.2.1
abbrev c8U:SV [.v .str]->BV [.cells [.v .str,.v τ2,.row 1],.row 42 τ1 false]->τ9:=fun x y=>(x.1,y.1.1,y.1.2.1,y.2.1)
def d4p(N:Nat):FuncId->Option Tmp->Option AF:=fun f _=>lkF [(36,c5h N)] f
theorem c8S(N:Nat):X8 (d4p N):=fun _ _ _ h=>B9 h (L3 (a8V N) T8)
def c47:Nat->Hint:=fun i=>
 match i with
 |0=>⟨[],[0,1,5],[0,1],[0,5],[0,1],[]⟩
 |100002=>⟨[0,1],[1],[],[],[],[]⟩
 |100004=>⟨[0,1],[1],[],[],[],[]⟩
 |_=>y5
abbrev b4j(N:Nat):Env:=mkE c47 (d4p N) FF FF
abbrev c00(N:Nat):=L9 (b4j N) Tryz.f34 (c8T N) c8U
abbrev a8m:List (Nat×Sl):=[(0,.box 0 0),(1,.v (.clo 36 .un)),(5,.v τ2)]
abbrev a8l:List (Nat×Sb):=[(0,.cells [.v .str,.v τ2,.row 1]),(1,.row 42 τ1 false)]
def b2W(x1:Unit)(y0_1:Int)(y0_0:d7)(w1:List τ0)(b0_1:Int):St:=⟨50,[(0,.box 0 0),(1,.v (.clo 36 .un) x1),(5,.v τ2 y0_1)],[(0,.cells [.v .str y0_0,.v τ2 b0_1,.row 1]),(1,.row 42 τ1 false w1)]⟩
def a59(_x1:Unit)(y0_1:Int)(y0_0:d7)(w1:List τ0)(o0_0_1:Int):St:=⟨50,[(0,.box 0 0),(5,.v τ2 y0_1)],[(0,.cells [.v .str y0_0,.v τ2 o0_0_1,.row 1]),(1,.row 42 τ1 false w1)]⟩
def d2V(N:Nat)(x1:Unit)(y0_1:Int)(y0_0:d7)(w1:List τ0)(b0_1:Int)(k:Ex->St->Option τ9):Option τ9:=b5v N y0_0 (fun o0_0_1=>k (.exit 0) (a59 x1 y0_1 y0_0 w1 o0_0_1)) N b0_1
abbrev c3i(N:Nat):FV a8m->HV a8l->(Ex->St->Option τ9)->Option τ9:=fun x y k=>d2V N x.2.1 x.2.2.1 y.1.1 y.2.1 y.1.2.1 k
def b2X(N:Nat):Nat->Code->St->(Ex->St->Option τ9)->Option τ9:=fun i c=>
 match i with
 |0=>(LPc 50 a8m a8l (c3i N) (fun st k=>iter (c47 0) (o7 (b4j N) N c 0) N st k))
 |i=>fun st k=>iter (c47 i) (o7 (b4j N) N c i) N st k
theorem c0Z(N:Nat)(x1:Unit)(y0_1:Int)(y0_0:d7)(w1:List τ0)(KX:Nat->St->Option τ9)(I:St->Option τ9)(b0_1:Int):
  p8 (b2X N) (b4j N) a4r 0 (b2W x1 y0_1 y0_0 w1 b0_1) (F9 (c47 0) I KX (c00 N))=a7n N y0_0 (fun o0_0_1=>KX 0 (a59 x1 y0_1 y0_0 w1 o0_0_1)) (fun b0_1=>I (b2W x1 y0_1 y0_0 w1 b0_1)) b0_1:=by kernel_rfl
theorem c8R(N:Nat):∀x y k,(∀st,k .ret st=(c00 N) st)->iter (c47 0) (o7 (b4j N) N a4r 0) N ⟨50,unF a8m x,unH a8l y⟩ k=c3i N x y k:=fun x y k hk=>
 p9 (S:=(Int)×Unit) (c47 0) _ (p8 (b2X N) (b4j N) a4r 0) (c00 N) (u9 _ _ N _ a4r 0 (show LoopsOk (b2X N) (b4j N) N (c00 N) []from trivial)) (fun s=>b2W x.2.1 x.2.2.1 y.1.1 y.2.1 s.1) k hk
  (fun self s=>a7n N y.1.1 (fun o0_0_1=>k (.exit 0) (a59 x.2.1 x.2.2.1 y.1.1 y.2.1 o0_0_1)) (fun b0_1=>self (b0_1,())) s.1) (fun n s=>b5v N y.1.1 (fun o0_0_1=>k (.exit 0) (a59 x.2.1 x.2.2.1 y.1.1 y.2.1 o0_0_1)) n s.1) (fun _=>rfl) (fun _ _=>rfl)
  (fun I s=>c0Z N x.2.1 x.2.2.1 y.1.1 y.2.1 (fun j=>k (.exit j)) I s.1) N (y.1.2.1,())
theorem d6h(N:Nat):Z1 (b2X N) (b4j N) N (c00 N) 0 a4r:=fun st k hk=>H3 50 a8m a8l _ _ (c00 N) (c8R N) _ st k hk (rfl)
theorem d2W(N:Nat)(x:SV [.box 0 0,.v (.clo 36 .un)])(y:BV [.cells [.v .str,.v τ2,.row 1],.row 42 τ1 false]):V4 (b4j N) Tryz.f34 (c8T N) c8U (b2X N) x y=O6 N x.2.1 y.1.1 y.1.2.1 y.2.1:=by kernel_rfl
theorem c8V(N:Nat):Snd 34 (c8T N):=
 a9J (c8S N) Tryz.func34 rfl Tryz.call34 (c8T N) c8U (fun _ _=>rfl) N (b2X N) (show LoopsOk (b2X N) (b4j N) N (c00 N) [(0,a4r)]from⟨d6h N,trivial⟩) (d2W N)
def a7k(_N:Nat)(c5:d7)(c21:Int)(k0:Int->Option τ8)(self:Int->Int->Option τ8)(s22:Int)(b1_2:Int):Option τ8:=br (decide (s22<c21)) (j8 (m6 c5 s22) fun t33=>self (IntKind.i64.wrap (s22+(1:Int))) (IntKind.i64.wrap ((IntKind.i64.wrap ((10:Int)*b1_2))+(IntKind.i64.wrap (UInt8.toNat (t33-(48:UInt8)):Int))))) (k0 b1_2)
def b5r(N:Nat)(c5:d7)(c21:Int)(k0:Int->Option τ8):Nat->Int->Int->Option τ8|0,_,_=>none|n+1,s22,b1_2=>a7k N c5 c21 k0 (b5r N c5 c21 k0 n) s22 b1_2
def Q7(N:Nat)(y0_0:d7)(y0_1:Int)(y1_0:Int)(y1_1:d7)(y1_2:Int)(y1_3:Int)(w2:List τ0):Option τ8:=j8 (O6 N () y0_0 y0_1 w2) fun t8=>br (decide ((t8.1.length:Int)>(1:Int))) (j8 (m6 t8.1 (0:Int)) fun t14=>br (t14==(48:UInt8)) (some ((10:Int),t8.2.1,t8.2.2.1,y1_0,y1_1,y1_2,y1_3,t8.2.2.2)) (br (decide ((t8.1.length:Int)>(9:Int))) (some ((2:Int),t8.2.1,t8.2.2.1,y1_0,y1_1,y1_2,y1_3,t8.2.2.2)) (b5r N t8.1 (t8.1.length:Int) (fun o0_1_2=>some ((0:Int),t8.2.1,t8.2.2.1,(3:Int),y1_1,o0_1_2,y1_3,t8.2.2.2)) N (0:Int) y1_2))) (br (decide ((t8.1.length:Int)>(9:Int))) (some ((2:Int),t8.2.1,t8.2.2.1,y1_0,y1_1,y1_2,y1_3,t8.2.2.2)) (b5r N t8.1 (t8.1.length:Int) (fun o0_1_2=>some ((0:Int),t8.2.1,t8.2.2.1,(3:Int),y1_1,o0_1_2,y1_3,t8.2.2.2)) N (0:Int) y1_2))
abbrev d7S(f:SV [.box 0 0,.box 1 0]->BV [.cells [.v .str,.v τ2,.row 2],.cells [.v τ2,.v .str,.v τ2,.v τ2],.row 42 τ1 false]->Option τ8):AF:={ps:=[.box 0 0,.box 1 0],bs:=[.cells [.v .str,.v τ2,.row 2],.cells [.v τ2,.v .str,.v τ2,.v τ2],.row 42 τ1 false],rs:=[.v τ2],cs:=[.cells [.v .str,.v τ2,.row 2],.cells [.v τ2,.v .str,.v τ2,.v τ2],.row 42 τ1 false],R:=Int×d7×Int×Int×d7×Int×Int×List τ0,out:=fun z=>((z.1,()),(z.2.1,z.2.2.1,(),()),(z.2.2.2.1,z.2.2.2.2.1,z.2.2.2.2.2.1,z.2.2.2.2.2.2.1,()),z.2.2.2.2.2.2.2,()),f:=f}
abbrev c76(N:Nat):AF:=d7S fun _ y=>Q7 N y.1.1 y.1.2.1 y.2.1.1 y.2.1.2.1 y.2.1.2.2.1 y.2.1.2.2.2.1 y.2.2.1
abbrev c77:SV [.v τ2]->BV [.cells [.v .str,.v τ2,.row 2],.cells [.v τ2,.v .str,.v τ2,.v τ2],.row 42 τ1 false]->τ8:=fun x y=>(x.1,y.1.1,y.1.2.1,y.2.1.1,y.2.1.2.1,y.2.1.2.2.1,y.2.1.2.2.2.1,y.2.2.1)
def d4m(N:Nat):FuncId->Option Tmp->Option AF:=fun f _=>lkF [(34,c8T N)] f
theorem c75(N:Nat):X8 (d4m N):=fun _ _ _ h=>B9 h (L3 (c8V N) T8)
def c43:Nat->Hint:=fun i=>
 match i with
 |0=>⟨[],[1,5,21,22],[0,1,2],[1],[0,1,2],[]⟩
 |100009=>⟨[1],[1],[],[],[],[]⟩
 |_=>y5
abbrev b4g(N:Nat):Env:=mkE c43 (d4m N) FF FF
noncomputable abbrev b5s:Code:=cAt (B3 Tryz.f37) [true,true,true,true,false,true,false,false]
abbrev c0R(N:Nat):=L9 (b4g N) Tryz.f37 (c76 N) c77
abbrev a8e:List (Nat×Sl):=[(1,.box 1 0),(5,.v .str),(21,.v τ2),(22,.v τ2)]
abbrev a8d:List (Nat×Sb):=[(0,.cells [.v .str,.v τ2,.row 2]),(1,.cells [.v τ2,.v .str,.v τ2,.v τ2]),(2,.row 42 τ1 false)]
def b2P(c5:d7)(c21:Int)(c0_0:d7)(c0_1:Int)(y1_0:Int)(y1_1:d7)(y1_3:Int)(cw2:List τ0)(s22:Int)(b1_2:Int):St:=⟨43,[(1,.box 1 0),(5,.v .str c5),(21,.v τ2 c21),(22,.v τ2 s22)],[(0,.cells [.v .str c0_0,.v τ2 c0_1,.row 2]),(1,.cells [.v τ2 y1_0,.v .str y1_1,.v τ2 b1_2,.v τ2 y1_3]),(2,.row 42 τ1 false cw2)]⟩
def a55(_c5:d7)(_c21:Int)(c0_0:d7)(c0_1:Int)(y1_0:Int)(y1_1:d7)(y1_3:Int)(cw2:List τ0)(o0_1_2:Int):St:=⟨43,[(1,.box 1 0)],[(0,.cells [.v .str c0_0,.v τ2 c0_1,.row 2]),(1,.cells [.v τ2 y1_0,.v .str y1_1,.v τ2 o0_1_2,.v τ2 y1_3]),(2,.row 42 τ1 false cw2)]⟩
def d2G(N:Nat)(c5:d7)(c21:Int)(c0_0:d7)(c0_1:Int)(y1_0:Int)(y1_1:d7)(y1_3:Int)(cw2:List τ0)(s22:Int)(b1_2:Int)(k:Ex->St->Option τ8):Option τ8:=b5r N c5 c21 (fun o0_1_2=>k (.exit 0) (a55 c5 c21 c0_0 c0_1 y1_0 y1_1 y1_3 cw2 o0_1_2)) N s22 b1_2
abbrev c29(N:Nat):FV a8e->HV a8d->(Ex->St->Option τ8)->Option τ8:=fun x y k=>d2G N x.2.1 x.2.2.1 y.1.1 y.1.2.1 y.2.1.1 y.2.1.2.1 y.2.1.2.2.2.1 y.2.2.1 x.2.2.2.1 y.2.1.2.2.1 k
def b2Q(N:Nat):Nat->Code->St->(Ex->St->Option τ8)->Option τ8:=fun i c=>
 match i with
 |0=>(LPc 43 a8e a8d (c29 N) (fun st k=>iter (c43 0) (o7 (b4g N) N c 0) N st k))
 |i=>fun st k=>iter (c43 i) (o7 (b4g N) N c i) N st k
theorem c0Q(N:Nat)(c5:d7)(c21:Int)(c0_0:d7)(c0_1:Int)(y1_0:Int)(y1_1:d7)(y1_3:Int)(cw2:List τ0)(KX:Nat->St->Option τ8)(I:St->Option τ8)(s22:Int)(b1_2:Int):
  p8 (b2Q N) (b4g N) b5s 0 (b2P c5 c21 c0_0 c0_1 y1_0 y1_1 y1_3 cw2 s22 b1_2) (F9 (c43 0) I KX (c0R N))=a7k N c5 c21 (fun o0_1_2=>KX 0 (a55 c5 c21 c0_0 c0_1 y1_0 y1_1 y1_3 cw2 o0_1_2)) (fun s22 b1_2=>I (b2P c5 c21 c0_0 c0_1 y1_0 y1_1 y1_3 cw2 s22 b1_2)) s22 b1_2:=by kernel_rfl
theorem c74(N:Nat):∀x y k,(∀st,k .ret st=(c0R N) st)->iter (c43 0) (o7 (b4g N) N b5s 0) N ⟨43,unF a8e x,unH a8d y⟩ k=c29 N x y k:=fun x y k hk=>
 p9 (S:=(Int)×(Int)×Unit) (c43 0) _ (p8 (b2Q N) (b4g N) b5s 0) (c0R N) (u9 _ _ N _ b5s 0 (show LoopsOk (b2Q N) (b4g N) N (c0R N) []from trivial)) (fun s=>b2P x.2.1 x.2.2.1 y.1.1 y.1.2.1 y.2.1.1 y.2.1.2.1 y.2.1.2.2.2.1 y.2.2.1 s.1 s.2.1) k hk
  (fun self s=>a7k N x.2.1 x.2.2.1 (fun o0_1_2=>k (.exit 0) (a55 x.2.1 x.2.2.1 y.1.1 y.1.2.1 y.2.1.1 y.2.1.2.1 y.2.1.2.2.2.1 y.2.2.1 o0_1_2)) (fun s22 b1_2=>self (s22,b1_2,())) s.1 s.2.1) (fun n s=>b5r N x.2.1 x.2.2.1 (fun o0_1_2=>k (.exit 0) (a55 x.2.1 x.2.2.1 y.1.1 y.1.2.1 y.2.1.1 y.2.1.2.1 y.2.1.2.2.2.1 y.2.2.1 o0_1_2)) n s.1 s.2.1) (fun _=>rfl) (fun _ _=>rfl)
  (fun I s=>c0Q N x.2.1 x.2.2.1 y.1.1 y.1.2.1 y.2.1.1 y.2.1.2.1 y.2.1.2.2.2.1 y.2.2.1 (fun j=>k (.exit j)) I s.1 s.2.1) N (x.2.2.2.1,y.2.1.2.2.1,())
theorem d5X(N:Nat):Z1 (b2Q N) (b4g N) N (c0R N) 0 b5s:=fun st k hk=>H3 43 a8e a8d _ _ (c0R N) (c74 N) _ st k hk (rfl)
theorem d2H(N:Nat)(x:SV [.box 0 0,.box 1 0])(y:BV [.cells [.v .str,.v τ2,.row 2],.cells [.v τ2,.v .str,.v τ2,.v τ2],.row 42 τ1 false]):V4 (b4g N) Tryz.f37 (c76 N) c77 (b2Q N) x y=Q7 N y.1.1 y.1.2.1 y.2.1.1 y.2.1.2.1 y.2.1.2.2.1 y.2.1.2.2.2.1 y.2.2.1:=by kernel_rfl
theorem c78(N:Nat):Snd 37 (c76 N):=
 a9J (c75 N) Tryz.func37 rfl Tryz.call37 (c76 N) c77 (fun _ _=>rfl) N (b2Q N) (show LoopsOk (b2Q N) (b4g N) N (c0R N) [(0,b5s)]from⟨d5X N,trivial⟩) (d2H N)
def a9V(_N:Nat)(y0_0:d7)(w1:List τ0)(k0:Int->Option τ16)(self:Int->τ10->Option τ16)(b0_1:Int)(w1004:List UInt8):Option τ16:=br (decide (b0_1<(y0_0.length:Int))) (j8 (m6 y0_0 b0_1) fun t24=>br (t24==(34:UInt8)) (some (w1004,true,y0_0,IntKind.i64.wrap (b0_1+(1:Int)),w1)) (br (t24==(92:UInt8)) (br ((IntKind.i64.wrap (b0_1+(1:Int)))==(y0_0.length:Int)) (some (([]:d7),false,y0_0,IntKind.i64.wrap (b0_1+(1:Int)),w1)) (j8 (m6 y0_0 (IntKind.i64.wrap (b0_1+(1:Int)))) fun t62=>br (t62==(34:UInt8)) (br (t62==(34:UInt8)) (j8 (m6 y0_0 (IntKind.i64.wrap (b0_1+(1:Int)))) fun t75=>br (Zf (w1004.length + [t75].length) .u8) (self (IntKind.i64.wrap ((IntKind.i64.wrap (b0_1+(1:Int)))+(1:Int))) (w1004 ++ [t75])) none) (br (t62==(110:UInt8)) (br (Zf (w1004.length + [(10:UInt8)].length) .u8) (self (IntKind.i64.wrap ((IntKind.i64.wrap (b0_1+(1:Int)))+(1:Int))) (w1004 ++ [(10:UInt8)])) none) (some (([]:d7),false,y0_0,IntKind.i64.wrap (b0_1+(1:Int)),w1)))) (br (t62==(92:UInt8)) (j8 (m6 y0_0 (IntKind.i64.wrap (b0_1+(1:Int)))) fun t75_1=>br (Zf (w1004.length + [t75_1].length) .u8) (self (IntKind.i64.wrap ((IntKind.i64.wrap (b0_1+(1:Int)))+(1:Int))) (w1004 ++ [t75_1])) none) (br (t62==(110:UInt8)) (br (Zf (w1004.length + [(10:UInt8)].length) .u8) (self (IntKind.i64.wrap ((IntKind.i64.wrap (b0_1+(1:Int)))+(1:Int))) (w1004 ++ [(10:UInt8)])) none) (some (([]:d7),false,y0_0,IntKind.i64.wrap (b0_1+(1:Int)),w1)))))) (br (decide (t24<(32:UInt8))) (some (([]:d7),false,y0_0,IntKind.i64.wrap (b0_1+(1:Int)),w1)) (br (decide (t24>(126:UInt8))) (some (([]:d7),false,y0_0,IntKind.i64.wrap (b0_1+(1:Int)),w1)) (br (Zf (w1004.length + [t24].length) .u8) (self (IntKind.i64.wrap (b0_1+(1:Int))) (w1004 ++ [t24])) none))))) (k0 b0_1)
def b0p(N:Nat)(y0_0:d7)(w1:List τ0)(k0:Int->Option τ16):Nat->Int->τ10->Option τ16|0,_,_=>none|n+1,b0_1,w1004=>a9V N y0_0 w1 k0 (b0p N y0_0 w1 k0 n) b0_1 w1004
def T0(N:Nat)(y0_0:d7)(y0_1:Int)(w1:List τ0):Option τ16:=b0p N y0_0 w1 (fun o0_0_1=>some (([]:d7),false,y0_0,o0_0_1,w1)) N y0_1 ([]:List UInt8)
abbrev d8m(f:SV [.box 0 0]->BV [.cells [.v .str,.v τ2,.row 1],.row 42 τ1 false]->Option τ16):AF:={ps:=[.box 0 0],bs:=[.cells [.v .str,.v τ2,.row 1],.row 42 τ1 false],rs:=[.v .str,.v .bool],cs:=[.cells [.v .str,.v τ2,.row 1],.row 42 τ1 false],R:=d7×Bool×d7×Int×List τ0,out:=fun z=>((z.1,z.2.1,()),(z.2.2.1,z.2.2.2.1,(),()),z.2.2.2.2,()),f:=f}
abbrev c8Y(N:Nat):AF:=d8m fun _ y=>T0 N y.1.1 y.1.2.1 y.2.1
abbrev c8Z:SV [.v .str,.v .bool]->BV [.cells [.v .str,.v τ2,.row 1],.row 42 τ1 false]->τ16:=fun x y=>(x.1,x.2.1,y.1.1,y.1.2.1,y.2.1)
def d4q(_N:Nat):FuncId->Option Tmp->Option AF:=fun f _=>lkF [] f
theorem c8X(N:Nat):X8 (d4q N):=fun _ _ _ h=>B9 h T8
def c48:Nat->Hint:=fun i=>
 match i with
 |0=>⟨[],[0,4],[0,1,1004],[],[0,1],[]⟩
 |100015=>⟨[0,1],[1],[],[],[],[]⟩
 |_=>y5
abbrev b4k(N:Nat):Env:=mkE c48 (d4q N) FF FF
noncomputable abbrev b5w:Code:=cAt (B3 Tryz.f38) [true,true,false,false,false]
abbrev c02(N:Nat):=L9 (b4k N) Tryz.f38 (c8Y N) c8Z
abbrev a8o:List (Nat×Sl):=[(0,.box 0 0),(4,.row 1004)]
abbrev a8n:List (Nat×Sb):=[(0,.cells [.v .str,.v τ2,.row 1]),(1,.row 42 τ1 false),(1004,.row 5 .u8 false)]
def b2Y(y0_0:d7)(w1:List τ0)(b0_1:Int)(w1004:List UInt8):St:=⟨97,[(0,.box 0 0),(4,.row 1004)],[(0,.cells [.v .str y0_0,.v τ2 b0_1,.row 1]),(1,.row 42 τ1 false w1),(1004,.row 5 .u8 false w1004)]⟩
def a6a(y0_0:d7)(w1:List τ0)(o0_0_1:Int):St:=⟨97,[],[(0,.cells [.v .str y0_0,.v τ2 o0_0_1,.row 1]),(1,.row 42 τ1 false w1)]⟩
def d2X(N:Nat)(y0_0:d7)(w1:List τ0)(b0_1:Int)(w1004:List UInt8)(k:Ex->St->Option τ16):Option τ16:=b0p N y0_0 w1 (fun o0_0_1=>k (.exit 0) (a6a y0_0 w1 o0_0_1)) N b0_1 w1004
abbrev c3j(N:Nat):FV a8o->HV a8n->(Ex->St->Option τ16)->Option τ16:=fun _ y k=>d2X N y.1.1 y.2.1 y.1.2.1 y.2.2.1 k
def b2Z(N:Nat):Nat->Code->St->(Ex->St->Option τ16)->Option τ16:=fun i c=>
 match i with
 |0=>(LPc 97 a8o a8n (c3j N) (fun st k=>iter (c48 0) (o7 (b4k N) N c 0) N st k))
 |i=>fun st k=>iter (c48 i) (o7 (b4k N) N c i) N st k
theorem c01(N:Nat)(y0_0:d7)(w1:List τ0)(KX:Nat->St->Option τ16)(I:St->Option τ16)(b0_1:Int)(w1004:List UInt8):
  p8 (b2Z N) (b4k N) b5w 0 (b2Y y0_0 w1 b0_1 w1004) (F9 (c48 0) I KX (c02 N))=a9V N y0_0 w1 (fun o0_0_1=>KX 0 (a6a y0_0 w1 o0_0_1)) (fun b0_1 w1004=>I (b2Y y0_0 w1 b0_1 w1004)) b0_1 w1004:=by kernel_rfl
theorem c8W(N:Nat):∀x y k,(∀st,k .ret st=(c02 N) st)->iter (c48 0) (o7 (b4k N) N b5w 0) N ⟨97,unF a8o x,unH a8n y⟩ k=c3j N x y k:=fun _ y k hk=>
 p9 (S:=(Int)×τ10×Unit) (c48 0) _ (p8 (b2Z N) (b4k N) b5w 0) (c02 N) (u9 _ _ N _ b5w 0 (show LoopsOk (b2Z N) (b4k N) N (c02 N) []from trivial)) (fun s=>b2Y y.1.1 y.2.1 s.1 s.2.1) k hk
  (fun self s=>a9V N y.1.1 y.2.1 (fun o0_0_1=>k (.exit 0) (a6a y.1.1 y.2.1 o0_0_1)) (fun b0_1 w1004=>self (b0_1,w1004,())) s.1 s.2.1) (fun n s=>b0p N y.1.1 y.2.1 (fun o0_0_1=>k (.exit 0) (a6a y.1.1 y.2.1 o0_0_1)) n s.1 s.2.1) (fun _=>rfl) (fun _ _=>rfl)
  (fun I s=>c01 N y.1.1 y.2.1 (fun j=>k (.exit j)) I s.1 s.2.1) N (y.1.2.1,y.2.2.1,())
theorem d6i(N:Nat):Z1 (b2Z N) (b4k N) N (c02 N) 0 b5w:=fun st k hk=>H3 97 a8o a8n _ _ (c02 N) (c8W N) _ st k hk (rfl)
theorem d2Y(N:Nat)(x:SV [.box 0 0])(y:BV [.cells [.v .str,.v τ2,.row 1],.row 42 τ1 false]):V4 (b4k N) Tryz.f38 (c8Y N) c8Z (b2Z N) x y=T0 N y.1.1 y.1.2.1 y.2.1:=by kernel_rfl
theorem c80(N:Nat):Snd 38 (c8Y N):=
 a9J (c8X N) Tryz.func38 rfl Tryz.call38 (c8Y N) c8Z (fun _ _=>rfl) N (b2Z N) (show LoopsOk (b2Z N) (b4k N) N (c02 N) [(0,b5w)]from⟨d6i N,trivial⟩) (d2Y N)
def I4(N:Nat)(y0_0:d7)(y0_1:Int)(w1:List τ0):Option (τ0×Int×d7×Int×List τ0):=j8 (m6 y0_0 y0_1) fun t23=>j8 (J7 N t23) fun t26=>br (t26) (j8 (O5 N () y0_0 y0_1 w1) fun t28=>br (decide ((t28.1.length:Int)>(40:Int))) (some (((1:Int),t28.1,(0:Int),y0_1),(2:Int),t28.2)) (some (((1:Int),t28.1,(0:Int),y0_1),(0:Int),t28.2))) (j8 (J6 N t23) fun t39=>br (t39) (j8 (Q7 N y0_0 y0_1 (0:Int) ([]:d7) (0:Int) y0_1 w1) fun t41=>some ((t41.2.2.2.1,t41.2.2.2.2.1,t41.2.2.2.2.2.1,t41.2.2.2.2.2.2.1),t41.1,t41.2.1,t41.2.2.1,t41.2.2.2.2.2.2.2)) (br (t23==(34:UInt8)) (j8 (T0 N y0_0 (IntKind.i64.wrap (y0_1+(1:Int))) w1) fun t56=>br (!t56.2.1) (some (((0:Int),([]:d7),(0:Int),y0_1),(10:Int),t56.2.2)) (some (((2:Int),t56.1,(0:Int),y0_1),(0:Int),t56.2.2))) (j8 (strings_IndexByte ([61,43,40,41,91,93,123,125,44,58,59]:d7) t23) fun t68=>br (decide (t68>=(0:Int))) (j8 (slc y0_0 y0_1 (y0_0.length:Int)) fun t78=>j8 (a0K N t78 ([61,61]:d7)) fun t79=>br (t79) (j8 (slc y0_0 y0_1 (IntKind.i64.wrap (y0_1+(2:Int)))) fun t94=>some (((4:Int),t94,(0:Int),y0_1),(0:Int),y0_0,IntKind.i64.wrap (y0_1+(2:Int)),w1)) (j8 (slc y0_0 y0_1 (IntKind.i64.wrap (y0_1+(1:Int)))) fun t94_1=>some (((4:Int),t94_1,(0:Int),y0_1),(0:Int),y0_0,IntKind.i64.wrap (y0_1+(1:Int)),w1))) (some (((0:Int),([]:d7),(0:Int),y0_1),(10:Int),y0_0,y0_1,w1)))))
abbrev d8B:=sgM [.box 0 0] [.cells [.v .str,.v τ2,.row 1],.row 42 τ1 false] [.v τ1,.v τ2] [.cells [.v .str,.v τ2,.row 1],.row 42 τ1 false] (τ0×Int×d7×Int×List τ0) fun z=>((z.1,z.2.1,()),(z.2.2.1,z.2.2.2.1,(),()),z.2.2.2.2,())
abbrev d6r(N:Nat):AF:=d8B fun _ y=>I4 N y.1.1 y.1.2.1 y.2.1
def e0E:Nat->Hint:=fun i=>
 match i with
 |100020=>⟨[0,1],[1],[],[],[],[]⟩
 |100022=>⟨[0,1],[1],[],[],[],[]⟩
 |_=>y5
theorem c9S(N:Nat):Snd 17 (d6r N):=
 a2o e0E [(32,d4y fun x _=>strings_IndexByte x.1 x.2.1),(33,d0U N),(34,c8O N),(36,c5h N),(37,c76 N),(38,c8Y N),(39,d6z N)] (L3 (b83) (L3 (b3O N) (L3 (c8Q N) (L3 (a8V N) (L3 (c78 N) (L3 (c80 N) (L3 (d0z N) T8))))))) Tryz.func17 rfl Tryz.call17 (d6r N) (fun x y=>(x.1,x.2.1,y.1.1,y.1.2.1,y.2.1)) (fun _ _=>rfl) N (fun _ _=>by kernel_rfl) rfl
def a39(N:Nat)(x0:d7)(self:d7->Int->τ6->Option τ14)(b1013_0:d7)(b1013_1:Int)(w900001:List τ0):Option τ14:=j8 (L1 N b1013_0 b1013_1 w900001) fun t15=>br (t15.2.1==(x0.length:Int)) (some (t15.2.2,(0:Int),(0:Int))) (br ((t15.2.2.length:Int)==(50000:Int)) (some (([]:List τ0),t15.2.1,(2:Int))) (j8 (I4 N t15.1 t15.2.1 t15.2.2) fun t39=>br (t39.2.1 !=(0:Int)) (some (([]:List τ0),t39.1.2.2.2,t39.2.1)) (k7 2 (br (Zf (t39.2.2.2.2.length + [t39.1].length) τ1) (self t39.2.2.1 t39.2.2.2.1 (t39.2.2.2.2 ++ [t39.1])) none))))
def b0r(N:Nat)(x0:d7):Nat->d7->Int->τ6->Option τ14|0,_,_,_=>none|n+1,b1013_0,b1013_1,w900001=>a39 N x0 (b0r N x0 n) b1013_0 b1013_1 w900001
def M5(N:Nat)(x0:d7):Option τ14:=br (decide ((x0.length:Int)>(50000:Int))) (some (([]:List τ0),(0:Int),(2:Int))) (b0r N x0 N x0 (0:Int) ([]:List τ0))
abbrev d9b(f:SV [.v .str]->BV []->Option τ14):AF:={ps:=[.v .str],bs:=[],rs:=[.v (.sl τ1),.v τ2,.v τ2],cs:=[],R:=List τ0×Int×Int,out:=fun z=>((z.1,z.2.1,z.2.2,()),()),f:=f}
abbrev c5j(N:Nat):AF:=d9b fun x _=>M5 N x.1
abbrev d08:SV [.v (.sl τ1),.v τ2,.v τ2]->BV []->τ14:=fun x _=>(x.1,x.2.1,x.2.2.1)
def d4C(N:Nat):FuncId->Option Tmp->Option AF:=fun f _=>lkF [(16,c71 N),(17,d6r N)] f
theorem d07(N:Nat):X8 (d4C N):=fun _ _ _ h=>B9 h (L3 (c73 N) (L3 (c9S N) T8))
def c5k:Nat->Hint:=fun i=>
 match i with
 |0=>⟨[],[0,5],[1013,900001],[],[],[(1013,2,900001,42,τ1)]⟩
 |100008=>⟨[1013,900001],[1],[],[],[],[]⟩
 |100011=>⟨[1006],[1],[],[],[],[]⟩
 |100012=>⟨[],[1,2],[],[],[],[]⟩
 |_=>y5
abbrev b4p(N:Nat):Env:=mkE c5k (d4C N) FF FF
noncomputable abbrev b5H:Code:=cAt (B3 Tryz.f7) [true,true,true,false,false]
abbrev c1F(N:Nat):=L9 (b4p N) Tryz.f7 (c5j N) d08
abbrev a82:List (Nat×Sl):=[(0,.v .str),(5,.box 1013 0)]
abbrev a81:List (Nat×Sb):=[(1013,.cells [.v .str,.v τ2,.row 900001]),(900001,.row 42 τ1 false)]
def b3U(x0:d7)(b1013_0:d7)(b1013_1:Int)(w900001:List τ0):St:=⟨57,[(0,.v .str x0),(5,.box 1013 0)],[(1013,.cells [.v .str b1013_0,.v τ2 b1013_1,.row 900001]),(900001,.row 42 τ1 false w900001)]⟩
def d3L(N:Nat)(x0:d7)(b1013_0:d7)(b1013_1:Int)(w900001:List τ0)(_k:Ex->St->Option τ14):Option τ14:=b0r N x0 N b1013_0 b1013_1 w900001
abbrev c3P(N:Nat):FV a82->HV a81->(Ex->St->Option τ14)->Option τ14:=fun x y k=>d3L N x.1 y.1.1 y.1.2.1 y.2.1 k
def b3V(N:Nat):Nat->Code->St->(Ex->St->Option τ14)->Option τ14:=fun i c=>
 match i with
 |0=>(LPc 57 a82 a81 (c3P N) (fun st k=>iter (c5k 0) (o7 (b4p N) N c 0) N st k))
 |i=>fun st k=>iter (c5k i) (o7 (b4p N) N c i) N st k
theorem c1E(N:Nat)(x0:d7)(KX:Nat->St->Option τ14)(I:St->Option τ14)(b1013_0:d7)(b1013_1:Int)(w900001:List τ0):
  p8 (b3V N) (b4p N) b5H 0 (b3U x0 b1013_0 b1013_1 w900001) (F9 (c5k 0) I KX (c1F N))=a39 N x0 (fun b1013_0 b1013_1 w900001=>I (b3U x0 b1013_0 b1013_1 w900001)) b1013_0 b1013_1 w900001:=by kernel_rfl
theorem d06(N:Nat):∀x y k,(∀st,k .ret st=(c1F N) st)->iter (c5k 0) (o7 (b4p N) N b5H 0) N ⟨57,unF a82 x,unH a81 y⟩ k=c3P N x y k:=fun x y k hk=>
 p9 (S:=(d7)×(Int)×τ6×Unit) (c5k 0) _ (p8 (b3V N) (b4p N) b5H 0) (c1F N) (u9 _ _ N _ b5H 0 (show LoopsOk (b3V N) (b4p N) N (c1F N) []from trivial)) (fun s=>b3U x.1 s.1 s.2.1 s.2.2.1) k hk
  (fun self s=>a39 N x.1 (fun b1013_0 b1013_1 w900001=>self (b1013_0,b1013_1,w900001,())) s.1 s.2.1 s.2.2.1) (fun n s=>b0r N x.1 n s.1 s.2.1 s.2.2.1) (fun _=>rfl) (fun _ _=>rfl)
  (fun I s=>c1E N x.1 (fun j=>k (.exit j)) I s.1 s.2.1 s.2.2.1) N (y.1.1,y.1.2.1,y.2.1,())
theorem d6L(N:Nat):Z1 (b3V N) (b4p N) N (c1F N) 0 b5H:=fun st k hk=>H3 57 a82 a81 _ _ (c1F N) (d06 N) _ st k hk (rfl)
theorem d3M(N:Nat)(x:SV [.v .str])(y:BV []):V4 (b4p N) Tryz.f7 (c5j N) d08 (b3V N) x y=M5 N x.1:=by kernel_rfl
theorem b9e(N:Nat):Snd 7 (c5j N):=
 a9J (d07 N) Tryz.func7 rfl Tryz.call7 (c5j N) d08 (fun _ _=>rfl) N (b3V N) (show LoopsOk (b3V N) (b4p N) N (c1F N) [(0,b5H)]from⟨d6L N,trivial⟩) (d3M N)
def M3(N:Nat)(x0:d7):Option (List GStmt×Int×Int):=j8 (M5 N x0) fun t14=>br (t14.2.2 !=(0:Int)) (some (([]:List GStmt),t14.2)) (j8 (y8 N t14.1 (x0.length:Int) (-1:Int)) fun t29=>br (!t29.2.2.1) (some (([]:List GStmt),t29.2.1,(10:Int))) (br (decide (t29.2.2.2>=(0:Int))) (some (([]:List GStmt),t29.2.2.2,(2:Int))) (j8 (m7 N t29.1) fun t46=>br (t46 !=(0:Int)) (some (([]:List GStmt),(0:Int),t46)) (some (t29.1,(0:Int),(0:Int))))))
abbrev d9j:=sgM [.v .str] [] [.v τ5,.v τ2,.v τ2] [] (List GStmt×Int×Int) fun z=>((z.1,z.2.1,z.2.2,()),())
abbrev d9i(N:Nat):AF:=d9j fun x _=>M3 N x.1
def e0U:Nat->Hint:=fun i=>
 match i with
 |100009=>⟨[1026],[],[],[],[],[]⟩
 |_=>y5
theorem d1t(N:Nat):Snd 12 (d9i N):=
 a2o e0U [(7,c5j N),(21,d4r fun _ y=>y8 N y.1.1 y.1.2.1 y.1.2.2.1),(22,d6b N)] (L3 (b9e N) (L3 (c81 N) (L3 (b8S N) T8))) Tryz.func12 rfl Tryz.call12 (d9i N) (fun x _=>(x.1,x.2.1,x.2.2.1)) (fun _ _=>rfl) N (fun _ _=>by kernel_rfl) rfl
end
end
noncomputable section
theorem Sound.callExt{P:Program}{G:World->Prop}{B0:Nat}{f:FuncId}{ps rs:List Sl}{R:Type}[BothC R]{out:R->SV rs×BV []}{F:SV ps->BV []->Option R}(h:Sound P G B0 f ⟨ps,[],rs,[],R,out,F⟩)
  {M:Nat->Nat->Prop} {w:World} {vs:List Value} {x:SV ps} {z:R} (hG:G w) (hB:B0<=w.heap.size) (hM:∀b o,M b o->b<w.heap.size) (ha:All2 (RepD0 M w g0) (Y1 id ps x) vs) (hz:F x ()=some z):
  Calls P f vs.toArray w fun e w'=>∃vs' M' g',e = .returned (a7M vs')/\Ext w w'/\All2 (RepD0 M' w' g') (Y1 id rs (out z).1) vs':=by
 refine(h.2 M w g0 vs x () z hG hB {args:=ha,res:=fun r blk h=>(by cases h),dom:=fun r gx h=>(by cases h),inj:=fun _ _ _ _ _ h=>(by cases h),low:=fun _ _ _ h=>(by cases h),chg:=fun _ _ _ _ h=>(by cases h),mlt:=hM,row:=fun _ _ _ h=>(by cases h)} hz).mono fun e w' hp=>?_
 obtain⟨vs',g',he,hX,_,hF,_⟩:=hp;exact⟨vs',_,g',he,hX.ext fun b ⟨_,_,h,_⟩=>(by cases h),hF.args⟩
noncomputable def M4(N:Nat)(l:List GStmt):Option (d7×Int):=j8 (m7 N l) fun f=>br (f !=(0:Int)) (some (([]:d7),f)) (j8 (C1 N N 0 l []) fun r=>br (decide ((r.length:Int)>50000)) (some (([]:d7),(2:Int))) (some (r,(0:Int))))
theorem b78(N:Nat){M:Nat->Nat->Prop}{w0 w:World}{l:List GStmt}{v1:Value}{r:List UInt8}(hG:GW w)(hB:x9<=w.heap.size)(hM:∀b o,M b o->b<w.heap.size)(h1:RepV M w τ5 l v1)(hr:C1 N N 0 l []=some r)(hE:Ext w0 w):
  Calls Tryz.prog 29 #[.pointer (some ⟨w.heap.size,0,none⟩),.int .i64 0,v1] (w.alloc (.cells #[.pointer none,.slice none 0 0] 88)) fun e w'=>e = .returned (.tuple #[])/\
   Ext w0 w'/\∃p v,b0Y w' w.heap.size p v (Lib.byteCells r)/\∀k,v.ownBlock=some k->w0.heap.size<=k:=by
 obtain⟨W,hW⟩:∃W,W=w.alloc (.cells #[.pointer none,.slice none 0 0] 88):=⟨_,rfl⟩;rw[<-hW];have hEW:Ext w W:=by rw[hW];exact(Ext.refl w).alloc _
 have hWb:W.heap[w.heap.size]? = some (.cells #[.pointer none,.slice none 0 0] 88 (0,0)):=by rw[hW];exact heap_alloc_new w _
 have hWs:W.heap.size=w.heap.size+1:=by rw[hW];simp
 obtain⟨g,hgd⟩:∃g:Gh,g=fun r=>if r=0 then some ⟨some w.heap.size,0,O0 w.heap.size⟩else if r=1 then some ⟨none,0,.slice none 0 0⟩else none:=⟨_,rfl⟩
 have hg0:g 0=some ⟨some w.heap.size,0,O0 w.heap.size⟩:=by rw[hgd];rfl
 have hg1:g 1=some ⟨none,0,.slice none 0 0⟩:=by rw[hgd];rfl
 have hcase:∀r x b,g r=some x->x.blk=some b->r=0/\x=⟨some w.heap.size,0,O0 w.heap.size⟩/\b=w.heap.size:=fun r x b h hb=>by
  rw[hgd]at h;by_cases h0:r=0
  ·subst h0;obtain rfl:({blk:=some w.heap.size,lo:=0,v:=O0 w.heap.size}:GB)=x:=Option.some.inj h;injection hb with hb
   exact⟨rfl,rfl,hb.symm⟩
  ·by_cases h1:r=1
   ·subst h1;obtain rfl:({blk:=none,lo:=0,v:= .slice none 0 0}:GB)=x:=Option.some.inj h;cases hb
   ·simp[h0,h1]at h
 obtain⟨M2,hM2⟩:∃M2:Nat->Nat->Prop,M2=fun b o=>M b o\/b=w.heap.size:=⟨_,rfl⟩
 have hstep:Step M w M2 W:=by
  subst hM2;refine⟨fun ad u hc hm=>⟨hEW.cell hc,fun h=>?_⟩,fun b es c hc hm=>⟨(hEW.block b (A4 hc)).trans hc,fun h=>?_⟩⟩
  ·have:=World.block_lt_of_cell? w ad hc;rcases h with h|h
   ·exact hm h
   ·omega
  ·have:=A4 hc;rcases h with h|h
   ·exact hm h
   ·omega
 have hGW:GW W:=a10 w W (fun _=>False) hG (ExtX.of_ext hEW) fun _ h=>h.elim
 refine((b8M N N).2 M2 W g [.pointer (some ⟨w.heap.size,0,none⟩),.int .i64 0,v1] ((),0,l,()) (((),()),[],()) r hGW (by rw[hWs];omega)
  {args:=⟨⟨_,w.heap.size,hg0,rfl,rfl⟩,c4P .i64 0,h1.step hstep,trivial⟩,res:=fun r blk hr=>?_,dom:=fun r x h=>?_,inj:=fun r r' x x' k h1 h2 h3 h4=>(hcase _ _ _ h1 h3).1.trans (hcase _ _ _ h2 h4).1.symm,low:=fun r x k h1 h2=>?_,chg:=fun r x k o h1 h2=>?_,mlt:=fun k o h=>?_,row:=fun r x k h1 h2 h3=>?_} hr).mono fun e w' hq=>?_
 ·match r,hr with
  |0,hr=>
   obtain rfl:Blk.bld 88 [.row 1]=blk:=Option.some.inj hr;exact⟨_,hg0,w.heap.size,.pointer none,[.slice none 0 0],rfl,hWb,.inl rfl,⟨⟨_,none,0,0,hg1,rfl,rfl⟩,trivial⟩⟩
  |1,hr=>
   obtain rfl:Blk.row 5 .u8 true []=blk:=Option.some.inj hr;exact⟨_,hg1,by decide,[],World.ownsRow_nil _ _ _ _,rfl,rfl,fun i h=>by cases h⟩
  |n+2,hr=>cases hr
 ·rw[hgd]at h;by_cases h0:r=0
  ·subst h0;exact Nat.succ_pos 1
  ·by_cases h1:r=1
   ·subst h1;exact Nat.lt_succ_self 1
   ·simp[h0,h1]at h
 ·obtain⟨_,_,rfl⟩:=hcase _ _ _ h1 h2;exact⟨hB,by omega⟩
 ·obtain⟨_,rfl,rfl⟩:=hcase _ _ _ h1 h2;exact⟨fun _=>Nat.zero_le _,fun _=>by rw[hM2];exact .inr rfl⟩
 ·rw[hM2]at h;rcases h with h|h
  ·have:=hM k o h;omega
  ·omega
 ·obtain⟨_,rfl,rfl⟩:=hcase _ _ _ h1 h2;cases h3
 ·obtain⟨vs',g',he,hX,_,hF,hkeep,hnew⟩:=hq;have hv:=hF.args
  match vs',hv with
  |[],_=>
  refine⟨he,?_,?_⟩
  ·have hX2:ExtX (fun k=>k=w.heap.size) W w':=hX.wider fun k ⟨r,x,h1,h2⟩=>(hcase _ _ _ h1 h2).2.2
   have h0W:=hE.trans hEW;refine⟨hX2.os.trans h0W.os,hX2.tape.trans h0W.tape,hX2.output.trans h0W.output,Nat.le_trans h0W.size hX2.size,fun k hk=>?_⟩;have:=hE.size;rw[hX2.block k (by omega) (by omega)];exact h0W.block k hk
  ·have hg0':=hkeep 0 _ hg0 (.inl rfl);obtain⟨gx,hgx,b',p,us,e0,hb,hp,hus⟩:=hF.res 0 (.bld 88 [.row 1]) rfl;rw[hg0']at hgx;cases hgx;obtain rfl:w.heap.size=b':=by injection e0 with e1;injection e1
   match us,hus with
   |[v],hus=>
   obtain⟨⟨g1,A,n,c,hg1',hv1,hv2⟩,_⟩:=hus;have hg1':g' 1=some g1:=hg1';obtain⟨g1',hg1'',_,cs,hown,hblk,hlo,hcs⟩:=hF.res 1 (.row 5 .u8 true r) rfl;rw[hg1']at hg1'';cases hg1'';rw[<-hv1]at hown hblk;have hown:w'.ownsRow 0 5 1 v r.length cs:=hown;have hcs':cs=Lib.byteCells r:=a94 hown.1 hcs;subst hcs';refine⟨p,v,⟨hb,by simpa [Lib.byteCells]using hown,fun h=>?_⟩,fun k hk=>?_⟩
   ·have:=hF.inj 0 1 _ _ _ hg0' hg1' rfl (by rw[hblk,h]);cases this
   ·have:=hE.size;rcases hnew k ⟨1,g1,hg1',by rw[hblk,hk]⟩with⟨r,x,h1,h2⟩|h3
    ·obtain⟨_,_,rfl⟩:=hcase _ _ _ h1 h2;omega
    ·omega
set_option maxHeartbeats 1000000 in
set_option maxRecDepth 100000 in
theorem d05(N:Nat):Snd 15 ⟨[.v τ5],[],[.v .str,.v τ2],[],d7×Int,fun z=>((z.1,z.2,()),()),fun x _=>M4 N x.1⟩:=by
 refine Sound.ofExt Tryz.call15 fun M w vs x z hG hM hA hz=>?_
 obtain⟨l,u⟩:=x
 match vs,hA with
 |[v1],hA=>
 obtain⟨h1,_⟩:=hA;have h1:RepV M w τ5 l v1:=h1;have hB:=c1Q hG;have hz:M4 N l=some z:=hz;unfold M4 at hz;obtain⟨c,hc,hz⟩:=G1 hz;have cC:Calls Tryz.prog 22 #[v1] w fun e w'=>e = .returned (.int .i64 c)/\Ext w w':=by
  refine(Sound.callExt (b8S N) (vs:=[v1]) (x:=(l,())) (z:=c) hG hB hM ⟨h1,trivial⟩ hc).mono fun e w' hp=>?_
  obtain⟨vs',M',g',he,hE,hv⟩:=hp
  match vs',hv with
  |[v],hv=>
  obtain⟨hv,_⟩:=hv;have:v = .int .i64 c:=RepV.int hv;subst this;exact⟨he,hE⟩
 by_cases h0:c=0
 case neg=>
  have hne:(c !=0)=true:=by simpa using h0
  rw[hne,d8]at hz;cases hz
  go_enter Tryz.func15,Tryz.ntmps15
  go_wp2_with (go_at_call 22;refine cC.mono ?_;rintro e w1 ⟨rfl,hE⟩)
  go_ret2
  exact⟨[_,_],rfl,hE,b8B _,c4P .i64 _,trivial⟩
 subst h0;rw[bne_self_eq_false,d9]at hz;obtain⟨r,hr,hz⟩:=G1 hz;have cS:∀w1,Ext w w1->Calls Tryz.prog 29 #[.pointer (some ⟨w1.heap.size,0,none⟩),.int .i64 0,v1] (w1.alloc (.cells #[.pointer none,.slice none 0 0] 88)) fun e w'=>e = .returned (.tuple #[])/\
   Ext w w'/\∃p v,b0Y w' w1.heap.size p v (Lib.byteCells r)/\∀k,v.ownBlock=some k->w.heap.size<=k:=fun w1 hE=>
  b78 N (a10 w w1 (fun _=>False) hG (ExtX.of_ext hE) fun _ h=>h.elim) (Nat.le_trans hB hE.size) (fun b o h=>Nat.lt_of_lt_of_le (hM b o h) hE.size) (h1.step (Step.ext hE)) hr hE
 have hrl:(Lib.byteCells r).length=r.length:=by simp[Lib.byteCells]
 go_enter Tryz.func15,Tryz.ntmps15
 go_wp2_with (first
  |(go_at_call 22;refine cC.mono ?_;rintro e w1 ⟨rfl,hE⟩)
  |(go_at_call 29;refine(cS _ hE).mono ?_;rintro e w2 ⟨rfl,hE2,p,v,hbd,hvb⟩)
  |(go_at_call 30;refine(d4U hbd).mono ?_;rintro e w3 ⟨rfl,rfl⟩)
  |(go_at_call 31;refine(c3Z hbd hE2 hvb).mono ?_;rintro e w4 ⟨rfl,hE4⟩))
 ·rename_i hgt;rw[decide_eq_true (show(r.length:Int)>50000 from hgt),d8]at hz;cases hz
  go_ret2
  exact⟨[_,_],rfl,hE2,b8B _,c4P .i64 _,trivial⟩
 ·rename_i hle hE4;rw[decide_eq_false (show ¬(r.length:Int)>50000 by omega),d9]at hz;cases hz
  go_ret2
  exact⟨[_,_],rfl,hE4,b8B _,c4P .i64 _,trivial⟩
end
noncomputable section
noncomputable section
def a0T(N:Nat)(x0:d7):Option (List GStmt×Int×Int):=j8 (M5 N x0) fun t14=>br (t14.2.2 !=(0:Int)) (some (([]:List GStmt),t14.2)) (j8 (G5 N t14.1 (x0.length:Int) (-1:Int)) fun t29=>br (!t29.2) (some (([]:List GStmt),t29.1,(10:Int))) none)
abbrev d84:=sgM [.v .str] [] [.v τ5,.v τ2,.v τ2] [] (List GStmt×Int×Int) fun z=>((z.1,z.2.1,z.2.2,()),())
abbrev d83(N:Nat):AF:=d84 fun x _=>a0T N x.1
theorem d0M(N:Nat):Snd 12 (d83 N):=
 a2o h0 [(7,c5j N),(21,d4n fun _ y=>G5 N y.1.1 y.1.2.1 y.1.2.2.1)] (L3 (b9e N) (L3 (c8s N) T8)) Tryz.func12 rfl Tryz.call12 (d83 N) (fun x _=>(x.1,x.2.1,x.2.2.1)) (fun _ _=>rfl) N (fun _ _=>by kernel_rfl) rfl
abbrev c3O:=sgM [.v .str] [] [.v τ5,.v τ2,.v τ2] [] (List GStmt×Int×Int) fun z=>((z.1,z.2.1,z.2.2,()),())
def D9(N:Nat)(s:d7):Option (List GStmt×Int×Int):=match M3 N s with
 |some z=>some z
 |none=>a0T N s
theorem b9d(N:Nat):Snd 12 (c3O fun x _=>D9 N x.1):=by
 refine⟨Tryz.call12,fun M w g vs x y z hG hB hfr hz=>?_⟩;have hz:D9 N x.1=some z:=hz;unfold D9 at hz;split at hz
 ·rename_i z' h;cases hz;exact(d1t N).2 M w g vs x y z hG hB hfr h
 ·exact(d0M N).2 M w g vs x y z hG hB hfr hz
end
end
section
def J0:Nat:=18446744073709551616
theorem b1A{α:Type}(xs:List α)(i:Nat):m6 xs (i:Int)=xs[i]?:=by unfold m6;rw[if_pos (by omega)];rfl
theorem a9l{α:Type}(xs:List α):m6 xs 0=xs[0]?:=b1A xs 0
theorem p6{α:Type}(xs:List α){i:Nat}(h:i<xs.length):m6 xs (i:Int)=some xs[i]:=by rw[b1A,List.getElem?_eq_getElem h]
theorem M7{n:Int}(h0:-9223372036854775808<=n)(h:n<=9223372036854775807):IntKind.i64.wrap n=n:=by
 simp[IntKind.wrap,IntKind.signed,IntKind.bits];omega
theorem a1c{α:Type}{xs:List α}(hx:xs.length<=maxLen){i:Nat}(h:i<xs.length):IntKind.i64.wrap ((i:Int)+1)=((i+1:Nat):Int):=by
 unfold maxLen at hx;rw[M7 (by omega) (by omega)];rfl
theorem c4Q{i:Nat}(h:i<=9223372036854775807):IntKind.i64.wrap ((i:Int)-1)=(i:Int)-1:=M7 (by omega) (by omega)
theorem d5E(a b:UInt8):(a==b)=decide (a.toNat=b.toNat):=by
 show decide (a=b)=_;exact decide_eq_decide.2 UInt8.toNat_inj.symm
theorem a2c{α:Type}{xs:List α}{i:Nat}(h:i<xs.length):decide ((i:Int)<(xs.length:Int))=true:=decide_eq_true (by omega)
theorem a4T{α:Type}{xs:List α}:decide ((xs.length:Int)<(xs.length:Int))=false:=decide_eq_false (by omega)
def b1x{α R:Type}(body:Nat->α->R->R)(k:R):List α->Nat->R | [],_=>k|x :: xs,i=>body i x (b1x body k xs (i+1))
theorem b4Y{α R:Type}{f:Nat->Int->Option R}{T:(Int->Option R)->Int->Option R}(hf:∀n s,f (n+1) s=T (f n) s)(xs:List α){body:Nat->α->R->R}{k:R}
  (hT:∀(self:Int->Option R) (i:Nat) (h:i<xs.length) (r:R),self ((i+1:Nat):Int)=some r->T self (i:Int)=some (body i xs[i] r))
  (hE:∀self:Int->Option R,T self (xs.length:Int)=some k):
  ∀(m n i:Nat),i+m=xs.length->m<n->f n (i:Int)=some (b1x body k (xs.drop i) i)
 |0,n,i,hi,hn=>by
  obtain⟨n,rfl⟩:∃j,n=j+1:=⟨n-1,by omega⟩;have:i=xs.length:=by omega
  subst this;rw[hf,hE,List.drop_length];rfl
 |m+1,n,i,hi,hn=>by
  obtain⟨n,rfl⟩:∃j,n=j+1:=⟨n-1,by omega⟩;have hlt:i<xs.length:=by omega
  have ih:=b4Y hf xs hT hE m n (i+1) (by omega) (by omega);rw[hf,hT _ i hlt _ ih,List.drop_eq_getElem_cons hlt];rfl
theorem a3k{α R:Type}{f:Nat->Int->Option R}{T:(Int->Option R)->Int->Option R}(hf:∀n s,f (n+1) s=T (f n) s)(xs:List α)(hx:xs.length<=maxLen){body:Nat->α->R->R}{k:R}
  (hT:∀(self:Int->Option R) (i:Nat) (h:i<xs.length) (r:R),self ((i+1:Nat):Int)=some r->T self (i:Int)=some (body i xs[i] r))
  (hE:∀self:Int->Option R,T self (xs.length:Int)=some k) {N:Nat} (hN:J0<=N):f N 0=some (b1x body k xs 0):=by
 have:=b4Y hf xs hT hE xs.length N 0 (by omega) (by unfold maxLen at hx;unfold J0 at hN;omega);simpa using this
def b92{α:Type}(p:α->Bool)(xs:List α):Int:=b1x (fun i x r=>if p x=true then(i:Int)else r) (-1) xs 0
theorem b4T{α:Type}(p:α->Bool):∀(xs:List α) (j:Nat),let r:=b1x (fun i x r=>if p x=true then(i:Int)else r) (-1) xs j
  (xs.find? p=none/\r = -1)\/∃i x,xs.find? p=some x/\xs[i]? = some x/\p x=true/\r=((j+i:Nat):Int)
 |[],_=> .inl ⟨rfl,rfl⟩
 |x :: xs,j=>by
  cases hp:p x with
  |true=>exact .inr ⟨0,x,by simp[hp],rfl,hp,by simp[b1x,hp]⟩
  |false=>
   rcases b4T p xs (j+1)with⟨h1,h2⟩|⟨i,y,h1,h2,h3,h4⟩
   ·exact .inl ⟨by simp[hp,h1],by simp only[b1x,hp];simpa using h2⟩
   ·exact .inr ⟨i+1,y,by simp[hp,h1],by simpa using h2,h3,by simp only[b1x,hp];rw[if_neg (by simp),h4];congr 1;omega⟩
theorem b93{α:Type}(p:α->Bool)(xs:List α):(xs.find? p=none/\b92 p xs = -1)\/∃(i:Nat) (x:α),xs.find? p=some x/\xs[i]? = some x/\p x=true/\b92 p xs=(i:Int):=by
 rcases b4T p xs 0 with h|⟨i,x,h1,h2,h3,h4⟩
 ·exact .inl h
 ·exact .inr ⟨i,x,h1,h2,h3,by rw[b92,h4];simp⟩
theorem a4N{α:Type}(p:α->Bool)(xs:List α):decide (b92 p xs>=0)=xs.any p:=by
 rcases b93 p xs with⟨h1,h2⟩|⟨i,x,h1,h2,h3,h4⟩
 ·rw[h2];have:xs.any p=false:=by rw[List.any_eq_false];intro x hx;have:=List.find?_eq_none.1 h1 x hx;simpa using this
  rw[this];rfl
 ·rw[h4];have:xs.any p=true:=List.any_eq_true.2 ⟨x,List.mem_of_getElem? h2,h3⟩;rw[this];exact decide_eq_true (by omega)
end
section
theorem d4Z{R:Type}{p:Prop}[Decidable p]{x y:Option R}(h:p):br (decide p) x y=x:=by rw[decide_eq_true h,d8]
theorem c5M{R:Type}{p:Prop}[Decidable p]{x y:Option R}(h:¬p):br (decide p) x y=y:=by rw[decide_eq_false h,d9]
theorem a0D{i m:Nat}(h:i<m):decide ((i:Int)<(m:Int))=true:=decide_eq_true (by omega)
theorem a1r{m:Nat}:decide ((m:Int)<(m:Int))=false:=decide_eq_false (by omega)
end
end Go.Proofs.YtolpmfhiegpohaaGreatDoor
