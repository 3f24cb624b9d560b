/- % -/
import Derived.Test.YtolpmfhiegpohaaGreatDoorQPaY
import Derived.Test.YtolpmfhiegpohaaGreatDoorQBmAl
import Derived.Test.YtolpmfhiegpohaaGreatDoorQPaF19
import Derived.Test.YtolpmfhiegpohaaGreatDoorQBmJ
namespace Go.Proofs.YtolpmfhiegpohaaGreatDoor
set_option maxRecDepth 100000
set_option linter.unusedVariables false
set_option linter.unusedSimpArgs false
open Go Go.RowKit
noncomputable section
noncomputable section
def c53(N:Nat)(y0_0:d9)(k0:Int->Option τ9)(self:Int->Option τ9)(b0_1:Int):Option τ9:=br (decide (b0_1<(y0_0.length:Int))) (j8 (m7 y0_0 b0_1) fun t30=>j8 (a0v N t30) fun t31=>br (t31) (self (IntKind.i64.wrap (b0_1+(1:Int)))) (k0 b0_1)) (k0 b0_1)
def e42(N:Nat)(y0_0:d9)(k0:Int->Option τ9):Nat->Int->Option τ9|0,_=>none|n+1,b0_1=>c53 N y0_0 k0 (e42 N y0_0 k0 n) b0_1
def T9(N:Nat)(_x1:Unit)(y0_0:d9)(y0_1:Int)(w1:List τ0):Option τ9:=e42 N y0_0 (fun o0_0_1=>j8 (slc y0_0 y0_1 o0_0_1) fun t49=>some (t49,y0_0,o0_0_1,w1)) N y0_1
abbrev e1f(f:SV [.box 0 0,.v (.clo 35 .un)]->BV [.cells [.v .str,.v τ2,.row 1],.row 42 τ1 false]->Option τ9):AF:={ps:=[.box 0 0,.v (.clo 35 .un)],bs:=[.cells [.v .str,.v τ2,.row 1],.row 42 τ1 false],rs:=[.v .str],cs:=[.cells [.v .str,.v τ2,.row 1],.row 42 τ1 false],R:=d9×d9×Int×List τ0,out:=fun z=>((z.1,()),(z.2.1,z.2.2.1,(),()),z.2.2.2,()),f:=f}
abbrev d1Z(N:Nat):AF:=e1f fun x y=>T9 N x.2.1 y.1.1 y.1.2.1 y.2.1
abbrev e7Q:SV [.v .str]->BV [.cells [.v .str,.v τ2,.row 1],.row 42 τ1 false]->τ9:=fun x y=>(x.1,y.1.1,y.1.2.1,y.2.1)
def d1X(N:Nat):FuncId->Option Tmp->Option AF:=fun f _=>t7 [(35,f0v N)] f
theorem d1Y(N:Nat):a1f (d1X N):=fun _ _ _ h=>D7 h (Q3 (c1X N) lkn)
def e1e:Nat->Hint:=fun i=>
 match i with
 |0=>⟨[],[0,1,5],[0,1],[0,5],[0,1],[]⟩
 |100002=>⟨[0,1],[1],[],[],[],[]⟩
 |100004=>⟨[0,1],[1],[],[],[],[]⟩
 |_=>B8
abbrev e3A(N:Nat):Env:=mkE e1e (d1X N) FF FF
noncomputable abbrev f2h:Code:=cAt (C3 Tryz.f34) [true,true,false,false,false]
abbrev e5N(N:Nat):=P5 (e3A N) Tryz.f34 (d1Z N) e7Q
abbrev d5g:List (Nat×Sl):=[(0,.box 0 0),(1,.v (.clo 35 .un)),(5,.v τ2)]
abbrev d5d:List (Nat×Sb):=[(0,.cells [.v .str,.v τ2,.row 1]),(1,.row 42 τ1 false)]
def e32(x1:Unit)(y0_1:Int)(y0_0:d9)(w1:List τ0)(b0_1:Int):St:=⟨50,[(0,.box 0 0),(1,.v (.clo 35 .un) x1),(5,.v τ2 y0_1)],[(0,.cells [.v .str y0_0,.v τ2 b0_1,.row 1]),(1,.row 42 τ1 false w1)]⟩
def b9S(_x1:Unit)(y0_1:Int)(y0_0:d9)(w1:List τ0)(o0_0_1:Int):St:=⟨50,[(0,.box 0 0),(5,.v τ2 y0_1)],[(0,.cells [.v .str y0_0,.v τ2 o0_0_1,.row 1]),(1,.row 42 τ1 false w1)]⟩
def e9q(N:Nat)(x1:Unit)(y0_1:Int)(y0_0:d9)(w1:List τ0)(b0_1:Int)(k:Ex->St->Option τ9):Option τ9:=e42 N y0_0 (fun o0_0_1=>k (.exit 0) (b9S x1 y0_1 y0_0 w1 o0_0_1)) N b0_1
abbrev e6B(N:Nat):FV d5g->HV d5d->(Ex->St->Option τ9)->Option τ9:=fun x y k=>e9q N x.2.1 x.2.2.1 y.1.1 y.2.1 y.1.2.1 k
def e33(N:Nat):Nat->Code->St->(Ex->St->Option τ9)->Option τ9:=fun i c=>
 match i with
 |0=>(LPc 50 d5g d5d (e6B N) (fun st k=>iter (e1e 0) (q7 (e3A N) N c 0) N st k))
 |i=>fun st k=>iter (e1e i) (q7 (e3A N) N c i) N st k
theorem e5M(N:Nat)(x1:Unit)(y0_1:Int)(y0_0:d9)(w1:List τ0)(KX:Nat->St->Option τ9)(I:St->Option τ9)(b0_1:Int):
  s4 (e33 N) (e3A N) f2h 0 (e32 x1 y0_1 y0_0 w1 b0_1) (I2 (e1e 0) I KX (e5N N))=c53 N y0_0 (fun o0_0_1=>KX 0 (b9S x1 y0_1 y0_0 w1 o0_0_1)) (fun b0_1=>I (e32 x1 y0_1 y0_0 w1 b0_1)) b0_1:=by kernel_rfl
theorem e7P(N:Nat):∀x y k,(∀st,k .ret st=(e5N N) st)->iter (e1e 0) (q7 (e3A N) N f2h 0) N ⟨50,unF d5g x,unH d5d y⟩ k=e6B N x y k:=fun x y k hk=>
 s5 (S:=(Int)×Unit) (e1e 0) _ (s4 (e33 N) (e3A N) f2h 0) (e5N N) (x9 _ _ N _ f2h 0 (show LoopsOk (e33 N) (e3A N) N (e5N N) []from trivial)) (fun s=>e32 x.2.1 x.2.2.1 y.1.1 y.2.1 s.1) k hk
  (fun self s=>c53 N y.1.1 (fun o0_0_1=>k (.exit 0) (b9S x.2.1 x.2.2.1 y.1.1 y.2.1 o0_0_1)) (fun b0_1=>self (b0_1,())) s.1) (fun n s=>e42 N y.1.1 (fun o0_0_1=>k (.exit 0) (b9S x.2.1 x.2.2.1 y.1.1 y.2.1 o0_0_1)) n s.1) (fun _=>rfl) (fun _ _=>rfl)
  (fun I s=>e5M N x.2.1 x.2.2.1 y.1.1 y.2.1 (fun j=>k (.exit j)) I s.1) N (y.1.2.1,())
theorem f0r(N:Nat):a1g (e33 N) (e3A N) N (e5N N) 0 f2h:=fun st k hk=>J8 50 d5g d5d _ _ (e5N N) (e7P N) _ st k hk (rfl)
theorem e9r(N:Nat)(x:SV [.box 0 0,.v (.clo 35 .un)])(y:BV [.cells [.v .str,.v τ2,.row 1],.row 42 τ1 false]):a0f (e3A N) Tryz.f34 (d1Z N) e7Q (e33 N) x y=T9 N x.2.1 y.1.1 y.1.2.1 y.2.1:=by kernel_rfl
theorem b5R(N:Nat):Snd 34 (d1Z N):=
 b2q (d1Y N) Tryz.func34 rfl Tryz.call34 (d1Z N) e7Q (fun _ _=>rfl) N (e33 N) (show LoopsOk (e33 N) (e3A N) N (e5N N) [(0,f2h)]from⟨f0r N,trivial⟩) (e9r N)
def e2n(N:Nat)(y0_0:d9)(k0:Int->Option τ9)(self:Int->Option τ9)(b0_1:Int):Option τ9:=br (decide (b0_1<(y0_0.length:Int))) (j8 (m7 y0_0 b0_1) fun t30=>j8 (O0 N t30) fun t31=>br (t31) (self (IntKind.i64.wrap (b0_1+(1:Int)))) (k0 b0_1)) (k0 b0_1)
def e2p(N:Nat)(y0_0:d9)(k0:Int->Option τ9):Nat->Int->Option τ9|0,_=>none|n+1,b0_1=>e2n N y0_0 k0 (e2p N y0_0 k0 n) b0_1
def U0(N:Nat)(_x1:Unit)(y0_0:d9)(y0_1:Int)(w1:List τ0):Option τ9:=e2p N y0_0 (fun o0_0_1=>j8 (slc y0_0 y0_1 o0_0_1) fun t49=>some (t49,y0_0,o0_0_1,w1)) N y0_1
abbrev e1h(f:SV [.box 0 0,.v (.clo 36 .un)]->BV [.cells [.v .str,.v τ2,.row 1],.row 42 τ1 false]->Option τ9):AF:={ps:=[.box 0 0,.v (.clo 36 .un)],bs:=[.cells [.v .str,.v τ2,.row 1],.row 42 τ1 false],rs:=[.v .str],cs:=[.cells [.v .str,.v τ2,.row 1],.row 42 τ1 false],R:=d9×d9×Int×List τ0,out:=fun z=>((z.1,()),(z.2.1,z.2.2.1,(),()),z.2.2.2,()),f:=f}
abbrev d83(N:Nat):AF:=e1h fun x y=>U0 N x.2.1 y.1.1 y.1.2.1 y.2.1
abbrev e7S:SV [.v .str]->BV [.cells [.v .str,.v τ2,.row 1],.row 42 τ1 false]->τ9:=fun x y=>(x.1,y.1.1,y.1.2.1,y.2.1)
def d11(N:Nat):FuncId->Option Tmp->Option AF:=fun f _=>t7 [(36,d9y N)] f
theorem d12(N:Nat):a1f (d11 N):=fun _ _ _ h=>D7 h (Q3 (d37 N) lkn)
def e1g:Nat->Hint:=fun i=>
 match i with
 |0=>⟨[],[0,1,5],[0,1],[0,5],[0,1],[]⟩
 |100002=>⟨[0,1],[1],[],[],[],[]⟩
 |100004=>⟨[0,1],[1],[],[],[],[]⟩
 |_=>B8
abbrev e3B(N:Nat):Env:=mkE e1g (d11 N) FF FF
abbrev e5P(N:Nat):=P5 (e3B N) Tryz.f34 (d83 N) e7S
abbrev d60:List (Nat×Sl):=[(0,.box 0 0),(1,.v (.clo 36 .un)),(5,.v τ2)]
abbrev d5h:List (Nat×Sb):=[(0,.cells [.v .str,.v τ2,.row 1]),(1,.row 42 τ1 false)]
def e34(x1:Unit)(y0_1:Int)(y0_0:d9)(w1:List τ0)(b0_1:Int):St:=⟨50,[(0,.box 0 0),(1,.v (.clo 36 .un) x1),(5,.v τ2 y0_1)],[(0,.cells [.v .str y0_0,.v τ2 b0_1,.row 1]),(1,.row 42 τ1 false w1)]⟩
def c0z(_x1:Unit)(y0_1:Int)(y0_0:d9)(w1:List τ0)(o0_0_1:Int):St:=⟨50,[(0,.box 0 0),(5,.v τ2 y0_1)],[(0,.cells [.v .str y0_0,.v τ2 o0_0_1,.row 1]),(1,.row 42 τ1 false w1)]⟩
def e9s(N:Nat)(x1:Unit)(y0_1:Int)(y0_0:d9)(w1:List τ0)(b0_1:Int)(k:Ex->St->Option τ9):Option τ9:=e2p N y0_0 (fun o0_0_1=>k (.exit 0) (c0z x1 y0_1 y0_0 w1 o0_0_1)) N b0_1
abbrev e6C(N:Nat):FV d60->HV d5h->(Ex->St->Option τ9)->Option τ9:=fun x y k=>e9s N x.2.1 x.2.2.1 y.1.1 y.2.1 y.1.2.1 k
def e35(N:Nat):Nat->Code->St->(Ex->St->Option τ9)->Option τ9:=fun i c=>
 match i with
 |0=>(LPc 50 d60 d5h (e6C N) (fun st k=>iter (e1g 0) (q7 (e3B N) N c 0) N st k))
 |i=>fun st k=>iter (e1g i) (q7 (e3B N) N c i) N st k
theorem e5O(N:Nat)(x1:Unit)(y0_1:Int)(y0_0:d9)(w1:List τ0)(KX:Nat->St->Option τ9)(I:St->Option τ9)(b0_1:Int):
  s4 (e35 N) (e3B N) f2h 0 (e34 x1 y0_1 y0_0 w1 b0_1) (I2 (e1g 0) I KX (e5P N))=e2n N y0_0 (fun o0_0_1=>KX 0 (c0z x1 y0_1 y0_0 w1 o0_0_1)) (fun b0_1=>I (e34 x1 y0_1 y0_0 w1 b0_1)) b0_1:=by kernel_rfl
theorem e7R(N:Nat):∀x y k,(∀st,k .ret st=(e5P N) st)->iter (e1g 0) (q7 (e3B N) N f2h 0) N ⟨50,unF d60 x,unH d5h y⟩ k=e6C N x y k:=fun x y k hk=>
 s5 (S:=(Int)×Unit) (e1g 0) _ (s4 (e35 N) (e3B N) f2h 0) (e5P N) (x9 _ _ N _ f2h 0 (show LoopsOk (e35 N) (e3B N) N (e5P N) []from trivial)) (fun s=>e34 x.2.1 x.2.2.1 y.1.1 y.2.1 s.1) k hk
  (fun self s=>e2n N y.1.1 (fun o0_0_1=>k (.exit 0) (c0z x.2.1 x.2.2.1 y.1.1 y.2.1 o0_0_1)) (fun b0_1=>self (b0_1,())) s.1) (fun n s=>e2p N y.1.1 (fun o0_0_1=>k (.exit 0) (c0z x.2.1 x.2.2.1 y.1.1 y.2.1 o0_0_1)) n s.1) (fun _=>rfl) (fun _ _=>rfl)
  (fun I s=>e5O N x.2.1 x.2.2.1 y.1.1 y.2.1 (fun j=>k (.exit j)) I s.1) N (y.1.2.1,())
theorem f0s(N:Nat):a1g (e35 N) (e3B N) N (e5P N) 0 f2h:=fun st k hk=>J8 50 d60 d5h _ _ (e5P N) (e7R N) _ st k hk (rfl)
theorem e9t(N:Nat)(x:SV [.box 0 0,.v (.clo 36 .un)])(y:BV [.cells [.v .str,.v τ2,.row 1],.row 42 τ1 false]):a0f (e3B N) Tryz.f34 (d83 N) e7S (e35 N) x y=U0 N x.2.1 y.1.1 y.1.2.1 y.2.1:=by kernel_rfl
theorem d14(N:Nat):Snd 34 (d83 N):=
 b2q (d12 N) Tryz.func34 rfl Tryz.call34 (d83 N) e7S (fun _ _=>rfl) N (e35 N) (show LoopsOk (e35 N) (e3B N) N (e5P N) [(0,f2h)]from⟨f0s N,trivial⟩) (e9t N)
def f4R(_N:Nat)(c5:d9)(c21:Int)(k0:Int->Option τ8)(self:Int->Int->Option τ8)(s22:Int)(b1_2:Int):Option τ8:=br (decide (s22<c21)) (j8 (m7 c5 s22) fun t33=>self (IntKind.i64.wrap (s22+(1:Int))) (IntKind.i64.wrap ((IntKind.i64.wrap ((10:Int)*b1_2))+(IntKind.i64.wrap (UInt8.toNat (t33-(48:UInt8)):Int))))) (k0 b1_2)
def f6H(N:Nat)(c5:d9)(c21:Int)(k0:Int->Option τ8):Nat->Int->Int->Option τ8|0,_,_=>none|n+1,s22,b1_2=>f4R N c5 c21 k0 (f6H N c5 c21 k0 n) s22 b1_2
def X0(N:Nat)(y0_0:d9)(y0_1:Int)(y1_0:Int)(y1_1:d9)(y1_2:Int)(y1_3:Int)(w2:List τ0):Option τ8:=j8 (U0 N () y0_0 y0_1 w2) fun t8=>br (decide ((t8.1.length:Int)>(1:Int))) (j8 (m7 t8.1 (0:Int)) fun t14=>br (t14==(48:UInt8)) (some ((10:Int),t8.2.1,t8.2.2.1,y1_0,y1_1,y1_2,y1_3,t8.2.2.2)) (br (decide ((t8.1.length:Int)>(9:Int))) (some ((2:Int),t8.2.1,t8.2.2.1,y1_0,y1_1,y1_2,y1_3,t8.2.2.2)) (f6H N t8.1 (t8.1.length:Int) (fun o0_1_2=>some ((0:Int),t8.2.1,t8.2.2.1,(3:Int),y1_1,o0_1_2,y1_3,t8.2.2.2)) N (0:Int) y1_2))) (br (decide ((t8.1.length:Int)>(9:Int))) (some ((2:Int),t8.2.1,t8.2.2.1,y1_0,y1_1,y1_2,y1_3,t8.2.2.2)) (f6H N t8.1 (t8.1.length:Int) (fun o0_1_2=>some ((0:Int),t8.2.1,t8.2.2.1,(3:Int),y1_1,o0_1_2,y1_3,t8.2.2.2)) N (0:Int) y1_2))
abbrev e0O(f:SV [.box 0 0,.box 1 0]->BV [.cells [.v .str,.v τ2,.row 2],.cells [.v τ2,.v .str,.v τ2,.v τ2],.row 42 τ1 false]->Option τ8):AF:={ps:=[.box 0 0,.box 1 0],bs:=[.cells [.v .str,.v τ2,.row 2],.cells [.v τ2,.v .str,.v τ2,.v τ2],.row 42 τ1 false],rs:=[.v τ2],cs:=[.cells [.v .str,.v τ2,.row 2],.cells [.v τ2,.v .str,.v τ2,.v τ2],.row 42 τ1 false],R:=Int×d9×Int×Int×d9×Int×Int×List τ0,out:=fun z=>((z.1,()),(z.2.1,z.2.2.1,(),()),(z.2.2.2.1,z.2.2.2.2.1,z.2.2.2.2.2.1,z.2.2.2.2.2.2.1,()),z.2.2.2.2.2.2.2,()),f:=f}
abbrev d8I(N:Nat):AF:=e0O fun _ y=>X0 N y.1.1 y.1.2.1 y.2.1.1 y.2.1.2.1 y.2.1.2.2.1 y.2.1.2.2.2.1 y.2.2.1
abbrev f8J:SV [.v τ2]->BV [.cells [.v .str,.v τ2,.row 2],.cells [.v τ2,.v .str,.v τ2,.v τ2],.row 42 τ1 false]->τ8:=fun x y=>(x.1,y.1.1,y.1.2.1,y.2.1.1,y.2.1.2.1,y.2.1.2.2.1,y.2.1.2.2.2.1,y.2.2.1)
def d08(N:Nat):FuncId->Option Tmp->Option AF:=fun f _=>t7 [(34,d83 N)] f
theorem d09(N:Nat):a1f (d08 N):=fun _ _ _ h=>D7 h (Q3 (d14 N) lkn)
def e0N:Nat->Hint:=fun i=>
 match i with
 |0=>⟨[],[1,5,21,22],[0,1,2],[1],[0,1,2],[]⟩
 |100009=>⟨[1],[1],[],[],[],[]⟩
 |_=>B8
abbrev e3t(N:Nat):Env:=mkE e0N (d08 N) FF FF
noncomputable abbrev f6I:Code:=cAt (C3 Tryz.f37) [true,true,true,true,false,true,false,false]
abbrev f7n(N:Nat):=P5 (e3t N) Tryz.f37 (d8I N) f8J
abbrev f5s:List (Nat×Sl):=[(1,.box 1 0),(5,.v .str),(21,.v τ2),(22,.v τ2)]
abbrev f5r:List (Nat×Sb):=[(0,.cells [.v .str,.v τ2,.row 2]),(1,.cells [.v τ2,.v .str,.v τ2,.v τ2]),(2,.row 42 τ1 false)]
def f56(c5:d9)(c21:Int)(c0_0:d9)(c0_1:Int)(y1_0:Int)(y1_1:d9)(y1_3:Int)(cw2:List τ0)(s22:Int)(b1_2:Int):St:=⟨43,[(1,.box 1 0),(5,.v .str c5),(21,.v τ2 c21),(22,.v τ2 s22)],[(0,.cells [.v .str c0_0,.v τ2 c0_1,.row 2]),(1,.cells [.v τ2 y1_0,.v .str y1_1,.v τ2 b1_2,.v τ2 y1_3]),(2,.row 42 τ1 false cw2)]⟩
def f3n(_c5:d9)(_c21:Int)(c0_0:d9)(c0_1:Int)(y1_0:Int)(y1_1:d9)(y1_3:Int)(cw2:List τ0)(o0_1_2:Int):St:=⟨43,[(1,.box 1 0)],[(0,.cells [.v .str c0_0,.v τ2 c0_1,.row 2]),(1,.cells [.v τ2 y1_0,.v .str y1_1,.v τ2 o0_1_2,.v τ2 y1_3]),(2,.row 42 τ1 false cw2)]⟩
def f9r(N:Nat)(c5:d9)(c21:Int)(c0_0:d9)(c0_1:Int)(y1_0:Int)(y1_1:d9)(y1_3:Int)(cw2:List τ0)(s22:Int)(b1_2:Int)(k:Ex->St->Option τ8):Option τ8:=f6H N c5 c21 (fun o0_1_2=>k (.exit 0) (f3n c5 c21 c0_0 c0_1 y1_0 y1_1 y1_3 cw2 o0_1_2)) N s22 b1_2
abbrev f7Q(N:Nat):FV f5s->HV f5r->(Ex->St->Option τ8)->Option τ8:=fun x y k=>f9r N x.2.1 x.2.2.1 y.1.1 y.1.2.1 y.2.1.1 y.2.1.2.1 y.2.1.2.2.2.1 y.2.2.1 x.2.2.2.1 y.2.1.2.2.1 k
def f57(N:Nat):Nat->Code->St->(Ex->St->Option τ8)->Option τ8:=fun i c=>
 match i with
 |0=>(LPc 43 f5s f5r (f7Q N) (fun st k=>iter (e0N 0) (q7 (e3t N) N c 0) N st k))
 |i=>fun st k=>iter (e0N i) (q7 (e3t N) N c i) N st k
theorem f7m(N:Nat)(c5:d9)(c21:Int)(c0_0:d9)(c0_1:Int)(y1_0:Int)(y1_1:d9)(y1_3:Int)(cw2:List τ0)(KX:Nat->St->Option τ8)(I:St->Option τ8)(s22:Int)(b1_2:Int):
  s4 (f57 N) (e3t N) f6I 0 (f56 c5 c21 c0_0 c0_1 y1_0 y1_1 y1_3 cw2 s22 b1_2) (I2 (e0N 0) I KX (f7n N))=f4R N c5 c21 (fun o0_1_2=>KX 0 (f3n c5 c21 c0_0 c0_1 y1_0 y1_1 y1_3 cw2 o0_1_2)) (fun s22 b1_2=>I (f56 c5 c21 c0_0 c0_1 y1_0 y1_1 y1_3 cw2 s22 b1_2)) s22 b1_2:=by kernel_rfl
theorem f8I(N:Nat):∀x y k,(∀st,k .ret st=(f7n N) st)->iter (e0N 0) (q7 (e3t N) N f6I 0) N ⟨43,unF f5s x,unH f5r y⟩ k=f7Q N x y k:=fun x y k hk=>
 s5 (S:=(Int)×(Int)×Unit) (e0N 0) _ (s4 (f57 N) (e3t N) f6I 0) (f7n N) (x9 _ _ N _ f6I 0 (show LoopsOk (f57 N) (e3t N) N (f7n N) []from trivial)) (fun s=>f56 x.2.1 x.2.2.1 y.1.1 y.1.2.1 y.2.1.1 y.2.1.2.1 y.2.1.2.2.2.1 y.2.2.1 s.1 s.2.1) k hk
  (fun self s=>f4R N x.2.1 x.2.2.1 (fun o0_1_2=>k (.exit 0) (f3n x.2.1 x.2.2.1 y.1.1 y.1.2.1 y.2.1.1 y.2.1.2.1 y.2.1.2.2.2.1 y.2.2.1 o0_1_2)) (fun s22 b1_2=>self (s22,b1_2,())) s.1 s.2.1) (fun n s=>f6H N x.2.1 x.2.2.1 (fun o0_1_2=>k (.exit 0) (f3n x.2.1 x.2.2.1 y.1.1 y.1.2.1 y.2.1.1 y.2.1.2.1 y.2.1.2.2.2.1 y.2.2.1 o0_1_2)) n s.1 s.2.1) (fun _=>rfl) (fun _ _=>rfl)
  (fun I s=>f7m N x.2.1 x.2.2.1 y.1.1 y.1.2.1 y.2.1.1 y.2.1.2.1 y.2.1.2.2.2.1 y.2.2.1 (fun j=>k (.exit j)) I s.1 s.2.1) N (x.2.2.2.1,y.2.1.2.2.1,())
theorem f94(N:Nat):a1g (f57 N) (e3t N) N (f7n N) 0 f6I:=fun st k hk=>J8 43 f5s f5r _ _ (f7n N) (f8I N) _ st k hk (rfl)
theorem f9s(N:Nat)(x:SV [.box 0 0,.box 1 0])(y:BV [.cells [.v .str,.v τ2,.row 2],.cells [.v τ2,.v .str,.v τ2,.v τ2],.row 42 τ1 false]):a0f (e3t N) Tryz.f37 (d8I N) f8J (f57 N) x y=X0 N y.1.1 y.1.2.1 y.2.1.1 y.2.1.2.1 y.2.1.2.2.1 y.2.1.2.2.2.1 y.2.2.1:=by kernel_rfl
theorem d1b(N:Nat):Snd 37 (d8I N):=
 b2q (d09 N) Tryz.func37 rfl Tryz.call37 (d8I N) f8J (fun _ _=>rfl) N (f57 N) (show LoopsOk (f57 N) (e3t N) N (f7n N) [(0,f6I)]from⟨f94 N,trivial⟩) (f9s N)
def b5U(_N:Nat)(y0_0:d9)(w1:List τ0)(k0:Int->Option τ16)(self:Int->K1->Option τ16)(b0_1:Int)(w1004:List UInt8):Option τ16:=br (decide (b0_1<(y0_0.length:Int))) (j8 (m7 y0_0 b0_1) fun t24=>br (t24==(34:UInt8)) (some (w1004,true,y0_0,IntKind.i64.wrap (b0_1+(1:Int)),w1)) (br (t24==(92:UInt8)) (br ((IntKind.i64.wrap (b0_1+(1:Int)))==(y0_0.length:Int)) (some (([]:d9),false,y0_0,IntKind.i64.wrap (b0_1+(1:Int)),w1)) (j8 (m7 y0_0 (IntKind.i64.wrap (b0_1+(1:Int)))) fun t62=>br (t62==(34:UInt8)) (br (t62==(34:UInt8)) (j8 (m7 y0_0 (IntKind.i64.wrap (b0_1+(1:Int)))) fun t75=>br (Zf (w1004.length + [t75].length) .u8) (self (IntKind.i64.wrap ((IntKind.i64.wrap (b0_1+(1:Int)))+(1:Int))) (w1004 ++ [t75])) none) (br (t62==(110:UInt8)) (br (Zf (w1004.length + [(10:UInt8)].length) .u8) (self (IntKind.i64.wrap ((IntKind.i64.wrap (b0_1+(1:Int)))+(1:Int))) (w1004 ++ [(10:UInt8)])) none) (some (([]:d9),false,y0_0,IntKind.i64.wrap (b0_1+(1:Int)),w1)))) (br (t62==(92:UInt8)) (j8 (m7 y0_0 (IntKind.i64.wrap (b0_1+(1:Int)))) fun t75_1=>br (Zf (w1004.length + [t75_1].length) .u8) (self (IntKind.i64.wrap ((IntKind.i64.wrap (b0_1+(1:Int)))+(1:Int))) (w1004 ++ [t75_1])) none) (br (t62==(110:UInt8)) (br (Zf (w1004.length + [(10:UInt8)].length) .u8) (self (IntKind.i64.wrap ((IntKind.i64.wrap (b0_1+(1:Int)))+(1:Int))) (w1004 ++ [(10:UInt8)])) none) (some (([]:d9),false,y0_0,IntKind.i64.wrap (b0_1+(1:Int)),w1)))))) (br (decide (t24<(32:UInt8))) (some (([]:d9),false,y0_0,IntKind.i64.wrap (b0_1+(1:Int)),w1)) (br (decide (t24>(126:UInt8))) (some (([]:d9),false,y0_0,IntKind.i64.wrap (b0_1+(1:Int)),w1)) (br (Zf (w1004.length + [t24].length) .u8) (self (IntKind.i64.wrap (b0_1+(1:Int))) (w1004 ++ [t24])) none))))) (k0 b0_1)
def b5T(N:Nat)(y0_0:d9)(w1:List τ0)(k0:Int->Option τ16):Nat->Int->K1->Option τ16|0,_,_=>none|n+1,b0_1,w1004=>b5U N y0_0 w1 k0 (b5T N y0_0 w1 k0 n) b0_1 w1004
def Z4(N:Nat)(y0_0:d9)(y0_1:Int)(w1:List τ0):Option τ16:=b5T N y0_0 w1 (fun o0_0_1=>some (([]:d9),false,y0_0,o0_0_1,w1)) N y0_1 ([]:List UInt8)
abbrev e1i(f:SV [.box 0 0]->BV [.cells [.v .str,.v τ2,.row 1],.row 42 τ1 false]->Option τ16):AF:={ps:=[.box 0 0],bs:=[.cells [.v .str,.v τ2,.row 1],.row 42 τ1 false],rs:=[.v .str,.v .bool],cs:=[.cells [.v .str,.v τ2,.row 1],.row 42 τ1 false],R:=d9×Bool×d9×Int×List τ0,out:=fun z=>((z.1,z.2.1,()),(z.2.2.1,z.2.2.2.1,(),()),z.2.2.2.2,()),f:=f}
abbrev d18(N:Nat):AF:=e1i fun _ y=>Z4 N y.1.1 y.1.2.1 y.2.1
abbrev d7p:SV [.v .str,.v .bool]->BV [.cells [.v .str,.v τ2,.row 1],.row 42 τ1 false]->τ16:=fun x y=>(x.1,x.2.1,y.1.1,y.1.2.1,y.2.1)
def d16(_N:Nat):FuncId->Option Tmp->Option AF:=fun f _=>t7 [] f
theorem d17(N:Nat):a1f (d16 N):=fun _ _ _ h=>D7 h lkn
def c4h:Nat->Hint:=fun i=>
 match i with
 |0=>⟨[],[0,4],[0,1,1004],[],[0,1],[]⟩
 |100015=>⟨[0,1],[1],[],[],[],[]⟩
 |_=>B8
abbrev b5S(N:Nat):Env:=mkE c4h (d16 N) FF FF
noncomputable abbrev f6K:Code:=cAt (C3 Tryz.f38) [true,true,false,false,false]
abbrev c4g(N:Nat):=P5 (b5S N) Tryz.f38 (d18 N) d7p
abbrev b0Y:List (Nat×Sl):=[(0,.box 0 0),(4,.row 1004)]
abbrev b0X:List (Nat×Sb):=[(0,.cells [.v .str,.v τ2,.row 1]),(1,.row 42 τ1 false),(1004,.row 5 .u8 false)]
def b5V(y0_0:d9)(w1:List τ0)(b0_1:Int)(w1004:List UInt8):St:=⟨97,[(0,.box 0 0),(4,.row 1004)],[(0,.cells [.v .str y0_0,.v τ2 b0_1,.row 1]),(1,.row 42 τ1 false w1),(1004,.row 5 .u8 false w1004)]⟩
def a8K(y0_0:d9)(w1:List τ0)(o0_0_1:Int):St:=⟨97,[],[(0,.cells [.v .str y0_0,.v τ2 o0_0_1,.row 1]),(1,.row 42 τ1 false w1)]⟩
def d5Z(N:Nat)(y0_0:d9)(w1:List τ0)(b0_1:Int)(w1004:List UInt8)(k:Ex->St->Option τ16):Option τ16:=b5T N y0_0 w1 (fun o0_0_1=>k (.exit 0) (a8K y0_0 w1 o0_0_1)) N b0_1 w1004
abbrev c6u(N:Nat):FV b0Y->HV b0X->(Ex->St->Option τ16)->Option τ16:=fun _ y k=>d5Z N y.1.1 y.2.1 y.1.2.1 y.2.2.1 k
def b5W(N:Nat):Nat->Code->St->(Ex->St->Option τ16)->Option τ16:=fun i c=>
 match i with
 |0=>(LPc 97 b0Y b0X (c6u N) (fun st k=>iter (c4h 0) (q7 (b5S N) N c 0) N st k))
 |i=>fun st k=>iter (c4h i) (q7 (b5S N) N c i) N st k
theorem c4f(N:Nat)(y0_0:d9)(w1:List τ0)(KX:Nat->St->Option τ16)(I:St->Option τ16)(b0_1:Int)(w1004:List UInt8):
  s4 (b5W N) (b5S N) f6K 0 (b5V y0_0 w1 b0_1 w1004) (I2 (c4h 0) I KX (c4g N))=b5U N y0_0 w1 (fun o0_0_1=>KX 0 (a8K y0_0 w1 o0_0_1)) (fun b0_1 w1004=>I (b5V y0_0 w1 b0_1 w1004)) b0_1 w1004:=by kernel_rfl
theorem d15(N:Nat):∀x y k,(∀st,k .ret st=(c4g N) st)->iter (c4h 0) (q7 (b5S N) N f6K 0) N ⟨97,unF b0Y x,unH b0X y⟩ k=c6u N x y k:=fun _ y k hk=>
 s5 (S:=(Int)×K1×Unit) (c4h 0) _ (s4 (b5W N) (b5S N) f6K 0) (c4g N) (x9 _ _ N _ f6K 0 (show LoopsOk (b5W N) (b5S N) N (c4g N) []from trivial)) (fun s=>b5V y.1.1 y.2.1 s.1 s.2.1) k hk
  (fun self s=>b5U N y.1.1 y.2.1 (fun o0_0_1=>k (.exit 0) (a8K y.1.1 y.2.1 o0_0_1)) (fun b0_1 w1004=>self (b0_1,w1004,())) s.1 s.2.1) (fun n s=>b5T N y.1.1 y.2.1 (fun o0_0_1=>k (.exit 0) (a8K y.1.1 y.2.1 o0_0_1)) n s.1 s.2.1) (fun _=>rfl) (fun _ _=>rfl)
  (fun I s=>c4f N y.1.1 y.2.1 (fun j=>k (.exit j)) I s.1 s.2.1) N (y.1.2.1,y.2.2.1,())
theorem d84(N:Nat):a1g (b5W N) (b5S N) N (c4g N) 0 f6K:=fun st k hk=>J8 97 b0Y b0X _ _ (c4g N) (d15 N) _ st k hk (rfl)
theorem d50(N:Nat)(x:SV [.box 0 0])(y:BV [.cells [.v .str,.v τ2,.row 1],.row 42 τ1 false]):a0f (b5S N) Tryz.f38 (d18 N) d7p (b5W N) x y=Z4 N y.1.1 y.1.2.1 y.2.1:=by kernel_rfl
theorem d2b(N:Nat):Snd 38 (d18 N):=
 b2q (d17 N) Tryz.func38 rfl Tryz.call38 (d18 N) d7p (fun _ _=>rfl) N (b5W N) (show LoopsOk (b5W N) (b5S N) N (c4g N) [(0,f6K)]from⟨d84 N,trivial⟩) (d50 N)
def a0i(N:Nat)(y0_0:d9)(y0_1:Int)(w1:List τ0):Option (τ0×Int×d9×Int×List τ0):=j8 (m7 y0_0 y0_1) fun t23=>j8 (O1 N t23) fun t26=>br (t26) (j8 (T9 N () y0_0 y0_1 w1) fun t28=>br (decide ((t28.1.length:Int)>(40:Int))) (some (((1:Int),t28.1,(0:Int),y0_1),(2:Int),t28.2)) (some (((1:Int),t28.1,(0:Int),y0_1),(0:Int),t28.2))) (j8 (O0 N t23) fun t39=>br (t39) (j8 (X0 N y0_0 y0_1 (0:Int) ([]:d9) (0:Int) y0_1 w1) fun t41=>some ((t41.2.2.2.1,t41.2.2.2.2.1,t41.2.2.2.2.2.1,t41.2.2.2.2.2.2.1),t41.1,t41.2.1,t41.2.2.1,t41.2.2.2.2.2.2.2)) (br (t23==(34:UInt8)) (j8 (Z4 N y0_0 (IntKind.i64.wrap (y0_1+(1:Int))) w1) fun t56=>br (!t56.2.1) (some (((0:Int),([]:d9),(0:Int),y0_1),(10:Int),t56.2.2)) (some (((2:Int),t56.1,(0:Int),y0_1),(0:Int),t56.2.2))) (j8 (strings_IndexByte ([61,43,40,41,91,93,123,125,44,58,59]:d9) t23) fun t68=>br (decide (t68>=(0:Int))) (j8 (slc y0_0 y0_1 (y0_0.length:Int)) fun t78=>j8 (d93 N t78 ([61,61]:d9)) fun t79=>br (t79) (j8 (slc y0_0 y0_1 (IntKind.i64.wrap (y0_1+(2:Int)))) fun t94=>some (((4:Int),t94,(0:Int),y0_1),(0:Int),y0_0,IntKind.i64.wrap (y0_1+(2:Int)),w1)) (j8 (slc y0_0 y0_1 (IntKind.i64.wrap (y0_1+(1:Int)))) fun t94_1=>some (((4:Int),t94_1,(0:Int),y0_1),(0:Int),y0_0,IntKind.i64.wrap (y0_1+(1:Int)),w1))) (some (((0:Int),([]:d9),(0:Int),y0_1),(10:Int),y0_0,y0_1,w1)))))
abbrev e1v:=sgM [.box 0 0] [.cells [.v .str,.v τ2,.row 1],.row 42 τ1 false] [.v τ1,.v τ2] [.cells [.v .str,.v τ2,.row 1],.row 42 τ1 false] (τ0×Int×d9×Int×List τ0) fun z=>((z.1,z.2.1,()),(z.2.2.1,z.2.2.2.1,(),()),z.2.2.2.2,())
abbrev c1Y(N:Nat):AF:=e1v fun _ y=>a0i N y.1.1 y.1.2.1 y.2.1
def e1u:Nat->Hint:=fun i=>
 match i with
 |100020=>⟨[0,1],[1],[],[],[],[]⟩
 |100022=>⟨[0,1],[1],[],[],[],[]⟩
 |_=>B8
theorem a5V(N:Nat):Snd 17 (c1Y N):=
 a4W e1u [(32,e1S fun x _=>strings_IndexByte x.1 x.2.1),(33,d6Q N),(34,d1Z N),(36,d9y N),(37,d8I N),(38,d18 N),(39,d6A N)] (Q3 (b1r) (Q3 (d4c N) (Q3 (b5R N) (Q3 (d37 N) (Q3 (d1b N) (Q3 (d2b N) (Q3 (d3E N) lkn))))))) Tryz.func17 rfl Tryz.call17 (c1Y N) (fun x y=>(x.1,x.2.1,y.1.1,y.1.2.1,y.2.1)) (fun _ _=>rfl) N (fun _ _=>by kernel_rfl) rfl
def e4A(N:Nat)(x0:d9)(self:d9->Int->τ6->Option τ14)(b1013_0:d9)(b1013_1:Int)(w900001:List τ0):Option τ14:=j8 (L1 N b1013_0 b1013_1 w900001) fun t15=>br (t15.2.1==(x0.length:Int)) (some (t15.2.2,(0:Int),(0:Int))) (br ((t15.2.2.length:Int)==(50000:Int)) (some (([]:List τ0),t15.2.1,(2:Int))) (j8 (a0i N t15.1 t15.2.1 t15.2.2) fun t39=>br (t39.2.1 !=(0:Int)) (some (([]:List τ0),t39.1.2.2.2,t39.2.1)) (k9 2 (br (Zf (t39.2.2.2.2.length + [t39.1].length) τ1) (self t39.2.2.1 t39.2.2.2.1 (t39.2.2.2.2 ++ [t39.1])) none))))
def e6V(N:Nat)(x0:d9):Nat->d9->Int->τ6->Option τ14|0,_,_,_=>none|n+1,b1013_0,b1013_1,w900001=>e4A N x0 (e6V N x0 n) b1013_0 b1013_1 w900001
def a0K(N:Nat)(x0:d9):Option τ14:=br (decide ((x0.length:Int)>(50000:Int))) (some (([]:List τ0),(0:Int),(2:Int))) (e6V N x0 N x0 (0:Int) ([]:List τ0))
abbrev c2k(f:SV [.v .str]->BV []->Option τ14):AF:={ps:=[.v .str],bs:=[],rs:=[.v (.sl τ1),.v τ2,.v τ2],cs:=[],R:=List τ0×Int×Int,out:=fun z=>((z.1,z.2.1,z.2.2,()),()),f:=f}
abbrev e6c(N:Nat):AF:=c2k fun x _=>a0K N x.1
abbrev e8N:SV [.v (.sl τ1),.v τ2,.v τ2]->BV []->τ14:=fun x _=>(x.1,x.2.1,x.2.2.1)
def e99(N:Nat):FuncId->Option Tmp->Option AF:=fun f _=>t7 [(16,d8H N),(17,c1Y N)] f
theorem e8M(N:Nat):a1f (e99 N):=fun _ _ _ h=>D7 h (Q3 (d07 N) (Q3 (a5V N) lkn))
def e69:Nat->Hint:=fun i=>
 match i with
 |0=>⟨[],[0,5],[1013,900001],[],[],[(1013,2,900001,42,τ1)]⟩
 |100008=>⟨[1013,900001],[1],[],[],[],[]⟩
 |100011=>⟨[1006],[1],[],[],[],[]⟩
 |100012=>⟨[],[1,2],[],[],[],[]⟩
 |_=>B8
abbrev e4Q(N:Nat):Env:=mkE e69 (e99 N) FF FF
noncomputable abbrev e5c:Code:=cAt (C3 Tryz.f7) [true,true,true,false,false]
abbrev e6b(N:Nat):=P5 (e4Q N) Tryz.f7 (e6c N) e8N
abbrev d9U:List (Nat×Sl):=[(0,.v .str),(5,.box 1013 0)]
abbrev d9T:List (Nat×Sb):=[(1013,.cells [.v .str,.v τ2,.row 900001]),(900001,.row 42 τ1 false)]
def e4B(x0:d9)(b1013_0:d9)(b1013_1:Int)(w900001:List τ0):St:=⟨57,[(0,.v .str x0),(5,.box 1013 0)],[(1013,.cells [.v .str b1013_0,.v τ2 b1013_1,.row 900001]),(900001,.row 42 τ1 false w900001)]⟩
def e9R(N:Nat)(x0:d9)(b1013_0:d9)(b1013_1:Int)(w900001:List τ0)(_k:Ex->St->Option τ14):Option τ14:=e6V N x0 N b1013_0 b1013_1 w900001
abbrev e6W(N:Nat):FV d9U->HV d9T->(Ex->St->Option τ14)->Option τ14:=fun x y k=>e9R N x.1 y.1.1 y.1.2.1 y.2.1 k
def e4C(N:Nat):Nat->Code->St->(Ex->St->Option τ14)->Option τ14:=fun i c=>
 match i with
 |0=>(LPc 57 d9U d9T (e6W N) (fun st k=>iter (e69 0) (q7 (e4Q N) N c 0) N st k))
 |i=>fun st k=>iter (e69 i) (q7 (e4Q N) N c i) N st k
theorem e6a(N:Nat)(x0:d9)(KX:Nat->St->Option τ14)(I:St->Option τ14)(b1013_0:d9)(b1013_1:Int)(w900001:List τ0):
  s4 (e4C N) (e4Q N) e5c 0 (e4B x0 b1013_0 b1013_1 w900001) (I2 (e69 0) I KX (e6b N))=e4A N x0 (fun b1013_0 b1013_1 w900001=>I (e4B x0 b1013_0 b1013_1 w900001)) b1013_0 b1013_1 w900001:=by kernel_rfl
theorem e8L(N:Nat):∀x y k,(∀st,k .ret st=(e6b N) st)->iter (e69 0) (q7 (e4Q N) N e5c 0) N ⟨57,unF d9U x,unH d9T y⟩ k=e6W N x y k:=fun x y k hk=>
 s5 (S:=(d9)×(Int)×τ6×Unit) (e69 0) _ (s4 (e4C N) (e4Q N) e5c 0) (e6b N) (x9 _ _ N _ e5c 0 (show LoopsOk (e4C N) (e4Q N) N (e6b N) []from trivial)) (fun s=>e4B x.1 s.1 s.2.1 s.2.2.1) k hk
  (fun self s=>e4A N x.1 (fun b1013_0 b1013_1 w900001=>self (b1013_0,b1013_1,w900001,())) s.1 s.2.1 s.2.2.1) (fun n s=>e6V N x.1 n s.1 s.2.1 s.2.2.1) (fun _=>rfl) (fun _ _=>rfl)
  (fun I s=>e6a N x.1 (fun j=>k (.exit j)) I s.1 s.2.1 s.2.2.1) N (y.1.1,y.1.2.1,y.2.1,())
theorem f0G(N:Nat):a1g (e4C N) (e4Q N) N (e6b N) 0 e5c:=fun st k hk=>J8 57 d9U d9T _ _ (e6b N) (e8L N) _ st k hk (rfl)
theorem e9S(N:Nat)(x:SV [.v .str])(y:BV []):a0f (e4Q N) Tryz.f7 (e6c N) e8N (e4C N) x y=a0K N x.1:=by kernel_rfl
theorem c2l(N:Nat):Snd 7 (e6c N):=
 b2q (e8M N) Tryz.func7 rfl Tryz.call7 (e6c N) e8N (fun _ _=>rfl) N (e4C N) (show LoopsOk (e4C N) (e4Q N) N (e6b N) [(0,e5c)]from⟨f0G N,trivial⟩) (e9S N)
def a1l(N:Nat)(x0:d9):Option (List GStmt×Int×Int):=j8 (a0K N x0) fun t14=>br (t14.2.2 !=(0:Int)) (some (([]:List GStmt),t14.2)) (j8 (F8 N t14.1 (x0.length:Int) (-1:Int)) fun t29=>br (!t29.2.2.1) (some (([]:List GStmt),t29.2.1,(10:Int))) (br (decide (t29.2.2.2>=(0:Int))) (some (([]:List GStmt),t29.2.2.2,(2:Int))) (j8 (B3 N t29.1) fun t46=>br (t46 !=(0:Int)) (some (([]:List GStmt),(0:Int),t46)) (some (t29.1,(0:Int),(0:Int))))))
abbrev f1n:=sgM [.v .str] [] [.v τ4,.v τ2,.v τ2] [] (List GStmt×Int×Int) fun z=>((z.1,z.2.1,z.2.2,()),())
abbrev f0J(N:Nat):AF:=f1n fun x _=>a1l N x.1
def g0Y:Nat->Hint:=fun i=>
 match i with
 |100009=>⟨[1026],[],[],[],[],[]⟩
 |_=>B8
theorem e82(N:Nat):Snd 12 (f0J N):=
 a4W g0Y [(7,e6c N),(21,e1j fun _ y=>F8 N y.1.1 y.1.2.1 y.1.2.2.1),(22,d1M N)] (Q3 (c2l N) (Q3 (d2i N) (Q3 (d1O N) lkn))) Tryz.func12 rfl Tryz.call12 (f0J N) (fun x _=>(x.1,x.2.1,x.2.2.1)) (fun _ _=>rfl) N (fun _ _=>by kernel_rfl) rfl
end
end
noncomputable section
theorem Sound.callExt{P:Program}{G:World->Prop}{B0:Nat}{f:FuncId}{ps rs:List Sl}{R:Type}[BothC R]{out:R->SV rs×BV []}{F:SV ps->BV []->Option R}(h:Sound P G B0 f ⟨ps,[],rs,[],R,out,F⟩)
  {M:Nat->Nat->Prop} {w:World} {vs:List Value} {x:SV ps} {z:R} (hG:G w) (hB:B0<=w.heap.size) (hM:∀b o,M b o->b<w.heap.size) (ha:All2 (RepD0 M w g0) (a0M id ps x) vs) (hz:F x ()=some z):
  Calls P f vs.toArray w fun e w'=>∃vs' M' g',e = .returned (a7C vs')/\Ext w w'/\All2 (RepD0 M' w' g') (a0M id rs (out z).1) vs':=by
 refine(h.2 M w g0 vs x () z hG hB {args:=ha,res:=fun r blk h=>(by cases h),dom:=fun r gx h=>(by cases h),inj:=fun _ _ _ _ _ h=>(by cases h),low:=fun _ _ _ h=>(by cases h),chg:=fun _ _ _ _ h=>(by cases h),mlt:=hM,row:=fun _ _ _ h=>(by cases h)} hz).mono fun e w' hp=>?_
 obtain⟨vs',g',he,hX,_,hF,_⟩:=hp;exact⟨vs',_,g',he,hX.ext fun b ⟨_,_,h,_⟩=>(by cases h),hF.args⟩
noncomputable def U6(N:Nat)(l:List GStmt):Option (d9×Int):=j8 (B3 N l) fun f=>br (f !=(0:Int)) (some (([]:d9),f)) (j8 (D6 N N 0 l []) fun r=>br (decide ((r.length:Int)>50000)) (some (([]:d9),(2:Int))) (some (r,(0:Int))))
theorem c08(N:Nat){M:Nat->Nat->Prop}{w0 w:World}{l:List GStmt}{v1:Value}{r:List UInt8}(hG:GW w)(hB:B0G<=w.heap.size)(hM:∀b o,M b o->b<w.heap.size)(h1:RepV M w τ4 l v1)(hr:D6 N N 0 l []=some r)(hE:Ext w0 w):
  Calls Tryz.prog 29 #[.pointer (some ⟨w.heap.size,0,none⟩),.int .i64 0,v1] (w.alloc (.cells #[.pointer none,.slice none 0 0] 88)) fun e w'=>e = .returned (.tuple #[])/\
   Ext w0 w'/\∃p v,b3L w' w.heap.size p v (Lib.byteCells r)/\∀k,v.ownBlock=some k->w0.heap.size<=k:=by
 obtain⟨W,hW⟩:∃W,W=w.alloc (.cells #[.pointer none,.slice none 0 0] 88):=⟨_,rfl⟩;rw[<-hW];have hEW:Ext w W:=by rw[hW];exact(Ext.refl w).alloc _
 have hWb:W.heap[w.heap.size]? = some (.cells #[.pointer none,.slice none 0 0] 88 (0,0)):=by rw[hW];exact heap_alloc_new w _
 have hWs:W.heap.size=w.heap.size+1:=by rw[hW];simp
 obtain⟨g,hgd⟩:∃g:Gh,g=fun r=>if r=0 then some ⟨some w.heap.size,0,S8 w.heap.size⟩else if r=1 then some ⟨none,0,.slice none 0 0⟩else none:=⟨_,rfl⟩
 have hg0:g 0=some ⟨some w.heap.size,0,S8 w.heap.size⟩:=by rw[hgd];rfl
 have hg1:g 1=some ⟨none,0,.slice none 0 0⟩:=by rw[hgd];rfl
 have hcase:∀r x b,g r=some x->x.blk=some b->r=0/\x=⟨some w.heap.size,0,S8 w.heap.size⟩/\b=w.heap.size:=fun r x b h hb=>by
  rw[hgd]at h;by_cases h0:r=0
  ·subst h0;obtain rfl:({blk:=some w.heap.size,lo:=0,v:=S8 w.heap.size}:GB)=x:=Option.some.inj h;injection hb with hb
   exact⟨rfl,rfl,hb.symm⟩
  ·by_cases h1:r=1
   ·subst h1;obtain rfl:({blk:=none,lo:=0,v:= .slice none 0 0}:GB)=x:=Option.some.inj h;cases hb
   ·simp[h0,h1]at h
 obtain⟨M2,hM2⟩:∃M2:Nat->Nat->Prop,M2=fun b o=>M b o\/b=w.heap.size:=⟨_,rfl⟩
 have hstep:Step M w M2 W:=by
  subst hM2;refine⟨fun ad u hc hm=>⟨hEW.cell hc,fun h=>?_⟩,fun b es c hc hm=>⟨(hEW.block b (B7 hc)).trans hc,fun h=>?_⟩⟩
  ·have:=World.block_lt_of_cell? w ad hc;rcases h with h|h
   ·exact hm h
   ·omega
  ·have:=B7 hc;rcases h with h|h
   ·exact hm h
   ·omega
 have hGW:GW W:=a2I w W (fun _=>False) hG (ExtX.of_ext hEW) fun _ h=>h.elim
 refine((d0I N N).2 M2 W g [.pointer (some ⟨w.heap.size,0,none⟩),.int .i64 0,v1] ((),0,l,()) (((),()),[],()) r hGW (by rw[hWs];omega)
  {args:=⟨⟨_,w.heap.size,hg0,rfl,rfl⟩,c3Q .i64 0,h1.step hstep,trivial⟩,res:=fun r blk hr=>?_,dom:=fun r x h=>?_,inj:=fun r r' x x' k h1 h2 h3 h4=>(hcase _ _ _ h1 h3).1.trans (hcase _ _ _ h2 h4).1.symm,low:=fun r x k h1 h2=>?_,chg:=fun r x k o h1 h2=>?_,mlt:=fun k o h=>?_,row:=fun r x k h1 h2 h3=>?_} hr).mono fun e w' hq=>?_
 ·match r,hr with
  |0,hr=>
   obtain rfl:Blk.bld 88 [.row 1]=blk:=Option.some.inj hr;exact⟨_,hg0,w.heap.size,.pointer none,[.slice none 0 0],rfl,hWb,.inl rfl,⟨⟨_,none,0,0,hg1,rfl,rfl⟩,trivial⟩⟩
  |1,hr=>
   obtain rfl:Blk.row 5 .u8 true []=blk:=Option.some.inj hr;exact⟨_,hg1,by decide,[],World.ownsRow_nil _ _ _ _,rfl,rfl,fun i h=>by cases h⟩
  |n+2,hr=>cases hr
 ·rw[hgd]at h;by_cases h0:r=0
  ·subst h0;exact Nat.succ_pos 1
  ·by_cases h1:r=1
   ·subst h1;exact Nat.lt_succ_self 1
   ·simp[h0,h1]at h
 ·obtain⟨_,_,rfl⟩:=hcase _ _ _ h1 h2;exact⟨hB,by omega⟩
 ·obtain⟨_,rfl,rfl⟩:=hcase _ _ _ h1 h2;exact⟨fun _=>Nat.zero_le _,fun _=>by rw[hM2];exact .inr rfl⟩
 ·rw[hM2]at h;rcases h with h|h
  ·have:=hM k o h;omega
  ·omega
 ·obtain⟨_,rfl,rfl⟩:=hcase _ _ _ h1 h2;cases h3
 ·obtain⟨vs',g',he,hX,_,hF,hkeep,hnew⟩:=hq;have hv:=hF.args
  match vs',hv with
  |[],_=>
  refine⟨he,?_,?_⟩
  ·have hX2:ExtX (fun k=>k=w.heap.size) W w':=hX.wider fun k ⟨r,x,h1,h2⟩=>(hcase _ _ _ h1 h2).2.2
   have h0W:=hE.trans hEW;refine⟨hX2.os.trans h0W.os,hX2.tape.trans h0W.tape,hX2.output.trans h0W.output,Nat.le_trans h0W.size hX2.size,fun k hk=>?_⟩;have:=hE.size;rw[hX2.block k (by omega) (by omega)];exact h0W.block k hk
  ·have hg0':=hkeep 0 _ hg0 (.inl rfl);obtain⟨gx,hgx,b',p,us,e0,hb,hp,hus⟩:=hF.res 0 (.bld 88 [.row 1]) rfl;rw[hg0']at hgx;cases hgx;obtain rfl:w.heap.size=b':=by injection e0 with e1;injection e1
   match us,hus with
   |[v],hus=>
   obtain⟨⟨g1,A,n,c,hg1',hv1,hv2⟩,_⟩:=hus;have hg1':g' 1=some g1:=hg1';obtain⟨g1',hg1'',_,cs,hown,hblk,hlo,hcs⟩:=hF.res 1 (.row 5 .u8 true r) rfl;rw[hg1']at hg1'';cases hg1'';rw[<-hv1]at hown hblk;have hown:w'.ownsRow 0 5 1 v r.length cs:=hown;have hcs':cs=Lib.byteCells r:=b2I hown.1 hcs;subst hcs';refine⟨p,v,⟨hb,by simpa [Lib.byteCells]using hown,fun h=>?_⟩,fun k hk=>?_⟩
   ·have:=hF.inj 0 1 _ _ _ hg0' hg1' rfl (by rw[hblk,h]);cases this
   ·have:=hE.size;rcases hnew k ⟨1,g1,hg1',by rw[hblk,hk]⟩with⟨r,x,h1,h2⟩|h3
    ·obtain⟨_,_,rfl⟩:=hcase _ _ _ h1 h2;omega
    ·omega
set_option maxHeartbeats 1000000 in
set_option maxRecDepth 100000 in
theorem c2j(N:Nat):Snd 15 ⟨[.v τ4],[],[.v .str,.v τ2],[],d9×Int,fun z=>((z.1,z.2,()),()),fun x _=>U6 N x.1⟩:=by
 refine Sound.ofExt Tryz.call15 fun M w vs x z hG hM hA hz=>?_
 obtain⟨l,u⟩:=x
 match vs,hA with
 |[v1],hA=>
 obtain⟨h1,_⟩:=hA;have h1:RepV M w τ4 l v1:=h1;have hB:=c43 hG;have hz:U6 N l=some z:=hz;unfold U6 at hz;obtain⟨c,hc,hz⟩:=I4 hz;have cC:Calls Tryz.prog 22 #[v1] w fun e w'=>e = .returned (.int .i64 c)/\Ext w w':=by
  refine(Sound.callExt (d1O N) (vs:=[v1]) (x:=(l,())) (z:=c) hG hB hM ⟨h1,trivial⟩ hc).mono fun e w' hp=>?_
  obtain⟨vs',M',g',he,hE,hv⟩:=hp
  match vs',hv with
  |[v],hv=>
  obtain⟨hv,_⟩:=hv;have:v = .int .i64 c:=RepV.int hv;subst this;exact⟨he,hE⟩
 by_cases h0:c=0
 case neg=>
  have hne:(c !=0)=true:=by simpa using h0
  rw[hne,d7]at hz;cases hz
  go_enter Tryz.func15,Tryz.ntmps15
  go_wp2_with (go_at_call 22;refine cC.mono ?_;rintro e w1 ⟨rfl,hE⟩)
  go_ret2
  exact⟨[_,_],rfl,hE,c1G _,c3Q .i64 _,trivial⟩
 subst h0;rw[bne_self_eq_false,d6]at hz;obtain⟨r,hr,hz⟩:=I4 hz;have cS:∀w1,Ext w w1->Calls Tryz.prog 29 #[.pointer (some ⟨w1.heap.size,0,none⟩),.int .i64 0,v1] (w1.alloc (.cells #[.pointer none,.slice none 0 0] 88)) fun e w'=>e = .returned (.tuple #[])/\
   Ext w w'/\∃p v,b3L w' w1.heap.size p v (Lib.byteCells r)/\∀k,v.ownBlock=some k->w.heap.size<=k:=fun w1 hE=>
  c08 N (a2I w w1 (fun _=>False) hG (ExtX.of_ext hE) fun _ h=>h.elim) (Nat.le_trans hB hE.size) (fun b o h=>Nat.lt_of_lt_of_le (hM b o h) hE.size) (h1.step (Step.ext hE)) hr hE
 have hrl:(Lib.byteCells r).length=r.length:=by simp[Lib.byteCells]
 go_enter Tryz.func15,Tryz.ntmps15
 go_wp2_with (first
  |(go_at_call 22;refine cC.mono ?_;rintro e w1 ⟨rfl,hE⟩)
  |(go_at_call 29;refine(cS _ hE).mono ?_;rintro e w2 ⟨rfl,hE2,p,v,hbd,hvb⟩)
  |(go_at_call 30;refine(d7M hbd).mono ?_;rintro e w3 ⟨rfl,rfl⟩)
  |(go_at_call 31;refine(c69 hbd hE2 hvb).mono ?_;rintro e w4 ⟨rfl,hE4⟩))
 ·rename_i hgt;rw[decide_eq_true (show(r.length:Int)>50000 from hgt),d7]at hz;cases hz
  go_ret2
  exact⟨[_,_],rfl,hE2,c1G _,c3Q .i64 _,trivial⟩
 ·rename_i hle hE4;rw[decide_eq_false (show ¬(r.length:Int)>50000 by omega),d6]at hz;cases hz
  go_ret2
  exact⟨[_,_],rfl,hE4,c1G _,c3Q .i64 _,trivial⟩
end
noncomputable section
noncomputable section
def a2s(N:Nat)(x0:d9):Option (List GStmt×Int×Int):=j8 (a0K N x0) fun t14=>br (t14.2.2 !=(0:Int)) (some (([]:List GStmt),t14.2)) (j8 (I8 N t14.1 (x0.length:Int) (-1:Int)) fun t29=>br (!t29.2) (some (([]:List GStmt),t29.1,(10:Int))) none)
abbrev e1Z:=sgM [.v .str] [] [.v τ4,.v τ2,.v τ2] [] (List GStmt×Int×Int) fun z=>((z.1,z.2.1,z.2.2,()),())
abbrev d6L(N:Nat):AF:=e1Z fun x _=>a2s N x.1
theorem d31(N:Nat):Snd 12 (d6L N):=
 a4W h0 [(7,e6c N),(21,e03 fun _ y=>I8 N y.1.1 y.1.2.1 y.1.2.2.1)] (Q3 (c2l N) (Q3 (d1y N) lkn)) Tryz.func12 rfl Tryz.call12 (d6L N) (fun x _=>(x.1,x.2.1,x.2.2.1)) (fun _ _=>rfl) N (fun _ _=>by kernel_rfl) rfl
abbrev e2d:=sgM [.v .str] [] [.v τ4,.v τ2,.v τ2] [] (List GStmt×Int×Int) fun z=>((z.1,z.2.1,z.2.2,()),())
def U5(N:Nat)(s:d9):Option (List GStmt×Int×Int):=match a1l N s with
 |some z=>some z
 |none=>a2s N s
theorem d4m(N:Nat):Snd 12 (e2d fun x _=>U5 N x.1):=by
 refine⟨Tryz.call12,fun M w g vs x y z hG hB hfr hz=>?_⟩;have hz:U5 N x.1=some z:=hz;unfold U5 at hz;split at hz
 ·rename_i z' h;cases hz;exact(e82 N).2 M w g vs x y z hG hB hfr h
 ·exact(d31 N).2 M w g vs x y z hG hB hfr hz
end
end
section
def I1:Nat:=18446744073709551616
theorem b4r{α:Type}(xs:List α)(i:Nat):m7 xs (i:Int)=xs[i]?:=by unfold m7;rw[if_pos (by omega)];rfl
theorem b1X{α:Type}(xs:List α):m7 xs 0=xs[0]?:=b4r xs 0
theorem m6{α:Type}(xs:List α){i:Nat}(h:i<xs.length):m7 xs (i:Int)=some xs[i]:=by rw[b4r,List.getElem?_eq_getElem h]
theorem K5{n:Int}(h0:-9223372036854775808<=n)(h:n<=9223372036854775807):IntKind.i64.wrap n=n:=by
 simp[IntKind.wrap,IntKind.signed,IntKind.bits];omega
theorem N1{α:Type}{xs:List α}(hx:xs.length<=maxLen){i:Nat}(h:i<xs.length):IntKind.i64.wrap ((i:Int)+1)=((i+1:Nat):Int):=by
 unfold maxLen at hx;rw[K5 (by omega) (by omega)];rfl
theorem c72{i:Nat}(h:i<=9223372036854775807):IntKind.i64.wrap ((i:Int)-1)=(i:Int)-1:=K5 (by omega) (by omega)
theorem d8w(a b:UInt8):(a==b)=decide (a.toNat=b.toNat):=by
 show decide (a=b)=_;exact decide_eq_decide.2 UInt8.toNat_inj.symm
theorem S1{α:Type}{xs:List α}{i:Nat}(h:i<xs.length):decide ((i:Int)<(xs.length:Int))=true:=decide_eq_true (by omega)
theorem a1A{α:Type}{xs:List α}:decide ((xs.length:Int)<(xs.length:Int))=false:=decide_eq_false (by omega)
def a5r{α R:Type}(body:Nat->α->R->R)(k:R):List α->Nat->R | [],_=>k|x :: xs,i=>body i x (a5r body k xs (i+1))
theorem b7T{α R:Type}{f:Nat->Int->Option R}{T:(Int->Option R)->Int->Option R}(hf:∀n s,f (n+1) s=T (f n) s)(xs:List α){body:Nat->α->R->R}{k:R}
  (hT:∀(self:Int->Option R) (i:Nat) (h:i<xs.length) (r:R),self ((i+1:Nat):Int)=some r->T self (i:Int)=some (body i xs[i] r))
  (hE:∀self:Int->Option R,T self (xs.length:Int)=some k):
  ∀(m n i:Nat),i+m=xs.length->m<n->f n (i:Int)=some (a5r body k (xs.drop i) i)
 |0,n,i,hi,hn=>by
  obtain⟨n,rfl⟩:∃j,n=j+1:=⟨n-1,by omega⟩;have:i=xs.length:=by omega
  subst this;rw[hf,hE,List.drop_length];rfl
 |m+1,n,i,hi,hn=>by
  obtain⟨n,rfl⟩:∃j,n=j+1:=⟨n-1,by omega⟩;have hlt:i<xs.length:=by omega
  have ih:=b7T hf xs hT hE m n (i+1) (by omega) (by omega);rw[hf,hT _ i hlt _ ih,List.drop_eq_getElem_cons hlt];rfl
theorem T6{α R:Type}{f:Nat->Int->Option R}{T:(Int->Option R)->Int->Option R}(hf:∀n s,f (n+1) s=T (f n) s)(xs:List α)(hx:xs.length<=maxLen){body:Nat->α->R->R}{k:R}
  (hT:∀(self:Int->Option R) (i:Nat) (h:i<xs.length) (r:R),self ((i+1:Nat):Int)=some r->T self (i:Int)=some (body i xs[i] r))
  (hE:∀self:Int->Option R,T self (xs.length:Int)=some k) {N:Nat} (hN:I1<=N):f N 0=some (a5r body k xs 0):=by
 have:=b7T hf xs hT hE xs.length N 0 (by omega) (by unfold maxLen at hx;unfold I1 at hN;omega);simpa using this
def b80{α:Type}(p:α->Bool)(xs:List α):Int:=a5r (fun i x r=>if p x=true then(i:Int)else r) (-1) xs 0
theorem b7N{α:Type}(p:α->Bool):∀(xs:List α) (j:Nat),let r:=a5r (fun i x r=>if p x=true then(i:Int)else r) (-1) xs j
  (xs.find? p=none/\r = -1)\/∃i x,xs.find? p=some x/\xs[i]? = some x/\p x=true/\r=((j+i:Nat):Int)
 |[],_=> .inl ⟨rfl,rfl⟩
 |x :: xs,j=>by
  cases hp:p x with
  |true=>exact .inr ⟨0,x,by simp[hp],rfl,hp,by simp[a5r,hp]⟩
  |false=>
   rcases b7N p xs (j+1)with⟨h1,h2⟩|⟨i,y,h1,h2,h3,h4⟩
   ·exact .inl ⟨by simp[hp,h1],by simp only[a5r,hp];simpa using h2⟩
   ·exact .inr ⟨i+1,y,by simp[hp,h1],by simpa using h2,h3,by simp only[a5r,hp];rw[if_neg (by simp),h4];congr 1;omega⟩
theorem c3d{α:Type}(p:α->Bool)(xs:List α):(xs.find? p=none/\b80 p xs = -1)\/∃(i:Nat) (x:α),xs.find? p=some x/\xs[i]? = some x/\p x=true/\b80 p xs=(i:Int):=by
 rcases b7N p xs 0 with h|⟨i,x,h1,h2,h3,h4⟩
 ·exact .inl h
 ·exact .inr ⟨i,x,h1,h2,h3,by rw[b80,h4];simp⟩
theorem a3j{α:Type}(p:α->Bool)(xs:List α):decide (b80 p xs>=0)=xs.any p:=by
 rcases c3d p xs with⟨h1,h2⟩|⟨i,x,h1,h2,h3,h4⟩
 ·rw[h2];have:xs.any p=false:=by rw[List.any_eq_false];intro x hx;have:=List.find?_eq_none.1 h1 x hx;simpa using this
  rw[this];rfl
 ·rw[h4];have:xs.any p=true:=List.any_eq_true.2 ⟨x,List.mem_of_getElem? h2,h3⟩;rw[this];exact decide_eq_true (by omega)
end
section
theorem d7R{R:Type}{p:Prop}[Decidable p]{x y:Option R}(h:p):br (decide p) x y=x:=by rw[decide_eq_true h,d7]
theorem c8L{R:Type}{p:Prop}[Decidable p]{x y:Option R}(h:¬p):br (decide p) x y=y:=by rw[decide_eq_false h,d6]
theorem V8{i m:Nat}(h:i<m):decide ((i:Int)<(m:Int))=true:=decide_eq_true (by omega)
theorem Z9{m:Nat}:decide ((m:Int)<(m:Int))=false:=decide_eq_false (by omega)
end
end Go.Proofs.YtolpmfhiegpohaaGreatDoor
