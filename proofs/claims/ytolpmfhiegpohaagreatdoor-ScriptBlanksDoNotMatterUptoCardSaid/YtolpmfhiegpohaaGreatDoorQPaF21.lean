/- What functions of the program compute, as plain functions (printed). -/
import Derived.Test.YtolpmfhiegpohaaGreatDoorQPaF20
namespace Go.Proofs.YtolpmfhiegpohaaGreatDoor
open Go Go.RowKit
set_option maxRecDepth 100000
set_option linter.unusedVariables false
noncomputable section
variable(N:Nat)
def e50(b:c8)(k0 self:Int->Option τ8)(a:Int):Option τ8:=br (decide (a<(b.length:Int))) (f5 (l6 b a) fun c=>f5 (Q7 N c) fun e=>br (e) (self (IntKind.i64.wrap (a+1))) (k0 a)) (k0 a)
def e8M(N:Nat)(a:c8)(k0:Int->Option τ8):Nat->Int->Option τ8|0,_=>none|n+1,b=>e50 N a k0 (e8M N a k0 n) b
def K9(_l:Unit)(a:c8)(b:Int)(e:List τ0):Option τ8:=e8M N a (fun c=>f5 (slc a b c) fun g=>some (g,(a,(c,e)))) N b
abbrev e2J(f:SV [.box 0 0,.v (.clo 35 .un)]->BV [.cells [V1,V0,.row 1],.row 42 τ1 false]->Option τ8):AF:={ps:=[.box 0 0,.v (.clo 35 .un)],bs:=[.cells [V1,V0,.row 1],.row 42 τ1 false],rs:=[V1],cs:=[.cells [V1,V0,.row 1],.row 42 τ1 false],R:=c8×c8×Int×List τ0,out:=fun z=>((z.1,()),((z.2.1,z.2.2.1,(),()),z.2.2.2,())),f:=f}
abbrev e2H:AF:=e2J fun x y=>K9 N x.2.1 y.1.1 y.1.2.1 y.2.1
abbrev f1Z:SV [V1]->BV [.cells [V1,V0,.row 1],.row 42 τ1 false]->τ8:=fun x y=>(x.1,y.1.1,y.1.2.1,y.2.1)
def d2t:FuncId->Option Tmp->Option AF:=fun f _=>O5 [(35,d3q N)] f
theorem d2u:I8 (d2t N):=fun _ _ _ h=>o6 h (v8 (d3t N) G7)
def e2I:Nat->Hint:=fun i=>
 match i with
 |0=>⟨[],[0,1,5],[0,1],[0,5],[0,1],[]⟩
 |100002=>⟨[0,1],[1],[],[],[],[]⟩
 |100004=>⟨[0,1],[1],[],[],[],[]⟩
 |_=>o3
abbrev e49:Env:=S9 e2I (d2t N) FF FF
noncomputable abbrev e4K:Code:=V7 (m9 Tryz.f34) [true,true,false,false,false]
abbrev e9M:=A8 (e49 N) Tryz.f34 (e2H N) f1Z
abbrev e6r:List (Nat×Sl):=[(0,.box 0 0),(1,.v (.clo 35 .un)),(5,V0)]
abbrev e6q:List (Nat×Sb):=[(0,.cells [V1,V0,.row 1]),(1,.row 42 τ1 false)]
def e7L(a:Unit)(b:Int)(c:c8)(e:List τ0)(g:Int):St:=⟨50,[(0,.box 0 0),(1,.v (.clo 35 .un) a),(5,.v τ2 b)],[(0,.cells [.v .str c,.v τ2 g,.row 1]),(1,.row 42 τ1 false e)]⟩
def e5D(_g:Unit)(a:Int)(b:c8)(c:List τ0)(e:Int):St:=⟨50,[(0,.box 0 0),(5,.v τ2 a)],[(0,.cells [.v .str b,.v τ2 e,.row 1]),(1,.row 42 τ1 false c)]⟩
def f3N(b:Unit)(c:Int)(a:c8)(e:List τ0)(g:Int)(k:Ex->St->Option τ8):Option τ8:=e8M N a (fun l=>k (.exit 0) (e5D b c a e l)) N g
abbrev f0H:FV e6r->HV e6q->(Ex->St->Option τ8)->Option τ8:=fun x y k=>f3N N x.2.1 x.2.2.1 y.1.1 y.2.1 y.1.2.1 k
def e7M:Nat->Code->St->(Ex->St->Option τ8)->Option τ8:=fun i c=>
 match i with
 |0=>(LPc 50 e6r e6q (f0H N) (fun st k=>iter (e2I 0) (V4 (e49 N) N c 0) N st k))
 |i=>fun st k=>iter (e2I i) (V4 (e49 N) N c i) N st k
theorem e9L(c:Unit)(e:Int)(a:c8)(g:List τ0)(KX:Nat->St->Option τ8)(I:St->Option τ8)(b:Int):
  a0b (e7M N) (e49 N) e4K 0 (e7L c e a g b) (p6 (e2I 0) I KX (e9M N))=e50 N a (fun l=>KX 0 (e5D c e a g l)) (fun b=>I (e7L c e a g b)) b:=by kernel_rfl
theorem f1Y:∀x y k,(∀st,k .ret st=(e9M N) st)->iter (e2I 0) (V4 (e49 N) N e4K 0) N ⟨50,Y7 e6r x,Y8 e6q y⟩ k=f0H N x y k:=fun x y k hk=>
 j9 (S:=(Int)×Unit) (e2I 0) _ (a0b (e7M N) (e49 N) e4K 0) (e9M N) (k9 _ _ N _ e4K 0 (show LoopsOk (e7M N) (e49 N) N (e9M N) []from trivial)) (fun s=>e7L x.2.1 x.2.2.1 y.1.1 y.2.1 s.1) k hk
  (fun self s=>e50 N y.1.1 (fun a=>k (.exit 0) (e5D x.2.1 x.2.2.1 y.1.1 y.2.1 a)) (fun b=>self (b,())) s.1) (fun n s=>e8M N y.1.1 (fun a=>k (.exit 0) (e5D x.2.1 x.2.2.1 y.1.1 y.2.1 a)) n s.1) (fun _=>rfl) (fun _ _=>rfl)
  (fun I s=>e9L N x.2.1 x.2.2.1 y.1.1 y.2.1 (fun j=>k (.exit j)) I s.1) N (y.1.2.1,())
theorem f4W:F7 (e7M N) (e49 N) N (e9M N) 0 e4K:=fun st k hk=>p8 50 e6r e6q _ _ (e9M N) (f1Y N) _ st k hk (rfl)
theorem f3O(x:SV [.box 0 0,.v (.clo 35 .un)])(y:BV [.cells [V1,V0,.row 1],.row 42 τ1 false]):F5 (e49 N) Tryz.f34 (e2H N) f1Z (e7M N) x y=K9 N x.2.1 y.1.1 y.1.2.1 y.2.1:=by kernel_rfl
theorem d2v:P7 34 (e2H N):=
 a1X (d2u N) Tryz.func34 rfl Tryz.call34 (e2H N) f1Z (fun _ _=>rfl) N (e7M N) (show LoopsOk (e7M N) (e49 N) N (e9M N) [(0,e4K)]from⟨f4W N,trivial⟩) (f3O N)
def a8I(b:c8)(k0 self:Int->Option τ8)(a:Int):Option τ8:=br (decide (a<(b.length:Int))) (f5 (l6 b a) fun c=>f5 (G0 N c) fun e=>br (e) (self (IntKind.i64.wrap (a+1))) (k0 a)) (k0 a)
def b2I(N:Nat)(a:c8)(k0:Int->Option τ8):Nat->Int->Option τ8|0,_=>none|n+1,b=>a8I N a k0 (b2I N a k0 n) b
def L0(_l:Unit)(a:c8)(b:Int)(e:List τ0):Option τ8:=b2I N a (fun c=>f5 (slc a b c) fun g=>some (g,(a,(c,e)))) N b
abbrev e2K(f:SV [.box 0 0,.v (.clo 36 .un)]->BV [.cells [V1,V0,.row 1],.row 42 τ1 false]->Option τ8):AF:={ps:=[.box 0 0,.v (.clo 36 .un)],bs:=[.cells [V1,V0,.row 1],.row 42 τ1 false],rs:=[V1],cs:=[.cells [V1,V0,.row 1],.row 42 τ1 false],R:=c8×c8×Int×List τ0,out:=fun z=>((z.1,()),((z.2.1,z.2.2.1,(),()),z.2.2.2,())),f:=f}
abbrev d2y:AF:=e2K fun x y=>L0 N x.2.1 y.1.1 y.1.2.1 y.2.1
abbrev d2z:SV [V1]->BV [.cells [V1,V0,.row 1],.row 42 τ1 false]->τ8:=fun x y=>(x.1,y.1.1,y.1.2.1,y.2.1)
def d8G:FuncId->Option Tmp->Option AF:=fun f _=>O5 [(36,d4J N)] f
theorem d2x:I8 (d8G N):=fun _ _ _ h=>o6 h (v8 (d4M N) G7)
def c8x:Nat->Hint:=fun i=>
 match i with
 |0=>⟨[],[0,1,5],[0,1],[0,5],[0,1],[]⟩
 |100002=>⟨[0,1],[1],[],[],[],[]⟩
 |100004=>⟨[0,1],[1],[],[],[],[]⟩
 |_=>o3
abbrev b6Y:Env:=S9 c8x (d8G N) FF FF
abbrev c3X:=A8 (b6Y N) Tryz.f34 (d2y N) d2z
abbrev a9I:List (Nat×Sl):=[(0,.box 0 0),(1,.v (.clo 36 .un)),(5,V0)]
abbrev a9H:List (Nat×Sb):=[(0,.cells [V1,V0,.row 1]),(1,.row 42 τ1 false)]
def b5r(a:Unit)(b:Int)(c:c8)(e:List τ0)(g:Int):St:=⟨50,[(0,.box 0 0),(1,.v (.clo 36 .un) a),(5,.v τ2 b)],[(0,.cells [.v .str c,.v τ2 g,.row 1]),(1,.row 42 τ1 false e)]⟩
def a6R(_g:Unit)(a:Int)(b:c8)(c:List τ0)(e:Int):St:=⟨50,[(0,.box 0 0),(5,.v τ2 a)],[(0,.cells [.v .str b,.v τ2 e,.row 1]),(1,.row 42 τ1 false c)]⟩
def d62(b:Unit)(c:Int)(a:c8)(e:List τ0)(g:Int)(k:Ex->St->Option τ8):Option τ8:=b2I N a (fun l=>k (.exit 0) (a6R b c a e l)) N g
abbrev c50:FV a9I->HV a9H->(Ex->St->Option τ8)->Option τ8:=fun x y k=>d62 N x.2.1 x.2.2.1 y.1.1 y.2.1 y.1.2.1 k
def b5s:Nat->Code->St->(Ex->St->Option τ8)->Option τ8:=fun i c=>
 match i with
 |0=>(LPc 50 a9I a9H (c50 N) (fun st k=>iter (c8x 0) (V4 (b6Y N) N c 0) N st k))
 |i=>fun st k=>iter (c8x i) (V4 (b6Y N) N c i) N st k
theorem c3W(c:Unit)(e:Int)(a:c8)(g:List τ0)(KX:Nat->St->Option τ8)(I:St->Option τ8)(b:Int):
  a0b (b5s N) (b6Y N) e4K 0 (b5r c e a g b) (p6 (c8x 0) I KX (c3X N))=a8I N a (fun l=>KX 0 (a6R c e a g l)) (fun b=>I (b5r c e a g b)) b:=by kernel_rfl
theorem d2w:∀x y k,(∀st,k .ret st=(c3X N) st)->iter (c8x 0) (V4 (b6Y N) N e4K 0) N ⟨50,Y7 a9I x,Y8 a9H y⟩ k=c50 N x y k:=fun x y k hk=>
 j9 (S:=(Int)×Unit) (c8x 0) _ (a0b (b5s N) (b6Y N) e4K 0) (c3X N) (k9 _ _ N _ e4K 0 (show LoopsOk (b5s N) (b6Y N) N (c3X N) []from trivial)) (fun s=>b5r x.2.1 x.2.2.1 y.1.1 y.2.1 s.1) k hk
  (fun self s=>a8I N y.1.1 (fun a=>k (.exit 0) (a6R x.2.1 x.2.2.1 y.1.1 y.2.1 a)) (fun b=>self (b,())) s.1) (fun n s=>b2I N y.1.1 (fun a=>k (.exit 0) (a6R x.2.1 x.2.2.1 y.1.1 y.2.1 a)) n s.1) (fun _=>rfl) (fun _ _=>rfl)
  (fun I s=>c3W N x.2.1 x.2.2.1 y.1.1 y.2.1 (fun j=>k (.exit j)) I s.1) N (y.1.2.1,())
theorem e0v:F7 (b5s N) (b6Y N) N (c3X N) 0 e4K:=fun st k hk=>p8 50 a9I a9H _ _ (c3X N) (d2w N) _ st k hk (rfl)
theorem d63(x:SV [.box 0 0,.v (.clo 36 .un)])(y:BV [.cells [V1,V0,.row 1],.row 42 τ1 false]):F5 (b6Y N) Tryz.f34 (d2y N) d2z (b5s N) x y=L0 N x.2.1 y.1.1 y.1.2.1 y.2.1:=by kernel_rfl
theorem d2A:P7 34 (d2y N):=
 a1X (d2x N) Tryz.func34 rfl Tryz.call34 (d2y N) d2z (fun _ _=>rfl) N (b5s N) (show LoopsOk (b5s N) (b6Y N) N (c3X N) [(0,e4K)]from⟨e0v N,trivial⟩) (d63 N)
def e5Y(_N:Nat)(c:c8)(e:Int)(k0:Int->Option τ7)(self:Int->Int->Option τ7)(a b:Int):Option τ7:=br (decide (a<e)) (f5 (l6 c a) fun g=>self (IntKind.i64.wrap (a+1)) (IntKind.i64.wrap ((IntKind.i64.wrap (10*b))+(IntKind.i64.wrap (UInt8.toNat (g-48):Int))))) (k0 b)
def e8J(N:Nat)(a:c8)(b:Int)(k0:Int->Option τ7):Nat->Int->Int->Option τ7|0,_,_=>none|n+1,c,e=>e5Y N a b k0 (e8J N a b k0 n) c e
def N1(m:c8)(o g:Int)(b:c8)(c e:Int)(p:List τ0):Option τ7:=f5 (L0 N () m o p) fun a=>br (decide ((a.1.length:Int)>1)) (f5 (l6 a.1 0) fun q=>br (q==48) (some (10,(a.2.1,(a.2.2.1,(g,(b,(c,(e,a.2.2.2)))))))) (br (decide ((a.1.length:Int)>9)) (some (2,(a.2.1,(a.2.2.1,(g,(b,(c,(e,a.2.2.2)))))))) (e8J N a.1 (a.1.length:Int) (fun l=>some (0,(a.2.1,(a.2.2.1,(3,(b,(l,(e,a.2.2.2)))))))) N 0 c))) (br (decide ((a.1.length:Int)>9)) (some (2,(a.2.1,(a.2.2.1,(g,(b,(c,(e,a.2.2.2)))))))) (e8J N a.1 (a.1.length:Int) (fun l=>some (0,(a.2.1,(a.2.2.1,(3,(b,(l,(e,a.2.2.2)))))))) N 0 c))
abbrev e2k(f:SV [.box 0 0,.box 1 0]->BV [.cells [V1,V0,.row 2],.cells [V0,V1,V0,V0],.row 42 τ1 false]->Option τ7):AF:={ps:=[.box 0 0,.box 1 0],bs:=[.cells [V1,V0,.row 2],.cells [V0,V1,V0,V0],.row 42 τ1 false],rs:=[V0],cs:=[.cells [V1,V0,.row 2],.cells [V0,V1,V0,V0],.row 42 τ1 false],R:=Int×c8×Int×Int×c8×Int×Int×List τ0,out:=fun z=>((z.1,()),((z.2.1,z.2.2.1,(),()),(z.2.2.2.1,z.2.2.2.2.1,z.2.2.2.2.2.1,z.2.2.2.2.2.2.1,()),z.2.2.2.2.2.2.2,())),f:=f}
abbrev e0g:AF:=e2k fun _ y=>N1 N y.1.1 y.1.2.1 y.2.1.1 y.2.1.2.1 y.2.1.2.2.1 y.2.1.2.2.2.1 y.2.2.1
abbrev f1P:SV [V0]->BV [.cells [V1,V0,.row 2],.cells [V0,V1,V0,V0],.row 42 τ1 false]->τ7:=fun x y=>(x.1,y.1.1,y.1.2.1,y.2.1.1,y.2.1.2.1,y.2.1.2.2.1,y.2.1.2.2.2.1,y.2.2.1)
def d1I:FuncId->Option Tmp->Option AF:=fun f _=>O5 [(34,d2y N)] f
theorem d1J:I8 (d1I N):=fun _ _ _ h=>o6 h (v8 (d2A N) G7)
def e2j:Nat->Hint:=fun i=>
 match i with
 |0=>⟨[],[1,5,21,22],[0,1,2],[1],[0,1,2],[]⟩
 |100009=>⟨[1],[1],[],[],[],[]⟩
 |_=>o3
abbrev e41:Env:=S9 e2j (d1I N) FF FF
noncomputable abbrev e8K:Code:=V7 (m9 Tryz.f37) [true,true,true,true,false,true,false,false]
abbrev e9I:=A8 (e41 N) Tryz.f37 (e0g N) f1P
abbrev e6n:List (Nat×Sl):=[(1,.box 1 0),(5,V1),(21,V0),(22,V0)]
abbrev e6m:List (Nat×Sb):=[(0,.cells [V1,V0,.row 2]),(1,.cells [V0,V1,V0,V0]),(2,.row 42 τ1 false)]
def e7G(a:c8)(b:Int)(c:c8)(e g:Int)(l:c8)(m:Int)(cw2:List τ0)(o p:Int):St:=⟨43,[(1,.box 1 0),(5,.v .str a),(21,.v τ2 b),(22,.v τ2 o)],[(0,.cells [.v .str c,.v τ2 e,.row 2]),(1,.cells [.v τ2 g,.v .str l,.v τ2 p,.v τ2 m]),(2,.row 42 τ1 false cw2)]⟩
def e5B(_m:c8)(_o:Int)(a:c8)(b c:Int)(e:c8)(g:Int)(cw2:List τ0)(l:Int):St:=⟨43,[(1,.box 1 0)],[(0,.cells [.v .str a,.v τ2 b,.row 2]),(1,.cells [.v τ2 c,.v .str e,.v τ2 l,.v τ2 g]),(2,.row 42 τ1 false cw2)]⟩
def f3I(a:c8)(b:Int)(c:c8)(e g:Int)(l:c8)(m:Int)(cw2:List τ0)(o p:Int)(k:Ex->St->Option τ7):Option τ7:=e8J N a b (fun q=>k (.exit 0) (e5B a b c e g l m cw2 q)) N o p
abbrev f0B:FV e6n->HV e6m->(Ex->St->Option τ7)->Option τ7:=fun x y k=>f3I N x.2.1 x.2.2.1 y.1.1 y.1.2.1 y.2.1.1 y.2.1.2.1 y.2.1.2.2.2.1 y.2.2.1 x.2.2.2.1 y.2.1.2.2.1 k
def e7H:Nat->Code->St->(Ex->St->Option τ7)->Option τ7:=fun i c=>
 match i with
 |0=>(LPc 43 e6n e6m (f0B N) (fun st k=>iter (e2j 0) (V4 (e41 N) N c 0) N st k))
 |i=>fun st k=>iter (e2j i) (V4 (e41 N) N c i) N st k
theorem e9H(a:c8)(b:Int)(g:c8)(l m:Int)(o:c8)(p:Int)(cw2:List τ0)(KX:Nat->St->Option τ7)(I:St->Option τ7)(c e:Int):
  a0b (e7H N) (e41 N) e8K 0 (e7G a b g l m o p cw2 c e) (p6 (e2j 0) I KX (e9I N))=e5Y N a b (fun q=>KX 0 (e5B a b g l m o p cw2 q)) (fun c e=>I (e7G a b g l m o p cw2 c e)) c e:=by kernel_rfl
theorem f1O:∀x y k,(∀st,k .ret st=(e9I N) st)->iter (e2j 0) (V4 (e41 N) N e8K 0) N ⟨43,Y7 e6n x,Y8 e6m y⟩ k=f0B N x y k:=fun x y k hk=>
 j9 (S:=(Int)×(Int)×Unit) (e2j 0) _ (a0b (e7H N) (e41 N) e8K 0) (e9I N) (k9 _ _ N _ e8K 0 (show LoopsOk (e7H N) (e41 N) N (e9I N) []from trivial)) (fun s=>e7G x.2.1 x.2.2.1 y.1.1 y.1.2.1 y.2.1.1 y.2.1.2.1 y.2.1.2.2.2.1 y.2.2.1 s.1 s.2.1) k hk
  (fun self s=>e5Y N x.2.1 x.2.2.1 (fun a=>k (.exit 0) (e5B x.2.1 x.2.2.1 y.1.1 y.1.2.1 y.2.1.1 y.2.1.2.1 y.2.1.2.2.2.1 y.2.2.1 a)) (fun b c=>self (b,c,())) s.1 s.2.1) (fun n s=>e8J N x.2.1 x.2.2.1 (fun a=>k (.exit 0) (e5B x.2.1 x.2.2.1 y.1.1 y.1.2.1 y.2.1.1 y.2.1.2.1 y.2.1.2.2.2.1 y.2.2.1 a)) n s.1 s.2.1) (fun _=>rfl) (fun _ _=>rfl)
  (fun I s=>e9H N x.2.1 x.2.2.1 y.1.1 y.1.2.1 y.2.1.1 y.2.1.2.1 y.2.1.2.2.2.1 y.2.2.1 (fun j=>k (.exit j)) I s.1 s.2.1) N (x.2.2.2.1,y.2.1.2.2.1,())
theorem f4T:F7 (e7H N) (e41 N) N (e9I N) 0 e8K:=fun st k hk=>p8 43 e6n e6m _ _ (e9I N) (f1O N) _ st k hk (rfl)
theorem f3J(x:SV [.box 0 0,.box 1 0])(y:BV [.cells [V1,V0,.row 2],.cells [V0,V1,V0,V0],.row 42 τ1 false]):F5 (e41 N) Tryz.f37 (e0g N) f1P (e7H N) x y=N1 N y.1.1 y.1.2.1 y.2.1.1 y.2.1.2.1 y.2.1.2.2.1 y.2.1.2.2.2.1 y.2.2.1:=by kernel_rfl
theorem d1K:P7 37 (e0g N):=
 a1X (d1J N) Tryz.func37 rfl Tryz.call37 (e0g N) f1P (fun _ _=>rfl) N (e7H N) (show LoopsOk (e7H N) (e41 N) N (e9I N) [(0,e8K)]from⟨f4T N,trivial⟩) (f3J N)
def e66(_N:Nat)(b:c8)(e:List τ0)(k0:Int->Option τ12)(self:Int->(List UInt8)->Option τ12)(a:Int)(c:List UInt8):Option τ12:=br (decide (a<(b.length:Int))) (f5 (l6 b a) fun g=>br (g==34) (some (c,(true,(b,(IntKind.i64.wrap (a+1),e))))) (br (g==92) (br ((IntKind.i64.wrap (a+1))==(b.length:Int)) (some ([],(false,(b,(IntKind.i64.wrap (a+1),e))))) (f5 (l6 b (IntKind.i64.wrap (a+1))) fun l=>br (l==34) (br (l==34) (f5 (l6 b (IntKind.i64.wrap (a+1))) fun m=>br (decide ((c.length + [m].length)*(24*Ty.sz .u8)<=140737488355328)) (self (IntKind.i64.wrap ((IntKind.i64.wrap (a+1))+1)) (c ++ [m])) none) (br (l==110) (br (decide ((c.length + [(10:UInt8)].length)*(24*Ty.sz .u8)<=140737488355328)) (self (IntKind.i64.wrap ((IntKind.i64.wrap (a+1))+1)) (c ++ [(10:UInt8)])) none) (some ([],(false,(b,(IntKind.i64.wrap (a+1),e))))))) (br (l==92) (f5 (l6 b (IntKind.i64.wrap (a+1))) fun o=>br (decide ((c.length + [o].length)*(24*Ty.sz .u8)<=140737488355328)) (self (IntKind.i64.wrap ((IntKind.i64.wrap (a+1))+1)) (c ++ [o])) none) (br (l==110) (br (decide ((c.length + [(10:UInt8)].length)*(24*Ty.sz .u8)<=140737488355328)) (self (IntKind.i64.wrap ((IntKind.i64.wrap (a+1))+1)) (c ++ [(10:UInt8)])) none) (some ([],(false,(b,(IntKind.i64.wrap (a+1),e))))))))) (br (decide (g<32)) (some ([],(false,(b,(IntKind.i64.wrap (a+1),e))))) (br (decide (g>126)) (some ([],(false,(b,(IntKind.i64.wrap (a+1),e))))) (br (decide ((c.length + [g].length)*(24*Ty.sz .u8)<=140737488355328)) (self (IntKind.i64.wrap (a+1)) (c ++ [g])) none))))) (k0 a)
def e7c(N:Nat)(a:c8)(b:List τ0)(k0:Int->Option τ12):Nat->Int->(List UInt8)->Option τ12|0,_,_=>none|n+1,c,e=>e66 N a b k0 (e7c N a b k0 n) c e
def P6(a:c8)(c:Int)(b:List τ0):Option τ12:=e7c N a b (fun e=>some ([],(false,(a,(e,b))))) N c []
abbrev e2L(f:SV [.box 0 0]->BV [.cells [V1,V0,.row 1],.row 42 τ1 false]->Option τ12):AF:={ps:=[.box 0 0],bs:=[.cells [V1,V0,.row 1],.row 42 τ1 false],rs:=[V1,.v .bool],cs:=[.cells [V1,V0,.row 1],.row 42 τ1 false],R:=c8×Bool×c8×Int×List τ0,out:=fun z=>((z.1,z.2.1,()),((z.2.2.1,z.2.2.2.1,(),()),z.2.2.2.2,())),f:=f}
abbrev e0w:AF:=e2L fun _ y=>P6 N y.1.1 y.1.2.1 y.2.1
abbrev f15:SV [V1,.v .bool]->BV [.cells [V1,V0,.row 1],.row 42 τ1 false]->τ12:=fun x y=>(x.1,x.2.1,y.1.1,y.1.2.1,y.2.1)
def f4C(_N:Nat):FuncId->Option Tmp->Option AF:=fun f _=>O5 [] f
theorem f14:I8 (f4C N):=fun _ _ _ h=>o6 h G7
def f1d:Nat->Hint:=fun i=>
 match i with
 |0=>⟨[],[0,4],[0,1,1004],[],[0,1],[]⟩
 |100015=>⟨[0,1],[1],[],[],[],[]⟩
 |_=>o3
abbrev e8t:Env:=S9 f1d (f4C N) FF FF
noncomputable abbrev e8N:Code:=V7 (m9 Tryz.f38) [true,true,false,false,false]
abbrev e9O:=A8 (e8t N) Tryz.f38 (e0w N) f15
abbrev e6t:List (Nat×Sl):=[(0,.box 0 0),(4,.row 1004)]
abbrev e6s:List (Nat×Sb):=[(0,.cells [V1,V0,.row 1]),(1,.row 42 τ1 false),(1004,.row 5 .u8 false)]
def e7N(a:c8)(b:List τ0)(c:Int)(e:List UInt8):St:=⟨97,[(0,.box 0 0),(4,.row 1004)],[(0,.cells [.v .str a,.v τ2 c,.row 1]),(1,.row 42 τ1 false b),(1004,.row 5 .u8 false e)]⟩
def e5E(a:c8)(b:List τ0)(c:Int):St:=⟨97,[],[(0,.cells [.v .str a,.v τ2 c,.row 1]),(1,.row 42 τ1 false b)]⟩
def f3P(a:c8)(b:List τ0)(c:Int)(e:List UInt8)(k:Ex->St->Option τ12):Option τ12:=e7c N a b (fun g=>k (.exit 0) (e5E a b g)) N c e
abbrev f0I:FV e6t->HV e6s->(Ex->St->Option τ12)->Option τ12:=fun _ y k=>f3P N y.1.1 y.2.1 y.1.2.1 y.2.2.1 k
def e7O:Nat->Code->St->(Ex->St->Option τ12)->Option τ12:=fun i c=>
 match i with
 |0=>(LPc 97 e6t e6s (f0I N) (fun st k=>iter (f1d 0) (V4 (e8t N) N c 0) N st k))
 |i=>fun st k=>iter (f1d i) (V4 (e8t N) N c i) N st k
theorem e9N(a:c8)(b:List τ0)(KX:Nat->St->Option τ12)(I:St->Option τ12)(c:Int)(e:List UInt8):
  a0b (e7O N) (e8t N) e8N 0 (e7N a b c e) (p6 (f1d 0) I KX (e9O N))=e66 N a b (fun g=>KX 0 (e5E a b g)) (fun c e=>I (e7N a b c e)) c e:=by kernel_rfl
theorem f10:∀x y k,(∀st,k .ret st=(e9O N) st)->iter (f1d 0) (V4 (e8t N) N e8N 0) N ⟨97,Y7 e6t x,Y8 e6s y⟩ k=f0I N x y k:=fun _ y k hk=>
 j9 (S:=(Int)×(List UInt8)×Unit) (f1d 0) _ (a0b (e7O N) (e8t N) e8N 0) (e9O N) (k9 _ _ N _ e8N 0 (show LoopsOk (e7O N) (e8t N) N (e9O N) []from trivial)) (fun s=>e7N y.1.1 y.2.1 s.1 s.2.1) k hk
  (fun self s=>e66 N y.1.1 y.2.1 (fun a=>k (.exit 0) (e5E y.1.1 y.2.1 a)) (fun b c=>self (b,c,())) s.1 s.2.1) (fun n s=>e7c N y.1.1 y.2.1 (fun a=>k (.exit 0) (e5E y.1.1 y.2.1 a)) n s.1 s.2.1) (fun _=>rfl) (fun _ _=>rfl)
  (fun I s=>e9N N y.1.1 y.2.1 (fun j=>k (.exit j)) I s.1 s.2.1) N (y.1.2.1,y.2.2.1,())
theorem f4X:F7 (e7O N) (e8t N) N (e9O N) 0 e8N:=fun st k hk=>p8 97 e6t e6s _ _ (e9O N) (f10 N) _ st k hk (rfl)
theorem f3Q(x:SV [.box 0 0])(y:BV [.cells [V1,V0,.row 1],.row 42 τ1 false]):F5 (e8t N) Tryz.f38 (e0w N) f15 (e7O N) x y=P6 N y.1.1 y.1.2.1 y.2.1:=by kernel_rfl
theorem d2B:P7 38 (e0w N):=
 a1X (f14 N) Tryz.func38 rfl Tryz.call38 (e0w N) f15 (fun _ _=>rfl) N (e7O N) (show LoopsOk (e7O N) (e8t N) N (e9O N) [(0,e8N)]from⟨f4X N,trivial⟩) (f3Q N)
def M7(b:c8)(a:Int)(e:List τ0):Option (τ0×Int×c8×Int×List τ0):=f5 (l6 b a) fun l=>f5 (G1 N l) fun o=>br (o) (f5 (K9 N () b a e) fun g=>br (decide ((g.1.length:Int)>40)) (some ((1,(g.1,(0,a))),(2,g.2))) (some ((1,(g.1,(0,a))),(0,g.2)))) (f5 (G0 N l) fun p=>br (p) (f5 (N1 N b a 0 [] 0 a e) fun c=>some ((c.2.2.2.1,(c.2.2.2.2.1,(c.2.2.2.2.2.1,c.2.2.2.2.2.2.1))),(c.1,(c.2.1,(c.2.2.1,c.2.2.2.2.2.2.2))))) (br (l==34) (f5 (P6 N b (IntKind.i64.wrap (a+1)) e) fun m=>br (!m.2.1) (some ((0,([],(0,a))),(10,m.2.2))) (some ((2,(m.1,(0,a))),(0,m.2.2)))) (f5 (strings_IndexByte [61,43,40,41,91,93,123,125,44,58,59] l) fun q=>br (decide (q>=0)) (f5 (slc b a (b.length:Int)) fun r=>f5 (S6 N r [61,61]) fun t=>br (t) (f5 (slc b a (IntKind.i64.wrap (a+2))) fun u=>some ((4,(u,(0,a))),(0,(b,(IntKind.i64.wrap (a+2),e))))) (f5 (slc b a (IntKind.i64.wrap (a+1))) fun v=>some ((4,(v,(0,a))),(0,(b,(IntKind.i64.wrap (a+1),e)))))) (some ((0,([],(0,a))),(10,(b,(a,e))))))))
abbrev e22:=P4 [.box 0 0] [.cells [V1,V0,.row 1],.row 42 τ1 false] [.v τ1,V0] [.cells [V1,V0,.row 1],.row 42 τ1 false] (τ0×Int×c8×Int×List τ0) fun z=>((z.1,z.2.1,()),((z.2.2.1,z.2.2.2.1,(),()),z.2.2.2.2,()))
abbrev c8C:AF:=e22 fun _ y=>M7 N y.1.1 y.1.2.1 y.2.1
def e21:Nat->Hint:=fun i=>
 match i with
 |100020=>⟨[0,1],[1],[],[],[],[]⟩
 |100022=>⟨[0,1],[1],[],[],[],[]⟩
 |_=>o3
theorem a9Y:P7 17 (c8C N):=
 V5 e21 [(32,F0 fun x _=>strings_IndexByte x.1 x.2.1),(33,e01 N),(34,e2H N),(36,d4J N),(37,e0g N),(38,e0w N),(39,b0f N)] (v8 (F1) (v8 (d4N N) (v8 (d2v N) (v8 (d4M N) (v8 (d1K N) (v8 (d2B N) (v8 (R7 N) G7))))))) Tryz.func17 rfl Tryz.call17 (c8C N) (fun x y=>(x.1,x.2.1,y.1.1,y.1.2.1,y.2.1)) (fun _ _=>rfl) N (fun _ _=>by kernel_rfl) rfl
def e8e(c:c8)(self:c8->Int->τ4->Option τ9)(e:c8)(g:Int)(l:List τ0):Option τ9:=f5 (D9 N e g l) fun b=>br (b.2.1==(c.length:Int)) (some (b.2.2,(0,0))) (br ((b.2.2.length:Int)==50000) (some ([],(b.2.1,2))) (f5 (M7 N b.1 b.2.1 b.2.2) fun a=>br (a.2.1 !=0) (some ([],(a.1.2.2.2,a.2.1))) (j0 2 (br (decide ((a.2.2.2.2.length + [a.1].length)*(24*Ty.sz τ1)<=140737488355328)) (self a.2.2.1 a.2.2.2.1 (a.2.2.2.2 ++ [a.1])) none))))
def e8X(N:Nat)(a:c8):Nat->c8->Int->τ4->Option τ9|0,_,_,_=>none|n+1,b,c,e=>e8e N a (e8X N a n) b c e
def R9(a:c8):Option τ9:=br (decide ((a.length:Int)>50000)) (some ([],(0,2))) (e8X N a N a 0 [])
abbrev e3C(f:SV [V1]->BV []->Option τ9):AF:={ps:=[V1],bs:=[],rs:=[V2,V0,V0],cs:=[],R:=List τ0×Int×Int,out:=fun z=>((z.1,z.2.1,z.2.2,()),()),f:=f}
abbrev c1R:AF:=e3C fun x _=>R9 N x.1
abbrev f2Y:SV [V2,V0,V0]->BV []->τ9:=fun x _=>(x.1,x.2.1,x.2.2.1)
def f4I:FuncId->Option Tmp->Option AF:=fun f _=>O5 [(16,d1F N),(17,c8C N)] f
theorem f2X:I8 (f4I N):=fun _ _ _ h=>o6 h (v8 (d1H N) (v8 (a9Y N) G7))
def f1h:Nat->Hint:=fun i=>
 match i with
 |0=>⟨[],[0,5],[1013,900001],[],[],[(1013,2,900001,42,τ1)]⟩
 |100008=>⟨[1013,900001],[1],[],[],[],[]⟩
 |100011=>⟨[1006],[1],[],[],[],[]⟩
 |100012=>⟨[],[1,2],[],[],[],[]⟩
 |_=>o3
abbrev e8w:Env:=S9 f1h (f4I N) FF FF
noncomputable abbrev e8Y:Code:=V7 (m9 Tryz.f7) [true,true,true,false,false]
abbrev e99:=A8 (e8w N) Tryz.f7 (c1R N) f2Y
abbrev e6Q:List (Nat×Sl):=[(0,V1),(5,.box 1013 0)]
abbrev e6P:List (Nat×Sb):=[(1013,.cells [V1,V0,.row 900001]),(900001,.row 42 τ1 false)]
def e8f(a b:c8)(c:Int)(e:List τ0):St:=⟨57,[(0,.v .str a),(5,.box 1013 0)],[(1013,.cells [.v .str b,.v τ2 c,.row 900001]),(900001,.row 42 τ1 false e)]⟩
def f4k(a b:c8)(c:Int)(e:List τ0)(_k:Ex->St->Option τ9):Option τ9:=e8X N a N b c e
abbrev f01:FV e6Q->HV e6P->(Ex->St->Option τ9)->Option τ9:=fun x y k=>f4k N x.1 y.1.1 y.1.2.1 y.2.1 k
def e8g:Nat->Code->St->(Ex->St->Option τ9)->Option τ9:=fun i c=>
 match i with
 |0=>(LPc 57 e6Q e6P (f01 N) (fun st k=>iter (f1h 0) (V4 (e8w N) N c 0) N st k))
 |i=>fun st k=>iter (f1h i) (V4 (e8w N) N c i) N st k
theorem e98(e:c8)(KX:Nat->St->Option τ9)(I:St->Option τ9)(a:c8)(b:Int)(c:List τ0):
  a0b (e8g N) (e8w N) e8Y 0 (e8f e a b c) (p6 (f1h 0) I KX (e99 N))=e8e N e (fun a b c=>I (e8f e a b c)) a b c:=by kernel_rfl
theorem f2W:∀x y k,(∀st,k .ret st=(e99 N) st)->iter (f1h 0) (V4 (e8w N) N e8Y 0) N ⟨57,Y7 e6Q x,Y8 e6P y⟩ k=f01 N x y k:=fun x y k hk=>
 j9 (S:=(c8)×(Int)×τ4×Unit) (f1h 0) _ (a0b (e8g N) (e8w N) e8Y 0) (e99 N) (k9 _ _ N _ e8Y 0 (show LoopsOk (e8g N) (e8w N) N (e99 N) []from trivial)) (fun s=>e8f x.1 s.1 s.2.1 s.2.2.1) k hk
  (fun self s=>e8e N x.1 (fun a b c=>self (a,b,c,())) s.1 s.2.1 s.2.2.1) (fun n s=>e8X N x.1 n s.1 s.2.1 s.2.2.1) (fun _=>rfl) (fun _ _=>rfl)
  (fun I s=>e98 N x.1 (fun j=>k (.exit j)) I s.1 s.2.1 s.2.2.1) N (y.1.1,y.1.2.1,y.2.1,())
theorem f5n:F7 (e8g N) (e8w N) N (e99 N) 0 e8Y:=fun st k hk=>p8 57 e6Q e6P _ _ (e99 N) (f2W N) _ st k hk (rfl)
theorem f4l(x:SV [V1])(y:BV []):F5 (e8w N) Tryz.f7 (c1R N) f2Y (e8g N) x y=R9 N x.1:=by kernel_rfl
theorem a28:P7 7 (c1R N):=
 a1X (f2X N) Tryz.func7 rfl Tryz.call7 (c1R N) f2Y (fun _ _=>rfl) N (e8g N) (show LoopsOk (e8g N) (e8w N) N (e99 N) [(0,e8Y)]from⟨f5n N,trivial⟩) (f4l N)
def F9(_N:Nat)(a:GStmt):Option (Bool×Bool×Bool×Bool×Bool×Bool×Bool):=br (a.kind==1) (some (true,(false,(false,(false,(true,(false,false))))))) (br (a.kind==2) (some (true,(false,(false,(true,(false,(false,false))))))) (br (a.kind==3) (some (true,(false,(true,(false,(false,(true,false))))))) (br (a.kind==4) (some (true,(false,(false,(false,(true,(true,false))))))) (br (a.kind==5) (some (false,(false,(false,(false,(true,(true,true))))))) (some (false,(true,(false,(false,(false,(false,false)))))))))))
abbrev e3N:=P4 [.v τ16] [] [.v τ20] [] (Bool×Bool×Bool×Bool×Bool×Bool×Bool) fun z=>((z,()),())
abbrev d47:AF:=e3N fun x _=>F9 N x.1
def d45(_N:Nat):FuncId->Option Tmp->Option AF:=fun f _=>O5 [] f
theorem d46:I8 (d45 N):=fun _ _ _ h=>o6 h G7
def b6x:Nat->Hint:=fun i=>
 match i with
 |_=>o3
abbrev a7o:Env:=S9 b6x (d45 N) FF FF |>.jk (fun _=>none)
theorem d49:P7 84 (d47 N):=
 a1W (a7o N) (EnvOk.jk (y6 b6x (d45 N) _ _ (d46 N)) _) Tryz.func84 rfl Tryz.call84 (d47 N) (fun x _=>x.1) (fun _ _=>rfl) N (fun _ _=>by kernel_rfl) rfl
abbrev e3M:=P4 [.v τ5] [] [V0] [] (Int) fun z=>((z,()),())
end
end Go.Proofs.YtolpmfhiegpohaaGreatDoor
