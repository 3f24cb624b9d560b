/- What functions of the program compute, as plain functions (printed). -/
import Derived.Test.YtolpmfhiegpohaaGreatDoorQPaF20
namespace Go.Proofs.YtolpmfhiegpohaaGreatDoor
open Go Go.RowKit
set_option maxRecDepth 100000
set_option linter.unusedVariables false
noncomputable section
variable(N:Nat)
def a8J(b:c8)(k0 self:ρ32)(a:Int):Option τ14:=br (decide (a<(b.length:Int))) (f5 (l6 b a) fun c=>f5 (Q7 N c) fun e=>br (e) (self (IntKind.i64.wrap (a+1))) (k0 a)) (k0 a)
def b8j(N:Nat)(a:c8)(k0:ρ32):Nat->Int->Option τ14|0,_=>none|n+1,b=>a8J N a k0 (b8j N a k0 n) b
def K9(_l:Unit)(a:c8)(b:Int)(e:List τ0):Option τ14:=b8j N a (fun c=>f5 (slc a b c) fun g=>some (g,(a,(c,e)))) N b
abbrev e2Q(f:SV [.box 0 0,.v (.clo 35 .un)]->BV [.cells [V1,V0,.row 1],.row 42 τ1 false]->Option τ14):AF:={ps:=[.box 0 0,.v (.clo 35 .un)],bs:=[.cells [V1,V0,.row 1],.row 42 τ1 false],rs:=[V1],cs:=[.cells [V1,V0,.row 1],.row 42 τ1 false],R:=c8×c8×Int×List τ0,out:=fun z=>((z.1,()),((z.2.1,z.2.2.1,(),()),z.2.2.2,())),f:=f}
abbrev d2G:AF:=e2Q fun x y=>K9 N x.2.1 y.1.1 y.1.2.1 y.2.1
abbrev d2H:SV [V1]->BV [.cells [V1,V0,.row 1],.row 42 τ1 false]->τ14:=fun x y=>(x.1,y.1.1,y.1.2.1,y.2.1)
def d8H:FuncId->Option Tmp->Option AF:=fun f _=>O5 [(35,e0O N)] f
theorem d2F:I8 (d8H N):=fun _ _ _ h=>o6 h (v8 (d31 N) G7)
def c8z:Nat->Hint:=fun i=>
 match i with
 |0=>⟨[],[0,1,5],[0,1],[0,5],[0,1],[]⟩
 |100002=>⟨[0,1],[1],[],[],[],[]⟩
 |100004=>⟨[0,1],[1],[],[],[],[]⟩
 |_=>o3
abbrev b6Z:Env:=S9 c8z (d8H N) FF FF
noncomputable abbrev a4y:Code:=V7 (m9 Tryz.f34) [true,true,false,false,false]
abbrev c30:=A8 (b6Z N) Tryz.f34 (d2G N) d2H
abbrev a9L:List (Nat×Sl):=[(0,.box 0 0),(1,.v (.clo 35 .un)),(5,V0)]
abbrev a9K:List (Nat×Sb):=[(0,.cells [V1,V0,.row 1]),(1,.row 42 τ1 false)]
def b5t(a:Unit)(b:Int)(c:c8)(e:List τ0)(g:Int):St:=⟨50,[(0,.box 0 0),(1,.v (.clo 35 .un) a),(5,.v τ2 b)],[(0,.cells [.v .str c,.v τ2 g,.row 1]),(1,.row 42 τ1 false e)]⟩
def a6S(_g:Unit)(a:Int)(b:c8)(c:List τ0)(e:Int):St:=⟨50,[(0,.box 0 0),(5,.v τ2 a)],[(0,.cells [.v .str b,.v τ2 e,.row 1]),(1,.row 42 τ1 false c)]⟩
def d68(b:Unit)(c:Int)(a:c8)(e:List τ0)(g:Int)(k:Ex->St->Option τ14):Option τ14:=b8j N a (fun l=>k (.exit 0) (a6S b c a e l)) N g
abbrev c51:FV a9L->HV a9K->(Ex->St->Option τ14)->Option τ14:=fun x y k=>d68 N x.2.1 x.2.2.1 y.1.1 y.2.1 y.1.2.1 k
def b5u:Nat->Code->St->(Ex->St->Option τ14)->Option τ14:=fun i c=>
 match i with
 |0=>(LPc 50 a9L a9K (c51 N) (fun st k=>iter (c8z 0) (k6 (b6Z N) N c 0) N st k))
 |i=>fun st k=>iter (c8z i) (k6 (b6Z N) N c i) N st k
theorem c3Z(c:Unit)(e:Int)(a:c8)(g:List τ0)(KX:Nat->St->Option τ14)(I:St->Option τ14)(b:Int):
  k7 (b5u N) (b6Z N) a4y 0 (b5t c e a g b) (p6 (c8z 0) I KX (c30 N))=a8J N a (fun l=>KX 0 (a6S c e a g l)) (fun b=>I (b5t c e a g b)) b:=by kernel_rfl
theorem d2E:∀x y k,(∀st,k .ret st=(c30 N) st)->iter (c8z 0) (k6 (b6Z N) N a4y 0) N ⟨50,Y7 a9L x,Y8 a9K y⟩ k=c51 N x y k:=fun x y k hk=>
 j9 (S:=(Int)×Unit) (c8z 0) _ (k7 (b5u N) (b6Z N) a4y 0) (c30 N) (k9 _ _ N _ a4y 0 (show LoopsOk (b5u N) (b6Z N) N (c30 N) []from trivial)) (fun s=>b5t x.2.1 x.2.2.1 y.1.1 y.2.1 s.1) k hk
  (fun self s=>a8J N y.1.1 (fun a=>k (.exit 0) (a6S x.2.1 x.2.2.1 y.1.1 y.2.1 a)) (fun b=>self (b,())) s.1) (fun n s=>b8j N y.1.1 (fun a=>k (.exit 0) (a6S x.2.1 x.2.2.1 y.1.1 y.2.1 a)) n s.1) (fun _=>rfl) (fun _ _=>rfl)
  (fun I s=>c3Z N x.2.1 x.2.2.1 y.1.1 y.2.1 (fun j=>k (.exit j)) I s.1) N (y.1.2.1,())
theorem e0B:F7 (b5u N) (b6Z N) N (c30 N) 0 a4y:=fun st k hk=>p8 50 a9L a9K _ _ (c30 N) (d2E N) _ st k hk (rfl)
theorem d69(x:SV [.box 0 0,.v (.clo 35 .un)])(y:BV [.cells [V1,V0,.row 1],.row 42 τ1 false]):F5 (b6Z N) Tryz.f34 (d2G N) d2H (b5u N) x y=K9 N x.2.1 y.1.1 y.1.2.1 y.2.1:=by kernel_rfl
theorem d2I:P7 34 (d2G N):=
 a1X (d2F N) Tryz.func34 rfl Tryz.call34 (d2G N) d2H (fun _ _=>rfl) N (b5u N) (show LoopsOk (b5u N) (b6Z N) N (c30 N) [(0,a4y)]from⟨e0B N,trivial⟩) (d69 N)
def a8K(b:c8)(k0 self:ρ32)(a:Int):Option τ14:=br (decide (a<(b.length:Int))) (f5 (l6 b a) fun c=>f5 (G0 N c) fun e=>br (e) (self (IntKind.i64.wrap (a+1))) (k0 a)) (k0 a)
def b8k(N:Nat)(a:c8)(k0:ρ32):Nat->Int->Option τ14|0,_=>none|n+1,b=>a8K N a k0 (b8k N a k0 n) b
def L0(_l:Unit)(a:c8)(b:Int)(e:List τ0):Option τ14:=b8k N a (fun c=>f5 (slc a b c) fun g=>some (g,(a,(c,e)))) N b
abbrev e2R(f:SV [.box 0 0,.v (.clo 36 .un)]->BV [.cells [V1,V0,.row 1],.row 42 τ1 false]->Option τ14):AF:={ps:=[.box 0 0,.v (.clo 36 .un)],bs:=[.cells [V1,V0,.row 1],.row 42 τ1 false],rs:=[V1],cs:=[.cells [V1,V0,.row 1],.row 42 τ1 false],R:=c8×c8×Int×List τ0,out:=fun z=>((z.1,()),((z.2.1,z.2.2.1,(),()),z.2.2.2,())),f:=f}
abbrev d2L:AF:=e2R fun x y=>L0 N x.2.1 y.1.1 y.1.2.1 y.2.1
abbrev d2M:SV [V1]->BV [.cells [V1,V0,.row 1],.row 42 τ1 false]->τ14:=fun x y=>(x.1,y.1.1,y.1.2.1,y.2.1)
def d8I:FuncId->Option Tmp->Option AF:=fun f _=>O5 [(36,b7P N)] f
theorem d2K:I8 (d8I N):=fun _ _ _ h=>o6 h (v8 (a54 N) G7)
def c8A:Nat->Hint:=fun i=>
 match i with
 |0=>⟨[],[0,1,5],[0,1],[0,5],[0,1],[]⟩
 |100002=>⟨[0,1],[1],[],[],[],[]⟩
 |100004=>⟨[0,1],[1],[],[],[],[]⟩
 |_=>o3
abbrev b60:Env:=S9 c8A (d8I N) FF FF
abbrev c32:=A8 (b60 N) Tryz.f34 (d2L N) d2M
abbrev a9N:List (Nat×Sl):=[(0,.box 0 0),(1,.v (.clo 36 .un)),(5,V0)]
abbrev a9M:List (Nat×Sb):=[(0,.cells [V1,V0,.row 1]),(1,.row 42 τ1 false)]
def b5v(a:Unit)(b:Int)(c:c8)(e:List τ0)(g:Int):St:=⟨50,[(0,.box 0 0),(1,.v (.clo 36 .un) a),(5,.v τ2 b)],[(0,.cells [.v .str c,.v τ2 g,.row 1]),(1,.row 42 τ1 false e)]⟩
def a6T(_g:Unit)(a:Int)(b:c8)(c:List τ0)(e:Int):St:=⟨50,[(0,.box 0 0),(5,.v τ2 a)],[(0,.cells [.v .str b,.v τ2 e,.row 1]),(1,.row 42 τ1 false c)]⟩
def d7a(b:Unit)(c:Int)(a:c8)(e:List τ0)(g:Int)(k:Ex->St->Option τ14):Option τ14:=b8k N a (fun l=>k (.exit 0) (a6T b c a e l)) N g
abbrev c52:FV a9N->HV a9M->(Ex->St->Option τ14)->Option τ14:=fun x y k=>d7a N x.2.1 x.2.2.1 y.1.1 y.2.1 y.1.2.1 k
def b5w:Nat->Code->St->(Ex->St->Option τ14)->Option τ14:=fun i c=>
 match i with
 |0=>(LPc 50 a9N a9M (c52 N) (fun st k=>iter (c8A 0) (k6 (b60 N) N c 0) N st k))
 |i=>fun st k=>iter (c8A i) (k6 (b60 N) N c i) N st k
theorem c31(c:Unit)(e:Int)(a:c8)(g:List τ0)(KX:Nat->St->Option τ14)(I:St->Option τ14)(b:Int):
  k7 (b5w N) (b60 N) a4y 0 (b5v c e a g b) (p6 (c8A 0) I KX (c32 N))=a8K N a (fun l=>KX 0 (a6T c e a g l)) (fun b=>I (b5v c e a g b)) b:=by kernel_rfl
theorem d2J:∀x y k,(∀st,k .ret st=(c32 N) st)->iter (c8A 0) (k6 (b60 N) N a4y 0) N ⟨50,Y7 a9N x,Y8 a9M y⟩ k=c52 N x y k:=fun x y k hk=>
 j9 (S:=(Int)×Unit) (c8A 0) _ (k7 (b5w N) (b60 N) a4y 0) (c32 N) (k9 _ _ N _ a4y 0 (show LoopsOk (b5w N) (b60 N) N (c32 N) []from trivial)) (fun s=>b5v x.2.1 x.2.2.1 y.1.1 y.2.1 s.1) k hk
  (fun self s=>a8K N y.1.1 (fun a=>k (.exit 0) (a6T x.2.1 x.2.2.1 y.1.1 y.2.1 a)) (fun b=>self (b,())) s.1) (fun n s=>b8k N y.1.1 (fun a=>k (.exit 0) (a6T x.2.1 x.2.2.1 y.1.1 y.2.1 a)) n s.1) (fun _=>rfl) (fun _ _=>rfl)
  (fun I s=>c31 N x.2.1 x.2.2.1 y.1.1 y.2.1 (fun j=>k (.exit j)) I s.1) N (y.1.2.1,())
theorem e0C:F7 (b5w N) (b60 N) N (c32 N) 0 a4y:=fun st k hk=>p8 50 a9N a9M _ _ (c32 N) (d2J N) _ st k hk (rfl)
theorem d7b(x:SV [.box 0 0,.v (.clo 36 .un)])(y:BV [.cells [V1,V0,.row 1],.row 42 τ1 false]):F5 (b60 N) Tryz.f34 (d2L N) d2M (b5w N) x y=L0 N x.2.1 y.1.1 y.1.2.1 y.2.1:=by kernel_rfl
theorem d2N:P7 34 (d2L N):=
 a1X (d2K N) Tryz.func34 rfl Tryz.call34 (d2L N) d2M (fun _ _=>rfl) N (b5w N) (show LoopsOk (b5w N) (b60 N) N (c32 N) [(0,a4y)]from⟨e0C N,trivial⟩) (d7b N)
def a8G(_N:Nat)(c:c8)(e:Int)(k0:Int->Option τ13)(self:Int->Int->Option τ13)(a b:Int):Option τ13:=br (decide (a<e)) (f5 (l6 c a) fun g=>self (IntKind.i64.wrap (a+1)) (IntKind.i64.wrap ((IntKind.i64.wrap (10*b))+(IntKind.i64.wrap (UInt8.toNat (g-48):Int))))) (k0 b)
def b8f(N:Nat)(a:c8)(b:Int)(k0:Int->Option τ13):Nat->Int->Int->Option τ13|0,_,_=>none|n+1,c,e=>a8G N a b k0 (b8f N a b k0 n) c e
def N1(m:c8)(o g:Int)(b:c8)(c e:Int)(p:List τ0):Option τ13:=f5 (L0 N () m o p) fun a=>br (decide ((a.1.length:Int)>1)) (f5 (l6 a.1 0) fun q=>br (q==48) (some (10,(a.2.1,(a.2.2.1,(g,(b,(c,(e,a.2.2.2)))))))) (br (decide ((a.1.length:Int)>9)) (some (2,(a.2.1,(a.2.2.1,(g,(b,(c,(e,a.2.2.2)))))))) (b8f N a.1 (a.1.length:Int) (fun l=>some (0,(a.2.1,(a.2.2.1,(3,(b,(l,(e,a.2.2.2)))))))) N 0 c))) (br (decide ((a.1.length:Int)>9)) (some (2,(a.2.1,(a.2.2.1,(g,(b,(c,(e,a.2.2.2)))))))) (b8f N a.1 (a.1.length:Int) (fun l=>some (0,(a.2.1,(a.2.2.1,(3,(b,(l,(e,a.2.2.2)))))))) N 0 c))
abbrev e2m(f:SV [.box 0 0,.box 1 0]->BV [.cells [V1,V0,.row 2],.cells [V0,V1,V0,V0],.row 42 τ1 false]->Option τ13):AF:={ps:=[.box 0 0,.box 1 0],bs:=[.cells [V1,V0,.row 2],.cells [V0,V1,V0,V0],.row 42 τ1 false],rs:=[V0],cs:=[.cells [V1,V0,.row 2],.cells [V0,V1,V0,V0],.row 42 τ1 false],R:=Int×c8×Int×Int×c8×Int×Int×List τ0,out:=fun z=>((z.1,()),((z.2.1,z.2.2.1,(),()),(z.2.2.2.1,z.2.2.2.2.1,z.2.2.2.2.2.1,z.2.2.2.2.2.2.1,()),z.2.2.2.2.2.2.2,())),f:=f}
abbrev d1S:AF:=e2m fun _ y=>N1 N y.1.1 y.1.2.1 y.2.1.1 y.2.1.2.1 y.2.1.2.2.1 y.2.1.2.2.2.1 y.2.2.1
abbrev d1T:SV [V0]->BV [.cells [V1,V0,.row 2],.cells [V0,V1,V0,V0],.row 42 τ1 false]->τ13:=fun x y=>(x.1,y.1.1,y.1.2.1,y.2.1.1,y.2.1.2.1,y.2.1.2.2.1,y.2.1.2.2.2.1,y.2.2.1)
def d8E:FuncId->Option Tmp->Option AF:=fun f _=>O5 [(34,d2L N)] f
theorem d1R:I8 (d8E N):=fun _ _ _ h=>o6 h (v8 (d2N N) G7)
def c8v:Nat->Hint:=fun i=>
 match i with
 |0=>⟨[],[1,5,21,22],[0,1,2],[1],[0,1,2],[]⟩
 |100009=>⟨[1],[1],[],[],[],[]⟩
 |_=>o3
abbrev b6W:Env:=S9 c8v (d8E N) FF FF
noncomputable abbrev b8g:Code:=V7 (m9 Tryz.f37) [true,true,true,true,false,true,false,false]
abbrev c3R:=A8 (b6W N) Tryz.f37 (d1S N) d1T
abbrev a9D:List (Nat×Sl):=[(1,.box 1 0),(5,V1),(21,V0),(22,V0)]
abbrev a9C:List (Nat×Sb):=[(0,.cells [V1,V0,.row 2]),(1,.cells [V0,V1,V0,V0]),(2,.row 42 τ1 false)]
def b5m(a:c8)(b:Int)(c:c8)(e g:Int)(l:c8)(m:Int)(cw2:List τ0)(o p:Int):St:=⟨43,[(1,.box 1 0),(5,.v .str a),(21,.v τ2 b),(22,.v τ2 o)],[(0,.cells [.v .str c,.v τ2 e,.row 2]),(1,.cells [.v τ2 g,.v .str l,.v τ2 p,.v τ2 m]),(2,.row 42 τ1 false cw2)]⟩
def a6P(_m:c8)(_o:Int)(a:c8)(b c:Int)(e:c8)(g:Int)(cw2:List τ0)(l:Int):St:=⟨43,[(1,.box 1 0)],[(0,.cells [.v .str a,.v τ2 b,.row 2]),(1,.cells [.v τ2 c,.v .str e,.v τ2 l,.v τ2 g]),(2,.row 42 τ1 false cw2)]⟩
def d6T(a:c8)(b:Int)(c:c8)(e g:Int)(l:c8)(m:Int)(cw2:List τ0)(o p:Int)(k:Ex->St->Option τ13):Option τ13:=b8f N a b (fun q=>k (.exit 0) (a6P a b c e g l m cw2 q)) N o p
abbrev c5S:FV a9D->HV a9C->(Ex->St->Option τ13)->Option τ13:=fun x y k=>d6T N x.2.1 x.2.2.1 y.1.1 y.1.2.1 y.2.1.1 y.2.1.2.1 y.2.1.2.2.2.1 y.2.2.1 x.2.2.2.1 y.2.1.2.2.1 k
def b5n:Nat->Code->St->(Ex->St->Option τ13)->Option τ13:=fun i c=>
 match i with
 |0=>(LPc 43 a9D a9C (c5S N) (fun st k=>iter (c8v 0) (k6 (b6W N) N c 0) N st k))
 |i=>fun st k=>iter (c8v i) (k6 (b6W N) N c i) N st k
theorem c3Q(a:c8)(b:Int)(g:c8)(l m:Int)(o:c8)(p:Int)(cw2:List τ0)(KX:Nat->St->Option τ13)(I:St->Option τ13)(c e:Int):
  k7 (b5n N) (b6W N) b8g 0 (b5m a b g l m o p cw2 c e) (p6 (c8v 0) I KX (c3R N))=a8G N a b (fun q=>KX 0 (a6P a b g l m o p cw2 q)) (fun c e=>I (b5m a b g l m o p cw2 c e)) c e:=by kernel_rfl
theorem d1Q:∀x y k,(∀st,k .ret st=(c3R N) st)->iter (c8v 0) (k6 (b6W N) N b8g 0) N ⟨43,Y7 a9D x,Y8 a9C y⟩ k=c5S N x y k:=fun x y k hk=>
 j9 (S:=(Int)×(Int)×Unit) (c8v 0) _ (k7 (b5n N) (b6W N) b8g 0) (c3R N) (k9 _ _ N _ b8g 0 (show LoopsOk (b5n N) (b6W N) N (c3R N) []from trivial)) (fun s=>b5m x.2.1 x.2.2.1 y.1.1 y.1.2.1 y.2.1.1 y.2.1.2.1 y.2.1.2.2.2.1 y.2.2.1 s.1 s.2.1) k hk
  (fun self s=>a8G N x.2.1 x.2.2.1 (fun a=>k (.exit 0) (a6P x.2.1 x.2.2.1 y.1.1 y.1.2.1 y.2.1.1 y.2.1.2.1 y.2.1.2.2.2.1 y.2.2.1 a)) (fun b c=>self (b,c,())) s.1 s.2.1) (fun n s=>b8f N x.2.1 x.2.2.1 (fun a=>k (.exit 0) (a6P x.2.1 x.2.2.1 y.1.1 y.1.2.1 y.2.1.1 y.2.1.2.1 y.2.1.2.2.2.1 y.2.2.1 a)) n s.1 s.2.1) (fun _=>rfl) (fun _ _=>rfl)
  (fun I s=>c3Q N x.2.1 x.2.2.1 y.1.1 y.1.2.1 y.2.1.1 y.2.1.2.1 y.2.1.2.2.2.1 y.2.2.1 (fun j=>k (.exit j)) I s.1 s.2.1) N (x.2.2.2.1,y.2.1.2.2.1,())
theorem e0i:F7 (b5n N) (b6W N) N (c3R N) 0 b8g:=fun st k hk=>p8 43 a9D a9C _ _ (c3R N) (d1Q N) _ st k hk (rfl)
theorem d6U(x:SV [.box 0 0,.box 1 0])(y:BV [.cells [V1,V0,.row 2],.cells [V0,V1,V0,V0],.row 42 τ1 false]):F5 (b6W N) Tryz.f37 (d1S N) d1T (b5n N) x y=N1 N y.1.1 y.1.2.1 y.2.1.1 y.2.1.2.1 y.2.1.2.2.1 y.2.1.2.2.2.1 y.2.2.1:=by kernel_rfl
theorem d1U:P7 37 (d1S N):=
 a1X (d1R N) Tryz.func37 rfl Tryz.call37 (d1S N) d1T (fun _ _=>rfl) N (b5n N) (show LoopsOk (b5n N) (b6W N) N (c3R N) [(0,b8g)]from⟨e0i N,trivial⟩) (d6U N)
def b2a(_N:Nat)(b:c8)(e:List τ0)(k0:Int->Option τ19)(self:Int->(List UInt8)->Option τ19)(a:Int)(c:List UInt8):Option τ19:=br (decide (a<(b.length:Int))) (f5 (l6 b a) fun g=>br (g==34) (some (c,(true,(b,(IntKind.i64.wrap (a+1),e))))) (br (g==92) (br ((IntKind.i64.wrap (a+1))==(b.length:Int)) (some ([],(false,(b,(IntKind.i64.wrap (a+1),e))))) (f5 (l6 b (IntKind.i64.wrap (a+1))) fun l=>br (l==34) (br (l==34) (f5 (l6 b (IntKind.i64.wrap (a+1))) fun m=>br (decide ((c.length + [m].length)*(24*Ty.sz .u8)<=140737488355328)) (self (IntKind.i64.wrap ((IntKind.i64.wrap (a+1))+1)) (c ++ [m])) none) (br (l==110) (br (decide ((c.length + [(10:UInt8)].length)*(24*Ty.sz .u8)<=140737488355328)) (self (IntKind.i64.wrap ((IntKind.i64.wrap (a+1))+1)) (c ++ [(10:UInt8)])) none) (some ([],(false,(b,(IntKind.i64.wrap (a+1),e))))))) (br (l==92) (f5 (l6 b (IntKind.i64.wrap (a+1))) fun o=>br (decide ((c.length + [o].length)*(24*Ty.sz .u8)<=140737488355328)) (self (IntKind.i64.wrap ((IntKind.i64.wrap (a+1))+1)) (c ++ [o])) none) (br (l==110) (br (decide ((c.length + [(10:UInt8)].length)*(24*Ty.sz .u8)<=140737488355328)) (self (IntKind.i64.wrap ((IntKind.i64.wrap (a+1))+1)) (c ++ [(10:UInt8)])) none) (some ([],(false,(b,(IntKind.i64.wrap (a+1),e))))))))) (br (decide (g<32)) (some ([],(false,(b,(IntKind.i64.wrap (a+1),e))))) (br (decide (g>126)) (some ([],(false,(b,(IntKind.i64.wrap (a+1),e))))) (br (decide ((c.length + [g].length)*(24*Ty.sz .u8)<=140737488355328)) (self (IntKind.i64.wrap (a+1)) (c ++ [g])) none))))) (k0 a)
def b2J(N:Nat)(a:c8)(b:List τ0)(k0:Int->Option τ19):Nat->Int->(List UInt8)->Option τ19|0,_,_=>none|n+1,c,e=>b2a N a b k0 (b2J N a b k0 n) c e
def P6(a:c8)(c:Int)(b:List τ0):Option τ19:=b2J N a b (fun e=>some ([],(false,(a,(e,b))))) N c []
abbrev e2S(f:SV [.box 0 0]->BV [.cells [V1,V0,.row 1],.row 42 τ1 false]->Option τ19):AF:={ps:=[.box 0 0],bs:=[.cells [V1,V0,.row 1],.row 42 τ1 false],rs:=[V1,V2],cs:=[.cells [V1,V0,.row 1],.row 42 τ1 false],R:=c8×Bool×c8×Int×List τ0,out:=fun z=>((z.1,z.2.1,()),((z.2.2.1,z.2.2.2.1,(),()),z.2.2.2.2,())),f:=f}
abbrev d2Q:AF:=e2S fun _ y=>P6 N y.1.1 y.1.2.1 y.2.1
abbrev d2R:SV [V1,V2]->BV [.cells [V1,V0,.row 1],.row 42 τ1 false]->τ19:=fun x y=>(x.1,x.2.1,y.1.1,y.1.2.1,y.2.1)
def d8J(_N:Nat):FuncId->Option Tmp->Option AF:=fun f _=>O5 [] f
theorem d2P:I8 (d8J N):=fun _ _ _ h=>o6 h G7
def c8B:Nat->Hint:=fun i=>
 match i with
 |0=>⟨[],[0,4],[0,1,1004],[],[0,1],[]⟩
 |100015=>⟨[0,1],[1],[],[],[],[]⟩
 |_=>o3
abbrev b61:Env:=S9 c8B (d8J N) FF FF
noncomputable abbrev b8l:Code:=V7 (m9 Tryz.f38) [true,true,false,false,false]
abbrev c34:=A8 (b61 N) Tryz.f38 (d2Q N) d2R
abbrev a9P:List (Nat×Sl):=[(0,.box 0 0),(4,.row 1004)]
abbrev a9O:List (Nat×Sb):=[(0,.cells [V1,V0,.row 1]),(1,.row 42 τ1 false),(1004,.row 5 .u8 false)]
def b5x(a:c8)(b:List τ0)(c:Int)(e:List UInt8):St:=⟨97,[(0,.box 0 0),(4,.row 1004)],[(0,.cells [.v .str a,.v τ2 c,.row 1]),(1,.row 42 τ1 false b),(1004,.row 5 .u8 false e)]⟩
def a6U(a:c8)(b:List τ0)(c:Int):St:=⟨97,[],[(0,.cells [.v .str a,.v τ2 c,.row 1]),(1,.row 42 τ1 false b)]⟩
def d7c(a:c8)(b:List τ0)(c:Int)(e:List UInt8)(k:Ex->St->Option τ19):Option τ19:=b2J N a b (fun g=>k (.exit 0) (a6U a b g)) N c e
abbrev c53:FV a9P->HV a9O->(Ex->St->Option τ19)->Option τ19:=fun _ y k=>d7c N y.1.1 y.2.1 y.1.2.1 y.2.2.1 k
def b5y:Nat->Code->St->(Ex->St->Option τ19)->Option τ19:=fun i c=>
 match i with
 |0=>(LPc 97 a9P a9O (c53 N) (fun st k=>iter (c8B 0) (k6 (b61 N) N c 0) N st k))
 |i=>fun st k=>iter (c8B i) (k6 (b61 N) N c i) N st k
theorem c33(a:c8)(b:List τ0)(KX:Nat->St->Option τ19)(I:St->Option τ19)(c:Int)(e:List UInt8):
  k7 (b5y N) (b61 N) b8l 0 (b5x a b c e) (p6 (c8B 0) I KX (c34 N))=b2a N a b (fun g=>KX 0 (a6U a b g)) (fun c e=>I (b5x a b c e)) c e:=by kernel_rfl
theorem d2O:∀x y k,(∀st,k .ret st=(c34 N) st)->iter (c8B 0) (k6 (b61 N) N b8l 0) N ⟨97,Y7 a9P x,Y8 a9O y⟩ k=c53 N x y k:=fun _ y k hk=>
 j9 (S:=(Int)×(List UInt8)×Unit) (c8B 0) _ (k7 (b5y N) (b61 N) b8l 0) (c34 N) (k9 _ _ N _ b8l 0 (show LoopsOk (b5y N) (b61 N) N (c34 N) []from trivial)) (fun s=>b5x y.1.1 y.2.1 s.1 s.2.1) k hk
  (fun self s=>b2a N y.1.1 y.2.1 (fun a=>k (.exit 0) (a6U y.1.1 y.2.1 a)) (fun b c=>self (b,c,())) s.1 s.2.1) (fun n s=>b2J N y.1.1 y.2.1 (fun a=>k (.exit 0) (a6U y.1.1 y.2.1 a)) n s.1 s.2.1) (fun _=>rfl) (fun _ _=>rfl)
  (fun I s=>c33 N y.1.1 y.2.1 (fun j=>k (.exit j)) I s.1 s.2.1) N (y.1.2.1,y.2.2.1,())
theorem e0D:F7 (b5y N) (b61 N) N (c34 N) 0 b8l:=fun st k hk=>p8 97 a9P a9O _ _ (c34 N) (d2O N) _ st k hk (rfl)
theorem d7d(x:SV [.box 0 0])(y:BV [.cells [V1,V0,.row 1],.row 42 τ1 false]):F5 (b61 N) Tryz.f38 (d2Q N) d2R (b5y N) x y=P6 N y.1.1 y.1.2.1 y.2.1:=by kernel_rfl
theorem d2S:P7 38 (d2Q N):=
 a1X (d2P N) Tryz.func38 rfl Tryz.call38 (d2Q N) d2R (fun _ _=>rfl) N (b5y N) (show LoopsOk (b5y N) (b61 N) N (c34 N) [(0,b8l)]from⟨e0D N,trivial⟩) (d7d N)
def M7(b:c8)(a:Int)(e:List τ0):Option (τ0×Int×c8×Int×List τ0):=f5 (l6 b a) fun l=>f5 (G1 N l) fun o=>br (o) (f5 (K9 N () b a e) fun g=>br (decide ((g.1.length:Int)>40)) (some ((1,(g.1,(0,a))),(2,g.2))) (some ((1,(g.1,(0,a))),(0,g.2)))) (f5 (G0 N l) fun p=>br (p) (f5 (N1 N b a 0 [] 0 a e) fun c=>some ((c.2.2.2.1,(c.2.2.2.2.1,(c.2.2.2.2.2.1,c.2.2.2.2.2.2.1))),(c.1,(c.2.1,(c.2.2.1,c.2.2.2.2.2.2.2))))) (br (l==34) (f5 (P6 N b (IntKind.i64.wrap (a+1)) e) fun m=>br (!m.2.1) (some ((0,([],(0,a))),(10,m.2.2))) (some ((2,(m.1,(0,a))),(0,m.2.2)))) (f5 (strings_IndexByte [61,43,40,41,91,93,123,125,44,58,59] l) fun q=>br (decide (q>=0)) (f5 (slc b a (b.length:Int)) fun r=>f5 (S6 N r [61,61]) fun t=>br (t) (f5 (slc b a (IntKind.i64.wrap (a+2))) fun u=>some ((4,(u,(0,a))),(0,(b,(IntKind.i64.wrap (a+2),e))))) (f5 (slc b a (IntKind.i64.wrap (a+1))) fun v=>some ((4,(v,(0,a))),(0,(b,(IntKind.i64.wrap (a+1),e)))))) (some ((0,([],(0,a))),(10,(b,(a,e))))))))
abbrev e3b:=P4 [.box 0 0] [.cells [V1,V0,.row 1],.row 42 τ1 false] [.v τ1,V0] [.cells [V1,V0,.row 1],.row 42 τ1 false] (τ0×Int×c8×Int×List τ0) fun z=>((z.1,z.2.1,()),((z.2.2.1,z.2.2.2.1,(),()),z.2.2.2.2,()))
abbrev e0P:AF:=e3b fun _ y=>M7 N y.1.1 y.1.2.1 y.2.1
def e5g:Nat->Hint:=fun i=>
 match i with
 |100020=>⟨[0,1],[1],[],[],[],[]⟩
 |100022=>⟨[0,1],[1],[],[],[],[]⟩
 |_=>o3
theorem d32:P7 17 (e0P N):=
 V5 e5g [(32,F0 fun x _=>strings_IndexByte x.1 x.2.1),(33,c0H N),(34,d2G N),(36,b7P N),(37,d1S N),(38,d2Q N),(39,e01 N)] (v8 (F1) (v8 (b1n N) (v8 (d2I N) (v8 (a54 N) (v8 (d1U N) (v8 (d2S N) (v8 (d4N N) G7))))))) Tryz.func17 rfl Tryz.call17 (e0P N) (fun x y=>(x.1,x.2.1,y.1.1,y.1.2.1,y.2.1)) (fun _ _=>rfl) N (fun _ _=>by kernel_rfl) rfl
def a9h(c:c8)(self:c8->Int->τ5->Option τ17)(e:c8)(g:Int)(l:List τ0):Option τ17:=f5 (D9 N e g l) fun b=>br (b.2.1==(c.length:Int)) (some (b.2.2,(0,0))) (br ((b.2.2.length:Int)==50000) (some ([],(b.2.1,2))) (f5 (M7 N b.1 b.2.1 b.2.2) fun a=>br (a.2.1 !=0) (some ([],(a.1.2.2.2,a.2.1))) (j0 2 (br (decide ((a.2.2.2.2.length + [a.1].length)*(24*Ty.sz τ1)<=140737488355328)) (self a.2.2.1 a.2.2.2.1 (a.2.2.2.2 ++ [a.1])) none))))
def b1v(N:Nat)(a:c8):Nat->c8->Int->τ5->Option τ17|0,_,_,_=>none|n+1,b,c,e=>a9h N a (b1v N a n) b c e
def R9(a:c8):Option τ17:=br (decide ((a.length:Int)>50000)) (some ([],(0,2))) (b1v N a N a 0 [])
abbrev d9N(f:SV [V1]->BV []->Option τ17):AF:={ps:=[V1],bs:=[],rs:=[V3,V0,V0],cs:=[],R:=List τ0×Int×Int,out:=fun z=>((z.1,z.2.1,z.2.2,()),()),f:=f}
abbrev b7T:AF:=d9N fun x _=>R9 N x.1
abbrev c3j:SV [V3,V0,V0]->BV []->τ17:=fun x _=>(x.1,x.2.1,x.2.2.1)
def d0y:FuncId->Option Tmp->Option AF:=fun f _=>O5 [(16,d1N N),(17,e0P N)] f
theorem c7J:I8 (d0y N):=fun _ _ _ h=>o6 h (v8 (d1P N) (v8 (d32 N) G7))
def b7U:Nat->Hint:=fun i=>
 match i with
 |0=>⟨[],[0,5],[1013,900001],[],[],[(1013,2,900001,42,τ1)]⟩
 |100008=>⟨[1013,900001],[1],[],[],[],[]⟩
 |100011=>⟨[1006],[1],[],[],[],[]⟩
 |100012=>⟨[],[1,2],[],[],[],[]⟩
 |_=>o3
abbrev a7F:Env:=S9 b7U (d0y N) FF FF
noncomputable abbrev b1x:Code:=V7 (m9 Tryz.f7) [true,true,true,false,false]
abbrev b4K:=A8 (a7F N) Tryz.f7 (b7T N) c3j
abbrev a6d:List (Nat×Sl):=[(0,V1),(5,.box 1013 0)]
abbrev a6c:List (Nat×Sb):=[(1013,.cells [V1,V0,.row 900001]),(900001,.row 42 τ1 false)]
def b1w(a b:c8)(c:Int)(e:List τ0):St:=⟨57,[(0,.v .str a),(5,.box 1013 0)],[(1013,.cells [.v .str b,.v τ2 c,.row 900001]),(900001,.row 42 τ1 false e)]⟩
def d0w(a b:c8)(c:Int)(e:List τ0)(_k:Ex->St->Option τ17):Option τ17:=b1v N a N b c e
abbrev c0Q:FV a6d->HV a6c->(Ex->St->Option τ17)->Option τ17:=fun x y k=>d0w N x.1 y.1.1 y.1.2.1 y.2.1 k
def a8o:Nat->Code->St->(Ex->St->Option τ17)->Option τ17:=fun i c=>
 match i with
 |0=>(LPc 57 a6d a6c (c0Q N) (fun st k=>iter (b7U 0) (k6 (a7F N) N c 0) N st k))
 |i=>fun st k=>iter (b7U i) (k6 (a7F N) N c i) N st k
theorem c0R(e:c8)(KX:Nat->St->Option τ17)(I:St->Option τ17)(a:c8)(b:Int)(c:List τ0):
  k7 (a8o N) (a7F N) b1x 0 (b1w e a b c) (p6 (b7U 0) I KX (b4K N))=a9h N e (fun a b c=>I (b1w e a b c)) a b c:=by kernel_rfl
theorem c7I:∀x y k,(∀st,k .ret st=(b4K N) st)->iter (b7U 0) (k6 (a7F N) N b1x 0) N ⟨57,Y7 a6d x,Y8 a6c y⟩ k=c0Q N x y k:=fun x y k hk=>
 j9 (S:=(c8)×(Int)×τ5×Unit) (b7U 0) _ (k7 (a8o N) (a7F N) b1x 0) (b4K N) (k9 _ _ N _ b1x 0 (show LoopsOk (a8o N) (a7F N) N (b4K N) []from trivial)) (fun s=>b1w x.1 s.1 s.2.1 s.2.2.1) k hk
  (fun self s=>a9h N x.1 (fun a b c=>self (a,b,c,())) s.1 s.2.1 s.2.2.1) (fun n s=>b1v N x.1 n s.1 s.2.1 s.2.2.1) (fun _=>rfl) (fun _ _=>rfl)
  (fun I s=>c0R N x.1 (fun j=>k (.exit j)) I s.1 s.2.1 s.2.2.1) N (y.1.1,y.1.2.1,y.2.1,())
theorem d6s:F7 (a8o N) (a7F N) N (b4K N) 0 b1x:=fun st k hk=>p8 57 a6d a6c _ _ (b4K N) (c7I N) _ st k hk (rfl)
theorem d0x(x:SV [V1])(y:BV []):F5 (a7F N) Tryz.f7 (b7T N) c3j (a8o N) x y=R9 N x.1:=by kernel_rfl
theorem b7V:P7 7 (b7T N):=
 a1X (c7J N) Tryz.func7 rfl Tryz.call7 (b7T N) c3j (fun _ _=>rfl) N (a8o N) (show LoopsOk (a8o N) (a7F N) N (b4K N) [(0,b1x)]from⟨d6s N,trivial⟩) (d0x N)
def F9(_N:Nat)(a:GStmt):Option (Bool×Bool×Bool×Bool×Bool×Bool×Bool):=br (a.kind==1) (some (true,(false,(false,(false,(true,(false,false))))))) (br (a.kind==2) (some (true,(false,(false,(true,(false,(false,false))))))) (br (a.kind==3) (some (true,(false,(true,(false,(false,(true,false))))))) (br (a.kind==4) (some (true,(false,(false,(false,(true,(true,false))))))) (br (a.kind==5) (some (false,(false,(false,(false,(true,(true,true))))))) (some (false,(true,(false,(false,(false,(false,false)))))))))))
abbrev d98:=P4 [.v τ16] [] [.v τ28] [] (Bool×Bool×Bool×Bool×Bool×Bool×Bool) fun z=>((z,()),())
abbrev c1s:AF:=d98 fun x _=>F9 N x.1
def c3G(_N:Nat):FuncId->Option Tmp->Option AF:=fun f _=>O5 [] f
theorem c8q:I8 (c3G N):=fun _ _ _ h=>o6 h G7
def d8B:Nat->Hint:=fun i=>
 match i with
 |_=>o3
abbrev e2a:Env:=S9 d8B (c3G N) FF FF |>.jk (fun _=>none)
theorem b17:P7 84 (c1s N):=
 a1W (e2a N) (EnvOk.jk (y6 d8B (c3G N) _ _ (c8q N)) _) Tryz.func84 rfl Tryz.call84 (c1s N) (fun x _=>x.1) (fun _ _=>rfl) N (fun _ _=>by kernel_rfl) rfl
abbrev b48:=P4 [.v τ4] [] [V0] [] (Int) fun z=>((z,()),())
end
end Go.Proofs.YtolpmfhiegpohaaGreatDoor
