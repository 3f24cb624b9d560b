/- % -/
import Derived.Test.YtckdohagilcloaaGreatDoorQWeF2
namespace Go.Proofs.YtckdohagilcloaaGreatDoor
set_option maxRecDepth 100000
set_option linter.unusedVariables false
open Go Go.RowKit
noncomputable section
noncomputable section
variable(N:Nat)
def r7(b:Int)(c:d3)(e g:Int)(l:List d3)(a:GPart×List τ1×Int×Int):Option (Int×d3×Int×Int×List d3×List τ1×Int×Int×List GPart):=br (Zf [Zo].length (.rc .part)) (br (decide (0<=(0: Int)/\0<([Zo].length:Int))) (o3 1 (k8 (n8 [Zo] 0) fun _=>some (b,c,e,g,l,a.2.1,a.2.2.1,a.2.2.2,a3F [Zo] 0 a.1))) none) none
def H3(_N:Nat)(a7:V8)(b:Int)(c:d3)(e g:Int)(l:List d3)(m:List τ1)(o p:Int):Option (Int×d3×Int×Int×List d3×List τ1×Int×Int×List GPart):=q7 (q7 (q7 (k8 (a7 m o p) fun a=>o3 1 (r7 b c e g l a)) (o3 1 (o3 1 (k8 (a7 m o p) fun a=>r7 b c e g l a)))) (o3 1 (q7 (o3 1 (k8 (a7 m o p) fun a=>r7 b c e g l a)) (k8 (a7 m o p) fun a=>r7 b c e g l a)))) (q7 (q7 (q7 (k8 (a7 m o p) fun a=>o3 1 (r7 b c e g l a)) (o3 1 (o3 1 (k8 (a7 m o p) fun a=>r7 b c e g l a)))) (q7 (k8 (a7 m o p) fun a=>q7 (o3 1 (r7 b c e g l a)) (r7 b c e g l a)) (q7 (o3 1 (k8 (a7 m o p) fun a=>r7 b c e g l a)) (k8 (a7 m o p) fun a=>r7 b c e g l a)))) (o3 1 (q7 (o3 1 (k8 (a7 m o p) fun a=>r7 b c e g l a)) (k8 (a7 m o p) fun a=>r7 b c e g l a))))
abbrev f2Z:=E3 [.box 0 0,.box 1 0] [.cells [V0,V1,V0,.row 2,.nilS,V0,.nilS],.cells [.box 3 0],.row 9 .str false,.cells [V2,V0,V0]] [] [.cells [V0,V1,V0,.row 2,.nilS,V0,.row 4],.cells [.box 3 0],.row 9 .str false,.cells [V2,V0,V0],.row 273 (.rc .part) true] (Int×d3×Int×Int×List d3×List τ1×Int×Int×List GPart) fun z=>((),(z.1,z.2.1,z.2.2.1,(),(),z.2.2.2.1,(),()),((),()),z.2.2.2.2.1,(z.2.2.2.2.2.1,z.2.2.2.2.2.2.1,z.2.2.2.2.2.2.2.1,()),z.2.2.2.2.2.2.2.2,())
abbrev e8Z(a7:V8):AF:=f2Z fun _ y=>let z:=y.2.2.2.1;H3 N a7 y.1.1 y.1.2.1 y.1.2.2.1 y.1.2.2.2.2.2.1 y.2.2.1 z.1 z.2.1 z.2.2.1
def d79(_N:Nat)(a7:V8):FuncId->Option Tmp->Option AF:=fun f _=>P0 [(202,W9 fun _ y=>a7 y.1.1 y.1.2.1 y.1.2.2.1)] f
theorem d8a(a7:V8)(j8:Sound Tryz.prog GW x6 202 (W9 fun x y=>a7 y.1.1 y.1.2.1 y.1.2.2.1)):∀f q F,d79 N a7 f q=some F->Sound Tryz.prog GW x6 f F:=fun _ _ _ h=>r9 h (u4 (j8) F1)
def f2Y:Nat->Hint:=fun i=>
 match i with
 |100000=>⟨[],[1,2],[],[],[],[]⟩
 |_=>o5
abbrev f6Z(a7:V8):Env:=M5 f2Y (d79 N a7) (fun i=>match i with|6=>true|7=>true|8=>true|_=>false) (fun _=>false)
theorem d8b(a7:V8)(j8:Sound Tryz.prog GW x6 202 (W9 fun x y=>a7 y.1.1 y.1.2.1 y.1.2.2.1)):Sound Tryz.prog GW x6 288 (e8Z N a7):=
 T5 (f6Z N a7) (t6 f2Y (d79 N a7) _ _ (d8a N a7 j8)) Tryz.func288 Tryz.call288 (e8Z N a7) (fun _ y=>let z:=y.2.2.2;(y.1.1,y.1.2.1,y.1.2.2.1,y.1.2.2.2.2.2.1,y.2.2.1,z.1.1,z.1.2.1,z.1.2.2.1,z.2.1)) N
def P8(a7:V8)(e:Int)(g:d3)(l m:Int)(o:List τ1)(p q:Int):Option (Int×d3×Int×Int×List τ1×Int×Int×List d3×List GPart):=q7 (k8 (B1 N o p q) fun b=>br (Zf [b.1].length .str) (k8 (l8 N [58] b.2.1 b.2.2.1 b.2.2.2) fun c=>k8 (H3 N a7 e g l m [b.1] c.1 c.2.1 c.2.2) fun a=>some (a.1,a.2.1,a.2.2.1,a.2.2.2.1,a.2.2.2.2.2.1,a.2.2.2.2.2.2.1,a.2.2.2.2.2.2.2.1,a.2.2.2.2.1,a.2.2.2.2.2.2.2.2)) none) (q7 (k8 (B1 N o p q) fun b=>br (Zf [b.1].length .str) (k8 (l8 N [58] b.2.1 b.2.2.1 b.2.2.2) fun c=>k8 (H3 N a7 e g l m [b.1] c.1 c.2.1 c.2.2) fun a=>some (a.1,a.2.1,a.2.2.1,a.2.2.2.1,a.2.2.2.2.2.1,a.2.2.2.2.2.2.1,a.2.2.2.2.2.2.2.1,a.2.2.2.2.1,a.2.2.2.2.2.2.2.2)) none) (k8 (B1 N o p q) fun b=>o3 1 (br (Zf [b.1].length .str) (k8 (l8 N [58] b.2.1 b.2.2.1 b.2.2.2) fun c=>k8 (H3 N a7 e g l m [b.1] c.1 c.2.1 c.2.2) fun a=>some (a.1,a.2.1,a.2.2.1,a.2.2.2.1,a.2.2.2.2.2.1,a.2.2.2.2.2.2.1,a.2.2.2.2.2.2.2.1,a.2.2.2.2.1,a.2.2.2.2.2.2.2.2)) none)))
abbrev f4c:=E3 [.box 0 0,.box 1 0,.box 2 0] [.cells [V0,V1,V0,.nilS,.nilS,V0,.nilS],.cells [.box 3 0],.cells [.fnc 288 [0,1]],.cells [V2,V0,V0]] [] [.cells [V0,V1,V0,.row 4,.nilS,V0,.row 5],.cells [.box 3 0],.cells [.fnc 288 [0,1]],.cells [V2,V0,V0],.row 9 .str false,.row 273 (.rc .part) true] (Int×d3×Int×Int×List τ1×Int×Int×List d3×List GPart) fun z=>((),(z.1,z.2.1,z.2.2.1,(),(),z.2.2.2.1,(),()),((),()),((),()),(z.2.2.2.2.1,z.2.2.2.2.2.1,z.2.2.2.2.2.2.1,()),z.2.2.2.2.2.2.2.1,z.2.2.2.2.2.2.2.2,())
abbrev e9o(a7:V8):AF:=f4c fun _ y=>let z:=y.2.2.2.1;P8 N a7 y.1.1 y.1.2.1 y.1.2.2.1 y.1.2.2.2.2.2.1 z.1 z.2.1 z.2.2.1
def d9h(a7:V8):FuncId->Option Tmp->Option AF:=fun f _=>P0 [(140,b57 N),(146,d2H N),(288,e8Z N a7)] f
theorem d9i(a7:V8)(j8:Sound Tryz.prog GW x6 202 (W9 fun x y=>a7 y.1.1 y.1.2.1 y.1.2.2.1)):∀f q F,d9h N a7 f q=some F->Sound Tryz.prog GW x6 f F:=fun _ _ _ h=>r9 h (u4 (a03 N) (u4 (a96 N) (u4 (d8b N a7 j8) F1)))
def f4b:Nat->Hint:=fun i=>
 match i with
 |100000=>⟨[],[1,2],[],[],[],[]⟩
 |_=>o5
abbrev f7u(a7:V8):Env:=M5 f4b (d9h N a7) (fun _=>false) (fun _=>false)
theorem d9j(a7:V8)(j8:Sound Tryz.prog GW x6 202 (W9 fun x y=>a7 y.1.1 y.1.2.1 y.1.2.2.1)):Sound Tryz.prog GW x6 289 (e9o N a7):=
 T5 (f7u N a7) (t6 f4b (d9h N a7) _ _ (d9i N a7 j8)) Tryz.func289 Tryz.call289 (e9o N a7) (fun _ y=>let z:=y.2.2.2;(y.1.1,y.1.2.1,y.1.2.2.1,y.1.2.2.2.2.2.1,z.1.1,z.1.2.1,z.1.2.2.1,z.2.1,z.2.2.1)) N
def r8(a:List GPart)(c:Int)(e:d3)(g l:Int)(m:List d3)(b:GPart×List τ1×Int×Int):Option (Int×d3×Int×Int×List d3×List GPart×List τ1×Int×Int):=br (Zf (a.length + [Zo].length) (.rc .part)) (br (decide (0<=(a.length:Int)/\(a.length:Int)<((a ++ [Zo]).length:Int))) (o3 1 (k8 (n8 (a ++ [Zo]) (a.length:Int)) fun _=>some (c,e,g,l,m,a3F (a ++ [Zo]) (a.length:Int) b.1,b.2))) none) none
def H4(_N:Nat)(a7:V8)(b:Int)(c:d3)(e g:Int)(l:List d3)(m:List GPart)(o:List τ1)(p q:Int):Option (Int×d3×Int×Int×List d3×List GPart×List τ1×Int×Int):=q7 (q7 (q7 (k8 (a7 o p q) fun a=>o3 1 (r8 m b c e g l a)) (o3 1 (o3 1 (k8 (a7 o p q) fun a=>r8 m b c e g l a)))) (o3 1 (q7 (o3 1 (k8 (a7 o p q) fun a=>r8 m b c e g l a)) (k8 (a7 o p q) fun a=>r8 m b c e g l a)))) (q7 (q7 (q7 (k8 (a7 o p q) fun a=>o3 1 (r8 m b c e g l a)) (o3 1 (o3 1 (k8 (a7 o p q) fun a=>r8 m b c e g l a)))) (q7 (k8 (a7 o p q) fun a=>q7 (o3 1 (r8 m b c e g l a)) (r8 m b c e g l a)) (q7 (o3 1 (k8 (a7 o p q) fun a=>r8 m b c e g l a)) (k8 (a7 o p q) fun a=>r8 m b c e g l a)))) (o3 1 (q7 (o3 1 (k8 (a7 o p q) fun a=>r8 m b c e g l a)) (k8 (a7 o p q) fun a=>r8 m b c e g l a))))
abbrev f3b:=E3 [.box 0 0,.box 1 0] [.cells [V0,V1,V0,.row 2,.nilS,V0,.row 3],.cells [.box 4 0],.row 9 .str false,.row 273 (.rc .part) true,.cells [V2,V0,V0]] [] [.cells [V0,V1,V0,.row 2,.nilS,V0,.row 3],.cells [.box 4 0],.row 9 .str false,.row 273 (.rc .part) true,.cells [V2,V0,V0]] (Int×d3×Int×Int×List d3×List GPart×List τ1×Int×Int) fun z=>((),(z.1,z.2.1,z.2.2.1,(),(),z.2.2.2.1,(),()),((),()),z.2.2.2.2.1,z.2.2.2.2.2.1,(z.2.2.2.2.2.2.1,z.2.2.2.2.2.2.2.1,z.2.2.2.2.2.2.2.2,()),())
abbrev e80(a7:V8):AF:=f3b fun _ y=>let z:=y.2.2.2.2.1;H4 N a7 y.1.1 y.1.2.1 y.1.2.2.1 y.1.2.2.2.2.2.1 y.2.2.1 y.2.2.2.1 z.1 z.2.1 z.2.2.1
def d8c(_N:Nat)(a7:V8):FuncId->Option Tmp->Option AF:=fun f _=>P0 [(202,W9 fun _ y=>a7 y.1.1 y.1.2.1 y.1.2.2.1)] f
theorem d8d(a7:V8)(j8:Sound Tryz.prog GW x6 202 (W9 fun x y=>a7 y.1.1 y.1.2.1 y.1.2.2.1)):∀f q F,d8c N a7 f q=some F->Sound Tryz.prog GW x6 f F:=fun _ _ _ h=>r9 h (u4 (j8) F1)
def f3a:Nat->Hint:=fun i=>
 match i with
 |100000=>⟨[],[1,2],[],[],[],[]⟩
 |_=>o5
abbrev f60(a7:V8):Env:=M5 f3a (d8c N a7) (fun i=>match i with|6=>true|7=>true|8=>true|_=>false) (fun _=>false)
theorem d8e(a7:V8)(j8:Sound Tryz.prog GW x6 202 (W9 fun x y=>a7 y.1.1 y.1.2.1 y.1.2.2.1)):Sound Tryz.prog GW x6 288 (e80 N a7):=
 T5 (f60 N a7) (t6 f3a (d8c N a7) _ _ (d8d N a7 j8)) Tryz.func288 Tryz.call288 (e80 N a7) (fun _ y=>let z:=y.2.2.2.2.1;(y.1.1,y.1.2.1,y.1.2.2.1,y.1.2.2.2.2.2.1,y.2.2.1,y.2.2.2.1,z.1,z.2.1,z.2.2.1)) N
def S2(a7:V8)(g:Int)(l:d3)(m o:Int)(c:List d3)(p:List GPart)(q:List τ1)(r t:Int):Option (Int×d3×Int×Int×List d3×List GPart×List τ1×Int×Int):=q7 (k8 (B1 N q r t) fun a=>br (Zf (c.length + [a.1].length) .str) (k8 (l8 N [58] a.2.1 a.2.2.1 a.2.2.2) fun b=>k8 (H4 N a7 g l m o (c ++ [a.1]) p b.1 b.2.1 b.2.2) fun e=>some e) none) (q7 (k8 (B1 N q r t) fun a=>br (Zf (c.length + [a.1].length) .str) (k8 (l8 N [58] a.2.1 a.2.2.1 a.2.2.2) fun b=>k8 (H4 N a7 g l m o (c ++ [a.1]) p b.1 b.2.1 b.2.2) fun e=>some e) none) (k8 (B1 N q r t) fun a=>o3 1 (br (Zf (c.length + [a.1].length) .str) (k8 (l8 N [58] a.2.1 a.2.2.1 a.2.2.2) fun b=>k8 (H4 N a7 g l m o (c ++ [a.1]) p b.1 b.2.1 b.2.2) fun e=>some e) none)))
abbrev f3d:=E3 [.box 0 0,.box 1 0,.box 2 0] [.cells [V0,V1,V0,.row 3,.nilS,V0,.row 4],.cells [.box 5 0],.cells [.fnc 288 [0,1]],.row 9 .str false,.row 273 (.rc .part) true,.cells [V2,V0,V0]] [] [.cells [V0,V1,V0,.row 3,.nilS,V0,.row 4],.cells [.box 5 0],.cells [.fnc 288 [0,1]],.row 9 .str false,.row 273 (.rc .part) true,.cells [V2,V0,V0]] (Int×d3×Int×Int×List d3×List GPart×List τ1×Int×Int) fun z=>((),(z.1,z.2.1,z.2.2.1,(),(),z.2.2.2.1,(),()),((),()),((),()),z.2.2.2.2.1,z.2.2.2.2.2.1,(z.2.2.2.2.2.2.1,z.2.2.2.2.2.2.2.1,z.2.2.2.2.2.2.2.2,()),())
abbrev e81(a7:V8):AF:=f3d fun _ y=>let z:=y.2.2.2.2.2.1;S2 N a7 y.1.1 y.1.2.1 y.1.2.2.1 y.1.2.2.2.2.2.1 y.2.2.2.1 y.2.2.2.2.1 z.1 z.2.1 z.2.2.1
def d8f(a7:V8):FuncId->Option Tmp->Option AF:=fun f _=>P0 [(140,b57 N),(146,d2H N),(288,e80 N a7)] f
theorem d8g(a7:V8)(j8:Sound Tryz.prog GW x6 202 (W9 fun x y=>a7 y.1.1 y.1.2.1 y.1.2.2.1)):∀f q F,d8f N a7 f q=some F->Sound Tryz.prog GW x6 f F:=fun _ _ _ h=>r9 h (u4 (a03 N) (u4 (a96 N) (u4 (d8e N a7 j8) F1)))
def f3c:Nat->Hint:=fun i=>
 match i with
 |100000=>⟨[],[1,2],[],[],[],[]⟩
 |_=>o5
abbrev f69(a7:V8):Env:=M5 f3c (d8f N a7) (fun _=>false) (fun _=>false)
theorem d8h(a7:V8)(j8:Sound Tryz.prog GW x6 202 (W9 fun x y=>a7 y.1.1 y.1.2.1 y.1.2.2.1)):Sound Tryz.prog GW x6 289 (e81 N a7):=
 T5 (f69 N a7) (t6 f3c (d8f N a7) _ _ (d8g N a7 j8)) Tryz.func289 Tryz.call289 (e81 N a7) (fun _ y=>let z:=y.2.2.2.2.2.1;(y.1.1,y.1.2.1,y.1.2.2.1,y.1.2.2.2.2.2.1,y.2.2.2.1,y.2.2.2.2.1,z.1,z.2.1,z.2.2.1)) N
end
end
noncomputable section
noncomputable section
variable(N:Nat)
def b1r(a7:V8)(k0 self:ρ6)(p:List τ1)(q r c:Int)(e:d3)(g l:Int)(m:List d3)(o:List GPart):Option (τg):=k8 (n3 N 4 [44] p q r) fun b=>br (b.1) (k8 (S2 N a7 c e g l m o b.2.1 b.2.2.1 b.2.2.2) fun a=>self a.2.2.2.2.2.2.1 a.2.2.2.2.2.2.2.1 a.2.2.2.2.2.2.2.2 a.1 a.2.1 a.2.2.1 a.2.2.2.1 a.2.2.2.2.1 a.2.2.2.2.2.1) (k0 b.2.1 b.2.2.1 b.2.2.2 c e g l m o)
def c3S(N:Nat)(a7:V8)(k0:ρ6):Nat->τ22->Int->Int->Int->d3->Int->Int->τ24->(List GPart)->Option (τg)|0,_,_,_,_,_,_,_,_,_=>none|n+1,a,b,c,e,g,l,m,o,p=>b1r N a7 k0 (c3S N a7 k0 n) a b c e g l m o p
def V6(a7:V8)(e:d3)(L:Bool)(H:List τ1)(J K g:Int)(l:d3)(m o:Int):Option (τg):=br (L) (k8 (n3 N 4 e H J K) fun c=>br (c.1) (some (c.2.1,c.2.2.1,c.2.2.2,g,l,m,[],o,[])) (k8 (P8 N a7 g l m o c.2.1 c.2.2.1 c.2.2.2) fun a=>c3S N a7 (fun p q r t u v w B C=>k8 (l8 N e p q r) fun D=>some (D.1,D.2.1,D.2.2,t,u,v,B,w,C)) N a.2.2.2.2.1 a.2.2.2.2.2.1 a.2.2.2.2.2.2.1 a.1 a.2.1 a.2.2.1 a.2.2.2.1 a.2.2.2.2.2.2.2.1 a.2.2.2.2.2.2.2.2)) (k8 (P8 N a7 g l m o H J K) fun b=>c3S N a7 (fun p q r t u v w B C=>k8 (l8 N e p q r) fun E=>some (E.1,E.2.1,E.2.2,t,u,v,B,w,C)) N b.2.2.2.2.1 b.2.2.2.2.2.1 b.2.2.2.2.2.2.1 b.1 b.2.1 b.2.2.1 b.2.2.2.1 b.2.2.2.2.2.2.2.1 b.2.2.2.2.2.2.2.2)
abbrev f4k:=E3 [.box 0 0,V1,V3,.fnc 289 [1,2,3]] [.cells [V2,V0,V0],.cells [V0,V1,V0,.nilS,.nilS,V0,.nilS],.cells [.box 0 0],.cells [.fnc 288 [1,2]]] [] [.cells [V2,V0,V0],.cells [V0,V1,V0,V4,.nilS,V0,.v (.sl (.rc .part))],.cells [.box 0 0],.cells [.fnc 288 [1,2]]] (τg) fun z=>((),(z.1,z.2.1,z.2.2.1,()),(z.2.2.2.1,z.2.2.2.2.1,z.2.2.2.2.2.1,z.2.2.2.2.2.2.1,(),z.2.2.2.2.2.2.2.1,z.2.2.2.2.2.2.2.2,()),((),()),((),()),())
abbrev e2Y(a7:V8):AF:=f4k fun x y=>V6 N a7 x.2.1 x.2.2.1 y.1.1 y.1.2.1 y.1.2.2.1 y.2.1.1 y.2.1.2.1 y.2.1.2.2.1 y.2.1.2.2.2.2.2.1
abbrev e5e:SV []->BV [.cells [V2,V0,V0],.cells [V0,V1,V0,V4,.nilS,V0,.v (.sl (.rc .part))],.cells [.box 0 0],.cells [.fnc 288 [1,2]]]->(τg):=fun _ y=>let z:=y.2.1.2.2;(y.1.1,y.1.2.1,y.1.2.2.1,y.2.1.1,y.2.1.2.1,z.1,z.2.1,z.2.2.2.1,z.2.2.2.2.1)
def c8y(a7:V8):FuncId->Option Tmp->Option AF:=fun f q=>
 match f with
  |138=>some (b5C N)
  |140=>some (b57 N)
  |289=>match q with|some 15=>some (e9o N a7)|some 19=>some (e81 N a7)|_=>none
  |_=>none
theorem d9n(a7:V8)(j8:Sound Tryz.prog GW x6 202 (W9 fun x y=>a7 y.1.1 y.1.2.1 y.1.2.2.1)):∀f q F,c8y N a7 f q=some F->Sound Tryz.prog GW x6 f F:=by
 intro f q F h;unfold c8y at h;split at h
 ·cases h;exact a04 N
 ·cases h;exact a03 N
 ·split at h
  ·cases h;exact d9j N a7 j8
  ·cases h;exact d8h N a7 j8
  ·cases h
 ·cases h
def f4j:Nat->Hint:=fun i=>
 match i with
 |0=>⟨[],[0,1,3],[0,1,2,3,101500,101501],[0,1],[0,1,2,3,101500,101501],[]⟩
 |_=>o5
abbrev e2X(a7:V8):Env:=M5 f4j (c8y N a7) (fun _=>false) (fun _=>false)
abbrev f7y(a7:V8):=B4 (e2X N a7) Tryz.f141 (e2Y N a7) e5e
abbrev c3T:List (Nat×Sl):=[(0,.box 0 0),(1,V1),(3,.fnc 289 [1,2,3])]
abbrev b5w:List (Nat×Sb):=[(0,.cells [V2,V0,V0]),(1,.cells [V0,V1,V0,.row 101500,.nilS,V0,.row 101501]),(2,.cells [.box 0 0]),(3,.cells [.fnc 288 [1,2]]),(101500,.row 9 .str false),(101501,.row 273 (.rc .part) true)]
def b8o(x:FV c3T)(y:HV b5w):St:=⟨23,[(0,.box 0 0),(1,.v .str x.2.1)],unH b5w y⟩
def c8x(a7:V8):T9 ((τg)) c3T b5w:=fun K n x y=>c3S N a7 (fun a b c e g l m o p=>K 0 (b8o x ((a,b,c,y.1.2.2.2),(e,g,l,y.2.1.2.2.2.1,y.2.1.2.2.2.2.1,m,y.2.1.2.2.2.2.2.2),y.2.2.1,y.2.2.2.1,o,p,y.2.2.2.2.2.2))) n y.1.1 y.1.2.1 y.1.2.2.1 y.2.1.1 y.2.1.2.1 y.2.1.2.2.1 y.2.1.2.2.2.2.2.1 y.2.2.2.2.1 y.2.2.2.2.2.1
def e5d(a7:V8):Nat->Code->St->(Ex->St->Option (τg))->Option (τg):=fun i c=>
 match i with
 |0=>U4 (e2X N a7) N 23 (c8x N a7) 0 c
 |i=>LpD (e2X N a7) N i c
theorem e9r(a7:V8):B2 (e5d N a7) (e2X N a7) N (f7y N a7) 0 b9J:=
 o0 (c8x N a7) (fun K f x y=>b1r N a7 (fun a b c e g l m o p=>K 0 (b8o x ((a,b,c,y.1.2.2.2),(e,g,l,y.2.1.2.2.2.1,y.2.1.2.2.2.2.1,m,y.2.1.2.2.2.2.2.2),y.2.2.1,y.2.2.2.1,o,p,y.2.2.2.2.2.2))) (fun q r t u v w B C D=>f x ((q,r,t,y.1.2.2.2),(u,v,w,y.2.1.2.2.2.1,y.2.1.2.2.2.2.1,B,y.2.1.2.2.2.2.2.2),y.2.2.1,y.2.2.2.1,C,D,y.2.2.2.2.2.2)) y.1.1 y.1.2.1 y.1.2.2.1 y.2.1.1 y.2.1.2.1 y.2.1.2.2.1 y.2.1.2.2.2.2.2.1 y.2.2.2.2.1 y.2.2.2.2.2.1)
theorem d9o(a7:V8)(j8:Sound Tryz.prog GW x6 202 (W9 fun x y=>a7 y.1.1 y.1.2.1 y.1.2.2.1)):Sound Tryz.prog GW x6 141 (e2Y N a7):=
 a0l (t6 f4j (c8y N a7) _ _ (d9n N a7 j8)) Tryz.func141 Tryz.call141 (e2Y N a7) e5e N (e5d N a7) (P5 (e9r N a7) U6)
def x8(a7:V8)(C:List τ1)(D E:Int):Option (GPart×List τ1×Int×Int):=k8 (W6 N C D E) fun a=>br ((a.2.1.length:Int)==0) none (k8 (n8 a.2.1 0) fun r=>br (r.1==2) (k8 (B1 N a.2.1 a.2.2.1 a.2.2.2) fun w=>some (GPart.mk 1 w.1 0 [] a.1 [],w.2)) (br (r.1==3) (k8 (slc a.2.1 1 (a.2.1.length:Int)) fun H=>some (GPart.mk 2 [] r.2.2.1 [] a.1 [],H,a.2.2)) (k8 (n3 N 4 [40] a.2.1 a.2.2.1 a.2.2.2) fun m=>br (m.1) (k8 (H0 N a7 0 [] 0 a.1 m.2.1 m.2.2.1 m.2.2.2) fun c=>k8 (l8 N [41] c.2.2.2.2.1 c.2.2.2.2.2.1 c.2.2.2.2.2.2.1) fun J=>some (GPart.mk c.1 c.2.1 c.2.2.1 [] c.2.2.2.1 c.2.2.2.2.2.2.2,J)) (k8 (n3 N 4 [91] m.2.1 m.2.2.1 m.2.2.2) fun o=>br (o.1) (k8 (L0 N a7 [93] true o.2.1 o.2.2.1 o.2.2.2 4 [] 0 a.1) fun e=>some (GPart.mk e.2.2.2.1 e.2.2.2.2.1 e.2.2.2.2.2.1 [] e.2.2.2.2.2.2.1 e.2.2.2.2.2.2.2,e.1,e.2.1,e.2.2.1)) (k8 (n3 N 1 [102,105,108,101,115] o.2.1 o.2.2.1 o.2.2.2) fun p=>br (p.1) (k8 (l8 N [40] p.2.1 p.2.2.1 p.2.2.2) fun t=>k8 (H0 N a7 5 [] 0 a.1 t.1 t.2.1 t.2.2) fun g=>k8 (l8 N [44] g.2.2.2.2.1 g.2.2.2.2.2.1 g.2.2.2.2.2.2.1) fun u=>k8 (L5 N a7 g.1 g.2.1 g.2.2.1 g.2.2.2.1 g.2.2.2.2.2.2.2 u.1 u.2.1 u.2.2) fun l=>k8 (l8 N [41] l.2.2.2.2.2.1 l.2.2.2.2.2.2.1 l.2.2.2.2.2.2.2) fun K=>some (GPart.mk l.1 l.2.1 l.2.2.1 [] l.2.2.2.1 l.2.2.2.2.1,K)) (k8 (n3 N 1 [99,104,111,111,115,101] p.2.1 p.2.2.1 p.2.2.2) fun q=>br (q.1) (k8 (l8 N [123] q.2.1 q.2.2.1 q.2.2.2) fun v=>k8 (V6 N a7 [125] false v.1 v.2.1 v.2.2 6 [] 0 a.1) fun b=>some (GPart.mk b.2.2.2.1 b.2.2.2.2.1 b.2.2.2.2.2.1 b.2.2.2.2.2.2.1 b.2.2.2.2.2.2.2.1 b.2.2.2.2.2.2.2.2,b.1,b.2.1,b.2.2.1)) (k8 (E0 N q.2.1 q.2.2.1 q.2.2.2) fun B=>some (GPart.mk 3 B.1 0 [] a.1 [],B.2))))))))
abbrev e6A:=E3 [.box 0 0] [.cells [V2,V0,V0]] [.v (.rc .part)] [.cells [V2,V0,V0]] (GPart×List τ1×Int×Int) fun z=>((z.1,()),(z.2.1,z.2.2.1,z.2.2.2,()),())
abbrev d4U(a7:V8):AF:=e6A fun _ y=>x8 N a7 y.1.1 y.1.2.1 y.1.2.2.1
def b9I(a7:V8):FuncId->Option Tmp->Option AF:=fun f q=>
 match f with
  |136=>some (c69 N)
  |138=>some (b5C N)
  |139=>some (e3h N)
  |140=>some (b57 N)
  |141=>match q with|some 72=>some (e2W N a7)|some 97=>some (e2Y N a7)|_=>none
  |146=>some (d2H N)
  |288=>match q with|some 62=>some (d9g N a7)|some 81=>some (d9g N a7)|some 85=>some (e2r N a7)|_=>none
  |_=>none
theorem c9V(a7:V8)(j8:Sound Tryz.prog GW x6 202 (W9 fun x y=>a7 y.1.1 y.1.2.1 y.1.2.2.1)):∀f q F,b9I N a7 f q=some F->Sound Tryz.prog GW x6 f F:=by
 intro f q F h;unfold b9I at h;split at h
 ·cases h;exact b63 N
 ·cases h;exact a04 N
 ·cases h;exact a95 N
 ·cases h;exact a03 N
 ·split at h
  ·cases h;exact d9m N a7 j8
  ·cases h;exact d9o N a7 j8
  ·cases h
 ·cases h;exact a96 N
 ·split at h
  ·cases h;exact b5u N a7 j8
  ·cases h;exact b5u N a7 j8
  ·cases h;exact c3A N a7 j8
  ·cases h
 ·cases h
def e3K:Nat->Hint:=fun i=>
 match i with
 |100010=>⟨[1004],[],[],[],[],[]⟩
 |100011=>⟨[0,1001],[],[],[],[],[]⟩
 |_=>o5
abbrev f1a(a7:V8):Env:=M5 e3K (b9I N a7) (fun _=>false) (fun i=>match i with|288=>true|289=>true|_=>false)
theorem c9W(a7:V8)(j8:Sound Tryz.prog GW x6 202 (W9 fun x y=>a7 y.1.1 y.1.2.1 y.1.2.2.1)):Sound Tryz.prog GW x6 261 (d4U N a7):=
 T5 (f1a N a7) (t6 e3K (b9I N a7) _ _ (c9V N a7 j8)) Tryz.func261 Tryz.call261 (d4U N a7) (fun x y=>(x.1,y.1.1,y.1.2.1,y.1.2.2.1)) N
def b2l(a7:V8)(o:Int)(k0 self:ρ9)(p:List τ1)(q r c:Int)(e:d3)(g:Int)(l:List d3)(t:Unit)(m:List GPart):Option (GPart×List τ1×Int×Int):=k8 (n3 N 4 [43] p q r) fun b=>br (b.1) (k8 (x8 N a7 b.2.1 b.2.2.1 b.2.2.2) fun a=>self a.2.1 a.2.2.1 a.2.2.2 7 [] 0 [] () [GPart.mk c e g l o m,GPart.mk a.1.kind a.1.text a.1.number a.1.keys a.1.at_ a.1.kids]) (k0 b.2.1 b.2.2.1 b.2.2.2 c e g l t m)
def b4c(N:Nat)(a7:V8)(a:Int)(k0:ρ9):Nat->τ22->Int->Int->Int->d3->Int->τ24->Unit->(List GPart)->Option (GPart×List τ1×Int×Int)|0,_,_,_,_,_,_,_,_,_=>none|n+1,b,c,e,g,l,m,o,p,q=>b2l N a7 a k0 (b4c N a7 a k0 n) b c e g l m o p q
def a0i(a7:V8)(b:List τ1)(c e:Int):Option (GPart×List τ1×Int×Int):=k8 (x8 N a7 b c e) fun a=>b4c N a7 a.1.at_ (fun g l m o p q r _ t=>some (GPart.mk o p q r a.1.at_ t,g,l,m)) N a.2.1 a.2.2.1 a.2.2.2 a.1.kind a.1.text a.1.number a.1.keys () a.1.kids
abbrev e6D:=E3 [.box 0 0] [.cells [V2,V0,V0]] [.v (.rc .part)] [.cells [V2,V0,V0]] (GPart×List τ1×Int×Int) fun z=>((z.1,()),(z.2.1,z.2.2.1,z.2.2.2,()),())
abbrev c65(a7:V8):AF:=e6D fun _ y=>a0i N a7 y.1.1 y.1.2.1 y.1.2.2.1
abbrev d40:SV [.v (.rc .part)]->BV [.cells [V2,V0,V0]]->(GPart×List τ1×Int×Int):=fun x y=>(x.1,y.1.1,y.1.2.1,y.1.2.2.1)
def c5n(a7:V8):FuncId->Option Tmp->Option AF:=fun f _=>P0 [(138,b5C N),(261,d4U N a7)] f
theorem c90(a7:V8)(j8:Sound Tryz.prog GW x6 202 (W9 fun x y=>a7 y.1.1 y.1.2.1 y.1.2.2.1)):∀f q F,c5n N a7 f q=some F->Sound Tryz.prog GW x6 f F:=fun _ _ _ h=>r9 h (u4 (a04 N) (u4 (c9W N a7 j8) F1))
def e3L:Nat->Hint:=fun i=>
 match i with
 |0=>⟨[16],[0,2,3],[0,1002,1003],[2,3],[0,1002,1003],[]⟩
 |_=>o5
abbrev c64(a7:V8):Env:=M5 e3L (c5n N a7) (fun _=>false) (fun _=>false)
abbrev f1d(a7:V8):=B4 (c64 N a7) Tryz.f235 (c65 N a7) d40
noncomputable abbrev e6C:Code:=P9 (m8 Tryz.f235) [true,true,false,false,false]
abbrev c9Z:List (Nat×Sl):=[(0,.box 0 0),(2,.box 1002 0),(3,.box 1003 0)]
abbrev b0I:List (Nat×Sb):=[(0,.cells [V2,V0,V0]),(1002,.cells [V0,V1,V0,.nilS,.nilS,V0,.nilS]),(1003,.cells [V0,V1,V0,V4,.v .nl,V0,.v (.sl (.rc .part))])]
def b4d(y:HV b0I):St:=⟨19,[(2,.box 1002 0),(3,.box 1003 0)],unH b0I y⟩
def c2i(a7:V8):T9 ((GPart×List τ1×Int×Int)) c9Z b0I:=fun K n x y=>b4c N a7 y.2.2.1.2.2.2.2.2.1 (fun a b c e g l m o p=>K 0 (b4d ((a,b,c,y.1.2.2.2),y.2.1,(e,g,l,m,o,y.2.2.1.2.2.2.2.2.1,p,y.2.2.1.2.2.2.2.2.2.2),y.2.2.2))) n y.1.1 y.1.2.1 y.1.2.2.1 y.2.2.1.1 y.2.2.1.2.1 y.2.2.1.2.2.1 y.2.2.1.2.2.2.1 y.2.2.1.2.2.2.2.1 y.2.2.1.2.2.2.2.2.2.1
def d4Z(a7:V8):Nat->Code->St->(Ex->St->Option (GPart×List τ1×Int×Int))->Option (GPart×List τ1×Int×Int):=fun i c=>
 match i with
 |0=>U4 (c64 N a7) N 19 (c2i N a7) 0 c
 |i=>LpD (c64 N a7) N i c
theorem e1p(a7:V8):B2 (d4Z N a7) (c64 N a7) N (f1d N a7) 0 e6C:=
 o0 (c2i N a7) (fun K f x y=>b2l N a7 y.2.2.1.2.2.2.2.2.1 (fun a b c e g l m o p=>K 0 (b4d ((a,b,c,y.1.2.2.2),y.2.1,(e,g,l,m,o,y.2.2.1.2.2.2.2.2.1,p,y.2.2.1.2.2.2.2.2.2.2),y.2.2.2))) (fun q r t u v w B C D=>f x ((q,r,t,y.1.2.2.2),y.2.1,(u,v,w,B,C,y.2.2.1.2.2.2.2.2.1,D,y.2.2.1.2.2.2.2.2.2.2),y.2.2.2)) y.1.1 y.1.2.1 y.1.2.2.1 y.2.2.1.1 y.2.2.1.2.1 y.2.2.1.2.2.1 y.2.2.1.2.2.2.1 y.2.2.1.2.2.2.2.1 y.2.2.1.2.2.2.2.2.2.1)
theorem c91(a7:V8)(j8:Sound Tryz.prog GW x6 202 (W9 fun x y=>a7 y.1.1 y.1.2.1 y.1.2.2.1)):Sound Tryz.prog GW x6 235 (c65 N a7):=
 a0l (t6 e3L (c5n N a7) _ _ (c90 N a7 j8)) Tryz.func235 Tryz.call235 (c65 N a7) d40 N (d4Z N a7) (P5 (e1p N a7) U6)
def D4(a7:V8)(e:List τ1)(g l:Int):Option (GPart×List τ1×Int×Int):=k8 (a0i N a7 e g l) fun a=>k8 (n3 N 4 [61,61] a.2.1 a.2.2.1 a.2.2.2) fun c=>br (!c.1) (some (GPart.mk a.1.kind a.1.text a.1.number a.1.keys a.1.at_ a.1.kids,c.2)) (k8 (a0i N a7 c.2.1 c.2.2.1 c.2.2.2) fun b=>some (GPart.mk 8 [] 0 [] a.1.at_ [GPart.mk a.1.kind a.1.text a.1.number a.1.keys a.1.at_ a.1.kids,GPart.mk b.1.kind b.1.text b.1.number b.1.keys b.1.at_ b.1.kids],b.2))
abbrev f3r:=E3 [.box 0 0] [.cells [V2,V0,V0]] [.v (.rc .part)] [.cells [V2,V0,V0]] (GPart×List τ1×Int×Int) fun z=>((z.1,()),(z.2.1,z.2.2.1,z.2.2.2,()),())
abbrev f3p(a7:V8):AF:=f3r fun _ y=>D4 N a7 y.1.1 y.1.2.1 y.1.2.2.1
def d8w(a7:V8):FuncId->Option Tmp->Option AF:=fun f _=>P0 [(138,b5C N),(235,c65 N a7)] f
theorem d8x(a7:V8)(j8:Sound Tryz.prog GW x6 202 (W9 fun x y=>a7 y.1.1 y.1.2.1 y.1.2.2.1)):∀f q F,d8w N a7 f q=some F->Sound Tryz.prog GW x6 f F:=fun _ _ _ h=>r9 h (u4 (a04 N) (u4 (c91 N a7 j8) F1))
def f3q:Nat->Hint:=fun i=>
 match i with
 |_=>o5
abbrev f7c(a7:V8):Env:=M5 f3q (d8w N a7) (fun _=>false) (fun _=>false)
theorem d8y(a7:V8)(j8:Sound Tryz.prog GW x6 202 (W9 fun x y=>a7 y.1.1 y.1.2.1 y.1.2.2.1)):Sound Tryz.prog GW x6 202 (f3p N a7):=
 T5 (f7c N a7) (t6 f3q (d8w N a7) _ _ (d8x N a7 j8)) Tryz.func202 Tryz.call202 (f3p N a7) (fun x y=>(x.1,y.1.1,y.1.2.1,y.1.2.2.1)) N
def u0(N:Nat):Nat->τ22->Int->Int->Option (GPart×List τ1×Int×Int)|0=>fun _ _ _=>none|d+1=>D4 N (u0 N d)
theorem c32(N:Nat):∀d,Sound Tryz.prog GW x6 202 (W9 fun x y=>u0 N d y.1.1 y.1.2.1 y.1.2.2.1)
 |0=>Sound.never Tryz.call202 (fun _ _=>rfl)
 |d+1=>d8y N (u0 N d) (c32 N d)
abbrev c8G:=E3 [.box 0 0,.v (.rc .part),V0] [.cells [V2,V0,V0]] [.v O1] [.cells [V2,V0,V0]] (GExpr×List τ1×Int×Int) fun z=>((z.1,()),(z.2.1,z.2.2.1,z.2.2.2,()),())
end
end
end Go.Proofs.YtckdohagilcloaaGreatDoor
