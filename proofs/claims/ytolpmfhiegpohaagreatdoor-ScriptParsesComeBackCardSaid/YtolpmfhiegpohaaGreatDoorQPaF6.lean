/- % -/
import Derived.Test.YtolpmfhiegpohaaGreatDoorQPaF5
namespace Go.Proofs.YtolpmfhiegpohaaGreatDoor
open Go Go.RowKit
set_option maxRecDepth 100000
set_option linter.unusedVariables false
noncomputable section
variable(N:Nat)
def D3(_N:Nat)(a7:K8)(c:Int)(e:d7)(g l:Int)(m:List d7)(a:List GPart)(o:List τ0)(p q:Int):Option (Except Int (τj)):=n8 (n8 (n8 (l8 (a7 o p q) fun b=>k7 1 (br (Zf (a.length + [Zo].length) (.rc .part)) (br (decide (0<=(a.length:Int)/\(a.length:Int)<((a ++ [Zo]).length:Int))) (k7 1 (j8 (m6 (a ++ [Zo]) (a.length:Int)) fun _=>some (.ok (c,e,g,l,m,G0 (a ++ [Zo]) (a.length:Int) b.1,b.2)))) none) none)) (k7 1 (k7 1 (l8 (a7 o p q) fun b=>br (Zf (a.length + [Zo].length) (.rc .part)) (br (decide (0<=(a.length:Int)/\(a.length:Int)<((a ++ [Zo]).length:Int))) (k7 1 (j8 (m6 (a ++ [Zo]) (a.length:Int)) fun _=>some (.ok (c,e,g,l,m,G0 (a ++ [Zo]) (a.length:Int) b.1,b.2)))) none) none)))) (k7 1 (n8 (k7 1 (l8 (a7 o p q) fun b=>br (Zf (a.length + [Zo].length) (.rc .part)) (br (decide (0<=(a.length:Int)/\(a.length:Int)<((a ++ [Zo]).length:Int))) (k7 1 (j8 (m6 (a ++ [Zo]) (a.length:Int)) fun _=>some (.ok (c,e,g,l,m,G0 (a ++ [Zo]) (a.length:Int) b.1,b.2)))) none) none)) (l8 (a7 o p q) fun b=>br (Zf (a.length + [Zo].length) (.rc .part)) (br (decide (0<=(a.length:Int)/\(a.length:Int)<((a ++ [Zo]).length:Int))) (k7 1 (j8 (m6 (a ++ [Zo]) (a.length:Int)) fun _=>some (.ok (c,e,g,l,m,G0 (a ++ [Zo]) (a.length:Int) b.1,b.2)))) none) none)))) (n8 (n8 (n8 (l8 (a7 o p q) fun b=>k7 1 (br (Zf (a.length + [Zo].length) (.rc .part)) (br (decide (0<=(a.length:Int)/\(a.length:Int)<((a ++ [Zo]).length:Int))) (k7 1 (j8 (m6 (a ++ [Zo]) (a.length:Int)) fun _=>some (.ok (c,e,g,l,m,G0 (a ++ [Zo]) (a.length:Int) b.1,b.2)))) none) none)) (k7 1 (k7 1 (l8 (a7 o p q) fun b=>br (Zf (a.length + [Zo].length) (.rc .part)) (br (decide (0<=(a.length:Int)/\(a.length:Int)<((a ++ [Zo]).length:Int))) (k7 1 (j8 (m6 (a ++ [Zo]) (a.length:Int)) fun _=>some (.ok (c,e,g,l,m,G0 (a ++ [Zo]) (a.length:Int) b.1,b.2)))) none) none)))) (n8 (l8 (a7 o p q) fun b=>n8 (k7 1 (br (Zf (a.length + [Zo].length) (.rc .part)) (br (decide (0<=(a.length:Int)/\(a.length:Int)<((a ++ [Zo]).length:Int))) (k7 1 (j8 (m6 (a ++ [Zo]) (a.length:Int)) fun _=>some (.ok (c,e,g,l,m,G0 (a ++ [Zo]) (a.length:Int) b.1,b.2)))) none) none)) (br (Zf (a.length + [Zo].length) (.rc .part)) (br (decide (0<=(a.length:Int)/\(a.length:Int)<((a ++ [Zo]).length:Int))) (k7 1 (j8 (m6 (a ++ [Zo]) (a.length:Int)) fun _=>some (.ok (c,e,g,l,m,G0 (a ++ [Zo]) (a.length:Int) b.1,b.2)))) none) none)) (n8 (k7 1 (l8 (a7 o p q) fun b=>br (Zf (a.length + [Zo].length) (.rc .part)) (br (decide (0<=(a.length:Int)/\(a.length:Int)<((a ++ [Zo]).length:Int))) (k7 1 (j8 (m6 (a ++ [Zo]) (a.length:Int)) fun _=>some (.ok (c,e,g,l,m,G0 (a ++ [Zo]) (a.length:Int) b.1,b.2)))) none) none)) (l8 (a7 o p q) fun b=>br (Zf (a.length + [Zo].length) (.rc .part)) (br (decide (0<=(a.length:Int)/\(a.length:Int)<((a ++ [Zo]).length:Int))) (k7 1 (j8 (m6 (a ++ [Zo]) (a.length:Int)) fun _=>some (.ok (c,e,g,l,m,G0 (a ++ [Zo]) (a.length:Int) b.1,b.2)))) none) none)))) (k7 1 (n8 (k7 1 (l8 (a7 o p q) fun b=>br (Zf (a.length + [Zo].length) (.rc .part)) (br (decide (0<=(a.length:Int)/\(a.length:Int)<((a ++ [Zo]).length:Int))) (k7 1 (j8 (m6 (a ++ [Zo]) (a.length:Int)) fun _=>some (.ok (c,e,g,l,m,G0 (a ++ [Zo]) (a.length:Int) b.1,b.2)))) none) none)) (l8 (a7 o p q) fun b=>br (Zf (a.length + [Zo].length) (.rc .part)) (br (decide (0<=(a.length:Int)/\(a.length:Int)<((a ++ [Zo]).length:Int))) (k7 1 (j8 (m6 (a ++ [Zo]) (a.length:Int)) fun _=>some (.ok (c,e,g,l,m,G0 (a ++ [Zo]) (a.length:Int) b.1,b.2)))) none) none))))
abbrev d7Y(f:SV [.box 0 0,.box 1 0]->BV [.cells [V0,V1,V0,.row 2,.nilS,V0,.row 3],.cells [.box 4 0],.row 9 .str false,.row 201 (.rc .part) true,.cells [V2,V0,V0]]->Option (Except Int (τj))):PF:={ps:=[.box 0 0,.box 1 0],bs:=[.cells [V0,V1,V0,.row 2,.nilS,V0,.row 3],.cells [.box 4 0],.row 9 .str false,.row 201 (.rc .part) true,.cells [V2,V0,V0]],rs:=[],cs:=[.cells [V0,V1,V0,.row 2,.nilS,V0,.row 3],.cells [.box 4 0],.row 9 .str false,.row 201 (.rc .part) true,.cells [V2,V0,V0]],R:=τj,out:=fun z=>((),(z.1,z.2.1,z.2.2.1,(),(),z.2.2.2.1,(),()),((),()),z.2.2.2.2.1,z.2.2.2.2.2.1,(z.2.2.2.2.2.2.1,z.2.2.2.2.2.2.2.1,z.2.2.2.2.2.2.2.2,()),()),f:=f}
abbrev d5Z(a7:K8):PF:=d7Y fun _ y=>let z:=y.2.2.2.2.1;D3 N a7 y.1.1 y.1.2.1 y.1.2.2.1 y.1.2.2.2.2.2.1 y.2.2.1 y.2.2.2.1 z.1 z.2.1 z.2.2.1
def c8g(_N:Nat)(a7:K8):FuncId->Option Tmp->Option AF:=fun f _=>lkF [] f
theorem c8h(a7:K8)(g8:SoundP Tryz.prog GW x9 B2 138 (K2 fun x y=>a7 y.1.1 y.1.2.1 y.1.2.2.1)):∀f q F,c8g N a7 f q=some F->Sound Tryz.prog GW x9 f F:=fun _ _ _ h=>B9 h T8
def c3c(_N:Nat)(a7:K8):FuncId->Option Tmp->Option PF:=fun f _=>
 match f with
  |138=>some (K2 fun _ y=>a7 y.1.1 y.1.2.1 y.1.2.2.1)
  |_=>none
theorem c8i(a7:K8)(g8:SoundP Tryz.prog GW x9 B2 138 (K2 fun x y=>a7 y.1.1 y.1.2.1 y.1.2.2.1)):∀f q F,c3c N a7 f q=some F->SoundP Tryz.prog GW x9 B2 f F:=by
 intro f q F h;unfold c3c at h;split at h
 ·cases h;exact g8
 ·cases h
def d7X:Nat->Hint:=fun i=>
 match i with
 |100000=>⟨[],[1,2],[],[],[],[]⟩
 |_=>y5
abbrev e0r(a7:K8):Env:=a08 d7X (c8g N a7) (c3c N a7) (fun i=>match i with|6=>true|7=>true|8=>true|_=>false) (fun _=>false)
theorem c8j(a7:K8)(g8:SoundP Tryz.prog GW x9 B2 138 (K2 fun x y=>a7 y.1.1 y.1.2.1 y.1.2.2.1)):SoundP Tryz.prog GW x9 B2 258 (d5Z N a7):=
 a0V (e0r N a7) (H9 d7X (c8g N a7) (c3c N a7) _ _ (c8h N a7 g8) (c8i N a7 g8)) Tryz.func258 rfl Tryz.call258 (d5Z N a7) (fun _ y=>let z:=y.2.2.2.2.1;(y.1.1,y.1.2.1,y.1.2.2.1,y.1.2.2.2.2.2.1,y.2.2.1,y.2.2.2.1,z.1,z.2.1,z.2.2.1)) (fun _ _=>rfl) N (fun _ _=>by kernel_rfl) rfl
def L2(a7:K8)(g:Int)(l:d7)(m o:Int)(c:List d7)(p:List GPart)(q:List τ0)(r t:Int):Option (Except Int (τj)):=n8 (l8 (q9 N q r t) fun a=>br (Zf (c.length + [a.1].length) .str) (l8 (j7 N [58] a.2.1 a.2.2.1 a.2.2.2) fun b=>l8 (D3 N a7 g l m o (c ++ [a.1]) p b.1 b.2.1 b.2.2) fun e=>some (.ok e)) none) (n8 (l8 (q9 N q r t) fun a=>br (Zf (c.length + [a.1].length) .str) (l8 (j7 N [58] a.2.1 a.2.2.1 a.2.2.2) fun b=>l8 (D3 N a7 g l m o (c ++ [a.1]) p b.1 b.2.1 b.2.2) fun e=>some (.ok e)) none) (l8 (q9 N q r t) fun a=>k7 1 (br (Zf (c.length + [a.1].length) .str) (l8 (j7 N [58] a.2.1 a.2.2.1 a.2.2.2) fun b=>l8 (D3 N a7 g l m o (c ++ [a.1]) p b.1 b.2.1 b.2.2) fun e=>some (.ok e)) none)))
abbrev d70(f:SV [.box 0 0,.box 1 0,.box 2 0]->BV [.cells [V0,V1,V0,.row 3,.nilS,V0,.row 4],.cells [.box 5 0],.cells [.fnc 258 [0,1]],.row 9 .str false,.row 201 (.rc .part) true,.cells [V2,V0,V0]]->Option (Except Int (τj))):PF:={ps:=[.box 0 0,.box 1 0,.box 2 0],bs:=[.cells [V0,V1,V0,.row 3,.nilS,V0,.row 4],.cells [.box 5 0],.cells [.fnc 258 [0,1]],.row 9 .str false,.row 201 (.rc .part) true,.cells [V2,V0,V0]],rs:=[],cs:=[.cells [V0,V1,V0,.row 3,.nilS,V0,.row 4],.cells [.box 5 0],.cells [.fnc 258 [0,1]],.row 9 .str false,.row 201 (.rc .part) true,.cells [V2,V0,V0]],R:=τj,out:=fun z=>((),(z.1,z.2.1,z.2.2.1,(),(),z.2.2.2.1,(),()),((),()),((),()),z.2.2.2.2.1,z.2.2.2.2.2.1,(z.2.2.2.2.2.2.1,z.2.2.2.2.2.2.2.1,z.2.2.2.2.2.2.2.2,()),()),f:=f}
abbrev d50(a7:K8):PF:=d70 fun _ y=>let z:=y.2.2.2.2.2.1;L2 N a7 y.1.1 y.1.2.1 y.1.2.2.1 y.1.2.2.2.2.2.1 y.2.2.2.1 y.2.2.2.2.1 z.1 z.2.1 z.2.2.1
def c8k(_N:Nat)(a7:K8):FuncId->Option Tmp->Option AF:=fun f _=>lkF [] f
theorem c8l(a7:K8)(g8:SoundP Tryz.prog GW x9 B2 138 (K2 fun x y=>a7 y.1.1 y.1.2.1 y.1.2.2.1)):∀f q F,c8k N a7 f q=some F->Sound Tryz.prog GW x9 f F:=fun _ _ _ h=>B9 h T8
def c3d(a7:K8):FuncId->Option Tmp->Option PF:=fun f _=>
 match f with
  |76=>some (a8G N)
  |82=>some (c5c N)
  |258=>some (d5Z N a7)
  |_=>none
theorem c8m(a7:K8)(g8:SoundP Tryz.prog GW x9 B2 138 (K2 fun x y=>a7 y.1.1 y.1.2.1 y.1.2.2.1)):∀f q F,c3d N a7 f q=some F->SoundP Tryz.prog GW x9 B2 f F:=by
 intro f q F h;unfold c3d at h;split at h
 ·cases h;exact V8 N
 ·cases h;exact a8I N
 ·cases h;exact c8j N a7 g8
 ·cases h
def d7Z:Nat->Hint:=fun i=>
 match i with
 |100000=>⟨[],[1,2],[],[],[],[]⟩
 |_=>y5
abbrev e0s(a7:K8):Env:=a08 d7Z (c8k N a7) (c3d N a7) (fun _=>false) (fun _=>false)
theorem c8n(a7:K8)(g8:SoundP Tryz.prog GW x9 B2 138 (K2 fun x y=>a7 y.1.1 y.1.2.1 y.1.2.2.1)):SoundP Tryz.prog GW x9 B2 259 (d50 N a7):=
 a0V (e0s N a7) (H9 d7Z (c8k N a7) (c3d N a7) _ _ (c8l N a7 g8) (c8m N a7 g8)) Tryz.func259 rfl Tryz.call259 (d50 N a7) (fun _ y=>let z:=y.2.2.2.2.2.1;(y.1.1,y.1.2.1,y.1.2.2.1,y.1.2.2.2.2.2.1,y.2.2.2.1,y.2.2.2.2.1,z.1,z.2.1,z.2.2.1)) (fun _ _=>rfl) N (fun _ _=>by kernel_rfl) rfl
def b3c(a7:K8)(k0 self:ρ1)(p:List τ0)(q r c:Int)(e:d7)(g l:Int)(m:List d7)(o:List GPart):Option (Except Int (τd)):=j8 (l4 N 4 [44] p q r) fun b=>br (b.1) (l8 (L2 N a7 c e g l m o b.2.1 b.2.2.1 b.2.2.2) fun a=>self a.2.2.2.2.2.2.1 a.2.2.2.2.2.2.2.1 a.2.2.2.2.2.2.2.2 a.1 a.2.1 a.2.2.1 a.2.2.2.1 a.2.2.2.2.1 a.2.2.2.2.2.1) (k0 b.2.1 b.2.2.1 b.2.2.2 c e g l m o)
def b3b(N:Nat)(a7:K8)(k0:ρ1):Nat->τ6->Int->Int->Int->d7->Int->Int->τ20->(List GPart)->Option (Except Int (τd))|0,_,_,_,_,_,_,_,_,_=>none|n+1,a,b,c,e,g,l,m,o,p=>b3c N a7 k0 (b3b N a7 k0 n) a b c e g l m o p
def K5(a7:K8)(e:d7)(L:Bool)(H:List τ0)(J K g:Int)(l:d7)(m o:Int):Option (Except Int (τd)):=br (L) (j8 (l4 N 4 e H J K) fun c=>br (c.1) (some (.ok (c.2.1,c.2.2.1,c.2.2.2,g,l,m,[],o,[]))) (l8 (K4 N a7 g l m o c.2.1 c.2.2.1 c.2.2.2) fun a=>b3b N a7 (fun p q r t u v w B C=>l8 (j7 N e p q r) fun D=>some (.ok (D.1,D.2.1,D.2.2,t,u,v,B,w,C))) N a.2.2.2.2.1 a.2.2.2.2.2.1 a.2.2.2.2.2.2.1 a.1 a.2.1 a.2.2.1 a.2.2.2.1 a.2.2.2.2.2.2.2.1 a.2.2.2.2.2.2.2.2)) (l8 (K4 N a7 g l m o H J K) fun b=>b3b N a7 (fun p q r t u v w B C=>l8 (j7 N e p q r) fun E=>some (.ok (E.1,E.2.1,E.2.2,t,u,v,B,w,C))) N b.2.2.2.2.1 b.2.2.2.2.2.1 b.2.2.2.2.2.2.1 b.1 b.2.1 b.2.2.1 b.2.2.2.1 b.2.2.2.2.2.2.2.1 b.2.2.2.2.2.2.2.2)
abbrev d8t(f:SV [.box 0 0,V1,V3,.fnc 259 [1,2,3]]->BV [.cells [V2,V0,V0],.cells [V0,V1,V0,.nilS,.nilS,V0,.nilS],.cells [.box 0 0],.cells [.fnc 258 [1,2]]]->Option (Except Int (τd))):PF:={ps:=[.box 0 0,V1,V3,.fnc 259 [1,2,3]],bs:=[.cells [V2,V0,V0],.cells [V0,V1,V0,.nilS,.nilS,V0,.nilS],.cells [.box 0 0],.cells [.fnc 258 [1,2]]],rs:=[],cs:=[.cells [V2,V0,V0],.cells [V0,V1,V0,.v N3,.nilS,V0,.v (.sl (.rc .part))],.cells [.box 0 0],.cells [.fnc 258 [1,2]]],R:=τd,out:=fun z=>((),(z.1,z.2.1,z.2.2.1,()),(z.2.2.2.1,z.2.2.2.2.1,z.2.2.2.2.2.1,z.2.2.2.2.2.2.1,(),z.2.2.2.2.2.2.2.1,z.2.2.2.2.2.2.2.2,()),((),()),((),()),()),f:=f}
abbrev c9r(a7:K8):PF:=d8t fun x y=>K5 N a7 x.2.1 x.2.2.1 y.1.1 y.1.2.1 y.1.2.2.1 y.2.1.1 y.2.1.2.1 y.2.1.2.2.1 y.2.1.2.2.2.2.2.1
abbrev c9t:SV []->BV [.cells [V2,V0,V0],.cells [V0,V1,V0,.v N3,.nilS,V0,.v (.sl (.rc .part))],.cells [.box 0 0],.cells [.fnc 258 [1,2]]]->(τd):=fun _ y=>let z:=y.2.1.2.2;(y.1.1,y.1.2.1,y.1.2.2.1,y.2.1.1,y.2.1.2.1,z.1,z.2.1,z.2.2.2.1,z.2.2.2.2.1)
abbrev d4u:SV []->BV [.cells [V2,V0,V0],.cells [V0,V1,V0,.v N3,.nilS,V0,.v (.sl (.rc .part))],.cells [.box 0 0],.cells [.fnc 258 [1,2]]]->Except Int (τd):=fun x y=> .ok (c9t x y)
def c9p(a7:K8):FuncId->Option Tmp->Option AF:=fun f _=>lkF [(74,a8H N)] f
theorem c9q(a7:K8)(g8:SoundP Tryz.prog GW x9 B2 138 (K2 fun x y=>a7 y.1.1 y.1.2.1 y.1.2.2.1)):∀f q F,c9p N a7 f q=some F->Sound Tryz.prog GW x9 f F:=fun _ _ _ h=>B9 h (L3 (V9 N) T8)
def c3r(a7:K8):FuncId->Option Tmp->Option PF:=fun f q=>
 match f with
  |76=>some (a8G N)
  |259=>match q with|some 15=>some (d6k N a7)|some 19=>some (d50 N a7)|_=>none
  |_=>none
theorem c9s(a7:K8)(g8:SoundP Tryz.prog GW x9 B2 138 (K2 fun x y=>a7 y.1.1 y.1.2.1 y.1.2.2.1)):∀f q F,c3r N a7 f q=some F->SoundP Tryz.prog GW x9 B2 f F:=by
 intro f q F h;unfold c3r at h;split at h
 ·cases h;exact V8 N
 ·split at h
  ·cases h;exact c9g N a7 g8
  ·cases h;exact c8n N a7 g8
  ·cases h
 ·cases h
def c1b:Nat->Hint:=fun i=>
 match i with
 |0=>⟨[],[0,1,3],[0,1,2,3,101500,101501],[0,1],[0,1,2,3,101500,101501],[]⟩
 |_=>y5
abbrev b3a(a7:K8):Env:=a08 c1b (c9p N a7) (c3r N a7) (fun _=>false) (fun _=>false)
abbrev c1a(a7:K8):=L9 (b3a N a7) Tryz.f77 (PF.tf (c9r N a7)) d4u
abbrev a8u:List (Nat×Sl):=[(0,.box 0 0),(1,V1),(3,.fnc 259 [1,2,3])]
abbrev a8t:List (Nat×Sb):=[(0,.cells [V2,V0,V0]),(1,.cells [V0,V1,V0,.row 101500,.nilS,V0,.row 101501]),(2,.cells [.box 0 0]),(3,.cells [.fnc 258 [1,2]]),(101500,.row 9 .str false),(101501,.row 201 (.rc .part) true)]
def b3d(a:d7)(b:List τ0)(c e g:Int)(l:d7)(m o:Int)(p:List d7)(q:List GPart):St:=⟨23,[(0,.box 0 0),(1,.v .str a),(3,.fnc 259 [1,2,3])],[(0,.cells [.v (.sl τ1) b,.v τ2 c,.v τ2 e]),(1,.cells [.v τ2 g,.v .str l,.v τ2 m,.row 101500,.nilS,.v τ2 o,.row 101501]),(2,.cells [.box 0 0]),(3,.cells [.fnc 258 [1,2]]),(101500,.row 9 .str false p),(101501,.row 201 (.rc .part) true q)]⟩
def a6d(a:d7)(b:List τ0)(c e g:Int)(l:d7)(m o:Int)(p:List d7)(q:List GPart):St:=⟨23,[(0,.box 0 0),(1,.v .str a)],[(0,.cells [.v (.sl τ1) b,.v τ2 c,.v τ2 e]),(1,.cells [.v τ2 g,.v .str l,.v τ2 m,.row 101500,.nilS,.v τ2 o,.row 101501]),(2,.cells [.box 0 0]),(3,.cells [.fnc 258 [1,2]]),(101500,.row 9 .str false p),(101501,.row 201 (.rc .part) true q)]⟩
def d23(a7:K8)(a:d7)(b:List τ0)(c e g:Int)(l:d7)(m o:Int)(p:List d7)(q:List GPart)(k:Ex->St->Option (Except Int (τd))):Option (Except Int (τd)):=b3b N a7 (fun r t u v w B C D E=>k (.exit 0) (a6d a r t u v w B C D E)) N b c e g l m o p q
abbrev c3q(a7:K8):FV a8u->HV a8t->(Ex->St->Option (Except Int (τd)))->Option (Except Int (τd)):=fun x y k=>d23 N a7 x.2.1 y.1.1 y.1.2.1 y.1.2.2.1 y.2.1.1 y.2.1.2.1 y.2.1.2.2.1 y.2.1.2.2.2.2.2.1 y.2.2.2.2.1 y.2.2.2.2.2.1 k
def b3e(a7:K8):Nat->Code->St->(Ex->St->Option (Except Int (τd)))->Option (Except Int (τd)):=fun i c=>
 match i with
 |0=>(LPc 23 a8u a8t (c3q N a7) (fun st k=>iter (c1b 0) (o7 (b3a N a7) N c 0) N st k))
 |i=>fun st k=>iter (c1b i) (o7 (b3a N a7) N c i) N st k
theorem c09(a7:K8)(q:d7)(KX:Nat->St->Option (Except Int (τd)))(I:St->Option (Except Int (τd)))(a:List τ0)(b c e:Int)(g:d7)(l m:Int)(o:List d7)(p:List GPart):
  p8 (b3e N a7) (b3a N a7) X6 0 (b3d q a b c e g l m o p) (F9 (c1b 0) I KX (c1a N a7))=b3c N a7 (fun r t u v w B C D E=>KX 0 (a6d q r t u v w B C D E)) (fun a b c e g l m o p=>I (b3d q a b c e g l m o p)) a b c e g l m o p:=by kernel_rfl
theorem c9o(a7:K8):∀x y k,(∀st,k .ret st=(c1a N a7) st)->iter (c1b 0) (o7 (b3a N a7) N X6 0) N ⟨23,unF a8u x,unH a8t y⟩ k=c3q N a7 x y k:=fun x y k hk=>
 p9 (S:=τ6×(Int)×(Int)×(Int)×(d7)×(Int)×(Int)×τ20×(List GPart)×Unit) (c1b 0) _ (p8 (b3e N a7) (b3a N a7) X6 0) (c1a N a7) (u9 _ _ N _ X6 0 (show LoopsOk (b3e N a7) (b3a N a7) N (c1a N a7) []from trivial)) (fun s=>b3d x.2.1 s.1 s.2.1 s.2.2.1 s.2.2.2.1 s.2.2.2.2.1 s.2.2.2.2.2.1 s.2.2.2.2.2.2.1 s.2.2.2.2.2.2.2.1 s.2.2.2.2.2.2.2.2.1) k hk
  (fun self s=>let z:=s.2.2.2.2;b3c N a7 (fun a b c e g l m o p=>k (.exit 0) (a6d x.2.1 a b c e g l m o p)) (fun q r t u v w B C D=>self (q,r,t,u,v,w,B,C,D,())) s.1 s.2.1 s.2.2.1 s.2.2.2.1 z.1 z.2.1 z.2.2.1 z.2.2.2.1 z.2.2.2.2.1) (fun n s=>let z:=s.2.2.2.2;b3b N a7 (fun a b c e g l m o p=>k (.exit 0) (a6d x.2.1 a b c e g l m o p)) n s.1 s.2.1 s.2.2.1 s.2.2.2.1 z.1 z.2.1 z.2.2.1 z.2.2.2.1 z.2.2.2.2.1) (fun _=>rfl) (fun _ _=>rfl)
  (fun I s=>let z:=s.2.2.2.2;c09 N a7 x.2.1 (fun j=>k (.exit j)) I s.1 s.2.1 s.2.2.1 s.2.2.2.1 z.1 z.2.1 z.2.2.1 z.2.2.2.1 z.2.2.2.2.1) N (y.1.1,y.1.2.1,y.1.2.2.1,y.2.1.1,y.2.1.2.1,y.2.1.2.2.1,y.2.1.2.2.2.2.2.1,y.2.2.2.2.1,y.2.2.2.2.2.1,())
theorem d6m(a7:K8):Z1 (b3e N a7) (b3a N a7) N (c1a N a7) 0 X6:=fun st k hk=>H3 23 a8u a8t _ _ (c1a N a7) (c9o N a7) _ st k hk (rfl)
theorem d24(a7:K8)(x:SV [.box 0 0,V1,V3,.fnc 259 [1,2,3]])(y:BV [.cells [V2,V0,V0],.cells [V0,V1,V0,.nilS,.nilS,V0,.nilS],.cells [.box 0 0],.cells [.fnc 258 [1,2]]]):V4 (b3a N a7) Tryz.f77 (PF.tf (c9r N a7)) d4u (b3e N a7) x y=K5 N a7 x.2.1 x.2.2.1 y.1.1 y.1.2.1 y.1.2.2.1 y.2.1.1 y.2.1.2.1 y.2.1.2.2.1 y.2.1.2.2.2.2.2.1:=by kernel_rfl
theorem c9u(a7:K8)(g8:SoundP Tryz.prog GW x9 B2 138 (K2 fun x y=>a7 y.1.1 y.1.2.1 y.1.2.2.1)):SoundP Tryz.prog GW x9 B2 77 (c9r N a7):=
 b2g (b3a N a7) (H9 c1b (c9p N a7) (c3r N a7) _ _ (c9q N a7 g8) (c9s N a7 g8)) Tryz.func77 rfl Tryz.call77 (c9r N a7) c9t (fun _ _=>rfl) N (b3e N a7) (show LoopsOk (b3e N a7) (b3a N a7) N (c1a N a7) [(0,X6)]from⟨d6m N a7,trivial⟩) (d24 N a7)
end
end Go.Proofs.YtolpmfhiegpohaaGreatDoor
