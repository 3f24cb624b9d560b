/- % -/
import Derived.Test.YtolpmfhiegpohaaGreatDoorQPaF4
namespace Go.Proofs.YtolpmfhiegpohaaGreatDoor
open Go Go.RowKit
set_option maxRecDepth 100000
set_option linter.unusedVariables false
noncomputable section
variable(N:Nat)
def b27(a7:K8)(k0 self:ρ2)(o:List τ0)(p q c:Int)(e:d7)(g l:Int)(m:List GPart):Option (Except Int (τe)):=j8 (l4 N 4 [44] o p q) fun b=>br (b.1) (l8 (D1 N a7 c e g l m b.2.1 b.2.2.1 b.2.2.2) fun a=>self a.2.2.2.2.2.1 a.2.2.2.2.2.2.1 a.2.2.2.2.2.2.2 a.1 a.2.1 a.2.2.1 a.2.2.2.1 a.2.2.2.2.1) (k0 b.2.1 b.2.2.1 b.2.2.2 c e g l m)
def b26(N:Nat)(a7:K8)(k0:ρ2):Nat->τ6->Int->Int->Int->d7->Int->Int->(List GPart)->Option (Except Int (τe))|0,_,_,_,_,_,_,_,_=>none|n+1,a,b,c,e,g,l,m,o=>b27 N a7 k0 (b26 N a7 k0 n) a b c e g l m o
def H8(a7:K8)(e:d7)(K:Bool)(E:List τ0)(H J g:Int)(l:d7)(m o:Int):Option (Except Int (τe)):=br (K) (j8 (l4 N 4 e E H J) fun c=>br (c.1) (some (.ok (c.2.1,c.2.2.1,c.2.2.2,g,l,m,o,[]))) (l8 (y9 N a7 g l m o c.2.1 c.2.2.1 c.2.2.2) fun a=>b26 N a7 (fun p q r t u v w B=>l8 (j7 N e p q r) fun C=>some (.ok (C.1,C.2.1,C.2.2,t,u,v,w,B))) N a.2.2.2.2.1 a.2.2.2.2.2.1 a.2.2.2.2.2.2.1 a.1 a.2.1 a.2.2.1 a.2.2.2.1 a.2.2.2.2.2.2.2)) (l8 (y9 N a7 g l m o E H J) fun b=>b26 N a7 (fun p q r t u v w B=>l8 (j7 N e p q r) fun D=>some (.ok (D.1,D.2.1,D.2.2,t,u,v,w,B))) N b.2.2.2.2.1 b.2.2.2.2.2.1 b.2.2.2.2.2.2.1 b.1 b.2.1 b.2.2.1 b.2.2.2.1 b.2.2.2.2.2.2.2)
abbrev d8s(f:SV [.box 0 0,V1,V3,.fnc 258 [1,2]]->BV [.cells [V2,V0,V0],.cells [V0,V1,V0,.nilS,.nilS,V0,.nilS],.cells [.box 0 0]]->Option (Except Int (τe))):PF:={ps:=[.box 0 0,V1,V3,.fnc 258 [1,2]],bs:=[.cells [V2,V0,V0],.cells [V0,V1,V0,.nilS,.nilS,V0,.nilS],.cells [.box 0 0]],rs:=[],cs:=[.cells [V2,V0,V0],.cells [V0,V1,V0,.nilS,.nilS,V0,.v (.sl (.rc .part))],.cells [.box 0 0]],R:=τe,out:=fun z=>((),(z.1,z.2.1,z.2.2.1,()),(z.2.2.2.1,z.2.2.2.2.1,z.2.2.2.2.2.1,(),(),z.2.2.2.2.2.2.1,z.2.2.2.2.2.2.2,()),((),()),()),f:=f}
abbrev c9k(a7:K8):PF:=d8s fun x y=>H8 N a7 x.2.1 x.2.2.1 y.1.1 y.1.2.1 y.1.2.2.1 y.2.1.1 y.2.1.2.1 y.2.1.2.2.1 y.2.1.2.2.2.2.2.1
abbrev c9m:SV []->BV [.cells [V2,V0,V0],.cells [V0,V1,V0,.nilS,.nilS,V0,.v (.sl (.rc .part))],.cells [.box 0 0]]->(τe):=fun _ y=>let z:=y.2.1.2;(y.1.1,y.1.2.1,y.1.2.2.1,y.2.1.1,z.1,z.2.1,z.2.2.2.2.1,z.2.2.2.2.2.1)
abbrev d4t:SV []->BV [.cells [V2,V0,V0],.cells [V0,V1,V0,.nilS,.nilS,V0,.v (.sl (.rc .part))],.cells [.box 0 0]]->Except Int (τe):=fun x y=> .ok (c9m x y)
def c9i(a7:K8):FuncId->Option Tmp->Option AF:=fun f _=>lkF [(74,a8H N)] f
theorem c9j(a7:K8)(g8:SoundP Tryz.prog GW x9 B2 138 (K2 fun x y=>a7 y.1.1 y.1.2.1 y.1.2.2.1)):∀f q F,c9i N a7 f q=some F->Sound Tryz.prog GW x9 f F:=fun _ _ _ h=>B9 h (L3 (V9 N) T8)
def c3p(a7:K8):FuncId->Option Tmp->Option PF:=fun f q=>
 match f with
  |76=>some (a8G N)
  |258=>match q with|some 15=>some (c9b N a7)|some 19=>some (d2I N a7)|_=>none
  |_=>none
theorem c9l(a7:K8)(g8:SoundP Tryz.prog GW x9 B2 138 (K2 fun x y=>a7 y.1.1 y.1.2.1 y.1.2.2.1)):∀f q F,c3p N a7 f q=some F->SoundP Tryz.prog GW x9 B2 f F:=by
 intro f q F h;unfold c3p at h;split at h
 ·cases h;exact V8 N
 ·split at h
  ·cases h;exact b24 N a7 g8
  ·cases h;exact b8Q N a7 g8
  ·cases h
 ·cases h
def c08:Nat->Hint:=fun i=>
 match i with
 |0=>⟨[],[0,1,3],[0,1,2,101500],[0,1],[0,1,2,101500],[]⟩
 |_=>y5
abbrev b25(a7:K8):Env:=a08 c08 (c9i N a7) (c3p N a7) (fun _=>false) (fun _=>false)
abbrev c07(a7:K8):=L9 (b25 N a7) Tryz.f77 (PF.tf (c9k N a7)) d4t
abbrev a8s:List (Nat×Sl):=[(0,.box 0 0),(1,V1),(3,.fnc 258 [1,2])]
abbrev a8r:List (Nat×Sb):=[(0,.cells [V2,V0,V0]),(1,.cells [V0,V1,V0,.nilS,.nilS,V0,.row 101500]),(2,.cells [.box 0 0]),(101500,.row 201 (.rc .part) true)]
def b28(a:d7)(b:List τ0)(c e g:Int)(l:d7)(m o:Int)(p:List GPart):St:=⟨23,[(0,.box 0 0),(1,.v .str a),(3,.fnc 258 [1,2])],[(0,.cells [.v (.sl τ1) b,.v τ2 c,.v τ2 e]),(1,.cells [.v τ2 g,.v .str l,.v τ2 m,.nilS,.nilS,.v τ2 o,.row 101500]),(2,.cells [.box 0 0]),(101500,.row 201 (.rc .part) true p)]⟩
def a6c(a:d7)(b:List τ0)(c e g:Int)(l:d7)(m o:Int)(p:List GPart):St:=⟨23,[(0,.box 0 0),(1,.v .str a)],[(0,.cells [.v (.sl τ1) b,.v τ2 c,.v τ2 e]),(1,.cells [.v τ2 g,.v .str l,.v τ2 m,.nilS,.nilS,.v τ2 o,.row 101500]),(2,.cells [.box 0 0]),(101500,.row 201 (.rc .part) true p)]⟩
def d21(a7:K8)(a:d7)(b:List τ0)(c e g:Int)(l:d7)(m o:Int)(p:List GPart)(k:Ex->St->Option (Except Int (τe))):Option (Except Int (τe)):=b26 N a7 (fun q r t u v w B C=>k (.exit 0) (a6c a q r t u v w B C)) N b c e g l m o p
abbrev c3o(a7:K8):FV a8s->HV a8r->(Ex->St->Option (Except Int (τe)))->Option (Except Int (τe)):=fun x y k=>d21 N a7 x.2.1 y.1.1 y.1.2.1 y.1.2.2.1 y.2.1.1 y.2.1.2.1 y.2.1.2.2.1 y.2.1.2.2.2.2.2.1 y.2.2.2.1 k
def b29(a7:K8):Nat->Code->St->(Ex->St->Option (Except Int (τe)))->Option (Except Int (τe)):=fun i c=>
 match i with
 |0=>(LPc 23 a8s a8r (c3o N a7) (fun st k=>iter (c08 0) (o7 (b25 N a7) N c 0) N st k))
 |i=>fun st k=>iter (c08 i) (o7 (b25 N a7) N c i) N st k
theorem c06(a7:K8)(p:d7)(KX:Nat->St->Option (Except Int (τe)))(I:St->Option (Except Int (τe)))(a:List τ0)(b c e:Int)(g:d7)(l m:Int)(o:List GPart):
  p8 (b29 N a7) (b25 N a7) X6 0 (b28 p a b c e g l m o) (F9 (c08 0) I KX (c07 N a7))=b27 N a7 (fun q r t u v w B C=>KX 0 (a6c p q r t u v w B C)) (fun a b c e g l m o=>I (b28 p a b c e g l m o)) a b c e g l m o:=by kernel_rfl
theorem c9h(a7:K8):∀x y k,(∀st,k .ret st=(c07 N a7) st)->iter (c08 0) (o7 (b25 N a7) N X6 0) N ⟨23,unF a8s x,unH a8r y⟩ k=c3o N a7 x y k:=fun x y k hk=>
 p9 (S:=τ6×(Int)×(Int)×(Int)×(d7)×(Int)×(Int)×(List GPart)×Unit) (c08 0) _ (p8 (b29 N a7) (b25 N a7) X6 0) (c07 N a7) (u9 _ _ N _ X6 0 (show LoopsOk (b29 N a7) (b25 N a7) N (c07 N a7) []from trivial)) (fun s=>b28 x.2.1 s.1 s.2.1 s.2.2.1 s.2.2.2.1 s.2.2.2.2.1 s.2.2.2.2.2.1 s.2.2.2.2.2.2.1 s.2.2.2.2.2.2.2.1) k hk
  (fun self s=>let z:=s.2.2.2.2;b27 N a7 (fun a b c e g l m o=>k (.exit 0) (a6c x.2.1 a b c e g l m o)) (fun p q r t u v w B=>self (p,q,r,t,u,v,w,B,())) s.1 s.2.1 s.2.2.1 s.2.2.2.1 z.1 z.2.1 z.2.2.1 z.2.2.2.1) (fun n s=>let z:=s.2.2.2.2;b26 N a7 (fun a b c e g l m o=>k (.exit 0) (a6c x.2.1 a b c e g l m o)) n s.1 s.2.1 s.2.2.1 s.2.2.2.1 z.1 z.2.1 z.2.2.1 z.2.2.2.1) (fun _=>rfl) (fun _ _=>rfl)
  (fun I s=>let z:=s.2.2.2.2;c06 N a7 x.2.1 (fun j=>k (.exit j)) I s.1 s.2.1 s.2.2.1 s.2.2.2.1 z.1 z.2.1 z.2.2.1 z.2.2.2.1) N (y.1.1,y.1.2.1,y.1.2.2.1,y.2.1.1,y.2.1.2.1,y.2.1.2.2.1,y.2.1.2.2.2.2.2.1,y.2.2.2.1,())
theorem d6l(a7:K8):Z1 (b29 N a7) (b25 N a7) N (c07 N a7) 0 X6:=fun st k hk=>H3 23 a8s a8r _ _ (c07 N a7) (c9h N a7) _ st k hk (rfl)
theorem d22(a7:K8)(x:SV [.box 0 0,V1,V3,.fnc 258 [1,2]])(y:BV [.cells [V2,V0,V0],.cells [V0,V1,V0,.nilS,.nilS,V0,.nilS],.cells [.box 0 0]]):V4 (b25 N a7) Tryz.f77 (PF.tf (c9k N a7)) d4t (b29 N a7) x y=H8 N a7 x.2.1 x.2.2.1 y.1.1 y.1.2.1 y.1.2.2.1 y.2.1.1 y.2.1.2.1 y.2.1.2.2.1 y.2.1.2.2.2.2.2.1:=by kernel_rfl
theorem c9n(a7:K8)(g8:SoundP Tryz.prog GW x9 B2 138 (K2 fun x y=>a7 y.1.1 y.1.2.1 y.1.2.2.1)):SoundP Tryz.prog GW x9 B2 77 (c9k N a7):=
 b2g (b25 N a7) (H9 c08 (c9i N a7) (c3p N a7) _ _ (c9j N a7 g8) (c9l N a7 g8)) Tryz.func77 rfl Tryz.call77 (c9k N a7) c9m (fun _ _=>rfl) N (b29 N a7) (show LoopsOk (b29 N a7) (b25 N a7) N (c07 N a7) [(0,X6)]from⟨d6l N a7,trivial⟩) (d22 N a7)
def D2(_N:Nat)(a7:K8)(b:Int)(c:d7)(e g:Int)(l:List d7)(m:List τ0)(o p:Int):Option (Except Int (Int×d7×Int×Int×List d7×List τ0×Int×Int×List GPart)):=n8 (n8 (n8 (l8 (a7 m o p) fun a=>k7 1 (br (Zf [Zo].length (.rc .part)) (br (decide (0<=(0: Int)/\0<([Zo].length:Int))) (k7 1 (j8 (m6 [Zo] 0) fun _=>some (.ok (b,c,e,g,l,a.2.1,a.2.2.1,a.2.2.2,G0 [Zo] 0 a.1)))) none) none)) (k7 1 (k7 1 (l8 (a7 m o p) fun a=>br (Zf [Zo].length (.rc .part)) (br (decide (0<=(0: Int)/\0<([Zo].length:Int))) (k7 1 (j8 (m6 [Zo] 0) fun _=>some (.ok (b,c,e,g,l,a.2.1,a.2.2.1,a.2.2.2,G0 [Zo] 0 a.1)))) none) none)))) (k7 1 (n8 (k7 1 (l8 (a7 m o p) fun a=>br (Zf [Zo].length (.rc .part)) (br (decide (0<=(0: Int)/\0<([Zo].length:Int))) (k7 1 (j8 (m6 [Zo] 0) fun _=>some (.ok (b,c,e,g,l,a.2.1,a.2.2.1,a.2.2.2,G0 [Zo] 0 a.1)))) none) none)) (l8 (a7 m o p) fun a=>br (Zf [Zo].length (.rc .part)) (br (decide (0<=(0: Int)/\0<([Zo].length:Int))) (k7 1 (j8 (m6 [Zo] 0) fun _=>some (.ok (b,c,e,g,l,a.2.1,a.2.2.1,a.2.2.2,G0 [Zo] 0 a.1)))) none) none)))) (n8 (n8 (n8 (l8 (a7 m o p) fun a=>k7 1 (br (Zf [Zo].length (.rc .part)) (br (decide (0<=(0: Int)/\0<([Zo].length:Int))) (k7 1 (j8 (m6 [Zo] 0) fun _=>some (.ok (b,c,e,g,l,a.2.1,a.2.2.1,a.2.2.2,G0 [Zo] 0 a.1)))) none) none)) (k7 1 (k7 1 (l8 (a7 m o p) fun a=>br (Zf [Zo].length (.rc .part)) (br (decide (0<=(0: Int)/\0<([Zo].length:Int))) (k7 1 (j8 (m6 [Zo] 0) fun _=>some (.ok (b,c,e,g,l,a.2.1,a.2.2.1,a.2.2.2,G0 [Zo] 0 a.1)))) none) none)))) (n8 (l8 (a7 m o p) fun a=>n8 (k7 1 (br (Zf [Zo].length (.rc .part)) (br (decide (0<=(0: Int)/\0<([Zo].length:Int))) (k7 1 (j8 (m6 [Zo] 0) fun _=>some (.ok (b,c,e,g,l,a.2.1,a.2.2.1,a.2.2.2,G0 [Zo] 0 a.1)))) none) none)) (br (Zf [Zo].length (.rc .part)) (br (decide (0<=(0: Int)/\0<([Zo].length:Int))) (k7 1 (j8 (m6 [Zo] 0) fun _=>some (.ok (b,c,e,g,l,a.2.1,a.2.2.1,a.2.2.2,G0 [Zo] 0 a.1)))) none) none)) (n8 (k7 1 (l8 (a7 m o p) fun a=>br (Zf [Zo].length (.rc .part)) (br (decide (0<=(0: Int)/\0<([Zo].length:Int))) (k7 1 (j8 (m6 [Zo] 0) fun _=>some (.ok (b,c,e,g,l,a.2.1,a.2.2.1,a.2.2.2,G0 [Zo] 0 a.1)))) none) none)) (l8 (a7 m o p) fun a=>br (Zf [Zo].length (.rc .part)) (br (decide (0<=(0: Int)/\0<([Zo].length:Int))) (k7 1 (j8 (m6 [Zo] 0) fun _=>some (.ok (b,c,e,g,l,a.2.1,a.2.2.1,a.2.2.2,G0 [Zo] 0 a.1)))) none) none)))) (k7 1 (n8 (k7 1 (l8 (a7 m o p) fun a=>br (Zf [Zo].length (.rc .part)) (br (decide (0<=(0: Int)/\0<([Zo].length:Int))) (k7 1 (j8 (m6 [Zo] 0) fun _=>some (.ok (b,c,e,g,l,a.2.1,a.2.2.1,a.2.2.2,G0 [Zo] 0 a.1)))) none) none)) (l8 (a7 m o p) fun a=>br (Zf [Zo].length (.rc .part)) (br (decide (0<=(0: Int)/\0<([Zo].length:Int))) (k7 1 (j8 (m6 [Zo] 0) fun _=>some (.ok (b,c,e,g,l,a.2.1,a.2.2.1,a.2.2.2,G0 [Zo] 0 a.1)))) none) none))))
abbrev d7W(f:SV [.box 0 0,.box 1 0]->BV [.cells [V0,V1,V0,.row 2,.nilS,V0,.nilS],.cells [.box 3 0],.row 9 .str false,.cells [V2,V0,V0]]->Option (Except Int (Int×d7×Int×Int×List d7×List τ0×Int×Int×List GPart))):PF:={ps:=[.box 0 0,.box 1 0],bs:=[.cells [V0,V1,V0,.row 2,.nilS,V0,.nilS],.cells [.box 3 0],.row 9 .str false,.cells [V2,V0,V0]],rs:=[],cs:=[.cells [V0,V1,V0,.row 2,.nilS,V0,.row 4],.cells [.box 3 0],.row 9 .str false,.cells [V2,V0,V0],.row 201 (.rc .part) true],R:=Int×d7×Int×Int×List d7×List τ0×Int×Int×List GPart,out:=fun z=>((),(z.1,z.2.1,z.2.2.1,(),(),z.2.2.2.1,(),()),((),()),z.2.2.2.2.1,(z.2.2.2.2.2.1,z.2.2.2.2.2.2.1,z.2.2.2.2.2.2.2.1,()),z.2.2.2.2.2.2.2.2,()),f:=f}
abbrev d5Y(a7:K8):PF:=d7W fun _ y=>let z:=y.2.2.2.1;D2 N a7 y.1.1 y.1.2.1 y.1.2.2.1 y.1.2.2.2.2.2.1 y.2.2.1 z.1 z.2.1 z.2.2.1
def c8c(_N:Nat)(a7:K8):FuncId->Option Tmp->Option AF:=fun f _=>lkF [] f
theorem c8d(a7:K8)(g8:SoundP Tryz.prog GW x9 B2 138 (K2 fun x y=>a7 y.1.1 y.1.2.1 y.1.2.2.1)):∀f q F,c8c N a7 f q=some F->Sound Tryz.prog GW x9 f F:=fun _ _ _ h=>B9 h T8
def c3b(_N:Nat)(a7:K8):FuncId->Option Tmp->Option PF:=fun f _=>
 match f with
  |138=>some (K2 fun _ y=>a7 y.1.1 y.1.2.1 y.1.2.2.1)
  |_=>none
theorem c8e(a7:K8)(g8:SoundP Tryz.prog GW x9 B2 138 (K2 fun x y=>a7 y.1.1 y.1.2.1 y.1.2.2.1)):∀f q F,c3b N a7 f q=some F->SoundP Tryz.prog GW x9 B2 f F:=by
 intro f q F h;unfold c3b at h;split at h
 ·cases h;exact g8
 ·cases h
def d7V:Nat->Hint:=fun i=>
 match i with
 |100000=>⟨[],[1,2],[],[],[],[]⟩
 |_=>y5
abbrev e0q(a7:K8):Env:=a08 d7V (c8c N a7) (c3b N a7) (fun i=>match i with|6=>true|7=>true|8=>true|_=>false) (fun _=>false)
theorem c8f(a7:K8)(g8:SoundP Tryz.prog GW x9 B2 138 (K2 fun x y=>a7 y.1.1 y.1.2.1 y.1.2.2.1)):SoundP Tryz.prog GW x9 B2 258 (d5Y N a7):=
 a0V (e0q N a7) (H9 d7V (c8c N a7) (c3b N a7) _ _ (c8d N a7 g8) (c8e N a7 g8)) Tryz.func258 rfl Tryz.call258 (d5Y N a7) (fun _ y=>let z:=y.2.2.2;(y.1.1,y.1.2.1,y.1.2.2.1,y.1.2.2.2.2.2.1,y.2.2.1,z.1.1,z.1.2.1,z.1.2.2.1,z.2.1)) (fun _ _=>rfl) N (fun _ _=>by kernel_rfl) rfl
def K4(a7:K8)(e:Int)(g:d7)(l m:Int)(o:List τ0)(p q:Int):Option (Except Int (Int×d7×Int×Int×List τ0×Int×Int×List d7×List GPart)):=n8 (l8 (q9 N o p q) fun b=>br (Zf [b.1].length .str) (l8 (j7 N [58] b.2.1 b.2.2.1 b.2.2.2) fun c=>l8 (D2 N a7 e g l m [b.1] c.1 c.2.1 c.2.2) fun a=>some (.ok (a.1,a.2.1,a.2.2.1,a.2.2.2.1,a.2.2.2.2.2.1,a.2.2.2.2.2.2.1,a.2.2.2.2.2.2.2.1,a.2.2.2.2.1,a.2.2.2.2.2.2.2.2))) none) (n8 (l8 (q9 N o p q) fun b=>br (Zf [b.1].length .str) (l8 (j7 N [58] b.2.1 b.2.2.1 b.2.2.2) fun c=>l8 (D2 N a7 e g l m [b.1] c.1 c.2.1 c.2.2) fun a=>some (.ok (a.1,a.2.1,a.2.2.1,a.2.2.2.1,a.2.2.2.2.2.1,a.2.2.2.2.2.2.1,a.2.2.2.2.2.2.2.1,a.2.2.2.2.1,a.2.2.2.2.2.2.2.2))) none) (l8 (q9 N o p q) fun b=>k7 1 (br (Zf [b.1].length .str) (l8 (j7 N [58] b.2.1 b.2.2.1 b.2.2.2) fun c=>l8 (D2 N a7 e g l m [b.1] c.1 c.2.1 c.2.2) fun a=>some (.ok (a.1,a.2.1,a.2.2.1,a.2.2.2.1,a.2.2.2.2.2.1,a.2.2.2.2.2.2.1,a.2.2.2.2.2.2.2.1,a.2.2.2.2.1,a.2.2.2.2.2.2.2.2))) none)))
abbrev d8r(f:SV [.box 0 0,.box 1 0,.box 2 0]->BV [.cells [V0,V1,V0,.nilS,.nilS,V0,.nilS],.cells [.box 3 0],.cells [.fnc 258 [0,1]],.cells [V2,V0,V0]]->Option (Except Int (Int×d7×Int×Int×List τ0×Int×Int×List d7×List GPart))):PF:={ps:=[.box 0 0,.box 1 0,.box 2 0],bs:=[.cells [V0,V1,V0,.nilS,.nilS,V0,.nilS],.cells [.box 3 0],.cells [.fnc 258 [0,1]],.cells [V2,V0,V0]],rs:=[],cs:=[.cells [V0,V1,V0,.row 4,.nilS,V0,.row 5],.cells [.box 3 0],.cells [.fnc 258 [0,1]],.cells [V2,V0,V0],.row 9 .str false,.row 201 (.rc .part) true],R:=Int×d7×Int×Int×List τ0×Int×Int×List d7×List GPart,out:=fun z=>((),(z.1,z.2.1,z.2.2.1,(),(),z.2.2.2.1,(),()),((),()),((),()),(z.2.2.2.2.1,z.2.2.2.2.2.1,z.2.2.2.2.2.2.1,()),z.2.2.2.2.2.2.2.1,z.2.2.2.2.2.2.2.2,()),f:=f}
abbrev d6k(a7:K8):PF:=d8r fun _ y=>let z:=y.2.2.2.1;K4 N a7 y.1.1 y.1.2.1 y.1.2.2.1 y.1.2.2.2.2.2.1 z.1 z.2.1 z.2.2.1
def c9d(_N:Nat)(a7:K8):FuncId->Option Tmp->Option AF:=fun f _=>lkF [] f
theorem c9e(a7:K8)(g8:SoundP Tryz.prog GW x9 B2 138 (K2 fun x y=>a7 y.1.1 y.1.2.1 y.1.2.2.1)):∀f q F,c9d N a7 f q=some F->Sound Tryz.prog GW x9 f F:=fun _ _ _ h=>B9 h T8
def c3n(a7:K8):FuncId->Option Tmp->Option PF:=fun f _=>
 match f with
  |76=>some (a8G N)
  |82=>some (c5c N)
  |258=>some (d5Y N a7)
  |_=>none
theorem c9f(a7:K8)(g8:SoundP Tryz.prog GW x9 B2 138 (K2 fun x y=>a7 y.1.1 y.1.2.1 y.1.2.2.1)):∀f q F,c3n N a7 f q=some F->SoundP Tryz.prog GW x9 B2 f F:=by
 intro f q F h;unfold c3n at h;split at h
 ·cases h;exact V8 N
 ·cases h;exact a8I N
 ·cases h;exact c8f N a7 g8
 ·cases h
def d8q:Nat->Hint:=fun i=>
 match i with
 |100000=>⟨[],[1,2],[],[],[],[]⟩
 |_=>y5
abbrev e0z(a7:K8):Env:=a08 d8q (c9d N a7) (c3n N a7) (fun _=>false) (fun _=>false)
theorem c9g(a7:K8)(g8:SoundP Tryz.prog GW x9 B2 138 (K2 fun x y=>a7 y.1.1 y.1.2.1 y.1.2.2.1)):SoundP Tryz.prog GW x9 B2 259 (d6k N a7):=
 a0V (e0z N a7) (H9 d8q (c9d N a7) (c3n N a7) _ _ (c9e N a7 g8) (c9f N a7 g8)) Tryz.func259 rfl Tryz.call259 (d6k N a7) (fun _ y=>let z:=y.2.2.2;(y.1.1,y.1.2.1,y.1.2.2.1,y.1.2.2.2.2.2.1,z.1.1,z.1.2.1,z.1.2.2.1,z.2.1,z.2.2.1)) (fun _ _=>rfl) N (fun _ _=>by kernel_rfl) rfl
end
end Go.Proofs.YtolpmfhiegpohaaGreatDoor
