/- % -/
import Derived.Test.YtolpmfhiegpohaaGreatDoorQPaF5
namespace Go.Proofs.YtolpmfhiegpohaaGreatDoor
open Go Go.RowKit
set_option maxRecDepth 100000
set_option linter.unusedVariables false
noncomputable section
variable(N:Nat)
def F5(_N:Nat)(a7:d2)(c:Int)(e:d9)(g l:Int)(m:List d9)(a:List GPart)(o:List τ0)(p q:Int):Option (Except Int (Int×d9×Int×Int×List d9×List GPart×List τ0×Int×Int)):=o9 (o9 (o9 (m8 (a7 o p q) fun b=>k9 1 (br (Zf (a.length + [Zo].length) (.rc .part)) (br (decide (0<=(a.length:Int)/\(a.length:Int)<((a ++ [Zo]).length:Int))) (k9 1 (j8 (m7 (a ++ [Zo]) (a.length:Int)) fun _=>some (.ok (c,e,g,l,m,I3 (a ++ [Zo]) (a.length:Int) b.1,b.2)))) none) none)) (k9 1 (k9 1 (m8 (a7 o p q) fun b=>br (Zf (a.length + [Zo].length) (.rc .part)) (br (decide (0<=(a.length:Int)/\(a.length:Int)<((a ++ [Zo]).length:Int))) (k9 1 (j8 (m7 (a ++ [Zo]) (a.length:Int)) fun _=>some (.ok (c,e,g,l,m,I3 (a ++ [Zo]) (a.length:Int) b.1,b.2)))) none) none)))) (k9 1 (o9 (k9 1 (m8 (a7 o p q) fun b=>br (Zf (a.length + [Zo].length) (.rc .part)) (br (decide (0<=(a.length:Int)/\(a.length:Int)<((a ++ [Zo]).length:Int))) (k9 1 (j8 (m7 (a ++ [Zo]) (a.length:Int)) fun _=>some (.ok (c,e,g,l,m,I3 (a ++ [Zo]) (a.length:Int) b.1,b.2)))) none) none)) (m8 (a7 o p q) fun b=>br (Zf (a.length + [Zo].length) (.rc .part)) (br (decide (0<=(a.length:Int)/\(a.length:Int)<((a ++ [Zo]).length:Int))) (k9 1 (j8 (m7 (a ++ [Zo]) (a.length:Int)) fun _=>some (.ok (c,e,g,l,m,I3 (a ++ [Zo]) (a.length:Int) b.1,b.2)))) none) none)))) (o9 (o9 (o9 (m8 (a7 o p q) fun b=>k9 1 (br (Zf (a.length + [Zo].length) (.rc .part)) (br (decide (0<=(a.length:Int)/\(a.length:Int)<((a ++ [Zo]).length:Int))) (k9 1 (j8 (m7 (a ++ [Zo]) (a.length:Int)) fun _=>some (.ok (c,e,g,l,m,I3 (a ++ [Zo]) (a.length:Int) b.1,b.2)))) none) none)) (k9 1 (k9 1 (m8 (a7 o p q) fun b=>br (Zf (a.length + [Zo].length) (.rc .part)) (br (decide (0<=(a.length:Int)/\(a.length:Int)<((a ++ [Zo]).length:Int))) (k9 1 (j8 (m7 (a ++ [Zo]) (a.length:Int)) fun _=>some (.ok (c,e,g,l,m,I3 (a ++ [Zo]) (a.length:Int) b.1,b.2)))) none) none)))) (o9 (m8 (a7 o p q) fun b=>o9 (k9 1 (br (Zf (a.length + [Zo].length) (.rc .part)) (br (decide (0<=(a.length:Int)/\(a.length:Int)<((a ++ [Zo]).length:Int))) (k9 1 (j8 (m7 (a ++ [Zo]) (a.length:Int)) fun _=>some (.ok (c,e,g,l,m,I3 (a ++ [Zo]) (a.length:Int) b.1,b.2)))) none) none)) (br (Zf (a.length + [Zo].length) (.rc .part)) (br (decide (0<=(a.length:Int)/\(a.length:Int)<((a ++ [Zo]).length:Int))) (k9 1 (j8 (m7 (a ++ [Zo]) (a.length:Int)) fun _=>some (.ok (c,e,g,l,m,I3 (a ++ [Zo]) (a.length:Int) b.1,b.2)))) none) none)) (o9 (k9 1 (m8 (a7 o p q) fun b=>br (Zf (a.length + [Zo].length) (.rc .part)) (br (decide (0<=(a.length:Int)/\(a.length:Int)<((a ++ [Zo]).length:Int))) (k9 1 (j8 (m7 (a ++ [Zo]) (a.length:Int)) fun _=>some (.ok (c,e,g,l,m,I3 (a ++ [Zo]) (a.length:Int) b.1,b.2)))) none) none)) (m8 (a7 o p q) fun b=>br (Zf (a.length + [Zo].length) (.rc .part)) (br (decide (0<=(a.length:Int)/\(a.length:Int)<((a ++ [Zo]).length:Int))) (k9 1 (j8 (m7 (a ++ [Zo]) (a.length:Int)) fun _=>some (.ok (c,e,g,l,m,I3 (a ++ [Zo]) (a.length:Int) b.1,b.2)))) none) none)))) (k9 1 (o9 (k9 1 (m8 (a7 o p q) fun b=>br (Zf (a.length + [Zo].length) (.rc .part)) (br (decide (0<=(a.length:Int)/\(a.length:Int)<((a ++ [Zo]).length:Int))) (k9 1 (j8 (m7 (a ++ [Zo]) (a.length:Int)) fun _=>some (.ok (c,e,g,l,m,I3 (a ++ [Zo]) (a.length:Int) b.1,b.2)))) none) none)) (m8 (a7 o p q) fun b=>br (Zf (a.length + [Zo].length) (.rc .part)) (br (decide (0<=(a.length:Int)/\(a.length:Int)<((a ++ [Zo]).length:Int))) (k9 1 (j8 (m7 (a ++ [Zo]) (a.length:Int)) fun _=>some (.ok (c,e,g,l,m,I3 (a ++ [Zo]) (a.length:Int) b.1,b.2)))) none) none))))
abbrev e0S(f:SV [.box 0 0,.box 1 0]->BV [.cells [V0,V1,V0,.row 2,.nilS,V0,.row 3],.cells [.box 4 0],.row 9 .str false,.row 201 (.rc .part) true,.cells [V2,V0,V0]]->Option (Except Int (Int×d9×Int×Int×List d9×List GPart×List τ0×Int×Int))):PF:={ps:=[.box 0 0,.box 1 0],bs:=[.cells [V0,V1,V0,.row 2,.nilS,V0,.row 3],.cells [.box 4 0],.row 9 .str false,.row 201 (.rc .part) true,.cells [V2,V0,V0]],rs:=[],cs:=[.cells [V0,V1,V0,.row 2,.nilS,V0,.row 3],.cells [.box 4 0],.row 9 .str false,.row 201 (.rc .part) true,.cells [V2,V0,V0]],R:=Int×d9×Int×Int×List d9×List GPart×List τ0×Int×Int,out:=fun z=>((),(z.1,z.2.1,z.2.2.1,(),(),z.2.2.2.1,(),()),((),()),z.2.2.2.2.1,z.2.2.2.2.2.1,(z.2.2.2.2.2.2.1,z.2.2.2.2.2.2.2.1,z.2.2.2.2.2.2.2.2,()),()),f:=f}
abbrev d8L(a7:d2):PF:=e0S fun _ y=>let z:=y.2.2.2.2.1;F5 N a7 y.1.1 y.1.2.1 y.1.2.2.1 y.1.2.2.2.2.2.1 y.2.2.1 y.2.2.2.1 z.1 z.2.1 z.2.2.1
def e7C(_N:Nat)(a7:d2):FuncId->Option Tmp->Option AF:=fun f _=>t7 [] f
theorem e7D(a7:d2)(i7:SoundP Tryz.prog GW B0G c2M 138 (e1y fun x y=>a7 y.1.1 y.1.2.1 y.1.2.2.1)):∀f q F,e7C N a7 f q=some F->Sound Tryz.prog GW B0G f F:=fun _ _ _ h=>D7 h lkn
def e6x(_N:Nat)(a7:d2):FuncId->Option Tmp->Option PF:=fun f _=>
 match f with
  |138=>some (e1y fun _ y=>a7 y.1.1 y.1.2.1 y.1.2.2.1)
  |_=>none
theorem e7E(a7:d2)(i7:SoundP Tryz.prog GW B0G c2M 138 (e1y fun x y=>a7 y.1.1 y.1.2.1 y.1.2.2.1)):∀f q F,e6x N a7 f q=some F->SoundP Tryz.prog GW B0G c2M f F:=by
 intro f q F h;unfold e6x at h;split at h
 ·cases h;exact i7
 ·cases h
def f05:Nat->Hint:=fun i=>
 match i with
 |100000=>⟨[],[1,2],[],[],[],[]⟩
 |_=>B8
abbrev f1N(a7:d2):Env:=a2Q f05 (e7C N a7) (e6x N a7) (fun i=>match i with|6=>true|7=>true|8=>true|_=>false) (fun _=>false)
theorem d1h(a7:d2)(i7:SoundP Tryz.prog GW B0G c2M 138 (e1y fun x y=>a7 y.1.1 y.1.2.1 y.1.2.2.1)):SoundP Tryz.prog GW B0G c2M 258 (d8L N a7):=
 a2x (f1N N a7) (L0 f05 (e7C N a7) (e6x N a7) _ _ (e7D N a7 i7) (e7E N a7 i7)) Tryz.func258 rfl Tryz.call258 (d8L N a7) (fun _ y=>let z:=y.2.2.2.2.1;(y.1.1,y.1.2.1,y.1.2.2.1,y.1.2.2.2.2.2.1,y.2.2.1,y.2.2.2.1,z.1,z.2.1,z.2.2.1)) (fun _ _=>rfl) N (fun _ _=>by kernel_rfl) rfl
def Q0(a7:d2)(g:Int)(l:d9)(m o:Int)(c:List d9)(p:List GPart)(q:List τ0)(r t:Int):Option (Except Int (Int×d9×Int×Int×List d9×List GPart×List τ0×Int×Int)):=o9 (m8 (s6 N q r t) fun a=>br (Zf (c.length + [a.1].length) .str) (m8 (k6 N [58] a.2.1 a.2.2.1 a.2.2.2) fun b=>m8 (F5 N a7 g l m o (c ++ [a.1]) p b.1 b.2.1 b.2.2) fun e=>some (.ok e)) none) (o9 (m8 (s6 N q r t) fun a=>br (Zf (c.length + [a.1].length) .str) (m8 (k6 N [58] a.2.1 a.2.2.1 a.2.2.2) fun b=>m8 (F5 N a7 g l m o (c ++ [a.1]) p b.1 b.2.1 b.2.2) fun e=>some (.ok e)) none) (m8 (s6 N q r t) fun a=>k9 1 (br (Zf (c.length + [a.1].length) .str) (m8 (k6 N [58] a.2.1 a.2.2.1 a.2.2.2) fun b=>m8 (F5 N a7 g l m o (c ++ [a.1]) p b.1 b.2.1 b.2.2) fun e=>some (.ok e)) none)))
abbrev e0V(f:SV [.box 0 0,.box 1 0,.box 2 0]->BV [.cells [V0,V1,V0,.row 3,.nilS,V0,.row 4],.cells [.box 5 0],.cells [.fnc 258 [0,1]],.row 9 .str false,.row 201 (.rc .part) true,.cells [V2,V0,V0]]->Option (Except Int (Int×d9×Int×Int×List d9×List GPart×List τ0×Int×Int))):PF:={ps:=[.box 0 0,.box 1 0,.box 2 0],bs:=[.cells [V0,V1,V0,.row 3,.nilS,V0,.row 4],.cells [.box 5 0],.cells [.fnc 258 [0,1]],.row 9 .str false,.row 201 (.rc .part) true,.cells [V2,V0,V0]],rs:=[],cs:=[.cells [V0,V1,V0,.row 3,.nilS,V0,.row 4],.cells [.box 5 0],.cells [.fnc 258 [0,1]],.row 9 .str false,.row 201 (.rc .part) true,.cells [V2,V0,V0]],R:=Int×d9×Int×Int×List d9×List GPart×List τ0×Int×Int,out:=fun z=>((),(z.1,z.2.1,z.2.2.1,(),(),z.2.2.2.1,(),()),((),()),((),()),z.2.2.2.2.1,z.2.2.2.2.2.1,(z.2.2.2.2.2.2.1,z.2.2.2.2.2.2.2.1,z.2.2.2.2.2.2.2.2,()),()),f:=f}
abbrev e0T(a7:d2):PF:=e0V fun _ y=>let z:=y.2.2.2.2.2.1;Q0 N a7 y.1.1 y.1.2.1 y.1.2.2.1 y.1.2.2.2.2.2.1 y.2.2.2.1 y.2.2.2.2.1 z.1 z.2.1 z.2.2.1
def d1i(_N:Nat)(a7:d2):FuncId->Option Tmp->Option AF:=fun f _=>t7 [] f
theorem d1j(a7:d2)(i7:SoundP Tryz.prog GW B0G c2M 138 (e1y fun x y=>a7 y.1.1 y.1.2.1 y.1.2.2.1)):∀f q F,d1i N a7 f q=some F->Sound Tryz.prog GW B0G f F:=fun _ _ _ h=>D7 h lkn
def c6k(a7:d2):FuncId->Option Tmp->Option PF:=fun f _=>
 match f with
  |76=>some (d9f N)
  |82=>some (d3i N)
  |258=>some (d8L N a7)
  |_=>none
theorem d1k(a7:d2)(i7:SoundP Tryz.prog GW B0G c2M 138 (e1y fun x y=>a7 y.1.1 y.1.2.1 y.1.2.2.1)):∀f q F,c6k N a7 f q=some F->SoundP Tryz.prog GW B0G c2M f F:=by
 intro f q F h;unfold c6k at h;split at h
 ·cases h;exact d27 N
 ·cases h;exact d3l N
 ·cases h;exact d1h N a7 i7
 ·cases h
def e0U:Nat->Hint:=fun i=>
 match i with
 |100000=>⟨[],[1,2],[],[],[],[]⟩
 |_=>B8
abbrev e3v(a7:d2):Env:=a2Q e0U (d1i N a7) (c6k N a7) (fun _=>false) (fun _=>false)
theorem d1l(a7:d2)(i7:SoundP Tryz.prog GW B0G c2M 138 (e1y fun x y=>a7 y.1.1 y.1.2.1 y.1.2.2.1)):SoundP Tryz.prog GW B0G c2M 259 (e0T N a7):=
 a2x (e3v N a7) (L0 e0U (d1i N a7) (c6k N a7) _ _ (d1j N a7 i7) (d1k N a7 i7)) Tryz.func259 rfl Tryz.call259 (e0T N a7) (fun _ y=>let z:=y.2.2.2.2.2.1;(y.1.1,y.1.2.1,y.1.2.2.1,y.1.2.2.2.2.2.1,y.2.2.2.1,y.2.2.2.2.1,z.1,z.2.1,z.2.2.1)) (fun _ _=>rfl) N (fun _ _=>by kernel_rfl) rfl
def a23(a7:d2)(k0 self:ρ1)(p:List τ0)(q r c:Int)(e:d9)(g l:Int)(m:List d9)(o:List GPart):Option (Except Int (List τ0×Int×Int×Int×d9×Int×List d9×Int×List GPart)):=j8 (l6 N 4 [44] p q r) fun b=>br (b.1) (m8 (Q0 N a7 c e g l m o b.2.1 b.2.2.1 b.2.2.2) fun a=>self a.2.2.2.2.2.2.1 a.2.2.2.2.2.2.2.1 a.2.2.2.2.2.2.2.2 a.1 a.2.1 a.2.2.1 a.2.2.2.1 a.2.2.2.2.1 a.2.2.2.2.2.1) (k0 b.2.1 b.2.2.1 b.2.2.2 c e g l m o)
def a6Q(N:Nat)(a7:d2)(k0:ρ1):Nat->τ6->Int->Int->Int->d9->Int->Int->τ20->(List GPart)->Option (Except Int (List τ0×Int×Int×Int×d9×Int×List d9×Int×List GPart))|0,_,_,_,_,_,_,_,_,_=>none|n+1,a,b,c,e,g,l,m,o,p=>a23 N a7 k0 (a6Q N a7 k0 n) a b c e g l m o p
def P2(a7:d2)(e:d9)(L:Bool)(H:List τ0)(J K g:Int)(l:d9)(m o:Int):Option (Except Int (List τ0×Int×Int×Int×d9×Int×List d9×Int×List GPart)):=br (L) (j8 (l6 N 4 e H J K) fun c=>br (c.1) (some (.ok (c.2.1,c.2.2.1,c.2.2.2,g,l,m,[],o,[]))) (m8 (P1 N a7 g l m o c.2.1 c.2.2.1 c.2.2.2) fun a=>a6Q N a7 (fun p q r t u v w B C=>m8 (k6 N e p q r) fun D=>some (.ok (D.1,D.2.1,D.2.2,t,u,v,B,w,C))) N a.2.2.2.2.1 a.2.2.2.2.2.1 a.2.2.2.2.2.2.1 a.1 a.2.1 a.2.2.1 a.2.2.2.1 a.2.2.2.2.2.2.2.1 a.2.2.2.2.2.2.2.2)) (m8 (P1 N a7 g l m o H J K) fun b=>a6Q N a7 (fun p q r t u v w B C=>m8 (k6 N e p q r) fun E=>some (.ok (E.1,E.2.1,E.2.2,t,u,v,B,w,C))) N b.2.2.2.2.1 b.2.2.2.2.2.1 b.2.2.2.2.2.2.1 b.1 b.2.1 b.2.2.1 b.2.2.2.1 b.2.2.2.2.2.2.2.1 b.2.2.2.2.2.2.2.2)
abbrev e1p(f:SV [.box 0 0,V1,V3,.fnc 259 [1,2,3]]->BV [.cells [V2,V0,V0],.cells [V0,V1,V0,.nilS,.nilS,V0,.nilS],.cells [.box 0 0],.cells [.fnc 258 [1,2]]]->Option (Except Int (List τ0×Int×Int×Int×d9×Int×List d9×Int×List GPart))):PF:={ps:=[.box 0 0,V1,V3,.fnc 259 [1,2,3]],bs:=[.cells [V2,V0,V0],.cells [V0,V1,V0,.nilS,.nilS,V0,.nilS],.cells [.box 0 0],.cells [.fnc 258 [1,2]]],rs:=[],cs:=[.cells [V2,V0,V0],.cells [V0,V1,V0,.v τ13,.nilS,V0,.v (.sl (.rc .part))],.cells [.box 0 0],.cells [.fnc 258 [1,2]]],R:=List τ0×Int×Int×Int×d9×Int×List d9×Int×List GPart,out:=fun z=>((),(z.1,z.2.1,z.2.2.1,()),(z.2.2.2.1,z.2.2.2.2.1,z.2.2.2.2.2.1,z.2.2.2.2.2.2.1,(),z.2.2.2.2.2.2.2.1,z.2.2.2.2.2.2.2.2,()),((),()),((),()),()),f:=f}
abbrev d6c(a7:d2):PF:=e1p fun x y=>P2 N a7 x.2.1 x.2.2.1 y.1.1 y.1.2.1 y.1.2.2.1 y.2.1.1 y.2.1.2.1 y.2.1.2.2.1 y.2.1.2.2.2.2.2.1
abbrev e71:SV []->BV [.cells [V2,V0,V0],.cells [V0,V1,V0,.v τ13,.nilS,V0,.v (.sl (.rc .part))],.cells [.box 0 0],.cells [.fnc 258 [1,2]]]->(List τ0×Int×Int×Int×d9×Int×List d9×Int×List GPart):=fun _ y=>let z:=y.2.1.2.2;(y.1.1,y.1.2.1,y.1.2.2.1,y.2.1.1,y.2.1.2.1,z.1,z.2.1,z.2.2.2.1,z.2.2.2.2.1)
abbrev d2D:SV []->BV [.cells [V2,V0,V0],.cells [V0,V1,V0,.v τ13,.nilS,V0,.v (.sl (.rc .part))],.cells [.box 0 0],.cells [.fnc 258 [1,2]]]->Except Int (List τ0×Int×Int×Int×d9×Int×List d9×Int×List GPart):=fun x y=> .ok (e71 x y)
def d2B(a7:d2):FuncId->Option Tmp->Option AF:=fun f _=>t7 [(74,d3b N)] f
theorem d2C(a7:d2)(i7:SoundP Tryz.prog GW B0G c2M 138 (e1y fun x y=>a7 y.1.1 y.1.2.1 y.1.2.2.1)):∀f q F,d2B N a7 f q=some F->Sound Tryz.prog GW B0G f F:=fun _ _ _ h=>D7 h (Q3 (d3e N) lkn)
def e6G(a7:d2):FuncId->Option Tmp->Option PF:=fun f q=>
 match f with
  |76=>some (d9f N)
  |259=>match q with|some 15=>some (d55 N a7)|some 19=>some (e0T N a7)|_=>none
  |_=>none
theorem e70(a7:d2)(i7:SoundP Tryz.prog GW B0G c2M 138 (e1y fun x y=>a7 y.1.1 y.1.2.1 y.1.2.2.1)):∀f q F,e6G N a7 f q=some F->SoundP Tryz.prog GW B0G c2M f F:=by
 intro f q F h;unfold e6G at h;split at h
 ·cases h;exact d27 N
 ·split at h
  ·cases h;exact c1S N a7 i7
  ·cases h;exact d1l N a7 i7
  ·cases h
 ·cases h
def c4s:Nat->Hint:=fun i=>
 match i with
 |0=>⟨[],[0,1,3],[0,1,2,3,101500,101501],[0,1],[0,1,2,3,101500,101501],[]⟩
 |_=>B8
abbrev b7e(a7:d2):Env:=a2Q c4s (d2B N a7) (e6G N a7) (fun _=>false) (fun _=>false)
abbrev c4r(a7:d2):=P5 (b7e N a7) Tryz.f77 (PF.tf (d6c N a7)) d2D
abbrev b09:List (Nat×Sl):=[(0,.box 0 0),(1,V1),(3,.fnc 259 [1,2,3])]
abbrev b08:List (Nat×Sb):=[(0,.cells [V2,V0,V0]),(1,.cells [V0,V1,V0,.row 101500,.nilS,V0,.row 101501]),(2,.cells [.box 0 0]),(3,.cells [.fnc 258 [1,2]]),(101500,.row 9 .str false),(101501,.row 201 (.rc .part) true)]
def b6c(a:d9)(b:List τ0)(c e g:Int)(l:d9)(m o:Int)(p:List d9)(q:List GPart):St:=⟨23,[(0,.box 0 0),(1,.v .str a),(3,.fnc 259 [1,2,3])],[(0,.cells [.v (.sl τ1) b,.v τ2 c,.v τ2 e]),(1,.cells [.v τ2 g,.v .str l,.v τ2 m,.row 101500,.nilS,.v τ2 o,.row 101501]),(2,.cells [.box 0 0]),(3,.cells [.fnc 258 [1,2]]),(101500,.row 9 .str false p),(101501,.row 201 (.rc .part) true q)]⟩
def a8P(a:d9)(b:List τ0)(c e g:Int)(l:d9)(m o:Int)(p:List d9)(q:List GPart):St:=⟨23,[(0,.box 0 0),(1,.v .str a)],[(0,.cells [.v (.sl τ1) b,.v τ2 c,.v τ2 e]),(1,.cells [.v τ2 g,.v .str l,.v τ2 m,.row 101500,.nilS,.v τ2 o,.row 101501]),(2,.cells [.box 0 0]),(3,.cells [.fnc 258 [1,2]]),(101500,.row 9 .str false p),(101501,.row 201 (.rc .part) true q)]⟩
def d6a(a7:d2)(a:d9)(b:List τ0)(c e g:Int)(l:d9)(m o:Int)(p:List d9)(q:List GPart)(k:Ex->St->Option (Except Int (List τ0×Int×Int×Int×d9×Int×List d9×Int×List GPart))):Option (Except Int (List τ0×Int×Int×Int×d9×Int×List d9×Int×List GPart)):=a6Q N a7 (fun r t u v w B C D E=>k (.exit 0) (a8P a r t u v w B C D E)) N b c e g l m o p q
abbrev c6D(a7:d2):FV b09->HV b08->(Ex->St->Option (Except Int (List τ0×Int×Int×Int×d9×Int×List d9×Int×List GPart)))->Option (Except Int (List τ0×Int×Int×Int×d9×Int×List d9×Int×List GPart)):=fun x y k=>d6a N a7 x.2.1 y.1.1 y.1.2.1 y.1.2.2.1 y.2.1.1 y.2.1.2.1 y.2.1.2.2.1 y.2.1.2.2.2.2.2.1 y.2.2.2.2.1 y.2.2.2.2.2.1 k
def b6d(a7:d2):Nat->Code->St->(Ex->St->Option (Except Int (List τ0×Int×Int×Int×d9×Int×List d9×Int×List GPart)))->Option (Except Int (List τ0×Int×Int×Int×d9×Int×List d9×Int×List GPart)):=fun i c=>
 match i with
 |0=>(LPc 23 b09 b08 (c6D N a7) (fun st k=>iter (c4s 0) (q7 (b7e N a7) N c 0) N st k))
 |i=>fun st k=>iter (c4s i) (q7 (b7e N a7) N c i) N st k
theorem c4q(a7:d2)(q:d9)(KX:Nat->St->Option (Except Int (List τ0×Int×Int×Int×d9×Int×List d9×Int×List GPart)))(I:St->Option (Except Int (List τ0×Int×Int×Int×d9×Int×List d9×Int×List GPart)))(a:List τ0)(b c e:Int)(g:d9)(l m:Int)(o:List d9)(p:List GPart):
  s4 (b6d N a7) (b7e N a7) b8w 0 (b6c q a b c e g l m o p) (I2 (c4s 0) I KX (c4r N a7))=a23 N a7 (fun r t u v w B C D E=>KX 0 (a8P q r t u v w B C D E)) (fun a b c e g l m o p=>I (b6c q a b c e g l m o p)) a b c e g l m o p:=by kernel_rfl
theorem d2A(a7:d2):∀x y k,(∀st,k .ret st=(c4r N a7) st)->iter (c4s 0) (q7 (b7e N a7) N b8w 0) N ⟨23,unF b09 x,unH b08 y⟩ k=c6D N a7 x y k:=fun x y k hk=>
 s5 (S:=τ6×(Int)×(Int)×(Int)×(d9)×(Int)×(Int)×τ20×(List GPart)×Unit) (c4s 0) _ (s4 (b6d N a7) (b7e N a7) b8w 0) (c4r N a7) (x9 _ _ N _ b8w 0 (show LoopsOk (b6d N a7) (b7e N a7) N (c4r N a7) []from trivial)) (fun s=>b6c x.2.1 s.1 s.2.1 s.2.2.1 s.2.2.2.1 s.2.2.2.2.1 s.2.2.2.2.2.1 s.2.2.2.2.2.2.1 s.2.2.2.2.2.2.2.1 s.2.2.2.2.2.2.2.2.1) k hk
  (fun self s=>let z:=s.2.2.2.2;a23 N a7 (fun a b c e g l m o p=>k (.exit 0) (a8P x.2.1 a b c e g l m o p)) (fun q r t u v w B C D=>self (q,r,t,u,v,w,B,C,D,())) s.1 s.2.1 s.2.2.1 s.2.2.2.1 z.1 z.2.1 z.2.2.1 z.2.2.2.1 z.2.2.2.2.1) (fun n s=>let z:=s.2.2.2.2;a6Q N a7 (fun a b c e g l m o p=>k (.exit 0) (a8P x.2.1 a b c e g l m o p)) n s.1 s.2.1 s.2.2.1 s.2.2.2.1 z.1 z.2.1 z.2.2.1 z.2.2.2.1 z.2.2.2.2.1) (fun _=>rfl) (fun _ _=>rfl)
  (fun I s=>let z:=s.2.2.2.2;c4q N a7 x.2.1 (fun j=>k (.exit j)) I s.1 s.2.1 s.2.2.1 s.2.2.2.1 z.1 z.2.1 z.2.2.1 z.2.2.2.1 z.2.2.2.2.1) N (y.1.1,y.1.2.1,y.1.2.2.1,y.2.1.1,y.2.1.2.1,y.2.1.2.2.1,y.2.1.2.2.2.2.2.1,y.2.2.2.2.1,y.2.2.2.2.2.1,())
theorem d88(a7:d2):a1g (b6d N a7) (b7e N a7) N (c4r N a7) 0 b8w:=fun st k hk=>J8 23 b09 b08 _ _ (c4r N a7) (d2A N a7) _ st k hk (rfl)
theorem d6b(a7:d2)(x:SV [.box 0 0,V1,V3,.fnc 259 [1,2,3]])(y:BV [.cells [V2,V0,V0],.cells [V0,V1,V0,.nilS,.nilS,V0,.nilS],.cells [.box 0 0],.cells [.fnc 258 [1,2]]]):a0f (b7e N a7) Tryz.f77 (PF.tf (d6c N a7)) d2D (b6d N a7) x y=P2 N a7 x.2.1 x.2.2.1 y.1.1 y.1.2.1 y.1.2.2.1 y.2.1.1 y.2.1.2.1 y.2.1.2.2.1 y.2.1.2.2.2.2.2.1:=by kernel_rfl
theorem d2E(a7:d2)(i7:SoundP Tryz.prog GW B0G c2M 138 (e1y fun x y=>a7 y.1.1 y.1.2.1 y.1.2.2.1)):SoundP Tryz.prog GW B0G c2M 77 (d6c N a7):=
 b49 (b7e N a7) (L0 c4s (d2B N a7) (e6G N a7) _ _ (d2C N a7 i7) (e70 N a7 i7)) Tryz.func77 rfl Tryz.call77 (d6c N a7) e71 (fun _ _=>rfl) N (b6d N a7) (show LoopsOk (b6d N a7) (b7e N a7) N (c4r N a7) [(0,b8w)]from⟨d88 N a7,trivial⟩) (d6b N a7)
end
end Go.Proofs.YtolpmfhiegpohaaGreatDoor
