/- What functions of the program compute, as plain functions (printed). -/
import Derived.Test.YtolpmfhiegpohaaGreatDoorQPaF5
namespace Go.Proofs.YtolpmfhiegpohaaGreatDoor
open Go Go.RowKit
set_option maxRecDepth 100000
set_option linter.unusedVariables false
noncomputable section
variable(N:Nat)
def z8(_N:Nat)(a7:H2)(c:Int)(e:c8)(g l:Int)(m:List c8)(a:List GPart)(o:List τ0)(p q:Int):Option (Except Int (Int×c8×Int×Int×List c8×List GPart×List τ0×Int×Int)):=n7 (n7 (n7 (l7 (a7 o p q) fun b=>j0 1 (br (decide ((a.length + [GPart.mk 0 [] 0 [] 0 []].length)*(24*Ty.sz (.rc .part))<=140737488355328)) (br (decide (0<=(a.length:Int)/\(a.length:Int)<((a ++ [GPart.mk 0 [] 0 [] 0 []]).length:Int))) (j0 1 (f5 (l6 (a ++ [GPart.mk 0 [] 0 [] 0 []]) (a.length:Int)) fun _=>some (.ok (c,(e,(g,(l,(m,(B8 (a ++ [GPart.mk 0 [] 0 [] 0 []]) (a.length:Int) b.1,b.2))))))))) none) none)) (j0 1 (j0 1 (l7 (a7 o p q) fun b=>br (decide ((a.length + [GPart.mk 0 [] 0 [] 0 []].length)*(24*Ty.sz (.rc .part))<=140737488355328)) (br (decide (0<=(a.length:Int)/\(a.length:Int)<((a ++ [GPart.mk 0 [] 0 [] 0 []]).length:Int))) (j0 1 (f5 (l6 (a ++ [GPart.mk 0 [] 0 [] 0 []]) (a.length:Int)) fun _=>some (.ok (c,(e,(g,(l,(m,(B8 (a ++ [GPart.mk 0 [] 0 [] 0 []]) (a.length:Int) b.1,b.2))))))))) none) none)))) (j0 1 (n7 (j0 1 (l7 (a7 o p q) fun b=>br (decide ((a.length + [GPart.mk 0 [] 0 [] 0 []].length)*(24*Ty.sz (.rc .part))<=140737488355328)) (br (decide (0<=(a.length:Int)/\(a.length:Int)<((a ++ [GPart.mk 0 [] 0 [] 0 []]).length:Int))) (j0 1 (f5 (l6 (a ++ [GPart.mk 0 [] 0 [] 0 []]) (a.length:Int)) fun _=>some (.ok (c,(e,(g,(l,(m,(B8 (a ++ [GPart.mk 0 [] 0 [] 0 []]) (a.length:Int) b.1,b.2))))))))) none) none)) (l7 (a7 o p q) fun b=>br (decide ((a.length + [GPart.mk 0 [] 0 [] 0 []].length)*(24*Ty.sz (.rc .part))<=140737488355328)) (br (decide (0<=(a.length:Int)/\(a.length:Int)<((a ++ [GPart.mk 0 [] 0 [] 0 []]).length:Int))) (j0 1 (f5 (l6 (a ++ [GPart.mk 0 [] 0 [] 0 []]) (a.length:Int)) fun _=>some (.ok (c,(e,(g,(l,(m,(B8 (a ++ [GPart.mk 0 [] 0 [] 0 []]) (a.length:Int) b.1,b.2))))))))) none) none)))) (n7 (n7 (n7 (l7 (a7 o p q) fun b=>j0 1 (br (decide ((a.length + [GPart.mk 0 [] 0 [] 0 []].length)*(24*Ty.sz (.rc .part))<=140737488355328)) (br (decide (0<=(a.length:Int)/\(a.length:Int)<((a ++ [GPart.mk 0 [] 0 [] 0 []]).length:Int))) (j0 1 (f5 (l6 (a ++ [GPart.mk 0 [] 0 [] 0 []]) (a.length:Int)) fun _=>some (.ok (c,(e,(g,(l,(m,(B8 (a ++ [GPart.mk 0 [] 0 [] 0 []]) (a.length:Int) b.1,b.2))))))))) none) none)) (j0 1 (j0 1 (l7 (a7 o p q) fun b=>br (decide ((a.length + [GPart.mk 0 [] 0 [] 0 []].length)*(24*Ty.sz (.rc .part))<=140737488355328)) (br (decide (0<=(a.length:Int)/\(a.length:Int)<((a ++ [GPart.mk 0 [] 0 [] 0 []]).length:Int))) (j0 1 (f5 (l6 (a ++ [GPart.mk 0 [] 0 [] 0 []]) (a.length:Int)) fun _=>some (.ok (c,(e,(g,(l,(m,(B8 (a ++ [GPart.mk 0 [] 0 [] 0 []]) (a.length:Int) b.1,b.2))))))))) none) none)))) (n7 (l7 (a7 o p q) fun b=>n7 (j0 1 (br (decide ((a.length + [GPart.mk 0 [] 0 [] 0 []].length)*(24*Ty.sz (.rc .part))<=140737488355328)) (br (decide (0<=(a.length:Int)/\(a.length:Int)<((a ++ [GPart.mk 0 [] 0 [] 0 []]).length:Int))) (j0 1 (f5 (l6 (a ++ [GPart.mk 0 [] 0 [] 0 []]) (a.length:Int)) fun _=>some (.ok (c,(e,(g,(l,(m,(B8 (a ++ [GPart.mk 0 [] 0 [] 0 []]) (a.length:Int) b.1,b.2))))))))) none) none)) (br (decide ((a.length + [GPart.mk 0 [] 0 [] 0 []].length)*(24*Ty.sz (.rc .part))<=140737488355328)) (br (decide (0<=(a.length:Int)/\(a.length:Int)<((a ++ [GPart.mk 0 [] 0 [] 0 []]).length:Int))) (j0 1 (f5 (l6 (a ++ [GPart.mk 0 [] 0 [] 0 []]) (a.length:Int)) fun _=>some (.ok (c,(e,(g,(l,(m,(B8 (a ++ [GPart.mk 0 [] 0 [] 0 []]) (a.length:Int) b.1,b.2))))))))) none) none)) (n7 (j0 1 (l7 (a7 o p q) fun b=>br (decide ((a.length + [GPart.mk 0 [] 0 [] 0 []].length)*(24*Ty.sz (.rc .part))<=140737488355328)) (br (decide (0<=(a.length:Int)/\(a.length:Int)<((a ++ [GPart.mk 0 [] 0 [] 0 []]).length:Int))) (j0 1 (f5 (l6 (a ++ [GPart.mk 0 [] 0 [] 0 []]) (a.length:Int)) fun _=>some (.ok (c,(e,(g,(l,(m,(B8 (a ++ [GPart.mk 0 [] 0 [] 0 []]) (a.length:Int) b.1,b.2))))))))) none) none)) (l7 (a7 o p q) fun b=>br (decide ((a.length + [GPart.mk 0 [] 0 [] 0 []].length)*(24*Ty.sz (.rc .part))<=140737488355328)) (br (decide (0<=(a.length:Int)/\(a.length:Int)<((a ++ [GPart.mk 0 [] 0 [] 0 []]).length:Int))) (j0 1 (f5 (l6 (a ++ [GPart.mk 0 [] 0 [] 0 []]) (a.length:Int)) fun _=>some (.ok (c,(e,(g,(l,(m,(B8 (a ++ [GPart.mk 0 [] 0 [] 0 []]) (a.length:Int) b.1,b.2))))))))) none) none)))) (j0 1 (n7 (j0 1 (l7 (a7 o p q) fun b=>br (decide ((a.length + [GPart.mk 0 [] 0 [] 0 []].length)*(24*Ty.sz (.rc .part))<=140737488355328)) (br (decide (0<=(a.length:Int)/\(a.length:Int)<((a ++ [GPart.mk 0 [] 0 [] 0 []]).length:Int))) (j0 1 (f5 (l6 (a ++ [GPart.mk 0 [] 0 [] 0 []]) (a.length:Int)) fun _=>some (.ok (c,(e,(g,(l,(m,(B8 (a ++ [GPart.mk 0 [] 0 [] 0 []]) (a.length:Int) b.1,b.2))))))))) none) none)) (l7 (a7 o p q) fun b=>br (decide ((a.length + [GPart.mk 0 [] 0 [] 0 []].length)*(24*Ty.sz (.rc .part))<=140737488355328)) (br (decide (0<=(a.length:Int)/\(a.length:Int)<((a ++ [GPart.mk 0 [] 0 [] 0 []]).length:Int))) (j0 1 (f5 (l6 (a ++ [GPart.mk 0 [] 0 [] 0 []]) (a.length:Int)) fun _=>some (.ok (c,(e,(g,(l,(m,(B8 (a ++ [GPart.mk 0 [] 0 [] 0 []]) (a.length:Int) b.1,b.2))))))))) none) none))))
abbrev e2s(f:SV [.box 0 0,.box 1 0]->BV [.cells [V0,V1,V0,.row 2,.nilS,V0,.row 3],.cells [.box 4 0],.row 9 .str false,.row 201 (.rc .part) true,.cells [V3,V0,V0]]->Option (Except Int (Int×c8×Int×Int×List c8×List GPart×List τ0×Int×Int))):PF:={ps:=[.box 0 0,.box 1 0],bs:=[.cells [V0,V1,V0,.row 2,.nilS,V0,.row 3],.cells [.box 4 0],.row 9 .str false,.row 201 (.rc .part) true,.cells [V3,V0,V0]],rs:=[],cs:=[.cells [V0,V1,V0,.row 2,.nilS,V0,.row 3],.cells [.box 4 0],.row 9 .str false,.row 201 (.rc .part) true,.cells [V3,V0,V0]],R:=Int×c8×Int×Int×List c8×List GPart×List τ0×Int×Int,out:=fun z=>((),((z.1,z.2.1,z.2.2.1,(),(),z.2.2.2.1,(),()),((),()),z.2.2.2.2.1,z.2.2.2.2.2.1,(z.2.2.2.2.2.2.1,z.2.2.2.2.2.2.2.1,z.2.2.2.2.2.2.2.2,()),())),f:=f}
abbrev e0k(a7:H2):PF:=e2s fun _ y=>z8 N a7 y.1.1 y.1.2.1 y.1.2.2.1 y.1.2.2.2.2.2.1 y.2.2.1 y.2.2.2.1 y.2.2.2.2.1.1 y.2.2.2.2.1.2.1 y.2.2.2.2.1.2.2.1
def d12(_N:Nat)(a7:H2):FuncId->Option Tmp->Option AF:=fun f _=>O5 [] f
theorem d13(a7:H2)(d2:SoundP Tryz.prog GW B7 c2n 138 (G6 fun x y=>a7 y.1.1 y.1.2.1 y.1.2.2.1)):∀f q F,d12 N a7 f q=some F->Sound Tryz.prog GW B7 f F:=fun _ _ _ h=>o6 h G7
def c5V(_N:Nat)(a7:H2):FuncId->Option Tmp->Option PF:=fun f _=>
 match f with
  |138=>some (G6 fun _ y=>a7 y.1.1 y.1.2.1 y.1.2.2.1)
  |_=>none
theorem d14(a7:H2)(d2:SoundP Tryz.prog GW B7 c2n 138 (G6 fun x y=>a7 y.1.1 y.1.2.1 y.1.2.2.1)):∀f q F,c5V N a7 f q=some F->SoundP Tryz.prog GW B7 c2n f F:=by
 intro f q F h
 unfold c5V at h
 split at h
 ·cases h;exact d2
 ·cases h
def e2r:Nat->Hint:=fun i=>
 match i with
 |100000=>⟨[],[1,2],[],[],[],[]⟩
 |_=>o3
abbrev e44(a7:H2):Env:=a0I e2r (d12 N a7) (c5V N a7) (fun i=>match i with|6=>true|7=>true|8=>true|_=>false) (fun _=>false)
theorem d15(a7:H2)(d2:SoundP Tryz.prog GW B7 c2n 138 (G6 fun x y=>a7 y.1.1 y.1.2.1 y.1.2.2.1)):SoundP Tryz.prog GW B7 c2n 258 (e0k N a7):=
 a0p (e44 N a7) (D6 e2r (d12 N a7) (c5V N a7) _ _ (d13 N a7 d2) (d14 N a7 d2)) Tryz.func258 rfl Tryz.call258 (e0k N a7) (fun _ y=>(y.1.1,y.1.2.1,y.1.2.2.1,y.1.2.2.2.2.2.1,y.2.2.1,y.2.2.2.1,y.2.2.2.2.1.1,y.2.2.2.2.1.2.1,y.2.2.2.2.1.2.2.1)) (fun _ _=>rfl) N (fun _ _=>by kernel_rfl) rfl
def H6(a7:H2)(g:Int)(l:c8)(m o:Int)(c:List c8)(p:List GPart)(q:List τ0)(r t:Int):Option (Except Int (Int×c8×Int×Int×List c8×List GPart×List τ0×Int×Int)):=n7 (l7 (p9 N q r t) fun a=>br (decide ((c.length + [a.1].length)*(24*Ty.sz .str)<=140737488355328)) (l7 (g8 N [58] a.2.1 a.2.2.1 a.2.2.2) fun b=>l7 (z8 N a7 g l m o (c ++ [a.1]) p b.1 b.2.1 b.2.2) fun e=>some (.ok e)) none) (n7 (l7 (p9 N q r t) fun a=>br (decide ((c.length + [a.1].length)*(24*Ty.sz .str)<=140737488355328)) (l7 (g8 N [58] a.2.1 a.2.2.1 a.2.2.2) fun b=>l7 (z8 N a7 g l m o (c ++ [a.1]) p b.1 b.2.1 b.2.2) fun e=>some (.ok e)) none) (l7 (p9 N q r t) fun a=>j0 1 (br (decide ((c.length + [a.1].length)*(24*Ty.sz .str)<=140737488355328)) (l7 (g8 N [58] a.2.1 a.2.2.1 a.2.2.2) fun b=>l7 (z8 N a7 g l m o (c ++ [a.1]) p b.1 b.2.1 b.2.2) fun e=>some (.ok e)) none)))
abbrev e2u(f:SV [.box 0 0,.box 1 0,.box 2 0]->BV [.cells [V0,V1,V0,.row 3,.nilS,V0,.row 4],.cells [.box 5 0],.cells [.fnc 258 [0,1]],.row 9 .str false,.row 201 (.rc .part) true,.cells [V3,V0,V0]]->Option (Except Int (Int×c8×Int×Int×List c8×List GPart×List τ0×Int×Int))):PF:={ps:=[.box 0 0,.box 1 0,.box 2 0],bs:=[.cells [V0,V1,V0,.row 3,.nilS,V0,.row 4],.cells [.box 5 0],.cells [.fnc 258 [0,1]],.row 9 .str false,.row 201 (.rc .part) true,.cells [V3,V0,V0]],rs:=[],cs:=[.cells [V0,V1,V0,.row 3,.nilS,V0,.row 4],.cells [.box 5 0],.cells [.fnc 258 [0,1]],.row 9 .str false,.row 201 (.rc .part) true,.cells [V3,V0,V0]],R:=Int×c8×Int×Int×List c8×List GPart×List τ0×Int×Int,out:=fun z=>((),((z.1,z.2.1,z.2.2.1,(),(),z.2.2.2.1,(),()),((),()),((),()),z.2.2.2.2.1,z.2.2.2.2.2.1,(z.2.2.2.2.2.2.1,z.2.2.2.2.2.2.2.1,z.2.2.2.2.2.2.2.2,()),())),f:=f}
abbrev e0l(a7:H2):PF:=e2u fun _ y=>H6 N a7 y.1.1 y.1.2.1 y.1.2.2.1 y.1.2.2.2.2.2.1 y.2.2.2.1 y.2.2.2.2.1 y.2.2.2.2.2.1.1 y.2.2.2.2.2.1.2.1 y.2.2.2.2.2.1.2.2.1
def d16(_N:Nat)(a7:H2):FuncId->Option Tmp->Option AF:=fun f _=>O5 [] f
theorem d17(a7:H2)(d2:SoundP Tryz.prog GW B7 c2n 138 (G6 fun x y=>a7 y.1.1 y.1.2.1 y.1.2.2.1)):∀f q F,d16 N a7 f q=some F->Sound Tryz.prog GW B7 f F:=fun _ _ _ h=>o6 h G7
def c5W(a7:H2):FuncId->Option Tmp->Option PF:=fun f _=>
 match f with
  |76=>some (b0e N)
  |82=>some (c8G N)
  |258=>some (e0k N a7)
  |_=>none
theorem d18(a7:H2)(d2:SoundP Tryz.prog GW B7 c2n 138 (G6 fun x y=>a7 y.1.1 y.1.2.1 y.1.2.2.1)):∀f q F,c5W N a7 f q=some F->SoundP Tryz.prog GW B7 c2n f F:=by
 intro f q F h
 unfold c5W at h
 split at h
 ·cases h;exact R6 N
 ·cases h;exact b0g N
 ·cases h;exact d15 N a7 d2
 ·cases h
def e2t:Nat->Hint:=fun i=>
 match i with
 |100000=>⟨[],[1,2],[],[],[],[]⟩
 |_=>o3
abbrev e45(a7:H2):Env:=a0I e2t (d16 N a7) (c5W N a7) (fun _=>false) (fun _=>false)
theorem d19(a7:H2)(d2:SoundP Tryz.prog GW B7 c2n 138 (G6 fun x y=>a7 y.1.1 y.1.2.1 y.1.2.2.1)):SoundP Tryz.prog GW B7 c2n 259 (e0l N a7):=
 a0p (e45 N a7) (D6 e2t (d16 N a7) (c5W N a7) _ _ (d17 N a7 d2) (d18 N a7 d2)) Tryz.func259 rfl Tryz.call259 (e0l N a7) (fun _ y=>(y.1.1,y.1.2.1,y.1.2.2.1,y.1.2.2.2.2.2.1,y.2.2.2.1,y.2.2.2.2.1,y.2.2.2.2.2.1.1,y.2.2.2.2.2.1.2.1,y.2.2.2.2.2.1.2.2.1)) (fun _ _=>rfl) N (fun _ _=>by kernel_rfl) rfl
def b5L(a7:H2)(k0 self:ρ1)(p:List τ0)(q r c:Int)(e:c8)(g l:Int)(m:List c8)(o:List GPart):Option (Except Int (List τ0×Int×Int×Int×c8×Int×List c8×Int×List GPart)):=f5 (j6 N 4 [44] p q r) fun b=>br (b.1) (l7 (H6 N a7 c e g l m o b.2.1 b.2.2.1 b.2.2.2) fun a=>self a.2.2.2.2.2.2.1 a.2.2.2.2.2.2.2.1 a.2.2.2.2.2.2.2.2 a.1 a.2.1 a.2.2.1 a.2.2.2.1 a.2.2.2.2.1 a.2.2.2.2.2.1) (k0 b.2.1 b.2.2.1 b.2.2.2 c e g l m o)
def b5K(N:Nat)(a7:H2)(k0:ρ1):Nat->τ5->Int->Int->Int->c8->Int->Int->τ23->(List GPart)->Option (Except Int (List τ0×Int×Int×Int×c8×Int×List c8×Int×List GPart))|0,_,_,_,_,_,_,_,_,_=>none|n+1,a,b,c,e,g,l,m,o,p=>b5L N a7 k0 (b5K N a7 k0 n) a b c e g l m o p
def H0(a7:H2)(e:c8)(L:Bool)(H:List τ0)(J K g:Int)(l:c8)(m o:Int):Option (Except Int (List τ0×Int×Int×Int×c8×Int×List c8×Int×List GPart)):=br (L) (f5 (j6 N 4 e H J K) fun c=>br (c.1) (some (.ok (c.2.1,(c.2.2.1,(c.2.2.2,(g,(l,(m,([],(o,[])))))))))) (l7 (G9 N a7 g l m o c.2.1 c.2.2.1 c.2.2.2) fun a=>b5K N a7 (fun p q r t u v w B C=>l7 (g8 N e p q r) fun D=>some (.ok (D.1,(D.2.1,(D.2.2,(t,(u,(v,(B,(w,C)))))))))) N a.2.2.2.2.1 a.2.2.2.2.2.1 a.2.2.2.2.2.2.1 a.1 a.2.1 a.2.2.1 a.2.2.2.1 a.2.2.2.2.2.2.2.1 a.2.2.2.2.2.2.2.2)) (l7 (G9 N a7 g l m o H J K) fun b=>b5K N a7 (fun p q r t u v w B C=>l7 (g8 N e p q r) fun E=>some (.ok (E.1,(E.2.1,(E.2.2,(t,(u,(v,(B,(w,C)))))))))) N b.2.2.2.2.1 b.2.2.2.2.2.1 b.2.2.2.2.2.2.1 b.1 b.2.1 b.2.2.1 b.2.2.2.1 b.2.2.2.2.2.2.2.1 b.2.2.2.2.2.2.2.2)
abbrev e2Z(f:SV [.box 0 0,V1,V2,.fnc 259 [1,2,3]]->BV [.cells [V3,V0,V0],.cells [V0,V1,V0,.nilS,.nilS,V0,.nilS],.cells [.box 0 0],.cells [.fnc 258 [1,2]]]->Option (Except Int (List τ0×Int×Int×Int×c8×Int×List c8×Int×List GPart))):PF:={ps:=[.box 0 0,V1,V2,.fnc 259 [1,2,3]],bs:=[.cells [V3,V0,V0],.cells [V0,V1,V0,.nilS,.nilS,V0,.nilS],.cells [.box 0 0],.cells [.fnc 258 [1,2]]],rs:=[],cs:=[.cells [V3,V0,V0],.cells [V0,V1,V0,V4,.nilS,V0,.v (.sl (.rc .part))],.cells [.box 0 0],.cells [.fnc 258 [1,2]]],R:=List τ0×Int×Int×Int×c8×Int×List c8×Int×List GPart,out:=fun z=>((),((z.1,z.2.1,z.2.2.1,()),(z.2.2.2.1,z.2.2.2.2.1,z.2.2.2.2.2.1,z.2.2.2.2.2.2.1,(),z.2.2.2.2.2.2.2.1,z.2.2.2.2.2.2.2.2,()),((),()),((),()),())),f:=f}
abbrev d3j(a7:H2):PF:=e2Z fun x y=>H0 N a7 x.2.1 x.2.2.1 y.1.1 y.1.2.1 y.1.2.2.1 y.2.1.1 y.2.1.2.1 y.2.1.2.2.1 y.2.1.2.2.2.2.2.1
abbrev d3l:SV []->BV [.cells [V3,V0,V0],.cells [V0,V1,V0,V4,.nilS,V0,.v (.sl (.rc .part))],.cells [.box 0 0],.cells [.fnc 258 [1,2]]]->(List τ0×Int×Int×Int×c8×Int×List c8×Int×List GPart):=fun _ y=>(y.1.1,y.1.2.1,y.1.2.2.1,y.2.1.1,y.2.1.2.1,y.2.1.2.2.1,y.2.1.2.2.2.1,y.2.1.2.2.2.2.2.1,y.2.1.2.2.2.2.2.2.1)
abbrev d8N:SV []->BV [.cells [V3,V0,V0],.cells [V0,V1,V0,V4,.nilS,V0,.v (.sl (.rc .part))],.cells [.box 0 0],.cells [.fnc 258 [1,2]]]->Except Int (List τ0×Int×Int×Int×c8×Int×List c8×Int×List GPart):=fun x y=> .ok (d3l x y)
def d3h(a7:H2):FuncId->Option Tmp->Option AF:=fun f _=>O5 [(74,b0f N)] f
theorem d3i(a7:H2)(d2:SoundP Tryz.prog GW B7 c2n 138 (G6 fun x y=>a7 y.1.1 y.1.2.1 y.1.2.2.1)):∀f q F,d3h N a7 f q=some F->Sound Tryz.prog GW B7 f F:=fun _ _ _ h=>o6 h (v8 (R7 N) G7)
def c6b(a7:H2):FuncId->Option Tmp->Option PF:=fun f q=>
 match f with
  |76=>some (b0e N)
  |259=>match q with|some 15=>some (e0F N a7)|some 19=>some (e0l N a7)|_=>none
  |_=>none
theorem d3k(a7:H2)(d2:SoundP Tryz.prog GW B7 c2n 138 (G6 fun x y=>a7 y.1.1 y.1.2.1 y.1.2.2.1)):∀f q F,c6b N a7 f q=some F->SoundP Tryz.prog GW B7 c2n f F:=by
 intro f q F h
 unfold c6b at h
 split at h
 ·cases h;exact R6 N
 ·split at h
  ·cases h;exact d28 N a7 d2
  ·cases h;exact d19 N a7 d2
  ·cases h
 ·cases h
def c4f:Nat->Hint:=fun i=>
 match i with
 |0=>⟨[],[0,1,3],[0,1,2,3,101500,101501],[0,1],[0,1,2,3,101500,101501],[]⟩
 |_=>o3
abbrev b5J(a7:H2):Env:=a0I c4f (d3h N a7) (c6b N a7) (fun _=>false) (fun _=>false)
abbrev c4e(a7:H2):=A8 (b5J N a7) Tryz.f77 (PF.tf (d3j N a7)) d8N
abbrev a9V:List (Nat×Sl):=[(0,.box 0 0),(1,V1),(3,.fnc 259 [1,2,3])]
abbrev a9U:List (Nat×Sb):=[(0,.cells [V3,V0,V0]),(1,.cells [V0,V1,V0,.row 101500,.nilS,V0,.row 101501]),(2,.cells [.box 0 0]),(3,.cells [.fnc 258 [1,2]]),(101500,.row 9 .str false),(101501,.row 201 (.rc .part) true)]
def b5M(a:c8)(b:List τ0)(c e g:Int)(l:c8)(m o:Int)(p:List c8)(q:List GPart):St:=⟨23,[(0,.box 0 0),(1,.v .str a),(3,.fnc 259 [1,2,3])],[(0,.cells [.v (.sl τ1) b,.v τ2 c,.v τ2 e]),(1,.cells [.v τ2 g,.v .str l,.v τ2 m,.row 101500,.nilS,.v τ2 o,.row 101501]),(2,.cells [.box 0 0]),(3,.cells [.fnc 258 [1,2]]),(101500,.row 9 .str false p),(101501,.row 201 (.rc .part) true q)]⟩
def a6X(a:c8)(b:List τ0)(c e g:Int)(l:c8)(m o:Int)(p:List c8)(q:List GPart):St:=⟨23,[(0,.box 0 0),(1,.v .str a)],[(0,.cells [.v (.sl τ1) b,.v τ2 c,.v τ2 e]),(1,.cells [.v τ2 g,.v .str l,.v τ2 m,.row 101500,.nilS,.v τ2 o,.row 101501]),(2,.cells [.box 0 0]),(3,.cells [.fnc 258 [1,2]]),(101500,.row 9 .str false p),(101501,.row 201 (.rc .part) true q)]⟩
def d7i(a7:H2)(a:c8)(b:List τ0)(c e g:Int)(l:c8)(m o:Int)(p:List c8)(q:List GPart)(k:Ex->St->Option (Except Int (List τ0×Int×Int×Int×c8×Int×List c8×Int×List GPart))):Option (Except Int (List τ0×Int×Int×Int×c8×Int×List c8×Int×List GPart)):=b5K N a7 (fun r t u v w B C D E=>k (.exit 0) (a6X a r t u v w B C D E)) N b c e g l m o p q
abbrev c6a(a7:H2):FV a9V->HV a9U->(Ex->St->Option (Except Int (List τ0×Int×Int×Int×c8×Int×List c8×Int×List GPart)))->Option (Except Int (List τ0×Int×Int×Int×c8×Int×List c8×Int×List GPart)):=fun x y k=>d7i N a7 x.2.1 y.1.1 y.1.2.1 y.1.2.2.1 y.2.1.1 y.2.1.2.1 y.2.1.2.2.1 y.2.1.2.2.2.2.2.1 y.2.2.2.2.1 y.2.2.2.2.2.1 k
def b5N(a7:H2):Nat->Code->St->(Ex->St->Option (Except Int (List τ0×Int×Int×Int×c8×Int×List c8×Int×List GPart)))->Option (Except Int (List τ0×Int×Int×Int×c8×Int×List c8×Int×List GPart)):=fun i c=>
 match i with
 |0=>(LPc 23 a9V a9U (c6a N a7) (fun st k=>iter (c4f 0) (k6 (b5J N a7) N c 0) N st k))
 |i=>fun st k=>iter (c4f i) (k6 (b5J N a7) N c i) N st k
theorem c4d(a7:H2)(q:c8)(KX:Nat->St->Option (Except Int (List τ0×Int×Int×Int×c8×Int×List c8×Int×List GPart)))(I:St->Option (Except Int (List τ0×Int×Int×Int×c8×Int×List c8×Int×List GPart)))(a:List τ0)(b c e:Int)(g:c8)(l m:Int)(o:List c8)(p:List GPart):
  k7 (b5N N a7) (b5J N a7) S8 0 (b5M q a b c e g l m o p) (p6 (c4f 0) I KX (c4e N a7))=b5L N a7 (fun r t u v w B C D E=>KX 0 (a6X q r t u v w B C D E)) (fun a b c e g l m o p=>I (b5M q a b c e g l m o p)) a b c e g l m o p:=by kernel_rfl
theorem d3g(a7:H2):∀x y k,(∀st,k .ret st=(c4e N a7) st)->iter (c4f 0) (k6 (b5J N a7) N S8 0) N ⟨23,Y7 a9V x,Y8 a9U y⟩ k=c6a N a7 x y k:=fun x y k hk=>
 j9 (S:=τ5×(Int)×(Int)×(Int)×(c8)×(Int)×(Int)×τ23×(List GPart)×Unit) (c4f 0) _ (k7 (b5N N a7) (b5J N a7) S8 0) (c4e N a7) (k9 _ _ N _ S8 0 (show LoopsOk (b5N N a7) (b5J N a7) N (c4e N a7) []from trivial)) (fun s=>b5M x.2.1 s.1 s.2.1 s.2.2.1 s.2.2.2.1 s.2.2.2.2.1 s.2.2.2.2.2.1 s.2.2.2.2.2.2.1 s.2.2.2.2.2.2.2.1 s.2.2.2.2.2.2.2.2.1) k hk
  (fun self s=>b5L N a7 (fun a b c e g l m o p=>k (.exit 0) (a6X x.2.1 a b c e g l m o p)) (fun q r t u v w B C D=>self (q,r,t,u,v,w,B,C,D,())) s.1 s.2.1 s.2.2.1 s.2.2.2.1 s.2.2.2.2.1 s.2.2.2.2.2.1 s.2.2.2.2.2.2.1 s.2.2.2.2.2.2.2.1 s.2.2.2.2.2.2.2.2.1) (fun n s=>b5K N a7 (fun a b c e g l m o p=>k (.exit 0) (a6X x.2.1 a b c e g l m o p)) n s.1 s.2.1 s.2.2.1 s.2.2.2.1 s.2.2.2.2.1 s.2.2.2.2.2.1 s.2.2.2.2.2.2.1 s.2.2.2.2.2.2.2.1 s.2.2.2.2.2.2.2.2.1) (fun _=>rfl) (fun _ _=>rfl)
  (fun I s=>c4d N a7 x.2.1 (fun j=>k (.exit j)) I s.1 s.2.1 s.2.2.1 s.2.2.2.1 s.2.2.2.2.1 s.2.2.2.2.2.1 s.2.2.2.2.2.2.1 s.2.2.2.2.2.2.2.1 s.2.2.2.2.2.2.2.2.1) N (y.1.1,y.1.2.1,y.1.2.2.1,y.2.1.1,y.2.1.2.1,y.2.1.2.2.1,y.2.1.2.2.2.2.2.1,y.2.2.2.2.1,y.2.2.2.2.2.1,())
theorem e0H(a7:H2):F7 (b5N N a7) (b5J N a7) N (c4e N a7) 0 S8:=fun st k hk=>p8 23 a9V a9U _ _ (c4e N a7) (d3g N a7) _ st k hk (rfl)
theorem d7j(a7:H2)(x:SV [.box 0 0,V1,V2,.fnc 259 [1,2,3]])(y:BV [.cells [V3,V0,V0],.cells [V0,V1,V0,.nilS,.nilS,V0,.nilS],.cells [.box 0 0],.cells [.fnc 258 [1,2]]]):F5 (b5J N a7) Tryz.f77 (PF.tf (d3j N a7)) d8N (b5N N a7) x y=H0 N a7 x.2.1 x.2.2.1 y.1.1 y.1.2.1 y.1.2.2.1 y.2.1.1 y.2.1.2.1 y.2.1.2.2.1 y.2.1.2.2.2.2.2.1:=by kernel_rfl
theorem d3m(a7:H2)(d2:SoundP Tryz.prog GW B7 c2n 138 (G6 fun x y=>a7 y.1.1 y.1.2.1 y.1.2.2.1)):SoundP Tryz.prog GW B7 c2n 77 (d3j N a7):=
 b4k (b5J N a7) (D6 c4f (d3h N a7) (c6b N a7) _ _ (d3i N a7 d2) (d3k N a7 d2)) Tryz.func77 rfl Tryz.call77 (d3j N a7) d3l (fun _ _=>rfl) N (b5N N a7) (show LoopsOk (b5N N a7) (b5J N a7) N (c4e N a7) [(0,S8)]from⟨e0H N a7,trivial⟩) (d7j N a7)
end
end Go.Proofs.YtolpmfhiegpohaaGreatDoor
