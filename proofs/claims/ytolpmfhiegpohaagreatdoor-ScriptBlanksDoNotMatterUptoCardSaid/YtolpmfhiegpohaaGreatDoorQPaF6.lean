/- What functions of the program compute, as plain functions (printed). -/
import Derived.Test.YtolpmfhiegpohaaGreatDoorQPaF5
namespace Go.Proofs.YtolpmfhiegpohaaGreatDoor
open Go Go.RowKit
set_option maxRecDepth 100000
set_option linter.unusedVariables false
noncomputable section
variable(N:Nat)
def z8(_N:Nat)(a7:ρ11)(c:Int)(e:c8)(g l:Int)(m:List c8)(a:List GPart)(o:List τ0)(p q:Int):Option (Except Int (Int×c8×Int×Int×List c8×List GPart×List τ0×Int×Int)):=n7 (n7 (n7 (l7 (a7 o p q) fun b=>j0 1 (br (decide ((a.length + [GPart.mk 0 [] 0 [] 0 []].length)*(24*Ty.sz (.rc .part))<=140737488355328)) (br (decide (0<=(a.length:Int)/\(a.length:Int)<((a ++ [GPart.mk 0 [] 0 [] 0 []]).length:Int))) (j0 1 (f5 (l6 (a ++ [GPart.mk 0 [] 0 [] 0 []]) (a.length:Int)) fun _=>some (.ok (c,(e,(g,(l,(m,(B8 (a ++ [GPart.mk 0 [] 0 [] 0 []]) (a.length:Int) b.1,b.2))))))))) none) none)) (j0 1 (j0 1 (l7 (a7 o p q) fun b=>br (decide ((a.length + [GPart.mk 0 [] 0 [] 0 []].length)*(24*Ty.sz (.rc .part))<=140737488355328)) (br (decide (0<=(a.length:Int)/\(a.length:Int)<((a ++ [GPart.mk 0 [] 0 [] 0 []]).length:Int))) (j0 1 (f5 (l6 (a ++ [GPart.mk 0 [] 0 [] 0 []]) (a.length:Int)) fun _=>some (.ok (c,(e,(g,(l,(m,(B8 (a ++ [GPart.mk 0 [] 0 [] 0 []]) (a.length:Int) b.1,b.2))))))))) none) none)))) (j0 1 (n7 (j0 1 (l7 (a7 o p q) fun b=>br (decide ((a.length + [GPart.mk 0 [] 0 [] 0 []].length)*(24*Ty.sz (.rc .part))<=140737488355328)) (br (decide (0<=(a.length:Int)/\(a.length:Int)<((a ++ [GPart.mk 0 [] 0 [] 0 []]).length:Int))) (j0 1 (f5 (l6 (a ++ [GPart.mk 0 [] 0 [] 0 []]) (a.length:Int)) fun _=>some (.ok (c,(e,(g,(l,(m,(B8 (a ++ [GPart.mk 0 [] 0 [] 0 []]) (a.length:Int) b.1,b.2))))))))) none) none)) (l7 (a7 o p q) fun b=>br (decide ((a.length + [GPart.mk 0 [] 0 [] 0 []].length)*(24*Ty.sz (.rc .part))<=140737488355328)) (br (decide (0<=(a.length:Int)/\(a.length:Int)<((a ++ [GPart.mk 0 [] 0 [] 0 []]).length:Int))) (j0 1 (f5 (l6 (a ++ [GPart.mk 0 [] 0 [] 0 []]) (a.length:Int)) fun _=>some (.ok (c,(e,(g,(l,(m,(B8 (a ++ [GPart.mk 0 [] 0 [] 0 []]) (a.length:Int) b.1,b.2))))))))) none) none)))) (n7 (n7 (n7 (l7 (a7 o p q) fun b=>j0 1 (br (decide ((a.length + [GPart.mk 0 [] 0 [] 0 []].length)*(24*Ty.sz (.rc .part))<=140737488355328)) (br (decide (0<=(a.length:Int)/\(a.length:Int)<((a ++ [GPart.mk 0 [] 0 [] 0 []]).length:Int))) (j0 1 (f5 (l6 (a ++ [GPart.mk 0 [] 0 [] 0 []]) (a.length:Int)) fun _=>some (.ok (c,(e,(g,(l,(m,(B8 (a ++ [GPart.mk 0 [] 0 [] 0 []]) (a.length:Int) b.1,b.2))))))))) none) none)) (j0 1 (j0 1 (l7 (a7 o p q) fun b=>br (decide ((a.length + [GPart.mk 0 [] 0 [] 0 []].length)*(24*Ty.sz (.rc .part))<=140737488355328)) (br (decide (0<=(a.length:Int)/\(a.length:Int)<((a ++ [GPart.mk 0 [] 0 [] 0 []]).length:Int))) (j0 1 (f5 (l6 (a ++ [GPart.mk 0 [] 0 [] 0 []]) (a.length:Int)) fun _=>some (.ok (c,(e,(g,(l,(m,(B8 (a ++ [GPart.mk 0 [] 0 [] 0 []]) (a.length:Int) b.1,b.2))))))))) none) none)))) (n7 (l7 (a7 o p q) fun b=>n7 (j0 1 (br (decide ((a.length + [GPart.mk 0 [] 0 [] 0 []].length)*(24*Ty.sz (.rc .part))<=140737488355328)) (br (decide (0<=(a.length:Int)/\(a.length:Int)<((a ++ [GPart.mk 0 [] 0 [] 0 []]).length:Int))) (j0 1 (f5 (l6 (a ++ [GPart.mk 0 [] 0 [] 0 []]) (a.length:Int)) fun _=>some (.ok (c,(e,(g,(l,(m,(B8 (a ++ [GPart.mk 0 [] 0 [] 0 []]) (a.length:Int) b.1,b.2))))))))) none) none)) (br (decide ((a.length + [GPart.mk 0 [] 0 [] 0 []].length)*(24*Ty.sz (.rc .part))<=140737488355328)) (br (decide (0<=(a.length:Int)/\(a.length:Int)<((a ++ [GPart.mk 0 [] 0 [] 0 []]).length:Int))) (j0 1 (f5 (l6 (a ++ [GPart.mk 0 [] 0 [] 0 []]) (a.length:Int)) fun _=>some (.ok (c,(e,(g,(l,(m,(B8 (a ++ [GPart.mk 0 [] 0 [] 0 []]) (a.length:Int) b.1,b.2))))))))) none) none)) (n7 (j0 1 (l7 (a7 o p q) fun b=>br (decide ((a.length + [GPart.mk 0 [] 0 [] 0 []].length)*(24*Ty.sz (.rc .part))<=140737488355328)) (br (decide (0<=(a.length:Int)/\(a.length:Int)<((a ++ [GPart.mk 0 [] 0 [] 0 []]).length:Int))) (j0 1 (f5 (l6 (a ++ [GPart.mk 0 [] 0 [] 0 []]) (a.length:Int)) fun _=>some (.ok (c,(e,(g,(l,(m,(B8 (a ++ [GPart.mk 0 [] 0 [] 0 []]) (a.length:Int) b.1,b.2))))))))) none) none)) (l7 (a7 o p q) fun b=>br (decide ((a.length + [GPart.mk 0 [] 0 [] 0 []].length)*(24*Ty.sz (.rc .part))<=140737488355328)) (br (decide (0<=(a.length:Int)/\(a.length:Int)<((a ++ [GPart.mk 0 [] 0 [] 0 []]).length:Int))) (j0 1 (f5 (l6 (a ++ [GPart.mk 0 [] 0 [] 0 []]) (a.length:Int)) fun _=>some (.ok (c,(e,(g,(l,(m,(B8 (a ++ [GPart.mk 0 [] 0 [] 0 []]) (a.length:Int) b.1,b.2))))))))) none) none)))) (j0 1 (n7 (j0 1 (l7 (a7 o p q) fun b=>br (decide ((a.length + [GPart.mk 0 [] 0 [] 0 []].length)*(24*Ty.sz (.rc .part))<=140737488355328)) (br (decide (0<=(a.length:Int)/\(a.length:Int)<((a ++ [GPart.mk 0 [] 0 [] 0 []]).length:Int))) (j0 1 (f5 (l6 (a ++ [GPart.mk 0 [] 0 [] 0 []]) (a.length:Int)) fun _=>some (.ok (c,(e,(g,(l,(m,(B8 (a ++ [GPart.mk 0 [] 0 [] 0 []]) (a.length:Int) b.1,b.2))))))))) none) none)) (l7 (a7 o p q) fun b=>br (decide ((a.length + [GPart.mk 0 [] 0 [] 0 []].length)*(24*Ty.sz (.rc .part))<=140737488355328)) (br (decide (0<=(a.length:Int)/\(a.length:Int)<((a ++ [GPart.mk 0 [] 0 [] 0 []]).length:Int))) (j0 1 (f5 (l6 (a ++ [GPart.mk 0 [] 0 [] 0 []]) (a.length:Int)) fun _=>some (.ok (c,(e,(g,(l,(m,(B8 (a ++ [GPart.mk 0 [] 0 [] 0 []]) (a.length:Int) b.1,b.2))))))))) none) none))))
abbrev e2o(f:SV [.box 0 0,.box 1 0]->BV [.cells [V0,V1,V0,.row 2,.nilS,V0,.row 3],.cells [.box 4 0],.row 9 .str false,.row 201 (.rc .part) true,.cells [V2,V0,V0]]->Option (Except Int (Int×c8×Int×Int×List c8×List GPart×List τ0×Int×Int))):PF:={ps:=[.box 0 0,.box 1 0],bs:=[.cells [V0,V1,V0,.row 2,.nilS,V0,.row 3],.cells [.box 4 0],.row 9 .str false,.row 201 (.rc .part) true,.cells [V2,V0,V0]],rs:=[],cs:=[.cells [V0,V1,V0,.row 2,.nilS,V0,.row 3],.cells [.box 4 0],.row 9 .str false,.row 201 (.rc .part) true,.cells [V2,V0,V0]],R:=Int×c8×Int×Int×List c8×List GPart×List τ0×Int×Int,out:=fun z=>((),((z.1,z.2.1,z.2.2.1,(),(),z.2.2.2.1,(),()),((),()),z.2.2.2.2.1,z.2.2.2.2.2.1,(z.2.2.2.2.2.2.1,z.2.2.2.2.2.2.2.1,z.2.2.2.2.2.2.2.2,()),())),f:=f}
abbrev d6V(a7:ρ11):PF:=e2o fun _ y=>z8 N a7 y.1.1 y.1.2.1 y.1.2.2.1 y.1.2.2.2.2.2.1 y.2.2.1 y.2.2.2.1 y.2.2.2.2.1.1 y.2.2.2.2.1.2.1 y.2.2.2.2.1.2.2.1
def d1V(_N:Nat)(a7:ρ11):FuncId->Option Tmp->Option AF:=fun f _=>O5 [] f
theorem d1W(a7:ρ11)(d2:SoundP Tryz.prog GW B7 c2n 138 (e24 fun x y=>a7 y.1.1 y.1.2.1 y.1.2.2.1)):∀f q F,d1V N a7 f q=some F->Sound Tryz.prog GW B7 f F:=fun _ _ _ h=>o6 h G7
def c5T(_N:Nat)(a7:ρ11):FuncId->Option Tmp->Option PF:=fun f _=>
 match f with
  |138=>some (e24 fun _ y=>a7 y.1.1 y.1.2.1 y.1.2.2.1)
  |_=>none
theorem d1X(a7:ρ11)(d2:SoundP Tryz.prog GW B7 c2n 138 (e24 fun x y=>a7 y.1.1 y.1.2.1 y.1.2.2.1)):∀f q F,c5T N a7 f q=some F->SoundP Tryz.prog GW B7 c2n f F:=by
 intro f q F h
 unfold c5T at h
 split at h
 ·cases h;exact d2
 ·cases h
def e2n:Nat->Hint:=fun i=>
 match i with
 |100000=>⟨[],[1,2],[],[],[],[]⟩
 |_=>o3
abbrev e42(a7:ρ11):Env:=a0I e2n (d1V N a7) (c5T N a7) (fun i=>match i with|6=>true|7=>true|8=>true|_=>false) (fun _=>false)
theorem c1A(a7:ρ11)(d2:SoundP Tryz.prog GW B7 c2n 138 (e24 fun x y=>a7 y.1.1 y.1.2.1 y.1.2.2.1)):SoundP Tryz.prog GW B7 c2n 258 (d6V N a7):=
 a0p (e42 N a7) (D6 e2n (d1V N a7) (c5T N a7) _ _ (d1W N a7 d2) (d1X N a7 d2)) Tryz.func258 rfl Tryz.call258 (d6V N a7) (fun _ y=>(y.1.1,y.1.2.1,y.1.2.2.1,y.1.2.2.2.2.2.1,y.2.2.1,y.2.2.2.1,y.2.2.2.2.1.1,y.2.2.2.2.1.2.1,y.2.2.2.2.1.2.2.1)) (fun _ _=>rfl) N (fun _ _=>by kernel_rfl) rfl
def H6(a7:ρ11)(g:Int)(l:c8)(m o:Int)(c:List c8)(p:List GPart)(q:List τ0)(r t:Int):Option (Except Int (Int×c8×Int×Int×List c8×List GPart×List τ0×Int×Int)):=n7 (l7 (p9 N q r t) fun a=>br (decide ((c.length + [a.1].length)*(24*Ty.sz .str)<=140737488355328)) (l7 (g8 N [58] a.2.1 a.2.2.1 a.2.2.2) fun b=>l7 (z8 N a7 g l m o (c ++ [a.1]) p b.1 b.2.1 b.2.2) fun e=>some (.ok e)) none) (n7 (l7 (p9 N q r t) fun a=>br (decide ((c.length + [a.1].length)*(24*Ty.sz .str)<=140737488355328)) (l7 (g8 N [58] a.2.1 a.2.2.1 a.2.2.2) fun b=>l7 (z8 N a7 g l m o (c ++ [a.1]) p b.1 b.2.1 b.2.2) fun e=>some (.ok e)) none) (l7 (p9 N q r t) fun a=>j0 1 (br (decide ((c.length + [a.1].length)*(24*Ty.sz .str)<=140737488355328)) (l7 (g8 N [58] a.2.1 a.2.2.1 a.2.2.2) fun b=>l7 (z8 N a7 g l m o (c ++ [a.1]) p b.1 b.2.1 b.2.2) fun e=>some (.ok e)) none)))
abbrev e2q(f:SV [.box 0 0,.box 1 0,.box 2 0]->BV [.cells [V0,V1,V0,.row 3,.nilS,V0,.row 4],.cells [.box 5 0],.cells [.fnc 258 [0,1]],.row 9 .str false,.row 201 (.rc .part) true,.cells [V2,V0,V0]]->Option (Except Int (Int×c8×Int×Int×List c8×List GPart×List τ0×Int×Int))):PF:={ps:=[.box 0 0,.box 1 0,.box 2 0],bs:=[.cells [V0,V1,V0,.row 3,.nilS,V0,.row 4],.cells [.box 5 0],.cells [.fnc 258 [0,1]],.row 9 .str false,.row 201 (.rc .part) true,.cells [V2,V0,V0]],rs:=[],cs:=[.cells [V0,V1,V0,.row 3,.nilS,V0,.row 4],.cells [.box 5 0],.cells [.fnc 258 [0,1]],.row 9 .str false,.row 201 (.rc .part) true,.cells [V2,V0,V0]],R:=Int×c8×Int×Int×List c8×List GPart×List τ0×Int×Int,out:=fun z=>((),((z.1,z.2.1,z.2.2.1,(),(),z.2.2.2.1,(),()),((),()),((),()),z.2.2.2.2.1,z.2.2.2.2.2.1,(z.2.2.2.2.2.2.1,z.2.2.2.2.2.2.2.1,z.2.2.2.2.2.2.2.2,()),())),f:=f}
abbrev e0j(a7:ρ11):PF:=e2q fun _ y=>H6 N a7 y.1.1 y.1.2.1 y.1.2.2.1 y.1.2.2.2.2.2.1 y.2.2.2.1 y.2.2.2.2.1 y.2.2.2.2.2.1.1 y.2.2.2.2.2.1.2.1 y.2.2.2.2.2.1.2.2.1
def d1Y(_N:Nat)(a7:ρ11):FuncId->Option Tmp->Option AF:=fun f _=>O5 [] f
theorem d1Z(a7:ρ11)(d2:SoundP Tryz.prog GW B7 c2n 138 (e24 fun x y=>a7 y.1.1 y.1.2.1 y.1.2.2.1)):∀f q F,d1Y N a7 f q=some F->Sound Tryz.prog GW B7 f F:=fun _ _ _ h=>o6 h G7
def c5U(a7:ρ11):FuncId->Option Tmp->Option PF:=fun f _=>
 match f with
  |76=>some (e0O N)
  |82=>some (b59 N)
  |258=>some (d6V N a7)
  |_=>none
theorem d10(a7:ρ11)(d2:SoundP Tryz.prog GW B7 c2n 138 (e24 fun x y=>a7 y.1.1 y.1.2.1 y.1.2.2.1)):∀f q F,c5U N a7 f q=some F->SoundP Tryz.prog GW B7 c2n f F:=by
 intro f q F h
 unfold c5U at h
 split at h
 ·cases h;exact d31 N
 ·cases h;exact e6A N
 ·cases h;exact c1A N a7 d2
 ·cases h
def e2p:Nat->Hint:=fun i=>
 match i with
 |100000=>⟨[],[1,2],[],[],[],[]⟩
 |_=>o3
abbrev e43(a7:ρ11):Env:=a0I e2p (d1Y N a7) (c5U N a7) (fun _=>false) (fun _=>false)
theorem d11(a7:ρ11)(d2:SoundP Tryz.prog GW B7 c2n 138 (e24 fun x y=>a7 y.1.1 y.1.2.1 y.1.2.2.1)):SoundP Tryz.prog GW B7 c2n 259 (e0j N a7):=
 a0p (e43 N a7) (D6 e2p (d1Y N a7) (c5U N a7) _ _ (d1Z N a7 d2) (d10 N a7 d2)) Tryz.func259 rfl Tryz.call259 (e0j N a7) (fun _ y=>(y.1.1,y.1.2.1,y.1.2.2.1,y.1.2.2.2.2.2.1,y.2.2.2.1,y.2.2.2.2.1,y.2.2.2.2.2.1.1,y.2.2.2.2.2.1.2.1,y.2.2.2.2.2.1.2.2.1)) (fun _ _=>rfl) N (fun _ _=>by kernel_rfl) rfl
def b5A(a7:ρ11)(k0 self:ρ1)(p:List τ0)(q r c:Int)(e:c8)(g l:Int)(m:List c8)(o:List GPart):Option (Except Int (List τ0×Int×Int×Int×c8×Int×List c8×Int×List GPart)):=f5 (j6 N 4 [44] p q r) fun b=>br (b.1) (l7 (H6 N a7 c e g l m o b.2.1 b.2.2.1 b.2.2.2) fun a=>self a.2.2.2.2.2.2.1 a.2.2.2.2.2.2.2.1 a.2.2.2.2.2.2.2.2 a.1 a.2.1 a.2.2.1 a.2.2.2.1 a.2.2.2.2.1 a.2.2.2.2.2.1) (k0 b.2.1 b.2.2.1 b.2.2.2 c e g l m o)
def b8m(N:Nat)(a7:ρ11)(k0:ρ1):Nat->τ4->Int->Int->Int->c8->Int->Int->τ17->(List GPart)->Option (Except Int (List τ0×Int×Int×Int×c8×Int×List c8×Int×List GPart))|0,_,_,_,_,_,_,_,_,_=>none|n+1,a,b,c,e,g,l,m,o,p=>b5A N a7 k0 (b8m N a7 k0 n) a b c e g l m o p
def H0(a7:ρ11)(e:c8)(L:Bool)(H:List τ0)(J K g:Int)(l:c8)(m o:Int):Option (Except Int (List τ0×Int×Int×Int×c8×Int×List c8×Int×List GPart)):=br (L) (f5 (j6 N 4 e H J K) fun c=>br (c.1) (some (.ok (c.2.1,(c.2.2.1,(c.2.2.2,(g,(l,(m,([],(o,[])))))))))) (l7 (G9 N a7 g l m o c.2.1 c.2.2.1 c.2.2.2) fun a=>b8m N a7 (fun p q r t u v w B C=>l7 (g8 N e p q r) fun D=>some (.ok (D.1,(D.2.1,(D.2.2,(t,(u,(v,(B,(w,C)))))))))) N a.2.2.2.2.1 a.2.2.2.2.2.1 a.2.2.2.2.2.2.1 a.1 a.2.1 a.2.2.1 a.2.2.2.1 a.2.2.2.2.2.2.2.1 a.2.2.2.2.2.2.2.2)) (l7 (G9 N a7 g l m o H J K) fun b=>b8m N a7 (fun p q r t u v w B C=>l7 (g8 N e p q r) fun E=>some (.ok (E.1,(E.2.1,(E.2.2,(t,(u,(v,(B,(w,C)))))))))) N b.2.2.2.2.1 b.2.2.2.2.2.1 b.2.2.2.2.2.2.1 b.1 b.2.1 b.2.2.1 b.2.2.2.1 b.2.2.2.2.2.2.2.1 b.2.2.2.2.2.2.2.2)
abbrev e2T(f:SV [.box 0 0,V1,.v .bool,.fnc 259 [1,2,3]]->BV [.cells [V2,V0,V0],.cells [V0,V1,V0,.nilS,.nilS,V0,.nilS],.cells [.box 0 0],.cells [.fnc 258 [1,2]]]->Option (Except Int (List τ0×Int×Int×Int×c8×Int×List c8×Int×List GPart))):PF:={ps:=[.box 0 0,V1,.v .bool,.fnc 259 [1,2,3]],bs:=[.cells [V2,V0,V0],.cells [V0,V1,V0,.nilS,.nilS,V0,.nilS],.cells [.box 0 0],.cells [.fnc 258 [1,2]]],rs:=[],cs:=[.cells [V2,V0,V0],.cells [V0,V1,V0,.v τ11,.nilS,V0,.v (.sl (.rc .part))],.cells [.box 0 0],.cells [.fnc 258 [1,2]]],R:=List τ0×Int×Int×Int×c8×Int×List c8×Int×List GPart,out:=fun z=>((),((z.1,z.2.1,z.2.2.1,()),(z.2.2.2.1,z.2.2.2.2.1,z.2.2.2.2.2.1,z.2.2.2.2.2.2.1,(),z.2.2.2.2.2.2.2.1,z.2.2.2.2.2.2.2.2,()),((),()),((),()),())),f:=f}
abbrev d2X(a7:ρ11):PF:=e2T fun x y=>H0 N a7 x.2.1 x.2.2.1 y.1.1 y.1.2.1 y.1.2.2.1 y.2.1.1 y.2.1.2.1 y.2.1.2.2.1 y.2.1.2.2.2.2.2.1
abbrev d2Z:SV []->BV [.cells [V2,V0,V0],.cells [V0,V1,V0,.v τ11,.nilS,V0,.v (.sl (.rc .part))],.cells [.box 0 0],.cells [.fnc 258 [1,2]]]->(List τ0×Int×Int×Int×c8×Int×List c8×Int×List GPart):=fun _ y=>(y.1.1,y.1.2.1,y.1.2.2.1,y.2.1.1,y.2.1.2.1,y.2.1.2.2.1,y.2.1.2.2.2.1,y.2.1.2.2.2.2.2.1,y.2.1.2.2.2.2.2.2.1)
abbrev d8L:SV []->BV [.cells [V2,V0,V0],.cells [V0,V1,V0,.v τ11,.nilS,V0,.v (.sl (.rc .part))],.cells [.box 0 0],.cells [.fnc 258 [1,2]]]->Except Int (List τ0×Int×Int×Int×c8×Int×List c8×Int×List GPart):=fun x y=> .ok (d2Z x y)
def d2V(a7:ρ11):FuncId->Option Tmp->Option AF:=fun f _=>O5 [(74,e0P N)] f
theorem d2W(a7:ρ11)(d2:SoundP Tryz.prog GW B7 c2n 138 (e24 fun x y=>a7 y.1.1 y.1.2.1 y.1.2.2.1)):∀f q F,d2V N a7 f q=some F->Sound Tryz.prog GW B7 f F:=fun _ _ _ h=>o6 h (v8 (d32 N) G7)
def c55(a7:ρ11):FuncId->Option Tmp->Option PF:=fun f q=>
 match f with
  |76=>some (e0O N)
  |259=>match q with|some 15=>some (d2Q N a7)|some 19=>some (e0j N a7)|_=>none
  |_=>none
theorem d2Y(a7:ρ11)(d2:SoundP Tryz.prog GW B7 c2n 138 (e24 fun x y=>a7 y.1.1 y.1.2.1 y.1.2.2.1)):∀f q F,c55 N a7 f q=some F->SoundP Tryz.prog GW B7 c2n f F:=by
 intro f q F h
 unfold c55 at h
 split at h
 ·cases h;exact d31 N
 ·split at h
  ·cases h;exact d2S N a7 d2
  ·cases h;exact d11 N a7 d2
  ·cases h
 ·cases h
def c37:Nat->Hint:=fun i=>
 match i with
 |0=>⟨[],[0,1,3],[0,1,2,3,101500,101501],[0,1],[0,1,2,3,101500,101501],[]⟩
 |_=>o3
abbrev b5z(a7:ρ11):Env:=a0I c37 (d2V N a7) (c55 N a7) (fun _=>false) (fun _=>false)
abbrev c36(a7:ρ11):=A8 (b5z N a7) Tryz.f77 (PF.tf (d2X N a7)) d8L
abbrev a9R:List (Nat×Sl):=[(0,.box 0 0),(1,V1),(3,.fnc 259 [1,2,3])]
abbrev a9Q:List (Nat×Sb):=[(0,.cells [V2,V0,V0]),(1,.cells [V0,V1,V0,.row 101500,.nilS,V0,.row 101501]),(2,.cells [.box 0 0]),(3,.cells [.fnc 258 [1,2]]),(101500,.row 9 .str false),(101501,.row 201 (.rc .part) true)]
def b5B(a:c8)(b:List τ0)(c e g:Int)(l:c8)(m o:Int)(p:List c8)(q:List GPart):St:=⟨23,[(0,.box 0 0),(1,.v .str a),(3,.fnc 259 [1,2,3])],[(0,.cells [.v (.sl τ1) b,.v τ2 c,.v τ2 e]),(1,.cells [.v τ2 g,.v .str l,.v τ2 m,.row 101500,.nilS,.v τ2 o,.row 101501]),(2,.cells [.box 0 0]),(3,.cells [.fnc 258 [1,2]]),(101500,.row 9 .str false p),(101501,.row 201 (.rc .part) true q)]⟩
def a6V(a:c8)(b:List τ0)(c e g:Int)(l:c8)(m o:Int)(p:List c8)(q:List GPart):St:=⟨23,[(0,.box 0 0),(1,.v .str a)],[(0,.cells [.v (.sl τ1) b,.v τ2 c,.v τ2 e]),(1,.cells [.v τ2 g,.v .str l,.v τ2 m,.row 101500,.nilS,.v τ2 o,.row 101501]),(2,.cells [.box 0 0]),(3,.cells [.fnc 258 [1,2]]),(101500,.row 9 .str false p),(101501,.row 201 (.rc .part) true q)]⟩
def d7e(a7:ρ11)(a:c8)(b:List τ0)(c e g:Int)(l:c8)(m o:Int)(p:List c8)(q:List GPart)(k:Ex->St->Option (Except Int (List τ0×Int×Int×Int×c8×Int×List c8×Int×List GPart))):Option (Except Int (List τ0×Int×Int×Int×c8×Int×List c8×Int×List GPart)):=b8m N a7 (fun r t u v w B C D E=>k (.exit 0) (a6V a r t u v w B C D E)) N b c e g l m o p q
abbrev c54(a7:ρ11):FV a9R->HV a9Q->(Ex->St->Option (Except Int (List τ0×Int×Int×Int×c8×Int×List c8×Int×List GPart)))->Option (Except Int (List τ0×Int×Int×Int×c8×Int×List c8×Int×List GPart)):=fun x y k=>d7e N a7 x.2.1 y.1.1 y.1.2.1 y.1.2.2.1 y.2.1.1 y.2.1.2.1 y.2.1.2.2.1 y.2.1.2.2.2.2.2.1 y.2.2.2.2.1 y.2.2.2.2.2.1 k
def b5C(a7:ρ11):Nat->Code->St->(Ex->St->Option (Except Int (List τ0×Int×Int×Int×c8×Int×List c8×Int×List GPart)))->Option (Except Int (List τ0×Int×Int×Int×c8×Int×List c8×Int×List GPart)):=fun i c=>
 match i with
 |0=>(LPc 23 a9R a9Q (c54 N a7) (fun st k=>iter (c37 0) (V4 (b5z N a7) N c 0) N st k))
 |i=>fun st k=>iter (c37 i) (V4 (b5z N a7) N c i) N st k
theorem c35(a7:ρ11)(q:c8)(KX:Nat->St->Option (Except Int (List τ0×Int×Int×Int×c8×Int×List c8×Int×List GPart)))(I:St->Option (Except Int (List τ0×Int×Int×Int×c8×Int×List c8×Int×List GPart)))(a:List τ0)(b c e:Int)(g:c8)(l m:Int)(o:List c8)(p:List GPart):
  a0b (b5C N a7) (b5z N a7) d8l 0 (b5B q a b c e g l m o p) (p6 (c37 0) I KX (c36 N a7))=b5A N a7 (fun r t u v w B C D E=>KX 0 (a6V q r t u v w B C D E)) (fun a b c e g l m o p=>I (b5B q a b c e g l m o p)) a b c e g l m o p:=by kernel_rfl
theorem d2U(a7:ρ11):∀x y k,(∀st,k .ret st=(c36 N a7) st)->iter (c37 0) (V4 (b5z N a7) N d8l 0) N ⟨23,Y7 a9R x,Y8 a9Q y⟩ k=c54 N a7 x y k:=fun x y k hk=>
 j9 (S:=τ4×(Int)×(Int)×(Int)×(c8)×(Int)×(Int)×τ17×(List GPart)×Unit) (c37 0) _ (a0b (b5C N a7) (b5z N a7) d8l 0) (c36 N a7) (k9 _ _ N _ d8l 0 (show LoopsOk (b5C N a7) (b5z N a7) N (c36 N a7) []from trivial)) (fun s=>b5B x.2.1 s.1 s.2.1 s.2.2.1 s.2.2.2.1 s.2.2.2.2.1 s.2.2.2.2.2.1 s.2.2.2.2.2.2.1 s.2.2.2.2.2.2.2.1 s.2.2.2.2.2.2.2.2.1) k hk
  (fun self s=>b5A N a7 (fun a b c e g l m o p=>k (.exit 0) (a6V x.2.1 a b c e g l m o p)) (fun q r t u v w B C D=>self (q,r,t,u,v,w,B,C,D,())) s.1 s.2.1 s.2.2.1 s.2.2.2.1 s.2.2.2.2.1 s.2.2.2.2.2.1 s.2.2.2.2.2.2.1 s.2.2.2.2.2.2.2.1 s.2.2.2.2.2.2.2.2.1) (fun n s=>b8m N a7 (fun a b c e g l m o p=>k (.exit 0) (a6V x.2.1 a b c e g l m o p)) n s.1 s.2.1 s.2.2.1 s.2.2.2.1 s.2.2.2.2.1 s.2.2.2.2.2.1 s.2.2.2.2.2.2.1 s.2.2.2.2.2.2.2.1 s.2.2.2.2.2.2.2.2.1) (fun _=>rfl) (fun _ _=>rfl)
  (fun I s=>c35 N a7 x.2.1 (fun j=>k (.exit j)) I s.1 s.2.1 s.2.2.1 s.2.2.2.1 s.2.2.2.2.1 s.2.2.2.2.2.1 s.2.2.2.2.2.2.1 s.2.2.2.2.2.2.2.1 s.2.2.2.2.2.2.2.2.1) N (y.1.1,y.1.2.1,y.1.2.2.1,y.2.1.1,y.2.1.2.1,y.2.1.2.2.1,y.2.1.2.2.2.2.2.1,y.2.2.2.2.1,y.2.2.2.2.2.1,())
theorem e0E(a7:ρ11):F7 (b5C N a7) (b5z N a7) N (c36 N a7) 0 d8l:=fun st k hk=>p8 23 a9R a9Q _ _ (c36 N a7) (d2U N a7) _ st k hk (rfl)
theorem d7f(a7:ρ11)(x:SV [.box 0 0,V1,.v .bool,.fnc 259 [1,2,3]])(y:BV [.cells [V2,V0,V0],.cells [V0,V1,V0,.nilS,.nilS,V0,.nilS],.cells [.box 0 0],.cells [.fnc 258 [1,2]]]):F5 (b5z N a7) Tryz.f77 (PF.tf (d2X N a7)) d8L (b5C N a7) x y=H0 N a7 x.2.1 x.2.2.1 y.1.1 y.1.2.1 y.1.2.2.1 y.2.1.1 y.2.1.2.1 y.2.1.2.2.1 y.2.1.2.2.2.2.2.1:=by kernel_rfl
theorem d20(a7:ρ11)(d2:SoundP Tryz.prog GW B7 c2n 138 (e24 fun x y=>a7 y.1.1 y.1.2.1 y.1.2.2.1)):SoundP Tryz.prog GW B7 c2n 77 (d2X N a7):=
 b4k (b5z N a7) (D6 c37 (d2V N a7) (c55 N a7) _ _ (d2W N a7 d2) (d2Y N a7 d2)) Tryz.func77 rfl Tryz.call77 (d2X N a7) d2Z (fun _ _=>rfl) N (b5C N a7) (show LoopsOk (b5C N a7) (b5z N a7) N (c36 N a7) [(0,d8l)]from⟨e0E N a7,trivial⟩) (d7f N a7)
end
end Go.Proofs.YtolpmfhiegpohaaGreatDoor
