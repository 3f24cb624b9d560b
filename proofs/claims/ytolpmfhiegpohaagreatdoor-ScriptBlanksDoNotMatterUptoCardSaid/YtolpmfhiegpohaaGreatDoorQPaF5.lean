/- What functions of the program compute, as plain functions (printed). -/
import Derived.Test.YtolpmfhiegpohaaGreatDoorQPaF4
namespace Go.Proofs.YtolpmfhiegpohaaGreatDoor
open Go Go.RowKit
set_option maxRecDepth 100000
set_option linter.unusedVariables false
noncomputable section
variable(N:Nat)
def e7R(a7:ρ11)(k0 self:ρ2)(o:List τ0)(p q c:Int)(e:c8)(g l:Int)(m:List GPart):Option (Except Int (List τ0×Int×Int×Int×c8×Int×Int×List GPart)):=f5 (j6 N 4 [44] o p q) fun b=>br (b.1) (l7 (z6 N a7 c e g l m b.2.1 b.2.2.1 b.2.2.2) fun a=>self a.2.2.2.2.2.1 a.2.2.2.2.2.2.1 a.2.2.2.2.2.2.2 a.1 a.2.1 a.2.2.1 a.2.2.2.1 a.2.2.2.2.1) (k0 b.2.1 b.2.2.1 b.2.2.2 c e g l m)
def e7Q(N:Nat)(a7:ρ11)(k0:ρ2):Nat->τ4->Int->Int->Int->c8->Int->Int->(List GPart)->Option (Except Int (List τ0×Int×Int×Int×c8×Int×Int×List GPart))|0,_,_,_,_,_,_,_,_=>none|n+1,a,b,c,e,g,l,m,o=>e7R N a7 k0 (e7Q N a7 k0 n) a b c e g l m o
def D5(a7:ρ11)(e:c8)(K:Bool)(E:List τ0)(H J g:Int)(l:c8)(m o:Int):Option (Except Int (List τ0×Int×Int×Int×c8×Int×Int×List GPart)):=br (K) (f5 (j6 N 4 e E H J) fun c=>br (c.1) (some (.ok (c.2.1,(c.2.2.1,(c.2.2.2,(g,(l,(m,(o,[]))))))))) (l7 (v6 N a7 g l m o c.2.1 c.2.2.1 c.2.2.2) fun a=>e7Q N a7 (fun p q r t u v w B=>l7 (g8 N e p q r) fun C=>some (.ok (C.1,(C.2.1,(C.2.2,(t,(u,(v,(w,B))))))))) N a.2.2.2.2.1 a.2.2.2.2.2.1 a.2.2.2.2.2.2.1 a.1 a.2.1 a.2.2.1 a.2.2.2.1 a.2.2.2.2.2.2.2)) (l7 (v6 N a7 g l m o E H J) fun b=>e7Q N a7 (fun p q r t u v w B=>l7 (g8 N e p q r) fun D=>some (.ok (D.1,(D.2.1,(D.2.2,(t,(u,(v,(w,B))))))))) N b.2.2.2.2.1 b.2.2.2.2.2.1 b.2.2.2.2.2.2.1 b.1 b.2.1 b.2.2.1 b.2.2.2.1 b.2.2.2.2.2.2.2)
abbrev d8K(f:SV [.box 0 0,V1,.v .bool,.fnc 258 [1,2]]->BV [.cells [V2,V0,V0],.cells [V0,V1,V0,.nilS,.nilS,V0,.nilS],.cells [.box 0 0]]->Option (Except Int (List τ0×Int×Int×Int×c8×Int×Int×List GPart))):PF:={ps:=[.box 0 0,V1,.v .bool,.fnc 258 [1,2]],bs:=[.cells [V2,V0,V0],.cells [V0,V1,V0,.nilS,.nilS,V0,.nilS],.cells [.box 0 0]],rs:=[],cs:=[.cells [V2,V0,V0],.cells [V0,V1,V0,.nilS,.nilS,V0,.v (.sl (.rc .part))],.cells [.box 0 0]],R:=List τ0×Int×Int×Int×c8×Int×Int×List GPart,out:=fun z=>((),((z.1,z.2.1,z.2.2.1,()),(z.2.2.2.1,z.2.2.2.2.1,z.2.2.2.2.2.1,(),(),z.2.2.2.2.2.2.1,z.2.2.2.2.2.2.2,()),((),()),())),f:=f}
abbrev f2h(a7:ρ11):PF:=d8K fun x y=>D5 N a7 x.2.1 x.2.2.1 y.1.1 y.1.2.1 y.1.2.2.1 y.2.1.1 y.2.1.2.1 y.2.1.2.2.1 y.2.1.2.2.2.2.2.1
abbrev f2j:SV []->BV [.cells [V2,V0,V0],.cells [V0,V1,V0,.nilS,.nilS,V0,.v (.sl (.rc .part))],.cells [.box 0 0]]->(List τ0×Int×Int×Int×c8×Int×Int×List GPart):=fun _ y=>(y.1.1,y.1.2.1,y.1.2.2.1,y.2.1.1,y.2.1.2.1,y.2.1.2.2.1,y.2.1.2.2.2.2.2.1,y.2.1.2.2.2.2.2.2.1)
abbrev f4D:SV []->BV [.cells [V2,V0,V0],.cells [V0,V1,V0,.nilS,.nilS,V0,.v (.sl (.rc .part))],.cells [.box 0 0]]->Except Int (List τ0×Int×Int×Int×c8×Int×Int×List GPart):=fun x y=> .ok (f2j x y)
def f2f(a7:ρ11):FuncId->Option Tmp->Option AF:=fun f _=>O5 [(74,e0P N)] f
theorem f2g(a7:ρ11)(d2:SoundP Tryz.prog GW B7 c2n 138 (e24 fun x y=>a7 y.1.1 y.1.2.1 y.1.2.2.1)):∀f q F,f2f N a7 f q=some F->Sound Tryz.prog GW B7 f F:=fun _ _ _ h=>o6 h (v8 (d32 N) G7)
def f0N(a7:ρ11):FuncId->Option Tmp->Option PF:=fun f q=>
 match f with
  |76=>some (e0O N)
  |258=>match q with|some 15=>some (d2L N a7)|some 19=>some (d1N N a7)|_=>none
  |_=>none
theorem f2i(a7:ρ11)(d2:SoundP Tryz.prog GW B7 c2n 138 (e24 fun x y=>a7 y.1.1 y.1.2.1 y.1.2.2.1)):∀f q F,f0N N a7 f q=some F->SoundP Tryz.prog GW B7 c2n f F:=by
 intro f q F h
 unfold f0N at h
 split at h
 ·cases h;exact d31 N
 ·split at h
  ·cases h;exact d2N N a7 d2
  ·cases h;exact d1P N a7 d2
  ·cases h
 ·cases h
def e9R:Nat->Hint:=fun i=>
 match i with
 |0=>⟨[],[0,1,3],[0,1,2,101500],[0,1],[0,1,2,101500],[]⟩
 |_=>o3
abbrev e7P(a7:ρ11):Env:=a0I e9R (f2f N a7) (f0N N a7) (fun _=>false) (fun _=>false)
abbrev e9Q(a7:ρ11):=A8 (e7P N a7) Tryz.f77 (PF.tf (f2h N a7)) f4D
abbrev e6v:List (Nat×Sl):=[(0,.box 0 0),(1,V1),(3,.fnc 258 [1,2])]
abbrev e6u:List (Nat×Sb):=[(0,.cells [V2,V0,V0]),(1,.cells [V0,V1,V0,.nilS,.nilS,V0,.row 101500]),(2,.cells [.box 0 0]),(101500,.row 201 (.rc .part) true)]
def e7S(a:c8)(b:List τ0)(c e g:Int)(l:c8)(m o:Int)(p:List GPart):St:=⟨23,[(0,.box 0 0),(1,.v .str a),(3,.fnc 258 [1,2])],[(0,.cells [.v (.sl τ1) b,.v τ2 c,.v τ2 e]),(1,.cells [.v τ2 g,.v .str l,.v τ2 m,.nilS,.nilS,.v τ2 o,.row 101500]),(2,.cells [.box 0 0]),(101500,.row 201 (.rc .part) true p)]⟩
def e5F(a:c8)(b:List τ0)(c e g:Int)(l:c8)(m o:Int)(p:List GPart):St:=⟨23,[(0,.box 0 0),(1,.v .str a)],[(0,.cells [.v (.sl τ1) b,.v τ2 c,.v τ2 e]),(1,.cells [.v τ2 g,.v .str l,.v τ2 m,.nilS,.nilS,.v τ2 o,.row 101500]),(2,.cells [.box 0 0]),(101500,.row 201 (.rc .part) true p)]⟩
def f3R(a7:ρ11)(a:c8)(b:List τ0)(c e g:Int)(l:c8)(m o:Int)(p:List GPart)(k:Ex->St->Option (Except Int (List τ0×Int×Int×Int×c8×Int×Int×List GPart))):Option (Except Int (List τ0×Int×Int×Int×c8×Int×Int×List GPart)):=e7Q N a7 (fun q r t u v w B C=>k (.exit 0) (e5F a q r t u v w B C)) N b c e g l m o p
abbrev f0M(a7:ρ11):FV e6v->HV e6u->(Ex->St->Option (Except Int (List τ0×Int×Int×Int×c8×Int×Int×List GPart)))->Option (Except Int (List τ0×Int×Int×Int×c8×Int×Int×List GPart)):=fun x y k=>f3R N a7 x.2.1 y.1.1 y.1.2.1 y.1.2.2.1 y.2.1.1 y.2.1.2.1 y.2.1.2.2.1 y.2.1.2.2.2.2.2.1 y.2.2.2.1 k
def e7T(a7:ρ11):Nat->Code->St->(Ex->St->Option (Except Int (List τ0×Int×Int×Int×c8×Int×Int×List GPart)))->Option (Except Int (List τ0×Int×Int×Int×c8×Int×Int×List GPart)):=fun i c=>
 match i with
 |0=>(LPc 23 e6v e6u (f0M N a7) (fun st k=>iter (e9R 0) (V4 (e7P N a7) N c 0) N st k))
 |i=>fun st k=>iter (e9R i) (V4 (e7P N a7) N c i) N st k
theorem e9P(a7:ρ11)(p:c8)(KX:Nat->St->Option (Except Int (List τ0×Int×Int×Int×c8×Int×Int×List GPart)))(I:St->Option (Except Int (List τ0×Int×Int×Int×c8×Int×Int×List GPart)))(a:List τ0)(b c e:Int)(g:c8)(l m:Int)(o:List GPart):
  a0b (e7T N a7) (e7P N a7) d8l 0 (e7S p a b c e g l m o) (p6 (e9R 0) I KX (e9Q N a7))=e7R N a7 (fun q r t u v w B C=>KX 0 (e5F p q r t u v w B C)) (fun a b c e g l m o=>I (e7S p a b c e g l m o)) a b c e g l m o:=by kernel_rfl
theorem f2e(a7:ρ11):∀x y k,(∀st,k .ret st=(e9Q N a7) st)->iter (e9R 0) (V4 (e7P N a7) N d8l 0) N ⟨23,Y7 e6v x,Y8 e6u y⟩ k=f0M N a7 x y k:=fun x y k hk=>
 j9 (S:=τ4×(Int)×(Int)×(Int)×(c8)×(Int)×(Int)×(List GPart)×Unit) (e9R 0) _ (a0b (e7T N a7) (e7P N a7) d8l 0) (e9Q N a7) (k9 _ _ N _ d8l 0 (show LoopsOk (e7T N a7) (e7P N a7) N (e9Q N a7) []from trivial)) (fun s=>e7S x.2.1 s.1 s.2.1 s.2.2.1 s.2.2.2.1 s.2.2.2.2.1 s.2.2.2.2.2.1 s.2.2.2.2.2.2.1 s.2.2.2.2.2.2.2.1) k hk
  (fun self s=>e7R N a7 (fun a b c e g l m o=>k (.exit 0) (e5F x.2.1 a b c e g l m o)) (fun p q r t u v w B=>self (p,q,r,t,u,v,w,B,())) s.1 s.2.1 s.2.2.1 s.2.2.2.1 s.2.2.2.2.1 s.2.2.2.2.2.1 s.2.2.2.2.2.2.1 s.2.2.2.2.2.2.2.1) (fun n s=>e7Q N a7 (fun a b c e g l m o=>k (.exit 0) (e5F x.2.1 a b c e g l m o)) n s.1 s.2.1 s.2.2.1 s.2.2.2.1 s.2.2.2.2.1 s.2.2.2.2.2.1 s.2.2.2.2.2.2.1 s.2.2.2.2.2.2.2.1) (fun _=>rfl) (fun _ _=>rfl)
  (fun I s=>e9P N a7 x.2.1 (fun j=>k (.exit j)) I s.1 s.2.1 s.2.2.1 s.2.2.2.1 s.2.2.2.2.1 s.2.2.2.2.2.1 s.2.2.2.2.2.2.1 s.2.2.2.2.2.2.2.1) N (y.1.1,y.1.2.1,y.1.2.2.1,y.2.1.1,y.2.1.2.1,y.2.1.2.2.1,y.2.1.2.2.2.2.2.1,y.2.2.2.1,())
theorem f4Z(a7:ρ11):F7 (e7T N a7) (e7P N a7) N (e9Q N a7) 0 d8l:=fun st k hk=>p8 23 e6v e6u _ _ (e9Q N a7) (f2e N a7) _ st k hk (rfl)
theorem f3S(a7:ρ11)(x:SV [.box 0 0,V1,.v .bool,.fnc 258 [1,2]])(y:BV [.cells [V2,V0,V0],.cells [V0,V1,V0,.nilS,.nilS,V0,.nilS],.cells [.box 0 0]]):F5 (e7P N a7) Tryz.f77 (PF.tf (f2h N a7)) f4D (e7T N a7) x y=D5 N a7 x.2.1 x.2.2.1 y.1.1 y.1.2.1 y.1.2.2.1 y.2.1.1 y.2.1.2.1 y.2.1.2.2.1 y.2.1.2.2.2.2.2.1:=by kernel_rfl
theorem d2T(a7:ρ11)(d2:SoundP Tryz.prog GW B7 c2n 138 (e24 fun x y=>a7 y.1.1 y.1.2.1 y.1.2.2.1)):SoundP Tryz.prog GW B7 c2n 77 (f2h N a7):=
 b4k (e7P N a7) (D6 e9R (f2f N a7) (f0N N a7) _ _ (f2g N a7 d2) (f2i N a7 d2)) Tryz.func77 rfl Tryz.call77 (f2h N a7) f2j (fun _ _=>rfl) N (e7T N a7) (show LoopsOk (e7T N a7) (e7P N a7) N (e9Q N a7) [(0,d8l)]from⟨f4Z N a7,trivial⟩) (f3S N a7)
def z7(_N:Nat)(a7:ρ11)(b:Int)(c:c8)(e g:Int)(l:List c8)(m:List τ0)(o p:Int):Option (Except Int (Int×c8×Int×Int×List c8×List τ0×Int×Int×List GPart)):=n7 (n7 (n7 (l7 (a7 m o p) fun a=>j0 1 (br (decide ([GPart.mk 0 [] 0 [] 0 []].length*(24*Ty.sz (.rc .part))<=140737488355328)) (br (decide (0<=(0: Int)/\0<([GPart.mk 0 [] 0 [] 0 []].length:Int))) (j0 1 (f5 (l6 [GPart.mk 0 [] 0 [] 0 []] 0) fun _=>some (.ok (b,(c,(e,(g,(l,(a.2.1,(a.2.2.1,(a.2.2.2,B8 [GPart.mk 0 [] 0 [] 0 []] 0 a.1))))))))))) none) none)) (j0 1 (j0 1 (l7 (a7 m o p) fun a=>br (decide ([GPart.mk 0 [] 0 [] 0 []].length*(24*Ty.sz (.rc .part))<=140737488355328)) (br (decide (0<=(0: Int)/\0<([GPart.mk 0 [] 0 [] 0 []].length:Int))) (j0 1 (f5 (l6 [GPart.mk 0 [] 0 [] 0 []] 0) fun _=>some (.ok (b,(c,(e,(g,(l,(a.2.1,(a.2.2.1,(a.2.2.2,B8 [GPart.mk 0 [] 0 [] 0 []] 0 a.1))))))))))) none) none)))) (j0 1 (n7 (j0 1 (l7 (a7 m o p) fun a=>br (decide ([GPart.mk 0 [] 0 [] 0 []].length*(24*Ty.sz (.rc .part))<=140737488355328)) (br (decide (0<=(0: Int)/\0<([GPart.mk 0 [] 0 [] 0 []].length:Int))) (j0 1 (f5 (l6 [GPart.mk 0 [] 0 [] 0 []] 0) fun _=>some (.ok (b,(c,(e,(g,(l,(a.2.1,(a.2.2.1,(a.2.2.2,B8 [GPart.mk 0 [] 0 [] 0 []] 0 a.1))))))))))) none) none)) (l7 (a7 m o p) fun a=>br (decide ([GPart.mk 0 [] 0 [] 0 []].length*(24*Ty.sz (.rc .part))<=140737488355328)) (br (decide (0<=(0: Int)/\0<([GPart.mk 0 [] 0 [] 0 []].length:Int))) (j0 1 (f5 (l6 [GPart.mk 0 [] 0 [] 0 []] 0) fun _=>some (.ok (b,(c,(e,(g,(l,(a.2.1,(a.2.2.1,(a.2.2.2,B8 [GPart.mk 0 [] 0 [] 0 []] 0 a.1))))))))))) none) none)))) (n7 (n7 (n7 (l7 (a7 m o p) fun a=>j0 1 (br (decide ([GPart.mk 0 [] 0 [] 0 []].length*(24*Ty.sz (.rc .part))<=140737488355328)) (br (decide (0<=(0: Int)/\0<([GPart.mk 0 [] 0 [] 0 []].length:Int))) (j0 1 (f5 (l6 [GPart.mk 0 [] 0 [] 0 []] 0) fun _=>some (.ok (b,(c,(e,(g,(l,(a.2.1,(a.2.2.1,(a.2.2.2,B8 [GPart.mk 0 [] 0 [] 0 []] 0 a.1))))))))))) none) none)) (j0 1 (j0 1 (l7 (a7 m o p) fun a=>br (decide ([GPart.mk 0 [] 0 [] 0 []].length*(24*Ty.sz (.rc .part))<=140737488355328)) (br (decide (0<=(0: Int)/\0<([GPart.mk 0 [] 0 [] 0 []].length:Int))) (j0 1 (f5 (l6 [GPart.mk 0 [] 0 [] 0 []] 0) fun _=>some (.ok (b,(c,(e,(g,(l,(a.2.1,(a.2.2.1,(a.2.2.2,B8 [GPart.mk 0 [] 0 [] 0 []] 0 a.1))))))))))) none) none)))) (n7 (l7 (a7 m o p) fun a=>n7 (j0 1 (br (decide ([GPart.mk 0 [] 0 [] 0 []].length*(24*Ty.sz (.rc .part))<=140737488355328)) (br (decide (0<=(0: Int)/\0<([GPart.mk 0 [] 0 [] 0 []].length:Int))) (j0 1 (f5 (l6 [GPart.mk 0 [] 0 [] 0 []] 0) fun _=>some (.ok (b,(c,(e,(g,(l,(a.2.1,(a.2.2.1,(a.2.2.2,B8 [GPart.mk 0 [] 0 [] 0 []] 0 a.1))))))))))) none) none)) (br (decide ([GPart.mk 0 [] 0 [] 0 []].length*(24*Ty.sz (.rc .part))<=140737488355328)) (br (decide (0<=(0: Int)/\0<([GPart.mk 0 [] 0 [] 0 []].length:Int))) (j0 1 (f5 (l6 [GPart.mk 0 [] 0 [] 0 []] 0) fun _=>some (.ok (b,(c,(e,(g,(l,(a.2.1,(a.2.2.1,(a.2.2.2,B8 [GPart.mk 0 [] 0 [] 0 []] 0 a.1))))))))))) none) none)) (n7 (j0 1 (l7 (a7 m o p) fun a=>br (decide ([GPart.mk 0 [] 0 [] 0 []].length*(24*Ty.sz (.rc .part))<=140737488355328)) (br (decide (0<=(0: Int)/\0<([GPart.mk 0 [] 0 [] 0 []].length:Int))) (j0 1 (f5 (l6 [GPart.mk 0 [] 0 [] 0 []] 0) fun _=>some (.ok (b,(c,(e,(g,(l,(a.2.1,(a.2.2.1,(a.2.2.2,B8 [GPart.mk 0 [] 0 [] 0 []] 0 a.1))))))))))) none) none)) (l7 (a7 m o p) fun a=>br (decide ([GPart.mk 0 [] 0 [] 0 []].length*(24*Ty.sz (.rc .part))<=140737488355328)) (br (decide (0<=(0: Int)/\0<([GPart.mk 0 [] 0 [] 0 []].length:Int))) (j0 1 (f5 (l6 [GPart.mk 0 [] 0 [] 0 []] 0) fun _=>some (.ok (b,(c,(e,(g,(l,(a.2.1,(a.2.2.1,(a.2.2.2,B8 [GPart.mk 0 [] 0 [] 0 []] 0 a.1))))))))))) none) none)))) (j0 1 (n7 (j0 1 (l7 (a7 m o p) fun a=>br (decide ([GPart.mk 0 [] 0 [] 0 []].length*(24*Ty.sz (.rc .part))<=140737488355328)) (br (decide (0<=(0: Int)/\0<([GPart.mk 0 [] 0 [] 0 []].length:Int))) (j0 1 (f5 (l6 [GPart.mk 0 [] 0 [] 0 []] 0) fun _=>some (.ok (b,(c,(e,(g,(l,(a.2.1,(a.2.2.1,(a.2.2.2,B8 [GPart.mk 0 [] 0 [] 0 []] 0 a.1))))))))))) none) none)) (l7 (a7 m o p) fun a=>br (decide ([GPart.mk 0 [] 0 [] 0 []].length*(24*Ty.sz (.rc .part))<=140737488355328)) (br (decide (0<=(0: Int)/\0<([GPart.mk 0 [] 0 [] 0 []].length:Int))) (j0 1 (f5 (l6 [GPart.mk 0 [] 0 [] 0 []] 0) fun _=>some (.ok (b,(c,(e,(g,(l,(a.2.1,(a.2.2.1,(a.2.2.2,B8 [GPart.mk 0 [] 0 [] 0 []] 0 a.1))))))))))) none) none))))
abbrev e2m(f:SV [.box 0 0,.box 1 0]->BV [.cells [V0,V1,V0,.row 2,.nilS,V0,.nilS],.cells [.box 3 0],.row 9 .str false,.cells [V2,V0,V0]]->Option (Except Int (Int×c8×Int×Int×List c8×List τ0×Int×Int×List GPart))):PF:={ps:=[.box 0 0,.box 1 0],bs:=[.cells [V0,V1,V0,.row 2,.nilS,V0,.nilS],.cells [.box 3 0],.row 9 .str false,.cells [V2,V0,V0]],rs:=[],cs:=[.cells [V0,V1,V0,.row 2,.nilS,V0,.row 4],.cells [.box 3 0],.row 9 .str false,.cells [V2,V0,V0],.row 201 (.rc .part) true],R:=Int×c8×Int×Int×List c8×List τ0×Int×Int×List GPart,out:=fun z=>((),((z.1,z.2.1,z.2.2.1,(),(),z.2.2.2.1,(),()),((),()),z.2.2.2.2.1,(z.2.2.2.2.2.1,z.2.2.2.2.2.2.1,z.2.2.2.2.2.2.2.1,()),z.2.2.2.2.2.2.2.2,())),f:=f}
abbrev d1S(a7:ρ11):PF:=e2m fun _ y=>z7 N a7 y.1.1 y.1.2.1 y.1.2.2.1 y.1.2.2.2.2.2.1 y.2.2.1 y.2.2.2.1.1 y.2.2.2.1.2.1 y.2.2.2.1.2.2.1
def d8E(_N:Nat)(a7:ρ11):FuncId->Option Tmp->Option AF:=fun f _=>O5 [] f
theorem d1R(a7:ρ11)(d2:SoundP Tryz.prog GW B7 c2n 138 (e24 fun x y=>a7 y.1.1 y.1.2.1 y.1.2.2.1)):∀f q F,d8E N a7 f q=some F->Sound Tryz.prog GW B7 f F:=fun _ _ _ h=>o6 h G7
def f0D(_N:Nat)(a7:ρ11):FuncId->Option Tmp->Option PF:=fun f _=>
 match f with
  |138=>some (e24 fun _ y=>a7 y.1.1 y.1.2.1 y.1.2.2.1)
  |_=>none
theorem f1R(a7:ρ11)(d2:SoundP Tryz.prog GW B7 c2n 138 (e24 fun x y=>a7 y.1.1 y.1.2.1 y.1.2.2.1)):∀f q F,f0D N a7 f q=some F->SoundP Tryz.prog GW B7 c2n f F:=by
 intro f q F h
 unfold f0D at h
 split at h
 ·cases h;exact d2
 ·cases h
def c8v:Nat->Hint:=fun i=>
 match i with
 |100000=>⟨[],[1,2],[],[],[],[]⟩
 |_=>o3
abbrev b6W(a7:ρ11):Env:=a0I c8v (d8E N a7) (f0D N a7) (fun i=>match i with|6=>true|7=>true|8=>true|_=>false) (fun _=>false)
theorem d1U(a7:ρ11)(d2:SoundP Tryz.prog GW B7 c2n 138 (e24 fun x y=>a7 y.1.1 y.1.2.1 y.1.2.2.1)):SoundP Tryz.prog GW B7 c2n 258 (d1S N a7):=
 a0p (b6W N a7) (D6 c8v (d8E N a7) (f0D N a7) _ _ (d1R N a7 d2) (f1R N a7 d2)) Tryz.func258 rfl Tryz.call258 (d1S N a7) (fun _ y=>(y.1.1,y.1.2.1,y.1.2.2.1,y.1.2.2.2.2.2.1,y.2.2.1,y.2.2.2.1.1,y.2.2.2.1.2.1,y.2.2.2.1.2.2.1,y.2.2.2.2.1)) (fun _ _=>rfl) N (fun _ _=>by kernel_rfl) rfl
def G9(a7:ρ11)(e:Int)(g:c8)(l m:Int)(o:List τ0)(p q:Int):Option (Except Int (Int×c8×Int×Int×List τ0×Int×Int×List c8×List GPart)):=n7 (l7 (p9 N o p q) fun b=>br (decide ([b.1].length*(24*Ty.sz .str)<=140737488355328)) (l7 (g8 N [58] b.2.1 b.2.2.1 b.2.2.2) fun c=>l7 (z7 N a7 e g l m [b.1] c.1 c.2.1 c.2.2) fun a=>some (.ok (a.1,(a.2.1,(a.2.2.1,(a.2.2.2.1,(a.2.2.2.2.2.1,(a.2.2.2.2.2.2.1,(a.2.2.2.2.2.2.2.1,(a.2.2.2.2.1,a.2.2.2.2.2.2.2.2)))))))))) none) (n7 (l7 (p9 N o p q) fun b=>br (decide ([b.1].length*(24*Ty.sz .str)<=140737488355328)) (l7 (g8 N [58] b.2.1 b.2.2.1 b.2.2.2) fun c=>l7 (z7 N a7 e g l m [b.1] c.1 c.2.1 c.2.2) fun a=>some (.ok (a.1,(a.2.1,(a.2.2.1,(a.2.2.2.1,(a.2.2.2.2.2.1,(a.2.2.2.2.2.2.1,(a.2.2.2.2.2.2.2.1,(a.2.2.2.2.1,a.2.2.2.2.2.2.2.2)))))))))) none) (l7 (p9 N o p q) fun b=>j0 1 (br (decide ([b.1].length*(24*Ty.sz .str)<=140737488355328)) (l7 (g8 N [58] b.2.1 b.2.2.1 b.2.2.2) fun c=>l7 (z7 N a7 e g l m [b.1] c.1 c.2.1 c.2.2) fun a=>some (.ok (a.1,(a.2.1,(a.2.2.1,(a.2.2.2.1,(a.2.2.2.2.2.1,(a.2.2.2.2.2.2.1,(a.2.2.2.2.2.2.2.1,(a.2.2.2.2.1,a.2.2.2.2.2.2.2.2)))))))))) none)))
abbrev e2S(f:SV [.box 0 0,.box 1 0,.box 2 0]->BV [.cells [V0,V1,V0,.nilS,.nilS,V0,.nilS],.cells [.box 3 0],.cells [.fnc 258 [0,1]],.cells [V2,V0,V0]]->Option (Except Int (Int×c8×Int×Int×List τ0×Int×Int×List c8×List GPart))):PF:={ps:=[.box 0 0,.box 1 0,.box 2 0],bs:=[.cells [V0,V1,V0,.nilS,.nilS,V0,.nilS],.cells [.box 3 0],.cells [.fnc 258 [0,1]],.cells [V2,V0,V0]],rs:=[],cs:=[.cells [V0,V1,V0,.row 4,.nilS,V0,.row 5],.cells [.box 3 0],.cells [.fnc 258 [0,1]],.cells [V2,V0,V0],.row 9 .str false,.row 201 (.rc .part) true],R:=Int×c8×Int×Int×List τ0×Int×Int×List c8×List GPart,out:=fun z=>((),((z.1,z.2.1,z.2.2.1,(),(),z.2.2.2.1,(),()),((),()),((),()),(z.2.2.2.2.1,z.2.2.2.2.2.1,z.2.2.2.2.2.2.1,()),z.2.2.2.2.2.2.2.1,z.2.2.2.2.2.2.2.2,())),f:=f}
abbrev d2Q(a7:ρ11):PF:=e2S fun _ y=>G9 N a7 y.1.1 y.1.2.1 y.1.2.2.1 y.1.2.2.2.2.2.1 y.2.2.2.1.1 y.2.2.2.1.2.1 y.2.2.2.1.2.2.1
def d8J(_N:Nat)(a7:ρ11):FuncId->Option Tmp->Option AF:=fun f _=>O5 [] f
theorem d2P(a7:ρ11)(d2:SoundP Tryz.prog GW B7 c2n 138 (e24 fun x y=>a7 y.1.1 y.1.2.1 y.1.2.2.1)):∀f q F,d8J N a7 f q=some F->Sound Tryz.prog GW B7 f F:=fun _ _ _ h=>o6 h G7
def f0L(a7:ρ11):FuncId->Option Tmp->Option PF:=fun f _=>
 match f with
  |76=>some (e0O N)
  |82=>some (b59 N)
  |258=>some (d1S N a7)
  |_=>none
theorem f2d(a7:ρ11)(d2:SoundP Tryz.prog GW B7 c2n 138 (e24 fun x y=>a7 y.1.1 y.1.2.1 y.1.2.2.1)):∀f q F,f0L N a7 f q=some F->SoundP Tryz.prog GW B7 c2n f F:=by
 intro f q F h
 unfold f0L at h
 split at h
 ·cases h;exact d31 N
 ·cases h;exact e6A N
 ·cases h;exact d1U N a7 d2
 ·cases h
def c8B:Nat->Hint:=fun i=>
 match i with
 |100000=>⟨[],[1,2],[],[],[],[]⟩
 |_=>o3
abbrev b61(a7:ρ11):Env:=a0I c8B (d8J N a7) (f0L N a7) (fun _=>false) (fun _=>false)
theorem d2S(a7:ρ11)(d2:SoundP Tryz.prog GW B7 c2n 138 (e24 fun x y=>a7 y.1.1 y.1.2.1 y.1.2.2.1)):SoundP Tryz.prog GW B7 c2n 259 (d2Q N a7):=
 a0p (b61 N a7) (D6 c8B (d8J N a7) (f0L N a7) _ _ (d2P N a7 d2) (f2d N a7 d2)) Tryz.func259 rfl Tryz.call259 (d2Q N a7) (fun _ y=>(y.1.1,y.1.2.1,y.1.2.2.1,y.1.2.2.2.2.2.1,y.2.2.2.1.1,y.2.2.2.1.2.1,y.2.2.2.1.2.2.1,y.2.2.2.2.1,y.2.2.2.2.2.1)) (fun _ _=>rfl) N (fun _ _=>by kernel_rfl) rfl
end
end Go.Proofs.YtolpmfhiegpohaaGreatDoor
