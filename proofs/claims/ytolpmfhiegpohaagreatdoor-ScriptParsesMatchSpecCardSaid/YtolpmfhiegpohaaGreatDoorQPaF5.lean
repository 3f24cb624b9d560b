/- What functions of the program compute, as plain functions (printed). -/
import Derived.Test.YtolpmfhiegpohaaGreatDoorQPaF4
namespace Go.Proofs.YtolpmfhiegpohaaGreatDoor
open Go Go.RowKit
set_option maxRecDepth 100000
set_option linter.unusedVariables false
noncomputable section
variable(N:Nat)
def b5G(a7:H2)(k0 self:ρ2)(o:List τ0)(p q c:Int)(e:c8)(g l:Int)(m:List GPart):Option (Except Int (List τ0×Int×Int×Int×c8×Int×Int×List GPart)):=f5 (j6 N 4 [44] o p q) fun b=>br (b.1) (l7 (z6 N a7 c e g l m b.2.1 b.2.2.1 b.2.2.2) fun a=>self a.2.2.2.2.2.1 a.2.2.2.2.2.2.1 a.2.2.2.2.2.2.2 a.1 a.2.1 a.2.2.1 a.2.2.2.1 a.2.2.2.2.1) (k0 b.2.1 b.2.2.1 b.2.2.2 c e g l m)
def b5F(N:Nat)(a7:H2)(k0:ρ2):Nat->τ5->Int->Int->Int->c8->Int->Int->(List GPart)->Option (Except Int (List τ0×Int×Int×Int×c8×Int×Int×List GPart))|0,_,_,_,_,_,_,_,_=>none|n+1,a,b,c,e,g,l,m,o=>b5G N a7 k0 (b5F N a7 k0 n) a b c e g l m o
def D5(a7:H2)(e:c8)(K:Bool)(E:List τ0)(H J g:Int)(l:c8)(m o:Int):Option (Except Int (List τ0×Int×Int×Int×c8×Int×Int×List GPart)):=br (K) (f5 (j6 N 4 e E H J) fun c=>br (c.1) (some (.ok (c.2.1,(c.2.2.1,(c.2.2.2,(g,(l,(m,(o,[]))))))))) (l7 (v6 N a7 g l m o c.2.1 c.2.2.1 c.2.2.2) fun a=>b5F N a7 (fun p q r t u v w B=>l7 (g8 N e p q r) fun C=>some (.ok (C.1,(C.2.1,(C.2.2,(t,(u,(v,(w,B))))))))) N a.2.2.2.2.1 a.2.2.2.2.2.1 a.2.2.2.2.2.2.1 a.1 a.2.1 a.2.2.1 a.2.2.2.1 a.2.2.2.2.2.2.2)) (l7 (v6 N a7 g l m o E H J) fun b=>b5F N a7 (fun p q r t u v w B=>l7 (g8 N e p q r) fun D=>some (.ok (D.1,(D.2.1,(D.2.2,(t,(u,(v,(w,B))))))))) N b.2.2.2.2.1 b.2.2.2.2.2.1 b.2.2.2.2.2.2.1 b.1 b.2.1 b.2.2.1 b.2.2.2.1 b.2.2.2.2.2.2.2)
abbrev e2Y(f:SV [.box 0 0,V1,V2,.fnc 258 [1,2]]->BV [.cells [V3,V0,V0],.cells [V0,V1,V0,.nilS,.nilS,V0,.nilS],.cells [.box 0 0]]->Option (Except Int (List τ0×Int×Int×Int×c8×Int×Int×List GPart))):PF:={ps:=[.box 0 0,V1,V2,.fnc 258 [1,2]],bs:=[.cells [V3,V0,V0],.cells [V0,V1,V0,.nilS,.nilS,V0,.nilS],.cells [.box 0 0]],rs:=[],cs:=[.cells [V3,V0,V0],.cells [V0,V1,V0,.nilS,.nilS,V0,.v (.sl (.rc .part))],.cells [.box 0 0]],R:=List τ0×Int×Int×Int×c8×Int×Int×List GPart,out:=fun z=>((),((z.1,z.2.1,z.2.2.1,()),(z.2.2.2.1,z.2.2.2.2.1,z.2.2.2.2.2.1,(),(),z.2.2.2.2.2.2.1,z.2.2.2.2.2.2.2,()),((),()),())),f:=f}
abbrev d3c(a7:H2):PF:=e2Y fun x y=>D5 N a7 x.2.1 x.2.2.1 y.1.1 y.1.2.1 y.1.2.2.1 y.2.1.1 y.2.1.2.1 y.2.1.2.2.1 y.2.1.2.2.2.2.2.1
abbrev d3e:SV []->BV [.cells [V3,V0,V0],.cells [V0,V1,V0,.nilS,.nilS,V0,.v (.sl (.rc .part))],.cells [.box 0 0]]->(List τ0×Int×Int×Int×c8×Int×Int×List GPart):=fun _ y=>(y.1.1,y.1.2.1,y.1.2.2.1,y.2.1.1,y.2.1.2.1,y.2.1.2.2.1,y.2.1.2.2.2.2.2.1,y.2.1.2.2.2.2.2.2.1)
abbrev d8M:SV []->BV [.cells [V3,V0,V0],.cells [V0,V1,V0,.nilS,.nilS,V0,.v (.sl (.rc .part))],.cells [.box 0 0]]->Except Int (List τ0×Int×Int×Int×c8×Int×Int×List GPart):=fun x y=> .ok (d3e x y)
def d3a(a7:H2):FuncId->Option Tmp->Option AF:=fun f _=>O5 [(74,b0f N)] f
theorem d3b(a7:H2)(d2:SoundP Tryz.prog GW B7 c2n 138 (G6 fun x y=>a7 y.1.1 y.1.2.1 y.1.2.2.1)):∀f q F,d3a N a7 f q=some F->Sound Tryz.prog GW B7 f F:=fun _ _ _ h=>o6 h (v8 (R7 N) G7)
def c59(a7:H2):FuncId->Option Tmp->Option PF:=fun f q=>
 match f with
  |76=>some (b0e N)
  |258=>match q with|some 15=>some (d23 N a7)|some 19=>some (d6V N a7)|_=>none
  |_=>none
theorem d3d(a7:H2)(d2:SoundP Tryz.prog GW B7 c2n 138 (G6 fun x y=>a7 y.1.1 y.1.2.1 y.1.2.2.1)):∀f q F,c59 N a7 f q=some F->SoundP Tryz.prog GW B7 c2n f F:=by
 intro f q F h
 unfold c59 at h
 split at h
 ·cases h;exact R6 N
 ·split at h
  ·cases h;exact b5D N a7 d2
  ·cases h;exact c1A N a7 d2
  ·cases h
 ·cases h
def c4c:Nat->Hint:=fun i=>
 match i with
 |0=>⟨[],[0,1,3],[0,1,2,101500],[0,1],[0,1,2,101500],[]⟩
 |_=>o3
abbrev b5E(a7:H2):Env:=a0I c4c (d3a N a7) (c59 N a7) (fun _=>false) (fun _=>false)
abbrev c4b(a7:H2):=A8 (b5E N a7) Tryz.f77 (PF.tf (d3c N a7)) d8M
abbrev a9T:List (Nat×Sl):=[(0,.box 0 0),(1,V1),(3,.fnc 258 [1,2])]
abbrev a9S:List (Nat×Sb):=[(0,.cells [V3,V0,V0]),(1,.cells [V0,V1,V0,.nilS,.nilS,V0,.row 101500]),(2,.cells [.box 0 0]),(101500,.row 201 (.rc .part) true)]
def b5H(a:c8)(b:List τ0)(c e g:Int)(l:c8)(m o:Int)(p:List GPart):St:=⟨23,[(0,.box 0 0),(1,.v .str a),(3,.fnc 258 [1,2])],[(0,.cells [.v (.sl τ1) b,.v τ2 c,.v τ2 e]),(1,.cells [.v τ2 g,.v .str l,.v τ2 m,.nilS,.nilS,.v τ2 o,.row 101500]),(2,.cells [.box 0 0]),(101500,.row 201 (.rc .part) true p)]⟩
def a6W(a:c8)(b:List τ0)(c e g:Int)(l:c8)(m o:Int)(p:List GPart):St:=⟨23,[(0,.box 0 0),(1,.v .str a)],[(0,.cells [.v (.sl τ1) b,.v τ2 c,.v τ2 e]),(1,.cells [.v τ2 g,.v .str l,.v τ2 m,.nilS,.nilS,.v τ2 o,.row 101500]),(2,.cells [.box 0 0]),(101500,.row 201 (.rc .part) true p)]⟩
def d7g(a7:H2)(a:c8)(b:List τ0)(c e g:Int)(l:c8)(m o:Int)(p:List GPart)(k:Ex->St->Option (Except Int (List τ0×Int×Int×Int×c8×Int×Int×List GPart))):Option (Except Int (List τ0×Int×Int×Int×c8×Int×Int×List GPart)):=b5F N a7 (fun q r t u v w B C=>k (.exit 0) (a6W a q r t u v w B C)) N b c e g l m o p
abbrev c58(a7:H2):FV a9T->HV a9S->(Ex->St->Option (Except Int (List τ0×Int×Int×Int×c8×Int×Int×List GPart)))->Option (Except Int (List τ0×Int×Int×Int×c8×Int×Int×List GPart)):=fun x y k=>d7g N a7 x.2.1 y.1.1 y.1.2.1 y.1.2.2.1 y.2.1.1 y.2.1.2.1 y.2.1.2.2.1 y.2.1.2.2.2.2.2.1 y.2.2.2.1 k
def b5I(a7:H2):Nat->Code->St->(Ex->St->Option (Except Int (List τ0×Int×Int×Int×c8×Int×Int×List GPart)))->Option (Except Int (List τ0×Int×Int×Int×c8×Int×Int×List GPart)):=fun i c=>
 match i with
 |0=>(LPc 23 a9T a9S (c58 N a7) (fun st k=>iter (c4c 0) (k6 (b5E N a7) N c 0) N st k))
 |i=>fun st k=>iter (c4c i) (k6 (b5E N a7) N c i) N st k
theorem c4a(a7:H2)(p:c8)(KX:Nat->St->Option (Except Int (List τ0×Int×Int×Int×c8×Int×Int×List GPart)))(I:St->Option (Except Int (List τ0×Int×Int×Int×c8×Int×Int×List GPart)))(a:List τ0)(b c e:Int)(g:c8)(l m:Int)(o:List GPart):
  k7 (b5I N a7) (b5E N a7) S8 0 (b5H p a b c e g l m o) (p6 (c4c 0) I KX (c4b N a7))=b5G N a7 (fun q r t u v w B C=>KX 0 (a6W p q r t u v w B C)) (fun a b c e g l m o=>I (b5H p a b c e g l m o)) a b c e g l m o:=by kernel_rfl
theorem d29(a7:H2):∀x y k,(∀st,k .ret st=(c4b N a7) st)->iter (c4c 0) (k6 (b5E N a7) N S8 0) N ⟨23,Y7 a9T x,Y8 a9S y⟩ k=c58 N a7 x y k:=fun x y k hk=>
 j9 (S:=τ5×(Int)×(Int)×(Int)×(c8)×(Int)×(Int)×(List GPart)×Unit) (c4c 0) _ (k7 (b5I N a7) (b5E N a7) S8 0) (c4b N a7) (k9 _ _ N _ S8 0 (show LoopsOk (b5I N a7) (b5E N a7) N (c4b N a7) []from trivial)) (fun s=>b5H x.2.1 s.1 s.2.1 s.2.2.1 s.2.2.2.1 s.2.2.2.2.1 s.2.2.2.2.2.1 s.2.2.2.2.2.2.1 s.2.2.2.2.2.2.2.1) k hk
  (fun self s=>b5G N a7 (fun a b c e g l m o=>k (.exit 0) (a6W x.2.1 a b c e g l m o)) (fun p q r t u v w B=>self (p,q,r,t,u,v,w,B,())) s.1 s.2.1 s.2.2.1 s.2.2.2.1 s.2.2.2.2.1 s.2.2.2.2.2.1 s.2.2.2.2.2.2.1 s.2.2.2.2.2.2.2.1) (fun n s=>b5F N a7 (fun a b c e g l m o=>k (.exit 0) (a6W x.2.1 a b c e g l m o)) n s.1 s.2.1 s.2.2.1 s.2.2.2.1 s.2.2.2.2.1 s.2.2.2.2.2.1 s.2.2.2.2.2.2.1 s.2.2.2.2.2.2.2.1) (fun _=>rfl) (fun _ _=>rfl)
  (fun I s=>c4a N a7 x.2.1 (fun j=>k (.exit j)) I s.1 s.2.1 s.2.2.1 s.2.2.2.1 s.2.2.2.2.1 s.2.2.2.2.2.1 s.2.2.2.2.2.2.1 s.2.2.2.2.2.2.2.1) N (y.1.1,y.1.2.1,y.1.2.2.1,y.2.1.1,y.2.1.2.1,y.2.1.2.2.1,y.2.1.2.2.2.2.2.1,y.2.2.2.1,())
theorem e0G(a7:H2):F7 (b5I N a7) (b5E N a7) N (c4b N a7) 0 S8:=fun st k hk=>p8 23 a9T a9S _ _ (c4b N a7) (d29 N a7) _ st k hk (rfl)
theorem d7h(a7:H2)(x:SV [.box 0 0,V1,V2,.fnc 258 [1,2]])(y:BV [.cells [V3,V0,V0],.cells [V0,V1,V0,.nilS,.nilS,V0,.nilS],.cells [.box 0 0]]):F5 (b5E N a7) Tryz.f77 (PF.tf (d3c N a7)) d8M (b5I N a7) x y=D5 N a7 x.2.1 x.2.2.1 y.1.1 y.1.2.1 y.1.2.2.1 y.2.1.1 y.2.1.2.1 y.2.1.2.2.1 y.2.1.2.2.2.2.2.1:=by kernel_rfl
theorem d3f(a7:H2)(d2:SoundP Tryz.prog GW B7 c2n 138 (G6 fun x y=>a7 y.1.1 y.1.2.1 y.1.2.2.1)):SoundP Tryz.prog GW B7 c2n 77 (d3c N a7):=
 b4k (b5E N a7) (D6 c4c (d3a N a7) (c59 N a7) _ _ (d3b N a7 d2) (d3d N a7 d2)) Tryz.func77 rfl Tryz.call77 (d3c N a7) d3e (fun _ _=>rfl) N (b5I N a7) (show LoopsOk (b5I N a7) (b5E N a7) N (c4b N a7) [(0,S8)]from⟨e0G N a7,trivial⟩) (d7h N a7)
def z7(_N:Nat)(a7:H2)(b:Int)(c:c8)(e g:Int)(l:List c8)(m:List τ0)(o p:Int):Option (Except Int (Int×c8×Int×Int×List c8×List τ0×Int×Int×List GPart)):=n7 (n7 (n7 (l7 (a7 m o p) fun a=>j0 1 (br (decide ([GPart.mk 0 [] 0 [] 0 []].length*(24*Ty.sz (.rc .part))<=140737488355328)) (br (decide (0<=(0: Int)/\0<([GPart.mk 0 [] 0 [] 0 []].length:Int))) (j0 1 (f5 (l6 [GPart.mk 0 [] 0 [] 0 []] 0) fun _=>some (.ok (b,(c,(e,(g,(l,(a.2.1,(a.2.2.1,(a.2.2.2,B8 [GPart.mk 0 [] 0 [] 0 []] 0 a.1))))))))))) none) none)) (j0 1 (j0 1 (l7 (a7 m o p) fun a=>br (decide ([GPart.mk 0 [] 0 [] 0 []].length*(24*Ty.sz (.rc .part))<=140737488355328)) (br (decide (0<=(0: Int)/\0<([GPart.mk 0 [] 0 [] 0 []].length:Int))) (j0 1 (f5 (l6 [GPart.mk 0 [] 0 [] 0 []] 0) fun _=>some (.ok (b,(c,(e,(g,(l,(a.2.1,(a.2.2.1,(a.2.2.2,B8 [GPart.mk 0 [] 0 [] 0 []] 0 a.1))))))))))) none) none)))) (j0 1 (n7 (j0 1 (l7 (a7 m o p) fun a=>br (decide ([GPart.mk 0 [] 0 [] 0 []].length*(24*Ty.sz (.rc .part))<=140737488355328)) (br (decide (0<=(0: Int)/\0<([GPart.mk 0 [] 0 [] 0 []].length:Int))) (j0 1 (f5 (l6 [GPart.mk 0 [] 0 [] 0 []] 0) fun _=>some (.ok (b,(c,(e,(g,(l,(a.2.1,(a.2.2.1,(a.2.2.2,B8 [GPart.mk 0 [] 0 [] 0 []] 0 a.1))))))))))) none) none)) (l7 (a7 m o p) fun a=>br (decide ([GPart.mk 0 [] 0 [] 0 []].length*(24*Ty.sz (.rc .part))<=140737488355328)) (br (decide (0<=(0: Int)/\0<([GPart.mk 0 [] 0 [] 0 []].length:Int))) (j0 1 (f5 (l6 [GPart.mk 0 [] 0 [] 0 []] 0) fun _=>some (.ok (b,(c,(e,(g,(l,(a.2.1,(a.2.2.1,(a.2.2.2,B8 [GPart.mk 0 [] 0 [] 0 []] 0 a.1))))))))))) none) none)))) (n7 (n7 (n7 (l7 (a7 m o p) fun a=>j0 1 (br (decide ([GPart.mk 0 [] 0 [] 0 []].length*(24*Ty.sz (.rc .part))<=140737488355328)) (br (decide (0<=(0: Int)/\0<([GPart.mk 0 [] 0 [] 0 []].length:Int))) (j0 1 (f5 (l6 [GPart.mk 0 [] 0 [] 0 []] 0) fun _=>some (.ok (b,(c,(e,(g,(l,(a.2.1,(a.2.2.1,(a.2.2.2,B8 [GPart.mk 0 [] 0 [] 0 []] 0 a.1))))))))))) none) none)) (j0 1 (j0 1 (l7 (a7 m o p) fun a=>br (decide ([GPart.mk 0 [] 0 [] 0 []].length*(24*Ty.sz (.rc .part))<=140737488355328)) (br (decide (0<=(0: Int)/\0<([GPart.mk 0 [] 0 [] 0 []].length:Int))) (j0 1 (f5 (l6 [GPart.mk 0 [] 0 [] 0 []] 0) fun _=>some (.ok (b,(c,(e,(g,(l,(a.2.1,(a.2.2.1,(a.2.2.2,B8 [GPart.mk 0 [] 0 [] 0 []] 0 a.1))))))))))) none) none)))) (n7 (l7 (a7 m o p) fun a=>n7 (j0 1 (br (decide ([GPart.mk 0 [] 0 [] 0 []].length*(24*Ty.sz (.rc .part))<=140737488355328)) (br (decide (0<=(0: Int)/\0<([GPart.mk 0 [] 0 [] 0 []].length:Int))) (j0 1 (f5 (l6 [GPart.mk 0 [] 0 [] 0 []] 0) fun _=>some (.ok (b,(c,(e,(g,(l,(a.2.1,(a.2.2.1,(a.2.2.2,B8 [GPart.mk 0 [] 0 [] 0 []] 0 a.1))))))))))) none) none)) (br (decide ([GPart.mk 0 [] 0 [] 0 []].length*(24*Ty.sz (.rc .part))<=140737488355328)) (br (decide (0<=(0: Int)/\0<([GPart.mk 0 [] 0 [] 0 []].length:Int))) (j0 1 (f5 (l6 [GPart.mk 0 [] 0 [] 0 []] 0) fun _=>some (.ok (b,(c,(e,(g,(l,(a.2.1,(a.2.2.1,(a.2.2.2,B8 [GPart.mk 0 [] 0 [] 0 []] 0 a.1))))))))))) none) none)) (n7 (j0 1 (l7 (a7 m o p) fun a=>br (decide ([GPart.mk 0 [] 0 [] 0 []].length*(24*Ty.sz (.rc .part))<=140737488355328)) (br (decide (0<=(0: Int)/\0<([GPart.mk 0 [] 0 [] 0 []].length:Int))) (j0 1 (f5 (l6 [GPart.mk 0 [] 0 [] 0 []] 0) fun _=>some (.ok (b,(c,(e,(g,(l,(a.2.1,(a.2.2.1,(a.2.2.2,B8 [GPart.mk 0 [] 0 [] 0 []] 0 a.1))))))))))) none) none)) (l7 (a7 m o p) fun a=>br (decide ([GPart.mk 0 [] 0 [] 0 []].length*(24*Ty.sz (.rc .part))<=140737488355328)) (br (decide (0<=(0: Int)/\0<([GPart.mk 0 [] 0 [] 0 []].length:Int))) (j0 1 (f5 (l6 [GPart.mk 0 [] 0 [] 0 []] 0) fun _=>some (.ok (b,(c,(e,(g,(l,(a.2.1,(a.2.2.1,(a.2.2.2,B8 [GPart.mk 0 [] 0 [] 0 []] 0 a.1))))))))))) none) none)))) (j0 1 (n7 (j0 1 (l7 (a7 m o p) fun a=>br (decide ([GPart.mk 0 [] 0 [] 0 []].length*(24*Ty.sz (.rc .part))<=140737488355328)) (br (decide (0<=(0: Int)/\0<([GPart.mk 0 [] 0 [] 0 []].length:Int))) (j0 1 (f5 (l6 [GPart.mk 0 [] 0 [] 0 []] 0) fun _=>some (.ok (b,(c,(e,(g,(l,(a.2.1,(a.2.2.1,(a.2.2.2,B8 [GPart.mk 0 [] 0 [] 0 []] 0 a.1))))))))))) none) none)) (l7 (a7 m o p) fun a=>br (decide ([GPart.mk 0 [] 0 [] 0 []].length*(24*Ty.sz (.rc .part))<=140737488355328)) (br (decide (0<=(0: Int)/\0<([GPart.mk 0 [] 0 [] 0 []].length:Int))) (j0 1 (f5 (l6 [GPart.mk 0 [] 0 [] 0 []] 0) fun _=>some (.ok (b,(c,(e,(g,(l,(a.2.1,(a.2.2.1,(a.2.2.2,B8 [GPart.mk 0 [] 0 [] 0 []] 0 a.1))))))))))) none) none))))
abbrev e2q(f:SV [.box 0 0,.box 1 0]->BV [.cells [V0,V1,V0,.row 2,.nilS,V0,.nilS],.cells [.box 3 0],.row 9 .str false,.cells [V3,V0,V0]]->Option (Except Int (Int×c8×Int×Int×List c8×List τ0×Int×Int×List GPart))):PF:={ps:=[.box 0 0,.box 1 0],bs:=[.cells [V0,V1,V0,.row 2,.nilS,V0,.nilS],.cells [.box 3 0],.row 9 .str false,.cells [V3,V0,V0]],rs:=[],cs:=[.cells [V0,V1,V0,.row 2,.nilS,V0,.row 4],.cells [.box 3 0],.row 9 .str false,.cells [V3,V0,V0],.row 201 (.rc .part) true],R:=Int×c8×Int×Int×List c8×List τ0×Int×Int×List GPart,out:=fun z=>((),((z.1,z.2.1,z.2.2.1,(),(),z.2.2.2.1,(),()),((),()),z.2.2.2.2.1,(z.2.2.2.2.2.1,z.2.2.2.2.2.2.1,z.2.2.2.2.2.2.2.1,()),z.2.2.2.2.2.2.2.2,())),f:=f}
abbrev e0j(a7:H2):PF:=e2q fun _ y=>z7 N a7 y.1.1 y.1.2.1 y.1.2.2.1 y.1.2.2.2.2.2.1 y.2.2.1 y.2.2.2.1.1 y.2.2.2.1.2.1 y.2.2.2.1.2.2.1
def d1Y(_N:Nat)(a7:H2):FuncId->Option Tmp->Option AF:=fun f _=>O5 [] f
theorem d1Z(a7:H2)(d2:SoundP Tryz.prog GW B7 c2n 138 (G6 fun x y=>a7 y.1.1 y.1.2.1 y.1.2.2.1)):∀f q F,d1Y N a7 f q=some F->Sound Tryz.prog GW B7 f F:=fun _ _ _ h=>o6 h G7
def c5U(_N:Nat)(a7:H2):FuncId->Option Tmp->Option PF:=fun f _=>
 match f with
  |138=>some (G6 fun _ y=>a7 y.1.1 y.1.2.1 y.1.2.2.1)
  |_=>none
theorem d10(a7:H2)(d2:SoundP Tryz.prog GW B7 c2n 138 (G6 fun x y=>a7 y.1.1 y.1.2.1 y.1.2.2.1)):∀f q F,c5U N a7 f q=some F->SoundP Tryz.prog GW B7 c2n f F:=by
 intro f q F h
 unfold c5U at h
 split at h
 ·cases h;exact d2
 ·cases h
def e2p:Nat->Hint:=fun i=>
 match i with
 |100000=>⟨[],[1,2],[],[],[],[]⟩
 |_=>o3
abbrev e43(a7:H2):Env:=a0I e2p (d1Y N a7) (c5U N a7) (fun i=>match i with|6=>true|7=>true|8=>true|_=>false) (fun _=>false)
theorem d11(a7:H2)(d2:SoundP Tryz.prog GW B7 c2n 138 (G6 fun x y=>a7 y.1.1 y.1.2.1 y.1.2.2.1)):SoundP Tryz.prog GW B7 c2n 258 (e0j N a7):=
 a0p (e43 N a7) (D6 e2p (d1Y N a7) (c5U N a7) _ _ (d1Z N a7 d2) (d10 N a7 d2)) Tryz.func258 rfl Tryz.call258 (e0j N a7) (fun _ y=>(y.1.1,y.1.2.1,y.1.2.2.1,y.1.2.2.2.2.2.1,y.2.2.1,y.2.2.2.1.1,y.2.2.2.1.2.1,y.2.2.2.1.2.2.1,y.2.2.2.2.1)) (fun _ _=>rfl) N (fun _ _=>by kernel_rfl) rfl
def G9(a7:H2)(e:Int)(g:c8)(l m:Int)(o:List τ0)(p q:Int):Option (Except Int (Int×c8×Int×Int×List τ0×Int×Int×List c8×List GPart)):=n7 (l7 (p9 N o p q) fun b=>br (decide ([b.1].length*(24*Ty.sz .str)<=140737488355328)) (l7 (g8 N [58] b.2.1 b.2.2.1 b.2.2.2) fun c=>l7 (z7 N a7 e g l m [b.1] c.1 c.2.1 c.2.2) fun a=>some (.ok (a.1,(a.2.1,(a.2.2.1,(a.2.2.2.1,(a.2.2.2.2.2.1,(a.2.2.2.2.2.2.1,(a.2.2.2.2.2.2.2.1,(a.2.2.2.2.1,a.2.2.2.2.2.2.2.2)))))))))) none) (n7 (l7 (p9 N o p q) fun b=>br (decide ([b.1].length*(24*Ty.sz .str)<=140737488355328)) (l7 (g8 N [58] b.2.1 b.2.2.1 b.2.2.2) fun c=>l7 (z7 N a7 e g l m [b.1] c.1 c.2.1 c.2.2) fun a=>some (.ok (a.1,(a.2.1,(a.2.2.1,(a.2.2.2.1,(a.2.2.2.2.2.1,(a.2.2.2.2.2.2.1,(a.2.2.2.2.2.2.2.1,(a.2.2.2.2.1,a.2.2.2.2.2.2.2.2)))))))))) none) (l7 (p9 N o p q) fun b=>j0 1 (br (decide ([b.1].length*(24*Ty.sz .str)<=140737488355328)) (l7 (g8 N [58] b.2.1 b.2.2.1 b.2.2.2) fun c=>l7 (z7 N a7 e g l m [b.1] c.1 c.2.1 c.2.2) fun a=>some (.ok (a.1,(a.2.1,(a.2.2.1,(a.2.2.2.1,(a.2.2.2.2.2.1,(a.2.2.2.2.2.2.1,(a.2.2.2.2.2.2.2.1,(a.2.2.2.2.1,a.2.2.2.2.2.2.2.2)))))))))) none)))
abbrev e2X(f:SV [.box 0 0,.box 1 0,.box 2 0]->BV [.cells [V0,V1,V0,.nilS,.nilS,V0,.nilS],.cells [.box 3 0],.cells [.fnc 258 [0,1]],.cells [V3,V0,V0]]->Option (Except Int (Int×c8×Int×Int×List τ0×Int×Int×List c8×List GPart))):PF:={ps:=[.box 0 0,.box 1 0,.box 2 0],bs:=[.cells [V0,V1,V0,.nilS,.nilS,V0,.nilS],.cells [.box 3 0],.cells [.fnc 258 [0,1]],.cells [V3,V0,V0]],rs:=[],cs:=[.cells [V0,V1,V0,.row 4,.nilS,V0,.row 5],.cells [.box 3 0],.cells [.fnc 258 [0,1]],.cells [V3,V0,V0],.row 9 .str false,.row 201 (.rc .part) true],R:=Int×c8×Int×Int×List τ0×Int×Int×List c8×List GPart,out:=fun z=>((),((z.1,z.2.1,z.2.2.1,(),(),z.2.2.2.1,(),()),((),()),((),()),(z.2.2.2.2.1,z.2.2.2.2.2.1,z.2.2.2.2.2.2.1,()),z.2.2.2.2.2.2.2.1,z.2.2.2.2.2.2.2.2,())),f:=f}
abbrev e0F(a7:H2):PF:=e2X fun _ y=>G9 N a7 y.1.1 y.1.2.1 y.1.2.2.1 y.1.2.2.2.2.2.1 y.2.2.2.1.1 y.2.2.2.1.2.1 y.2.2.2.1.2.2.1
def d25(_N:Nat)(a7:H2):FuncId->Option Tmp->Option AF:=fun f _=>O5 [] f
theorem d26(a7:H2)(d2:SoundP Tryz.prog GW B7 c2n 138 (G6 fun x y=>a7 y.1.1 y.1.2.1 y.1.2.2.1)):∀f q F,d25 N a7 f q=some F->Sound Tryz.prog GW B7 f F:=fun _ _ _ h=>o6 h G7
def c57(a7:H2):FuncId->Option Tmp->Option PF:=fun f _=>
 match f with
  |76=>some (b0e N)
  |82=>some (c8G N)
  |258=>some (e0j N a7)
  |_=>none
theorem d27(a7:H2)(d2:SoundP Tryz.prog GW B7 c2n 138 (G6 fun x y=>a7 y.1.1 y.1.2.1 y.1.2.2.1)):∀f q F,c57 N a7 f q=some F->SoundP Tryz.prog GW B7 c2n f F:=by
 intro f q F h
 unfold c57 at h
 split at h
 ·cases h;exact R6 N
 ·cases h;exact b0g N
 ·cases h;exact d11 N a7 d2
 ·cases h
def e2W:Nat->Hint:=fun i=>
 match i with
 |100000=>⟨[],[1,2],[],[],[],[]⟩
 |_=>o3
abbrev e5c(a7:H2):Env:=a0I e2W (d25 N a7) (c57 N a7) (fun _=>false) (fun _=>false)
theorem d28(a7:H2)(d2:SoundP Tryz.prog GW B7 c2n 138 (G6 fun x y=>a7 y.1.1 y.1.2.1 y.1.2.2.1)):SoundP Tryz.prog GW B7 c2n 259 (e0F N a7):=
 a0p (e5c N a7) (D6 e2W (d25 N a7) (c57 N a7) _ _ (d26 N a7 d2) (d27 N a7 d2)) Tryz.func259 rfl Tryz.call259 (e0F N a7) (fun _ y=>(y.1.1,y.1.2.1,y.1.2.2.1,y.1.2.2.2.2.2.1,y.2.2.2.1.1,y.2.2.2.1.2.1,y.2.2.2.1.2.2.1,y.2.2.2.2.1,y.2.2.2.2.2.1)) (fun _ _=>rfl) N (fun _ _=>by kernel_rfl) rfl
end
end Go.Proofs.YtolpmfhiegpohaaGreatDoor
