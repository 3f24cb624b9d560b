/- What functions of the program compute, as plain functions (printed). -/
import Derived.Test.YtolpmfhiegpohaaGreatDoorQPaF3
namespace Go.Proofs.YtolpmfhiegpohaaGreatDoor
open Go Go.RowKit
set_option maxRecDepth 100000
set_option linter.unusedVariables false
noncomputable section
variable(N:Nat)
def b5A(b7:ρ15)(e:Int)(k0 self:ρ14)(g:List τ0)(l m:Int)(c:List GStmt):Option (Except Int (List τ0×Int×Int×List GStmt)):=f5 (j6 N 4 [125] g l m) fun a=>br (!a.1) (l7 (b7 e a.2.1 a.2.2.1 a.2.2.2) fun b=>br (decide ((c.length + [b.1].length)*(24*Ty.sz τ16)<=140737488355328)) (self b.2.1 b.2.2.1 b.2.2.2 (c ++ [b.1])) none) (k0 a.2.1 a.2.2.1 a.2.2.2 c)
def b8m(N:Nat)(b7:ρ15)(a:Int)(k0:ρ14):Nat->τ5->Int->Int->(List GStmt)->Option (Except Int (List τ0×Int×Int×List GStmt))|0,_,_,_,_=>none|n+1,b,c,e,g=>b5A N b7 a k0 (b8m N b7 a k0 n) b c e g
def x6(b7:ρ15)(b:Int)(c:List τ0)(e g:Int):Option (Except Int (List τ0×Int×Int×List GStmt)):=l7 (g8 N [123] c e g) fun a=>b8m N b7 b (fun l m o p=>some (.ok (l,(m,(o,p))))) N a.1 a.2.1 a.2.2 []
abbrev e2T(f:SV [.box 0 0,V0]->BV [.cells [V3,V0,V0]]->Option (Except Int (List τ0×Int×Int×List GStmt))):PF:={ps:=[.box 0 0,V0],bs:=[.cells [V3,V0,V0]],rs:=[.row 1],cs:=[.cells [V3,V0,V0],.row 71 τ16 false],R:=List τ0×Int×Int×List GStmt,out:=fun z=>(((),()),((z.1,z.2.1,z.2.2.1,()),z.2.2.2,())),f:=f}
abbrev d2X(b7:ρ15):PF:=e2T fun x y=>x6 N b7 x.2.1 y.1.1 y.1.2.1 y.1.2.2.1
abbrev d2Z:SV [.row 1]->BV [.cells [V3,V0,V0],.row 71 τ16 false]->(List τ0×Int×Int×List GStmt):=fun _ y=>(y.1.1,y.1.2.1,y.1.2.2.1,y.2.1)
abbrev d8L:SV [.row 1]->BV [.cells [V3,V0,V0],.row 71 τ16 false]->Except Int (List τ0×Int×Int×List GStmt):=fun x y=> .ok (d2Z x y)
def d2V(b7:ρ15):FuncId->Option Tmp->Option AF:=fun f _=>O5 [(74,b0f N)] f
theorem d2W(b7:ρ15)(n8:SoundP Tryz.prog GW B7 c2n 48 (a9v fun x y=>b7 x.2.1 y.1.1 y.1.2.1 y.1.2.2.1)):∀f q F,d2V N b7 f q=some F->Sound Tryz.prog GW B7 f F:=fun _ _ _ h=>o6 h (v8 (R7 N) G7)
def c55(b7:ρ15):FuncId->Option Tmp->Option PF:=fun f _=>
 match f with
  |48=>some (a9v fun x y=>b7 x.2.1 y.1.1 y.1.2.1 y.1.2.2.1)
  |76=>some (b0e N)
  |_=>none
theorem d2Y(b7:ρ15)(n8:SoundP Tryz.prog GW B7 c2n 48 (a9v fun x y=>b7 x.2.1 y.1.1 y.1.2.1 y.1.2.2.1)):∀f q F,c55 N b7 f q=some F->SoundP Tryz.prog GW B7 c2n f F:=by
 intro f q F h
 unfold c55 at h
 split at h
 ·cases h;exact n8
 ·cases h;exact R6 N
 ·cases h
def c37:Nat->Hint:=fun i=>
 match i with
 |0=>⟨[],[0,1,5],[0,1005],[5],[0,1005],[]⟩
 |_=>o3
abbrev b5z(b7:ρ15):Env:=a0I c37 (d2V N b7) (c55 N b7) (fun _=>false) (fun _=>false)
abbrev c36(b7:ρ15):=A8 (b5z N b7) Tryz.f79 (PF.tf (d2X N b7)) d8L
noncomputable abbrev b8n:Code:=V7 (m9 Tryz.f79) [true,true,true,false,false,false]
abbrev a9R:List (Nat×Sl):=[(0,.box 0 0),(1,V0),(5,.row 1005)]
abbrev a9Q:List (Nat×Sb):=[(0,.cells [V3,V0,V0]),(1005,.row 71 τ16 false)]
def b5B(a:Int)(b:List τ0)(c e:Int)(g:List GStmt):St:=⟨18,[(0,.box 0 0),(1,.v τ2 a),(5,.row 1005)],[(0,.cells [.v (.sl τ1) b,.v τ2 c,.v τ2 e]),(1005,.row 71 τ16 false g)]⟩
def a6V(_g:Int)(a:List τ0)(b c:Int)(e:List GStmt):St:=⟨18,[(5,.row 1005)],[(0,.cells [.v (.sl τ1) a,.v τ2 b,.v τ2 c]),(1005,.row 71 τ16 false e)]⟩
def d7e(b7:ρ15)(a:Int)(b:List τ0)(c e:Int)(g:List GStmt)(k:Ex->St->Option (Except Int (List τ0×Int×Int×List GStmt))):Option (Except Int (List τ0×Int×Int×List GStmt)):=b8m N b7 a (fun l m o p=>k (.exit 0) (a6V a l m o p)) N b c e g
abbrev c54(b7:ρ15):FV a9R->HV a9Q->(Ex->St->Option (Except Int (List τ0×Int×Int×List GStmt)))->Option (Except Int (List τ0×Int×Int×List GStmt)):=fun x y k=>d7e N b7 x.2.1 y.1.1 y.1.2.1 y.1.2.2.1 y.2.1 k
def b5C(b7:ρ15):Nat->Code->St->(Ex->St->Option (Except Int (List τ0×Int×Int×List GStmt)))->Option (Except Int (List τ0×Int×Int×List GStmt)):=fun i c=>
 match i with
 |0=>(LPc 18 a9R a9Q (c54 N b7) (fun st k=>iter (c37 0) (k6 (b5z N b7) N c 0) N st k))
 |i=>fun st k=>iter (c37 i) (k6 (b5z N b7) N c i) N st k
theorem c35(b7:ρ15)(a:Int)(KX:Nat->St->Option (Except Int (List τ0×Int×Int×List GStmt)))(I:St->Option (Except Int (List τ0×Int×Int×List GStmt)))(b:List τ0)(c e:Int)(g:List GStmt):
  k7 (b5C N b7) (b5z N b7) b8n 0 (b5B a b c e g) (p6 (c37 0) I KX (c36 N b7))=b5A N b7 a (fun l m o p=>KX 0 (a6V a l m o p)) (fun b c e g=>I (b5B a b c e g)) b c e g:=by kernel_rfl
theorem d2U(b7:ρ15):∀x y k,(∀st,k .ret st=(c36 N b7) st)->iter (c37 0) (k6 (b5z N b7) N b8n 0) N ⟨18,Y7 a9R x,Y8 a9Q y⟩ k=c54 N b7 x y k:=fun x y k hk=>
 j9 (S:=τ5×(Int)×(Int)×(List GStmt)×Unit) (c37 0) _ (k7 (b5C N b7) (b5z N b7) b8n 0) (c36 N b7) (k9 _ _ N _ b8n 0 (show LoopsOk (b5C N b7) (b5z N b7) N (c36 N b7) []from trivial)) (fun s=>b5B x.2.1 s.1 s.2.1 s.2.2.1 s.2.2.2.1) k hk
  (fun self s=>b5A N b7 x.2.1 (fun a b c e=>k (.exit 0) (a6V x.2.1 a b c e)) (fun g l m o=>self (g,l,m,o,())) s.1 s.2.1 s.2.2.1 s.2.2.2.1) (fun n s=>b8m N b7 x.2.1 (fun a b c e=>k (.exit 0) (a6V x.2.1 a b c e)) n s.1 s.2.1 s.2.2.1 s.2.2.2.1) (fun _=>rfl) (fun _ _=>rfl)
  (fun I s=>c35 N b7 x.2.1 (fun j=>k (.exit j)) I s.1 s.2.1 s.2.2.1 s.2.2.2.1) N (y.1.1,y.1.2.1,y.1.2.2.1,y.2.1,())
theorem e0E(b7:ρ15):F7 (b5C N b7) (b5z N b7) N (c36 N b7) 0 b8n:=fun st k hk=>p8 18 a9R a9Q _ _ (c36 N b7) (d2U N b7) _ st k hk (rfl)
theorem d7f(b7:ρ15)(x:SV [.box 0 0,V0])(y:BV [.cells [V3,V0,V0]]):F5 (b5z N b7) Tryz.f79 (PF.tf (d2X N b7)) d8L (b5C N b7) x y=x6 N b7 x.2.1 y.1.1 y.1.2.1 y.1.2.2.1:=by kernel_rfl
theorem d20(b7:ρ15)(n8:SoundP Tryz.prog GW B7 c2n 48 (a9v fun x y=>b7 x.2.1 y.1.1 y.1.2.1 y.1.2.2.1)):SoundP Tryz.prog GW B7 c2n 79 (d2X N b7):=
 b4k (b5z N b7) (D6 c37 (d2V N b7) (c55 N b7) _ _ (d2W N b7 n8) (d2Y N b7 n8)) Tryz.func79 rfl Tryz.call79 (d2X N b7) d2Z (fun _ _=>rfl) N (b5C N b7) (show LoopsOk (b5C N b7) (b5z N b7) N (c36 N b7) [(0,b8n)]from⟨e0E N b7,trivial⟩) (d7f N b7)
def I3(b:c8)(c:List τ0)(e g:Int):Option (Except Int τ17):=f5 (j6 N 1 b c e g) fun a=>br (!a.1) (l7 (o8 N a.2.1 a.2.2.1 a.2.2.2) fun l=>some (.ok l)) (some (.ok a.2))
abbrev e3n(f:SV [.box 0 0,V1]->BV [.cells [V3,V0,V0]]->Option (Except Int τ17)):PF:={ps:=[.box 0 0,V1],bs:=[.cells [V3,V0,V0]],rs:=[],cs:=[.cells [V3,V0,V0]],R:=List τ0×Int×Int,out:=fun z=>((),((z.1,z.2.1,z.2.2,()),())),f:=f}
abbrev e0S:PF:=e3n fun x y=>I3 N x.2.1 y.1.1 y.1.2.1 y.1.2.2.1
def d4h:FuncId->Option Tmp->Option AF:=fun f _=>O5 [(74,b0f N)] f
theorem d4i:I8 (d4h N):=fun _ _ _ h=>o6 h (v8 (R7 N) G7)
def c6q:FuncId->Option Tmp->Option PF:=fun f _=>
 match f with
  |136=>some (c8F N)
  |_=>none
theorem d4j:∀f q F,c6q N f q=some F->SoundP Tryz.prog GW B7 c2n f F:=by
 intro f q F h
 unfold c6q at h
 split at h
 ·cases h;exact a5u N
 ·cases h
def e3m:Nat->Hint:=fun i=>
 match i with
 |_=>o3
abbrev e5m:Env:=a0I e3m (d4h N) (c6q N) (fun _=>false) (fun _=>false)
theorem d4k:SoundP Tryz.prog GW B7 c2n 80 (e0S N):=
 a0p (e5m N) (D6 e3m (d4h N) (c6q N) _ _ (d4i N) (d4j N)) Tryz.func80 rfl Tryz.call80 (e0S N) (fun _ y=>(y.1.1,y.1.2.1,y.1.2.2.1)) (fun _ _=>rfl) N (fun _ _=>by kernel_rfl) rfl
def p9(a:List τ0)(e g:Int):Option (Except Int τ24):=br ((a.length:Int)==0) (l7 (o8 N a e g) fun b=>f5 (l6 b.1 0) fun l=>f5 (slc b.1 1 (b.1.length:Int)) fun m=>some (.ok (l.2.1,(m,b.2)))) (f5 (l6 a 0) fun o=>br (o.1 !=2) (l7 (o8 N a e g) fun c=>f5 (l6 c.1 0) fun p=>f5 (slc c.1 1 (c.1.length:Int)) fun q=>some (.ok (p.2.1,(q,c.2)))) (f5 (l6 a 0) fun r=>f5 (slc a 1 (a.length:Int)) fun t=>some (.ok (r.2.1,(t,(e,g))))))
abbrev e3l(f:SV [.box 0 0]->BV [.cells [V3,V0,V0]]->Option (Except Int τ24)):PF:={ps:=[.box 0 0],bs:=[.cells [V3,V0,V0]],rs:=[V1],cs:=[.cells [V3,V0,V0]],R:=c8×List τ0×Int×Int,out:=fun z=>((z.1,()),((z.2.1,z.2.2.1,z.2.2.2,()),())),f:=f}
abbrev c8G:PF:=e3l fun _ y=>p9 N y.1.1 y.1.2.1 y.1.2.2.1
def d4e(_N:Nat):FuncId->Option Tmp->Option AF:=fun f _=>O5 [] f
theorem d4f:I8 (d4e N):=fun _ _ _ h=>o6 h G7
def c6p:FuncId->Option Tmp->Option PF:=fun f _=>
 match f with
  |136=>some (c8F N)
  |_=>none
theorem d4g:∀f q F,c6p N f q=some F->SoundP Tryz.prog GW B7 c2n f F:=by
 intro f q F h
 unfold c6p at h
 split at h
 ·cases h;exact a5u N
 ·cases h
def e3k:Nat->Hint:=fun i=>
 match i with
 |_=>o3
abbrev e5l:Env:=a0I e3k (d4e N) (c6p N) (fun _=>false) (fun _=>false)
theorem b0g:SoundP Tryz.prog GW B7 c2n 82 (c8G N):=
 a0p (e5l N) (D6 e3k (d4e N) (c6p N) _ _ (d4f N) (d4g N)) Tryz.func82 rfl Tryz.call82 (c8G N) (fun x y=>(x.1,y.1.1,y.1.2.1,y.1.2.2.1)) (fun _ _=>rfl) N (fun _ _=>by kernel_rfl) rfl
abbrev G6(f:SV [.box 0 0]->BV [.cells [V3,V0,V0]]->Option (Except Int (GPart×List τ0×Int×Int))):PF:={ps:=[.box 0 0],bs:=[.cells [V3,V0,V0]],rs:=[.v (.rc .part)],cs:=[.cells [V3,V0,V0]],R:=GPart×List τ0×Int×Int,out:=fun z=>((z.1,()),((z.2.1,z.2.2.1,z.2.2.2,()),())),f:=f}
def v6(_N:Nat)(a7:H2)(b:Int)(c:c8)(e g:Int)(l:List τ0)(m o:Int):Option (Except Int (Int×c8×Int×Int×List τ0×Int×Int×List GPart)):=n7 (n7 (n7 (l7 (a7 l m o) fun a=>j0 1 (br (decide ([GPart.mk 0 [] 0 [] 0 []].length*(24*Ty.sz (.rc .part))<=140737488355328)) (br (decide (0<=(0: Int)/\0<([GPart.mk 0 [] 0 [] 0 []].length:Int))) (j0 1 (f5 (l6 [GPart.mk 0 [] 0 [] 0 []] 0) fun _=>some (.ok (b,(c,(e,(g,(a.2.1,(a.2.2.1,(a.2.2.2,B8 [GPart.mk 0 [] 0 [] 0 []] 0 a.1)))))))))) none) none)) (j0 1 (j0 1 (l7 (a7 l m o) fun a=>br (decide ([GPart.mk 0 [] 0 [] 0 []].length*(24*Ty.sz (.rc .part))<=140737488355328)) (br (decide (0<=(0: Int)/\0<([GPart.mk 0 [] 0 [] 0 []].length:Int))) (j0 1 (f5 (l6 [GPart.mk 0 [] 0 [] 0 []] 0) fun _=>some (.ok (b,(c,(e,(g,(a.2.1,(a.2.2.1,(a.2.2.2,B8 [GPart.mk 0 [] 0 [] 0 []] 0 a.1)))))))))) none) none)))) (j0 1 (n7 (j0 1 (l7 (a7 l m o) fun a=>br (decide ([GPart.mk 0 [] 0 [] 0 []].length*(24*Ty.sz (.rc .part))<=140737488355328)) (br (decide (0<=(0: Int)/\0<([GPart.mk 0 [] 0 [] 0 []].length:Int))) (j0 1 (f5 (l6 [GPart.mk 0 [] 0 [] 0 []] 0) fun _=>some (.ok (b,(c,(e,(g,(a.2.1,(a.2.2.1,(a.2.2.2,B8 [GPart.mk 0 [] 0 [] 0 []] 0 a.1)))))))))) none) none)) (l7 (a7 l m o) fun a=>br (decide ([GPart.mk 0 [] 0 [] 0 []].length*(24*Ty.sz (.rc .part))<=140737488355328)) (br (decide (0<=(0: Int)/\0<([GPart.mk 0 [] 0 [] 0 []].length:Int))) (j0 1 (f5 (l6 [GPart.mk 0 [] 0 [] 0 []] 0) fun _=>some (.ok (b,(c,(e,(g,(a.2.1,(a.2.2.1,(a.2.2.2,B8 [GPart.mk 0 [] 0 [] 0 []] 0 a.1)))))))))) none) none)))) (n7 (n7 (n7 (l7 (a7 l m o) fun a=>j0 1 (br (decide ([GPart.mk 0 [] 0 [] 0 []].length*(24*Ty.sz (.rc .part))<=140737488355328)) (br (decide (0<=(0: Int)/\0<([GPart.mk 0 [] 0 [] 0 []].length:Int))) (j0 1 (f5 (l6 [GPart.mk 0 [] 0 [] 0 []] 0) fun _=>some (.ok (b,(c,(e,(g,(a.2.1,(a.2.2.1,(a.2.2.2,B8 [GPart.mk 0 [] 0 [] 0 []] 0 a.1)))))))))) none) none)) (j0 1 (j0 1 (l7 (a7 l m o) fun a=>br (decide ([GPart.mk 0 [] 0 [] 0 []].length*(24*Ty.sz (.rc .part))<=140737488355328)) (br (decide (0<=(0: Int)/\0<([GPart.mk 0 [] 0 [] 0 []].length:Int))) (j0 1 (f5 (l6 [GPart.mk 0 [] 0 [] 0 []] 0) fun _=>some (.ok (b,(c,(e,(g,(a.2.1,(a.2.2.1,(a.2.2.2,B8 [GPart.mk 0 [] 0 [] 0 []] 0 a.1)))))))))) none) none)))) (n7 (l7 (a7 l m o) fun a=>n7 (j0 1 (br (decide ([GPart.mk 0 [] 0 [] 0 []].length*(24*Ty.sz (.rc .part))<=140737488355328)) (br (decide (0<=(0: Int)/\0<([GPart.mk 0 [] 0 [] 0 []].length:Int))) (j0 1 (f5 (l6 [GPart.mk 0 [] 0 [] 0 []] 0) fun _=>some (.ok (b,(c,(e,(g,(a.2.1,(a.2.2.1,(a.2.2.2,B8 [GPart.mk 0 [] 0 [] 0 []] 0 a.1)))))))))) none) none)) (br (decide ([GPart.mk 0 [] 0 [] 0 []].length*(24*Ty.sz (.rc .part))<=140737488355328)) (br (decide (0<=(0: Int)/\0<([GPart.mk 0 [] 0 [] 0 []].length:Int))) (j0 1 (f5 (l6 [GPart.mk 0 [] 0 [] 0 []] 0) fun _=>some (.ok (b,(c,(e,(g,(a.2.1,(a.2.2.1,(a.2.2.2,B8 [GPart.mk 0 [] 0 [] 0 []] 0 a.1)))))))))) none) none)) (n7 (j0 1 (l7 (a7 l m o) fun a=>br (decide ([GPart.mk 0 [] 0 [] 0 []].length*(24*Ty.sz (.rc .part))<=140737488355328)) (br (decide (0<=(0: Int)/\0<([GPart.mk 0 [] 0 [] 0 []].length:Int))) (j0 1 (f5 (l6 [GPart.mk 0 [] 0 [] 0 []] 0) fun _=>some (.ok (b,(c,(e,(g,(a.2.1,(a.2.2.1,(a.2.2.2,B8 [GPart.mk 0 [] 0 [] 0 []] 0 a.1)))))))))) none) none)) (l7 (a7 l m o) fun a=>br (decide ([GPart.mk 0 [] 0 [] 0 []].length*(24*Ty.sz (.rc .part))<=140737488355328)) (br (decide (0<=(0: Int)/\0<([GPart.mk 0 [] 0 [] 0 []].length:Int))) (j0 1 (f5 (l6 [GPart.mk 0 [] 0 [] 0 []] 0) fun _=>some (.ok (b,(c,(e,(g,(a.2.1,(a.2.2.1,(a.2.2.2,B8 [GPart.mk 0 [] 0 [] 0 []] 0 a.1)))))))))) none) none)))) (j0 1 (n7 (j0 1 (l7 (a7 l m o) fun a=>br (decide ([GPart.mk 0 [] 0 [] 0 []].length*(24*Ty.sz (.rc .part))<=140737488355328)) (br (decide (0<=(0: Int)/\0<([GPart.mk 0 [] 0 [] 0 []].length:Int))) (j0 1 (f5 (l6 [GPart.mk 0 [] 0 [] 0 []] 0) fun _=>some (.ok (b,(c,(e,(g,(a.2.1,(a.2.2.1,(a.2.2.2,B8 [GPart.mk 0 [] 0 [] 0 []] 0 a.1)))))))))) none) none)) (l7 (a7 l m o) fun a=>br (decide ([GPart.mk 0 [] 0 [] 0 []].length*(24*Ty.sz (.rc .part))<=140737488355328)) (br (decide (0<=(0: Int)/\0<([GPart.mk 0 [] 0 [] 0 []].length:Int))) (j0 1 (f5 (l6 [GPart.mk 0 [] 0 [] 0 []] 0) fun _=>some (.ok (b,(c,(e,(g,(a.2.1,(a.2.2.1,(a.2.2.2,B8 [GPart.mk 0 [] 0 [] 0 []] 0 a.1)))))))))) none) none))))
abbrev e2V(f:SV [.box 0 0,.box 1 0]->BV [.cells [V0,V1,V0,.nilS,.nilS,V0,.nilS],.cells [.box 2 0],.cells [V3,V0,V0]]->Option (Except Int (Int×c8×Int×Int×List τ0×Int×Int×List GPart))):PF:={ps:=[.box 0 0,.box 1 0],bs:=[.cells [V0,V1,V0,.nilS,.nilS,V0,.nilS],.cells [.box 2 0],.cells [V3,V0,V0]],rs:=[],cs:=[.cells [V0,V1,V0,.nilS,.nilS,V0,.row 3],.cells [.box 2 0],.cells [V3,V0,V0],.row 201 (.rc .part) true],R:=Int×c8×Int×Int×List τ0×Int×Int×List GPart,out:=fun z=>((),((z.1,z.2.1,z.2.2.1,(),(),z.2.2.2.1,(),()),((),()),(z.2.2.2.2.1,z.2.2.2.2.2.1,z.2.2.2.2.2.2.1,()),z.2.2.2.2.2.2.2,())),f:=f}
abbrev d23(a7:H2):PF:=e2V fun _ y=>v6 N a7 y.1.1 y.1.2.1 y.1.2.2.1 y.1.2.2.2.2.2.1 y.2.2.1.1 y.2.2.1.2.1 y.2.2.1.2.2.1
def d21(_N:Nat)(a7:H2):FuncId->Option Tmp->Option AF:=fun f _=>O5 [] f
theorem d22(a7:H2)(d2:SoundP Tryz.prog GW B7 c2n 138 (G6 fun x y=>a7 y.1.1 y.1.2.1 y.1.2.2.1)):∀f q F,d21 N a7 f q=some F->Sound Tryz.prog GW B7 f F:=fun _ _ _ h=>o6 h G7
def c56(_N:Nat)(a7:H2):FuncId->Option Tmp->Option PF:=fun f _=>
 match f with
  |138=>some (G6 fun _ y=>a7 y.1.1 y.1.2.1 y.1.2.2.1)
  |_=>none
theorem d24(a7:H2)(d2:SoundP Tryz.prog GW B7 c2n 138 (G6 fun x y=>a7 y.1.1 y.1.2.1 y.1.2.2.1)):∀f q F,c56 N a7 f q=some F->SoundP Tryz.prog GW B7 c2n f F:=by
 intro f q F h
 unfold c56 at h
 split at h
 ·cases h;exact d2
 ·cases h
def e2U:Nat->Hint:=fun i=>
 match i with
 |100000=>⟨[],[1,2],[],[],[],[]⟩
 |_=>o3
abbrev e5b(a7:H2):Env:=a0I e2U (d21 N a7) (c56 N a7) (fun i=>match i with|6=>true|7=>true|8=>true|_=>false) (fun _=>false)
theorem b5D(a7:H2)(d2:SoundP Tryz.prog GW B7 c2n 138 (G6 fun x y=>a7 y.1.1 y.1.2.1 y.1.2.2.1)):SoundP Tryz.prog GW B7 c2n 258 (d23 N a7):=
 a0p (e5b N a7) (D6 e2U (d21 N a7) (c56 N a7) _ _ (d22 N a7 d2) (d24 N a7 d2)) Tryz.func258 rfl Tryz.call258 (d23 N a7) (fun _ y=>(y.1.1,y.1.2.1,y.1.2.2.1,y.1.2.2.2.2.2.1,y.2.2.1.1,y.2.2.1.2.1,y.2.2.1.2.2.1,y.2.2.2.1)) (fun _ _=>rfl) N (fun _ _=>by kernel_rfl) rfl
def z6(_N:Nat)(a7:H2)(c:Int)(e:c8)(g l:Int)(a:List GPart)(m:List τ0)(o p:Int):Option (Except Int (Int×c8×Int×Int×List GPart×List τ0×Int×Int)):=n7 (n7 (n7 (l7 (a7 m o p) fun b=>j0 1 (br (decide ((a.length + [GPart.mk 0 [] 0 [] 0 []].length)*(24*Ty.sz (.rc .part))<=140737488355328)) (br (decide (0<=(a.length:Int)/\(a.length:Int)<((a ++ [GPart.mk 0 [] 0 [] 0 []]).length:Int))) (j0 1 (f5 (l6 (a ++ [GPart.mk 0 [] 0 [] 0 []]) (a.length:Int)) fun _=>some (.ok (c,(e,(g,(l,(B8 (a ++ [GPart.mk 0 [] 0 [] 0 []]) (a.length:Int) b.1,b.2)))))))) none) none)) (j0 1 (j0 1 (l7 (a7 m o p) fun b=>br (decide ((a.length + [GPart.mk 0 [] 0 [] 0 []].length)*(24*Ty.sz (.rc .part))<=140737488355328)) (br (decide (0<=(a.length:Int)/\(a.length:Int)<((a ++ [GPart.mk 0 [] 0 [] 0 []]).length:Int))) (j0 1 (f5 (l6 (a ++ [GPart.mk 0 [] 0 [] 0 []]) (a.length:Int)) fun _=>some (.ok (c,(e,(g,(l,(B8 (a ++ [GPart.mk 0 [] 0 [] 0 []]) (a.length:Int) b.1,b.2)))))))) none) none)))) (j0 1 (n7 (j0 1 (l7 (a7 m o p) fun b=>br (decide ((a.length + [GPart.mk 0 [] 0 [] 0 []].length)*(24*Ty.sz (.rc .part))<=140737488355328)) (br (decide (0<=(a.length:Int)/\(a.length:Int)<((a ++ [GPart.mk 0 [] 0 [] 0 []]).length:Int))) (j0 1 (f5 (l6 (a ++ [GPart.mk 0 [] 0 [] 0 []]) (a.length:Int)) fun _=>some (.ok (c,(e,(g,(l,(B8 (a ++ [GPart.mk 0 [] 0 [] 0 []]) (a.length:Int) b.1,b.2)))))))) none) none)) (l7 (a7 m o p) fun b=>br (decide ((a.length + [GPart.mk 0 [] 0 [] 0 []].length)*(24*Ty.sz (.rc .part))<=140737488355328)) (br (decide (0<=(a.length:Int)/\(a.length:Int)<((a ++ [GPart.mk 0 [] 0 [] 0 []]).length:Int))) (j0 1 (f5 (l6 (a ++ [GPart.mk 0 [] 0 [] 0 []]) (a.length:Int)) fun _=>some (.ok (c,(e,(g,(l,(B8 (a ++ [GPart.mk 0 [] 0 [] 0 []]) (a.length:Int) b.1,b.2)))))))) none) none)))) (n7 (n7 (n7 (l7 (a7 m o p) fun b=>j0 1 (br (decide ((a.length + [GPart.mk 0 [] 0 [] 0 []].length)*(24*Ty.sz (.rc .part))<=140737488355328)) (br (decide (0<=(a.length:Int)/\(a.length:Int)<((a ++ [GPart.mk 0 [] 0 [] 0 []]).length:Int))) (j0 1 (f5 (l6 (a ++ [GPart.mk 0 [] 0 [] 0 []]) (a.length:Int)) fun _=>some (.ok (c,(e,(g,(l,(B8 (a ++ [GPart.mk 0 [] 0 [] 0 []]) (a.length:Int) b.1,b.2)))))))) none) none)) (j0 1 (j0 1 (l7 (a7 m o p) fun b=>br (decide ((a.length + [GPart.mk 0 [] 0 [] 0 []].length)*(24*Ty.sz (.rc .part))<=140737488355328)) (br (decide (0<=(a.length:Int)/\(a.length:Int)<((a ++ [GPart.mk 0 [] 0 [] 0 []]).length:Int))) (j0 1 (f5 (l6 (a ++ [GPart.mk 0 [] 0 [] 0 []]) (a.length:Int)) fun _=>some (.ok (c,(e,(g,(l,(B8 (a ++ [GPart.mk 0 [] 0 [] 0 []]) (a.length:Int) b.1,b.2)))))))) none) none)))) (n7 (l7 (a7 m o p) fun b=>n7 (j0 1 (br (decide ((a.length + [GPart.mk 0 [] 0 [] 0 []].length)*(24*Ty.sz (.rc .part))<=140737488355328)) (br (decide (0<=(a.length:Int)/\(a.length:Int)<((a ++ [GPart.mk 0 [] 0 [] 0 []]).length:Int))) (j0 1 (f5 (l6 (a ++ [GPart.mk 0 [] 0 [] 0 []]) (a.length:Int)) fun _=>some (.ok (c,(e,(g,(l,(B8 (a ++ [GPart.mk 0 [] 0 [] 0 []]) (a.length:Int) b.1,b.2)))))))) none) none)) (br (decide ((a.length + [GPart.mk 0 [] 0 [] 0 []].length)*(24*Ty.sz (.rc .part))<=140737488355328)) (br (decide (0<=(a.length:Int)/\(a.length:Int)<((a ++ [GPart.mk 0 [] 0 [] 0 []]).length:Int))) (j0 1 (f5 (l6 (a ++ [GPart.mk 0 [] 0 [] 0 []]) (a.length:Int)) fun _=>some (.ok (c,(e,(g,(l,(B8 (a ++ [GPart.mk 0 [] 0 [] 0 []]) (a.length:Int) b.1,b.2)))))))) none) none)) (n7 (j0 1 (l7 (a7 m o p) fun b=>br (decide ((a.length + [GPart.mk 0 [] 0 [] 0 []].length)*(24*Ty.sz (.rc .part))<=140737488355328)) (br (decide (0<=(a.length:Int)/\(a.length:Int)<((a ++ [GPart.mk 0 [] 0 [] 0 []]).length:Int))) (j0 1 (f5 (l6 (a ++ [GPart.mk 0 [] 0 [] 0 []]) (a.length:Int)) fun _=>some (.ok (c,(e,(g,(l,(B8 (a ++ [GPart.mk 0 [] 0 [] 0 []]) (a.length:Int) b.1,b.2)))))))) none) none)) (l7 (a7 m o p) fun b=>br (decide ((a.length + [GPart.mk 0 [] 0 [] 0 []].length)*(24*Ty.sz (.rc .part))<=140737488355328)) (br (decide (0<=(a.length:Int)/\(a.length:Int)<((a ++ [GPart.mk 0 [] 0 [] 0 []]).length:Int))) (j0 1 (f5 (l6 (a ++ [GPart.mk 0 [] 0 [] 0 []]) (a.length:Int)) fun _=>some (.ok (c,(e,(g,(l,(B8 (a ++ [GPart.mk 0 [] 0 [] 0 []]) (a.length:Int) b.1,b.2)))))))) none) none)))) (j0 1 (n7 (j0 1 (l7 (a7 m o p) fun b=>br (decide ((a.length + [GPart.mk 0 [] 0 [] 0 []].length)*(24*Ty.sz (.rc .part))<=140737488355328)) (br (decide (0<=(a.length:Int)/\(a.length:Int)<((a ++ [GPart.mk 0 [] 0 [] 0 []]).length:Int))) (j0 1 (f5 (l6 (a ++ [GPart.mk 0 [] 0 [] 0 []]) (a.length:Int)) fun _=>some (.ok (c,(e,(g,(l,(B8 (a ++ [GPart.mk 0 [] 0 [] 0 []]) (a.length:Int) b.1,b.2)))))))) none) none)) (l7 (a7 m o p) fun b=>br (decide ((a.length + [GPart.mk 0 [] 0 [] 0 []].length)*(24*Ty.sz (.rc .part))<=140737488355328)) (br (decide (0<=(a.length:Int)/\(a.length:Int)<((a ++ [GPart.mk 0 [] 0 [] 0 []]).length:Int))) (j0 1 (f5 (l6 (a ++ [GPart.mk 0 [] 0 [] 0 []]) (a.length:Int)) fun _=>some (.ok (c,(e,(g,(l,(B8 (a ++ [GPart.mk 0 [] 0 [] 0 []]) (a.length:Int) b.1,b.2)))))))) none) none))))
abbrev e2o(f:SV [.box 0 0,.box 1 0]->BV [.cells [V0,V1,V0,.nilS,.nilS,V0,.row 2],.cells [.box 3 0],.row 201 (.rc .part) true,.cells [V3,V0,V0]]->Option (Except Int (Int×c8×Int×Int×List GPart×List τ0×Int×Int))):PF:={ps:=[.box 0 0,.box 1 0],bs:=[.cells [V0,V1,V0,.nilS,.nilS,V0,.row 2],.cells [.box 3 0],.row 201 (.rc .part) true,.cells [V3,V0,V0]],rs:=[],cs:=[.cells [V0,V1,V0,.nilS,.nilS,V0,.row 2],.cells [.box 3 0],.row 201 (.rc .part) true,.cells [V3,V0,V0]],R:=Int×c8×Int×Int×List GPart×List τ0×Int×Int,out:=fun z=>((),((z.1,z.2.1,z.2.2.1,(),(),z.2.2.2.1,(),()),((),()),z.2.2.2.2.1,(z.2.2.2.2.2.1,z.2.2.2.2.2.2.1,z.2.2.2.2.2.2.2,()),())),f:=f}
abbrev d6V(a7:H2):PF:=e2o fun _ y=>z6 N a7 y.1.1 y.1.2.1 y.1.2.2.1 y.1.2.2.2.2.2.1 y.2.2.1 y.2.2.2.1.1 y.2.2.2.1.2.1 y.2.2.2.1.2.2.1
def d1V(_N:Nat)(a7:H2):FuncId->Option Tmp->Option AF:=fun f _=>O5 [] f
theorem d1W(a7:H2)(d2:SoundP Tryz.prog GW B7 c2n 138 (G6 fun x y=>a7 y.1.1 y.1.2.1 y.1.2.2.1)):∀f q F,d1V N a7 f q=some F->Sound Tryz.prog GW B7 f F:=fun _ _ _ h=>o6 h G7
def c5T(_N:Nat)(a7:H2):FuncId->Option Tmp->Option PF:=fun f _=>
 match f with
  |138=>some (G6 fun _ y=>a7 y.1.1 y.1.2.1 y.1.2.2.1)
  |_=>none
theorem d1X(a7:H2)(d2:SoundP Tryz.prog GW B7 c2n 138 (G6 fun x y=>a7 y.1.1 y.1.2.1 y.1.2.2.1)):∀f q F,c5T N a7 f q=some F->SoundP Tryz.prog GW B7 c2n f F:=by
 intro f q F h
 unfold c5T at h
 split at h
 ·cases h;exact d2
 ·cases h
def e2n:Nat->Hint:=fun i=>
 match i with
 |100000=>⟨[],[1,2],[],[],[],[]⟩
 |_=>o3
abbrev e42(a7:H2):Env:=a0I e2n (d1V N a7) (c5T N a7) (fun i=>match i with|6=>true|7=>true|8=>true|_=>false) (fun _=>false)
theorem c1A(a7:H2)(d2:SoundP Tryz.prog GW B7 c2n 138 (G6 fun x y=>a7 y.1.1 y.1.2.1 y.1.2.2.1)):SoundP Tryz.prog GW B7 c2n 258 (d6V N a7):=
 a0p (e42 N a7) (D6 e2n (d1V N a7) (c5T N a7) _ _ (d1W N a7 d2) (d1X N a7 d2)) Tryz.func258 rfl Tryz.call258 (d6V N a7) (fun _ y=>(y.1.1,y.1.2.1,y.1.2.2.1,y.1.2.2.2.2.2.1,y.2.2.1,y.2.2.2.1.1,y.2.2.2.1.2.1,y.2.2.2.1.2.2.1)) (fun _ _=>rfl) N (fun _ _=>by kernel_rfl) rfl
end
end Go.Proofs.YtolpmfhiegpohaaGreatDoor
