/- What functions of the program compute, as plain functions (printed). -/
import Derived.Test.YtolpmfhiegpohaaGreatDoorQPaF3
namespace Go.Proofs.YtolpmfhiegpohaaGreatDoor
open Go Go.RowKit
set_option maxRecDepth 100000
set_option linter.unusedVariables false
noncomputable section
variable(N:Nat)
def a8J(b7:ρ7)(e:Int)(k0 self:ρ6)(g:List τ0)(l m:Int)(c:List GStmt):Option (Except Int (List τ0×Int×Int×List GStmt)):=f5 (j6 N 4 [125] g l m) fun a=>br (!a.1) (l7 (b7 e a.2.1 a.2.2.1 a.2.2.2) fun b=>br (decide ((c.length + [b.1].length)*(24*Ty.sz τ16)<=140737488355328)) (self b.2.1 b.2.2.1 b.2.2.2 (c ++ [b.1])) none) (k0 a.2.1 a.2.2.1 a.2.2.2 c)
def b8j(N:Nat)(b7:ρ7)(a:Int)(k0:ρ6):Nat->τ4->Int->Int->(List GStmt)->Option (Except Int (List τ0×Int×Int×List GStmt))|0,_,_,_,_=>none|n+1,b,c,e,g=>a8J N b7 a k0 (b8j N b7 a k0 n) b c e g
def x6(b7:ρ7)(b:Int)(c:List τ0)(e g:Int):Option (Except Int (List τ0×Int×Int×List GStmt)):=l7 (g8 N [123] c e g) fun a=>b8j N b7 b (fun l m o p=>some (.ok (l,(m,(o,p))))) N a.1 a.2.1 a.2.2 []
abbrev e2Q(f:SV [.box 0 0,V0]->BV [.cells [V2,V0,V0]]->Option (Except Int (List τ0×Int×Int×List GStmt))):PF:={ps:=[.box 0 0,V0],bs:=[.cells [V2,V0,V0]],rs:=[.row 1],cs:=[.cells [V2,V0,V0],.row 71 τ16 false],R:=List τ0×Int×Int×List GStmt,out:=fun z=>(((),()),((z.1,z.2.1,z.2.2.1,()),z.2.2.2,())),f:=f}
abbrev d2G(b7:ρ7):PF:=e2Q fun x y=>x6 N b7 x.2.1 y.1.1 y.1.2.1 y.1.2.2.1
abbrev f2b:SV [.row 1]->BV [.cells [V2,V0,V0],.row 71 τ16 false]->(List τ0×Int×Int×List GStmt):=fun _ y=>(y.1.1,y.1.2.1,y.1.2.2.1,y.2.1)
abbrev d2H:SV [.row 1]->BV [.cells [V2,V0,V0],.row 71 τ16 false]->Except Int (List τ0×Int×Int×List GStmt):=fun x y=> .ok (f2b x y)
def d8H(b7:ρ7):FuncId->Option Tmp->Option AF:=fun f _=>O5 [(74,e0P N)] f
theorem d2F(b7:ρ7)(n8:SoundP Tryz.prog GW B7 c2n 48 (a9v fun x y=>b7 x.2.1 y.1.1 y.1.2.1 y.1.2.2.1)):∀f q F,d8H N b7 f q=some F->Sound Tryz.prog GW B7 f F:=fun _ _ _ h=>o6 h (v8 (d32 N) G7)
def f0J(b7:ρ7):FuncId->Option Tmp->Option PF:=fun f _=>
 match f with
  |48=>some (a9v fun x y=>b7 x.2.1 y.1.1 y.1.2.1 y.1.2.2.1)
  |76=>some (e0O N)
  |_=>none
theorem f2a(b7:ρ7)(n8:SoundP Tryz.prog GW B7 c2n 48 (a9v fun x y=>b7 x.2.1 y.1.1 y.1.2.1 y.1.2.2.1)):∀f q F,f0J N b7 f q=some F->SoundP Tryz.prog GW B7 c2n f F:=by
 intro f q F h
 unfold f0J at h
 split at h
 ·cases h;exact n8
 ·cases h;exact d31 N
 ·cases h
def c8z:Nat->Hint:=fun i=>
 match i with
 |0=>⟨[],[0,1,5],[0,1005],[5],[0,1005],[]⟩
 |_=>o3
abbrev b6Z(b7:ρ7):Env:=a0I c8z (d8H N b7) (f0J N b7) (fun _=>false) (fun _=>false)
abbrev c30(b7:ρ7):=A8 (b6Z N b7) Tryz.f79 (PF.tf (d2G N b7)) d2H
noncomputable abbrev a4y:Code:=V7 (m9 Tryz.f79) [true,true,true,false,false,false]
abbrev a9L:List (Nat×Sl):=[(0,.box 0 0),(1,V0),(5,.row 1005)]
abbrev a9K:List (Nat×Sb):=[(0,.cells [V2,V0,V0]),(1005,.row 71 τ16 false)]
def b5t(a:Int)(b:List τ0)(c e:Int)(g:List GStmt):St:=⟨18,[(0,.box 0 0),(1,.v τ2 a),(5,.row 1005)],[(0,.cells [.v (.sl τ1) b,.v τ2 c,.v τ2 e]),(1005,.row 71 τ16 false g)]⟩
def a6S(_g:Int)(a:List τ0)(b c:Int)(e:List GStmt):St:=⟨18,[(5,.row 1005)],[(0,.cells [.v (.sl τ1) a,.v τ2 b,.v τ2 c]),(1005,.row 71 τ16 false e)]⟩
def d68(b7:ρ7)(a:Int)(b:List τ0)(c e:Int)(g:List GStmt)(k:Ex->St->Option (Except Int (List τ0×Int×Int×List GStmt))):Option (Except Int (List τ0×Int×Int×List GStmt)):=b8j N b7 a (fun l m o p=>k (.exit 0) (a6S a l m o p)) N b c e g
abbrev c51(b7:ρ7):FV a9L->HV a9K->(Ex->St->Option (Except Int (List τ0×Int×Int×List GStmt)))->Option (Except Int (List τ0×Int×Int×List GStmt)):=fun x y k=>d68 N b7 x.2.1 y.1.1 y.1.2.1 y.1.2.2.1 y.2.1 k
def b5u(b7:ρ7):Nat->Code->St->(Ex->St->Option (Except Int (List τ0×Int×Int×List GStmt)))->Option (Except Int (List τ0×Int×Int×List GStmt)):=fun i c=>
 match i with
 |0=>(LPc 18 a9L a9K (c51 N b7) (fun st k=>iter (c8z 0) (V4 (b6Z N b7) N c 0) N st k))
 |i=>fun st k=>iter (c8z i) (V4 (b6Z N b7) N c i) N st k
theorem c3Z(b7:ρ7)(a:Int)(KX:Nat->St->Option (Except Int (List τ0×Int×Int×List GStmt)))(I:St->Option (Except Int (List τ0×Int×Int×List GStmt)))(b:List τ0)(c e:Int)(g:List GStmt):
  a0b (b5u N b7) (b6Z N b7) a4y 0 (b5t a b c e g) (p6 (c8z 0) I KX (c30 N b7))=a8J N b7 a (fun l m o p=>KX 0 (a6S a l m o p)) (fun b c e g=>I (b5t a b c e g)) b c e g:=by kernel_rfl
theorem d2E(b7:ρ7):∀x y k,(∀st,k .ret st=(c30 N b7) st)->iter (c8z 0) (V4 (b6Z N b7) N a4y 0) N ⟨18,Y7 a9L x,Y8 a9K y⟩ k=c51 N b7 x y k:=fun x y k hk=>
 j9 (S:=τ4×(Int)×(Int)×(List GStmt)×Unit) (c8z 0) _ (a0b (b5u N b7) (b6Z N b7) a4y 0) (c30 N b7) (k9 _ _ N _ a4y 0 (show LoopsOk (b5u N b7) (b6Z N b7) N (c30 N b7) []from trivial)) (fun s=>b5t x.2.1 s.1 s.2.1 s.2.2.1 s.2.2.2.1) k hk
  (fun self s=>a8J N b7 x.2.1 (fun a b c e=>k (.exit 0) (a6S x.2.1 a b c e)) (fun g l m o=>self (g,l,m,o,())) s.1 s.2.1 s.2.2.1 s.2.2.2.1) (fun n s=>b8j N b7 x.2.1 (fun a b c e=>k (.exit 0) (a6S x.2.1 a b c e)) n s.1 s.2.1 s.2.2.1 s.2.2.2.1) (fun _=>rfl) (fun _ _=>rfl)
  (fun I s=>c3Z N b7 x.2.1 (fun j=>k (.exit j)) I s.1 s.2.1 s.2.2.1 s.2.2.2.1) N (y.1.1,y.1.2.1,y.1.2.2.1,y.2.1,())
theorem e0B(b7:ρ7):F7 (b5u N b7) (b6Z N b7) N (c30 N b7) 0 a4y:=fun st k hk=>p8 18 a9L a9K _ _ (c30 N b7) (d2E N b7) _ st k hk (rfl)
theorem d69(b7:ρ7)(x:SV [.box 0 0,V0])(y:BV [.cells [V2,V0,V0]]):F5 (b6Z N b7) Tryz.f79 (PF.tf (d2G N b7)) d2H (b5u N b7) x y=x6 N b7 x.2.1 y.1.1 y.1.2.1 y.1.2.2.1:=by kernel_rfl
theorem d2I(b7:ρ7)(n8:SoundP Tryz.prog GW B7 c2n 48 (a9v fun x y=>b7 x.2.1 y.1.1 y.1.2.1 y.1.2.2.1)):SoundP Tryz.prog GW B7 c2n 79 (d2G N b7):=
 b4k (b6Z N b7) (D6 c8z (d8H N b7) (f0J N b7) _ _ (d2F N b7 n8) (f2a N b7 n8)) Tryz.func79 rfl Tryz.call79 (d2G N b7) f2b (fun _ _=>rfl) N (b5u N b7) (show LoopsOk (b5u N b7) (b6Z N b7) N (c30 N b7) [(0,a4y)]from⟨e0B N b7,trivial⟩) (d69 N b7)
def I3(b:c8)(c:List τ0)(e g:Int):Option (Except Int τ9):=f5 (j6 N 1 b c e g) fun a=>br (!a.1) (l7 (o8 N a.2.1 a.2.2.1 a.2.2.2) fun l=>some (.ok l)) (some (.ok a.2))
abbrev G6(f:SV [.box 0 0,V1]->BV [.cells [V2,V0,V0]]->Option (Except Int τ9)):PF:={ps:=[.box 0 0,V1],bs:=[.cells [V2,V0,V0]],rs:=[],cs:=[.cells [V2,V0,V0]],R:=List τ0×Int×Int,out:=fun z=>((),((z.1,z.2.1,z.2.2,()),())),f:=f}
abbrev f5a:PF:=G6 fun x y=>I3 N x.2.1 y.1.1 y.1.2.1 y.1.2.2.1
def f2u:FuncId->Option Tmp->Option AF:=fun f _=>O5 [(74,e0P N)] f
theorem f2v:I8 (f2u N):=fun _ _ _ h=>o6 h (v8 (d32 N) G7)
def f0T:FuncId->Option Tmp->Option PF:=fun f _=>
 match f with
  |136=>some (d7u N)
  |_=>none
theorem f2w:∀f q F,f0T N f q=some F->SoundP Tryz.prog GW B7 c2n f F:=by
 intro f q F h
 unfold f0T at h
 split at h
 ·cases h;exact d3O N
 ·cases h
def f5S:Nat->Hint:=fun i=>
 match i with
 |_=>o3
abbrev f6o:Env:=a0I f5S (f2u N) (f0T N) (fun _=>false) (fun _=>false)
theorem c1J:SoundP Tryz.prog GW B7 c2n 80 (f5a N):=
 a0p (f6o N) (D6 f5S (f2u N) (f0T N) _ _ (f2v N) (f2w N)) Tryz.func80 rfl Tryz.call80 (f5a N) (fun _ y=>(y.1.1,y.1.2.1,y.1.2.2.1)) (fun _ _=>rfl) N (fun _ _=>by kernel_rfl) rfl
def p9(a:List τ0)(e g:Int):Option (Except Int τ18):=br ((a.length:Int)==0) (l7 (o8 N a e g) fun b=>f5 (l6 b.1 0) fun l=>f5 (slc b.1 1 (b.1.length:Int)) fun m=>some (.ok (l.2.1,(m,b.2)))) (f5 (l6 a 0) fun o=>br (o.1 !=2) (l7 (o8 N a e g) fun c=>f5 (l6 c.1 0) fun p=>f5 (slc c.1 1 (c.1.length:Int)) fun q=>some (.ok (p.2.1,(q,c.2)))) (f5 (l6 a 0) fun r=>f5 (slc a 1 (a.length:Int)) fun t=>some (.ok (r.2.1,(t,(e,g))))))
abbrev e3c(f:SV [.box 0 0]->BV [.cells [V2,V0,V0]]->Option (Except Int τ18)):PF:={ps:=[.box 0 0],bs:=[.cells [V2,V0,V0]],rs:=[V1],cs:=[.cells [V2,V0,V0]],R:=c8×List τ0×Int×Int,out:=fun z=>((z.1,()),((z.2.1,z.2.2.1,z.2.2.2,()),())),f:=f}
abbrev b59:PF:=e3c fun _ y=>p9 N y.1.1 y.1.2.1 y.1.2.2.1
def d34(_N:Nat):FuncId->Option Tmp->Option AF:=fun f _=>O5 [] f
theorem d35:I8 (d34 N):=fun _ _ _ h=>o6 h G7
def c6m:FuncId->Option Tmp->Option PF:=fun f _=>
 match f with
  |136=>some (d7u N)
  |_=>none
theorem d36:∀f q F,c6m N f q=some F->SoundP Tryz.prog GW B7 c2n f F:=by
 intro f q F h
 unfold c6m at h
 split at h
 ·cases h;exact d3O N
 ·cases h
def c8E:Nat->Hint:=fun i=>
 match i with
 |_=>o3
abbrev a2g:Env:=a0I c8E (d34 N) (c6m N) (fun _=>false) (fun _=>false)
theorem e6A:SoundP Tryz.prog GW B7 c2n 82 (b59 N):=
 a0p (a2g N) (D6 c8E (d34 N) (c6m N) _ _ (d35 N) (d36 N)) Tryz.func82 rfl Tryz.call82 (b59 N) (fun x y=>(x.1,y.1.1,y.1.2.1,y.1.2.2.1)) (fun _ _=>rfl) N (fun _ _=>by kernel_rfl) rfl
abbrev e24(f:SV [.box 0 0]->BV [.cells [V2,V0,V0]]->Option (Except Int (GPart×List τ0×Int×Int))):PF:={ps:=[.box 0 0],bs:=[.cells [V2,V0,V0]],rs:=[.v (.rc .part)],cs:=[.cells [V2,V0,V0]],R:=GPart×List τ0×Int×Int,out:=fun z=>((z.1,()),((z.2.1,z.2.2.1,z.2.2.2,()),())),f:=f}
def v6(_N:Nat)(a7:ρ11)(b:Int)(c:c8)(e g:Int)(l:List τ0)(m o:Int):Option (Except Int (Int×c8×Int×Int×List τ0×Int×Int×List GPart)):=n7 (n7 (n7 (l7 (a7 l m o) fun a=>j0 1 (br (decide ([GPart.mk 0 [] 0 [] 0 []].length*(24*Ty.sz (.rc .part))<=140737488355328)) (br (decide (0<=(0: Int)/\0<([GPart.mk 0 [] 0 [] 0 []].length:Int))) (j0 1 (f5 (l6 [GPart.mk 0 [] 0 [] 0 []] 0) fun _=>some (.ok (b,(c,(e,(g,(a.2.1,(a.2.2.1,(a.2.2.2,B8 [GPart.mk 0 [] 0 [] 0 []] 0 a.1)))))))))) none) none)) (j0 1 (j0 1 (l7 (a7 l m o) fun a=>br (decide ([GPart.mk 0 [] 0 [] 0 []].length*(24*Ty.sz (.rc .part))<=140737488355328)) (br (decide (0<=(0: Int)/\0<([GPart.mk 0 [] 0 [] 0 []].length:Int))) (j0 1 (f5 (l6 [GPart.mk 0 [] 0 [] 0 []] 0) fun _=>some (.ok (b,(c,(e,(g,(a.2.1,(a.2.2.1,(a.2.2.2,B8 [GPart.mk 0 [] 0 [] 0 []] 0 a.1)))))))))) none) none)))) (j0 1 (n7 (j0 1 (l7 (a7 l m o) fun a=>br (decide ([GPart.mk 0 [] 0 [] 0 []].length*(24*Ty.sz (.rc .part))<=140737488355328)) (br (decide (0<=(0: Int)/\0<([GPart.mk 0 [] 0 [] 0 []].length:Int))) (j0 1 (f5 (l6 [GPart.mk 0 [] 0 [] 0 []] 0) fun _=>some (.ok (b,(c,(e,(g,(a.2.1,(a.2.2.1,(a.2.2.2,B8 [GPart.mk 0 [] 0 [] 0 []] 0 a.1)))))))))) none) none)) (l7 (a7 l m o) fun a=>br (decide ([GPart.mk 0 [] 0 [] 0 []].length*(24*Ty.sz (.rc .part))<=140737488355328)) (br (decide (0<=(0: Int)/\0<([GPart.mk 0 [] 0 [] 0 []].length:Int))) (j0 1 (f5 (l6 [GPart.mk 0 [] 0 [] 0 []] 0) fun _=>some (.ok (b,(c,(e,(g,(a.2.1,(a.2.2.1,(a.2.2.2,B8 [GPart.mk 0 [] 0 [] 0 []] 0 a.1)))))))))) none) none)))) (n7 (n7 (n7 (l7 (a7 l m o) fun a=>j0 1 (br (decide ([GPart.mk 0 [] 0 [] 0 []].length*(24*Ty.sz (.rc .part))<=140737488355328)) (br (decide (0<=(0: Int)/\0<([GPart.mk 0 [] 0 [] 0 []].length:Int))) (j0 1 (f5 (l6 [GPart.mk 0 [] 0 [] 0 []] 0) fun _=>some (.ok (b,(c,(e,(g,(a.2.1,(a.2.2.1,(a.2.2.2,B8 [GPart.mk 0 [] 0 [] 0 []] 0 a.1)))))))))) none) none)) (j0 1 (j0 1 (l7 (a7 l m o) fun a=>br (decide ([GPart.mk 0 [] 0 [] 0 []].length*(24*Ty.sz (.rc .part))<=140737488355328)) (br (decide (0<=(0: Int)/\0<([GPart.mk 0 [] 0 [] 0 []].length:Int))) (j0 1 (f5 (l6 [GPart.mk 0 [] 0 [] 0 []] 0) fun _=>some (.ok (b,(c,(e,(g,(a.2.1,(a.2.2.1,(a.2.2.2,B8 [GPart.mk 0 [] 0 [] 0 []] 0 a.1)))))))))) none) none)))) (n7 (l7 (a7 l m o) fun a=>n7 (j0 1 (br (decide ([GPart.mk 0 [] 0 [] 0 []].length*(24*Ty.sz (.rc .part))<=140737488355328)) (br (decide (0<=(0: Int)/\0<([GPart.mk 0 [] 0 [] 0 []].length:Int))) (j0 1 (f5 (l6 [GPart.mk 0 [] 0 [] 0 []] 0) fun _=>some (.ok (b,(c,(e,(g,(a.2.1,(a.2.2.1,(a.2.2.2,B8 [GPart.mk 0 [] 0 [] 0 []] 0 a.1)))))))))) none) none)) (br (decide ([GPart.mk 0 [] 0 [] 0 []].length*(24*Ty.sz (.rc .part))<=140737488355328)) (br (decide (0<=(0: Int)/\0<([GPart.mk 0 [] 0 [] 0 []].length:Int))) (j0 1 (f5 (l6 [GPart.mk 0 [] 0 [] 0 []] 0) fun _=>some (.ok (b,(c,(e,(g,(a.2.1,(a.2.2.1,(a.2.2.2,B8 [GPart.mk 0 [] 0 [] 0 []] 0 a.1)))))))))) none) none)) (n7 (j0 1 (l7 (a7 l m o) fun a=>br (decide ([GPart.mk 0 [] 0 [] 0 []].length*(24*Ty.sz (.rc .part))<=140737488355328)) (br (decide (0<=(0: Int)/\0<([GPart.mk 0 [] 0 [] 0 []].length:Int))) (j0 1 (f5 (l6 [GPart.mk 0 [] 0 [] 0 []] 0) fun _=>some (.ok (b,(c,(e,(g,(a.2.1,(a.2.2.1,(a.2.2.2,B8 [GPart.mk 0 [] 0 [] 0 []] 0 a.1)))))))))) none) none)) (l7 (a7 l m o) fun a=>br (decide ([GPart.mk 0 [] 0 [] 0 []].length*(24*Ty.sz (.rc .part))<=140737488355328)) (br (decide (0<=(0: Int)/\0<([GPart.mk 0 [] 0 [] 0 []].length:Int))) (j0 1 (f5 (l6 [GPart.mk 0 [] 0 [] 0 []] 0) fun _=>some (.ok (b,(c,(e,(g,(a.2.1,(a.2.2.1,(a.2.2.2,B8 [GPart.mk 0 [] 0 [] 0 []] 0 a.1)))))))))) none) none)))) (j0 1 (n7 (j0 1 (l7 (a7 l m o) fun a=>br (decide ([GPart.mk 0 [] 0 [] 0 []].length*(24*Ty.sz (.rc .part))<=140737488355328)) (br (decide (0<=(0: Int)/\0<([GPart.mk 0 [] 0 [] 0 []].length:Int))) (j0 1 (f5 (l6 [GPart.mk 0 [] 0 [] 0 []] 0) fun _=>some (.ok (b,(c,(e,(g,(a.2.1,(a.2.2.1,(a.2.2.2,B8 [GPart.mk 0 [] 0 [] 0 []] 0 a.1)))))))))) none) none)) (l7 (a7 l m o) fun a=>br (decide ([GPart.mk 0 [] 0 [] 0 []].length*(24*Ty.sz (.rc .part))<=140737488355328)) (br (decide (0<=(0: Int)/\0<([GPart.mk 0 [] 0 [] 0 []].length:Int))) (j0 1 (f5 (l6 [GPart.mk 0 [] 0 [] 0 []] 0) fun _=>some (.ok (b,(c,(e,(g,(a.2.1,(a.2.2.1,(a.2.2.2,B8 [GPart.mk 0 [] 0 [] 0 []] 0 a.1)))))))))) none) none))))
abbrev e2R(f:SV [.box 0 0,.box 1 0]->BV [.cells [V0,V1,V0,.nilS,.nilS,V0,.nilS],.cells [.box 2 0],.cells [V2,V0,V0]]->Option (Except Int (Int×c8×Int×Int×List τ0×Int×Int×List GPart))):PF:={ps:=[.box 0 0,.box 1 0],bs:=[.cells [V0,V1,V0,.nilS,.nilS,V0,.nilS],.cells [.box 2 0],.cells [V2,V0,V0]],rs:=[],cs:=[.cells [V0,V1,V0,.nilS,.nilS,V0,.row 3],.cells [.box 2 0],.cells [V2,V0,V0],.row 201 (.rc .part) true],R:=Int×c8×Int×Int×List τ0×Int×Int×List GPart,out:=fun z=>((),((z.1,z.2.1,z.2.2.1,(),(),z.2.2.2.1,(),()),((),()),(z.2.2.2.2.1,z.2.2.2.2.2.1,z.2.2.2.2.2.2.1,()),z.2.2.2.2.2.2.2,())),f:=f}
abbrev d2L(a7:ρ11):PF:=e2R fun _ y=>v6 N a7 y.1.1 y.1.2.1 y.1.2.2.1 y.1.2.2.2.2.2.1 y.2.2.1.1 y.2.2.1.2.1 y.2.2.1.2.2.1
def d8I(_N:Nat)(a7:ρ11):FuncId->Option Tmp->Option AF:=fun f _=>O5 [] f
theorem d2K(a7:ρ11)(d2:SoundP Tryz.prog GW B7 c2n 138 (e24 fun x y=>a7 y.1.1 y.1.2.1 y.1.2.2.1)):∀f q F,d8I N a7 f q=some F->Sound Tryz.prog GW B7 f F:=fun _ _ _ h=>o6 h G7
def f0K(_N:Nat)(a7:ρ11):FuncId->Option Tmp->Option PF:=fun f _=>
 match f with
  |138=>some (e24 fun _ y=>a7 y.1.1 y.1.2.1 y.1.2.2.1)
  |_=>none
theorem f2c(a7:ρ11)(d2:SoundP Tryz.prog GW B7 c2n 138 (e24 fun x y=>a7 y.1.1 y.1.2.1 y.1.2.2.1)):∀f q F,f0K N a7 f q=some F->SoundP Tryz.prog GW B7 c2n f F:=by
 intro f q F h
 unfold f0K at h
 split at h
 ·cases h;exact d2
 ·cases h
def c8A:Nat->Hint:=fun i=>
 match i with
 |100000=>⟨[],[1,2],[],[],[],[]⟩
 |_=>o3
abbrev b60(a7:ρ11):Env:=a0I c8A (d8I N a7) (f0K N a7) (fun i=>match i with|6=>true|7=>true|8=>true|_=>false) (fun _=>false)
theorem d2N(a7:ρ11)(d2:SoundP Tryz.prog GW B7 c2n 138 (e24 fun x y=>a7 y.1.1 y.1.2.1 y.1.2.2.1)):SoundP Tryz.prog GW B7 c2n 258 (d2L N a7):=
 a0p (b60 N a7) (D6 c8A (d8I N a7) (f0K N a7) _ _ (d2K N a7 d2) (f2c N a7 d2)) Tryz.func258 rfl Tryz.call258 (d2L N a7) (fun _ y=>(y.1.1,y.1.2.1,y.1.2.2.1,y.1.2.2.2.2.2.1,y.2.2.1.1,y.2.2.1.2.1,y.2.2.1.2.2.1,y.2.2.2.1)) (fun _ _=>rfl) N (fun _ _=>by kernel_rfl) rfl
def z6(_N:Nat)(a7:ρ11)(c:Int)(e:c8)(g l:Int)(a:List GPart)(m:List τ0)(o p:Int):Option (Except Int (Int×c8×Int×Int×List GPart×List τ0×Int×Int)):=n7 (n7 (n7 (l7 (a7 m o p) fun b=>j0 1 (br (decide ((a.length + [GPart.mk 0 [] 0 [] 0 []].length)*(24*Ty.sz (.rc .part))<=140737488355328)) (br (decide (0<=(a.length:Int)/\(a.length:Int)<((a ++ [GPart.mk 0 [] 0 [] 0 []]).length:Int))) (j0 1 (f5 (l6 (a ++ [GPart.mk 0 [] 0 [] 0 []]) (a.length:Int)) fun _=>some (.ok (c,(e,(g,(l,(B8 (a ++ [GPart.mk 0 [] 0 [] 0 []]) (a.length:Int) b.1,b.2)))))))) none) none)) (j0 1 (j0 1 (l7 (a7 m o p) fun b=>br (decide ((a.length + [GPart.mk 0 [] 0 [] 0 []].length)*(24*Ty.sz (.rc .part))<=140737488355328)) (br (decide (0<=(a.length:Int)/\(a.length:Int)<((a ++ [GPart.mk 0 [] 0 [] 0 []]).length:Int))) (j0 1 (f5 (l6 (a ++ [GPart.mk 0 [] 0 [] 0 []]) (a.length:Int)) fun _=>some (.ok (c,(e,(g,(l,(B8 (a ++ [GPart.mk 0 [] 0 [] 0 []]) (a.length:Int) b.1,b.2)))))))) none) none)))) (j0 1 (n7 (j0 1 (l7 (a7 m o p) fun b=>br (decide ((a.length + [GPart.mk 0 [] 0 [] 0 []].length)*(24*Ty.sz (.rc .part))<=140737488355328)) (br (decide (0<=(a.length:Int)/\(a.length:Int)<((a ++ [GPart.mk 0 [] 0 [] 0 []]).length:Int))) (j0 1 (f5 (l6 (a ++ [GPart.mk 0 [] 0 [] 0 []]) (a.length:Int)) fun _=>some (.ok (c,(e,(g,(l,(B8 (a ++ [GPart.mk 0 [] 0 [] 0 []]) (a.length:Int) b.1,b.2)))))))) none) none)) (l7 (a7 m o p) fun b=>br (decide ((a.length + [GPart.mk 0 [] 0 [] 0 []].length)*(24*Ty.sz (.rc .part))<=140737488355328)) (br (decide (0<=(a.length:Int)/\(a.length:Int)<((a ++ [GPart.mk 0 [] 0 [] 0 []]).length:Int))) (j0 1 (f5 (l6 (a ++ [GPart.mk 0 [] 0 [] 0 []]) (a.length:Int)) fun _=>some (.ok (c,(e,(g,(l,(B8 (a ++ [GPart.mk 0 [] 0 [] 0 []]) (a.length:Int) b.1,b.2)))))))) none) none)))) (n7 (n7 (n7 (l7 (a7 m o p) fun b=>j0 1 (br (decide ((a.length + [GPart.mk 0 [] 0 [] 0 []].length)*(24*Ty.sz (.rc .part))<=140737488355328)) (br (decide (0<=(a.length:Int)/\(a.length:Int)<((a ++ [GPart.mk 0 [] 0 [] 0 []]).length:Int))) (j0 1 (f5 (l6 (a ++ [GPart.mk 0 [] 0 [] 0 []]) (a.length:Int)) fun _=>some (.ok (c,(e,(g,(l,(B8 (a ++ [GPart.mk 0 [] 0 [] 0 []]) (a.length:Int) b.1,b.2)))))))) none) none)) (j0 1 (j0 1 (l7 (a7 m o p) fun b=>br (decide ((a.length + [GPart.mk 0 [] 0 [] 0 []].length)*(24*Ty.sz (.rc .part))<=140737488355328)) (br (decide (0<=(a.length:Int)/\(a.length:Int)<((a ++ [GPart.mk 0 [] 0 [] 0 []]).length:Int))) (j0 1 (f5 (l6 (a ++ [GPart.mk 0 [] 0 [] 0 []]) (a.length:Int)) fun _=>some (.ok (c,(e,(g,(l,(B8 (a ++ [GPart.mk 0 [] 0 [] 0 []]) (a.length:Int) b.1,b.2)))))))) none) none)))) (n7 (l7 (a7 m o p) fun b=>n7 (j0 1 (br (decide ((a.length + [GPart.mk 0 [] 0 [] 0 []].length)*(24*Ty.sz (.rc .part))<=140737488355328)) (br (decide (0<=(a.length:Int)/\(a.length:Int)<((a ++ [GPart.mk 0 [] 0 [] 0 []]).length:Int))) (j0 1 (f5 (l6 (a ++ [GPart.mk 0 [] 0 [] 0 []]) (a.length:Int)) fun _=>some (.ok (c,(e,(g,(l,(B8 (a ++ [GPart.mk 0 [] 0 [] 0 []]) (a.length:Int) b.1,b.2)))))))) none) none)) (br (decide ((a.length + [GPart.mk 0 [] 0 [] 0 []].length)*(24*Ty.sz (.rc .part))<=140737488355328)) (br (decide (0<=(a.length:Int)/\(a.length:Int)<((a ++ [GPart.mk 0 [] 0 [] 0 []]).length:Int))) (j0 1 (f5 (l6 (a ++ [GPart.mk 0 [] 0 [] 0 []]) (a.length:Int)) fun _=>some (.ok (c,(e,(g,(l,(B8 (a ++ [GPart.mk 0 [] 0 [] 0 []]) (a.length:Int) b.1,b.2)))))))) none) none)) (n7 (j0 1 (l7 (a7 m o p) fun b=>br (decide ((a.length + [GPart.mk 0 [] 0 [] 0 []].length)*(24*Ty.sz (.rc .part))<=140737488355328)) (br (decide (0<=(a.length:Int)/\(a.length:Int)<((a ++ [GPart.mk 0 [] 0 [] 0 []]).length:Int))) (j0 1 (f5 (l6 (a ++ [GPart.mk 0 [] 0 [] 0 []]) (a.length:Int)) fun _=>some (.ok (c,(e,(g,(l,(B8 (a ++ [GPart.mk 0 [] 0 [] 0 []]) (a.length:Int) b.1,b.2)))))))) none) none)) (l7 (a7 m o p) fun b=>br (decide ((a.length + [GPart.mk 0 [] 0 [] 0 []].length)*(24*Ty.sz (.rc .part))<=140737488355328)) (br (decide (0<=(a.length:Int)/\(a.length:Int)<((a ++ [GPart.mk 0 [] 0 [] 0 []]).length:Int))) (j0 1 (f5 (l6 (a ++ [GPart.mk 0 [] 0 [] 0 []]) (a.length:Int)) fun _=>some (.ok (c,(e,(g,(l,(B8 (a ++ [GPart.mk 0 [] 0 [] 0 []]) (a.length:Int) b.1,b.2)))))))) none) none)))) (j0 1 (n7 (j0 1 (l7 (a7 m o p) fun b=>br (decide ((a.length + [GPart.mk 0 [] 0 [] 0 []].length)*(24*Ty.sz (.rc .part))<=140737488355328)) (br (decide (0<=(a.length:Int)/\(a.length:Int)<((a ++ [GPart.mk 0 [] 0 [] 0 []]).length:Int))) (j0 1 (f5 (l6 (a ++ [GPart.mk 0 [] 0 [] 0 []]) (a.length:Int)) fun _=>some (.ok (c,(e,(g,(l,(B8 (a ++ [GPart.mk 0 [] 0 [] 0 []]) (a.length:Int) b.1,b.2)))))))) none) none)) (l7 (a7 m o p) fun b=>br (decide ((a.length + [GPart.mk 0 [] 0 [] 0 []].length)*(24*Ty.sz (.rc .part))<=140737488355328)) (br (decide (0<=(a.length:Int)/\(a.length:Int)<((a ++ [GPart.mk 0 [] 0 [] 0 []]).length:Int))) (j0 1 (f5 (l6 (a ++ [GPart.mk 0 [] 0 [] 0 []]) (a.length:Int)) fun _=>some (.ok (c,(e,(g,(l,(B8 (a ++ [GPart.mk 0 [] 0 [] 0 []]) (a.length:Int) b.1,b.2)))))))) none) none))))
abbrev e2l(f:SV [.box 0 0,.box 1 0]->BV [.cells [V0,V1,V0,.nilS,.nilS,V0,.row 2],.cells [.box 3 0],.row 201 (.rc .part) true,.cells [V2,V0,V0]]->Option (Except Int (Int×c8×Int×Int×List GPart×List τ0×Int×Int))):PF:={ps:=[.box 0 0,.box 1 0],bs:=[.cells [V0,V1,V0,.nilS,.nilS,V0,.row 2],.cells [.box 3 0],.row 201 (.rc .part) true,.cells [V2,V0,V0]],rs:=[],cs:=[.cells [V0,V1,V0,.nilS,.nilS,V0,.row 2],.cells [.box 3 0],.row 201 (.rc .part) true,.cells [V2,V0,V0]],R:=Int×c8×Int×Int×List GPart×List τ0×Int×Int,out:=fun z=>((),((z.1,z.2.1,z.2.2.1,(),(),z.2.2.2.1,(),()),((),()),z.2.2.2.2.1,(z.2.2.2.2.2.1,z.2.2.2.2.2.2.1,z.2.2.2.2.2.2.2,()),())),f:=f}
abbrev d1N(a7:ρ11):PF:=e2l fun _ y=>z6 N a7 y.1.1 y.1.2.1 y.1.2.2.1 y.1.2.2.2.2.2.1 y.2.2.1 y.2.2.2.1.1 y.2.2.2.1.2.1 y.2.2.2.1.2.2.1
def d8D(_N:Nat)(a7:ρ11):FuncId->Option Tmp->Option AF:=fun f _=>O5 [] f
theorem d1M(a7:ρ11)(d2:SoundP Tryz.prog GW B7 c2n 138 (e24 fun x y=>a7 y.1.1 y.1.2.1 y.1.2.2.1)):∀f q F,d8D N a7 f q=some F->Sound Tryz.prog GW B7 f F:=fun _ _ _ h=>o6 h G7
def f0C(_N:Nat)(a7:ρ11):FuncId->Option Tmp->Option PF:=fun f _=>
 match f with
  |138=>some (e24 fun _ y=>a7 y.1.1 y.1.2.1 y.1.2.2.1)
  |_=>none
theorem f1Q(a7:ρ11)(d2:SoundP Tryz.prog GW B7 c2n 138 (e24 fun x y=>a7 y.1.1 y.1.2.1 y.1.2.2.1)):∀f q F,f0C N a7 f q=some F->SoundP Tryz.prog GW B7 c2n f F:=by
 intro f q F h
 unfold f0C at h
 split at h
 ·cases h;exact d2
 ·cases h
def c8u:Nat->Hint:=fun i=>
 match i with
 |100000=>⟨[],[1,2],[],[],[],[]⟩
 |_=>o3
abbrev b6V(a7:ρ11):Env:=a0I c8u (d8D N a7) (f0C N a7) (fun i=>match i with|6=>true|7=>true|8=>true|_=>false) (fun _=>false)
theorem d1P(a7:ρ11)(d2:SoundP Tryz.prog GW B7 c2n 138 (e24 fun x y=>a7 y.1.1 y.1.2.1 y.1.2.2.1)):SoundP Tryz.prog GW B7 c2n 258 (d1N N a7):=
 a0p (b6V N a7) (D6 c8u (d8D N a7) (f0C N a7) _ _ (d1M N a7 d2) (f1Q N a7 d2)) Tryz.func258 rfl Tryz.call258 (d1N N a7) (fun _ y=>(y.1.1,y.1.2.1,y.1.2.2.1,y.1.2.2.2.2.2.1,y.2.2.1,y.2.2.2.1.1,y.2.2.2.1.2.1,y.2.2.2.1.2.2.1)) (fun _ _=>rfl) N (fun _ _=>by kernel_rfl) rfl
end
end Go.Proofs.YtolpmfhiegpohaaGreatDoor
