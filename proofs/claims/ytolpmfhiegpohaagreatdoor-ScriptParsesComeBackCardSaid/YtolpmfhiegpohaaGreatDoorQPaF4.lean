/- % -/
import Derived.Test.YtolpmfhiegpohaaGreatDoorQPaF3
namespace Go.Proofs.YtolpmfhiegpohaaGreatDoor
open Go Go.RowKit
set_option maxRecDepth 100000
set_option linter.unusedVariables false
noncomputable section
variable(N:Nat)
def b21(d3:ρ7)(e:Int)(k0 self:ρ6)(g:List τ0)(l m:Int)(c:List GStmt):Option (Except Int (List τ0×Int×Int×List GStmt)):=j8 (l4 N 4 [125] g l m) fun a=>br (!a.1) (l8 (d3 e a.2.1 a.2.2.1 a.2.2.2) fun b=>br (Zf (c.length + [b.1].length) τ17) (self b.2.1 b.2.2.1 b.2.2.2 (c ++ [b.1])) none) (k0 a.2.1 a.2.2.1 a.2.2.2 c)
def b5x(N:Nat)(d3:ρ7)(a:Int)(k0:ρ6):Nat->τ6->Int->Int->(List GStmt)->Option (Except Int (List τ0×Int×Int×List GStmt))|0,_,_,_,_=>none|n+1,b,c,e,g=>b21 N d3 a k0 (b5x N d3 a k0 n) b c e g
def B7(d3:ρ7)(b:Int)(c:List τ0)(e g:Int):Option (Except Int (List τ0×Int×Int×List GStmt)):=l8 (j7 N [123] c e g) fun a=>b5x N d3 b (fun l m o p=>some (.ok (l,m,o,p))) N a.1 a.2.1 a.2.2 []
abbrev d8n(f:SV [.box 0 0,V0]->BV [.cells [V2,V0,V0]]->Option (Except Int (List τ0×Int×Int×List GStmt))):PF:={ps:=[.box 0 0,V0],bs:=[.cells [V2,V0,V0]],rs:=[.row 1],cs:=[.cells [V2,V0,V0],.row 71 τ17 false],R:=List τ0×Int×Int×List GStmt,out:=fun z=>(((),()),(z.1,z.2.1,z.2.2.1,()),z.2.2.2,()),f:=f}
abbrev c85(d3:ρ7):PF:=d8n fun x y=>B7 N d3 x.2.1 y.1.1 y.1.2.1 y.1.2.2.1
abbrev c87:SV [.row 1]->BV [.cells [V2,V0,V0],.row 71 τ17 false]->(List τ0×Int×Int×List GStmt):=fun _ y=>(y.1.1,y.1.2.1,y.1.2.2.1,y.2.1)
abbrev d4s:SV [.row 1]->BV [.cells [V2,V0,V0],.row 71 τ17 false]->Except Int (List τ0×Int×Int×List GStmt):=fun x y=> .ok (c87 x y)
def c83(d3:ρ7):FuncId->Option Tmp->Option AF:=fun f _=>lkF [(74,a8H N)] f
theorem c84(d3:ρ7)(o4:SoundP Tryz.prog GW x9 B2 48 (a8a fun x y=>d3 x.2.1 y.1.1 y.1.2.1 y.1.2.2.1)):∀f q F,c83 N d3 f q=some F->Sound Tryz.prog GW x9 f F:=fun _ _ _ h=>B9 h (L3 (V9 N) T8)
def c3l(d3:ρ7):FuncId->Option Tmp->Option PF:=fun f _=>
 match f with
  |48=>some (a8a fun x y=>d3 x.2.1 y.1.1 y.1.2.1 y.1.2.2.1)
  |76=>some (a8G N)
  |_=>none
theorem c86(d3:ρ7)(o4:SoundP Tryz.prog GW x9 B2 48 (a8a fun x y=>d3 x.2.1 y.1.1 y.1.2.1 y.1.2.2.1)):∀f q F,c3l N d3 f q=some F->SoundP Tryz.prog GW x9 B2 f F:=by
 intro f q F h;unfold c3l at h;split at h
 ·cases h;exact o4
 ·cases h;exact V8 N
 ·cases h
def c05:Nat->Hint:=fun i=>
 match i with
 |0=>⟨[],[0,1,5],[0,1005],[5],[0,1005],[]⟩
 |_=>y5
abbrev b20(d3:ρ7):Env:=a08 c05 (c83 N d3) (c3l N d3) (fun _=>false) (fun _=>false)
abbrev c04(d3:ρ7):=L9 (b20 N d3) Tryz.f79 (PF.tf (c85 N d3)) d4s
noncomputable abbrev b5y:Code:=cAt (B3 Tryz.f79) [true,true,true,false,false,false]
abbrev a8q:List (Nat×Sl):=[(0,.box 0 0),(1,V0),(5,.row 1005)]
abbrev a8p:List (Nat×Sb):=[(0,.cells [V2,V0,V0]),(1005,.row 71 τ17 false)]
def b22(a:Int)(b:List τ0)(c e:Int)(g:List GStmt):St:=⟨18,[(0,.box 0 0),(1,.v τ2 a),(5,.row 1005)],[(0,.cells [.v (.sl τ1) b,.v τ2 c,.v τ2 e]),(1005,.row 71 τ17 false g)]⟩
def a6b(_g:Int)(a:List τ0)(b c:Int)(e:List GStmt):St:=⟨18,[(5,.row 1005)],[(0,.cells [.v (.sl τ1) a,.v τ2 b,.v τ2 c]),(1005,.row 71 τ17 false e)]⟩
def d2Z(d3:ρ7)(a:Int)(b:List τ0)(c e:Int)(g:List GStmt)(k:Ex->St->Option (Except Int (List τ0×Int×Int×List GStmt))):Option (Except Int (List τ0×Int×Int×List GStmt)):=b5x N d3 a (fun l m o p=>k (.exit 0) (a6b a l m o p)) N b c e g
abbrev c3k(d3:ρ7):FV a8q->HV a8p->(Ex->St->Option (Except Int (List τ0×Int×Int×List GStmt)))->Option (Except Int (List τ0×Int×Int×List GStmt)):=fun x y k=>d2Z N d3 x.2.1 y.1.1 y.1.2.1 y.1.2.2.1 y.2.1 k
def b23(d3:ρ7):Nat->Code->St->(Ex->St->Option (Except Int (List τ0×Int×Int×List GStmt)))->Option (Except Int (List τ0×Int×Int×List GStmt)):=fun i c=>
 match i with
 |0=>(LPc 18 a8q a8p (c3k N d3) (fun st k=>iter (c05 0) (o7 (b20 N d3) N c 0) N st k))
 |i=>fun st k=>iter (c05 i) (o7 (b20 N d3) N c i) N st k
theorem c03(d3:ρ7)(a:Int)(KX:Nat->St->Option (Except Int (List τ0×Int×Int×List GStmt)))(I:St->Option (Except Int (List τ0×Int×Int×List GStmt)))(b:List τ0)(c e:Int)(g:List GStmt):
  p8 (b23 N d3) (b20 N d3) b5y 0 (b22 a b c e g) (F9 (c05 0) I KX (c04 N d3))=b21 N d3 a (fun l m o p=>KX 0 (a6b a l m o p)) (fun b c e g=>I (b22 a b c e g)) b c e g:=by kernel_rfl
theorem c82(d3:ρ7):∀x y k,(∀st,k .ret st=(c04 N d3) st)->iter (c05 0) (o7 (b20 N d3) N b5y 0) N ⟨18,unF a8q x,unH a8p y⟩ k=c3k N d3 x y k:=fun x y k hk=>
 p9 (S:=τ6×(Int)×(Int)×(List GStmt)×Unit) (c05 0) _ (p8 (b23 N d3) (b20 N d3) b5y 0) (c04 N d3) (u9 _ _ N _ b5y 0 (show LoopsOk (b23 N d3) (b20 N d3) N (c04 N d3) []from trivial)) (fun s=>b22 x.2.1 s.1 s.2.1 s.2.2.1 s.2.2.2.1) k hk
  (fun self s=>b21 N d3 x.2.1 (fun a b c e=>k (.exit 0) (a6b x.2.1 a b c e)) (fun g l m o=>self (g,l,m,o,())) s.1 s.2.1 s.2.2.1 s.2.2.2.1) (fun n s=>b5x N d3 x.2.1 (fun a b c e=>k (.exit 0) (a6b x.2.1 a b c e)) n s.1 s.2.1 s.2.2.1 s.2.2.2.1) (fun _=>rfl) (fun _ _=>rfl)
  (fun I s=>c03 N d3 x.2.1 (fun j=>k (.exit j)) I s.1 s.2.1 s.2.2.1 s.2.2.2.1) N (y.1.1,y.1.2.1,y.1.2.2.1,y.2.1,())
theorem d6j(d3:ρ7):Z1 (b23 N d3) (b20 N d3) N (c04 N d3) 0 b5y:=fun st k hk=>H3 18 a8q a8p _ _ (c04 N d3) (c82 N d3) _ st k hk (rfl)
theorem d20(d3:ρ7)(x:SV [.box 0 0,V0])(y:BV [.cells [V2,V0,V0]]):V4 (b20 N d3) Tryz.f79 (PF.tf (c85 N d3)) d4s (b23 N d3) x y=B7 N d3 x.2.1 y.1.1 y.1.2.1 y.1.2.2.1:=by kernel_rfl
theorem c88(d3:ρ7)(o4:SoundP Tryz.prog GW x9 B2 48 (a8a fun x y=>d3 x.2.1 y.1.1 y.1.2.1 y.1.2.2.1)):SoundP Tryz.prog GW x9 B2 79 (c85 N d3):=
 b2g (b20 N d3) (H9 c05 (c83 N d3) (c3l N d3) _ _ (c84 N d3 o4) (c86 N d3 o4)) Tryz.func79 rfl Tryz.call79 (c85 N d3) c87 (fun _ _=>rfl) N (b23 N d3) (show LoopsOk (b23 N d3) (b20 N d3) N (c04 N d3) [(0,b5y)]from⟨d6j N d3,trivial⟩) (d20 N d3)
def L6(b:d7)(c:List τ0)(e g:Int):Option (Except Int τ14):=j8 (l4 N 1 b c e g) fun a=>br (!a.1) (l8 (o9 N a.2.1 a.2.2.1 a.2.2.2) fun l=>some (.ok l)) (some (.ok a.2))
abbrev d8N(f:SV [.box 0 0,V1]->BV [.cells [V2,V0,V0]]->Option (Except Int τ14)):PF:={ps:=[.box 0 0,V1],bs:=[.cells [V2,V0,V0]],rs:=[],cs:=[.cells [V2,V0,V0]],R:=List τ0×Int×Int,out:=fun z=>((),(z.1,z.2.1,z.2.2,()),()),f:=f}
abbrev d6t:PF:=d8N fun x y=>L6 N x.2.1 y.1.1 y.1.2.1 y.1.2.2.1
def c98:FuncId->Option Tmp->Option AF:=fun f _=>lkF [(74,a8H N)] f
theorem d2d:X8 (c98 N):=fun _ _ _ h=>B9 h (L3 (V9 N) T8)
def c3D:FuncId->Option Tmp->Option PF:=fun f _=>
 match f with
  |136=>some (c5b N)
  |_=>none
theorem d0a:∀f q F,c3D N f q=some F->SoundP Tryz.prog GW x9 B2 f F:=by
 intro f q F h;unfold c3D at h;split at h
 ·cases h;exact a5w N
 ·cases h
def d8M:Nat->Hint:=fun i=>
 match i with
 |_=>y5
abbrev e0J:Env:=a08 d8M (c98 N) (c3D N) (fun _=>false) (fun _=>false)
theorem d0b:SoundP Tryz.prog GW x9 B2 80 (d6t N):=
 a0V (e0J N) (H9 d8M (c98 N) (c3D N) _ _ (d2d N) (d0a N)) Tryz.func80 rfl Tryz.call80 (d6t N) (fun _ y=>(y.1.1,y.1.2.1,y.1.2.2.1)) (fun _ _=>rfl) N (fun _ _=>by kernel_rfl) rfl
def q9(a:List τ0)(e g:Int):Option (Except Int τ23):=br ((a.length:Int)==0) (l8 (o9 N a e g) fun b=>j8 (m6 b.1 0) fun l=>j8 (slc b.1 1 (b.1.length:Int)) fun m=>some (.ok (l.2.1,m,b.2))) (j8 (m6 a 0) fun o=>br (o.1 !=2) (l8 (o9 N a e g) fun c=>j8 (m6 c.1 0) fun p=>j8 (slc c.1 1 (c.1.length:Int)) fun q=>some (.ok (p.2.1,q,c.2))) (j8 (m6 a 0) fun r=>j8 (slc a 1 (a.length:Int)) fun t=>some (.ok (r.2.1,t,e,g))))
abbrev d8L(f:SV [.box 0 0]->BV [.cells [V2,V0,V0]]->Option (Except Int τ23)):PF:={ps:=[.box 0 0],bs:=[.cells [V2,V0,V0]],rs:=[V1],cs:=[.cells [V2,V0,V0]],R:=d7×List τ0×Int×Int,out:=fun z=>((z.1,()),(z.2.1,z.2.2.1,z.2.2.2,()),()),f:=f}
abbrev c5c:PF:=d8L fun _ y=>q9 N y.1.1 y.1.2.1 y.1.2.2.1
def c95(_N:Nat):FuncId->Option Tmp->Option AF:=fun f _=>lkF [] f
theorem c96:X8 (c95 N):=fun _ _ _ h=>B9 h T8
def c3C:FuncId->Option Tmp->Option PF:=fun f _=>
 match f with
  |136=>some (c5b N)
  |_=>none
theorem c97:∀f q F,c3C N f q=some F->SoundP Tryz.prog GW x9 B2 f F:=by
 intro f q F h;unfold c3C at h;split at h
 ·cases h;exact a5w N
 ·cases h
def d8K:Nat->Hint:=fun i=>
 match i with
 |_=>y5
abbrev e0I:Env:=a08 d8K (c95 N) (c3C N) (fun _=>false) (fun _=>false)
theorem a8I:SoundP Tryz.prog GW x9 B2 82 (c5c N):=
 a0V (e0I N) (H9 d8K (c95 N) (c3C N) _ _ (c96 N) (c97 N)) Tryz.func82 rfl Tryz.call82 (c5c N) (fun x y=>(x.1,y.1.1,y.1.2.1,y.1.2.2.1)) (fun _ _=>rfl) N (fun _ _=>by kernel_rfl) rfl
abbrev K2(f:SV [.box 0 0]->BV [.cells [V2,V0,V0]]->Option (Except Int (GPart×List τ0×Int×Int))):PF:={ps:=[.box 0 0],bs:=[.cells [V2,V0,V0]],rs:=[.v (.rc .part)],cs:=[.cells [V2,V0,V0]],R:=GPart×List τ0×Int×Int,out:=fun z=>((z.1,()),(z.2.1,z.2.2.1,z.2.2.2,()),()),f:=f}
def y9(_N:Nat)(a7:K8)(b:Int)(c:d7)(e g:Int)(l:List τ0)(m o:Int):Option (Except Int (Int×d7×Int×Int×List τ0×Int×Int×List GPart)):=n8 (n8 (n8 (l8 (a7 l m o) fun a=>k7 1 (br (Zf [Zo].length (.rc .part)) (br (decide (0<=(0: Int)/\0<([Zo].length:Int))) (k7 1 (j8 (m6 [Zo] 0) fun _=>some (.ok (b,c,e,g,a.2.1,a.2.2.1,a.2.2.2,G0 [Zo] 0 a.1)))) none) none)) (k7 1 (k7 1 (l8 (a7 l m o) fun a=>br (Zf [Zo].length (.rc .part)) (br (decide (0<=(0: Int)/\0<([Zo].length:Int))) (k7 1 (j8 (m6 [Zo] 0) fun _=>some (.ok (b,c,e,g,a.2.1,a.2.2.1,a.2.2.2,G0 [Zo] 0 a.1)))) none) none)))) (k7 1 (n8 (k7 1 (l8 (a7 l m o) fun a=>br (Zf [Zo].length (.rc .part)) (br (decide (0<=(0: Int)/\0<([Zo].length:Int))) (k7 1 (j8 (m6 [Zo] 0) fun _=>some (.ok (b,c,e,g,a.2.1,a.2.2.1,a.2.2.2,G0 [Zo] 0 a.1)))) none) none)) (l8 (a7 l m o) fun a=>br (Zf [Zo].length (.rc .part)) (br (decide (0<=(0: Int)/\0<([Zo].length:Int))) (k7 1 (j8 (m6 [Zo] 0) fun _=>some (.ok (b,c,e,g,a.2.1,a.2.2.1,a.2.2.2,G0 [Zo] 0 a.1)))) none) none)))) (n8 (n8 (n8 (l8 (a7 l m o) fun a=>k7 1 (br (Zf [Zo].length (.rc .part)) (br (decide (0<=(0: Int)/\0<([Zo].length:Int))) (k7 1 (j8 (m6 [Zo] 0) fun _=>some (.ok (b,c,e,g,a.2.1,a.2.2.1,a.2.2.2,G0 [Zo] 0 a.1)))) none) none)) (k7 1 (k7 1 (l8 (a7 l m o) fun a=>br (Zf [Zo].length (.rc .part)) (br (decide (0<=(0: Int)/\0<([Zo].length:Int))) (k7 1 (j8 (m6 [Zo] 0) fun _=>some (.ok (b,c,e,g,a.2.1,a.2.2.1,a.2.2.2,G0 [Zo] 0 a.1)))) none) none)))) (n8 (l8 (a7 l m o) fun a=>n8 (k7 1 (br (Zf [Zo].length (.rc .part)) (br (decide (0<=(0: Int)/\0<([Zo].length:Int))) (k7 1 (j8 (m6 [Zo] 0) fun _=>some (.ok (b,c,e,g,a.2.1,a.2.2.1,a.2.2.2,G0 [Zo] 0 a.1)))) none) none)) (br (Zf [Zo].length (.rc .part)) (br (decide (0<=(0: Int)/\0<([Zo].length:Int))) (k7 1 (j8 (m6 [Zo] 0) fun _=>some (.ok (b,c,e,g,a.2.1,a.2.2.1,a.2.2.2,G0 [Zo] 0 a.1)))) none) none)) (n8 (k7 1 (l8 (a7 l m o) fun a=>br (Zf [Zo].length (.rc .part)) (br (decide (0<=(0: Int)/\0<([Zo].length:Int))) (k7 1 (j8 (m6 [Zo] 0) fun _=>some (.ok (b,c,e,g,a.2.1,a.2.2.1,a.2.2.2,G0 [Zo] 0 a.1)))) none) none)) (l8 (a7 l m o) fun a=>br (Zf [Zo].length (.rc .part)) (br (decide (0<=(0: Int)/\0<([Zo].length:Int))) (k7 1 (j8 (m6 [Zo] 0) fun _=>some (.ok (b,c,e,g,a.2.1,a.2.2.1,a.2.2.2,G0 [Zo] 0 a.1)))) none) none)))) (k7 1 (n8 (k7 1 (l8 (a7 l m o) fun a=>br (Zf [Zo].length (.rc .part)) (br (decide (0<=(0: Int)/\0<([Zo].length:Int))) (k7 1 (j8 (m6 [Zo] 0) fun _=>some (.ok (b,c,e,g,a.2.1,a.2.2.1,a.2.2.2,G0 [Zo] 0 a.1)))) none) none)) (l8 (a7 l m o) fun a=>br (Zf [Zo].length (.rc .part)) (br (decide (0<=(0: Int)/\0<([Zo].length:Int))) (k7 1 (j8 (m6 [Zo] 0) fun _=>some (.ok (b,c,e,g,a.2.1,a.2.2.1,a.2.2.2,G0 [Zo] 0 a.1)))) none) none))))
abbrev d8p(f:SV [.box 0 0,.box 1 0]->BV [.cells [V0,V1,V0,.nilS,.nilS,V0,.nilS],.cells [.box 2 0],.cells [V2,V0,V0]]->Option (Except Int (Int×d7×Int×Int×List τ0×Int×Int×List GPart))):PF:={ps:=[.box 0 0,.box 1 0],bs:=[.cells [V0,V1,V0,.nilS,.nilS,V0,.nilS],.cells [.box 2 0],.cells [V2,V0,V0]],rs:=[],cs:=[.cells [V0,V1,V0,.nilS,.nilS,V0,.row 3],.cells [.box 2 0],.cells [V2,V0,V0],.row 201 (.rc .part) true],R:=Int×d7×Int×Int×List τ0×Int×Int×List GPart,out:=fun z=>((),(z.1,z.2.1,z.2.2.1,(),(),z.2.2.2.1,(),()),((),()),(z.2.2.2.2.1,z.2.2.2.2.2.1,z.2.2.2.2.2.2.1,()),z.2.2.2.2.2.2.2,()),f:=f}
abbrev c9b(a7:K8):PF:=d8p fun _ y=>y9 N a7 y.1.1 y.1.2.1 y.1.2.2.1 y.1.2.2.2.2.2.1 y.2.2.1.1 y.2.2.1.2.1 y.2.2.1.2.2.1
def c89(_N:Nat)(a7:K8):FuncId->Option Tmp->Option AF:=fun f _=>lkF [] f
theorem c9a(a7:K8)(g8:SoundP Tryz.prog GW x9 B2 138 (K2 fun x y=>a7 y.1.1 y.1.2.1 y.1.2.2.1)):∀f q F,c89 N a7 f q=some F->Sound Tryz.prog GW x9 f F:=fun _ _ _ h=>B9 h T8
def c3m(_N:Nat)(a7:K8):FuncId->Option Tmp->Option PF:=fun f _=>
 match f with
  |138=>some (K2 fun _ y=>a7 y.1.1 y.1.2.1 y.1.2.2.1)
  |_=>none
theorem c9c(a7:K8)(g8:SoundP Tryz.prog GW x9 B2 138 (K2 fun x y=>a7 y.1.1 y.1.2.1 y.1.2.2.1)):∀f q F,c3m N a7 f q=some F->SoundP Tryz.prog GW x9 B2 f F:=by
 intro f q F h;unfold c3m at h;split at h
 ·cases h;exact g8
 ·cases h
def d8o:Nat->Hint:=fun i=>
 match i with
 |100000=>⟨[],[1,2],[],[],[],[]⟩
 |_=>y5
abbrev e0y(a7:K8):Env:=a08 d8o (c89 N a7) (c3m N a7) (fun i=>match i with|6=>true|7=>true|8=>true|_=>false) (fun _=>false)
theorem b24(a7:K8)(g8:SoundP Tryz.prog GW x9 B2 138 (K2 fun x y=>a7 y.1.1 y.1.2.1 y.1.2.2.1)):SoundP Tryz.prog GW x9 B2 258 (c9b N a7):=
 a0V (e0y N a7) (H9 d8o (c89 N a7) (c3m N a7) _ _ (c9a N a7 g8) (c9c N a7 g8)) Tryz.func258 rfl Tryz.call258 (c9b N a7) (fun _ y=>(y.1.1,y.1.2.1,y.1.2.2.1,y.1.2.2.2.2.2.1,y.2.2.1.1,y.2.2.1.2.1,y.2.2.1.2.2.1,y.2.2.2.1)) (fun _ _=>rfl) N (fun _ _=>by kernel_rfl) rfl
def D1(_N:Nat)(a7:K8)(c:Int)(e:d7)(g l:Int)(a:List GPart)(m:List τ0)(o p:Int):Option (Except Int (Int×d7×Int×Int×List GPart×List τ0×Int×Int)):=n8 (n8 (n8 (l8 (a7 m o p) fun b=>k7 1 (br (Zf (a.length + [Zo].length) (.rc .part)) (br (decide (0<=(a.length:Int)/\(a.length:Int)<((a ++ [Zo]).length:Int))) (k7 1 (j8 (m6 (a ++ [Zo]) (a.length:Int)) fun _=>some (.ok (c,e,g,l,G0 (a ++ [Zo]) (a.length:Int) b.1,b.2)))) none) none)) (k7 1 (k7 1 (l8 (a7 m o p) fun b=>br (Zf (a.length + [Zo].length) (.rc .part)) (br (decide (0<=(a.length:Int)/\(a.length:Int)<((a ++ [Zo]).length:Int))) (k7 1 (j8 (m6 (a ++ [Zo]) (a.length:Int)) fun _=>some (.ok (c,e,g,l,G0 (a ++ [Zo]) (a.length:Int) b.1,b.2)))) none) none)))) (k7 1 (n8 (k7 1 (l8 (a7 m o p) fun b=>br (Zf (a.length + [Zo].length) (.rc .part)) (br (decide (0<=(a.length:Int)/\(a.length:Int)<((a ++ [Zo]).length:Int))) (k7 1 (j8 (m6 (a ++ [Zo]) (a.length:Int)) fun _=>some (.ok (c,e,g,l,G0 (a ++ [Zo]) (a.length:Int) b.1,b.2)))) none) none)) (l8 (a7 m o p) fun b=>br (Zf (a.length + [Zo].length) (.rc .part)) (br (decide (0<=(a.length:Int)/\(a.length:Int)<((a ++ [Zo]).length:Int))) (k7 1 (j8 (m6 (a ++ [Zo]) (a.length:Int)) fun _=>some (.ok (c,e,g,l,G0 (a ++ [Zo]) (a.length:Int) b.1,b.2)))) none) none)))) (n8 (n8 (n8 (l8 (a7 m o p) fun b=>k7 1 (br (Zf (a.length + [Zo].length) (.rc .part)) (br (decide (0<=(a.length:Int)/\(a.length:Int)<((a ++ [Zo]).length:Int))) (k7 1 (j8 (m6 (a ++ [Zo]) (a.length:Int)) fun _=>some (.ok (c,e,g,l,G0 (a ++ [Zo]) (a.length:Int) b.1,b.2)))) none) none)) (k7 1 (k7 1 (l8 (a7 m o p) fun b=>br (Zf (a.length + [Zo].length) (.rc .part)) (br (decide (0<=(a.length:Int)/\(a.length:Int)<((a ++ [Zo]).length:Int))) (k7 1 (j8 (m6 (a ++ [Zo]) (a.length:Int)) fun _=>some (.ok (c,e,g,l,G0 (a ++ [Zo]) (a.length:Int) b.1,b.2)))) none) none)))) (n8 (l8 (a7 m o p) fun b=>n8 (k7 1 (br (Zf (a.length + [Zo].length) (.rc .part)) (br (decide (0<=(a.length:Int)/\(a.length:Int)<((a ++ [Zo]).length:Int))) (k7 1 (j8 (m6 (a ++ [Zo]) (a.length:Int)) fun _=>some (.ok (c,e,g,l,G0 (a ++ [Zo]) (a.length:Int) b.1,b.2)))) none) none)) (br (Zf (a.length + [Zo].length) (.rc .part)) (br (decide (0<=(a.length:Int)/\(a.length:Int)<((a ++ [Zo]).length:Int))) (k7 1 (j8 (m6 (a ++ [Zo]) (a.length:Int)) fun _=>some (.ok (c,e,g,l,G0 (a ++ [Zo]) (a.length:Int) b.1,b.2)))) none) none)) (n8 (k7 1 (l8 (a7 m o p) fun b=>br (Zf (a.length + [Zo].length) (.rc .part)) (br (decide (0<=(a.length:Int)/\(a.length:Int)<((a ++ [Zo]).length:Int))) (k7 1 (j8 (m6 (a ++ [Zo]) (a.length:Int)) fun _=>some (.ok (c,e,g,l,G0 (a ++ [Zo]) (a.length:Int) b.1,b.2)))) none) none)) (l8 (a7 m o p) fun b=>br (Zf (a.length + [Zo].length) (.rc .part)) (br (decide (0<=(a.length:Int)/\(a.length:Int)<((a ++ [Zo]).length:Int))) (k7 1 (j8 (m6 (a ++ [Zo]) (a.length:Int)) fun _=>some (.ok (c,e,g,l,G0 (a ++ [Zo]) (a.length:Int) b.1,b.2)))) none) none)))) (k7 1 (n8 (k7 1 (l8 (a7 m o p) fun b=>br (Zf (a.length + [Zo].length) (.rc .part)) (br (decide (0<=(a.length:Int)/\(a.length:Int)<((a ++ [Zo]).length:Int))) (k7 1 (j8 (m6 (a ++ [Zo]) (a.length:Int)) fun _=>some (.ok (c,e,g,l,G0 (a ++ [Zo]) (a.length:Int) b.1,b.2)))) none) none)) (l8 (a7 m o p) fun b=>br (Zf (a.length + [Zo].length) (.rc .part)) (br (decide (0<=(a.length:Int)/\(a.length:Int)<((a ++ [Zo]).length:Int))) (k7 1 (j8 (m6 (a ++ [Zo]) (a.length:Int)) fun _=>some (.ok (c,e,g,l,G0 (a ++ [Zo]) (a.length:Int) b.1,b.2)))) none) none))))
abbrev d7U(f:SV [.box 0 0,.box 1 0]->BV [.cells [V0,V1,V0,.nilS,.nilS,V0,.row 2],.cells [.box 3 0],.row 201 (.rc .part) true,.cells [V2,V0,V0]]->Option (Except Int (Int×d7×Int×Int×List GPart×List τ0×Int×Int))):PF:={ps:=[.box 0 0,.box 1 0],bs:=[.cells [V0,V1,V0,.nilS,.nilS,V0,.row 2],.cells [.box 3 0],.row 201 (.rc .part) true,.cells [V2,V0,V0]],rs:=[],cs:=[.cells [V0,V1,V0,.nilS,.nilS,V0,.row 2],.cells [.box 3 0],.row 201 (.rc .part) true,.cells [V2,V0,V0]],R:=Int×d7×Int×Int×List GPart×List τ0×Int×Int,out:=fun z=>((),(z.1,z.2.1,z.2.2.1,(),(),z.2.2.2.1,(),()),((),()),z.2.2.2.2.1,(z.2.2.2.2.2.1,z.2.2.2.2.2.2.1,z.2.2.2.2.2.2.2,()),()),f:=f}
abbrev d2I(a7:K8):PF:=d7U fun _ y=>let z:=y.2.2.2.1;D1 N a7 y.1.1 y.1.2.1 y.1.2.2.1 y.1.2.2.2.2.2.1 y.2.2.1 z.1 z.2.1 z.2.2.1
def c79(_N:Nat)(a7:K8):FuncId->Option Tmp->Option AF:=fun f _=>lkF [] f
theorem c8a(a7:K8)(g8:SoundP Tryz.prog GW x9 B2 138 (K2 fun x y=>a7 y.1.1 y.1.2.1 y.1.2.2.1)):∀f q F,c79 N a7 f q=some F->Sound Tryz.prog GW x9 f F:=fun _ _ _ h=>B9 h T8
def c3a(_N:Nat)(a7:K8):FuncId->Option Tmp->Option PF:=fun f _=>
 match f with
  |138=>some (K2 fun _ y=>a7 y.1.1 y.1.2.1 y.1.2.2.1)
  |_=>none
theorem c8b(a7:K8)(g8:SoundP Tryz.prog GW x9 B2 138 (K2 fun x y=>a7 y.1.1 y.1.2.1 y.1.2.2.1)):∀f q F,c3a N a7 f q=some F->SoundP Tryz.prog GW x9 B2 f F:=by
 intro f q F h;unfold c3a at h;split at h
 ·cases h;exact g8
 ·cases h
def d7T:Nat->Hint:=fun i=>
 match i with
 |100000=>⟨[],[1,2],[],[],[],[]⟩
 |_=>y5
abbrev e0p(a7:K8):Env:=a08 d7T (c79 N a7) (c3a N a7) (fun i=>match i with|6=>true|7=>true|8=>true|_=>false) (fun _=>false)
theorem b8Q(a7:K8)(g8:SoundP Tryz.prog GW x9 B2 138 (K2 fun x y=>a7 y.1.1 y.1.2.1 y.1.2.2.1)):SoundP Tryz.prog GW x9 B2 258 (d2I N a7):=
 a0V (e0p N a7) (H9 d7T (c79 N a7) (c3a N a7) _ _ (c8a N a7 g8) (c8b N a7 g8)) Tryz.func258 rfl Tryz.call258 (d2I N a7) (fun _ y=>let z:=y.2.2.2.1;(y.1.1,y.1.2.1,y.1.2.2.1,y.1.2.2.2.2.2.1,y.2.2.1,z.1,z.2.1,z.2.2.1)) (fun _ _=>rfl) N (fun _ _=>by kernel_rfl) rfl
end
end Go.Proofs.YtolpmfhiegpohaaGreatDoor
