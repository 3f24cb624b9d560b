/- % -/
import Derived.Test.YtolpmfhiegpohaaGreatDoorQPaF3
namespace Go.Proofs.YtolpmfhiegpohaaGreatDoor
open Go Go.RowKit
set_option maxRecDepth 100000
set_option linter.unusedVariables false
noncomputable section
variable(N:Nat)
def b54(d4:ρ7)(e:Int)(k0 self:ρ6)(g:List τ0)(l m:Int)(c:List GStmt):Option (Except Int (List τ0×Int×Int×List GStmt)):=j8 (l6 N 4 [125] g l m) fun a=>br (!a.1) (m8 (d4 e a.2.1 a.2.2.1 a.2.2.2) fun b=>br (Zf (c.length + [b.1].length) τ17) (self b.2.1 b.2.2.1 b.2.2.2 (c ++ [b.1])) none) (k0 a.2.1 a.2.2.1 a.2.2.2 c)
def b53(N:Nat)(d4:ρ7)(a:Int)(k0:ρ6):Nat->τ6->Int->Int->(List GStmt)->Option (Except Int (List τ0×Int×Int×List GStmt))|0,_,_,_,_=>none|n+1,b,c,e,g=>b54 N d4 a k0 (b53 N d4 a k0 n) b c e g
def D3(d4:ρ7)(b:Int)(c:List τ0)(e g:Int):Option (Except Int (List τ0×Int×Int×List GStmt)):=m8 (k6 N [123] c e g) fun a=>b53 N d4 b (fun l m o p=>some (.ok (l,m,o,p))) N a.1 a.2.1 a.2.2 []
abbrev e1k(f:SV [.box 0 0,V0]->BV [.cells [V2,V0,V0]]->Option (Except Int (List τ0×Int×Int×List GStmt))):PF:={ps:=[.box 0 0,V0],bs:=[.cells [V2,V0,V0]],rs:=[.row 1],cs:=[.cells [V2,V0,V0],.row 71 τ17 false],R:=List τ0×Int×Int×List GStmt,out:=fun z=>(((),()),(z.1,z.2.1,z.2.2.1,()),z.2.2.2,()),f:=f}
abbrev d2m(d4:ρ7):PF:=e1k fun x y=>D3 N d4 x.2.1 y.1.1 y.1.2.1 y.1.2.2.1
abbrev d2o:SV [.row 1]->BV [.cells [V2,V0,V0],.row 71 τ17 false]->(List τ0×Int×Int×List GStmt):=fun _ y=>(y.1.1,y.1.2.1,y.1.2.2.1,y.2.1)
abbrev d7r:SV [.row 1]->BV [.cells [V2,V0,V0],.row 71 τ17 false]->Except Int (List τ0×Int×Int×List GStmt):=fun x y=> .ok (d2o x y)
def d2k(d4:ρ7):FuncId->Option Tmp->Option AF:=fun f _=>t7 [(74,d3b N)] f
theorem d2l(d4:ρ7)(p6:SoundP Tryz.prog GW B0G c2M 48 (e0G fun x y=>d4 x.2.1 y.1.1 y.1.2.1 y.1.2.2.1)):∀f q F,d2k N d4 f q=some F->Sound Tryz.prog GW B0G f F:=fun _ _ _ h=>D7 h (Q3 (d3e N) lkn)
def c6z(d4:ρ7):FuncId->Option Tmp->Option PF:=fun f _=>
 match f with
  |48=>some (e0G fun x y=>d4 x.2.1 y.1.1 y.1.2.1 y.1.2.2.1)
  |76=>some (d9f N)
  |_=>none
theorem d2n(d4:ρ7)(p6:SoundP Tryz.prog GW B0G c2M 48 (e0G fun x y=>d4 x.2.1 y.1.1 y.1.2.1 y.1.2.2.1)):∀f q F,c6z N d4 f q=some F->SoundP Tryz.prog GW B0G c2M f F:=by
 intro f q F h;unfold c6z at h;split at h
 ·cases h;exact p6
 ·cases h;exact d27 N
 ·cases h
def c4n:Nat->Hint:=fun i=>
 match i with
 |0=>⟨[],[0,1,5],[0,1005],[5],[0,1005],[]⟩
 |_=>B8
abbrev b52(d4:ρ7):Env:=a2Q c4n (d2k N d4) (c6z N d4) (fun _=>false) (fun _=>false)
abbrev c4m(d4:ρ7):=P5 (b52 N d4) Tryz.f79 (PF.tf (d2m N d4)) d7r
noncomputable abbrev f6L:Code:=cAt (C3 Tryz.f79) [true,true,true,false,false,false]
abbrev b02:List (Nat×Sl):=[(0,.box 0 0),(1,V0),(5,.row 1005)]
abbrev b01:List (Nat×Sb):=[(0,.cells [V2,V0,V0]),(1005,.row 71 τ17 false)]
def b55(a:Int)(b:List τ0)(c e:Int)(g:List GStmt):St:=⟨18,[(0,.box 0 0),(1,.v τ2 a),(5,.row 1005)],[(0,.cells [.v (.sl τ1) b,.v τ2 c,.v τ2 e]),(1005,.row 71 τ17 false g)]⟩
def a8M(_g:Int)(a:List τ0)(b c:Int)(e:List GStmt):St:=⟨18,[(5,.row 1005)],[(0,.cells [.v (.sl τ1) a,.v τ2 b,.v τ2 c]),(1005,.row 71 τ17 false e)]⟩
def d53(d4:ρ7)(a:Int)(b:List τ0)(c e:Int)(g:List GStmt)(k:Ex->St->Option (Except Int (List τ0×Int×Int×List GStmt))):Option (Except Int (List τ0×Int×Int×List GStmt)):=b53 N d4 a (fun l m o p=>k (.exit 0) (a8M a l m o p)) N b c e g
abbrev c6y(d4:ρ7):FV b02->HV b01->(Ex->St->Option (Except Int (List τ0×Int×Int×List GStmt)))->Option (Except Int (List τ0×Int×Int×List GStmt)):=fun x y k=>d53 N d4 x.2.1 y.1.1 y.1.2.1 y.1.2.2.1 y.2.1 k
def b56(d4:ρ7):Nat->Code->St->(Ex->St->Option (Except Int (List τ0×Int×Int×List GStmt)))->Option (Except Int (List τ0×Int×Int×List GStmt)):=fun i c=>
 match i with
 |0=>(LPc 18 b02 b01 (c6y N d4) (fun st k=>iter (c4n 0) (q7 (b52 N d4) N c 0) N st k))
 |i=>fun st k=>iter (c4n i) (q7 (b52 N d4) N c i) N st k
theorem c4l(d4:ρ7)(a:Int)(KX:Nat->St->Option (Except Int (List τ0×Int×Int×List GStmt)))(I:St->Option (Except Int (List τ0×Int×Int×List GStmt)))(b:List τ0)(c e:Int)(g:List GStmt):
  s4 (b56 N d4) (b52 N d4) f6L 0 (b55 a b c e g) (I2 (c4n 0) I KX (c4m N d4))=b54 N d4 a (fun l m o p=>KX 0 (a8M a l m o p)) (fun b c e g=>I (b55 a b c e g)) b c e g:=by kernel_rfl
theorem d2j(d4:ρ7):∀x y k,(∀st,k .ret st=(c4m N d4) st)->iter (c4n 0) (q7 (b52 N d4) N f6L 0) N ⟨18,unF b02 x,unH b01 y⟩ k=c6y N d4 x y k:=fun x y k hk=>
 s5 (S:=τ6×(Int)×(Int)×(List GStmt)×Unit) (c4n 0) _ (s4 (b56 N d4) (b52 N d4) f6L 0) (c4m N d4) (x9 _ _ N _ f6L 0 (show LoopsOk (b56 N d4) (b52 N d4) N (c4m N d4) []from trivial)) (fun s=>b55 x.2.1 s.1 s.2.1 s.2.2.1 s.2.2.2.1) k hk
  (fun self s=>b54 N d4 x.2.1 (fun a b c e=>k (.exit 0) (a8M x.2.1 a b c e)) (fun g l m o=>self (g,l,m,o,())) s.1 s.2.1 s.2.2.1 s.2.2.2.1) (fun n s=>b53 N d4 x.2.1 (fun a b c e=>k (.exit 0) (a8M x.2.1 a b c e)) n s.1 s.2.1 s.2.2.1 s.2.2.2.1) (fun _=>rfl) (fun _ _=>rfl)
  (fun I s=>c4l N d4 x.2.1 (fun j=>k (.exit j)) I s.1 s.2.1 s.2.2.1 s.2.2.2.1) N (y.1.1,y.1.2.1,y.1.2.2.1,y.2.1,())
theorem d86(d4:ρ7):a1g (b56 N d4) (b52 N d4) N (c4m N d4) 0 f6L:=fun st k hk=>J8 18 b02 b01 _ _ (c4m N d4) (d2j N d4) _ st k hk (rfl)
theorem d54(d4:ρ7)(x:SV [.box 0 0,V0])(y:BV [.cells [V2,V0,V0]]):a0f (b52 N d4) Tryz.f79 (PF.tf (d2m N d4)) d7r (b56 N d4) x y=D3 N d4 x.2.1 y.1.1 y.1.2.1 y.1.2.2.1:=by kernel_rfl
theorem d2p(d4:ρ7)(p6:SoundP Tryz.prog GW B0G c2M 48 (e0G fun x y=>d4 x.2.1 y.1.1 y.1.2.1 y.1.2.2.1)):SoundP Tryz.prog GW B0G c2M 79 (d2m N d4):=
 b49 (b52 N d4) (L0 c4n (d2k N d4) (c6z N d4) _ _ (d2l N d4 p6) (d2n N d4 p6)) Tryz.func79 rfl Tryz.call79 (d2m N d4) d2o (fun _ _=>rfl) N (b56 N d4) (show LoopsOk (b56 N d4) (b52 N d4) N (c4m N d4) [(0,f6L)]from⟨d86 N d4,trivial⟩) (d54 N d4)
def Q5(b:d9)(c:List τ0)(e g:Int):Option (Except Int τ14):=j8 (l6 N 1 b c e g) fun a=>br (!a.1) (m8 (n8 N a.2.1 a.2.2.1 a.2.2.2) fun l=>some (.ok l)) (some (.ok a.2))
abbrev e1L(f:SV [.box 0 0,V1]->BV [.cells [V2,V0,V0]]->Option (Except Int τ14)):PF:={ps:=[.box 0 0,V1],bs:=[.cells [V2,V0,V0]],rs:=[],cs:=[.cells [V2,V0,V0]],R:=List τ0×Int×Int,out:=fun z=>((),(z.1,z.2.1,z.2.2,()),()),f:=f}
abbrev d9i:PF:=e1L fun x y=>Q5 N x.2.1 y.1.1 y.1.2.1 y.1.2.2.1
def e8g:FuncId->Option Tmp->Option AF:=fun f _=>t7 [(74,d3b N)] f
theorem e8h:a1f (e8g N):=fun _ _ _ h=>D7 h (Q3 (d3e N) lkn)
def f2V:FuncId->Option Tmp->Option PF:=fun f _=>
 match f with
  |136=>some (c8e N)
  |_=>none
theorem f3H:∀f q F,f2V N f q=some F->SoundP Tryz.prog GW B0G c2M f F:=by
 intro f q F h;unfold f2V at h;split at h
 ·cases h;exact b1e N
 ·cases h
def f1b:Nat->Hint:=fun i=>
 match i with
 |_=>B8
abbrev f1T:Env:=a2Q f1b (e8g N) (f2V N) (fun _=>false) (fun _=>false)
theorem d3m:SoundP Tryz.prog GW B0G c2M 80 (d9i N):=
 a2x (f1T N) (L0 f1b (e8g N) (f2V N) _ _ (e8h N) (f3H N)) Tryz.func80 rfl Tryz.call80 (d9i N) (fun _ y=>(y.1.1,y.1.2.1,y.1.2.2.1)) (fun _ _=>rfl) N (fun _ _=>by kernel_rfl) rfl
def s6(a:List τ0)(e g:Int):Option (Except Int τ23):=br ((a.length:Int)==0) (m8 (n8 N a e g) fun b=>j8 (m7 b.1 0) fun l=>j8 (slc b.1 1 (b.1.length:Int)) fun m=>some (.ok (l.2.1,m,b.2))) (j8 (m7 a 0) fun o=>br (o.1 !=2) (m8 (n8 N a e g) fun c=>j8 (m7 c.1 0) fun p=>j8 (slc c.1 1 (c.1.length:Int)) fun q=>some (.ok (p.2.1,q,c.2))) (j8 (m7 a 0) fun r=>j8 (slc a 1 (a.length:Int)) fun t=>some (.ok (r.2.1,t,e,g))))
abbrev e1K(f:SV [.box 0 0]->BV [.cells [V2,V0,V0]]->Option (Except Int τ23)):PF:={ps:=[.box 0 0],bs:=[.cells [V2,V0,V0]],rs:=[V1],cs:=[.cells [V2,V0,V0]],R:=d9×List τ0×Int×Int,out:=fun z=>((z.1,()),(z.2.1,z.2.2.1,z.2.2.2,()),()),f:=f}
abbrev d3i:PF:=e1K fun _ y=>s6 N y.1.1 y.1.2.1 y.1.2.2.1
def d3g(_N:Nat):FuncId->Option Tmp->Option AF:=fun f _=>t7 [] f
theorem d3h:a1f (d3g N):=fun _ _ _ h=>D7 h lkn
def c6O:FuncId->Option Tmp->Option PF:=fun f _=>
 match f with
  |136=>some (c8e N)
  |_=>none
theorem d3j:∀f q F,c6O N f q=some F->SoundP Tryz.prog GW B0G c2M f F:=by
 intro f q F h;unfold c6O at h;split at h
 ·cases h;exact b1e N
 ·cases h
def c4z:Nat->Hint:=fun i=>
 match i with
 |_=>B8
abbrev b6o:Env:=a2Q c4z (d3g N) (c6O N) (fun _=>false) (fun _=>false)
theorem d3l:SoundP Tryz.prog GW B0G c2M 82 (d3i N):=
 a2x (b6o N) (L0 c4z (d3g N) (c6O N) _ _ (d3h N) (d3j N)) Tryz.func82 rfl Tryz.call82 (d3i N) (fun x y=>(x.1,y.1.1,y.1.2.1,y.1.2.2.1)) (fun _ _=>rfl) N (fun _ _=>by kernel_rfl) rfl
abbrev e1y(f:SV [.box 0 0]->BV [.cells [V2,V0,V0]]->Option (Except Int (GPart×List τ0×Int×Int))):PF:={ps:=[.box 0 0],bs:=[.cells [V2,V0,V0]],rs:=[.v (.rc .part)],cs:=[.cells [V2,V0,V0]],R:=GPart×List τ0×Int×Int,out:=fun z=>((z.1,()),(z.2.1,z.2.2.1,z.2.2.2,()),()),f:=f}
def B5(_N:Nat)(a7:d2)(b:Int)(c:d9)(e g:Int)(l:List τ0)(m o:Int):Option (Except Int (Int×d9×Int×Int×List τ0×Int×Int×List GPart)):=o9 (o9 (o9 (m8 (a7 l m o) fun a=>k9 1 (br (Zf [Zo].length (.rc .part)) (br (decide (0<=(0: Int)/\0<([Zo].length:Int))) (k9 1 (j8 (m7 [Zo] 0) fun _=>some (.ok (b,c,e,g,a.2.1,a.2.2.1,a.2.2.2,I3 [Zo] 0 a.1)))) none) none)) (k9 1 (k9 1 (m8 (a7 l m o) fun a=>br (Zf [Zo].length (.rc .part)) (br (decide (0<=(0: Int)/\0<([Zo].length:Int))) (k9 1 (j8 (m7 [Zo] 0) fun _=>some (.ok (b,c,e,g,a.2.1,a.2.2.1,a.2.2.2,I3 [Zo] 0 a.1)))) none) none)))) (k9 1 (o9 (k9 1 (m8 (a7 l m o) fun a=>br (Zf [Zo].length (.rc .part)) (br (decide (0<=(0: Int)/\0<([Zo].length:Int))) (k9 1 (j8 (m7 [Zo] 0) fun _=>some (.ok (b,c,e,g,a.2.1,a.2.2.1,a.2.2.2,I3 [Zo] 0 a.1)))) none) none)) (m8 (a7 l m o) fun a=>br (Zf [Zo].length (.rc .part)) (br (decide (0<=(0: Int)/\0<([Zo].length:Int))) (k9 1 (j8 (m7 [Zo] 0) fun _=>some (.ok (b,c,e,g,a.2.1,a.2.2.1,a.2.2.2,I3 [Zo] 0 a.1)))) none) none)))) (o9 (o9 (o9 (m8 (a7 l m o) fun a=>k9 1 (br (Zf [Zo].length (.rc .part)) (br (decide (0<=(0: Int)/\0<([Zo].length:Int))) (k9 1 (j8 (m7 [Zo] 0) fun _=>some (.ok (b,c,e,g,a.2.1,a.2.2.1,a.2.2.2,I3 [Zo] 0 a.1)))) none) none)) (k9 1 (k9 1 (m8 (a7 l m o) fun a=>br (Zf [Zo].length (.rc .part)) (br (decide (0<=(0: Int)/\0<([Zo].length:Int))) (k9 1 (j8 (m7 [Zo] 0) fun _=>some (.ok (b,c,e,g,a.2.1,a.2.2.1,a.2.2.2,I3 [Zo] 0 a.1)))) none) none)))) (o9 (m8 (a7 l m o) fun a=>o9 (k9 1 (br (Zf [Zo].length (.rc .part)) (br (decide (0<=(0: Int)/\0<([Zo].length:Int))) (k9 1 (j8 (m7 [Zo] 0) fun _=>some (.ok (b,c,e,g,a.2.1,a.2.2.1,a.2.2.2,I3 [Zo] 0 a.1)))) none) none)) (br (Zf [Zo].length (.rc .part)) (br (decide (0<=(0: Int)/\0<([Zo].length:Int))) (k9 1 (j8 (m7 [Zo] 0) fun _=>some (.ok (b,c,e,g,a.2.1,a.2.2.1,a.2.2.2,I3 [Zo] 0 a.1)))) none) none)) (o9 (k9 1 (m8 (a7 l m o) fun a=>br (Zf [Zo].length (.rc .part)) (br (decide (0<=(0: Int)/\0<([Zo].length:Int))) (k9 1 (j8 (m7 [Zo] 0) fun _=>some (.ok (b,c,e,g,a.2.1,a.2.2.1,a.2.2.2,I3 [Zo] 0 a.1)))) none) none)) (m8 (a7 l m o) fun a=>br (Zf [Zo].length (.rc .part)) (br (decide (0<=(0: Int)/\0<([Zo].length:Int))) (k9 1 (j8 (m7 [Zo] 0) fun _=>some (.ok (b,c,e,g,a.2.1,a.2.2.1,a.2.2.2,I3 [Zo] 0 a.1)))) none) none)))) (k9 1 (o9 (k9 1 (m8 (a7 l m o) fun a=>br (Zf [Zo].length (.rc .part)) (br (decide (0<=(0: Int)/\0<([Zo].length:Int))) (k9 1 (j8 (m7 [Zo] 0) fun _=>some (.ok (b,c,e,g,a.2.1,a.2.2.1,a.2.2.2,I3 [Zo] 0 a.1)))) none) none)) (m8 (a7 l m o) fun a=>br (Zf [Zo].length (.rc .part)) (br (decide (0<=(0: Int)/\0<([Zo].length:Int))) (k9 1 (j8 (m7 [Zo] 0) fun _=>some (.ok (b,c,e,g,a.2.1,a.2.2.1,a.2.2.2,I3 [Zo] 0 a.1)))) none) none))))
abbrev e1m(f:SV [.box 0 0,.box 1 0]->BV [.cells [V0,V1,V0,.nilS,.nilS,V0,.nilS],.cells [.box 2 0],.cells [V2,V0,V0]]->Option (Except Int (Int×d9×Int×Int×List τ0×Int×Int×List GPart))):PF:={ps:=[.box 0 0,.box 1 0],bs:=[.cells [V0,V1,V0,.nilS,.nilS,V0,.nilS],.cells [.box 2 0],.cells [V2,V0,V0]],rs:=[],cs:=[.cells [V0,V1,V0,.nilS,.nilS,V0,.row 3],.cells [.box 2 0],.cells [V2,V0,V0],.row 201 (.rc .part) true],R:=Int×d9×Int×Int×List τ0×Int×Int×List GPart,out:=fun z=>((),(z.1,z.2.1,z.2.2.1,(),(),z.2.2.2.1,(),()),((),()),(z.2.2.2.2.1,z.2.2.2.2.2.1,z.2.2.2.2.2.2.1,()),z.2.2.2.2.2.2.2,()),f:=f}
abbrev c8c(a7:d2):PF:=e1m fun _ y=>B5 N a7 y.1.1 y.1.2.1 y.1.2.2.1 y.1.2.2.2.2.2.1 y.2.2.1.1 y.2.2.1.2.1 y.2.2.1.2.2.1
def d2q(_N:Nat)(a7:d2):FuncId->Option Tmp->Option AF:=fun f _=>t7 [] f
theorem d2r(a7:d2)(i7:SoundP Tryz.prog GW B0G c2M 138 (e1y fun x y=>a7 y.1.1 y.1.2.1 y.1.2.2.1)):∀f q F,d2q N a7 f q=some F->Sound Tryz.prog GW B0G f F:=fun _ _ _ h=>D7 h lkn
def c6A(_N:Nat)(a7:d2):FuncId->Option Tmp->Option PF:=fun f _=>
 match f with
  |138=>some (e1y fun _ y=>a7 y.1.1 y.1.2.1 y.1.2.2.1)
  |_=>none
theorem d2s(a7:d2)(i7:SoundP Tryz.prog GW B0G c2M 138 (e1y fun x y=>a7 y.1.1 y.1.2.1 y.1.2.2.1)):∀f q F,c6A N a7 f q=some F->SoundP Tryz.prog GW B0G c2M f F:=by
 intro f q F h;unfold c6A at h;split at h
 ·cases h;exact i7
 ·cases h
def e1l:Nat->Hint:=fun i=>
 match i with
 |100000=>⟨[],[1,2],[],[],[],[]⟩
 |_=>B8
abbrev e3C(a7:d2):Env:=a2Q e1l (d2q N a7) (c6A N a7) (fun i=>match i with|6=>true|7=>true|8=>true|_=>false) (fun _=>false)
theorem b03(a7:d2)(i7:SoundP Tryz.prog GW B0G c2M 138 (e1y fun x y=>a7 y.1.1 y.1.2.1 y.1.2.2.1)):SoundP Tryz.prog GW B0G c2M 258 (c8c N a7):=
 a2x (e3C N a7) (L0 e1l (d2q N a7) (c6A N a7) _ _ (d2r N a7 i7) (d2s N a7 i7)) Tryz.func258 rfl Tryz.call258 (c8c N a7) (fun _ y=>(y.1.1,y.1.2.1,y.1.2.2.1,y.1.2.2.2.2.2.1,y.2.2.1.1,y.2.2.1.2.1,y.2.2.1.2.2.1,y.2.2.2.1)) (fun _ _=>rfl) N (fun _ _=>by kernel_rfl) rfl
def F3(_N:Nat)(a7:d2)(c:Int)(e:d9)(g l:Int)(a:List GPart)(m:List τ0)(o p:Int):Option (Except Int (Int×d9×Int×Int×List GPart×List τ0×Int×Int)):=o9 (o9 (o9 (m8 (a7 m o p) fun b=>k9 1 (br (Zf (a.length + [Zo].length) (.rc .part)) (br (decide (0<=(a.length:Int)/\(a.length:Int)<((a ++ [Zo]).length:Int))) (k9 1 (j8 (m7 (a ++ [Zo]) (a.length:Int)) fun _=>some (.ok (c,e,g,l,I3 (a ++ [Zo]) (a.length:Int) b.1,b.2)))) none) none)) (k9 1 (k9 1 (m8 (a7 m o p) fun b=>br (Zf (a.length + [Zo].length) (.rc .part)) (br (decide (0<=(a.length:Int)/\(a.length:Int)<((a ++ [Zo]).length:Int))) (k9 1 (j8 (m7 (a ++ [Zo]) (a.length:Int)) fun _=>some (.ok (c,e,g,l,I3 (a ++ [Zo]) (a.length:Int) b.1,b.2)))) none) none)))) (k9 1 (o9 (k9 1 (m8 (a7 m o p) fun b=>br (Zf (a.length + [Zo].length) (.rc .part)) (br (decide (0<=(a.length:Int)/\(a.length:Int)<((a ++ [Zo]).length:Int))) (k9 1 (j8 (m7 (a ++ [Zo]) (a.length:Int)) fun _=>some (.ok (c,e,g,l,I3 (a ++ [Zo]) (a.length:Int) b.1,b.2)))) none) none)) (m8 (a7 m o p) fun b=>br (Zf (a.length + [Zo].length) (.rc .part)) (br (decide (0<=(a.length:Int)/\(a.length:Int)<((a ++ [Zo]).length:Int))) (k9 1 (j8 (m7 (a ++ [Zo]) (a.length:Int)) fun _=>some (.ok (c,e,g,l,I3 (a ++ [Zo]) (a.length:Int) b.1,b.2)))) none) none)))) (o9 (o9 (o9 (m8 (a7 m o p) fun b=>k9 1 (br (Zf (a.length + [Zo].length) (.rc .part)) (br (decide (0<=(a.length:Int)/\(a.length:Int)<((a ++ [Zo]).length:Int))) (k9 1 (j8 (m7 (a ++ [Zo]) (a.length:Int)) fun _=>some (.ok (c,e,g,l,I3 (a ++ [Zo]) (a.length:Int) b.1,b.2)))) none) none)) (k9 1 (k9 1 (m8 (a7 m o p) fun b=>br (Zf (a.length + [Zo].length) (.rc .part)) (br (decide (0<=(a.length:Int)/\(a.length:Int)<((a ++ [Zo]).length:Int))) (k9 1 (j8 (m7 (a ++ [Zo]) (a.length:Int)) fun _=>some (.ok (c,e,g,l,I3 (a ++ [Zo]) (a.length:Int) b.1,b.2)))) none) none)))) (o9 (m8 (a7 m o p) fun b=>o9 (k9 1 (br (Zf (a.length + [Zo].length) (.rc .part)) (br (decide (0<=(a.length:Int)/\(a.length:Int)<((a ++ [Zo]).length:Int))) (k9 1 (j8 (m7 (a ++ [Zo]) (a.length:Int)) fun _=>some (.ok (c,e,g,l,I3 (a ++ [Zo]) (a.length:Int) b.1,b.2)))) none) none)) (br (Zf (a.length + [Zo].length) (.rc .part)) (br (decide (0<=(a.length:Int)/\(a.length:Int)<((a ++ [Zo]).length:Int))) (k9 1 (j8 (m7 (a ++ [Zo]) (a.length:Int)) fun _=>some (.ok (c,e,g,l,I3 (a ++ [Zo]) (a.length:Int) b.1,b.2)))) none) none)) (o9 (k9 1 (m8 (a7 m o p) fun b=>br (Zf (a.length + [Zo].length) (.rc .part)) (br (decide (0<=(a.length:Int)/\(a.length:Int)<((a ++ [Zo]).length:Int))) (k9 1 (j8 (m7 (a ++ [Zo]) (a.length:Int)) fun _=>some (.ok (c,e,g,l,I3 (a ++ [Zo]) (a.length:Int) b.1,b.2)))) none) none)) (m8 (a7 m o p) fun b=>br (Zf (a.length + [Zo].length) (.rc .part)) (br (decide (0<=(a.length:Int)/\(a.length:Int)<((a ++ [Zo]).length:Int))) (k9 1 (j8 (m7 (a ++ [Zo]) (a.length:Int)) fun _=>some (.ok (c,e,g,l,I3 (a ++ [Zo]) (a.length:Int) b.1,b.2)))) none) none)))) (k9 1 (o9 (k9 1 (m8 (a7 m o p) fun b=>br (Zf (a.length + [Zo].length) (.rc .part)) (br (decide (0<=(a.length:Int)/\(a.length:Int)<((a ++ [Zo]).length:Int))) (k9 1 (j8 (m7 (a ++ [Zo]) (a.length:Int)) fun _=>some (.ok (c,e,g,l,I3 (a ++ [Zo]) (a.length:Int) b.1,b.2)))) none) none)) (m8 (a7 m o p) fun b=>br (Zf (a.length + [Zo].length) (.rc .part)) (br (decide (0<=(a.length:Int)/\(a.length:Int)<((a ++ [Zo]).length:Int))) (k9 1 (j8 (m7 (a ++ [Zo]) (a.length:Int)) fun _=>some (.ok (c,e,g,l,I3 (a ++ [Zo]) (a.length:Int) b.1,b.2)))) none) none))))
abbrev e0Q(f:SV [.box 0 0,.box 1 0]->BV [.cells [V0,V1,V0,.nilS,.nilS,V0,.row 2],.cells [.box 3 0],.row 201 (.rc .part) true,.cells [V2,V0,V0]]->Option (Except Int (Int×d9×Int×Int×List GPart×List τ0×Int×Int))):PF:={ps:=[.box 0 0,.box 1 0],bs:=[.cells [V0,V1,V0,.nilS,.nilS,V0,.row 2],.cells [.box 3 0],.row 201 (.rc .part) true,.cells [V2,V0,V0]],rs:=[],cs:=[.cells [V0,V1,V0,.nilS,.nilS,V0,.row 2],.cells [.box 3 0],.row 201 (.rc .part) true,.cells [V2,V0,V0]],R:=Int×d9×Int×Int×List GPart×List τ0×Int×Int,out:=fun z=>((),(z.1,z.2.1,z.2.2.1,(),(),z.2.2.2.1,(),()),((),()),z.2.2.2.2.1,(z.2.2.2.2.2.1,z.2.2.2.2.2.2.1,z.2.2.2.2.2.2.2,()),()),f:=f}
abbrev d8J(a7:d2):PF:=e0Q fun _ y=>let z:=y.2.2.2.1;F3 N a7 y.1.1 y.1.2.1 y.1.2.2.1 y.1.2.2.2.2.2.1 y.2.2.1 z.1 z.2.1 z.2.2.1
def d1c(_N:Nat)(a7:d2):FuncId->Option Tmp->Option AF:=fun f _=>t7 [] f
theorem d1d(a7:d2)(i7:SoundP Tryz.prog GW B0G c2M 138 (e1y fun x y=>a7 y.1.1 y.1.2.1 y.1.2.2.1)):∀f q F,d1c N a7 f q=some F->Sound Tryz.prog GW B0G f F:=fun _ _ _ h=>D7 h lkn
def c6j(_N:Nat)(a7:d2):FuncId->Option Tmp->Option PF:=fun f _=>
 match f with
  |138=>some (e1y fun _ y=>a7 y.1.1 y.1.2.1 y.1.2.2.1)
  |_=>none
theorem d1e(a7:d2)(i7:SoundP Tryz.prog GW B0G c2M 138 (e1y fun x y=>a7 y.1.1 y.1.2.1 y.1.2.2.1)):∀f q F,c6j N a7 f q=some F->SoundP Tryz.prog GW B0G c2M f F:=by
 intro f q F h;unfold c6j at h;split at h
 ·cases h;exact i7
 ·cases h
def e0P:Nat->Hint:=fun i=>
 match i with
 |100000=>⟨[],[1,2],[],[],[],[]⟩
 |_=>B8
abbrev e3u(a7:d2):Env:=a2Q e0P (d1c N a7) (c6j N a7) (fun i=>match i with|6=>true|7=>true|8=>true|_=>false) (fun _=>false)
theorem d1f(a7:d2)(i7:SoundP Tryz.prog GW B0G c2M 138 (e1y fun x y=>a7 y.1.1 y.1.2.1 y.1.2.2.1)):SoundP Tryz.prog GW B0G c2M 258 (d8J N a7):=
 a2x (e3u N a7) (L0 e0P (d1c N a7) (c6j N a7) _ _ (d1d N a7 i7) (d1e N a7 i7)) Tryz.func258 rfl Tryz.call258 (d8J N a7) (fun _ y=>let z:=y.2.2.2.1;(y.1.1,y.1.2.1,y.1.2.2.1,y.1.2.2.2.2.2.1,y.2.2.1,z.1,z.2.1,z.2.2.1)) (fun _ _=>rfl) N (fun _ _=>by kernel_rfl) rfl
end
end Go.Proofs.YtolpmfhiegpohaaGreatDoor
