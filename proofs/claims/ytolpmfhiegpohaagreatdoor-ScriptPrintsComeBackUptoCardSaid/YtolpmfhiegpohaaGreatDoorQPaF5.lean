/- % -/
import Derived.Test.YtolpmfhiegpohaaGreatDoorQPaF4
namespace Go.Proofs.YtolpmfhiegpohaaGreatDoor
open Go Go.RowKit
set_option maxRecDepth 100000
set_option linter.unusedVariables false
noncomputable section
variable(N:Nat)
def a3L(a7:d2)(k0 self:ρ2)(o:List τ0)(p q c:Int)(e:d9)(g l:Int)(m:List GPart):Option (Except Int (List τ0×Int×Int×Int×d9×Int×Int×List GPart)):=j8 (l6 N 4 [44] o p q) fun b=>br (b.1) (m8 (F3 N a7 c e g l m b.2.1 b.2.2.1 b.2.2.2) fun a=>self a.2.2.2.2.2.1 a.2.2.2.2.2.2.1 a.2.2.2.2.2.2.2 a.1 a.2.1 a.2.2.1 a.2.2.2.1 a.2.2.2.2.1) (k0 b.2.1 b.2.2.1 b.2.2.2 c e g l m)
def b57(N:Nat)(a7:d2)(k0:ρ2):Nat->τ6->Int->Int->Int->d9->Int->Int->(List GPart)->Option (Except Int (List τ0×Int×Int×Int×d9×Int×Int×List GPart))|0,_,_,_,_,_,_,_,_=>none|n+1,a,b,c,e,g,l,m,o=>a3L N a7 k0 (b57 N a7 k0 n) a b c e g l m o
def K9(a7:d2)(e:d9)(K:Bool)(E:List τ0)(H J g:Int)(l:d9)(m o:Int):Option (Except Int (List τ0×Int×Int×Int×d9×Int×Int×List GPart)):=br (K) (j8 (l6 N 4 e E H J) fun c=>br (c.1) (some (.ok (c.2.1,c.2.2.1,c.2.2.2,g,l,m,o,[]))) (m8 (B5 N a7 g l m o c.2.1 c.2.2.1 c.2.2.2) fun a=>b57 N a7 (fun p q r t u v w B=>m8 (k6 N e p q r) fun C=>some (.ok (C.1,C.2.1,C.2.2,t,u,v,w,B))) N a.2.2.2.2.1 a.2.2.2.2.2.1 a.2.2.2.2.2.2.1 a.1 a.2.1 a.2.2.1 a.2.2.2.1 a.2.2.2.2.2.2.2)) (m8 (B5 N a7 g l m o E H J) fun b=>b57 N a7 (fun p q r t u v w B=>m8 (k6 N e p q r) fun D=>some (.ok (D.1,D.2.1,D.2.2,t,u,v,w,B))) N b.2.2.2.2.1 b.2.2.2.2.2.1 b.2.2.2.2.2.2.1 b.1 b.2.1 b.2.2.1 b.2.2.2.1 b.2.2.2.2.2.2.2)
abbrev e1o(f:SV [.box 0 0,V1,V3,.fnc 258 [1,2]]->BV [.cells [V2,V0,V0],.cells [V0,V1,V0,.nilS,.nilS,V0,.nilS],.cells [.box 0 0]]->Option (Except Int (List τ0×Int×Int×Int×d9×Int×Int×List GPart))):PF:={ps:=[.box 0 0,V1,V3,.fnc 258 [1,2]],bs:=[.cells [V2,V0,V0],.cells [V0,V1,V0,.nilS,.nilS,V0,.nilS],.cells [.box 0 0]],rs:=[],cs:=[.cells [V2,V0,V0],.cells [V0,V1,V0,.nilS,.nilS,V0,.v (.sl (.rc .part))],.cells [.box 0 0]],R:=List τ0×Int×Int×Int×d9×Int×Int×List GPart,out:=fun z=>((),(z.1,z.2.1,z.2.2.1,()),(z.2.2.2.1,z.2.2.2.2.1,z.2.2.2.2.2.1,(),(),z.2.2.2.2.2.2.1,z.2.2.2.2.2.2.2,()),((),()),()),f:=f}
abbrev d59(a7:d2):PF:=e1o fun x y=>K9 N a7 x.2.1 x.2.2.1 y.1.1 y.1.2.1 y.1.2.2.1 y.2.1.1 y.2.1.2.1 y.2.1.2.2.1 y.2.1.2.2.2.2.2.1
abbrev e7Z:SV []->BV [.cells [V2,V0,V0],.cells [V0,V1,V0,.nilS,.nilS,V0,.v (.sl (.rc .part))],.cells [.box 0 0]]->(List τ0×Int×Int×Int×d9×Int×Int×List GPart):=fun _ y=>let z:=y.2.1.2;(y.1.1,y.1.2.1,y.1.2.2.1,y.2.1.1,z.1,z.2.1,z.2.2.2.2.1,z.2.2.2.2.2.1)
abbrev d2y:SV []->BV [.cells [V2,V0,V0],.cells [V0,V1,V0,.nilS,.nilS,V0,.v (.sl (.rc .part))],.cells [.box 0 0]]->Except Int (List τ0×Int×Int×Int×d9×Int×Int×List GPart):=fun x y=> .ok (e7Z x y)
def d2v(a7:d2):FuncId->Option Tmp->Option AF:=fun f _=>t7 [(74,d3b N)] f
theorem d2w(a7:d2)(i7:SoundP Tryz.prog GW B0G c2M 138 (e1y fun x y=>a7 y.1.1 y.1.2.1 y.1.2.2.1)):∀f q F,d2v N a7 f q=some F->Sound Tryz.prog GW B0G f F:=fun _ _ _ h=>D7 h (Q3 (d3e N) lkn)
def e6F(a7:d2):FuncId->Option Tmp->Option PF:=fun f q=>
 match f with
  |76=>some (d9f N)
  |258=>match q with|some 15=>some (c8c N a7)|some 19=>some (d8J N a7)|_=>none
  |_=>none
theorem e7Y(a7:d2)(i7:SoundP Tryz.prog GW B0G c2M 138 (e1y fun x y=>a7 y.1.1 y.1.2.1 y.1.2.2.1)):∀f q F,e6F N a7 f q=some F->SoundP Tryz.prog GW B0G c2M f F:=by
 intro f q F h;unfold e6F at h;split at h
 ·cases h;exact d27 N
 ·split at h
  ·cases h;exact b03 N a7 i7
  ·cases h;exact d1f N a7 i7
  ·cases h
 ·cases h
def b6b:Nat->Hint:=fun i=>
 match i with
 |0=>⟨[],[0,1,3],[0,1,2,101500],[0,1],[0,1,2,101500],[]⟩
 |_=>B8
abbrev a9d(a7:d2):Env:=a2Q b6b (d2v N a7) (e6F N a7) (fun _=>false) (fun _=>false)
abbrev b2A(a7:d2):=P5 (a9d N a7) Tryz.f77 (PF.tf (d59 N a7)) d2y
abbrev b05:List (Nat×Sl):=[(0,.box 0 0),(1,V1),(3,.fnc 258 [1,2])]
abbrev b04:List (Nat×Sb):=[(0,.cells [V2,V0,V0]),(1,.cells [V0,V1,V0,.nilS,.nilS,V0,.row 101500]),(2,.cells [.box 0 0]),(101500,.row 201 (.rc .part) true)]
def b58(a:d9)(b:List τ0)(c e g:Int)(l:d9)(m o:Int)(p:List GPart):St:=⟨23,[(0,.box 0 0),(1,.v .str a),(3,.fnc 258 [1,2])],[(0,.cells [.v (.sl τ1) b,.v τ2 c,.v τ2 e]),(1,.cells [.v τ2 g,.v .str l,.v τ2 m,.nilS,.nilS,.v τ2 o,.row 101500]),(2,.cells [.box 0 0]),(101500,.row 201 (.rc .part) true p)]⟩
def a8N(a:d9)(b:List τ0)(c e g:Int)(l:d9)(m o:Int)(p:List GPart):St:=⟨23,[(0,.box 0 0),(1,.v .str a)],[(0,.cells [.v (.sl τ1) b,.v τ2 c,.v τ2 e]),(1,.cells [.v τ2 g,.v .str l,.v τ2 m,.nilS,.nilS,.v τ2 o,.row 101500]),(2,.cells [.box 0 0]),(101500,.row 201 (.rc .part) true p)]⟩
def d56(a7:d2)(a:d9)(b:List τ0)(c e g:Int)(l:d9)(m o:Int)(p:List GPart)(k:Ex->St->Option (Except Int (List τ0×Int×Int×Int×d9×Int×Int×List GPart))):Option (Except Int (List τ0×Int×Int×Int×d9×Int×Int×List GPart)):=b57 N a7 (fun q r t u v w B C=>k (.exit 0) (a8N a q r t u v w B C)) N b c e g l m o p
abbrev c6B(a7:d2):FV b05->HV b04->(Ex->St->Option (Except Int (List τ0×Int×Int×Int×d9×Int×Int×List GPart)))->Option (Except Int (List τ0×Int×Int×Int×d9×Int×Int×List GPart)):=fun x y k=>d56 N a7 x.2.1 y.1.1 y.1.2.1 y.1.2.2.1 y.2.1.1 y.2.1.2.1 y.2.1.2.2.1 y.2.1.2.2.2.2.2.1 y.2.2.2.1 k
def a71(a7:d2):Nat->Code->St->(Ex->St->Option (Except Int (List τ0×Int×Int×Int×d9×Int×Int×List GPart)))->Option (Except Int (List τ0×Int×Int×Int×d9×Int×Int×List GPart)):=fun i c=>
 match i with
 |0=>(LPc 23 b05 b04 (c6B N a7) (fun st k=>iter (b6b 0) (q7 (a9d N a7) N c 0) N st k))
 |i=>fun st k=>iter (b6b i) (q7 (a9d N a7) N c i) N st k
theorem c4o(a7:d2)(p:d9)(KX:Nat->St->Option (Except Int (List τ0×Int×Int×Int×d9×Int×Int×List GPart)))(I:St->Option (Except Int (List τ0×Int×Int×Int×d9×Int×Int×List GPart)))(a:List τ0)(b c e:Int)(g:d9)(l m:Int)(o:List GPart):
  s4 (a71 N a7) (a9d N a7) b8w 0 (b58 p a b c e g l m o) (I2 (b6b 0) I KX (b2A N a7))=a3L N a7 (fun q r t u v w B C=>KX 0 (a8N p q r t u v w B C)) (fun a b c e g l m o=>I (b58 p a b c e g l m o)) a b c e g l m o:=by kernel_rfl
theorem d2t(a7:d2):∀x y k,(∀st,k .ret st=(b2A N a7) st)->iter (b6b 0) (q7 (a9d N a7) N b8w 0) N ⟨23,unF b05 x,unH b04 y⟩ k=c6B N a7 x y k:=fun x y k hk=>
 s5 (S:=τ6×(Int)×(Int)×(Int)×(d9)×(Int)×(Int)×(List GPart)×Unit) (b6b 0) _ (s4 (a71 N a7) (a9d N a7) b8w 0) (b2A N a7) (x9 _ _ N _ b8w 0 (show LoopsOk (a71 N a7) (a9d N a7) N (b2A N a7) []from trivial)) (fun s=>b58 x.2.1 s.1 s.2.1 s.2.2.1 s.2.2.2.1 s.2.2.2.2.1 s.2.2.2.2.2.1 s.2.2.2.2.2.2.1 s.2.2.2.2.2.2.2.1) k hk
  (fun self s=>let z:=s.2.2.2.2;a3L N a7 (fun a b c e g l m o=>k (.exit 0) (a8N x.2.1 a b c e g l m o)) (fun p q r t u v w B=>self (p,q,r,t,u,v,w,B,())) s.1 s.2.1 s.2.2.1 s.2.2.2.1 z.1 z.2.1 z.2.2.1 z.2.2.2.1) (fun n s=>let z:=s.2.2.2.2;b57 N a7 (fun a b c e g l m o=>k (.exit 0) (a8N x.2.1 a b c e g l m o)) n s.1 s.2.1 s.2.2.1 s.2.2.2.1 z.1 z.2.1 z.2.2.1 z.2.2.2.1) (fun _=>rfl) (fun _ _=>rfl)
  (fun I s=>let z:=s.2.2.2.2;c4o N a7 x.2.1 (fun j=>k (.exit j)) I s.1 s.2.1 s.2.2.1 s.2.2.2.1 z.1 z.2.1 z.2.2.1 z.2.2.2.1) N (y.1.1,y.1.2.1,y.1.2.2.1,y.2.1.1,y.2.1.2.1,y.2.1.2.2.1,y.2.1.2.2.2.2.2.1,y.2.2.2.1,())
theorem d87(a7:d2):a1g (a71 N a7) (a9d N a7) N (b2A N a7) 0 b8w:=fun st k hk=>J8 23 b05 b04 _ _ (b2A N a7) (d2t N a7) _ st k hk (rfl)
theorem d58(a7:d2)(x:SV [.box 0 0,V1,V3,.fnc 258 [1,2]])(y:BV [.cells [V2,V0,V0],.cells [V0,V1,V0,.nilS,.nilS,V0,.nilS],.cells [.box 0 0]]):a0f (a9d N a7) Tryz.f77 (PF.tf (d59 N a7)) d2y (a71 N a7) x y=K9 N a7 x.2.1 x.2.2.1 y.1.1 y.1.2.1 y.1.2.2.1 y.2.1.1 y.2.1.2.1 y.2.1.2.2.1 y.2.1.2.2.2.2.2.1:=by kernel_rfl
theorem d2z(a7:d2)(i7:SoundP Tryz.prog GW B0G c2M 138 (e1y fun x y=>a7 y.1.1 y.1.2.1 y.1.2.2.1)):SoundP Tryz.prog GW B0G c2M 77 (d59 N a7):=
 b49 (a9d N a7) (L0 b6b (d2v N a7) (e6F N a7) _ _ (d2w N a7 i7) (e7Y N a7 i7)) Tryz.func77 rfl Tryz.call77 (d59 N a7) e7Z (fun _ _=>rfl) N (a71 N a7) (show LoopsOk (a71 N a7) (a9d N a7) N (b2A N a7) [(0,b8w)]from⟨d87 N a7,trivial⟩) (d58 N a7)
def F4(_N:Nat)(a7:d2)(b:Int)(c:d9)(e g:Int)(l:List d9)(m:List τ0)(o p:Int):Option (Except Int (Int×d9×Int×Int×List d9×List τ0×Int×Int×List GPart)):=o9 (o9 (o9 (m8 (a7 m o p) fun a=>k9 1 (br (Zf [Zo].length (.rc .part)) (br (decide (0<=(0: Int)/\0<([Zo].length:Int))) (k9 1 (j8 (m7 [Zo] 0) fun _=>some (.ok (b,c,e,g,l,a.2.1,a.2.2.1,a.2.2.2,I3 [Zo] 0 a.1)))) none) none)) (k9 1 (k9 1 (m8 (a7 m o p) fun a=>br (Zf [Zo].length (.rc .part)) (br (decide (0<=(0: Int)/\0<([Zo].length:Int))) (k9 1 (j8 (m7 [Zo] 0) fun _=>some (.ok (b,c,e,g,l,a.2.1,a.2.2.1,a.2.2.2,I3 [Zo] 0 a.1)))) none) none)))) (k9 1 (o9 (k9 1 (m8 (a7 m o p) fun a=>br (Zf [Zo].length (.rc .part)) (br (decide (0<=(0: Int)/\0<([Zo].length:Int))) (k9 1 (j8 (m7 [Zo] 0) fun _=>some (.ok (b,c,e,g,l,a.2.1,a.2.2.1,a.2.2.2,I3 [Zo] 0 a.1)))) none) none)) (m8 (a7 m o p) fun a=>br (Zf [Zo].length (.rc .part)) (br (decide (0<=(0: Int)/\0<([Zo].length:Int))) (k9 1 (j8 (m7 [Zo] 0) fun _=>some (.ok (b,c,e,g,l,a.2.1,a.2.2.1,a.2.2.2,I3 [Zo] 0 a.1)))) none) none)))) (o9 (o9 (o9 (m8 (a7 m o p) fun a=>k9 1 (br (Zf [Zo].length (.rc .part)) (br (decide (0<=(0: Int)/\0<([Zo].length:Int))) (k9 1 (j8 (m7 [Zo] 0) fun _=>some (.ok (b,c,e,g,l,a.2.1,a.2.2.1,a.2.2.2,I3 [Zo] 0 a.1)))) none) none)) (k9 1 (k9 1 (m8 (a7 m o p) fun a=>br (Zf [Zo].length (.rc .part)) (br (decide (0<=(0: Int)/\0<([Zo].length:Int))) (k9 1 (j8 (m7 [Zo] 0) fun _=>some (.ok (b,c,e,g,l,a.2.1,a.2.2.1,a.2.2.2,I3 [Zo] 0 a.1)))) none) none)))) (o9 (m8 (a7 m o p) fun a=>o9 (k9 1 (br (Zf [Zo].length (.rc .part)) (br (decide (0<=(0: Int)/\0<([Zo].length:Int))) (k9 1 (j8 (m7 [Zo] 0) fun _=>some (.ok (b,c,e,g,l,a.2.1,a.2.2.1,a.2.2.2,I3 [Zo] 0 a.1)))) none) none)) (br (Zf [Zo].length (.rc .part)) (br (decide (0<=(0: Int)/\0<([Zo].length:Int))) (k9 1 (j8 (m7 [Zo] 0) fun _=>some (.ok (b,c,e,g,l,a.2.1,a.2.2.1,a.2.2.2,I3 [Zo] 0 a.1)))) none) none)) (o9 (k9 1 (m8 (a7 m o p) fun a=>br (Zf [Zo].length (.rc .part)) (br (decide (0<=(0: Int)/\0<([Zo].length:Int))) (k9 1 (j8 (m7 [Zo] 0) fun _=>some (.ok (b,c,e,g,l,a.2.1,a.2.2.1,a.2.2.2,I3 [Zo] 0 a.1)))) none) none)) (m8 (a7 m o p) fun a=>br (Zf [Zo].length (.rc .part)) (br (decide (0<=(0: Int)/\0<([Zo].length:Int))) (k9 1 (j8 (m7 [Zo] 0) fun _=>some (.ok (b,c,e,g,l,a.2.1,a.2.2.1,a.2.2.2,I3 [Zo] 0 a.1)))) none) none)))) (k9 1 (o9 (k9 1 (m8 (a7 m o p) fun a=>br (Zf [Zo].length (.rc .part)) (br (decide (0<=(0: Int)/\0<([Zo].length:Int))) (k9 1 (j8 (m7 [Zo] 0) fun _=>some (.ok (b,c,e,g,l,a.2.1,a.2.2.1,a.2.2.2,I3 [Zo] 0 a.1)))) none) none)) (m8 (a7 m o p) fun a=>br (Zf [Zo].length (.rc .part)) (br (decide (0<=(0: Int)/\0<([Zo].length:Int))) (k9 1 (j8 (m7 [Zo] 0) fun _=>some (.ok (b,c,e,g,l,a.2.1,a.2.2.1,a.2.2.2,I3 [Zo] 0 a.1)))) none) none))))
abbrev e0R(f:SV [.box 0 0,.box 1 0]->BV [.cells [V0,V1,V0,.row 2,.nilS,V0,.nilS],.cells [.box 3 0],.row 9 .str false,.cells [V2,V0,V0]]->Option (Except Int (Int×d9×Int×Int×List d9×List τ0×Int×Int×List GPart))):PF:={ps:=[.box 0 0,.box 1 0],bs:=[.cells [V0,V1,V0,.row 2,.nilS,V0,.nilS],.cells [.box 3 0],.row 9 .str false,.cells [V2,V0,V0]],rs:=[],cs:=[.cells [V0,V1,V0,.row 2,.nilS,V0,.row 4],.cells [.box 3 0],.row 9 .str false,.cells [V2,V0,V0],.row 201 (.rc .part) true],R:=Int×d9×Int×Int×List d9×List τ0×Int×Int×List GPart,out:=fun z=>((),(z.1,z.2.1,z.2.2.1,(),(),z.2.2.2.1,(),()),((),()),z.2.2.2.2.1,(z.2.2.2.2.2.1,z.2.2.2.2.2.2.1,z.2.2.2.2.2.2.2.1,()),z.2.2.2.2.2.2.2.2,()),f:=f}
abbrev d8K(a7:d2):PF:=e0R fun _ y=>let z:=y.2.2.2.1;F4 N a7 y.1.1 y.1.2.1 y.1.2.2.1 y.1.2.2.2.2.2.1 y.2.2.1 z.1 z.2.1 z.2.2.1
def e7z(_N:Nat)(a7:d2):FuncId->Option Tmp->Option AF:=fun f _=>t7 [] f
theorem e7A(a7:d2)(i7:SoundP Tryz.prog GW B0G c2M 138 (e1y fun x y=>a7 y.1.1 y.1.2.1 y.1.2.2.1)):∀f q F,e7z N a7 f q=some F->Sound Tryz.prog GW B0G f F:=fun _ _ _ h=>D7 h lkn
def e6w(_N:Nat)(a7:d2):FuncId->Option Tmp->Option PF:=fun f _=>
 match f with
  |138=>some (e1y fun _ y=>a7 y.1.1 y.1.2.1 y.1.2.2.1)
  |_=>none
theorem e7B(a7:d2)(i7:SoundP Tryz.prog GW B0G c2M 138 (e1y fun x y=>a7 y.1.1 y.1.2.1 y.1.2.2.1)):∀f q F,e6w N a7 f q=some F->SoundP Tryz.prog GW B0G c2M f F:=by
 intro f q F h;unfold e6w at h;split at h
 ·cases h;exact i7
 ·cases h
def f04:Nat->Hint:=fun i=>
 match i with
 |100000=>⟨[],[1,2],[],[],[],[]⟩
 |_=>B8
abbrev f1M(a7:d2):Env:=a2Q f04 (e7z N a7) (e6w N a7) (fun i=>match i with|6=>true|7=>true|8=>true|_=>false) (fun _=>false)
theorem d1g(a7:d2)(i7:SoundP Tryz.prog GW B0G c2M 138 (e1y fun x y=>a7 y.1.1 y.1.2.1 y.1.2.2.1)):SoundP Tryz.prog GW B0G c2M 258 (d8K N a7):=
 a2x (f1M N a7) (L0 f04 (e7z N a7) (e6w N a7) _ _ (e7A N a7 i7) (e7B N a7 i7)) Tryz.func258 rfl Tryz.call258 (d8K N a7) (fun _ y=>let z:=y.2.2.2;(y.1.1,y.1.2.1,y.1.2.2.1,y.1.2.2.2.2.2.1,y.2.2.1,z.1.1,z.1.2.1,z.1.2.2.1,z.2.1)) (fun _ _=>rfl) N (fun _ _=>by kernel_rfl) rfl
def P1(a7:d2)(e:Int)(g:d9)(l m:Int)(o:List τ0)(p q:Int):Option (Except Int (Int×d9×Int×Int×List τ0×Int×Int×List d9×List GPart)):=o9 (m8 (s6 N o p q) fun b=>br (Zf [b.1].length .str) (m8 (k6 N [58] b.2.1 b.2.2.1 b.2.2.2) fun c=>m8 (F4 N a7 e g l m [b.1] c.1 c.2.1 c.2.2) fun a=>some (.ok (a.1,a.2.1,a.2.2.1,a.2.2.2.1,a.2.2.2.2.2.1,a.2.2.2.2.2.2.1,a.2.2.2.2.2.2.2.1,a.2.2.2.2.1,a.2.2.2.2.2.2.2.2))) none) (o9 (m8 (s6 N o p q) fun b=>br (Zf [b.1].length .str) (m8 (k6 N [58] b.2.1 b.2.2.1 b.2.2.2) fun c=>m8 (F4 N a7 e g l m [b.1] c.1 c.2.1 c.2.2) fun a=>some (.ok (a.1,a.2.1,a.2.2.1,a.2.2.2.1,a.2.2.2.2.2.1,a.2.2.2.2.2.2.1,a.2.2.2.2.2.2.2.1,a.2.2.2.2.1,a.2.2.2.2.2.2.2.2))) none) (m8 (s6 N o p q) fun b=>k9 1 (br (Zf [b.1].length .str) (m8 (k6 N [58] b.2.1 b.2.2.1 b.2.2.2) fun c=>m8 (F4 N a7 e g l m [b.1] c.1 c.2.1 c.2.2) fun a=>some (.ok (a.1,a.2.1,a.2.2.1,a.2.2.2.1,a.2.2.2.2.2.1,a.2.2.2.2.2.2.1,a.2.2.2.2.2.2.2.1,a.2.2.2.2.1,a.2.2.2.2.2.2.2.2))) none)))
abbrev e1n(f:SV [.box 0 0,.box 1 0,.box 2 0]->BV [.cells [V0,V1,V0,.nilS,.nilS,V0,.nilS],.cells [.box 3 0],.cells [.fnc 258 [0,1]],.cells [V2,V0,V0]]->Option (Except Int (Int×d9×Int×Int×List τ0×Int×Int×List d9×List GPart))):PF:={ps:=[.box 0 0,.box 1 0,.box 2 0],bs:=[.cells [V0,V1,V0,.nilS,.nilS,V0,.nilS],.cells [.box 3 0],.cells [.fnc 258 [0,1]],.cells [V2,V0,V0]],rs:=[],cs:=[.cells [V0,V1,V0,.row 4,.nilS,V0,.row 5],.cells [.box 3 0],.cells [.fnc 258 [0,1]],.cells [V2,V0,V0],.row 9 .str false,.row 201 (.rc .part) true],R:=Int×d9×Int×Int×List τ0×Int×Int×List d9×List GPart,out:=fun z=>((),(z.1,z.2.1,z.2.2.1,(),(),z.2.2.2.1,(),()),((),()),((),()),(z.2.2.2.2.1,z.2.2.2.2.2.1,z.2.2.2.2.2.2.1,()),z.2.2.2.2.2.2.2.1,z.2.2.2.2.2.2.2.2,()),f:=f}
abbrev d55(a7:d2):PF:=e1n fun _ y=>let z:=y.2.2.2.1;P1 N a7 y.1.1 y.1.2.1 y.1.2.2.1 y.1.2.2.2.2.2.1 z.1 z.2.1 z.2.2.1
def e7U(_N:Nat)(a7:d2):FuncId->Option Tmp->Option AF:=fun f _=>t7 [] f
theorem e7V(a7:d2)(i7:SoundP Tryz.prog GW B0G c2M 138 (e1y fun x y=>a7 y.1.1 y.1.2.1 y.1.2.2.1)):∀f q F,e7U N a7 f q=some F->Sound Tryz.prog GW B0G f F:=fun _ _ _ h=>D7 h lkn
def e6E(a7:d2):FuncId->Option Tmp->Option PF:=fun f _=>
 match f with
  |76=>some (d9f N)
  |82=>some (d3i N)
  |258=>some (d8K N a7)
  |_=>none
theorem e7W(a7:d2)(i7:SoundP Tryz.prog GW B0G c2M 138 (e1y fun x y=>a7 y.1.1 y.1.2.1 y.1.2.2.1)):∀f q F,e6E N a7 f q=some F->SoundP Tryz.prog GW B0G c2M f F:=by
 intro f q F h;unfold e6E at h;split at h
 ·cases h;exact d27 N
 ·cases h;exact d3l N
 ·cases h;exact d1g N a7 i7
 ·cases h
def e3D:Nat->Hint:=fun i=>
 match i with
 |100000=>⟨[],[1,2],[],[],[],[]⟩
 |_=>B8
abbrev e36(a7:d2):Env:=a2Q e3D (e7U N a7) (e6E N a7) (fun _=>false) (fun _=>false)
theorem c1S(a7:d2)(i7:SoundP Tryz.prog GW B0G c2M 138 (e1y fun x y=>a7 y.1.1 y.1.2.1 y.1.2.2.1)):SoundP Tryz.prog GW B0G c2M 259 (d55 N a7):=
 a2x (e36 N a7) (L0 e3D (e7U N a7) (e6E N a7) _ _ (e7V N a7 i7) (e7W N a7 i7)) Tryz.func259 rfl Tryz.call259 (d55 N a7) (fun _ y=>let z:=y.2.2.2;(y.1.1,y.1.2.1,y.1.2.2.1,y.1.2.2.2.2.2.1,z.1.1,z.1.2.1,z.1.2.2.1,z.2.1,z.2.2.1)) (fun _ _=>rfl) N (fun _ _=>by kernel_rfl) rfl
end
end Go.Proofs.YtolpmfhiegpohaaGreatDoor
