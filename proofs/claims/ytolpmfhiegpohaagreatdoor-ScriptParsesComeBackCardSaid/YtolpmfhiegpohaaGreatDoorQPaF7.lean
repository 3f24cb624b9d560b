/- % -/
import Derived.Test.YtolpmfhiegpohaaGreatDoorQPaF6
namespace Go.Proofs.YtolpmfhiegpohaaGreatDoor
open Go Go.RowKit
set_option maxRecDepth 100000
set_option linter.unusedVariables false
noncomputable section
variable(N:Nat)
def N8(a7:K8)(ab:List τ0)(ac ad:Int):Option (Except Int (GPart×List τ0×Int×Int)):=j8 (P5 N ab ac ad) fun a=>br ((a.2.1.length:Int)==0) (l8 (o9 N a.2.1 a.2.2.1 a.2.2.2) fun b=>j8 (m6 b.1 0) fun J=>br (J.1==2) (l8 (q9 N b.1 b.2.1 b.2.2) fun V=>some (.ok (GPart.mk 1 V.1 0 [] a.1 [],V.2))) (br (J.1==3) (j8 (slc b.1 1 (b.1.length:Int)) fun ae=>some (.ok (GPart.mk 2 [] J.2.2.1 [] a.1 [],ae,b.2))) (j8 (l4 N 4 [40] b.1 b.2.1 b.2.2) fun u=>br (u.1) (l8 (y9 N a7 0 [] 0 a.1 u.2.1 u.2.2.1 u.2.2.2) fun g=>l8 (j7 N [41] g.2.2.2.2.1 g.2.2.2.2.2.1 g.2.2.2.2.2.2.1) fun af=>some (.ok (GPart.mk g.1 g.2.1 g.2.2.1 [] g.2.2.2.1 g.2.2.2.2.2.2.2,af))) (j8 (l4 N 4 [91] u.2.1 u.2.2.1 u.2.2.2) fun v=>br (v.1) (l8 (H8 N a7 [93] true v.2.1 v.2.2.1 v.2.2.2 4 [] 0 a.1) fun l=>some (.ok (GPart.mk l.2.2.2.1 l.2.2.2.2.1 l.2.2.2.2.2.1 [] l.2.2.2.2.2.2.1 l.2.2.2.2.2.2.2,l.1,l.2.1,l.2.2.1))) (j8 (l4 N 1 [102,105,108,101,115] v.2.1 v.2.2.1 v.2.2.2) fun w=>br (w.1) (l8 (j7 N [40] w.2.1 w.2.2.1 w.2.2.2) fun K=>l8 (y9 N a7 5 [] 0 a.1 K.1 K.2.1 K.2.2) fun m=>l8 (j7 N [44] m.2.2.2.2.1 m.2.2.2.2.2.1 m.2.2.2.2.2.2.1) fun L=>l8 (D1 N a7 m.1 m.2.1 m.2.2.1 m.2.2.2.1 m.2.2.2.2.2.2.2 L.1 L.2.1 L.2.2) fun o=>l8 (j7 N [41] o.2.2.2.2.2.1 o.2.2.2.2.2.2.1 o.2.2.2.2.2.2.2) fun ag=>some (.ok (GPart.mk o.1 o.2.1 o.2.2.1 [] o.2.2.2.1 o.2.2.2.2.1,ag))) (j8 (l4 N 1 [99,104,111,111,115,101] w.2.1 w.2.2.1 w.2.2.2) fun B=>br (B.1) (l8 (j7 N [123] B.2.1 B.2.2.1 B.2.2.2) fun O=>l8 (K5 N a7 [125] false O.1 O.2.1 O.2.2 6 [] 0 a.1) fun c=>some (.ok (GPart.mk c.2.2.2.1 c.2.2.2.2.1 c.2.2.2.2.2.1 c.2.2.2.2.2.2.1 c.2.2.2.2.2.2.2.1 c.2.2.2.2.2.2.2.2,c.1,c.2.1,c.2.2.1))) (l8 (m8 N B.2.1 B.2.2.1 B.2.2.2) fun W=>some (.ok (GPart.mk 3 W.1 0 [] a.1 [],W.2))))))))) (j8 (m6 a.2.1 0) fun Q=>br (Q.1==2) (l8 (q9 N a.2.1 a.2.2.1 a.2.2.2) fun Y=>some (.ok (GPart.mk 1 Y.1 0 [] a.1 [],Y.2))) (br (Q.1==3) (j8 (slc a.2.1 1 (a.2.1.length:Int)) fun ah=>some (.ok (GPart.mk 2 [] Q.2.2.1 [] a.1 [],ah,a.2.2))) (j8 (l4 N 4 [40] a.2.1 a.2.2.1 a.2.2.2) fun C=>br (C.1) (l8 (y9 N a7 0 [] 0 a.1 C.2.1 C.2.2.1 C.2.2.2) fun p=>l8 (j7 N [41] p.2.2.2.2.1 p.2.2.2.2.2.1 p.2.2.2.2.2.2.1) fun ai=>some (.ok (GPart.mk p.1 p.2.1 p.2.2.1 [] p.2.2.2.1 p.2.2.2.2.2.2.2,ai))) (j8 (l4 N 4 [91] C.2.1 C.2.2.1 C.2.2.2) fun D=>br (D.1) (l8 (H8 N a7 [93] true D.2.1 D.2.2.1 D.2.2.2 4 [] 0 a.1) fun q=>some (.ok (GPart.mk q.2.2.2.1 q.2.2.2.2.1 q.2.2.2.2.2.1 [] q.2.2.2.2.2.2.1 q.2.2.2.2.2.2.2,q.1,q.2.1,q.2.2.1))) (j8 (l4 N 1 [102,105,108,101,115] D.2.1 D.2.2.1 D.2.2.2) fun E=>br (E.1) (l8 (j7 N [40] E.2.1 E.2.2.1 E.2.2.2) fun R=>l8 (y9 N a7 5 [] 0 a.1 R.1 R.2.1 R.2.2) fun r=>l8 (j7 N [44] r.2.2.2.2.1 r.2.2.2.2.2.1 r.2.2.2.2.2.2.1) fun T=>l8 (D1 N a7 r.1 r.2.1 r.2.2.1 r.2.2.2.1 r.2.2.2.2.2.2.2 T.1 T.2.1 T.2.2) fun t=>l8 (j7 N [41] t.2.2.2.2.2.1 t.2.2.2.2.2.2.1 t.2.2.2.2.2.2.2) fun aj=>some (.ok (GPart.mk t.1 t.2.1 t.2.2.1 [] t.2.2.2.1 t.2.2.2.2.1,aj))) (j8 (l4 N 1 [99,104,111,111,115,101] E.2.1 E.2.2.1 E.2.2.2) fun H=>br (H.1) (l8 (j7 N [123] H.2.1 H.2.2.1 H.2.2.2) fun U=>l8 (K5 N a7 [125] false U.1 U.2.1 U.2.2 6 [] 0 a.1) fun e=>some (.ok (GPart.mk e.2.2.2.1 e.2.2.2.2.1 e.2.2.2.2.2.1 e.2.2.2.2.2.2.1 e.2.2.2.2.2.2.2.1 e.2.2.2.2.2.2.2.2,e.1,e.2.1,e.2.2.1))) (l8 (m8 N H.2.1 H.2.2.1 H.2.2.2) fun aa=>some (.ok (GPart.mk 3 aa.1 0 [] a.1 [],aa.2)))))))))
abbrev d8T(f:SV [.box 0 0]->BV [.cells [V2,V0,V0]]->Option (Except Int (GPart×List τ0×Int×Int))):PF:={ps:=[.box 0 0],bs:=[.cells [V2,V0,V0]],rs:=[.v (.rc .part)],cs:=[.cells [V2,V0,V0]],R:=GPart×List τ0×Int×Int,out:=fun z=>((z.1,()),(z.2.1,z.2.2.1,z.2.2.2,()),()),f:=f}
abbrev d6v(a7:K8):PF:=d8T fun _ y=>N8 N a7 y.1.1 y.1.2.1 y.1.2.2.1
def d0h(a7:K8):FuncId->Option Tmp->Option AF:=fun f _=>lkF [(72,d3t N),(74,a8H N)] f
theorem d0i(a7:K8)(g8:SoundP Tryz.prog GW x9 B2 138 (K2 fun x y=>a7 y.1.1 y.1.2.1 y.1.2.2.1)):∀f q F,d0h N a7 f q=some F->Sound Tryz.prog GW x9 f F:=fun _ _ _ h=>B9 h (L3 (b3F N) (L3 (V9 N) T8))
def c3E(a7:K8):FuncId->Option Tmp->Option PF:=fun f q=>
 match f with
  |75=>some (b81 N)
  |76=>some (a8G N)
  |77=>match q with|some 72=>some (c9k N a7)|some 97=>some (c9r N a7)|_=>none
  |82=>some (c5c N)
  |136=>some (c5b N)
  |258=>match q with|some 62=>some (c9b N a7)|some 81=>some (c9b N a7)|some 85=>some (d2I N a7)|_=>none
  |_=>none
theorem d0j(a7:K8)(g8:SoundP Tryz.prog GW x9 B2 138 (K2 fun x y=>a7 y.1.1 y.1.2.1 y.1.2.2.1)):∀f q F,c3E N a7 f q=some F->SoundP Tryz.prog GW x9 B2 f F:=by
 intro f q F h;unfold c3E at h;split at h
 ·cases h;exact a3r N
 ·cases h;exact V8 N
 ·split at h
  ·cases h;exact c9n N a7 g8
  ·cases h;exact c9u N a7 g8
  ·cases h
 ·cases h;exact a8I N
 ·cases h;exact a5w N
 ·split at h
  ·cases h;exact b24 N a7 g8
  ·cases h;exact b24 N a7 g8
  ·cases h;exact b8Q N a7 g8
  ·cases h
 ·cases h
def d8S:Nat->Hint:=fun i=>
 match i with
 |100010=>⟨[1004],[],[],[],[],[]⟩
 |100011=>⟨[0,1001],[],[],[],[],[]⟩
 |_=>y5
abbrev e0M(a7:K8):Env:=a08 d8S (d0h N a7) (c3E N a7) (fun _=>false) (fun i=>match i with|258=>true|259=>true|_=>false)
theorem d0k(a7:K8)(g8:SoundP Tryz.prog GW x9 B2 138 (K2 fun x y=>a7 y.1.1 y.1.2.1 y.1.2.2.1)):SoundP Tryz.prog GW x9 B2 223 (d6v N a7):=
 a0V (e0M N a7) (H9 d8S (d0h N a7) (c3E N a7) _ _ (d0i N a7 g8) (d0j N a7 g8)) Tryz.func223 rfl Tryz.call223 (d6v N a7) (fun x y=>(x.1,y.1.1,y.1.2.1,y.1.2.2.1)) (fun _ _=>rfl) N (fun _ _=>by kernel_rfl) rfl
def b3C(a7:K8)(o:Int)(k0 self:ρ4)(p:List τ0)(q r c:Int)(e:d7)(g:Int)(l:List d7)(t:Unit)(m:List GPart):Option (Except Int (GPart×List τ0×Int×Int)):=j8 (l4 N 4 [43] p q r) fun b=>br (b.1) (l8 (N8 N a7 b.2.1 b.2.2.1 b.2.2.2) fun a=>self a.2.1 a.2.2.1 a.2.2.2 7 [] 0 [] () [GPart.mk c e g l o m,GPart.mk a.1.kind a.1.text a.1.number a.1.keys a.1.at_ a.1.kids]) (k0 b.2.1 b.2.2.1 b.2.2.2 c e g l t m)
def b5B(N:Nat)(a7:K8)(a:Int)(k0:ρ4):Nat->τ6->Int->Int->Int->d7->Int->τ20->Unit->(List GPart)->Option (Except Int (GPart×List τ0×Int×Int))|0,_,_,_,_,_,_,_,_,_=>none|n+1,b,c,e,g,l,m,o,p,q=>b3C N a7 a k0 (b5B N a7 a k0 n) b c e g l m o p q
def J9(a7:K8)(b:List τ0)(c e:Int):Option (Except Int (GPart×List τ0×Int×Int)):=l8 (N8 N a7 b c e) fun a=>b5B N a7 a.1.at_ (fun g l m o p q r _ t=>some (.ok (GPart.mk o p q r a.1.at_ t,g,l,m))) N a.2.1 a.2.2.1 a.2.2.2 a.1.kind a.1.text a.1.number a.1.keys () a.1.kids
abbrev d8V(f:SV [.box 0 0]->BV [.cells [V2,V0,V0]]->Option (Except Int (GPart×List τ0×Int×Int))):PF:={ps:=[.box 0 0],bs:=[.cells [V2,V0,V0]],rs:=[.v (.rc .part)],cs:=[.cells [V2,V0,V0]],R:=GPart×List τ0×Int×Int,out:=fun z=>((z.1,()),(z.2.1,z.2.2.1,z.2.2.2,()),()),f:=f}
abbrev d0v(a7:K8):PF:=d8V fun _ y=>J9 N a7 y.1.1 y.1.2.1 y.1.2.2.1
abbrev d0x:SV [.v (.rc .part)]->BV [.cells [V2,V0,V0]]->(GPart×List τ0×Int×Int):=fun x y=>(x.1,y.1.1,y.1.2.1,y.1.2.2.1)
abbrev d4x:SV [.v (.rc .part)]->BV [.cells [V2,V0,V0]]->Except Int (GPart×List τ0×Int×Int):=fun x y=> .ok (d0x x y)
def d0t(a7:K8):FuncId->Option Tmp->Option AF:=fun f _=>lkF [(74,a8H N)] f
theorem d0u(a7:K8)(g8:SoundP Tryz.prog GW x9 B2 138 (K2 fun x y=>a7 y.1.1 y.1.2.1 y.1.2.2.1)):∀f q F,d0t N a7 f q=some F->Sound Tryz.prog GW x9 f F:=fun _ _ _ h=>B9 h (L3 (V9 N) T8)
def c3I(a7:K8):FuncId->Option Tmp->Option PF:=fun f _=>
 match f with
  |223=>some (d6v N a7)
  |_=>none
theorem d0w(a7:K8)(g8:SoundP Tryz.prog GW x9 B2 138 (K2 fun x y=>a7 y.1.1 y.1.2.1 y.1.2.2.1)):∀f q F,c3I N a7 f q=some F->SoundP Tryz.prog GW x9 B2 f F:=by
 intro f q F h;unfold c3I at h;split at h
 ·cases h;exact d0k N a7 g8
 ·cases h
def c1q:Nat->Hint:=fun i=>
 match i with
 |0=>⟨[16],[0,2,3],[0,1002,1003],[2,3],[0,1002,1003],[]⟩
 |_=>y5
abbrev b3B(a7:K8):Env:=a08 c1q (d0t N a7) (c3I N a7) (fun _=>false) (fun _=>false)
abbrev c1p(a7:K8):=L9 (b3B N a7) Tryz.f180 (PF.tf (d0v N a7)) d4x
noncomputable abbrev b5C:Code:=cAt (B3 Tryz.f180) [true,true,false,false,false]
abbrev a8M:List (Nat×Sl):=[(0,.box 0 0),(2,.box 1002 0),(3,.box 1003 0)]
abbrev a8L:List (Nat×Sb):=[(0,.cells [V2,V0,V0]),(1002,.cells [V0,V1,V0,.nilS,.nilS,V0,.nilS]),(1003,.cells [V0,V1,V0,.v N3,.v .nl,V0,.v (.sl (.rc .part))])]
def b3D(a:Int)(b:d7)(c e g:Int)(l:List τ0)(m o p:Int)(q:d7)(r:Int)(t:List d7)(u:Unit)(w:List GPart):St:=⟨19,[(0,.box 0 0),(2,.box 1002 0),(3,.box 1003 0)],[(0,.cells [.v (.sl τ1) l,.v τ2 m,.v τ2 o]),(1002,.cells [.v τ2 a,.v .str b,.v τ2 c,.nilS,.nilS,.v τ2 e,.nilS]),(1003,.cells [.v τ2 p,.v .str q,.v τ2 r,.v N3 t,.v .nl u,.v τ2 g,.v (.sl (.rc .part)) w])]⟩
def a6k(a:Int)(b:d7)(c e g:Int)(l:List τ0)(m o p:Int)(q:d7)(r:Int)(t:List d7)(u:Unit)(w:List GPart):St:=⟨19,[(2,.box 1002 0),(3,.box 1003 0)],[(0,.cells [.v (.sl τ1) l,.v τ2 m,.v τ2 o]),(1002,.cells [.v τ2 a,.v .str b,.v τ2 c,.nilS,.nilS,.v τ2 e,.nilS]),(1003,.cells [.v τ2 p,.v .str q,.v τ2 r,.v N3 t,.v .nl u,.v τ2 g,.v (.sl (.rc .part)) w])]⟩
def d3r(a7:K8)(b:Int)(c:d7)(e g a:Int)(l:List τ0)(m o p:Int)(q:d7)(r:Int)(t:List d7)(u:Unit)(v:List GPart)(k:Ex->St->Option (Except Int (GPart×List τ0×Int×Int))):Option (Except Int (GPart×List τ0×Int×Int)):=b5B N a7 a (fun w B C D E H J K L=>k (.exit 0) (a6k b c e g a w B C D E H J K L)) N l m o p q r t u v
abbrev c3H(a7:K8):FV a8M->HV a8L->(Ex->St->Option (Except Int (GPart×List τ0×Int×Int)))->Option (Except Int (GPart×List τ0×Int×Int)):=fun _ y k=>let z:=y.2.2.1.2.2;d3r N a7 y.2.1.1 y.2.1.2.1 y.2.1.2.2.1 y.2.1.2.2.2.2.2.1 z.2.2.2.1 y.1.1 y.1.2.1 y.1.2.2.1 y.2.2.1.1 y.2.2.1.2.1 z.1 z.2.1 z.2.2.1 z.2.2.2.2.1 k
def b3E(a7:K8):Nat->Code->St->(Ex->St->Option (Except Int (GPart×List τ0×Int×Int)))->Option (Except Int (GPart×List τ0×Int×Int)):=fun i c=>
 match i with
 |0=>(LPc 19 a8M a8L (c3H N a7) (fun st k=>iter (c1q 0) (o7 (b3B N a7) N c 0) N st k))
 |i=>fun st k=>iter (c1q i) (o7 (b3B N a7) N c i) N st k
theorem c1o(a7:K8)(r:Int)(t:d7)(u v a:Int)(KX:Nat->St->Option (Except Int (GPart×List τ0×Int×Int)))(I:St->Option (Except Int (GPart×List τ0×Int×Int)))(b:List τ0)(c e g:Int)(l:d7)(m:Int)(o:List d7)(p:Unit)(q:List GPart):
  p8 (b3E N a7) (b3B N a7) b5C 0 (b3D r t u v a b c e g l m o p q) (F9 (c1q 0) I KX (c1p N a7))=b3C N a7 a (fun w B C D E H J K L=>KX 0 (a6k r t u v a w B C D E H J K L)) (fun b c e g l m o p q=>I (b3D r t u v a b c e g l m o p q)) b c e g l m o p q:=by kernel_rfl
theorem d0s(a7:K8):∀x y k,(∀st,k .ret st=(c1p N a7) st)->iter (c1q 0) (o7 (b3B N a7) N b5C 0) N ⟨19,unF a8M x,unH a8L y⟩ k=c3H N a7 x y k:=fun _ y k hk=>
 p9 (S:=τ6×(Int)×(Int)×(Int)×(d7)×(Int)×τ20×(Unit)×(List GPart)×Unit) (c1q 0) _ (p8 (b3E N a7) (b3B N a7) b5C 0) (c1p N a7) (u9 _ _ N _ b5C 0 (show LoopsOk (b3E N a7) (b3B N a7) N (c1p N a7) []from trivial)) (fun s=>b3D y.2.1.1 y.2.1.2.1 y.2.1.2.2.1 y.2.1.2.2.2.2.2.1 y.2.2.1.2.2.2.2.2.1 s.1 s.2.1 s.2.2.1 s.2.2.2.1 s.2.2.2.2.1 s.2.2.2.2.2.1 s.2.2.2.2.2.2.1 s.2.2.2.2.2.2.2.1 s.2.2.2.2.2.2.2.2.1) k hk
  (fun self s=>let z:=s.2.2.2.2;b3C N a7 y.2.2.1.2.2.2.2.2.1 (fun a b c e g l m o p=>k (.exit 0) (a6k y.2.1.1 y.2.1.2.1 y.2.1.2.2.1 y.2.1.2.2.2.2.2.1 y.2.2.1.2.2.2.2.2.1 a b c e g l m o p)) (fun q r t u v w B C D=>self (q,r,t,u,v,w,B,C,D,())) s.1 s.2.1 s.2.2.1 s.2.2.2.1 z.1 z.2.1 z.2.2.1 z.2.2.2.1 z.2.2.2.2.1) (fun n s=>let z:=s.2.2.2.2;b5B N a7 y.2.2.1.2.2.2.2.2.1 (fun a b c e g l m o p=>k (.exit 0) (a6k y.2.1.1 y.2.1.2.1 y.2.1.2.2.1 y.2.1.2.2.2.2.2.1 y.2.2.1.2.2.2.2.2.1 a b c e g l m o p)) n s.1 s.2.1 s.2.2.1 s.2.2.2.1 z.1 z.2.1 z.2.2.1 z.2.2.2.1 z.2.2.2.2.1) (fun _=>rfl) (fun _ _=>rfl)
  (fun I s=>let z:=s.2.2.2.2;c1o N a7 y.2.1.1 y.2.1.2.1 y.2.1.2.2.1 y.2.1.2.2.2.2.2.1 y.2.2.1.2.2.2.2.2.1 (fun j=>k (.exit j)) I s.1 s.2.1 s.2.2.1 s.2.2.2.1 z.1 z.2.1 z.2.2.1 z.2.2.2.1 z.2.2.2.2.1) N (y.1.1,y.1.2.1,y.1.2.2.1,y.2.2.1.1,y.2.2.1.2.1,y.2.2.1.2.2.1,y.2.2.1.2.2.2.1,y.2.2.1.2.2.2.2.1,y.2.2.1.2.2.2.2.2.2.1,())
theorem d6y(a7:K8):Z1 (b3E N a7) (b3B N a7) N (c1p N a7) 0 b5C:=fun st k hk=>H3 19 a8M a8L _ _ (c1p N a7) (d0s N a7) _ st k hk (rfl)
theorem d3s(a7:K8)(x:SV [.box 0 0])(y:BV [.cells [V2,V0,V0]]):V4 (b3B N a7) Tryz.f180 (PF.tf (d0v N a7)) d4x (b3E N a7) x y=J9 N a7 y.1.1 y.1.2.1 y.1.2.2.1:=by kernel_rfl
theorem d0y(a7:K8)(g8:SoundP Tryz.prog GW x9 B2 138 (K2 fun x y=>a7 y.1.1 y.1.2.1 y.1.2.2.1)):SoundP Tryz.prog GW x9 B2 180 (d0v N a7):=
 b2g (b3B N a7) (H9 c1q (d0t N a7) (c3I N a7) _ _ (d0u N a7 g8) (d0w N a7 g8)) Tryz.func180 rfl Tryz.call180 (d0v N a7) d0x (fun _ _=>rfl) N (b3E N a7) (show LoopsOk (b3E N a7) (b3B N a7) N (c1p N a7) [(0,b5C)]from⟨d6y N a7,trivial⟩) (d3s N a7)
def N1(a7:K8)(e:List τ0)(g l:Int):Option (Except Int (GPart×List τ0×Int×Int)):=l8 (J9 N a7 e g l) fun a=>j8 (l4 N 4 [61,61] a.2.1 a.2.2.1 a.2.2.2) fun c=>br (!c.1) (some (.ok (GPart.mk a.1.kind a.1.text a.1.number a.1.keys a.1.at_ a.1.kids,c.2))) (l8 (J9 N a7 c.2.1 c.2.2.1 c.2.2.2) fun b=>some (.ok (GPart.mk 8 [] 0 [] a.1.at_ [GPart.mk a.1.kind a.1.text a.1.number a.1.keys a.1.at_ a.1.kids,GPart.mk b.1.kind b.1.text b.1.number b.1.keys b.1.at_ b.1.kids],b.2)))
abbrev d78(f:SV [.box 0 0]->BV [.cells [V2,V0,V0]]->Option (Except Int (GPart×List τ0×Int×Int))):PF:={ps:=[.box 0 0],bs:=[.cells [V2,V0,V0]],rs:=[.v (.rc .part)],cs:=[.cells [V2,V0,V0]],R:=GPart×List τ0×Int×Int,out:=fun z=>((z.1,()),(z.2.1,z.2.2.1,z.2.2.2,()),()),f:=f}
abbrev d76(a7:K8):PF:=d78 fun _ y=>N1 N a7 y.1.1 y.1.2.1 y.1.2.2.1
def c8t(a7:K8):FuncId->Option Tmp->Option AF:=fun f _=>lkF [(74,a8H N)] f
theorem c8u(a7:K8)(g8:SoundP Tryz.prog GW x9 B2 138 (K2 fun x y=>a7 y.1.1 y.1.2.1 y.1.2.2.1)):∀f q F,c8t N a7 f q=some F->Sound Tryz.prog GW x9 f F:=fun _ _ _ h=>B9 h (L3 (V9 N) T8)
def c3e(a7:K8):FuncId->Option Tmp->Option PF:=fun f _=>
 match f with
  |180=>some (d0v N a7)
  |_=>none
theorem c8v(a7:K8)(g8:SoundP Tryz.prog GW x9 B2 138 (K2 fun x y=>a7 y.1.1 y.1.2.1 y.1.2.2.1)):∀f q F,c3e N a7 f q=some F->SoundP Tryz.prog GW x9 B2 f F:=by
 intro f q F h;unfold c3e at h;split at h
 ·cases h;exact d0y N a7 g8
 ·cases h
def d77:Nat->Hint:=fun i=>
 match i with
 |_=>y5
abbrev e0u(a7:K8):Env:=a08 d77 (c8t N a7) (c3e N a7) (fun _=>false) (fun _=>false)
theorem c8w(a7:K8)(g8:SoundP Tryz.prog GW x9 B2 138 (K2 fun x y=>a7 y.1.1 y.1.2.1 y.1.2.2.1)):SoundP Tryz.prog GW x9 B2 138 (d76 N a7):=
 a0V (e0u N a7) (H9 d77 (c8t N a7) (c3e N a7) _ _ (c8u N a7 g8) (c8v N a7 g8)) Tryz.func138 rfl Tryz.call138 (d76 N a7) (fun x y=>(x.1,y.1.1,y.1.2.1,y.1.2.2.1)) (fun _ _=>rfl) N (fun _ _=>by kernel_rfl) rfl
def L5(N:Nat):Nat->τ6->Int->Int->Option (Except Int (GPart×List τ0×Int×Int))|0=>fun _ _ _=>none|d+1=>N1 N (L5 N d)
theorem b8X(N:Nat):∀d,SoundP Tryz.prog GW x9 B2 138 (K2 fun x y=>L5 N d y.1.1 y.1.2.1 y.1.2.2.1)
 |0=>SoundP.never Tryz.call138 (fun _ _=>rfl)
 |d+1=>c8w N (L5 N d) (b8X N d)
abbrev b8Z:=sgM [.box 0 0,.v (.rc .part),V0] [.cells [V2,V0,V0]] [.v τ3] [.cells [V2,V0,V0]] (GExpr×List τ0×Int×Int) fun z=>((z.1,()),(z.2.1,z.2.2.1,z.2.2.2,()),())
def a7l(_N:Nat)(g9:ρ9)(o:Int)(p:List GPart)(q:Int)(k0:ρ8)(self:Int->τ6->Int->Int->(List GExpr)->Option (GExpr×List τ0×Int×Int))(c:Int)(g:List τ0)(l m:Int)(e:List GExpr):Option (GExpr×List τ0×Int×Int):=br (decide (c<q)) (j8 (m6 p c) fun a=>j8 (g9 (GPart.mk a.kind a.text a.number a.keys a.at_ a.kids) o g l m) fun b=>br (Zf (e.length + [b.1].length) τ3) (self (IntKind.i64.wrap (c+1)) b.2.1 b.2.2.1 b.2.2.2 (e ++ [b.1])) none) (k0 g l m e)
def b2R(N:Nat)(g9:ρ9)(a:Int)(b:List GPart)(c:Int)(k0:ρ8):Nat->Int->τ6->Int->Int->(List GExpr)->Option (GExpr×List τ0×Int×Int)|0,_,_,_,_,_=>none|n+1,e,g,l,m,o=>a7l N g9 a b c k0 (b2R N g9 a b c k0 n) e g l m o
def v7(g9:ρ9)(a:GPart)(e:Int)(p:List τ0)(q r:Int):Option (GExpr×List τ0×Int×Int):=j8 (Q4 N a.at_ e p q r) fun b=>br (a.kind==0) (j8 (m6 a.kids 0) fun t=>j8 (g9 t (IntKind.i64.wrap (e+1)) b.1 b.2.1 b.2.2) fun c=>some (Ze c.1,c.2)) (br (a.kind !=7) (b2R N g9 (IntKind.i64.wrap (e+1)) a.kids (a.kids.length:Int) (fun g l m o=>some (GExpr.mk a.kind a.text a.number a.keys o,g,l,m)) N 0 b.1 b.2.1 b.2.2 []) (b2R N g9 e a.kids (a.kids.length:Int) (fun g l m o=>some (GExpr.mk a.kind a.text a.number a.keys o,g,l,m)) N 0 b.1 b.2.1 b.2.2 []))
abbrev d79:=sgM [.box 0 0,.v (.rc .part),V0] [.cells [V2,V0,V0]] [.v τ3] [.cells [V2,V0,V0]] (GExpr×List τ0×Int×Int) fun z=>((z.1,()),(z.2.1,z.2.2.1,z.2.2.2,()),())
abbrev d2O(g9:ρ9):AF:=d79 fun x y=>v7 N g9 x.2.1 x.2.2.1 y.1.1 y.1.2.1 y.1.2.2.1
abbrev c8A:SV [.v τ3]->BV [.cells [V2,V0,V0]]->(GExpr×List τ0×Int×Int):=fun x y=>(x.1,y.1.1,y.1.2.1,y.1.2.2.1)
def c8y(g9:ρ9):FuncId->Option Tmp->Option AF:=fun f _=>lkF [(73,d3i N),(137,b8Z fun x y=>g9 x.2.1 x.2.2.1 y.1.1 y.1.2.1 y.1.2.2.1)] f
theorem c8z(g9:ρ9)(Y0:Sound Tryz.prog GW x9 137 (b8Z fun x y=>g9 x.2.1 x.2.2.1 y.1.1 y.1.2.1 y.1.2.2.1)):∀f q F,c8y N g9 f q=some F->Sound Tryz.prog GW x9 f F:=fun _ _ _ h=>B9 h (L3 (b8Y N) (L3 (Y0) T8))
def c0V:Nat->Hint:=fun i=>
 match i with
 |0=>⟨[],[0,2,6,7,36,37,38],[0,1006,1007,900001],[6,7],[0,1006,1007,900001],[(1007,4,900001,69,τ3)]⟩
 |100010=>⟨[1007,1009,900001],[],[],[],[],[]⟩
 |_=>y5
abbrev b4h(g9:ρ9):Env:=mkE c0V (c8y N g9) (fun _=>false) (fun _=>false)
abbrev c0U(g9:ρ9):=L9 (b4h N g9) Tryz.f137 (d2O N g9) c8A
noncomputable abbrev b5t:Code:=cAt (B3 Tryz.f137) [true,true,true,true,true,false,true,false,false]
abbrev a8h:List (Nat×Sl):=[(0,.box 0 0),(2,V0),(6,.box 1006 0),(7,.box 1007 0),(36,.v (.sl (.rc .part))),(37,V0),(38,V0)]
abbrev a8g:List (Nat×Sb):=[(0,.cells [V2,V0,V0]),(1006,.cells [V0,V1,V0,.nilS,.nilS]),(1007,.cells [V0,V1,V0,.v N3,.row 900001]),(900001,.row 69 τ3 false)]
def b2S(a:Int)(b:List GPart)(c e:Int)(g:d7)(l m:Int)(o:d7)(p:Int)(q:List d7)(r:Int)(t:List τ0)(u w:Int)(B:List GExpr):St:=⟨53,[(0,.box 0 0),(2,.v τ2 a),(6,.box 1006 0),(7,.box 1007 0),(36,.v (.sl (.rc .part)) b),(37,.v τ2 c),(38,.v τ2 r)],[(0,.cells [.v (.sl τ1) t,.v τ2 u,.v τ2 w]),(1006,.cells [.v τ2 e,.v .str g,.v τ2 l,.nilS,.nilS]),(1007,.cells [.v τ2 m,.v .str o,.v τ2 p,.v N3 q,.row 900001]),(900001,.row 69 τ3 false B)]⟩
def a56(_t:Int)(_u:List GPart)(_w a:Int)(b:d7)(c e:Int)(g:d7)(l:Int)(m:List d7)(o:List τ0)(p q:Int)(r:List GExpr):St:=⟨53,[(6,.box 1006 0),(7,.box 1007 0)],[(0,.cells [.v (.sl τ1) o,.v τ2 p,.v τ2 q]),(1006,.cells [.v τ2 a,.v .str b,.v τ2 c,.nilS,.nilS]),(1007,.cells [.v τ2 e,.v .str g,.v τ2 l,.v N3 m,.row 900001]),(900001,.row 69 τ3 false r)]⟩
def d2M(g9:ρ9)(a:Int)(b:List GPart)(c e:Int)(g:d7)(l m:Int)(o:d7)(p:Int)(q:List d7)(r:Int)(t:List τ0)(u v:Int)(w:List GExpr)(k:Ex->St->Option (GExpr×List τ0×Int×Int)):Option (GExpr×List τ0×Int×Int):=b2R N g9 a b c (fun B C D E=>k (.exit 0) (a56 a b c e g l m o p q B C D E)) N r t u v w
abbrev c3f(g9:ρ9):FV a8h->HV a8g->(Ex->St->Option (GExpr×List τ0×Int×Int))->Option (GExpr×List τ0×Int×Int):=fun x y k=>let z:=y.2.2.1;d2M N g9 x.2.1 x.2.2.2.2.1 x.2.2.2.2.2.1 y.2.1.1 y.2.1.2.1 y.2.1.2.2.1 z.1 z.2.1 z.2.2.1 z.2.2.2.1 x.2.2.2.2.2.2.1 y.1.1 y.1.2.1 y.1.2.2.1 y.2.2.2.1 k
def b2T(g9:ρ9):Nat->Code->St->(Ex->St->Option (GExpr×List τ0×Int×Int))->Option (GExpr×List τ0×Int×Int):=fun i c=>
 match i with
 |0=>(LPc 53 a8h a8g (c3f N g9) (fun st k=>iter (c0V 0) (o7 (b4h N g9) N c 0) N st k))
 |i=>fun st k=>iter (c0V i) (o7 (b4h N g9) N c i) N st k
theorem c0T(g9:ρ9)(a:Int)(b:List GPart)(c p:Int)(q:d7)(r t:Int)(u:d7)(v:Int)(w:List d7)(KX:Nat->St->Option (GExpr×List τ0×Int×Int))(I:St->Option (GExpr×List τ0×Int×Int))(e:Int)(g:List τ0)(l m:Int)(o:List GExpr):
  p8 (b2T N g9) (b4h N g9) b5t 0 (b2S a b c p q r t u v w e g l m o) (F9 (c0V 0) I KX (c0U N g9))=a7l N g9 a b c (fun B C D E=>KX 0 (a56 a b c p q r t u v w B C D E)) (fun e g l m o=>I (b2S a b c p q r t u v w e g l m o)) e g l m o:=by kernel_rfl
theorem c8x(g9:ρ9):∀x y k,(∀st,k .ret st=(c0U N g9) st)->iter (c0V 0) (o7 (b4h N g9) N b5t 0) N ⟨53,unF a8h x,unH a8g y⟩ k=c3f N g9 x y k:=fun x y k hk=>
 p9 (S:=(Int)×τ6×(Int)×(Int)×(List GExpr)×Unit) (c0V 0) _ (p8 (b2T N g9) (b4h N g9) b5t 0) (c0U N g9) (u9 _ _ N _ b5t 0 (show LoopsOk (b2T N g9) (b4h N g9) N (c0U N g9) []from trivial)) (fun s=>b2S x.2.1 x.2.2.2.2.1 x.2.2.2.2.2.1 y.2.1.1 y.2.1.2.1 y.2.1.2.2.1 y.2.2.1.1 y.2.2.1.2.1 y.2.2.1.2.2.1 y.2.2.1.2.2.2.1 s.1 s.2.1 s.2.2.1 s.2.2.2.1 s.2.2.2.2.1) k hk
  (fun self s=>a7l N g9 x.2.1 x.2.2.2.2.1 x.2.2.2.2.2.1 (fun a b c e=>k (.exit 0) (a56 x.2.1 x.2.2.2.2.1 x.2.2.2.2.2.1 y.2.1.1 y.2.1.2.1 y.2.1.2.2.1 y.2.2.1.1 y.2.2.1.2.1 y.2.2.1.2.2.1 y.2.2.1.2.2.2.1 a b c e)) (fun g l m o p=>self (g,l,m,o,p,())) s.1 s.2.1 s.2.2.1 s.2.2.2.1 s.2.2.2.2.1) (fun n s=>b2R N g9 x.2.1 x.2.2.2.2.1 x.2.2.2.2.2.1 (fun a b c e=>k (.exit 0) (a56 x.2.1 x.2.2.2.2.1 x.2.2.2.2.2.1 y.2.1.1 y.2.1.2.1 y.2.1.2.2.1 y.2.2.1.1 y.2.2.1.2.1 y.2.2.1.2.2.1 y.2.2.1.2.2.2.1 a b c e)) n s.1 s.2.1 s.2.2.1 s.2.2.2.1 s.2.2.2.2.1) (fun _=>rfl) (fun _ _=>rfl)
  (fun I s=>c0T N g9 x.2.1 x.2.2.2.2.1 x.2.2.2.2.2.1 y.2.1.1 y.2.1.2.1 y.2.1.2.2.1 y.2.2.1.1 y.2.2.1.2.1 y.2.2.1.2.2.1 y.2.2.1.2.2.2.1 (fun j=>k (.exit j)) I s.1 s.2.1 s.2.2.1 s.2.2.2.1 s.2.2.2.2.1) N (x.2.2.2.2.2.2.1,y.1.1,y.1.2.1,y.1.2.2.1,y.2.2.2.1,())
theorem d57(g9:ρ9):Z1 (b2T N g9) (b4h N g9) N (c0U N g9) 0 b5t:=fun st k hk=>H3 53 a8h a8g _ _ (c0U N g9) (c8x N g9) _ st k hk (rfl)
theorem d2N(g9:ρ9)(x:SV [.box 0 0,.v (.rc .part),V0])(y:BV [.cells [V2,V0,V0]]):V4 (b4h N g9) Tryz.f137 (d2O N g9) c8A (b2T N g9) x y=v7 N g9 x.2.1 x.2.2.1 y.1.1 y.1.2.1 y.1.2.2.1:=by kernel_rfl
theorem c8B(g9:ρ9)(Y0:Sound Tryz.prog GW x9 137 (b8Z fun x y=>g9 x.2.1 x.2.2.1 y.1.1 y.1.2.1 y.1.2.2.1)):Sound Tryz.prog GW x9 137 (d2O N g9):=
 b2f (O3 c0V (c8y N g9) _ _ (c8z N g9 Y0)) Tryz.func137 rfl Tryz.call137 (d2O N g9) c8A (fun _ _=>rfl) N (b2T N g9) (show LoopsOk (b2T N g9) (b4h N g9) N (c0U N g9) [(0,b5t)]from⟨d57 N g9,trivial⟩) (d2N N g9)
def x7(N:Nat):Nat->GPart->Int->τ6->Int->Int->Option (GExpr×List τ0×Int×Int)|0=>fun _ _ _ _ _=>none|d+1=>v7 N (x7 N d)
theorem b80(N:Nat):∀d,Sound Tryz.prog GW x9 137 (b8Z fun x y=>x7 N d x.2.1 x.2.2.1 y.1.1 y.1.2.1 y.1.2.2.1)
 |0=>Sound.never Tryz.call137 (fun _ _=>rfl)
 |d+1=>c8B N (x7 N d) (b80 N d)
def A3(c:Int)(e:List τ0)(g l:Int):Option (Except Int (GExpr×List τ0×Int×Int)):=l8 (L5 N N e g l) fun b=>j8 (x7 N N b.1 (IntKind.i64.wrap (c+1)) b.2.1 b.2.2.1 b.2.2.2) fun a=>some (.ok (Ze a.1,a.2))
abbrev d8w(f:SV [.box 0 0,V0]->BV [.cells [V2,V0,V0]]->Option (Except Int (GExpr×List τ0×Int×Int))):PF:={ps:=[.box 0 0,V0],bs:=[.cells [V2,V0,V0]],rs:=[.v τ3],cs:=[.cells [V2,V0,V0]],R:=GExpr×List τ0×Int×Int,out:=fun z=>((z.1,()),(z.2.1,z.2.2.1,z.2.2.2,()),()),f:=f}
abbrev c49:PF:=d8w fun x y=>A3 N x.2.1 y.1.1 y.1.2.1 y.1.2.2.1
def c9C:FuncId->Option Tmp->Option AF:=fun f _=>lkF [(137,b8Z fun x y=>x7 N N x.2.1 x.2.2.1 y.1.1 y.1.2.1 y.1.2.2.1)] f
theorem c9D:X8 (c9C N):=fun _ _ _ h=>B9 h (L3 (b80 N N) T8)
def c3u:FuncId->Option Tmp->Option PF:=fun f _=>
 match f with
  |138=>some (K2 fun _ y=>L5 N N y.1.1 y.1.2.1 y.1.2.2.1)
  |_=>none
theorem c9E:∀f q F,c3u N f q=some F->SoundP Tryz.prog GW x9 B2 f F:=by
 intro f q F h;unfold c3u at h;split at h
 ·cases h;exact b8X N N
 ·cases h
def d8v:Nat->Hint:=fun i=>
 match i with
 |_=>y5
abbrev e0C:Env:=a08 d8v (c9C N) (c3u N) (fun _=>false) (fun _=>false)
theorem a8x:SoundP Tryz.prog GW x9 B2 81 (c49 N):=
 a0V (e0C N) (H9 d8v (c9C N) (c3u N) _ _ (c9D N) (c9E N)) Tryz.func81 rfl Tryz.call81 (c49 N) (fun x y=>(x.1,y.1.1,y.1.2.1,y.1.2.2.1)) (fun _ _=>rfl) N (fun _ _=>by kernel_rfl) rfl
end
end Go.Proofs.YtolpmfhiegpohaaGreatDoor
