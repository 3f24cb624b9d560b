/- % -/
import Derived.Test.YtolpmfhiegpohaaGreatDoorQPaF6
namespace Go.Proofs.YtolpmfhiegpohaaGreatDoor
open Go Go.RowKit
set_option maxRecDepth 100000
set_option linter.unusedVariables false
noncomputable section
variable(N:Nat)
def S6(a7:d2)(ab:List τ0)(ac ad:Int):Option (Except Int (GPart×List τ0×Int×Int)):=j8 (C5 N ab ac ad) fun a=>br ((a.2.1.length:Int)==0) (m8 (n8 N a.2.1 a.2.2.1 a.2.2.2) fun b=>j8 (m7 b.1 0) fun J=>br (J.1==2) (m8 (s6 N b.1 b.2.1 b.2.2) fun V=>some (.ok (GPart.mk 1 V.1 0 [] a.1 [],V.2))) (br (J.1==3) (j8 (slc b.1 1 (b.1.length:Int)) fun ae=>some (.ok (GPart.mk 2 [] J.2.2.1 [] a.1 [],ae,b.2))) (j8 (l6 N 4 [40] b.1 b.2.1 b.2.2) fun u=>br (u.1) (m8 (B5 N a7 0 [] 0 a.1 u.2.1 u.2.2.1 u.2.2.2) fun g=>m8 (k6 N [41] g.2.2.2.2.1 g.2.2.2.2.2.1 g.2.2.2.2.2.2.1) fun af=>some (.ok (GPart.mk g.1 g.2.1 g.2.2.1 [] g.2.2.2.1 g.2.2.2.2.2.2.2,af))) (j8 (l6 N 4 [91] u.2.1 u.2.2.1 u.2.2.2) fun v=>br (v.1) (m8 (K9 N a7 [93] true v.2.1 v.2.2.1 v.2.2.2 4 [] 0 a.1) fun l=>some (.ok (GPart.mk l.2.2.2.1 l.2.2.2.2.1 l.2.2.2.2.2.1 [] l.2.2.2.2.2.2.1 l.2.2.2.2.2.2.2,l.1,l.2.1,l.2.2.1))) (j8 (l6 N 1 [102,105,108,101,115] v.2.1 v.2.2.1 v.2.2.2) fun w=>br (w.1) (m8 (k6 N [40] w.2.1 w.2.2.1 w.2.2.2) fun K=>m8 (B5 N a7 5 [] 0 a.1 K.1 K.2.1 K.2.2) fun m=>m8 (k6 N [44] m.2.2.2.2.1 m.2.2.2.2.2.1 m.2.2.2.2.2.2.1) fun L=>m8 (F3 N a7 m.1 m.2.1 m.2.2.1 m.2.2.2.1 m.2.2.2.2.2.2.2 L.1 L.2.1 L.2.2) fun o=>m8 (k6 N [41] o.2.2.2.2.2.1 o.2.2.2.2.2.2.1 o.2.2.2.2.2.2.2) fun ag=>some (.ok (GPart.mk o.1 o.2.1 o.2.2.1 [] o.2.2.2.1 o.2.2.2.2.1,ag))) (j8 (l6 N 1 [99,104,111,111,115,101] w.2.1 w.2.2.1 w.2.2.2) fun B=>br (B.1) (m8 (k6 N [123] B.2.1 B.2.2.1 B.2.2.2) fun O=>m8 (P2 N a7 [125] false O.1 O.2.1 O.2.2 6 [] 0 a.1) fun c=>some (.ok (GPart.mk c.2.2.2.1 c.2.2.2.2.1 c.2.2.2.2.2.1 c.2.2.2.2.2.2.1 c.2.2.2.2.2.2.2.1 c.2.2.2.2.2.2.2.2,c.1,c.2.1,c.2.2.1))) (m8 (o4 N B.2.1 B.2.2.1 B.2.2.2) fun W=>some (.ok (GPart.mk 3 W.1 0 [] a.1 [],W.2))))))))) (j8 (m7 a.2.1 0) fun Q=>br (Q.1==2) (m8 (s6 N a.2.1 a.2.2.1 a.2.2.2) fun Y=>some (.ok (GPart.mk 1 Y.1 0 [] a.1 [],Y.2))) (br (Q.1==3) (j8 (slc a.2.1 1 (a.2.1.length:Int)) fun ah=>some (.ok (GPart.mk 2 [] Q.2.2.1 [] a.1 [],ah,a.2.2))) (j8 (l6 N 4 [40] a.2.1 a.2.2.1 a.2.2.2) fun C=>br (C.1) (m8 (B5 N a7 0 [] 0 a.1 C.2.1 C.2.2.1 C.2.2.2) fun p=>m8 (k6 N [41] p.2.2.2.2.1 p.2.2.2.2.2.1 p.2.2.2.2.2.2.1) fun ai=>some (.ok (GPart.mk p.1 p.2.1 p.2.2.1 [] p.2.2.2.1 p.2.2.2.2.2.2.2,ai))) (j8 (l6 N 4 [91] C.2.1 C.2.2.1 C.2.2.2) fun D=>br (D.1) (m8 (K9 N a7 [93] true D.2.1 D.2.2.1 D.2.2.2 4 [] 0 a.1) fun q=>some (.ok (GPart.mk q.2.2.2.1 q.2.2.2.2.1 q.2.2.2.2.2.1 [] q.2.2.2.2.2.2.1 q.2.2.2.2.2.2.2,q.1,q.2.1,q.2.2.1))) (j8 (l6 N 1 [102,105,108,101,115] D.2.1 D.2.2.1 D.2.2.2) fun E=>br (E.1) (m8 (k6 N [40] E.2.1 E.2.2.1 E.2.2.2) fun R=>m8 (B5 N a7 5 [] 0 a.1 R.1 R.2.1 R.2.2) fun r=>m8 (k6 N [44] r.2.2.2.2.1 r.2.2.2.2.2.1 r.2.2.2.2.2.2.1) fun T=>m8 (F3 N a7 r.1 r.2.1 r.2.2.1 r.2.2.2.1 r.2.2.2.2.2.2.2 T.1 T.2.1 T.2.2) fun t=>m8 (k6 N [41] t.2.2.2.2.2.1 t.2.2.2.2.2.2.1 t.2.2.2.2.2.2.2) fun aj=>some (.ok (GPart.mk t.1 t.2.1 t.2.2.1 [] t.2.2.2.1 t.2.2.2.2.1,aj))) (j8 (l6 N 1 [99,104,111,111,115,101] E.2.1 E.2.2.1 E.2.2.2) fun H=>br (H.1) (m8 (k6 N [123] H.2.1 H.2.2.1 H.2.2.2) fun U=>m8 (P2 N a7 [125] false U.1 U.2.1 U.2.2 6 [] 0 a.1) fun e=>some (.ok (GPart.mk e.2.2.2.1 e.2.2.2.2.1 e.2.2.2.2.2.1 e.2.2.2.2.2.2.1 e.2.2.2.2.2.2.2.1 e.2.2.2.2.2.2.2.2,e.1,e.2.1,e.2.2.1))) (m8 (o4 N H.2.1 H.2.2.1 H.2.2.2) fun aa=>some (.ok (GPart.mk 3 aa.1 0 [] a.1 [],aa.2)))))))))
abbrev e1M(f:SV [.box 0 0]->BV [.cells [V2,V0,V0]]->Option (Except Int (GPart×List τ0×Int×Int))):PF:={ps:=[.box 0 0],bs:=[.cells [V2,V0,V0]],rs:=[.v (.rc .part)],cs:=[.cells [V2,V0,V0]],R:=GPart×List τ0×Int×Int,out:=fun z=>((z.1,()),(z.2.1,z.2.2.1,z.2.2.2,()),()),f:=f}
abbrev d9j(a7:d2):PF:=e1M fun _ y=>S6 N a7 y.1.1 y.1.2.1 y.1.2.2.1
def e8o(a7:d2):FuncId->Option Tmp->Option AF:=fun f _=>t7 [(72,f5L N),(74,d3b N)] f
theorem e8p(a7:d2)(i7:SoundP Tryz.prog GW B0G c2M 138 (e1y fun x y=>a7 y.1.1 y.1.2.1 y.1.2.2.1)):∀f q F,e8o N a7 f q=some F->Sound Tryz.prog GW B0G f F:=fun _ _ _ h=>D7 h (Q3 (c2b N) (Q3 (d3e N) lkn))
def e6P(a7:d2):FuncId->Option Tmp->Option PF:=fun f q=>
 match f with
  |75=>some (d6l N)
  |76=>some (d9f N)
  |77=>match q with|some 72=>some (d59 N a7)|some 97=>some (d6c N a7)|_=>none
  |82=>some (d3i N)
  |136=>some (c8e N)
  |258=>match q with|some 62=>some (c8c N a7)|some 81=>some (c8c N a7)|some 85=>some (d8J N a7)|_=>none
  |_=>none
theorem e8q(a7:d2)(i7:SoundP Tryz.prog GW B0G c2M 138 (e1y fun x y=>a7 y.1.1 y.1.2.1 y.1.2.2.1)):∀f q F,e6P N a7 f q=some F->SoundP Tryz.prog GW B0G c2M f F:=by
 intro f q F h;unfold e6P at h;split at h
 ·cases h;exact c1Z N
 ·cases h;exact d27 N
 ·split at h
  ·cases h;exact d2z N a7 i7
  ·cases h;exact d2E N a7 i7
  ·cases h
 ·cases h;exact d3l N
 ·cases h;exact b1e N
 ·split at h
  ·cases h;exact b03 N a7 i7
  ·cases h;exact b03 N a7 i7
  ·cases h;exact d1f N a7 i7
  ·cases h
 ·cases h
def e5Z:Nat->Hint:=fun i=>
 match i with
 |100010=>⟨[1004],[],[],[],[],[]⟩
 |100011=>⟨[0,1001],[],[],[],[],[]⟩
 |_=>B8
abbrev e4j(a7:d2):Env:=a2Q e5Z (e8o N a7) (e6P N a7) (fun _=>false) (fun i=>match i with|258=>true|259=>true|_=>false)
theorem d3n(a7:d2)(i7:SoundP Tryz.prog GW B0G c2M 138 (e1y fun x y=>a7 y.1.1 y.1.2.1 y.1.2.2.1)):SoundP Tryz.prog GW B0G c2M 223 (d9j N a7):=
 a2x (e4j N a7) (L0 e5Z (e8o N a7) (e6P N a7) _ _ (e8p N a7 i7) (e8q N a7 i7)) Tryz.func223 rfl Tryz.call223 (d9j N a7) (fun x y=>(x.1,y.1.1,y.1.2.1,y.1.2.2.1)) (fun _ _=>rfl) N (fun _ _=>by kernel_rfl) rfl
def f6l(a7:d2)(o:Int)(k0 self:ρ4)(p:List τ0)(q r c:Int)(e:d9)(g:Int)(l:List d9)(t:Unit)(m:List GPart):Option (Except Int (GPart×List τ0×Int×Int)):=j8 (l6 N 4 [43] p q r) fun b=>br (b.1) (m8 (S6 N a7 b.2.1 b.2.2.1 b.2.2.2) fun a=>self a.2.1 a.2.2.1 a.2.2.2 7 [] 0 [] () [GPart.mk c e g l o m,GPart.mk a.1.kind a.1.text a.1.number a.1.keys a.1.at_ a.1.kids]) (k0 b.2.1 b.2.2.1 b.2.2.2 c e g l t m)
def f6O(N:Nat)(a7:d2)(a:Int)(k0:ρ4):Nat->τ6->Int->Int->Int->d9->Int->τ20->Unit->(List GPart)->Option (Except Int (GPart×List τ0×Int×Int))|0,_,_,_,_,_,_,_,_,_=>none|n+1,b,c,e,g,l,m,o,p,q=>f6l N a7 a k0 (f6O N a7 a k0 n) b c e g l m o p q
def O2(a7:d2)(b:List τ0)(c e:Int):Option (Except Int (GPart×List τ0×Int×Int)):=m8 (S6 N a7 b c e) fun a=>f6O N a7 a.1.at_ (fun g l m o p q r _ t=>some (.ok (GPart.mk o p q r a.1.at_ t,g,l,m))) N a.2.1 a.2.2.1 a.2.2.2 a.1.kind a.1.text a.1.number a.1.keys () a.1.kids
abbrev e1Q(f:SV [.box 0 0]->BV [.cells [V2,V0,V0]]->Option (Except Int (GPart×List τ0×Int×Int))):PF:={ps:=[.box 0 0],bs:=[.cells [V2,V0,V0]],rs:=[.v (.rc .part)],cs:=[.cells [V2,V0,V0]],R:=GPart×List τ0×Int×Int,out:=fun z=>((z.1,()),(z.2.1,z.2.2.1,z.2.2.2,()),()),f:=f}
abbrev e1P(a7:d2):PF:=e1Q fun _ y=>O2 N a7 y.1.1 y.1.2.1 y.1.2.2.1
abbrev f8Z:SV [.v (.rc .part)]->BV [.cells [V2,V0,V0]]->(GPart×List τ0×Int×Int):=fun x y=>(x.1,y.1.1,y.1.2.1,y.1.2.2.1)
abbrev f9O:SV [.v (.rc .part)]->BV [.cells [V2,V0,V0]]->Except Int (GPart×List τ0×Int×Int):=fun x y=> .ok (f8Z x y)
def f8W(a7:d2):FuncId->Option Tmp->Option AF:=fun f _=>t7 [(74,d3b N)] f
theorem f8X(a7:d2)(i7:SoundP Tryz.prog GW B0G c2M 138 (e1y fun x y=>a7 y.1.1 y.1.2.1 y.1.2.2.1)):∀f q F,f8W N a7 f q=some F->Sound Tryz.prog GW B0G f F:=fun _ _ _ h=>D7 h (Q3 (d3e N) lkn)
def f7Y(a7:d2):FuncId->Option Tmp->Option PF:=fun f _=>
 match f with
  |223=>some (d9j N a7)
  |_=>none
theorem f8Y(a7:d2)(i7:SoundP Tryz.prog GW B0G c2M 138 (e1y fun x y=>a7 y.1.1 y.1.2.1 y.1.2.2.1)):∀f q F,f7Y N a7 f q=some F->SoundP Tryz.prog GW B0G c2M f F:=by
 intro f q F h;unfold f7Y at h;split at h
 ·cases h;exact d3n N a7 i7
 ·cases h
def f7v:Nat->Hint:=fun i=>
 match i with
 |0=>⟨[16],[0,2,3],[0,1002,1003],[2,3],[0,1002,1003],[]⟩
 |_=>B8
abbrev f6k(a7:d2):Env:=a2Q f7v (f8W N a7) (f7Y N a7) (fun _=>false) (fun _=>false)
abbrev f7u(a7:d2):=P5 (f6k N a7) Tryz.f180 (PF.tf (e1P N a7)) f9O
noncomputable abbrev f6P:Code:=cAt (C3 Tryz.f180) [true,true,false,false,false]
abbrev f5B:List (Nat×Sl):=[(0,.box 0 0),(2,.box 1002 0),(3,.box 1003 0)]
abbrev f5A:List (Nat×Sb):=[(0,.cells [V2,V0,V0]),(1002,.cells [V0,V1,V0,.nilS,.nilS,V0,.nilS]),(1003,.cells [V0,V1,V0,.v τ13,.v .nl,V0,.v (.sl (.rc .part))])]
def f6m(a:Int)(b:d9)(c e g:Int)(l:List τ0)(m o p:Int)(q:d9)(r:Int)(t:List d9)(u:Unit)(w:List GPart):St:=⟨19,[(0,.box 0 0),(2,.box 1002 0),(3,.box 1003 0)],[(0,.cells [.v (.sl τ1) l,.v τ2 m,.v τ2 o]),(1002,.cells [.v τ2 a,.v .str b,.v τ2 c,.nilS,.nilS,.v τ2 e,.nilS]),(1003,.cells [.v τ2 p,.v .str q,.v τ2 r,.v τ13 t,.v .nl u,.v τ2 g,.v (.sl (.rc .part)) w])]⟩
def f4f(a:Int)(b:d9)(c e g:Int)(l:List τ0)(m o p:Int)(q:d9)(r:Int)(t:List d9)(u:Unit)(w:List GPart):St:=⟨19,[(2,.box 1002 0),(3,.box 1003 0)],[(0,.cells [.v (.sl τ1) l,.v τ2 m,.v τ2 o]),(1002,.cells [.v τ2 a,.v .str b,.v τ2 c,.nilS,.nilS,.v τ2 e,.nilS]),(1003,.cells [.v τ2 p,.v .str q,.v τ2 r,.v τ13 t,.v .nl u,.v τ2 g,.v (.sl (.rc .part)) w])]⟩
def f9y(a7:d2)(b:Int)(c:d9)(e g a:Int)(l:List τ0)(m o p:Int)(q:d9)(r:Int)(t:List d9)(u:Unit)(v:List GPart)(k:Ex->St->Option (Except Int (GPart×List τ0×Int×Int))):Option (Except Int (GPart×List τ0×Int×Int)):=f6O N a7 a (fun w B C D E H J K L=>k (.exit 0) (f4f b c e g a w B C D E H J K L)) N l m o p q r t u v
abbrev f7X(a7:d2):FV f5B->HV f5A->(Ex->St->Option (Except Int (GPart×List τ0×Int×Int)))->Option (Except Int (GPart×List τ0×Int×Int)):=fun _ y k=>let z:=y.2.2.1.2.2;f9y N a7 y.2.1.1 y.2.1.2.1 y.2.1.2.2.1 y.2.1.2.2.2.2.2.1 z.2.2.2.1 y.1.1 y.1.2.1 y.1.2.2.1 y.2.2.1.1 y.2.2.1.2.1 z.1 z.2.1 z.2.2.1 z.2.2.2.2.1 k
def f6n(a7:d2):Nat->Code->St->(Ex->St->Option (Except Int (GPart×List τ0×Int×Int)))->Option (Except Int (GPart×List τ0×Int×Int)):=fun i c=>
 match i with
 |0=>(LPc 19 f5B f5A (f7X N a7) (fun st k=>iter (f7v 0) (q7 (f6k N a7) N c 0) N st k))
 |i=>fun st k=>iter (f7v i) (q7 (f6k N a7) N c i) N st k
theorem f7t(a7:d2)(r:Int)(t:d9)(u v a:Int)(KX:Nat->St->Option (Except Int (GPart×List τ0×Int×Int)))(I:St->Option (Except Int (GPart×List τ0×Int×Int)))(b:List τ0)(c e g:Int)(l:d9)(m:Int)(o:List d9)(p:Unit)(q:List GPart):
  s4 (f6n N a7) (f6k N a7) f6P 0 (f6m r t u v a b c e g l m o p q) (I2 (f7v 0) I KX (f7u N a7))=f6l N a7 a (fun w B C D E H J K L=>KX 0 (f4f r t u v a w B C D E H J K L)) (fun b c e g l m o p q=>I (f6m r t u v a b c e g l m o p q)) b c e g l m o p q:=by kernel_rfl
theorem f8V(a7:d2):∀x y k,(∀st,k .ret st=(f7u N a7) st)->iter (f7v 0) (q7 (f6k N a7) N f6P 0) N ⟨19,unF f5B x,unH f5A y⟩ k=f7X N a7 x y k:=fun _ y k hk=>
 s5 (S:=τ6×(Int)×(Int)×(Int)×(d9)×(Int)×τ20×(Unit)×(List GPart)×Unit) (f7v 0) _ (s4 (f6n N a7) (f6k N a7) f6P 0) (f7u N a7) (x9 _ _ N _ f6P 0 (show LoopsOk (f6n N a7) (f6k N a7) N (f7u N a7) []from trivial)) (fun s=>f6m y.2.1.1 y.2.1.2.1 y.2.1.2.2.1 y.2.1.2.2.2.2.2.1 y.2.2.1.2.2.2.2.2.1 s.1 s.2.1 s.2.2.1 s.2.2.2.1 s.2.2.2.2.1 s.2.2.2.2.2.1 s.2.2.2.2.2.2.1 s.2.2.2.2.2.2.2.1 s.2.2.2.2.2.2.2.2.1) k hk
  (fun self s=>let z:=s.2.2.2.2;f6l N a7 y.2.2.1.2.2.2.2.2.1 (fun a b c e g l m o p=>k (.exit 0) (f4f y.2.1.1 y.2.1.2.1 y.2.1.2.2.1 y.2.1.2.2.2.2.2.1 y.2.2.1.2.2.2.2.2.1 a b c e g l m o p)) (fun q r t u v w B C D=>self (q,r,t,u,v,w,B,C,D,())) s.1 s.2.1 s.2.2.1 s.2.2.2.1 z.1 z.2.1 z.2.2.1 z.2.2.2.1 z.2.2.2.2.1) (fun n s=>let z:=s.2.2.2.2;f6O N a7 y.2.2.1.2.2.2.2.2.1 (fun a b c e g l m o p=>k (.exit 0) (f4f y.2.1.1 y.2.1.2.1 y.2.1.2.2.1 y.2.1.2.2.2.2.2.1 y.2.2.1.2.2.2.2.2.1 a b c e g l m o p)) n s.1 s.2.1 s.2.2.1 s.2.2.2.1 z.1 z.2.1 z.2.2.1 z.2.2.2.1 z.2.2.2.2.1) (fun _=>rfl) (fun _ _=>rfl)
  (fun I s=>let z:=s.2.2.2.2;f7t N a7 y.2.1.1 y.2.1.2.1 y.2.1.2.2.1 y.2.1.2.2.2.2.2.1 y.2.2.1.2.2.2.2.2.1 (fun j=>k (.exit j)) I s.1 s.2.1 s.2.2.1 s.2.2.2.1 z.1 z.2.1 z.2.2.1 z.2.2.2.1 z.2.2.2.2.1) N (y.1.1,y.1.2.1,y.1.2.2.1,y.2.2.1.1,y.2.2.1.2.1,y.2.2.1.2.2.1,y.2.2.1.2.2.2.1,y.2.2.1.2.2.2.2.1,y.2.2.1.2.2.2.2.2.2.1,())
theorem g0a(a7:d2):a1g (f6n N a7) (f6k N a7) N (f7u N a7) 0 f6P:=fun st k hk=>J8 19 f5B f5A _ _ (f7u N a7) (f8V N a7) _ st k hk (rfl)
theorem f9z(a7:d2)(x:SV [.box 0 0])(y:BV [.cells [V2,V0,V0]]):a0f (f6k N a7) Tryz.f180 (PF.tf (e1P N a7)) f9O (f6n N a7) x y=O2 N a7 y.1.1 y.1.2.1 y.1.2.2.1:=by kernel_rfl
theorem d3x(a7:d2)(i7:SoundP Tryz.prog GW B0G c2M 138 (e1y fun x y=>a7 y.1.1 y.1.2.1 y.1.2.2.1)):SoundP Tryz.prog GW B0G c2M 180 (e1P N a7):=
 b49 (f6k N a7) (L0 f7v (f8W N a7) (f7Y N a7) _ _ (f8X N a7 i7) (f8Y N a7 i7)) Tryz.func180 rfl Tryz.call180 (e1P N a7) f8Z (fun _ _=>rfl) N (f6n N a7) (show LoopsOk (f6n N a7) (f6k N a7) N (f7u N a7) [(0,f6P)]from⟨g0a N a7,trivial⟩) (f9z N a7)
def R7(a7:d2)(e:List τ0)(g l:Int):Option (Except Int (GPart×List τ0×Int×Int)):=m8 (O2 N a7 e g l) fun a=>j8 (l6 N 4 [61,61] a.2.1 a.2.2.1 a.2.2.2) fun c=>br (!c.1) (some (.ok (GPart.mk a.1.kind a.1.text a.1.number a.1.keys a.1.at_ a.1.kids,c.2))) (m8 (O2 N a7 c.2.1 c.2.2.1 c.2.2.2) fun b=>some (.ok (GPart.mk 8 [] 0 [] a.1.at_ [GPart.mk a.1.kind a.1.text a.1.number a.1.keys a.1.at_ a.1.kids,GPart.mk b.1.kind b.1.text b.1.number b.1.keys b.1.at_ b.1.kids],b.2)))
abbrev e04(f:SV [.box 0 0]->BV [.cells [V2,V0,V0]]->Option (Except Int (GPart×List τ0×Int×Int))):PF:={ps:=[.box 0 0],bs:=[.cells [V2,V0,V0]],rs:=[.v (.rc .part)],cs:=[.cells [V2,V0,V0]],R:=GPart×List τ0×Int×Int,out:=fun z=>((z.1,()),(z.2.1,z.2.2.1,z.2.2.2,()),()),f:=f}
abbrev d8T(a7:d2):PF:=e04 fun _ y=>R7 N a7 y.1.1 y.1.2.1 y.1.2.2.1
def e7H(a7:d2):FuncId->Option Tmp->Option AF:=fun f _=>t7 [(74,d3b N)] f
theorem e7I(a7:d2)(i7:SoundP Tryz.prog GW B0G c2M 138 (e1y fun x y=>a7 y.1.1 y.1.2.1 y.1.2.2.1)):∀f q F,e7H N a7 f q=some F->Sound Tryz.prog GW B0G f F:=fun _ _ _ h=>D7 h (Q3 (d3e N) lkn)
def f7R(a7:d2):FuncId->Option Tmp->Option PF:=fun f _=>
 match f with
  |180=>some (e1P N a7)
  |_=>none
theorem f8K(a7:d2)(i7:SoundP Tryz.prog GW B0G c2M 138 (e1y fun x y=>a7 y.1.1 y.1.2.1 y.1.2.2.1)):∀f q F,f7R N a7 f q=some F->SoundP Tryz.prog GW B0G c2M f F:=by
 intro f q F h;unfold f7R at h;split at h
 ·cases h;exact d3x N a7 i7
 ·cases h
def e5L:Nat->Hint:=fun i=>
 match i with
 |_=>B8
abbrev e4M(a7:d2):Env:=a2Q e5L (e7H N a7) (f7R N a7) (fun _=>false) (fun _=>false)
theorem d1z(a7:d2)(i7:SoundP Tryz.prog GW B0G c2M 138 (e1y fun x y=>a7 y.1.1 y.1.2.1 y.1.2.2.1)):SoundP Tryz.prog GW B0G c2M 138 (d8T N a7):=
 a2x (e4M N a7) (L0 e5L (e7H N a7) (f7R N a7) _ _ (e7I N a7 i7) (f8K N a7 i7)) Tryz.func138 rfl Tryz.call138 (d8T N a7) (fun x y=>(x.1,y.1.1,y.1.2.1,y.1.2.2.1)) (fun _ _=>rfl) N (fun _ _=>by kernel_rfl) rfl
def Q4(N:Nat):Nat->τ6->Int->Int->Option (Except Int (GPart×List τ0×Int×Int))|0=>fun _ _ _=>none|d+1=>R7 N (Q4 N d)
theorem a0G(N:Nat):∀d,SoundP Tryz.prog GW B0G c2M 138 (e1y fun x y=>Q4 N d y.1.1 y.1.2.1 y.1.2.2.1)
 |0=>SoundP.never Tryz.call138 (fun _ _=>rfl)
 |d+1=>d1z N (Q4 N d) (a0G N d)
abbrev e1E:=sgM [.box 0 0,.v (.rc .part),V0] [.cells [V2,V0,V0]] [.v τ3] [.cells [V2,V0,V0]] (GExpr×List τ0×Int×Int) fun z=>((z.1,()),(z.2.1,z.2.2.1,z.2.2.2,()),())
def f44(_N:Nat)(j0:ρ9)(o:Int)(p:List GPart)(q:Int)(k0:ρ8)(self:Int->τ6->Int->Int->(List GExpr)->Option (GExpr×List τ0×Int×Int))(c:Int)(g:List τ0)(l m:Int)(e:List GExpr):Option (GExpr×List τ0×Int×Int):=br (decide (c<q)) (j8 (m7 p c) fun a=>j8 (j0 (GPart.mk a.kind a.text a.number a.keys a.at_ a.kids) o g l m) fun b=>br (Zf (e.length + [b.1].length) τ3) (self (IntKind.i64.wrap (c+1)) b.2.1 b.2.2.1 b.2.2.2 (e ++ [b.1])) none) (k0 g l m e)
def f59(N:Nat)(j0:ρ9)(a:Int)(b:List GPart)(c:Int)(k0:ρ8):Nat->Int->τ6->Int->Int->(List GExpr)->Option (GExpr×List τ0×Int×Int)|0,_,_,_,_,_=>none|n+1,e,g,l,m,o=>f44 N j0 a b c k0 (f59 N j0 a b c k0 n) e g l m o
def y3(j0:ρ9)(a:GPart)(e:Int)(p:List τ0)(q r:Int):Option (GExpr×List τ0×Int×Int):=j8 (W5 N a.at_ e p q r) fun b=>br (a.kind==0) (j8 (m7 a.kids 0) fun t=>j8 (j0 t (IntKind.i64.wrap (e+1)) b.1 b.2.1 b.2.2) fun c=>some (Ze c.1,c.2)) (br (a.kind !=7) (f59 N j0 (IntKind.i64.wrap (e+1)) a.kids (a.kids.length:Int) (fun g l m o=>some (GExpr.mk a.kind a.text a.number a.keys o,g,l,m)) N 0 b.1 b.2.1 b.2.2 []) (f59 N j0 e a.kids (a.kids.length:Int) (fun g l m o=>some (GExpr.mk a.kind a.text a.number a.keys o,g,l,m)) N 0 b.1 b.2.1 b.2.2 []))
abbrev e05:=sgM [.box 0 0,.v (.rc .part),V0] [.cells [V2,V0,V0]] [.v τ3] [.cells [V2,V0,V0]] (GExpr×List τ0×Int×Int) fun z=>((z.1,()),(z.2.1,z.2.2.1,z.2.2.2,()),())
abbrev d8U(j0:ρ9):AF:=e05 fun x y=>y3 N j0 x.2.1 x.2.2.1 y.1.1 y.1.2.1 y.1.2.2.1
abbrev f8M:SV [.v τ3]->BV [.cells [V2,V0,V0]]->(GExpr×List τ0×Int×Int):=fun x y=>(x.1,y.1.1,y.1.2.1,y.1.2.2.1)
def e7K(j0:ρ9):FuncId->Option Tmp->Option AF:=fun f _=>t7 [(73,d9c N),(137,e1E fun x y=>j0 x.2.1 x.2.2.1 y.1.1 y.1.2.1 y.1.2.2.1)] f
theorem e7L(j0:ρ9)(a0W:Sound Tryz.prog GW B0G 137 (e1E fun x y=>j0 x.2.1 x.2.2.1 y.1.1 y.1.2.1 y.1.2.2.1)):∀f q F,e7K N j0 f q=some F->Sound Tryz.prog GW B0G f F:=fun _ _ _ h=>D7 h (Q3 (d2Y N) (Q3 (a0W) lkn))
def f07:Nat->Hint:=fun i=>
 match i with
 |0=>⟨[],[0,2,6,7,36,37,38],[0,1006,1007,900001],[6,7],[0,1006,1007,900001],[(1007,4,900001,69,τ3)]⟩
 |100010=>⟨[1007,1009,900001],[],[],[],[],[]⟩
 |_=>B8
abbrev f1O(j0:ρ9):Env:=mkE f07 (e7K N j0) (fun _=>false) (fun _=>false)
abbrev f7p(j0:ρ9):=P5 (f1O N j0) Tryz.f137 (d8U N j0) f8M
noncomputable abbrev f6J:Code:=cAt (C3 Tryz.f137) [true,true,true,true,true,false,true,false,false]
abbrev f5u:List (Nat×Sl):=[(0,.box 0 0),(2,V0),(6,.box 1006 0),(7,.box 1007 0),(36,.v (.sl (.rc .part))),(37,V0),(38,V0)]
abbrev f5t:List (Nat×Sb):=[(0,.cells [V2,V0,V0]),(1006,.cells [V0,V1,V0,.nilS,.nilS]),(1007,.cells [V0,V1,V0,.v τ13,.row 900001]),(900001,.row 69 τ3 false)]
def f6a(a:Int)(b:List GPart)(c e:Int)(g:d9)(l m:Int)(o:d9)(p:Int)(q:List d9)(r:Int)(t:List τ0)(u w:Int)(B:List GExpr):St:=⟨53,[(0,.box 0 0),(2,.v τ2 a),(6,.box 1006 0),(7,.box 1007 0),(36,.v (.sl (.rc .part)) b),(37,.v τ2 c),(38,.v τ2 r)],[(0,.cells [.v (.sl τ1) t,.v τ2 u,.v τ2 w]),(1006,.cells [.v τ2 e,.v .str g,.v τ2 l,.nilS,.nilS]),(1007,.cells [.v τ2 m,.v .str o,.v τ2 p,.v τ13 q,.row 900001]),(900001,.row 69 τ3 false B)]⟩
def f3N(_t:Int)(_u:List GPart)(_w a:Int)(b:d9)(c e:Int)(g:d9)(l:Int)(m:List d9)(o:List τ0)(p q:Int)(r:List GExpr):St:=⟨53,[(6,.box 1006 0),(7,.box 1007 0)],[(0,.cells [.v (.sl τ1) o,.v τ2 p,.v τ2 q]),(1006,.cells [.v τ2 a,.v .str b,.v τ2 c,.nilS,.nilS]),(1007,.cells [.v τ2 e,.v .str g,.v τ2 l,.v τ13 m,.row 900001]),(900001,.row 69 τ3 false r)]⟩
def f9t(j0:ρ9)(a:Int)(b:List GPart)(c e:Int)(g:d9)(l m:Int)(o:d9)(p:Int)(q:List d9)(r:Int)(t:List τ0)(u v:Int)(w:List GExpr)(k:Ex->St->Option (GExpr×List τ0×Int×Int)):Option (GExpr×List τ0×Int×Int):=f59 N j0 a b c (fun B C D E=>k (.exit 0) (f3N a b c e g l m o p q B C D E)) N r t u v w
abbrev f7S(j0:ρ9):FV f5u->HV f5t->(Ex->St->Option (GExpr×List τ0×Int×Int))->Option (GExpr×List τ0×Int×Int):=fun x y k=>let z:=y.2.2.1;f9t N j0 x.2.1 x.2.2.2.2.1 x.2.2.2.2.2.1 y.2.1.1 y.2.1.2.1 y.2.1.2.2.1 z.1 z.2.1 z.2.2.1 z.2.2.2.1 x.2.2.2.2.2.2.1 y.1.1 y.1.2.1 y.1.2.2.1 y.2.2.2.1 k
def f6b(j0:ρ9):Nat->Code->St->(Ex->St->Option (GExpr×List τ0×Int×Int))->Option (GExpr×List τ0×Int×Int):=fun i c=>
 match i with
 |0=>(LPc 53 f5u f5t (f7S N j0) (fun st k=>iter (f07 0) (q7 (f1O N j0) N c 0) N st k))
 |i=>fun st k=>iter (f07 i) (q7 (f1O N j0) N c i) N st k
theorem f7o(j0:ρ9)(a:Int)(b:List GPart)(c p:Int)(q:d9)(r t:Int)(u:d9)(v:Int)(w:List d9)(KX:Nat->St->Option (GExpr×List τ0×Int×Int))(I:St->Option (GExpr×List τ0×Int×Int))(e:Int)(g:List τ0)(l m:Int)(o:List GExpr):
  s4 (f6b N j0) (f1O N j0) f6J 0 (f6a a b c p q r t u v w e g l m o) (I2 (f07 0) I KX (f7p N j0))=f44 N j0 a b c (fun B C D E=>KX 0 (f3N a b c p q r t u v w B C D E)) (fun e g l m o=>I (f6a a b c p q r t u v w e g l m o)) e g l m o:=by kernel_rfl
theorem f8L(j0:ρ9):∀x y k,(∀st,k .ret st=(f7p N j0) st)->iter (f07 0) (q7 (f1O N j0) N f6J 0) N ⟨53,unF f5u x,unH f5t y⟩ k=f7S N j0 x y k:=fun x y k hk=>
 s5 (S:=(Int)×τ6×(Int)×(Int)×(List GExpr)×Unit) (f07 0) _ (s4 (f6b N j0) (f1O N j0) f6J 0) (f7p N j0) (x9 _ _ N _ f6J 0 (show LoopsOk (f6b N j0) (f1O N j0) N (f7p N j0) []from trivial)) (fun s=>f6a x.2.1 x.2.2.2.2.1 x.2.2.2.2.2.1 y.2.1.1 y.2.1.2.1 y.2.1.2.2.1 y.2.2.1.1 y.2.2.1.2.1 y.2.2.1.2.2.1 y.2.2.1.2.2.2.1 s.1 s.2.1 s.2.2.1 s.2.2.2.1 s.2.2.2.2.1) k hk
  (fun self s=>f44 N j0 x.2.1 x.2.2.2.2.1 x.2.2.2.2.2.1 (fun a b c e=>k (.exit 0) (f3N x.2.1 x.2.2.2.2.1 x.2.2.2.2.2.1 y.2.1.1 y.2.1.2.1 y.2.1.2.2.1 y.2.2.1.1 y.2.2.1.2.1 y.2.2.1.2.2.1 y.2.2.1.2.2.2.1 a b c e)) (fun g l m o p=>self (g,l,m,o,p,())) s.1 s.2.1 s.2.2.1 s.2.2.2.1 s.2.2.2.2.1) (fun n s=>f59 N j0 x.2.1 x.2.2.2.2.1 x.2.2.2.2.2.1 (fun a b c e=>k (.exit 0) (f3N x.2.1 x.2.2.2.2.1 x.2.2.2.2.2.1 y.2.1.1 y.2.1.2.1 y.2.1.2.2.1 y.2.2.1.1 y.2.2.1.2.1 y.2.2.1.2.2.1 y.2.2.1.2.2.2.1 a b c e)) n s.1 s.2.1 s.2.2.1 s.2.2.2.1 s.2.2.2.2.1) (fun _=>rfl) (fun _ _=>rfl)
  (fun I s=>f7o N j0 x.2.1 x.2.2.2.2.1 x.2.2.2.2.2.1 y.2.1.1 y.2.1.2.1 y.2.1.2.2.1 y.2.2.1.1 y.2.2.1.2.1 y.2.2.1.2.2.1 y.2.2.1.2.2.2.1 (fun j=>k (.exit j)) I s.1 s.2.1 s.2.2.1 s.2.2.2.1 s.2.2.2.2.1) N (x.2.2.2.2.2.2.1,y.1.1,y.1.2.1,y.1.2.2.1,y.2.2.2.1,())
theorem f96(j0:ρ9):a1g (f6b N j0) (f1O N j0) N (f7p N j0) 0 f6J:=fun st k hk=>J8 53 f5u f5t _ _ (f7p N j0) (f8L N j0) _ st k hk (rfl)
theorem f9u(j0:ρ9)(x:SV [.box 0 0,.v (.rc .part),V0])(y:BV [.cells [V2,V0,V0]]):a0f (f1O N j0) Tryz.f137 (d8U N j0) f8M (f6b N j0) x y=y3 N j0 x.2.1 x.2.2.1 y.1.1 y.1.2.1 y.1.2.2.1:=by kernel_rfl
theorem c1Q(j0:ρ9)(a0W:Sound Tryz.prog GW B0G 137 (e1E fun x y=>j0 x.2.1 x.2.2.1 y.1.1 y.1.2.1 y.1.2.2.1)):Sound Tryz.prog GW B0G 137 (d8U N j0):=
 b48 (P8 f07 (e7K N j0) _ _ (e7L N j0 a0W)) Tryz.func137 rfl Tryz.call137 (d8U N j0) f8M (fun _ _=>rfl) N (f6b N j0) (show LoopsOk (f6b N j0) (f1O N j0) N (f7p N j0) [(0,f6J)]from⟨f96 N j0,trivial⟩) (f9u N j0)
def A3(N:Nat):Nat->GPart->Int->τ6->Int->Int->Option (GExpr×List τ0×Int×Int)|0=>fun _ _ _ _ _=>none|d+1=>y3 N (A3 N d)
theorem d21(N:Nat):∀d,Sound Tryz.prog GW B0G 137 (e1E fun x y=>A3 N d x.2.1 x.2.2.1 y.1.1 y.1.2.1 y.1.2.2.1)
 |0=>Sound.never Tryz.call137 (fun _ _=>rfl)
 |d+1=>c1Q N (A3 N d) (d21 N d)
def B6(c:Int)(e:List τ0)(g l:Int):Option (Except Int (GExpr×List τ0×Int×Int)):=m8 (Q4 N N e g l) fun b=>j8 (A3 N N b.1 (IntKind.i64.wrap (c+1)) b.2.1 b.2.2.1 b.2.2.2) fun a=>some (.ok (Ze a.1,a.2))
abbrev e1r(f:SV [.box 0 0,V0]->BV [.cells [V2,V0,V0]]->Option (Except Int (GExpr×List τ0×Int×Int))):PF:={ps:=[.box 0 0,V0],bs:=[.cells [V2,V0,V0]],rs:=[.v τ3],cs:=[.cells [V2,V0,V0]],R:=GExpr×List τ0×Int×Int,out:=fun z=>((z.1,()),(z.2.1,z.2.2.1,z.2.2.2,()),()),f:=f}
abbrev d9a:PF:=e1r fun x y=>B6 N x.2.1 y.1.1 y.1.2.1 y.1.2.2.1
def f3z:FuncId->Option Tmp->Option AF:=fun f _=>t7 [(137,e1E fun x y=>A3 N N x.2.1 x.2.2.1 y.1.1 y.1.2.1 y.1.2.2.1)] f
theorem f3A:a1f (f3z N):=fun _ _ _ h=>D7 h (Q3 (d21 N N) lkn)
def f7U:FuncId->Option Tmp->Option PF:=fun f _=>
 match f with
  |138=>some (e1y fun _ y=>Q4 N N y.1.1 y.1.2.1 y.1.2.2.1)
  |_=>none
theorem f8P:∀f q F,f7U N f q=some F->SoundP Tryz.prog GW B0G c2M f F:=by
 intro f q F h;unfold f7U at h;split at h
 ·cases h;exact a0G N N
 ·cases h
def e3G:Nat->Hint:=fun i=>
 match i with
 |_=>B8
abbrev f1z:Env:=a2Q e3G (f3z N) (f7U N) (fun _=>false) (fun _=>false)
theorem d2G:SoundP Tryz.prog GW B0G c2M 81 (d9a N):=
 a2x (f1z N) (L0 e3G (f3z N) (f7U N) _ _ (f3A N) (f8P N)) Tryz.func81 rfl Tryz.call81 (d9a N) (fun x y=>(x.1,y.1.1,y.1.2.1,y.1.2.2.1)) (fun _ _=>rfl) N (fun _ _=>by kernel_rfl) rfl
end
end Go.Proofs.YtolpmfhiegpohaaGreatDoor
