/- What functions of the program compute, as plain functions (printed). -/
import Derived.Test.YtolpmfhiegpohaaGreatDoorQPaF6
namespace Go.Proofs.YtolpmfhiegpohaaGreatDoor
open Go Go.RowKit
set_option maxRecDepth 100000
set_option linter.unusedVariables false
noncomputable section
variable(N:Nat)
def J8(a7:H2)(ab:List τ0)(ac ad:Int):Option (Except Int (GPart×List τ0×Int×Int)):=f5 (L8 N ab ac ad) fun a=>br ((a.2.1.length:Int)==0) (l7 (o8 N a.2.1 a.2.2.1 a.2.2.2) fun b=>f5 (l6 b.1 0) fun J=>br (J.1==2) (l7 (p9 N b.1 b.2.1 b.2.2) fun V=>some (.ok (GPart.mk 1 V.1 0 [] a.1 [],V.2))) (br (J.1==3) (f5 (slc b.1 1 (b.1.length:Int)) fun ae=>some (.ok (GPart.mk 2 [] J.2.2.1 [] a.1 [],(ae,b.2)))) (f5 (j6 N 4 [40] b.1 b.2.1 b.2.2) fun u=>br (u.1) (l7 (v6 N a7 0 [] 0 a.1 u.2.1 u.2.2.1 u.2.2.2) fun g=>l7 (g8 N [41] g.2.2.2.2.1 g.2.2.2.2.2.1 g.2.2.2.2.2.2.1) fun af=>some (.ok (GPart.mk g.1 g.2.1 g.2.2.1 [] g.2.2.2.1 g.2.2.2.2.2.2.2,af))) (f5 (j6 N 4 [91] u.2.1 u.2.2.1 u.2.2.2) fun v=>br (v.1) (l7 (D5 N a7 [93] true v.2.1 v.2.2.1 v.2.2.2 4 [] 0 a.1) fun l=>some (.ok (GPart.mk l.2.2.2.1 l.2.2.2.2.1 l.2.2.2.2.2.1 [] l.2.2.2.2.2.2.1 l.2.2.2.2.2.2.2,(l.1,(l.2.1,l.2.2.1))))) (f5 (j6 N 1 [102,105,108,101,115] v.2.1 v.2.2.1 v.2.2.2) fun w=>br (w.1) (l7 (g8 N [40] w.2.1 w.2.2.1 w.2.2.2) fun K=>l7 (v6 N a7 5 [] 0 a.1 K.1 K.2.1 K.2.2) fun m=>l7 (g8 N [44] m.2.2.2.2.1 m.2.2.2.2.2.1 m.2.2.2.2.2.2.1) fun L=>l7 (z6 N a7 m.1 m.2.1 m.2.2.1 m.2.2.2.1 m.2.2.2.2.2.2.2 L.1 L.2.1 L.2.2) fun o=>l7 (g8 N [41] o.2.2.2.2.2.1 o.2.2.2.2.2.2.1 o.2.2.2.2.2.2.2) fun ag=>some (.ok (GPart.mk o.1 o.2.1 o.2.2.1 [] o.2.2.2.1 o.2.2.2.2.1,ag))) (f5 (j6 N 1 [99,104,111,111,115,101] w.2.1 w.2.2.1 w.2.2.2) fun B=>br (B.1) (l7 (g8 N [123] B.2.1 B.2.2.1 B.2.2.2) fun O=>l7 (H0 N a7 [125] false O.1 O.2.1 O.2.2 6 [] 0 a.1) fun c=>some (.ok (GPart.mk c.2.2.2.1 c.2.2.2.2.1 c.2.2.2.2.2.1 c.2.2.2.2.2.2.1 c.2.2.2.2.2.2.2.1 c.2.2.2.2.2.2.2.2,(c.1,(c.2.1,c.2.2.1))))) (l7 (l9 N B.2.1 B.2.2.1 B.2.2.2) fun W=>some (.ok (GPart.mk 3 W.1 0 [] a.1 [],W.2))))))))) (f5 (l6 a.2.1 0) fun Q=>br (Q.1==2) (l7 (p9 N a.2.1 a.2.2.1 a.2.2.2) fun Y=>some (.ok (GPart.mk 1 Y.1 0 [] a.1 [],Y.2))) (br (Q.1==3) (f5 (slc a.2.1 1 (a.2.1.length:Int)) fun ah=>some (.ok (GPart.mk 2 [] Q.2.2.1 [] a.1 [],(ah,a.2.2)))) (f5 (j6 N 4 [40] a.2.1 a.2.2.1 a.2.2.2) fun C=>br (C.1) (l7 (v6 N a7 0 [] 0 a.1 C.2.1 C.2.2.1 C.2.2.2) fun p=>l7 (g8 N [41] p.2.2.2.2.1 p.2.2.2.2.2.1 p.2.2.2.2.2.2.1) fun ai=>some (.ok (GPart.mk p.1 p.2.1 p.2.2.1 [] p.2.2.2.1 p.2.2.2.2.2.2.2,ai))) (f5 (j6 N 4 [91] C.2.1 C.2.2.1 C.2.2.2) fun D=>br (D.1) (l7 (D5 N a7 [93] true D.2.1 D.2.2.1 D.2.2.2 4 [] 0 a.1) fun q=>some (.ok (GPart.mk q.2.2.2.1 q.2.2.2.2.1 q.2.2.2.2.2.1 [] q.2.2.2.2.2.2.1 q.2.2.2.2.2.2.2,(q.1,(q.2.1,q.2.2.1))))) (f5 (j6 N 1 [102,105,108,101,115] D.2.1 D.2.2.1 D.2.2.2) fun E=>br (E.1) (l7 (g8 N [40] E.2.1 E.2.2.1 E.2.2.2) fun R=>l7 (v6 N a7 5 [] 0 a.1 R.1 R.2.1 R.2.2) fun r=>l7 (g8 N [44] r.2.2.2.2.1 r.2.2.2.2.2.1 r.2.2.2.2.2.2.1) fun T=>l7 (z6 N a7 r.1 r.2.1 r.2.2.1 r.2.2.2.1 r.2.2.2.2.2.2.2 T.1 T.2.1 T.2.2) fun t=>l7 (g8 N [41] t.2.2.2.2.2.1 t.2.2.2.2.2.2.1 t.2.2.2.2.2.2.2) fun aj=>some (.ok (GPart.mk t.1 t.2.1 t.2.2.1 [] t.2.2.2.1 t.2.2.2.2.1,aj))) (f5 (j6 N 1 [99,104,111,111,115,101] E.2.1 E.2.2.1 E.2.2.2) fun H=>br (H.1) (l7 (g8 N [123] H.2.1 H.2.2.1 H.2.2.2) fun U=>l7 (H0 N a7 [125] false U.1 U.2.1 U.2.2 6 [] 0 a.1) fun e=>some (.ok (GPart.mk e.2.2.2.1 e.2.2.2.2.1 e.2.2.2.2.2.1 e.2.2.2.2.2.2.1 e.2.2.2.2.2.2.2.1 e.2.2.2.2.2.2.2.2,(e.1,(e.2.1,e.2.2.1))))) (l7 (l9 N H.2.1 H.2.2.1 H.2.2.2) fun aa=>some (.ok (GPart.mk 3 aa.1 0 [] a.1 [],aa.2)))))))))
abbrev e3w(f:SV [.box 0 0]->BV [.cells [V3,V0,V0]]->Option (Except Int (GPart×List τ0×Int×Int))):PF:={ps:=[.box 0 0],bs:=[.cells [V3,V0,V0]],rs:=[.v (.rc .part)],cs:=[.cells [V3,V0,V0]],R:=GPart×List τ0×Int×Int,out:=fun z=>((z.1,()),((z.2.1,z.2.2.1,z.2.2.2,()),())),f:=f}
abbrev e0Y(a7:H2):PF:=e3w fun _ y=>J8 N a7 y.1.1 y.1.2.1 y.1.2.2.1
def d4v(a7:H2):FuncId->Option Tmp->Option AF:=fun f _=>O5 [(72,d7Z N),(74,b0f N)] f
theorem d4w(a7:H2)(d2:SoundP Tryz.prog GW B7 c2n 138 (G6 fun x y=>a7 y.1.1 y.1.2.1 y.1.2.2.1)):∀f q F,d4v N a7 f q=some F->Sound Tryz.prog GW B7 f F:=fun _ _ _ h=>o6 h (v8 (b6s N) (v8 (R7 N) G7))
def c6r(a7:H2):FuncId->Option Tmp->Option PF:=fun f q=>
 match f with
  |75=>some (c1N N)
  |76=>some (b0e N)
  |77=>match q with|some 72=>some (d3c N a7)|some 97=>some (d3j N a7)|_=>none
  |82=>some (c8G N)
  |136=>some (c8F N)
  |258=>match q with|some 62=>some (d23 N a7)|some 81=>some (d23 N a7)|some 85=>some (d6V N a7)|_=>none
  |_=>none
theorem d4x(a7:H2)(d2:SoundP Tryz.prog GW B7 c2n 138 (G6 fun x y=>a7 y.1.1 y.1.2.1 y.1.2.2.1)):∀f q F,c6r N a7 f q=some F->SoundP Tryz.prog GW B7 c2n f F:=by
 intro f q F h
 unfold c6r at h
 split at h
 ·cases h;exact a25 N
 ·cases h;exact R6 N
 ·split at h
  ·cases h;exact d3f N a7 d2
  ·cases h;exact d3m N a7 d2
  ·cases h
 ·cases h;exact b0g N
 ·cases h;exact a5u N
 ·split at h
  ·cases h;exact b5D N a7 d2
  ·cases h;exact b5D N a7 d2
  ·cases h;exact c1A N a7 d2
  ·cases h
 ·cases h
def e3v:Nat->Hint:=fun i=>
 match i with
 |100010=>⟨[1004],[],[],[],[],[]⟩
 |100011=>⟨[0,1001],[],[],[],[],[]⟩
 |_=>o3
abbrev e5s(a7:H2):Env:=a0I e3v (d4v N a7) (c6r N a7) (fun _=>false) (fun i=>match i with|258=>true|259=>true|_=>false)
theorem d4y(a7:H2)(d2:SoundP Tryz.prog GW B7 c2n 138 (G6 fun x y=>a7 y.1.1 y.1.2.1 y.1.2.2.1)):SoundP Tryz.prog GW B7 c2n 223 (e0Y N a7):=
 a0p (e5s N a7) (D6 e3v (d4v N a7) (c6r N a7) _ _ (d4w N a7 d2) (d4x N a7 d2)) Tryz.func223 rfl Tryz.call223 (e0Y N a7) (fun x y=>(x.1,y.1.1,y.1.2.1,y.1.2.2.1)) (fun _ _=>rfl) N (fun _ _=>by kernel_rfl) rfl
def b6g(a7:H2)(o:Int)(k0 self:ρ9)(p:List τ0)(q r c:Int)(e:c8)(g:Int)(l:List c8)(t:Unit)(m:List GPart):Option (Except Int (GPart×List τ0×Int×Int)):=f5 (j6 N 4 [43] p q r) fun b=>br (b.1) (l7 (J8 N a7 b.2.1 b.2.2.1 b.2.2.2) fun a=>self a.2.1 a.2.2.1 a.2.2.2 7 [] 0 [] () [GPart.mk c e g l o m,GPart.mk a.1.kind a.1.text a.1.number a.1.keys a.1.at_ a.1.kids]) (k0 b.2.1 b.2.2.1 b.2.2.2 c e g l t m)
def b8t(N:Nat)(a7:H2)(a:Int)(k0:ρ9):Nat->τ5->Int->Int->Int->c8->Int->τ23->Unit->(List GPart)->Option (Except Int (GPart×List τ0×Int×Int))|0,_,_,_,_,_,_,_,_,_=>none|n+1,b,c,e,g,l,m,o,p,q=>b6g N a7 a k0 (b8t N a7 a k0 n) b c e g l m o p q
def G2(a7:H2)(b:List τ0)(c e:Int):Option (Except Int (GPart×List τ0×Int×Int)):=l7 (J8 N a7 b c e) fun a=>b8t N a7 a.1.at_ (fun g l m o p q r _ t=>some (.ok (GPart.mk o p q r a.1.at_ t,(g,(l,m))))) N a.2.1 a.2.2.1 a.2.2.2 a.1.kind a.1.text a.1.number a.1.keys () a.1.kids
abbrev e3y(f:SV [.box 0 0]->BV [.cells [V3,V0,V0]]->Option (Except Int (GPart×List τ0×Int×Int))):PF:={ps:=[.box 0 0],bs:=[.cells [V3,V0,V0]],rs:=[.v (.rc .part)],cs:=[.cells [V3,V0,V0]],R:=GPart×List τ0×Int×Int,out:=fun z=>((z.1,()),((z.2.1,z.2.2.1,z.2.2.2,()),())),f:=f}
abbrev d4J(a7:H2):PF:=e3y fun _ y=>G2 N a7 y.1.1 y.1.2.1 y.1.2.2.1
abbrev d4L:SV [.v (.rc .part)]->BV [.cells [V3,V0,V0]]->(GPart×List τ0×Int×Int):=fun x y=>(x.1,y.1.1,y.1.2.1,y.1.2.2.1)
abbrev d8R:SV [.v (.rc .part)]->BV [.cells [V3,V0,V0]]->Except Int (GPart×List τ0×Int×Int):=fun x y=> .ok (d4L x y)
def d4H(a7:H2):FuncId->Option Tmp->Option AF:=fun f _=>O5 [(74,b0f N)] f
theorem d4I(a7:H2)(d2:SoundP Tryz.prog GW B7 c2n 138 (G6 fun x y=>a7 y.1.1 y.1.2.1 y.1.2.2.1)):∀f q F,d4H N a7 f q=some F->Sound Tryz.prog GW B7 f F:=fun _ _ _ h=>o6 h (v8 (R7 N) G7)
def c6v(a7:H2):FuncId->Option Tmp->Option PF:=fun f _=>
 match f with
  |223=>some (e0Y N a7)
  |_=>none
theorem d4K(a7:H2)(d2:SoundP Tryz.prog GW B7 c2n 138 (G6 fun x y=>a7 y.1.1 y.1.2.1 y.1.2.2.1)):∀f q F,c6v N a7 f q=some F->SoundP Tryz.prog GW B7 c2n f F:=by
 intro f q F h
 unfold c6v at h
 split at h
 ·cases h;exact d4y N a7 d2
 ·cases h
def c4C:Nat->Hint:=fun i=>
 match i with
 |0=>⟨[16],[0,2,3],[0,1002,1003],[2,3],[0,1002,1003],[]⟩
 |_=>o3
abbrev b6f(a7:H2):Env:=a0I c4C (d4H N a7) (c6v N a7) (fun _=>false) (fun _=>false)
abbrev c4B(a7:H2):=A8 (b6f N a7) Tryz.f180 (PF.tf (d4J N a7)) d8R
noncomputable abbrev b8u:Code:=V7 (m9 Tryz.f180) [true,true,false,false,false]
abbrev b0k:List (Nat×Sl):=[(0,.box 0 0),(2,.box 1002 0),(3,.box 1003 0)]
abbrev b0j:List (Nat×Sb):=[(0,.cells [V3,V0,V0]),(1002,.cells [V0,V1,V0,.nilS,.nilS,V0,.nilS]),(1003,.cells [V0,V1,V0,V4,.v .nl,V0,.v (.sl (.rc .part))])]
def b6h(a:Int)(b:c8)(c e g:Int)(l:List τ0)(m o p:Int)(q:c8)(r:Int)(t:List c8)(u:Unit)(w:List GPart):St:=⟨19,[(0,.box 0 0),(2,.box 1002 0),(3,.box 1003 0)],[(0,.cells [.v (.sl τ1) l,.v τ2 m,.v τ2 o]),(1002,.cells [.v τ2 a,.v .str b,.v τ2 c,.nilS,.nilS,.v τ2 e,.nilS]),(1003,.cells [.v τ2 p,.v .str q,.v τ2 r,.v V6 t,.v .nl u,.v τ2 g,.v (.sl (.rc .part)) w])]⟩
def a69(a:Int)(b:c8)(c e g:Int)(l:List τ0)(m o p:Int)(q:c8)(r:Int)(t:List c8)(u:Unit)(w:List GPart):St:=⟨19,[(2,.box 1002 0),(3,.box 1003 0)],[(0,.cells [.v (.sl τ1) l,.v τ2 m,.v τ2 o]),(1002,.cells [.v τ2 a,.v .str b,.v τ2 c,.nilS,.nilS,.v τ2 e,.nilS]),(1003,.cells [.v τ2 p,.v .str q,.v τ2 r,.v V6 t,.v .nl u,.v τ2 g,.v (.sl (.rc .part)) w])]⟩
def d7M(a7:H2)(b:Int)(c:c8)(e g a:Int)(l:List τ0)(m o p:Int)(q:c8)(r:Int)(t:List c8)(u:Unit)(v:List GPart)(k:Ex->St->Option (Except Int (GPart×List τ0×Int×Int))):Option (Except Int (GPart×List τ0×Int×Int)):=b8t N a7 a (fun w B C D E H J K L=>k (.exit 0) (a69 b c e g a w B C D E H J K L)) N l m o p q r t u v
abbrev c6u(a7:H2):FV b0k->HV b0j->(Ex->St->Option (Except Int (GPart×List τ0×Int×Int)))->Option (Except Int (GPart×List τ0×Int×Int)):=fun _ y k=>d7M N a7 y.2.1.1 y.2.1.2.1 y.2.1.2.2.1 y.2.1.2.2.2.2.2.1 y.2.2.1.2.2.2.2.2.1 y.1.1 y.1.2.1 y.1.2.2.1 y.2.2.1.1 y.2.2.1.2.1 y.2.2.1.2.2.1 y.2.2.1.2.2.2.1 y.2.2.1.2.2.2.2.1 y.2.2.1.2.2.2.2.2.2.1 k
def b6i(a7:H2):Nat->Code->St->(Ex->St->Option (Except Int (GPart×List τ0×Int×Int)))->Option (Except Int (GPart×List τ0×Int×Int)):=fun i c=>
 match i with
 |0=>(LPc 19 b0k b0j (c6u N a7) (fun st k=>iter (c4C 0) (k6 (b6f N a7) N c 0) N st k))
 |i=>fun st k=>iter (c4C i) (k6 (b6f N a7) N c i) N st k
theorem c4A(a7:H2)(r:Int)(t:c8)(u v a:Int)(KX:Nat->St->Option (Except Int (GPart×List τ0×Int×Int)))(I:St->Option (Except Int (GPart×List τ0×Int×Int)))(b:List τ0)(c e g:Int)(l:c8)(m:Int)(o:List c8)(p:Unit)(q:List GPart):
  k7 (b6i N a7) (b6f N a7) b8u 0 (b6h r t u v a b c e g l m o p q) (p6 (c4C 0) I KX (c4B N a7))=b6g N a7 a (fun w B C D E H J K L=>KX 0 (a69 r t u v a w B C D E H J K L)) (fun b c e g l m o p q=>I (b6h r t u v a b c e g l m o p q)) b c e g l m o p q:=by kernel_rfl
theorem d4G(a7:H2):∀x y k,(∀st,k .ret st=(c4B N a7) st)->iter (c4C 0) (k6 (b6f N a7) N b8u 0) N ⟨19,Y7 b0k x,Y8 b0j y⟩ k=c6u N a7 x y k:=fun _ y k hk=>
 j9 (S:=τ5×(Int)×(Int)×(Int)×(c8)×(Int)×τ23×(Unit)×(List GPart)×Unit) (c4C 0) _ (k7 (b6i N a7) (b6f N a7) b8u 0) (c4B N a7) (k9 _ _ N _ b8u 0 (show LoopsOk (b6i N a7) (b6f N a7) N (c4B N a7) []from trivial)) (fun s=>b6h y.2.1.1 y.2.1.2.1 y.2.1.2.2.1 y.2.1.2.2.2.2.2.1 y.2.2.1.2.2.2.2.2.1 s.1 s.2.1 s.2.2.1 s.2.2.2.1 s.2.2.2.2.1 s.2.2.2.2.2.1 s.2.2.2.2.2.2.1 s.2.2.2.2.2.2.2.1 s.2.2.2.2.2.2.2.2.1) k hk
  (fun self s=>b6g N a7 y.2.2.1.2.2.2.2.2.1 (fun a b c e g l m o p=>k (.exit 0) (a69 y.2.1.1 y.2.1.2.1 y.2.1.2.2.1 y.2.1.2.2.2.2.2.1 y.2.2.1.2.2.2.2.2.1 a b c e g l m o p)) (fun q r t u v w B C D=>self (q,r,t,u,v,w,B,C,D,())) s.1 s.2.1 s.2.2.1 s.2.2.2.1 s.2.2.2.2.1 s.2.2.2.2.2.1 s.2.2.2.2.2.2.1 s.2.2.2.2.2.2.2.1 s.2.2.2.2.2.2.2.2.1) (fun n s=>b8t N a7 y.2.2.1.2.2.2.2.2.1 (fun a b c e g l m o p=>k (.exit 0) (a69 y.2.1.1 y.2.1.2.1 y.2.1.2.2.1 y.2.1.2.2.2.2.2.1 y.2.2.1.2.2.2.2.2.1 a b c e g l m o p)) n s.1 s.2.1 s.2.2.1 s.2.2.2.1 s.2.2.2.2.1 s.2.2.2.2.2.1 s.2.2.2.2.2.2.1 s.2.2.2.2.2.2.2.1 s.2.2.2.2.2.2.2.2.1) (fun _=>rfl) (fun _ _=>rfl)
  (fun I s=>c4A N a7 y.2.1.1 y.2.1.2.1 y.2.1.2.2.1 y.2.1.2.2.2.2.2.1 y.2.2.1.2.2.2.2.2.1 (fun j=>k (.exit j)) I s.1 s.2.1 s.2.2.1 s.2.2.2.1 s.2.2.2.2.1 s.2.2.2.2.2.1 s.2.2.2.2.2.2.1 s.2.2.2.2.2.2.2.1 s.2.2.2.2.2.2.2.2.1) N (y.1.1,y.1.2.1,y.1.2.2.1,y.2.2.1.1,y.2.2.1.2.1,y.2.2.1.2.2.1,y.2.2.1.2.2.2.1,y.2.2.1.2.2.2.2.1,y.2.2.1.2.2.2.2.2.2.1,())
theorem e00(a7:H2):F7 (b6i N a7) (b6f N a7) N (c4B N a7) 0 b8u:=fun st k hk=>p8 19 b0k b0j _ _ (c4B N a7) (d4G N a7) _ st k hk (rfl)
theorem d7N(a7:H2)(x:SV [.box 0 0])(y:BV [.cells [V3,V0,V0]]):F5 (b6f N a7) Tryz.f180 (PF.tf (d4J N a7)) d8R (b6i N a7) x y=G2 N a7 y.1.1 y.1.2.1 y.1.2.2.1:=by kernel_rfl
theorem d4M(a7:H2)(d2:SoundP Tryz.prog GW B7 c2n 138 (G6 fun x y=>a7 y.1.1 y.1.2.1 y.1.2.2.1)):SoundP Tryz.prog GW B7 c2n 180 (d4J N a7):=
 b4k (b6f N a7) (D6 c4C (d4H N a7) (c6v N a7) _ _ (d4I N a7 d2) (d4K N a7 d2)) Tryz.func180 rfl Tryz.call180 (d4J N a7) d4L (fun _ _=>rfl) N (b6i N a7) (show LoopsOk (b6i N a7) (b6f N a7) N (c4B N a7) [(0,b8u)]from⟨e00 N a7,trivial⟩) (d7N N a7)
def J2(a7:H2)(e:List τ0)(g l:Int):Option (Except Int (GPart×List τ0×Int×Int)):=l7 (G2 N a7 e g l) fun a=>f5 (j6 N 4 [61,61] a.2.1 a.2.2.1 a.2.2.2) fun c=>br (!c.1) (some (.ok (GPart.mk a.1.kind a.1.text a.1.number a.1.keys a.1.at_ a.1.kids,c.2))) (l7 (G2 N a7 c.2.1 c.2.2.1 c.2.2.2) fun b=>some (.ok (GPart.mk 8 [] 0 [] a.1.at_ [GPart.mk a.1.kind a.1.text a.1.number a.1.keys a.1.at_ a.1.kids,GPart.mk b.1.kind b.1.text b.1.number b.1.keys b.1.at_ b.1.kids],b.2)))
abbrev e2C(f:SV [.box 0 0]->BV [.cells [V3,V0,V0]]->Option (Except Int (GPart×List τ0×Int×Int))):PF:={ps:=[.box 0 0],bs:=[.cells [V3,V0,V0]],rs:=[.v (.rc .part)],cs:=[.cells [V3,V0,V0]],R:=GPart×List τ0×Int×Int,out:=fun z=>((z.1,()),((z.2.1,z.2.2.1,z.2.2.2,()),())),f:=f}
abbrev e2A(a7:H2):PF:=e2C fun _ y=>J2 N a7 y.1.1 y.1.2.1 y.1.2.2.1
def d2f(a7:H2):FuncId->Option Tmp->Option AF:=fun f _=>O5 [(74,b0f N)] f
theorem d2g(a7:H2)(d2:SoundP Tryz.prog GW B7 c2n 138 (G6 fun x y=>a7 y.1.1 y.1.2.1 y.1.2.2.1)):∀f q F,d2f N a7 f q=some F->Sound Tryz.prog GW B7 f F:=fun _ _ _ h=>o6 h (v8 (R7 N) G7)
def c5X(a7:H2):FuncId->Option Tmp->Option PF:=fun f _=>
 match f with
  |180=>some (d4J N a7)
  |_=>none
theorem d2h(a7:H2)(d2:SoundP Tryz.prog GW B7 c2n 138 (G6 fun x y=>a7 y.1.1 y.1.2.1 y.1.2.2.1)):∀f q F,c5X N a7 f q=some F->SoundP Tryz.prog GW B7 c2n f F:=by
 intro f q F h
 unfold c5X at h
 split at h
 ·cases h;exact d4M N a7 d2
 ·cases h
def e2B:Nat->Hint:=fun i=>
 match i with
 |_=>o3
abbrev e47(a7:H2):Env:=a0I e2B (d2f N a7) (c5X N a7) (fun _=>false) (fun _=>false)
theorem d2i(a7:H2)(d2:SoundP Tryz.prog GW B7 c2n 138 (G6 fun x y=>a7 y.1.1 y.1.2.1 y.1.2.2.1)):SoundP Tryz.prog GW B7 c2n 138 (e2A N a7):=
 a0p (e47 N a7) (D6 e2B (d2f N a7) (c5X N a7) _ _ (d2g N a7 d2) (d2h N a7 d2)) Tryz.func138 rfl Tryz.call138 (e2A N a7) (fun x y=>(x.1,y.1.1,y.1.2.1,y.1.2.2.1)) (fun _ _=>rfl) N (fun _ _=>by kernel_rfl) rfl
def I2(N:Nat):Nat->τ5->Int->Int->Option (Except Int (GPart×List τ0×Int×Int))|0=>fun _ _ _=>none|d+1=>J2 N (I2 N d)
theorem c1J(N:Nat):∀d,SoundP Tryz.prog GW B7 c2n 138 (G6 fun x y=>I2 N d y.1.1 y.1.2.1 y.1.2.2.1)
 |0=>SoundP.never Tryz.call138 (fun _ _=>rfl)
 |d+1=>d2i N (I2 N d) (c1J N d)
abbrev c1L:=P4 [.box 0 0,.v (.rc .part),V0] [.cells [V3,V0,V0]] [.v τ4] [.cells [V3,V0,V0]] (GExpr×List τ0×Int×Int) fun z=>((z.1,()),((z.2.1,z.2.2.1,z.2.2.2,()),()))
def a8H(_N:Nat)(d3:ρ17)(o:Int)(p:List GPart)(q:Int)(k0:ρ16)(self:Int->τ5->Int->Int->(List GExpr)->Option (GExpr×List τ0×Int×Int))(c:Int)(g:List τ0)(l m:Int)(e:List GExpr):Option (GExpr×List τ0×Int×Int):=br (decide (c<q)) (f5 (l6 p c) fun a=>f5 (d3 (GPart.mk a.kind a.text a.number a.keys a.at_ a.kids) o g l m) fun b=>br (decide ((e.length + [b.1].length)*(24*Ty.sz τ4)<=140737488355328)) (self (IntKind.i64.wrap (c+1)) b.2.1 b.2.2.1 b.2.2.2 (e ++ [b.1])) none) (k0 g l m e)
def b5o(N:Nat)(d3:ρ17)(a:Int)(b:List GPart)(c:Int)(k0:ρ16):Nat->Int->τ5->Int->Int->(List GExpr)->Option (GExpr×List τ0×Int×Int)|0,_,_,_,_,_=>none|n+1,e,g,l,m,o=>a8H N d3 a b c k0 (b5o N d3 a b c k0 n) e g l m o
def s4(d3:ρ17)(a:GPart)(e:Int)(p:List τ0)(q r:Int):Option (GExpr×List τ0×Int×Int):=f5 (M8 N a.at_ e p q r) fun b=>br (a.kind==0) (f5 (l6 a.kids 0) fun t=>f5 (d3 t (IntKind.i64.wrap (e+1)) b.1 b.2.1 b.2.2) fun c=>some (GExpr.mk c.1.kind c.1.text c.1.number c.1.keys c.1.kids,c.2)) (br (a.kind !=7) (b5o N d3 (IntKind.i64.wrap (e+1)) a.kids (a.kids.length:Int) (fun g l m o=>some (GExpr.mk a.kind a.text a.number a.keys o,(g,(l,m)))) N 0 b.1 b.2.1 b.2.2 []) (b5o N d3 e a.kids (a.kids.length:Int) (fun g l m o=>some (GExpr.mk a.kind a.text a.number a.keys o,(g,(l,m)))) N 0 b.1 b.2.1 b.2.2 []))
abbrev e2D:=P4 [.box 0 0,.v (.rc .part),V0] [.cells [V3,V0,V0]] [.v τ4] [.cells [V3,V0,V0]] (GExpr×List τ0×Int×Int) fun z=>((z.1,()),((z.2.1,z.2.2.1,z.2.2.2,()),()))
abbrev d61(d3:ρ17):AF:=e2D fun x y=>s4 N d3 x.2.1 x.2.2.1 y.1.1 y.1.2.1 y.1.2.2.1
abbrev d2m:SV [.v τ4]->BV [.cells [V3,V0,V0]]->(GExpr×List τ0×Int×Int):=fun x y=>(x.1,y.1.1,y.1.2.1,y.1.2.2.1)
def d2k(d3:ρ17):FuncId->Option Tmp->Option AF:=fun f _=>O5 [(73,d7H N),(137,c1L fun x y=>d3 x.2.1 x.2.2.1 y.1.1 y.1.2.1 y.1.2.2.1)] f
theorem d2l(d3:ρ17)(T0:Sound Tryz.prog GW B7 137 (c1L fun x y=>d3 x.2.1 x.2.2.1 y.1.1 y.1.2.1 y.1.2.2.1)):∀f q F,d2k N d3 f q=some F->Sound Tryz.prog GW B7 f F:=fun _ _ _ h=>o6 h (v8 (c1K N) (v8 (T0) G7))
def c3V:Nat->Hint:=fun i=>
 match i with
 |0=>⟨[],[0,2,6,7,36,37,38],[0,1006,1007,900001],[6,7],[0,1006,1007,900001],[(1007,4,900001,69,τ4)]⟩
 |100010=>⟨[1007,1009,900001],[],[],[],[],[]⟩
 |_=>o3
abbrev b6X(d3:ρ17):Env:=S9 c3V (d2k N d3) (fun _=>false) (fun _=>false)
abbrev c3U(d3:ρ17):=A8 (b6X N d3) Tryz.f137 (d61 N d3) d2m
noncomputable abbrev b8h:Code:=V7 (m9 Tryz.f137) [true,true,true,true,true,false,true,false,false]
abbrev a9G:List (Nat×Sl):=[(0,.box 0 0),(2,V0),(6,.box 1006 0),(7,.box 1007 0),(36,.v (.sl (.rc .part))),(37,V0),(38,V0)]
abbrev a9F:List (Nat×Sb):=[(0,.cells [V3,V0,V0]),(1006,.cells [V0,V1,V0,.nilS,.nilS]),(1007,.cells [V0,V1,V0,V4,.row 900001]),(900001,.row 69 τ4 false)]
def b5p(a:Int)(b:List GPart)(c e:Int)(g:c8)(l m:Int)(o:c8)(p:Int)(q:List c8)(r:Int)(t:List τ0)(u w:Int)(B:List GExpr):St:=⟨53,[(0,.box 0 0),(2,.v τ2 a),(6,.box 1006 0),(7,.box 1007 0),(36,.v (.sl (.rc .part)) b),(37,.v τ2 c),(38,.v τ2 r)],[(0,.cells [.v (.sl τ1) t,.v τ2 u,.v τ2 w]),(1006,.cells [.v τ2 e,.v .str g,.v τ2 l,.nilS,.nilS]),(1007,.cells [.v τ2 m,.v .str o,.v τ2 p,.v V6 q,.row 900001]),(900001,.row 69 τ4 false B)]⟩
def a6Q(_t:Int)(_u:List GPart)(_w a:Int)(b:c8)(c e:Int)(g:c8)(l:Int)(m:List c8)(o:List τ0)(p q:Int)(r:List GExpr):St:=⟨53,[(6,.box 1006 0),(7,.box 1007 0)],[(0,.cells [.v (.sl τ1) o,.v τ2 p,.v τ2 q]),(1006,.cells [.v τ2 a,.v .str b,.v τ2 c,.nilS,.nilS]),(1007,.cells [.v τ2 e,.v .str g,.v τ2 l,.v V6 m,.row 900001]),(900001,.row 69 τ4 false r)]⟩
def d6Z(d3:ρ17)(a:Int)(b:List GPart)(c e:Int)(g:c8)(l m:Int)(o:c8)(p:Int)(q:List c8)(r:Int)(t:List τ0)(u v:Int)(w:List GExpr)(k:Ex->St->Option (GExpr×List τ0×Int×Int)):Option (GExpr×List τ0×Int×Int):=b5o N d3 a b c (fun B C D E=>k (.exit 0) (a6Q a b c e g l m o p q B C D E)) N r t u v w
abbrev c5Y(d3:ρ17):FV a9G->HV a9F->(Ex->St->Option (GExpr×List τ0×Int×Int))->Option (GExpr×List τ0×Int×Int):=fun x y k=>d6Z N d3 x.2.1 x.2.2.2.2.1 x.2.2.2.2.2.1 y.2.1.1 y.2.1.2.1 y.2.1.2.2.1 y.2.2.1.1 y.2.2.1.2.1 y.2.2.1.2.2.1 y.2.2.1.2.2.2.1 x.2.2.2.2.2.2.1 y.1.1 y.1.2.1 y.1.2.2.1 y.2.2.2.1 k
def b5q(d3:ρ17):Nat->Code->St->(Ex->St->Option (GExpr×List τ0×Int×Int))->Option (GExpr×List τ0×Int×Int):=fun i c=>
 match i with
 |0=>(LPc 53 a9G a9F (c5Y N d3) (fun st k=>iter (c3V 0) (k6 (b6X N d3) N c 0) N st k))
 |i=>fun st k=>iter (c3V i) (k6 (b6X N d3) N c i) N st k
theorem c3T(d3:ρ17)(a:Int)(b:List GPart)(c p:Int)(q:c8)(r t:Int)(u:c8)(v:Int)(w:List c8)(KX:Nat->St->Option (GExpr×List τ0×Int×Int))(I:St->Option (GExpr×List τ0×Int×Int))(e:Int)(g:List τ0)(l m:Int)(o:List GExpr):
  k7 (b5q N d3) (b6X N d3) b8h 0 (b5p a b c p q r t u v w e g l m o) (p6 (c3V 0) I KX (c3U N d3))=a8H N d3 a b c (fun B C D E=>KX 0 (a6Q a b c p q r t u v w B C D E)) (fun e g l m o=>I (b5p a b c p q r t u v w e g l m o)) e g l m o:=by kernel_rfl
theorem d2j(d3:ρ17):∀x y k,(∀st,k .ret st=(c3U N d3) st)->iter (c3V 0) (k6 (b6X N d3) N b8h 0) N ⟨53,Y7 a9G x,Y8 a9F y⟩ k=c5Y N d3 x y k:=fun x y k hk=>
 j9 (S:=(Int)×τ5×(Int)×(Int)×(List GExpr)×Unit) (c3V 0) _ (k7 (b5q N d3) (b6X N d3) b8h 0) (c3U N d3) (k9 _ _ N _ b8h 0 (show LoopsOk (b5q N d3) (b6X N d3) N (c3U N d3) []from trivial)) (fun s=>b5p x.2.1 x.2.2.2.2.1 x.2.2.2.2.2.1 y.2.1.1 y.2.1.2.1 y.2.1.2.2.1 y.2.2.1.1 y.2.2.1.2.1 y.2.2.1.2.2.1 y.2.2.1.2.2.2.1 s.1 s.2.1 s.2.2.1 s.2.2.2.1 s.2.2.2.2.1) k hk
  (fun self s=>a8H N d3 x.2.1 x.2.2.2.2.1 x.2.2.2.2.2.1 (fun a b c e=>k (.exit 0) (a6Q x.2.1 x.2.2.2.2.1 x.2.2.2.2.2.1 y.2.1.1 y.2.1.2.1 y.2.1.2.2.1 y.2.2.1.1 y.2.2.1.2.1 y.2.2.1.2.2.1 y.2.2.1.2.2.2.1 a b c e)) (fun g l m o p=>self (g,l,m,o,p,())) s.1 s.2.1 s.2.2.1 s.2.2.2.1 s.2.2.2.2.1) (fun n s=>b5o N d3 x.2.1 x.2.2.2.2.1 x.2.2.2.2.2.1 (fun a b c e=>k (.exit 0) (a6Q x.2.1 x.2.2.2.2.1 x.2.2.2.2.2.1 y.2.1.1 y.2.1.2.1 y.2.1.2.2.1 y.2.2.1.1 y.2.2.1.2.1 y.2.2.1.2.2.1 y.2.2.1.2.2.2.1 a b c e)) n s.1 s.2.1 s.2.2.1 s.2.2.2.1 s.2.2.2.2.1) (fun _=>rfl) (fun _ _=>rfl)
  (fun I s=>c3T N d3 x.2.1 x.2.2.2.2.1 x.2.2.2.2.2.1 y.2.1.1 y.2.1.2.1 y.2.1.2.2.1 y.2.2.1.1 y.2.2.1.2.1 y.2.2.1.2.2.1 y.2.2.1.2.2.2.1 (fun j=>k (.exit j)) I s.1 s.2.1 s.2.2.1 s.2.2.2.1 s.2.2.2.2.1) N (x.2.2.2.2.2.2.1,y.1.1,y.1.2.1,y.1.2.2.1,y.2.2.2.1,())
theorem e0s(d3:ρ17):F7 (b5q N d3) (b6X N d3) N (c3U N d3) 0 b8h:=fun st k hk=>p8 53 a9G a9F _ _ (c3U N d3) (d2j N d3) _ st k hk (rfl)
theorem d60(d3:ρ17)(x:SV [.box 0 0,.v (.rc .part),V0])(y:BV [.cells [V3,V0,V0]]):F5 (b6X N d3) Tryz.f137 (d61 N d3) d2m (b5q N d3) x y=s4 N d3 x.2.1 x.2.2.1 y.1.1 y.1.2.1 y.1.2.2.1:=by kernel_rfl
theorem d2n(d3:ρ17)(T0:Sound Tryz.prog GW B7 137 (c1L fun x y=>d3 x.2.1 x.2.2.1 y.1.1 y.1.2.1 y.1.2.2.1)):Sound Tryz.prog GW B7 137 (d61 N d3):=
 a2A (y6 c3V (d2k N d3) _ _ (d2l N d3 T0)) Tryz.func137 rfl Tryz.call137 (d61 N d3) d2m (fun _ _=>rfl) N (b5q N d3) (show LoopsOk (b5q N d3) (b6X N d3) N (c3U N d3) [(0,b8h)]from⟨e0s N d3,trivial⟩) (d60 N d3)
def s8(N:Nat):Nat->GPart->Int->τ5->Int->Int->Option (GExpr×List τ0×Int×Int)|0=>fun _ _ _ _ _=>none|d+1=>s4 N (s8 N d)
theorem c1M(N:Nat):∀d,Sound Tryz.prog GW B7 137 (c1L fun x y=>s8 N d x.2.1 x.2.2.1 y.1.1 y.1.2.1 y.1.2.2.1)
 |0=>Sound.never Tryz.call137 (fun _ _=>rfl)
 |d+1=>d2n N (s8 N d) (c1M N d)
def v7(c:Int)(e:List τ0)(g l:Int):Option (Except Int (GExpr×List τ0×Int×Int)):=l7 (I2 N N e g l) fun b=>f5 (s8 N N b.1 (IntKind.i64.wrap (c+1)) b.2.1 b.2.2.1 b.2.2.2) fun a=>some (.ok (GExpr.mk a.1.kind a.1.text a.1.number a.1.keys a.1.kids,a.2))
abbrev e22(f:SV [.box 0 0,V0]->BV [.cells [V3,V0,V0]]->Option (Except Int (GExpr×List τ0×Int×Int))):PF:={ps:=[.box 0 0,V0],bs:=[.cells [V3,V0,V0]],rs:=[.v τ4],cs:=[.cells [V3,V0,V0]],R:=GExpr×List τ0×Int×Int,out:=fun z=>((z.1,()),((z.2.1,z.2.2.1,z.2.2.2,()),())),f:=f}
abbrev c8C:PF:=e22 fun x y=>v7 N x.2.1 y.1.1 y.1.2.1 y.1.2.2.1
def d3u:FuncId->Option Tmp->Option AF:=fun f _=>O5 [(137,c1L fun x y=>s8 N N x.2.1 x.2.2.1 y.1.1 y.1.2.1 y.1.2.2.1)] f
theorem d3v:I8 (d3u N):=fun _ _ _ h=>o6 h (v8 (c1M N N) G7)
def c6e:FuncId->Option Tmp->Option PF:=fun f _=>
 match f with
  |138=>some (G6 fun _ y=>I2 N N y.1.1 y.1.2.1 y.1.2.2.1)
  |_=>none
theorem d3w:∀f q F,c6e N f q=some F->SoundP Tryz.prog GW B7 c2n f F:=by
 intro f q F h
 unfold c6e at h
 split at h
 ·cases h;exact c1J N N
 ·cases h
def e21:Nat->Hint:=fun i=>
 match i with
 |_=>o3
abbrev e5e:Env:=a0I e21 (d3u N) (c6e N) (fun _=>false) (fun _=>false)
theorem a9Y:SoundP Tryz.prog GW B7 c2n 81 (c8C N):=
 a0p (e5e N) (D6 e21 (d3u N) (c6e N) _ _ (d3v N) (d3w N)) Tryz.func81 rfl Tryz.call81 (c8C N) (fun x y=>(x.1,y.1.1,y.1.2.1,y.1.2.2.1)) (fun _ _=>rfl) N (fun _ _=>by kernel_rfl) rfl
end
end Go.Proofs.YtolpmfhiegpohaaGreatDoor
