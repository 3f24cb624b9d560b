/- What functions of the program compute, as plain functions (printed). -/
import Derived.Test.YtolpmfhiegpohaaGreatDoorQPaF6
namespace Go.Proofs.YtolpmfhiegpohaaGreatDoor
open Go Go.RowKit
set_option maxRecDepth 100000
set_option linter.unusedVariables false
noncomputable section
variable(N:Nat)
def J8(a7:ρ11)(ab:List τ0)(ac ad:Int):Option (Except Int (GPart×List τ0×Int×Int)):=f5 (L8 N ab ac ad) fun a=>br ((a.2.1.length:Int)==0) (l7 (o8 N a.2.1 a.2.2.1 a.2.2.2) fun b=>f5 (l6 b.1 0) fun J=>br (J.1==2) (l7 (p9 N b.1 b.2.1 b.2.2) fun V=>some (.ok (GPart.mk 1 V.1 0 [] a.1 [],V.2))) (br (J.1==3) (f5 (slc b.1 1 (b.1.length:Int)) fun ae=>some (.ok (GPart.mk 2 [] J.2.2.1 [] a.1 [],(ae,b.2)))) (f5 (j6 N 4 [40] b.1 b.2.1 b.2.2) fun u=>br (u.1) (l7 (v6 N a7 0 [] 0 a.1 u.2.1 u.2.2.1 u.2.2.2) fun g=>l7 (g8 N [41] g.2.2.2.2.1 g.2.2.2.2.2.1 g.2.2.2.2.2.2.1) fun af=>some (.ok (GPart.mk g.1 g.2.1 g.2.2.1 [] g.2.2.2.1 g.2.2.2.2.2.2.2,af))) (f5 (j6 N 4 [91] u.2.1 u.2.2.1 u.2.2.2) fun v=>br (v.1) (l7 (D5 N a7 [93] true v.2.1 v.2.2.1 v.2.2.2 4 [] 0 a.1) fun l=>some (.ok (GPart.mk l.2.2.2.1 l.2.2.2.2.1 l.2.2.2.2.2.1 [] l.2.2.2.2.2.2.1 l.2.2.2.2.2.2.2,(l.1,(l.2.1,l.2.2.1))))) (f5 (j6 N 1 [102,105,108,101,115] v.2.1 v.2.2.1 v.2.2.2) fun w=>br (w.1) (l7 (g8 N [40] w.2.1 w.2.2.1 w.2.2.2) fun K=>l7 (v6 N a7 5 [] 0 a.1 K.1 K.2.1 K.2.2) fun m=>l7 (g8 N [44] m.2.2.2.2.1 m.2.2.2.2.2.1 m.2.2.2.2.2.2.1) fun L=>l7 (z6 N a7 m.1 m.2.1 m.2.2.1 m.2.2.2.1 m.2.2.2.2.2.2.2 L.1 L.2.1 L.2.2) fun o=>l7 (g8 N [41] o.2.2.2.2.2.1 o.2.2.2.2.2.2.1 o.2.2.2.2.2.2.2) fun ag=>some (.ok (GPart.mk o.1 o.2.1 o.2.2.1 [] o.2.2.2.1 o.2.2.2.2.1,ag))) (f5 (j6 N 1 [99,104,111,111,115,101] w.2.1 w.2.2.1 w.2.2.2) fun B=>br (B.1) (l7 (g8 N [123] B.2.1 B.2.2.1 B.2.2.2) fun O=>l7 (H0 N a7 [125] false O.1 O.2.1 O.2.2 6 [] 0 a.1) fun c=>some (.ok (GPart.mk c.2.2.2.1 c.2.2.2.2.1 c.2.2.2.2.2.1 c.2.2.2.2.2.2.1 c.2.2.2.2.2.2.2.1 c.2.2.2.2.2.2.2.2,(c.1,(c.2.1,c.2.2.1))))) (l7 (l9 N B.2.1 B.2.2.1 B.2.2.2) fun W=>some (.ok (GPart.mk 3 W.1 0 [] a.1 [],W.2))))))))) (f5 (l6 a.2.1 0) fun Q=>br (Q.1==2) (l7 (p9 N a.2.1 a.2.2.1 a.2.2.2) fun Y=>some (.ok (GPart.mk 1 Y.1 0 [] a.1 [],Y.2))) (br (Q.1==3) (f5 (slc a.2.1 1 (a.2.1.length:Int)) fun ah=>some (.ok (GPart.mk 2 [] Q.2.2.1 [] a.1 [],(ah,a.2.2)))) (f5 (j6 N 4 [40] a.2.1 a.2.2.1 a.2.2.2) fun C=>br (C.1) (l7 (v6 N a7 0 [] 0 a.1 C.2.1 C.2.2.1 C.2.2.2) fun p=>l7 (g8 N [41] p.2.2.2.2.1 p.2.2.2.2.2.1 p.2.2.2.2.2.2.1) fun ai=>some (.ok (GPart.mk p.1 p.2.1 p.2.2.1 [] p.2.2.2.1 p.2.2.2.2.2.2.2,ai))) (f5 (j6 N 4 [91] C.2.1 C.2.2.1 C.2.2.2) fun D=>br (D.1) (l7 (D5 N a7 [93] true D.2.1 D.2.2.1 D.2.2.2 4 [] 0 a.1) fun q=>some (.ok (GPart.mk q.2.2.2.1 q.2.2.2.2.1 q.2.2.2.2.2.1 [] q.2.2.2.2.2.2.1 q.2.2.2.2.2.2.2,(q.1,(q.2.1,q.2.2.1))))) (f5 (j6 N 1 [102,105,108,101,115] D.2.1 D.2.2.1 D.2.2.2) fun E=>br (E.1) (l7 (g8 N [40] E.2.1 E.2.2.1 E.2.2.2) fun R=>l7 (v6 N a7 5 [] 0 a.1 R.1 R.2.1 R.2.2) fun r=>l7 (g8 N [44] r.2.2.2.2.1 r.2.2.2.2.2.1 r.2.2.2.2.2.2.1) fun T=>l7 (z6 N a7 r.1 r.2.1 r.2.2.1 r.2.2.2.1 r.2.2.2.2.2.2.2 T.1 T.2.1 T.2.2) fun t=>l7 (g8 N [41] t.2.2.2.2.2.1 t.2.2.2.2.2.2.1 t.2.2.2.2.2.2.2) fun aj=>some (.ok (GPart.mk t.1 t.2.1 t.2.2.1 [] t.2.2.2.1 t.2.2.2.2.1,aj))) (f5 (j6 N 1 [99,104,111,111,115,101] E.2.1 E.2.2.1 E.2.2.2) fun H=>br (H.1) (l7 (g8 N [123] H.2.1 H.2.2.1 H.2.2.2) fun U=>l7 (H0 N a7 [125] false U.1 U.2.1 U.2.2 6 [] 0 a.1) fun e=>some (.ok (GPart.mk e.2.2.2.1 e.2.2.2.2.1 e.2.2.2.2.2.1 e.2.2.2.2.2.2.1 e.2.2.2.2.2.2.2.1 e.2.2.2.2.2.2.2.2,(e.1,(e.2.1,e.2.2.1))))) (l7 (l9 N H.2.1 H.2.2.1 H.2.2.2) fun aa=>some (.ok (GPart.mk 3 aa.1 0 [] a.1 [],aa.2)))))))))
abbrev c1L(f:SV [.box 0 0]->BV [.cells [V2,V0,V0]]->Option (Except Int (GPart×List τ0×Int×Int))):PF:={ps:=[.box 0 0],bs:=[.cells [V2,V0,V0]],rs:=[.v (.rc .part)],cs:=[.cells [V2,V0,V0]],R:=GPart×List τ0×Int×Int,out:=fun z=>((z.1,()),((z.2.1,z.2.2.1,z.2.2.2,()),())),f:=f}
abbrev f5b(a7:ρ11):PF:=c1L fun _ y=>J8 N a7 y.1.1 y.1.2.1 y.1.2.2.1
def f2B(a7:ρ11):FuncId->Option Tmp->Option AF:=fun f _=>O5 [(72,e0T N),(74,e0P N)] f
theorem f2C(a7:ρ11)(d2:SoundP Tryz.prog GW B7 c2n 138 (e24 fun x y=>a7 y.1.1 y.1.2.1 y.1.2.2.1)):∀f q F,f2B N a7 f q=some F->Sound Tryz.prog GW B7 f F:=fun _ _ _ h=>o6 h (v8 (d4n N) (v8 (d32 N) G7))
def f0U(a7:ρ11):FuncId->Option Tmp->Option PF:=fun f q=>
 match f with
  |75=>some (d7A N)
  |76=>some (e0O N)
  |77=>match q with|some 72=>some (f2h N a7)|some 97=>some (d2X N a7)|_=>none
  |82=>some (b59 N)
  |136=>some (d7u N)
  |258=>match q with|some 62=>some (d2L N a7)|some 81=>some (d2L N a7)|some 85=>some (d1N N a7)|_=>none
  |_=>none
theorem f2D(a7:ρ11)(d2:SoundP Tryz.prog GW B7 c2n 138 (e24 fun x y=>a7 y.1.1 y.1.2.1 y.1.2.2.1)):∀f q F,f0U N a7 f q=some F->SoundP Tryz.prog GW B7 c2n f F:=by
 intro f q F h
 unfold f0U at h
 split at h
 ·cases h;exact d30 N
 ·cases h;exact d31 N
 ·split at h
  ·cases h;exact d2T N a7 d2
  ·cases h;exact d20 N a7 d2
  ·cases h
 ·cases h;exact e6A N
 ·cases h;exact d3O N
 ·split at h
  ·cases h;exact d2N N a7 d2
  ·cases h;exact d2N N a7 d2
  ·cases h;exact d1P N a7 d2
  ·cases h
 ·cases h
def f5V:Nat->Hint:=fun i=>
 match i with
 |100010=>⟨[1004],[],[],[],[],[]⟩
 |100011=>⟨[0,1001],[],[],[],[],[]⟩
 |_=>o3
abbrev f6r(a7:ρ11):Env:=a0I f5V (f2B N a7) (f0U N a7) (fun _=>false) (fun i=>match i with|258=>true|259=>true|_=>false)
theorem c1M(a7:ρ11)(d2:SoundP Tryz.prog GW B7 c2n 138 (e24 fun x y=>a7 y.1.1 y.1.2.1 y.1.2.2.1)):SoundP Tryz.prog GW B7 c2n 223 (f5b N a7):=
 a0p (f6r N a7) (D6 f5V (f2B N a7) (f0U N a7) _ _ (f2C N a7 d2) (f2D N a7 d2)) Tryz.func223 rfl Tryz.call223 (f5b N a7) (fun x y=>(x.1,y.1.1,y.1.2.1,y.1.2.2.1)) (fun _ _=>rfl) N (fun _ _=>by kernel_rfl) rfl
def e74(a7:ρ11)(o:Int)(k0 self:ρ4)(p:List τ0)(q r c:Int)(e:c8)(g:Int)(l:List c8)(t:Unit)(m:List GPart):Option (Except Int (GPart×List τ0×Int×Int)):=f5 (j6 N 4 [43] p q r) fun b=>br (b.1) (l7 (J8 N a7 b.2.1 b.2.2.1 b.2.2.2) fun a=>self a.2.1 a.2.2.1 a.2.2.2 7 [] 0 [] () [GPart.mk c e g l o m,GPart.mk a.1.kind a.1.text a.1.number a.1.keys a.1.at_ a.1.kids]) (k0 b.2.1 b.2.2.1 b.2.2.2 c e g l t m)
def e8Q(N:Nat)(a7:ρ11)(a:Int)(k0:ρ4):Nat->τ4->Int->Int->Int->c8->Int->τ17->Unit->(List GPart)->Option (Except Int (GPart×List τ0×Int×Int))|0,_,_,_,_,_,_,_,_,_=>none|n+1,b,c,e,g,l,m,o,p,q=>e74 N a7 a k0 (e8Q N a7 a k0 n) b c e g l m o p q
def G2(a7:ρ11)(b:List τ0)(c e:Int):Option (Except Int (GPart×List τ0×Int×Int)):=l7 (J8 N a7 b c e) fun a=>e8Q N a7 a.1.at_ (fun g l m o p q r _ t=>some (.ok (GPart.mk o p q r a.1.at_ t,(g,(l,m))))) N a.2.1 a.2.2.1 a.2.2.2 a.1.kind a.1.text a.1.number a.1.keys () a.1.kids
abbrev e3i(f:SV [.box 0 0]->BV [.cells [V2,V0,V0]]->Option (Except Int (GPart×List τ0×Int×Int))):PF:={ps:=[.box 0 0],bs:=[.cells [V2,V0,V0]],rs:=[.v (.rc .part)],cs:=[.cells [V2,V0,V0]],R:=GPart×List τ0×Int×Int,out:=fun z=>((z.1,()),((z.2.1,z.2.2.1,z.2.2.2,()),())),f:=f}
abbrev b0e(a7:ρ11):PF:=e3i fun _ y=>G2 N a7 y.1.1 y.1.2.1 y.1.2.2.1
abbrev f2H:SV [.v (.rc .part)]->BV [.cells [V2,V0,V0]]->(GPart×List τ0×Int×Int):=fun x y=>(x.1,y.1.1,y.1.2.1,y.1.2.2.1)
abbrev f4G:SV [.v (.rc .part)]->BV [.cells [V2,V0,V0]]->Except Int (GPart×List τ0×Int×Int):=fun x y=> .ok (f2H x y)
def d4b(a7:ρ11):FuncId->Option Tmp->Option AF:=fun f _=>O5 [(74,e0P N)] f
theorem d4c(a7:ρ11)(d2:SoundP Tryz.prog GW B7 c2n 138 (e24 fun x y=>a7 y.1.1 y.1.2.1 y.1.2.2.1)):∀f q F,d4b N a7 f q=some F->Sound Tryz.prog GW B7 f F:=fun _ _ _ h=>o6 h (v8 (d32 N) G7)
def c6o(a7:ρ11):FuncId->Option Tmp->Option PF:=fun f _=>
 match f with
  |223=>some (f5b N a7)
  |_=>none
theorem d4d(a7:ρ11)(d2:SoundP Tryz.prog GW B7 c2n 138 (e24 fun x y=>a7 y.1.1 y.1.2.1 y.1.2.2.1)):∀f q F,c6o N a7 f q=some F->SoundP Tryz.prog GW B7 c2n f F:=by
 intro f q F h
 unfold c6o at h
 split at h
 ·cases h;exact c1M N a7 d2
 ·cases h
def e3h:Nat->Hint:=fun i=>
 match i with
 |0=>⟨[16],[0,2,3],[0,1002,1003],[2,3],[0,1002,1003],[]⟩
 |_=>o3
abbrev e5k(a7:ρ11):Env:=a0I e3h (d4b N a7) (c6o N a7) (fun _=>false) (fun _=>false)
abbrev e9Y(a7:ρ11):=A8 (e5k N a7) Tryz.f180 (PF.tf (b0e N a7)) f4G
noncomputable abbrev e8R:Code:=V7 (m9 Tryz.f180) [true,true,false,false,false]
abbrev e6E:List (Nat×Sl):=[(0,.box 0 0),(2,.box 1002 0),(3,.box 1003 0)]
abbrev e6D:List (Nat×Sb):=[(0,.cells [V2,V0,V0]),(1002,.cells [V0,V1,V0,.nilS,.nilS,V0,.nilS]),(1003,.cells [V0,V1,V0,.v τ11,.v .nl,V0,.v (.sl (.rc .part))])]
def e75(a:Int)(b:c8)(c e g:Int)(l:List τ0)(m o p:Int)(q:c8)(r:Int)(t:List c8)(u:Unit)(w:List GPart):St:=⟨19,[(0,.box 0 0),(2,.box 1002 0),(3,.box 1003 0)],[(0,.cells [.v (.sl τ1) l,.v τ2 m,.v τ2 o]),(1002,.cells [.v τ2 a,.v .str b,.v τ2 c,.nilS,.nilS,.v τ2 e,.nilS]),(1003,.cells [.v τ2 p,.v .str q,.v τ2 r,.v τ11 t,.v .nl u,.v τ2 g,.v (.sl (.rc .part)) w])]⟩
def e5J(a:Int)(b:c8)(c e g:Int)(l:List τ0)(m o p:Int)(q:c8)(r:Int)(t:List c8)(u:Unit)(w:List GPart):St:=⟨19,[(2,.box 1002 0),(3,.box 1003 0)],[(0,.cells [.v (.sl τ1) l,.v τ2 m,.v τ2 o]),(1002,.cells [.v τ2 a,.v .str b,.v τ2 c,.nilS,.nilS,.v τ2 e,.nilS]),(1003,.cells [.v τ2 p,.v .str q,.v τ2 r,.v τ11 t,.v .nl u,.v τ2 g,.v (.sl (.rc .part)) w])]⟩
def f3Y(a7:ρ11)(b:Int)(c:c8)(e g a:Int)(l:List τ0)(m o p:Int)(q:c8)(r:Int)(t:List c8)(u:Unit)(v:List GPart)(k:Ex->St->Option (Except Int (GPart×List τ0×Int×Int))):Option (Except Int (GPart×List τ0×Int×Int)):=e8Q N a7 a (fun w B C D E H J K L=>k (.exit 0) (e5J b c e g a w B C D E H J K L)) N l m o p q r t u v
abbrev f0W(a7:ρ11):FV e6E->HV e6D->(Ex->St->Option (Except Int (GPart×List τ0×Int×Int)))->Option (Except Int (GPart×List τ0×Int×Int)):=fun _ y k=>f3Y N a7 y.2.1.1 y.2.1.2.1 y.2.1.2.2.1 y.2.1.2.2.2.2.2.1 y.2.2.1.2.2.2.2.2.1 y.1.1 y.1.2.1 y.1.2.2.1 y.2.2.1.1 y.2.2.1.2.1 y.2.2.1.2.2.1 y.2.2.1.2.2.2.1 y.2.2.1.2.2.2.2.1 y.2.2.1.2.2.2.2.2.2.1 k
def e76(a7:ρ11):Nat->Code->St->(Ex->St->Option (Except Int (GPart×List τ0×Int×Int)))->Option (Except Int (GPart×List τ0×Int×Int)):=fun i c=>
 match i with
 |0=>(LPc 19 e6E e6D (f0W N a7) (fun st k=>iter (e3h 0) (V4 (e5k N a7) N c 0) N st k))
 |i=>fun st k=>iter (e3h i) (V4 (e5k N a7) N c i) N st k
theorem e9X(a7:ρ11)(r:Int)(t:c8)(u v a:Int)(KX:Nat->St->Option (Except Int (GPart×List τ0×Int×Int)))(I:St->Option (Except Int (GPart×List τ0×Int×Int)))(b:List τ0)(c e g:Int)(l:c8)(m:Int)(o:List c8)(p:Unit)(q:List GPart):
  a0b (e76 N a7) (e5k N a7) e8R 0 (e75 r t u v a b c e g l m o p q) (p6 (e3h 0) I KX (e9Y N a7))=e74 N a7 a (fun w B C D E H J K L=>KX 0 (e5J r t u v a w B C D E H J K L)) (fun b c e g l m o p q=>I (e75 r t u v a b c e g l m o p q)) b c e g l m o p q:=by kernel_rfl
theorem f2G(a7:ρ11):∀x y k,(∀st,k .ret st=(e9Y N a7) st)->iter (e3h 0) (V4 (e5k N a7) N e8R 0) N ⟨19,Y7 e6E x,Y8 e6D y⟩ k=f0W N a7 x y k:=fun _ y k hk=>
 j9 (S:=τ4×(Int)×(Int)×(Int)×(c8)×(Int)×τ17×(Unit)×(List GPart)×Unit) (e3h 0) _ (a0b (e76 N a7) (e5k N a7) e8R 0) (e9Y N a7) (k9 _ _ N _ e8R 0 (show LoopsOk (e76 N a7) (e5k N a7) N (e9Y N a7) []from trivial)) (fun s=>e75 y.2.1.1 y.2.1.2.1 y.2.1.2.2.1 y.2.1.2.2.2.2.2.1 y.2.2.1.2.2.2.2.2.1 s.1 s.2.1 s.2.2.1 s.2.2.2.1 s.2.2.2.2.1 s.2.2.2.2.2.1 s.2.2.2.2.2.2.1 s.2.2.2.2.2.2.2.1 s.2.2.2.2.2.2.2.2.1) k hk
  (fun self s=>e74 N a7 y.2.2.1.2.2.2.2.2.1 (fun a b c e g l m o p=>k (.exit 0) (e5J y.2.1.1 y.2.1.2.1 y.2.1.2.2.1 y.2.1.2.2.2.2.2.1 y.2.2.1.2.2.2.2.2.1 a b c e g l m o p)) (fun q r t u v w B C D=>self (q,r,t,u,v,w,B,C,D,())) s.1 s.2.1 s.2.2.1 s.2.2.2.1 s.2.2.2.2.1 s.2.2.2.2.2.1 s.2.2.2.2.2.2.1 s.2.2.2.2.2.2.2.1 s.2.2.2.2.2.2.2.2.1) (fun n s=>e8Q N a7 y.2.2.1.2.2.2.2.2.1 (fun a b c e g l m o p=>k (.exit 0) (e5J y.2.1.1 y.2.1.2.1 y.2.1.2.2.1 y.2.1.2.2.2.2.2.1 y.2.2.1.2.2.2.2.2.1 a b c e g l m o p)) n s.1 s.2.1 s.2.2.1 s.2.2.2.1 s.2.2.2.2.1 s.2.2.2.2.2.1 s.2.2.2.2.2.2.1 s.2.2.2.2.2.2.2.1 s.2.2.2.2.2.2.2.2.1) (fun _=>rfl) (fun _ _=>rfl)
  (fun I s=>e9X N a7 y.2.1.1 y.2.1.2.1 y.2.1.2.2.1 y.2.1.2.2.2.2.2.1 y.2.2.1.2.2.2.2.2.1 (fun j=>k (.exit j)) I s.1 s.2.1 s.2.2.1 s.2.2.2.1 s.2.2.2.2.1 s.2.2.2.2.2.1 s.2.2.2.2.2.2.1 s.2.2.2.2.2.2.2.1 s.2.2.2.2.2.2.2.2.1) N (y.1.1,y.1.2.1,y.1.2.2.1,y.2.2.1.1,y.2.2.1.2.1,y.2.2.1.2.2.1,y.2.2.1.2.2.2.1,y.2.2.1.2.2.2.2.1,y.2.2.1.2.2.2.2.2.2.1,())
theorem f5d(a7:ρ11):F7 (e76 N a7) (e5k N a7) N (e9Y N a7) 0 e8R:=fun st k hk=>p8 19 e6E e6D _ _ (e9Y N a7) (f2G N a7) _ st k hk (rfl)
theorem f3Z(a7:ρ11)(x:SV [.box 0 0])(y:BV [.cells [V2,V0,V0]]):F5 (e5k N a7) Tryz.f180 (PF.tf (b0e N a7)) f4G (e76 N a7) x y=G2 N a7 y.1.1 y.1.2.1 y.1.2.2.1:=by kernel_rfl
theorem R6(a7:ρ11)(d2:SoundP Tryz.prog GW B7 c2n 138 (e24 fun x y=>a7 y.1.1 y.1.2.1 y.1.2.2.1)):SoundP Tryz.prog GW B7 c2n 180 (b0e N a7):=
 b4k (e5k N a7) (D6 e3h (d4b N a7) (c6o N a7) _ _ (d4c N a7 d2) (d4d N a7 d2)) Tryz.func180 rfl Tryz.call180 (b0e N a7) f2H (fun _ _=>rfl) N (e76 N a7) (show LoopsOk (e76 N a7) (e5k N a7) N (e9Y N a7) [(0,e8R)]from⟨f5d N a7,trivial⟩) (f3Z N a7)
def J2(a7:ρ11)(e:List τ0)(g l:Int):Option (Except Int (GPart×List τ0×Int×Int)):=l7 (G2 N a7 e g l) fun a=>f5 (j6 N 4 [61,61] a.2.1 a.2.2.1 a.2.2.2) fun c=>br (!c.1) (some (.ok (GPart.mk a.1.kind a.1.text a.1.number a.1.keys a.1.at_ a.1.kids,c.2))) (l7 (G2 N a7 c.2.1 c.2.2.1 c.2.2.2) fun b=>some (.ok (GPart.mk 8 [] 0 [] a.1.at_ [GPart.mk a.1.kind a.1.text a.1.number a.1.keys a.1.at_ a.1.kids,GPart.mk b.1.kind b.1.text b.1.number b.1.keys b.1.at_ b.1.kids],b.2)))
abbrev d8F(f:SV [.box 0 0]->BV [.cells [V2,V0,V0]]->Option (Except Int (GPart×List τ0×Int×Int))):PF:={ps:=[.box 0 0],bs:=[.cells [V2,V0,V0]],rs:=[.v (.rc .part)],cs:=[.cells [V2,V0,V0]],R:=GPart×List τ0×Int×Int,out:=fun z=>((z.1,()),((z.2.1,z.2.2.1,z.2.2.2,()),())),f:=f}
abbrev f5O(a7:ρ11):PF:=d8F fun _ y=>J2 N a7 y.1.1 y.1.2.1 y.1.2.2.1
def f1S(a7:ρ11):FuncId->Option Tmp->Option AF:=fun f _=>O5 [(74,e0P N)] f
theorem f1T(a7:ρ11)(d2:SoundP Tryz.prog GW B7 c2n 138 (e24 fun x y=>a7 y.1.1 y.1.2.1 y.1.2.2.1)):∀f q F,f1S N a7 f q=some F->Sound Tryz.prog GW B7 f F:=fun _ _ _ h=>o6 h (v8 (d32 N) G7)
def f0E(a7:ρ11):FuncId->Option Tmp->Option PF:=fun f _=>
 match f with
  |180=>some (b0e N a7)
  |_=>none
theorem f1U(a7:ρ11)(d2:SoundP Tryz.prog GW B7 c2n 138 (e24 fun x y=>a7 y.1.1 y.1.2.1 y.1.2.2.1)):∀f q F,f0E N a7 f q=some F->SoundP Tryz.prog GW B7 c2n f F:=by
 intro f q F h
 unfold f0E at h
 split at h
 ·cases h;exact R6 N a7 d2
 ·cases h
def f5P:Nat->Hint:=fun i=>
 match i with
 |_=>o3
abbrev f6l(a7:ρ11):Env:=a0I f5P (f1S N a7) (f0E N a7) (fun _=>false) (fun _=>false)
theorem d2e(a7:ρ11)(d2:SoundP Tryz.prog GW B7 c2n 138 (e24 fun x y=>a7 y.1.1 y.1.2.1 y.1.2.2.1)):SoundP Tryz.prog GW B7 c2n 138 (f5O N a7):=
 a0p (f6l N a7) (D6 f5P (f1S N a7) (f0E N a7) _ _ (f1T N a7 d2) (f1U N a7 d2)) Tryz.func138 rfl Tryz.call138 (f5O N a7) (fun x y=>(x.1,y.1.1,y.1.2.1,y.1.2.2.1)) (fun _ _=>rfl) N (fun _ _=>by kernel_rfl) rfl
def I2(N:Nat):Nat->τ4->Int->Int->Option (Except Int (GPart×List τ0×Int×Int))|0=>fun _ _ _=>none|d+1=>J2 N (I2 N d)
theorem d3J(N:Nat):∀d,SoundP Tryz.prog GW B7 c2n 138 (e24 fun x y=>I2 N d y.1.1 y.1.2.1 y.1.2.2.1)
 |0=>SoundP.never Tryz.call138 (fun _ _=>rfl)
 |d+1=>d2e N (I2 N d) (d3J N d)
abbrev e28:=P4 [.box 0 0,.v (.rc .part),V0] [.cells [V2,V0,V0]] [.v τ5] [.cells [V2,V0,V0]] (GExpr×List τ0×Int×Int) fun z=>((z.1,()),((z.2.1,z.2.2.1,z.2.2.2,()),()))
def e5Z(_N:Nat)(d3:ρ9)(o:Int)(p:List GPart)(q:Int)(k0:ρ8)(self:Int->τ4->Int->Int->(List GExpr)->Option (GExpr×List τ0×Int×Int))(c:Int)(g:List τ0)(l m:Int)(e:List GExpr):Option (GExpr×List τ0×Int×Int):=br (decide (c<q)) (f5 (l6 p c) fun a=>f5 (d3 (GPart.mk a.kind a.text a.number a.keys a.at_ a.kids) o g l m) fun b=>br (decide ((e.length + [b.1].length)*(24*Ty.sz τ5)<=140737488355328)) (self (IntKind.i64.wrap (c+1)) b.2.1 b.2.2.1 b.2.2.2 (e ++ [b.1])) none) (k0 g l m e)
def e7I(N:Nat)(d3:ρ9)(a:Int)(b:List GPart)(c:Int)(k0:ρ8):Nat->Int->τ4->Int->Int->(List GExpr)->Option (GExpr×List τ0×Int×Int)|0,_,_,_,_,_=>none|n+1,e,g,l,m,o=>e5Z N d3 a b c k0 (e7I N d3 a b c k0 n) e g l m o
def s4(d3:ρ9)(a:GPart)(e:Int)(p:List τ0)(q r:Int):Option (GExpr×List τ0×Int×Int):=f5 (M8 N a.at_ e p q r) fun b=>br (a.kind==0) (f5 (l6 a.kids 0) fun t=>f5 (d3 t (IntKind.i64.wrap (e+1)) b.1 b.2.1 b.2.2) fun c=>some (GExpr.mk c.1.kind c.1.text c.1.number c.1.keys c.1.kids,c.2)) (br (a.kind !=7) (e7I N d3 (IntKind.i64.wrap (e+1)) a.kids (a.kids.length:Int) (fun g l m o=>some (GExpr.mk a.kind a.text a.number a.keys o,(g,(l,m)))) N 0 b.1 b.2.1 b.2.2 []) (e7I N d3 e a.kids (a.kids.length:Int) (fun g l m o=>some (GExpr.mk a.kind a.text a.number a.keys o,(g,(l,m)))) N 0 b.1 b.2.1 b.2.2 []))
abbrev e2C:=P4 [.box 0 0,.v (.rc .part),V0] [.cells [V2,V0,V0]] [.v τ5] [.cells [V2,V0,V0]] (GExpr×List τ0×Int×Int) fun z=>((z.1,()),((z.2.1,z.2.2.1,z.2.2.2,()),()))
abbrev e2A(d3:ρ9):AF:=e2C fun x y=>s4 N d3 x.2.1 x.2.2.1 y.1.1 y.1.2.1 y.1.2.2.1
abbrev f1W:SV [.v τ5]->BV [.cells [V2,V0,V0]]->(GExpr×List τ0×Int×Int):=fun x y=>(x.1,y.1.1,y.1.2.1,y.1.2.2.1)
def d2f(d3:ρ9):FuncId->Option Tmp->Option AF:=fun f _=>O5 [(73,d7v N),(137,e28 fun x y=>d3 x.2.1 x.2.2.1 y.1.1 y.1.2.1 y.1.2.2.1)] f
theorem d2g(d3:ρ9)(T0:Sound Tryz.prog GW B7 137 (e28 fun x y=>d3 x.2.1 x.2.2.1 y.1.1 y.1.2.1 y.1.2.2.1)):∀f q F,d2f N d3 f q=some F->Sound Tryz.prog GW B7 f F:=fun _ _ _ h=>o6 h (v8 (c1I N) (v8 (T0) G7))
def e2B:Nat->Hint:=fun i=>
 match i with
 |0=>⟨[],[0,2,6,7,36,37,38],[0,1006,1007,900001],[6,7],[0,1006,1007,900001],[(1007,4,900001,69,τ5)]⟩
 |100010=>⟨[1007,1009,900001],[],[],[],[],[]⟩
 |_=>o3
abbrev e47(d3:ρ9):Env:=S9 e2B (d2f N d3) (fun _=>false) (fun _=>false)
abbrev e9K(d3:ρ9):=A8 (e47 N d3) Tryz.f137 (e2A N d3) f1W
noncomputable abbrev e8L:Code:=V7 (m9 Tryz.f137) [true,true,true,true,true,false,true,false,false]
abbrev e6p:List (Nat×Sl):=[(0,.box 0 0),(2,V0),(6,.box 1006 0),(7,.box 1007 0),(36,.v (.sl (.rc .part))),(37,V0),(38,V0)]
abbrev e6o:List (Nat×Sb):=[(0,.cells [V2,V0,V0]),(1006,.cells [V0,V1,V0,.nilS,.nilS]),(1007,.cells [V0,V1,V0,.v τ11,.row 900001]),(900001,.row 69 τ5 false)]
def e7J(a:Int)(b:List GPart)(c e:Int)(g:c8)(l m:Int)(o:c8)(p:Int)(q:List c8)(r:Int)(t:List τ0)(u w:Int)(B:List GExpr):St:=⟨53,[(0,.box 0 0),(2,.v τ2 a),(6,.box 1006 0),(7,.box 1007 0),(36,.v (.sl (.rc .part)) b),(37,.v τ2 c),(38,.v τ2 r)],[(0,.cells [.v (.sl τ1) t,.v τ2 u,.v τ2 w]),(1006,.cells [.v τ2 e,.v .str g,.v τ2 l,.nilS,.nilS]),(1007,.cells [.v τ2 m,.v .str o,.v τ2 p,.v τ11 q,.row 900001]),(900001,.row 69 τ5 false B)]⟩
def e5C(_t:Int)(_u:List GPart)(_w a:Int)(b:c8)(c e:Int)(g:c8)(l:Int)(m:List c8)(o:List τ0)(p q:Int)(r:List GExpr):St:=⟨53,[(6,.box 1006 0),(7,.box 1007 0)],[(0,.cells [.v (.sl τ1) o,.v τ2 p,.v τ2 q]),(1006,.cells [.v τ2 a,.v .str b,.v τ2 c,.nilS,.nilS]),(1007,.cells [.v τ2 e,.v .str g,.v τ2 l,.v τ11 m,.row 900001]),(900001,.row 69 τ5 false r)]⟩
def f3K(d3:ρ9)(a:Int)(b:List GPart)(c e:Int)(g:c8)(l m:Int)(o:c8)(p:Int)(q:List c8)(r:Int)(t:List τ0)(u v:Int)(w:List GExpr)(k:Ex->St->Option (GExpr×List τ0×Int×Int)):Option (GExpr×List τ0×Int×Int):=e7I N d3 a b c (fun B C D E=>k (.exit 0) (e5C a b c e g l m o p q B C D E)) N r t u v w
abbrev f0F(d3:ρ9):FV e6p->HV e6o->(Ex->St->Option (GExpr×List τ0×Int×Int))->Option (GExpr×List τ0×Int×Int):=fun x y k=>f3K N d3 x.2.1 x.2.2.2.2.1 x.2.2.2.2.2.1 y.2.1.1 y.2.1.2.1 y.2.1.2.2.1 y.2.2.1.1 y.2.2.1.2.1 y.2.2.1.2.2.1 y.2.2.1.2.2.2.1 x.2.2.2.2.2.2.1 y.1.1 y.1.2.1 y.1.2.2.1 y.2.2.2.1 k
def e7K(d3:ρ9):Nat->Code->St->(Ex->St->Option (GExpr×List τ0×Int×Int))->Option (GExpr×List τ0×Int×Int):=fun i c=>
 match i with
 |0=>(LPc 53 e6p e6o (f0F N d3) (fun st k=>iter (e2B 0) (V4 (e47 N d3) N c 0) N st k))
 |i=>fun st k=>iter (e2B i) (V4 (e47 N d3) N c i) N st k
theorem e9J(d3:ρ9)(a:Int)(b:List GPart)(c p:Int)(q:c8)(r t:Int)(u:c8)(v:Int)(w:List c8)(KX:Nat->St->Option (GExpr×List τ0×Int×Int))(I:St->Option (GExpr×List τ0×Int×Int))(e:Int)(g:List τ0)(l m:Int)(o:List GExpr):
  a0b (e7K N d3) (e47 N d3) e8L 0 (e7J a b c p q r t u v w e g l m o) (p6 (e2B 0) I KX (e9K N d3))=e5Z N d3 a b c (fun B C D E=>KX 0 (e5C a b c p q r t u v w B C D E)) (fun e g l m o=>I (e7J a b c p q r t u v w e g l m o)) e g l m o:=by kernel_rfl
theorem f1V(d3:ρ9):∀x y k,(∀st,k .ret st=(e9K N d3) st)->iter (e2B 0) (V4 (e47 N d3) N e8L 0) N ⟨53,Y7 e6p x,Y8 e6o y⟩ k=f0F N d3 x y k:=fun x y k hk=>
 j9 (S:=(Int)×τ4×(Int)×(Int)×(List GExpr)×Unit) (e2B 0) _ (a0b (e7K N d3) (e47 N d3) e8L 0) (e9K N d3) (k9 _ _ N _ e8L 0 (show LoopsOk (e7K N d3) (e47 N d3) N (e9K N d3) []from trivial)) (fun s=>e7J x.2.1 x.2.2.2.2.1 x.2.2.2.2.2.1 y.2.1.1 y.2.1.2.1 y.2.1.2.2.1 y.2.2.1.1 y.2.2.1.2.1 y.2.2.1.2.2.1 y.2.2.1.2.2.2.1 s.1 s.2.1 s.2.2.1 s.2.2.2.1 s.2.2.2.2.1) k hk
  (fun self s=>e5Z N d3 x.2.1 x.2.2.2.2.1 x.2.2.2.2.2.1 (fun a b c e=>k (.exit 0) (e5C x.2.1 x.2.2.2.2.1 x.2.2.2.2.2.1 y.2.1.1 y.2.1.2.1 y.2.1.2.2.1 y.2.2.1.1 y.2.2.1.2.1 y.2.2.1.2.2.1 y.2.2.1.2.2.2.1 a b c e)) (fun g l m o p=>self (g,l,m,o,p,())) s.1 s.2.1 s.2.2.1 s.2.2.2.1 s.2.2.2.2.1) (fun n s=>e7I N d3 x.2.1 x.2.2.2.2.1 x.2.2.2.2.2.1 (fun a b c e=>k (.exit 0) (e5C x.2.1 x.2.2.2.2.1 x.2.2.2.2.2.1 y.2.1.1 y.2.1.2.1 y.2.1.2.2.1 y.2.2.1.1 y.2.2.1.2.1 y.2.2.1.2.2.1 y.2.2.1.2.2.2.1 a b c e)) n s.1 s.2.1 s.2.2.1 s.2.2.2.1 s.2.2.2.2.1) (fun _=>rfl) (fun _ _=>rfl)
  (fun I s=>e9J N d3 x.2.1 x.2.2.2.2.1 x.2.2.2.2.2.1 y.2.1.1 y.2.1.2.1 y.2.1.2.2.1 y.2.2.1.1 y.2.2.1.2.1 y.2.2.1.2.2.1 y.2.2.1.2.2.2.1 (fun j=>k (.exit j)) I s.1 s.2.1 s.2.2.1 s.2.2.2.1 s.2.2.2.2.1) N (x.2.2.2.2.2.2.1,y.1.1,y.1.2.1,y.1.2.2.1,y.2.2.2.1,())
theorem f4V(d3:ρ9):F7 (e7K N d3) (e47 N d3) N (e9K N d3) 0 e8L:=fun st k hk=>p8 53 e6p e6o _ _ (e9K N d3) (f1V N d3) _ st k hk (rfl)
theorem f3L(d3:ρ9)(x:SV [.box 0 0,.v (.rc .part),V0])(y:BV [.cells [V2,V0,V0]]):F5 (e47 N d3) Tryz.f137 (e2A N d3) f1W (e7K N d3) x y=s4 N d3 x.2.1 x.2.2.1 y.1.1 y.1.2.1 y.1.2.2.1:=by kernel_rfl
theorem d2i(d3:ρ9)(T0:Sound Tryz.prog GW B7 137 (e28 fun x y=>d3 x.2.1 x.2.2.1 y.1.1 y.1.2.1 y.1.2.2.1)):Sound Tryz.prog GW B7 137 (e2A N d3):=
 a2A (y6 e2B (d2f N d3) _ _ (d2g N d3 T0)) Tryz.func137 rfl Tryz.call137 (e2A N d3) f1W (fun _ _=>rfl) N (e7K N d3) (show LoopsOk (e7K N d3) (e47 N d3) N (e9K N d3) [(0,e8L)]from⟨f4V N d3,trivial⟩) (f3L N d3)
def s8(N:Nat):Nat->GPart->Int->τ4->Int->Int->Option (GExpr×List τ0×Int×Int)|0=>fun _ _ _ _ _=>none|d+1=>s4 N (s8 N d)
theorem d3V(N:Nat):∀d,Sound Tryz.prog GW B7 137 (e28 fun x y=>s8 N d x.2.1 x.2.2.1 y.1.1 y.1.2.1 y.1.2.2.1)
 |0=>Sound.never Tryz.call137 (fun _ _=>rfl)
 |d+1=>d2i N (s8 N d) (d3V N d)
def v7(c:Int)(e:List τ0)(g l:Int):Option (Except Int (GExpr×List τ0×Int×Int)):=l7 (I2 N N e g l) fun b=>f5 (s8 N N b.1 (IntKind.i64.wrap (c+1)) b.2.1 b.2.2.1 b.2.2.2) fun a=>some (.ok (GExpr.mk a.1.kind a.1.text a.1.number a.1.keys a.1.kids,a.2))
abbrev e2X(f:SV [.box 0 0,V0]->BV [.cells [V2,V0,V0]]->Option (Except Int (GExpr×List τ0×Int×Int))):PF:={ps:=[.box 0 0,V0],bs:=[.cells [V2,V0,V0]],rs:=[.v τ5],cs:=[.cells [V2,V0,V0]],R:=GExpr×List τ0×Int×Int,out:=fun z=>((z.1,()),((z.2.1,z.2.2.1,z.2.2.2,()),())),f:=f}
abbrev e0F:PF:=e2X fun x y=>v7 N x.2.1 y.1.1 y.1.2.1 y.1.2.2.1
def d25:FuncId->Option Tmp->Option AF:=fun f _=>O5 [(137,e28 fun x y=>s8 N N x.2.1 x.2.2.1 y.1.1 y.1.2.1 y.1.2.2.1)] f
theorem d26:I8 (d25 N):=fun _ _ _ h=>o6 h (v8 (d3V N N) G7)
def c57:FuncId->Option Tmp->Option PF:=fun f _=>
 match f with
  |138=>some (e24 fun _ y=>I2 N N y.1.1 y.1.2.1 y.1.2.2.1)
  |_=>none
theorem d27:∀f q F,c57 N f q=some F->SoundP Tryz.prog GW B7 c2n f F:=by
 intro f q F h
 unfold c57 at h
 split at h
 ·cases h;exact d3J N N
 ·cases h
def e2W:Nat->Hint:=fun i=>
 match i with
 |_=>o3
abbrev e5c:Env:=a0I e2W (d25 N) (c57 N) (fun _=>false) (fun _=>false)
theorem d28:SoundP Tryz.prog GW B7 c2n 81 (e0F N):=
 a0p (e5c N) (D6 e2W (d25 N) (c57 N) _ _ (d26 N) (d27 N)) Tryz.func81 rfl Tryz.call81 (e0F N) (fun x y=>(x.1,y.1.1,y.1.2.1,y.1.2.2.1)) (fun _ _=>rfl) N (fun _ _=>by kernel_rfl) rfl
end
end Go.Proofs.YtolpmfhiegpohaaGreatDoor
