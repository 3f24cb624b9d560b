/- % -/
import Derived.Test.YtolpmfhiegpohaaGreatDoorQPaF7
namespace Go.Proofs.YtolpmfhiegpohaaGreatDoor
set_option maxRecDepth 100000
set_option linter.unusedVariables false
open Go Go.RowKit
noncomputable section
noncomputable section
variable(N:Nat)
def H5(c:Int)(t:List τ0)(u v e:Int)(g l:d7)(m:Int)(o:d7)(p q:Int):Option (Except Int (τf)):=l8 (m8 N t u v) fun b=>l8 (j7 N [61] b.2.1 b.2.2.1 b.2.2.2) fun r=>l8 (A3 N c r.1 r.2.1 r.2.2) fun a=>n8 (n8 (k7 2 (br (Zf [(b.1,Ze a.1)].length X7) (some (.ok (c,a.2.1,a.2.2.1,a.2.2.2,e,g,l,m,o,p,q,[(b.1,Ze a.1)]))) none)) (n8 (k7 1 (br (Zf [(b.1,Ze a.1)].length X7) (some (.ok (c,a.2.1,a.2.2.1,a.2.2.2,e,g,l,m,o,p,q,[(b.1,Ze a.1)]))) none)) (br (Zf [(b.1,Ze a.1)].length X7) (some (.ok (c,a.2.1,a.2.2.1,a.2.2.2,e,g,l,m,o,p,q,[(b.1,Ze a.1)]))) none))) (n8 (n8 (k7 2 (br (Zf [(b.1,Ze a.1)].length X7) (some (.ok (c,a.2.1,a.2.2.1,a.2.2.2,e,g,l,m,o,p,q,[(b.1,Ze a.1)]))) none)) (n8 (k7 3 (br (Zf [(b.1,Ze a.1)].length X7) (some (.ok (c,a.2.1,a.2.2.1,a.2.2.2,e,g,l,m,o,p,q,[(b.1,Ze a.1)]))) none)) (n8 (k7 1 (br (Zf [(b.1,Ze a.1)].length X7) (some (.ok (c,a.2.1,a.2.2.1,a.2.2.2,e,g,l,m,o,p,q,[(b.1,Ze a.1)]))) none)) (k7 1 (k7 2 (br (Zf [(b.1,Ze a.1)].length X7) (some (.ok (c,a.2.1,a.2.2.1,a.2.2.2,e,g,l,m,o,p,q,[(b.1,Ze a.1)]))) none)))))) (n8 (n8 (k7 1 (br (Zf [(b.1,Ze a.1)].length X7) (some (.ok (c,a.2.1,a.2.2.1,a.2.2.2,e,g,l,m,o,p,q,[(b.1,Ze a.1)]))) none)) (br (Zf [(b.1,Ze a.1)].length X7) (some (.ok (c,a.2.1,a.2.2.1,a.2.2.2,e,g,l,m,o,p,q,[(b.1,Ze a.1)]))) none)) (n8 (n8 (k7 1 (br (Zf [(b.1,Ze a.1)].length X7) (some (.ok (c,a.2.1,a.2.2.1,a.2.2.2,e,g,l,m,o,p,q,[(b.1,Ze a.1)]))) none)) (k7 1 (k7 2 (br (Zf [(b.1,Ze a.1)].length X7) (some (.ok (c,a.2.1,a.2.2.1,a.2.2.2,e,g,l,m,o,p,q,[(b.1,Ze a.1)]))) none)))) (k7 3 (br (Zf [(b.1,Ze a.1)].length X7) (some (.ok (c,a.2.1,a.2.2.1,a.2.2.2,e,g,l,m,o,p,q,[(b.1,Ze a.1)]))) none)))))
abbrev d7O(f:SV [.box 0 0,.box 1 0,.box 2 0]->BV [.cells [.box 3 0],.cells [V0],.cells [.box 4 0],.cells [V2,V0,V0],.cells [V0,V1,V1,.nilS,.nilS,V0,V1,V0,.nilS,.nilS,.nilS,.nilS,V0]]->Option (Except Int (τf))):PF:={ps:=[.box 0 0,.box 1 0,.box 2 0],bs:=[.cells [.box 3 0],.cells [V0],.cells [.box 4 0],.cells [V2,V0,V0],.cells [V0,V1,V1,.nilS,.nilS,V0,V1,V0,.nilS,.nilS,.nilS,.nilS,V0]],rs:=[],cs:=[.cells [.box 3 0],.cells [V0],.cells [.box 4 0],.cells [V2,V0,V0],.cells [V0,V1,V1,.nilS,.row 5,V0,V1,V0,.nilS,.nilS,.nilS,.nilS,V0],.row 75 X7 false],R:=τf,out:=fun z=>((),((),()),(z.1,()),((),()),(z.2.1,z.2.2.1,z.2.2.2.1,()),(z.2.2.2.2.1,z.2.2.2.2.2.1,z.2.2.2.2.2.2.1,(),(),z.2.2.2.2.2.2.2.1,z.2.2.2.2.2.2.2.2.1,z.2.2.2.2.2.2.2.2.2.1,(),(),(),(),z.2.2.2.2.2.2.2.2.2.2.1,()),z.2.2.2.2.2.2.2.2.2.2.2,()),f:=f}
abbrev d5U:PF:=d7O fun _ y=>let z:=y.2.2.2.2.1.2.2.2.2.2;let u:=y.2.2.2;H5 N y.2.1.1 u.1.1 u.1.2.1 u.1.2.2.1 u.2.1.1 u.2.1.2.1 u.2.1.2.2.1 z.1 z.2.1 z.2.2.1 z.2.2.2.2.2.2.2.1
def c7S(_N:Nat):FuncId->Option Tmp->Option AF:=fun f _=>lkF [] f
theorem c7T:X8 (c7S N):=fun _ _ _ h=>B9 h T8
def c27:FuncId->Option Tmp->Option PF:=fun f _=>
 match f with
  |75=>some (b81 N)
  |76=>some (a8G N)
  |81=>some (c49 N)
  |_=>none
theorem c7U:∀f q F,c27 N f q=some F->SoundP Tryz.prog GW x9 B2 f F:=by
 intro f q F h;unfold c27 at h;split at h
 ·cases h;exact a3r N
 ·cases h;exact V8 N
 ·cases h;exact a8x N
 ·cases h
def d7N:Nat->Hint:=fun i=>
 match i with
 |100003=>⟨[],[1,2],[],[],[],[]⟩
 |_=>y5
abbrev e0n:Env:=a08 d7N (c7S N) (c27 N) (fun _=>false) (fun _=>false)
theorem c7V:SoundP Tryz.prog GW x9 B2 139 (d5U N):=
 a0V (e0n N) (H9 d7N (c7S N) (c27 N) _ _ (c7T N) (c7U N)) Tryz.func139 rfl Tryz.call139 (d5U N) (fun _ y=>let z:=y.2.2.2.2.1.2.2.2.2.2;let u:=y.2.2.2;(y.2.1.1,u.1.1,u.1.2.1,u.1.2.2.1,u.2.1.1,u.2.1.2.1,u.2.1.2.2.1,z.1,z.2.1,z.2.2.1,z.2.2.2.2.2.2.2.1,u.2.2.1)) (fun _ _=>rfl) N (fun _ _=>by kernel_rfl) rfl
def I1(e:Int)(u:List τ0)(v w g:Int)(l m:d7)(o:Int)(p:d7)(q r:Int)(c:List (d7×GExpr)):Option (Except Int (τf)):=l8 (m8 N u v w) fun b=>l8 (j7 N [61] b.2.1 b.2.2.1 b.2.2.2) fun t=>l8 (A3 N e t.1 t.2.1 t.2.2) fun a=>n8 (n8 (k7 2 (br (Zf (c.length + [(b.1,Ze a.1)].length) X7) (some (.ok (e,a.2.1,a.2.2.1,a.2.2.2,g,l,m,o,p,q,r,c ++ [(b.1,Ze a.1)]))) none)) (n8 (k7 1 (br (Zf (c.length + [(b.1,Ze a.1)].length) X7) (some (.ok (e,a.2.1,a.2.2.1,a.2.2.2,g,l,m,o,p,q,r,c ++ [(b.1,Ze a.1)]))) none)) (br (Zf (c.length + [(b.1,Ze a.1)].length) X7) (some (.ok (e,a.2.1,a.2.2.1,a.2.2.2,g,l,m,o,p,q,r,c ++ [(b.1,Ze a.1)]))) none))) (n8 (n8 (k7 2 (br (Zf (c.length + [(b.1,Ze a.1)].length) X7) (some (.ok (e,a.2.1,a.2.2.1,a.2.2.2,g,l,m,o,p,q,r,c ++ [(b.1,Ze a.1)]))) none)) (n8 (k7 3 (br (Zf (c.length + [(b.1,Ze a.1)].length) X7) (some (.ok (e,a.2.1,a.2.2.1,a.2.2.2,g,l,m,o,p,q,r,c ++ [(b.1,Ze a.1)]))) none)) (n8 (k7 1 (br (Zf (c.length + [(b.1,Ze a.1)].length) X7) (some (.ok (e,a.2.1,a.2.2.1,a.2.2.2,g,l,m,o,p,q,r,c ++ [(b.1,Ze a.1)]))) none)) (k7 1 (k7 2 (br (Zf (c.length + [(b.1,Ze a.1)].length) X7) (some (.ok (e,a.2.1,a.2.2.1,a.2.2.2,g,l,m,o,p,q,r,c ++ [(b.1,Ze a.1)]))) none)))))) (n8 (n8 (k7 1 (br (Zf (c.length + [(b.1,Ze a.1)].length) X7) (some (.ok (e,a.2.1,a.2.2.1,a.2.2.2,g,l,m,o,p,q,r,c ++ [(b.1,Ze a.1)]))) none)) (br (Zf (c.length + [(b.1,Ze a.1)].length) X7) (some (.ok (e,a.2.1,a.2.2.1,a.2.2.2,g,l,m,o,p,q,r,c ++ [(b.1,Ze a.1)]))) none)) (n8 (n8 (k7 1 (br (Zf (c.length + [(b.1,Ze a.1)].length) X7) (some (.ok (e,a.2.1,a.2.2.1,a.2.2.2,g,l,m,o,p,q,r,c ++ [(b.1,Ze a.1)]))) none)) (k7 1 (k7 2 (br (Zf (c.length + [(b.1,Ze a.1)].length) X7) (some (.ok (e,a.2.1,a.2.2.1,a.2.2.2,g,l,m,o,p,q,r,c ++ [(b.1,Ze a.1)]))) none)))) (k7 3 (br (Zf (c.length + [(b.1,Ze a.1)].length) X7) (some (.ok (e,a.2.1,a.2.2.1,a.2.2.2,g,l,m,o,p,q,r,c ++ [(b.1,Ze a.1)]))) none)))))
abbrev d7L(f:SV [.box 0 0,.box 1 0,.box 2 0]->BV [.cells [.box 3 0],.cells [V0],.cells [.box 4 0],.cells [V2,V0,V0],.cells [V0,V1,V1,.nilS,.row 5,V0,V1,V0,.nilS,.nilS,.nilS,.nilS,V0],.row 75 X7 false]->Option (Except Int (τf))):PF:={ps:=[.box 0 0,.box 1 0,.box 2 0],bs:=[.cells [.box 3 0],.cells [V0],.cells [.box 4 0],.cells [V2,V0,V0],.cells [V0,V1,V1,.nilS,.row 5,V0,V1,V0,.nilS,.nilS,.nilS,.nilS,V0],.row 75 X7 false],rs:=[],cs:=[.cells [.box 3 0],.cells [V0],.cells [.box 4 0],.cells [V2,V0,V0],.cells [V0,V1,V1,.nilS,.row 5,V0,V1,V0,.nilS,.nilS,.nilS,.nilS,V0],.row 75 X7 false],R:=τf,out:=fun z=>((),((),()),(z.1,()),((),()),(z.2.1,z.2.2.1,z.2.2.2.1,()),(z.2.2.2.2.1,z.2.2.2.2.2.1,z.2.2.2.2.2.2.1,(),(),z.2.2.2.2.2.2.2.1,z.2.2.2.2.2.2.2.2.1,z.2.2.2.2.2.2.2.2.2.1,(),(),(),(),z.2.2.2.2.2.2.2.2.2.2.1,()),z.2.2.2.2.2.2.2.2.2.2.2,()),f:=f}
abbrev d5S:PF:=d7L fun _ y=>let z:=y.2.2.2.2.1.2.2.2.2.2;let u:=y.2.2.2;I1 N y.2.1.1 u.1.1 u.1.2.1 u.1.2.2.1 u.2.1.1 u.2.1.2.1 u.2.1.2.2.1 z.1 z.2.1 z.2.2.1 z.2.2.2.2.2.2.2.1 u.2.2.1
def c7N(_N:Nat):FuncId->Option Tmp->Option AF:=fun f _=>lkF [] f
theorem c7O:X8 (c7N N):=fun _ _ _ h=>B9 h T8
def c26:FuncId->Option Tmp->Option PF:=fun f _=>
 match f with
  |75=>some (b81 N)
  |76=>some (a8G N)
  |81=>some (c49 N)
  |_=>none
theorem c7P:∀f q F,c26 N f q=some F->SoundP Tryz.prog GW x9 B2 f F:=by
 intro f q F h;unfold c26 at h;split at h
 ·cases h;exact a3r N
 ·cases h;exact V8 N
 ·cases h;exact a8x N
 ·cases h
def d7K:Nat->Hint:=fun i=>
 match i with
 |100003=>⟨[],[1,2],[],[],[],[]⟩
 |_=>y5
abbrev e0k:Env:=a08 d7K (c7N N) (c26 N) (fun _=>false) (fun _=>false)
theorem c7Q:SoundP Tryz.prog GW x9 B2 139 (d5S N):=
 a0V (e0k N) (H9 d7K (c7N N) (c26 N) _ _ (c7O N) (c7P N)) Tryz.func139 rfl Tryz.call139 (d5S N) (fun _ y=>let z:=y.2.2.2.2.1.2.2.2.2.2;let u:=y.2.2.2;(y.2.1.1,u.1.1,u.1.2.1,u.1.2.2.1,u.2.1.1,u.2.1.2.1,u.2.1.2.2.1,z.1,z.2.1,z.2.2.1,z.2.2.2.2.2.2.2.1,u.2.2.1)) (fun _ _=>rfl) N (fun _ _=>by kernel_rfl) rfl
def b3h(k0 self:ρ0)(t:List τ0)(u v:Int)(c e:Int)(g l:d7)(m:Int)(o:d7)(p q:Int)(r:List (d7×GExpr)):Option (Except Int (τb)):=j8 (l4 N 4 [44] t u v) fun b=>br (b.1) (l8 (I1 N c b.2.1 b.2.2.1 b.2.2.2 e g l m o p q r) fun a=>self a.2.1 a.2.2.1 a.2.2.2.1 a.1 a.2.2.2.2.1 a.2.2.2.2.2.1 a.2.2.2.2.2.2.1 a.2.2.2.2.2.2.2.1 a.2.2.2.2.2.2.2.2.1 a.2.2.2.2.2.2.2.2.2.1 a.2.2.2.2.2.2.2.2.2.2.1 a.2.2.2.2.2.2.2.2.2.2.2) (k0 b.2.1 b.2.2.1 b.2.2.2 c e g l m o p q r)
def b3g(N:Nat)(k0:ρ0):Nat->τ6->Int->Int->Int->Int->d7->d7->Int->d7->Int->Int->(List (d7×GExpr))->Option (Except Int (τb))|0,_,_,_,_,_,_,_,_,_,_,_,_=>none|n+1,a,b,c,e,g,l,m,o,p,q,r,t=>b3h N k0 (b3g N k0 n) a b c e g l m o p q r t
def K6(e:d7)(W:Bool)(T:List τ0)(U V:Int)(g l:Int)(m o:d7)(p:Int)(q:d7)(r t:Int):Option (Except Int (τb)):=br (W) (j8 (l4 N 4 e T U V) fun c=>br (c.1) (some (.ok (c.2.1,c.2.2.1,c.2.2.2,g,l,m,o,[],p,q,r,t))) (l8 (H5 N g c.2.1 c.2.2.1 c.2.2.2 l m o p q r t) fun a=>b3g N (fun u v w B C D E H J K L O=>l8 (j7 N e u v w) fun Q=>some (.ok (Q.1,Q.2.1,Q.2.2,B,C,D,E,O,H,J,K,L))) N a.2.1 a.2.2.1 a.2.2.2.1 a.1 a.2.2.2.2.1 a.2.2.2.2.2.1 a.2.2.2.2.2.2.1 a.2.2.2.2.2.2.2.1 a.2.2.2.2.2.2.2.2.1 a.2.2.2.2.2.2.2.2.2.1 a.2.2.2.2.2.2.2.2.2.2.1 a.2.2.2.2.2.2.2.2.2.2.2)) (l8 (H5 N g T U V l m o p q r t) fun b=>b3g N (fun u v w B C D E H J K L O=>l8 (j7 N e u v w) fun R=>some (.ok (R.1,R.2.1,R.2.2,B,C,D,E,O,H,J,K,L))) N b.2.1 b.2.2.1 b.2.2.2.1 b.1 b.2.2.2.2.1 b.2.2.2.2.2.1 b.2.2.2.2.2.2.1 b.2.2.2.2.2.2.2.1 b.2.2.2.2.2.2.2.2.1 b.2.2.2.2.2.2.2.2.2.1 b.2.2.2.2.2.2.2.2.2.2.1 b.2.2.2.2.2.2.2.2.2.2.2)
abbrev d8u(f:SV [.box 0 0,V1,V3,.fnc 139 [1,2,3]]->BV [.cells [V2,V0,V0],.cells [.box 0 0],.cells [V0],.cells [.box 4 0],.cells [V0,V1,V1,.nilS,.nilS,V0,V1,V0,.nilS,.nilS,.nilS,.nilS,V0]]->Option (Except Int (τb))):PF:={ps:=[.box 0 0,V1,V3,.fnc 139 [1,2,3]],bs:=[.cells [V2,V0,V0],.cells [.box 0 0],.cells [V0],.cells [.box 4 0],.cells [V0,V1,V1,.nilS,.nilS,V0,V1,V0,.nilS,.nilS,.nilS,.nilS,V0]],rs:=[],cs:=[.cells [V2,V0,V0],.cells [.box 0 0],.cells [V0],.cells [.box 4 0],.cells [V0,V1,V1,.nilS,.v (.sl X7),V0,V1,V0,.nilS,.nilS,.nilS,.nilS,V0]],R:=τb,out:=fun z=>((),(z.1,z.2.1,z.2.2.1,()),((),()),(z.2.2.2.1,()),((),()),(z.2.2.2.2.1,z.2.2.2.2.2.1,z.2.2.2.2.2.2.1,(),z.2.2.2.2.2.2.2.1,z.2.2.2.2.2.2.2.2.1,z.2.2.2.2.2.2.2.2.2.1,z.2.2.2.2.2.2.2.2.2.2.1,(),(),(),(),z.2.2.2.2.2.2.2.2.2.2.2,()),()),f:=f}
abbrev c9y:PF:=d8u fun x y=>let z:=y.2.2.2.2.1.2.2.2.2.2;let u:=y.2.2.2.2.1;K6 N x.2.1 x.2.2.1 y.1.1 y.1.2.1 y.1.2.2.1 y.2.2.1.1 u.1 u.2.1 u.2.2.1 z.1 z.2.1 z.2.2.1 z.2.2.2.2.2.2.2.1
abbrev c9A:SV []->BV [.cells [V2,V0,V0],.cells [.box 0 0],.cells [V0],.cells [.box 4 0],.cells [V0,V1,V1,.nilS,.v (.sl X7),V0,V1,V0,.nilS,.nilS,.nilS,.nilS,V0]]->(τb):=fun _ y=>let z:=y.2.2.2.2.1.2.2.2.2;let u:=y.2.2.2.2.1;(y.1.1,y.1.2.1,y.1.2.2.1,y.2.2.1.1,u.1,u.2.1,u.2.2.1,z.1,z.2.1,z.2.2.1,z.2.2.2.1,z.2.2.2.2.2.2.2.2.1)
abbrev d4v:SV []->BV [.cells [V2,V0,V0],.cells [.box 0 0],.cells [V0],.cells [.box 4 0],.cells [V0,V1,V1,.nilS,.v (.sl X7),V0,V1,V0,.nilS,.nilS,.nilS,.nilS,V0]]->Except Int (τb):=fun x y=> .ok (c9A x y)
def c9w:FuncId->Option Tmp->Option AF:=fun f _=>lkF [(74,a8H N)] f
theorem c9x:X8 (c9w N):=fun _ _ _ h=>B9 h (L3 (V9 N) T8)
def c3t:FuncId->Option Tmp->Option PF:=fun f q=>
 match f with
  |76=>some (a8G N)
  |139=>match q with|some 15=>some (d5U N)|some 19=>some (d5S N)|_=>none
  |_=>none
theorem c9z:∀f q F,c3t N f q=some F->SoundP Tryz.prog GW x9 B2 f F:=by
 intro f q F h;unfold c3t at h;split at h
 ·cases h;exact V8 N
 ·split at h
  ·cases h;exact c7V N
  ·cases h;exact c7Q N
  ·cases h
 ·cases h
def c1e:Nat->Hint:=fun i=>
 match i with
 |0=>⟨[],[0,1,3],[0,1,2,3,4,101500],[0,1],[0,1,2,3,4,101500],[]⟩
 |_=>y5
abbrev b3f:Env:=a08 c1e (c9w N) (c3t N) (fun _=>false) (fun _=>false)
abbrev c1d:=L9 (b3f N) Tryz.f77 (PF.tf (c9y N)) d4v
abbrev a8w:List (Nat×Sl):=[(0,.box 0 0),(1,V1),(3,.fnc 139 [1,2,3])]
abbrev a8v:List (Nat×Sb):=[(0,.cells [V2,V0,V0]),(1,.cells [.box 0 0]),(2,.cells [V0]),(3,.cells [.box 4 0]),(4,.cells [V0,V1,V1,.nilS,.row 101500,V0,V1,V0,.nilS,.nilS,.nilS,.nilS,V0]),(101500,.row 75 X7 false)]
def b3i(a:d7)(b:List τ0)(c e:Int)(g l:Int)(m o:d7)(p:Int)(q:d7)(r t:Int)(u:List (d7×GExpr)):St:=⟨23,[(0,.box 0 0),(1,.v .str a),(3,.fnc 139 [1,2,3])],[(0,.cells [.v (.sl τ1) b,.v τ2 c,.v τ2 e]),(1,.cells [.box 0 0]),(2,.cells [.v τ2 g]),(3,.cells [.box 4 0]),(4,.cells [.v τ2 l,.v .str m,.v .str o,.nilS,.row 101500,.v τ2 p,.v .str q,.v τ2 r,.nilS,.nilS,.nilS,.nilS,.v τ2 t]),(101500,.row 75 X7 false u)]⟩
def a6e(a:d7)(b:List τ0)(c e:Int)(g l:Int)(m o:d7)(p:Int)(q:d7)(r t:Int)(u:List (d7×GExpr)):St:=⟨23,[(0,.box 0 0),(1,.v .str a)],[(0,.cells [.v (.sl τ1) b,.v τ2 c,.v τ2 e]),(1,.cells [.box 0 0]),(2,.cells [.v τ2 g]),(3,.cells [.box 4 0]),(4,.cells [.v τ2 l,.v .str m,.v .str o,.nilS,.row 101500,.v τ2 p,.v .str q,.v τ2 r,.nilS,.nilS,.nilS,.nilS,.v τ2 t]),(101500,.row 75 X7 false u)]⟩
def d25(a:d7)(b:List τ0)(c e:Int)(g l:Int)(m o:d7)(p:Int)(q:d7)(r t:Int)(u:List (d7×GExpr))(k:Ex->St->Option (Except Int (τb))):Option (Except Int (τb)):=b3g N (fun v w B C D E H J K L O Q=>k (.exit 0) (a6e a v w B C D E H J K L O Q)) N b c e g l m o p q r t u
abbrev c3s:FV a8w->HV a8v->(Ex->St->Option (Except Int (τb)))->Option (Except Int (τb)):=fun x y k=>let z:=y.2.2.2.2.1.2.2.2.2.2;let u:=y.2.2.2.2;d25 N x.2.1 y.1.1 y.1.2.1 y.1.2.2.1 y.2.2.1.1 u.1.1 u.1.2.1 u.1.2.2.1 z.1 z.2.1 z.2.2.1 z.2.2.2.2.2.2.2.1 u.2.1 k
def b3j:Nat->Code->St->(Ex->St->Option (Except Int (τb)))->Option (Except Int (τb)):=fun i c=>
 match i with
 |0=>(LPc 23 a8w a8v (c3s N) (fun st k=>iter (c1e 0) (o7 (b3f N) N c 0) N st k))
 |i=>fun st k=>iter (c1e i) (o7 (b3f N) N c i) N st k
theorem c1c(u:d7)(KX:Nat->St->Option (Except Int (τb)))(I:St->Option (Except Int (τb)))(a:List τ0)(b c:Int)(e g:Int)(l m:d7)(o:Int)(p:d7)(q r:Int)(t:List (d7×GExpr)):
  p8 (b3j N) (b3f N) X6 0 (b3i u a b c e g l m o p q r t) (F9 (c1e 0) I KX (c1d N))=b3h N (fun v w B C D E H J K L O Q=>KX 0 (a6e u v w B C D E H J K L O Q)) (fun a b c e g l m o p q r t=>I (b3i u a b c e g l m o p q r t)) a b c e g l m o p q r t:=by kernel_rfl
theorem c9v:∀x y k,(∀st,k .ret st=(c1d N) st)->iter (c1e 0) (o7 (b3f N) N X6 0) N ⟨23,unF a8w x,unH a8v y⟩ k=c3s N x y k:=fun x y k hk=>
 p9 (S:=τ6×(Int)×(Int)×(Int)×(Int)×(d7)×(d7)×(Int)×(d7)×(Int)×(Int)×(List (d7×GExpr))×Unit) (c1e 0) _ (p8 (b3j N) (b3f N) X6 0) (c1d N) (u9 _ _ N _ X6 0 (show LoopsOk (b3j N) (b3f N) N (c1d N) []from trivial)) (fun s=>b3i x.2.1 s.1 s.2.1 s.2.2.1 s.2.2.2.1 s.2.2.2.2.1 s.2.2.2.2.2.1 s.2.2.2.2.2.2.1 s.2.2.2.2.2.2.2.1 s.2.2.2.2.2.2.2.2.1 s.2.2.2.2.2.2.2.2.2.1 s.2.2.2.2.2.2.2.2.2.2.1 s.2.2.2.2.2.2.2.2.2.2.2.1) k hk
  (fun self s=>let z:=s.2.2.2.2.2.2;b3h N (fun a b c e g l m o p q r t=>k (.exit 0) (a6e x.2.1 a b c e g l m o p q r t)) (fun u v w B C D E H J K L O=>self (u,v,w,B,C,D,E,H,J,K,L,O,())) s.1 s.2.1 s.2.2.1 s.2.2.2.1 s.2.2.2.2.1 s.2.2.2.2.2.1 z.1 z.2.1 z.2.2.1 z.2.2.2.1 z.2.2.2.2.1 z.2.2.2.2.2.1) (fun n s=>let z:=s.2.2.2.2.2.2;b3g N (fun a b c e g l m o p q r t=>k (.exit 0) (a6e x.2.1 a b c e g l m o p q r t)) n s.1 s.2.1 s.2.2.1 s.2.2.2.1 s.2.2.2.2.1 s.2.2.2.2.2.1 z.1 z.2.1 z.2.2.1 z.2.2.2.1 z.2.2.2.2.1 z.2.2.2.2.2.1) (fun _=>rfl) (fun _ _=>rfl)
  (fun I s=>let z:=s.2.2.2.2.2.2;c1c N x.2.1 (fun j=>k (.exit j)) I s.1 s.2.1 s.2.2.1 s.2.2.2.1 s.2.2.2.2.1 s.2.2.2.2.2.1 z.1 z.2.1 z.2.2.1 z.2.2.2.1 z.2.2.2.2.1 z.2.2.2.2.2.1) N (y.1.1,y.1.2.1,y.1.2.2.1,y.2.2.1.1,y.2.2.2.2.1.1,y.2.2.2.2.1.2.1,y.2.2.2.2.1.2.2.1,y.2.2.2.2.1.2.2.2.2.2.1,y.2.2.2.2.1.2.2.2.2.2.2.1,y.2.2.2.2.1.2.2.2.2.2.2.2.1,y.2.2.2.2.1.2.2.2.2.2.2.2.2.2.2.2.2.1,y.2.2.2.2.2.1,())
theorem d6n:Z1 (b3j N) (b3f N) N (c1d N) 0 X6:=fun st k hk=>H3 23 a8w a8v _ _ (c1d N) (c9v N) _ st k hk (rfl)
theorem d26(x:SV [.box 0 0,V1,V3,.fnc 139 [1,2,3]])(y:BV [.cells [V2,V0,V0],.cells [.box 0 0],.cells [V0],.cells [.box 4 0],.cells [V0,V1,V1,.nilS,.nilS,V0,V1,V0,.nilS,.nilS,.nilS,.nilS,V0]]):V4 (b3f N) Tryz.f77 (PF.tf (c9y N)) d4v (b3j N) x y=K6 N x.2.1 x.2.2.1 y.1.1 y.1.2.1 y.1.2.2.1 y.2.2.1.1 y.2.2.2.2.1.1 y.2.2.2.2.1.2.1 y.2.2.2.2.1.2.2.1 y.2.2.2.2.1.2.2.2.2.2.1 y.2.2.2.2.1.2.2.2.2.2.2.1 y.2.2.2.2.1.2.2.2.2.2.2.2.1 y.2.2.2.2.1.2.2.2.2.2.2.2.2.2.2.2.2.1:=by kernel_rfl
theorem c9B:SoundP Tryz.prog GW x9 B2 77 (c9y N):=
 b2g (b3f N) (H9 c1e (c9w N) (c3t N) _ _ (c9x N) (c9z N)) Tryz.func77 rfl Tryz.call77 (c9y N) c9A (fun _ _=>rfl) N (b3j N) (show LoopsOk (b3j N) (b3f N) N (c1d N) [(0,X6)]from⟨d6n N,trivial⟩) (d26 N)
def S3(l:Int)(r:List τ0)(t u _C:Int)(m o:d7)(v:Int)(w:d7)(B p:Int):Option (Except Int (List τ0×Int×Int×Int×d7×d7×List (d7×GExpr)×Int×d7×Int×List d7×List GExpr×Int)):=j8 (l4 N 4 [40] r t u) fun c=>br (c.1) (l8 (K6 N [41] true c.2.1 c.2.2.1 c.2.2.2 l 2 m o v w B p) fun b=>l8 (j7 N [59] b.1 b.2.1 b.2.2.1) fun q=>some (.ok (q.1,q.2.1,q.2.2,b.2.2.2.2.1,b.2.2.2.2.2.1,b.2.2.2.2.2.2.1,b.2.2.2.2.2.2.2.1,b.2.2.2.2.2.2.2.2.1,b.2.2.2.2.2.2.2.2.2.1,b.2.2.2.2.2.2.2.2.2.2.1,[],[],b.2.2.2.2.2.2.2.2.2.2.2))) (l8 (j7 N [61] c.2.1 c.2.2.1 c.2.2.2) fun g=>n8 (k7 1 (l8 (A3 N l g.1 g.2.1 g.2.2) fun a=>l8 (j7 N [59] a.2.1 a.2.2.1 a.2.2.2) fun e=>some (.ok (e.1,e.2.1,e.2.2,1,m,o,[],a.1.kind,a.1.text,a.1.number,a.1.keys,a.1.kids,p)))) (k7 1 (k7 2 (l8 (A3 N l g.1 g.2.1 g.2.2) fun a=>l8 (j7 N [59] a.2.1 a.2.2.1 a.2.2.2) fun e=>some (.ok (e.1,e.2.1,e.2.2,1,m,o,[],a.1.kind,a.1.text,a.1.number,a.1.keys,a.1.kids,p))))))
abbrev d8b(f:SV [.box 0 0,.box 1 0,V0]->BV [.cells [V2,V0,V0],.cells [V0,V1,V1,.nilS,.nilS,V0,V1,V0,.nilS,.nilS,.nilS,.nilS,V0]]->Option (Except Int (List τ0×Int×Int×Int×d7×d7×List (d7×GExpr)×Int×d7×Int×List d7×List GExpr×Int))):PF:={ps:=[.box 0 0,.box 1 0,V0],bs:=[.cells [V2,V0,V0],.cells [V0,V1,V1,.nilS,.nilS,V0,V1,V0,.nilS,.nilS,.nilS,.nilS,V0]],rs:=[],cs:=[.cells [V2,V0,V0],.cells [V0,V1,V1,.nilS,.v (.sl X7),V0,V1,V0,.v N3,.v (.sl τ3),.nilS,.nilS,V0]],R:=List τ0×Int×Int×Int×d7×d7×List (d7×GExpr)×Int×d7×Int×List d7×List GExpr×Int,out:=fun z=>((),(z.1,z.2.1,z.2.2.1,()),(z.2.2.2.1,z.2.2.2.2.1,z.2.2.2.2.2.1,(),z.2.2.2.2.2.2.1,z.2.2.2.2.2.2.2.1,z.2.2.2.2.2.2.2.2.1,z.2.2.2.2.2.2.2.2.2.1,z.2.2.2.2.2.2.2.2.2.2.1,z.2.2.2.2.2.2.2.2.2.2.2.1,(),(),z.2.2.2.2.2.2.2.2.2.2.2.2,()),()),f:=f}
abbrev d58:PF:=d8b fun x y=>let z:=y.2.1.2.2.2.2.2;S3 N x.2.2.1 y.1.1 y.1.2.1 y.1.2.2.1 y.2.1.1 y.2.1.2.1 y.2.1.2.2.1 z.1 z.2.1 z.2.2.1 z.2.2.2.2.2.2.2.1
def c8C:FuncId->Option Tmp->Option AF:=fun f _=>lkF [(74,a8H N)] f
theorem c8D:X8 (c8C N):=fun _ _ _ h=>B9 h (L3 (V9 N) T8)
def c3g:FuncId->Option Tmp->Option PF:=fun f _=>
 match f with
  |76=>some (a8G N)
  |77=>some (c9y N)
  |81=>some (c49 N)
  |_=>none
theorem c8E:∀f q F,c3g N f q=some F->SoundP Tryz.prog GW x9 B2 f F:=by
 intro f q F h;unfold c3g at h;split at h
 ·cases h;exact V8 N
 ·cases h;exact c9B N
 ·cases h;exact a8x N
 ·cases h
def d8a:Nat->Hint:=fun i=>
 match i with
 |100006=>⟨[],[1,2],[],[],[],[]⟩
 |_=>y5
abbrev e0v:Env:=a08 d8a (c8C N) (c3g N) (fun _=>false) (fun i=>match i with|139=>true|_=>false)
theorem c8F:SoundP Tryz.prog GW x9 B2 83 (d58 N):=
 a0V (e0v N) (H9 d8a (c8C N) (c3g N) _ _ (c8D N) (c8E N)) Tryz.func83 rfl Tryz.call83 (d58 N) (fun _ y=>let z:=y.2.1.2.2.2.2;(y.1.1,y.1.2.1,y.1.2.2.1,y.2.1.1,y.2.1.2.1,y.2.1.2.2.1,z.1,z.2.1,z.2.2.1,z.2.2.2.1,z.2.2.2.2.1,z.2.2.2.2.2.1,z.2.2.2.2.2.2.2.2.1)) (fun _ _=>rfl) N (fun _ _=>by kernel_rfl) rfl
end
end
noncomputable section
noncomputable section
variable(N:Nat)
def y3(d3:ρ7)(g:Int)(L:List τ0)(O Q:Int):Option (Except Int (GStmt×List τ0×Int×Int)):=j8 (P5 N L O Q) fun e=>j8 (Q4 N e.1 g e.2.1 e.2.2.1 e.2.2.2) fun H=>j8 (l4 N 1 [109,97,99,114,111] H.1 H.2.1 H.2.2) fun m=>br (m.1) (l8 (m8 N m.2.1 m.2.2.1 m.2.2.2) fun u=>l8 (j7 N [40] u.2.1 u.2.2.1 u.2.2.2) fun J=>l8 (N9 N [41] true J.1 J.2.1 J.2.2 3 u.1 [] 0 [] 0 e.1) fun c=>l8 (B7 N d3 (IntKind.i64.wrap (g+1)) c.1 c.2.1 c.2.2.1) fun v=>some (.ok (GStmt.mk c.2.2.2.1 c.2.2.2.2.1 c.2.2.2.2.2.1 c.2.2.2.2.2.2.1 [] (GExpr.mk c.2.2.2.2.2.2.2.1 c.2.2.2.2.2.2.2.2.1 c.2.2.2.2.2.2.2.2.2.1 [] []) v.2.2.2 [] c.2.2.2.2.2.2.2.2.2.2,v.1,v.2.1,v.2.2.1))) (j8 (l4 N 1 [102,111,114] m.2.1 m.2.2.1 m.2.2.2) fun o=>br (o.1) (l8 (m8 N o.2.1 o.2.2.1 o.2.2.2) fun w=>l8 (L6 N [105,110] w.2.1 w.2.2.1 w.2.2.2) fun K=>l8 (A3 N g K.1 K.2.1 K.2.2) fun l=>l8 (B7 N d3 (IntKind.i64.wrap (g+1)) l.2.1 l.2.2.1 l.2.2.2) fun B=>some (.ok (GStmt.mk 4 w.1 [] [] [] (Ze l.1) B.2.2.2 [] e.1,B.1,B.2.1,B.2.2.1))) (j8 (l4 N 1 [105,102] o.2.1 o.2.2.1 o.2.2.2) fun p=>br (p.1) (l8 (A3 N g p.2.1 p.2.2.1 p.2.2.2) fun a=>l8 (B7 N d3 (IntKind.i64.wrap (g+1)) a.2.1 a.2.2.1 a.2.2.2) fun r=>j8 (l4 N 1 [101,108,115,101] r.1 r.2.1 r.2.2.1) fun t=>br (t.1) (l8 (B7 N d3 (IntKind.i64.wrap (g+1)) t.2.1 t.2.2.1 t.2.2.2) fun C=>some (.ok (GStmt.mk 5 [] [] [] [] (Ze a.1) r.2.2.2 C.2.2.2 e.1,C.1,C.2.1,C.2.2.1))) (some (.ok (GStmt.mk 5 [] [] [] [] (Ze a.1) r.2.2.2 [] e.1,t.2)))) (j8 (l4 N 1 [117,115,101] p.2.1 p.2.2.1 p.2.2.2) fun q=>br (q.1) (l8 (q9 N q.2.1 q.2.2.1 q.2.2.2) fun D=>l8 (j7 N [59] D.2.1 D.2.2.1 D.2.2.2) fun R=>some (.ok (GStmt.mk 6 [] D.1 [] [] (GExpr.mk 0 [] 0 [] []) [] [] e.1,R))) (l8 (m8 N q.2.1 q.2.2.1 q.2.2.2) fun E=>l8 (S3 N g E.2.1 E.2.2.1 E.2.2.2 0 E.1 [] 0 [] 0 e.1) fun b=>some (.ok (GStmt.mk b.2.2.2.1 b.2.2.2.2.1 b.2.2.2.2.2.1 [] b.2.2.2.2.2.2.1 (GExpr.mk b.2.2.2.2.2.2.2.1 b.2.2.2.2.2.2.2.2.1 b.2.2.2.2.2.2.2.2.2.1 b.2.2.2.2.2.2.2.2.2.2.1 b.2.2.2.2.2.2.2.2.2.2.2.1) [] [] b.2.2.2.2.2.2.2.2.2.2.2.2,b.1,b.2.1,b.2.2.1))))))
abbrev d7H(f:SV [.box 0 0,V0]->BV [.cells [V2,V0,V0]]->Option (Except Int (GStmt×List τ0×Int×Int))):PF:={ps:=[.box 0 0,V0],bs:=[.cells [V2,V0,V0]],rs:=[.v τ17],cs:=[.cells [V2,V0,V0]],R:=GStmt×List τ0×Int×Int,out:=fun z=>((z.1,()),(z.2.1,z.2.2.1,z.2.2.2,()),()),f:=f}
abbrev d7F(d3:ρ7):PF:=d7H fun x y=>y3 N d3 x.2.1 y.1.1 y.1.2.1 y.1.2.2.1
def c7B(d3:ρ7):FuncId->Option Tmp->Option AF:=fun f _=>lkF [(72,d3t N),(73,d3i N),(74,a8H N)] f
theorem c7C(d3:ρ7)(o4:SoundP Tryz.prog GW x9 B2 48 (a8a fun x y=>d3 x.2.1 y.1.1 y.1.2.1 y.1.2.2.1)):∀f q F,c7B N d3 f q=some F->Sound Tryz.prog GW x9 f F:=fun _ _ _ h=>B9 h (L3 (b3F N) (L3 (b8Y N) (L3 (V9 N) T8)))
def c23(d3:ρ7):FuncId->Option Tmp->Option PF:=fun f _=>
 match f with
  |75=>some (b81 N)
  |76=>some (a8G N)
  |77=>some (d0o N)
  |79=>some (c85 N d3)
  |80=>some (d6t N)
  |81=>some (c49 N)
  |82=>some (c5c N)
  |83=>some (d58 N)
  |_=>none
theorem c7D(d3:ρ7)(o4:SoundP Tryz.prog GW x9 B2 48 (a8a fun x y=>d3 x.2.1 y.1.1 y.1.2.1 y.1.2.2.1)):∀f q F,c23 N d3 f q=some F->SoundP Tryz.prog GW x9 B2 f F:=by
 intro f q F h;unfold c23 at h;split at h
 ·cases h;exact a3r N
 ·cases h;exact V8 N
 ·cases h;exact d0r N
 ·cases h;exact c88 N d3 o4
 ·cases h;exact d0b N
 ·cases h;exact a8x N
 ·cases h;exact a8I N
 ·cases h;exact c8F N
 ·cases h
def d7G:Nat->Hint:=fun i=>
 match i with
 |_=>y5
abbrev e0j(d3:ρ7):Env:=a08 d7G (c7B N d3) (c23 N d3) (fun _=>false) (fun i=>match i with|78=>true|_=>false)
theorem c7E(d3:ρ7)(o4:SoundP Tryz.prog GW x9 B2 48 (a8a fun x y=>d3 x.2.1 y.1.1 y.1.2.1 y.1.2.2.1)):SoundP Tryz.prog GW x9 B2 48 (d7F N d3):=
 a0V (e0j N d3) (H9 d7G (c7B N d3) (c23 N d3) _ _ (c7C N d3 o4) (c7D N d3 o4)) Tryz.func48 rfl Tryz.call48 (d7F N d3) (fun x y=>(x.1,y.1.1,y.1.2.1,y.1.2.2.1)) (fun _ _=>rfl) N (fun _ _=>by kernel_rfl) rfl
def m9(N:Nat):Nat->Int->τ6->Int->Int->Option (Except Int (GStmt×List τ0×Int×Int))|0=>fun _ _ _ _=>none|d+1=>y3 N (m9 N d)
theorem b8N(N:Nat):∀d,SoundP Tryz.prog GW x9 B2 48 (a8a fun x y=>m9 N d x.2.1 y.1.1 y.1.2.1 y.1.2.2.1)
 |0=>SoundP.never Tryz.call48 (fun _ _=>rfl)
 |d+1=>c7E N (m9 N d) (b8N N d)
end
end
end Go.Proofs.YtolpmfhiegpohaaGreatDoor
