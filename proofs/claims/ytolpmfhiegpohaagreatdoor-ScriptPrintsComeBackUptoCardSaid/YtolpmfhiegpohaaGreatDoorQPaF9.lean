/- % -/
import Derived.Test.YtolpmfhiegpohaaGreatDoorQPaF7
namespace Go.Proofs.YtolpmfhiegpohaaGreatDoor
set_option maxRecDepth 100000
set_option linter.unusedVariables false
open Go Go.RowKit
noncomputable section
noncomputable section
variable(N:Nat)
def K3(c:Int)(t:List τ0)(u v e:Int)(g l:d9)(m:Int)(o:d9)(p q:Int):Option (Except Int (Int×List τ0×Int×Int×Int×d9×d9×Int×d9×Int×Int×List (d9×GExpr))):=m8 (o4 N t u v) fun b=>m8 (k6 N [61] b.2.1 b.2.2.1 b.2.2.2) fun r=>m8 (B6 N c r.1 r.2.1 r.2.2) fun a=>o9 (o9 (k9 2 (br (Zf [(b.1,Ze a.1)].length τ12) (some (.ok (c,a.2.1,a.2.2.1,a.2.2.2,e,g,l,m,o,p,q,[(b.1,Ze a.1)]))) none)) (o9 (k9 1 (br (Zf [(b.1,Ze a.1)].length τ12) (some (.ok (c,a.2.1,a.2.2.1,a.2.2.2,e,g,l,m,o,p,q,[(b.1,Ze a.1)]))) none)) (br (Zf [(b.1,Ze a.1)].length τ12) (some (.ok (c,a.2.1,a.2.2.1,a.2.2.2,e,g,l,m,o,p,q,[(b.1,Ze a.1)]))) none))) (o9 (o9 (k9 2 (br (Zf [(b.1,Ze a.1)].length τ12) (some (.ok (c,a.2.1,a.2.2.1,a.2.2.2,e,g,l,m,o,p,q,[(b.1,Ze a.1)]))) none)) (o9 (k9 3 (br (Zf [(b.1,Ze a.1)].length τ12) (some (.ok (c,a.2.1,a.2.2.1,a.2.2.2,e,g,l,m,o,p,q,[(b.1,Ze a.1)]))) none)) (o9 (k9 1 (br (Zf [(b.1,Ze a.1)].length τ12) (some (.ok (c,a.2.1,a.2.2.1,a.2.2.2,e,g,l,m,o,p,q,[(b.1,Ze a.1)]))) none)) (k9 1 (k9 2 (br (Zf [(b.1,Ze a.1)].length τ12) (some (.ok (c,a.2.1,a.2.2.1,a.2.2.2,e,g,l,m,o,p,q,[(b.1,Ze a.1)]))) none)))))) (o9 (o9 (k9 1 (br (Zf [(b.1,Ze a.1)].length τ12) (some (.ok (c,a.2.1,a.2.2.1,a.2.2.2,e,g,l,m,o,p,q,[(b.1,Ze a.1)]))) none)) (br (Zf [(b.1,Ze a.1)].length τ12) (some (.ok (c,a.2.1,a.2.2.1,a.2.2.2,e,g,l,m,o,p,q,[(b.1,Ze a.1)]))) none)) (o9 (o9 (k9 1 (br (Zf [(b.1,Ze a.1)].length τ12) (some (.ok (c,a.2.1,a.2.2.1,a.2.2.2,e,g,l,m,o,p,q,[(b.1,Ze a.1)]))) none)) (k9 1 (k9 2 (br (Zf [(b.1,Ze a.1)].length τ12) (some (.ok (c,a.2.1,a.2.2.1,a.2.2.2,e,g,l,m,o,p,q,[(b.1,Ze a.1)]))) none)))) (k9 3 (br (Zf [(b.1,Ze a.1)].length τ12) (some (.ok (c,a.2.1,a.2.2.1,a.2.2.2,e,g,l,m,o,p,q,[(b.1,Ze a.1)]))) none)))))
abbrev e0I(f:SV [.box 0 0,.box 1 0,.box 2 0]->BV [.cells [.box 3 0],.cells [V0],.cells [.box 4 0],.cells [V2,V0,V0],.cells [V0,V1,V1,.nilS,.nilS,V0,V1,V0,.nilS,.nilS,.nilS,.nilS,V0]]->Option (Except Int (Int×List τ0×Int×Int×Int×d9×d9×Int×d9×Int×Int×List (d9×GExpr)))):PF:={ps:=[.box 0 0,.box 1 0,.box 2 0],bs:=[.cells [.box 3 0],.cells [V0],.cells [.box 4 0],.cells [V2,V0,V0],.cells [V0,V1,V1,.nilS,.nilS,V0,V1,V0,.nilS,.nilS,.nilS,.nilS,V0]],rs:=[],cs:=[.cells [.box 3 0],.cells [V0],.cells [.box 4 0],.cells [V2,V0,V0],.cells [V0,V1,V1,.nilS,.row 5,V0,V1,V0,.nilS,.nilS,.nilS,.nilS,V0],.row 75 τ12 false],R:=Int×List τ0×Int×Int×Int×d9×d9×Int×d9×Int×Int×List (d9×GExpr),out:=fun z=>((),((),()),(z.1,()),((),()),(z.2.1,z.2.2.1,z.2.2.2.1,()),(z.2.2.2.2.1,z.2.2.2.2.2.1,z.2.2.2.2.2.2.1,(),(),z.2.2.2.2.2.2.2.1,z.2.2.2.2.2.2.2.2.1,z.2.2.2.2.2.2.2.2.2.1,(),(),(),(),z.2.2.2.2.2.2.2.2.2.2.1,()),z.2.2.2.2.2.2.2.2.2.2.2,()),f:=f}
abbrev d0Y:PF:=e0I fun _ y=>let z:=y.2.2.2.2.1.2.2.2.2.2;let u:=y.2.2.2;K3 N y.2.1.1 u.1.1 u.1.2.1 u.1.2.2.1 u.2.1.1 u.2.1.2.1 u.2.1.2.2.1 z.1 z.2.1 z.2.2.1 z.2.2.2.2.2.2.2.1
def d7k(_N:Nat):FuncId->Option Tmp->Option AF:=fun f _=>t7 [] f
theorem d0X:a1f (d7k N):=fun _ _ _ h=>D7 h lkn
def f7P:FuncId->Option Tmp->Option PF:=fun f _=>
 match f with
  |75=>some (d6l N)
  |76=>some (d9f N)
  |81=>some (d9a N)
  |_=>none
theorem f8H:∀f q F,f7P N f q=some F->SoundP Tryz.prog GW B0G c2M f F:=by
 intro f q F h;unfold f7P at h;split at h
 ·cases h;exact c1Z N
 ·cases h;exact d27 N
 ·cases h;exact d2G N
 ·cases h
def c74:Nat->Hint:=fun i=>
 match i with
 |100003=>⟨[],[1,2],[],[],[],[]⟩
 |_=>B8
abbrev b69:Env:=a2Q c74 (d7k N) (f7P N) (fun _=>false) (fun _=>false)
theorem d00:SoundP Tryz.prog GW B0G c2M 139 (d0Y N):=
 a2x (b69 N) (L0 c74 (d7k N) (f7P N) _ _ (d0X N) (f8H N)) Tryz.func139 rfl Tryz.call139 (d0Y N) (fun _ y=>let z:=y.2.2.2.2.1.2.2.2.2.2;let u:=y.2.2.2;(y.2.1.1,u.1.1,u.1.2.1,u.1.2.2.1,u.2.1.1,u.2.1.2.1,u.2.1.2.2.1,z.1,z.2.1,z.2.2.1,z.2.2.2.2.2.2.2.1,u.2.2.1)) (fun _ _=>rfl) N (fun _ _=>by kernel_rfl) rfl
def L8(e:Int)(u:List τ0)(v w g:Int)(l m:d9)(o:Int)(p:d9)(q r:Int)(c:List (d9×GExpr)):Option (Except Int (Int×List τ0×Int×Int×Int×d9×d9×Int×d9×Int×Int×List (d9×GExpr))):=m8 (o4 N u v w) fun b=>m8 (k6 N [61] b.2.1 b.2.2.1 b.2.2.2) fun t=>m8 (B6 N e t.1 t.2.1 t.2.2) fun a=>o9 (o9 (k9 2 (br (Zf (c.length + [(b.1,Ze a.1)].length) τ12) (some (.ok (e,a.2.1,a.2.2.1,a.2.2.2,g,l,m,o,p,q,r,c ++ [(b.1,Ze a.1)]))) none)) (o9 (k9 1 (br (Zf (c.length + [(b.1,Ze a.1)].length) τ12) (some (.ok (e,a.2.1,a.2.2.1,a.2.2.2,g,l,m,o,p,q,r,c ++ [(b.1,Ze a.1)]))) none)) (br (Zf (c.length + [(b.1,Ze a.1)].length) τ12) (some (.ok (e,a.2.1,a.2.2.1,a.2.2.2,g,l,m,o,p,q,r,c ++ [(b.1,Ze a.1)]))) none))) (o9 (o9 (k9 2 (br (Zf (c.length + [(b.1,Ze a.1)].length) τ12) (some (.ok (e,a.2.1,a.2.2.1,a.2.2.2,g,l,m,o,p,q,r,c ++ [(b.1,Ze a.1)]))) none)) (o9 (k9 3 (br (Zf (c.length + [(b.1,Ze a.1)].length) τ12) (some (.ok (e,a.2.1,a.2.2.1,a.2.2.2,g,l,m,o,p,q,r,c ++ [(b.1,Ze a.1)]))) none)) (o9 (k9 1 (br (Zf (c.length + [(b.1,Ze a.1)].length) τ12) (some (.ok (e,a.2.1,a.2.2.1,a.2.2.2,g,l,m,o,p,q,r,c ++ [(b.1,Ze a.1)]))) none)) (k9 1 (k9 2 (br (Zf (c.length + [(b.1,Ze a.1)].length) τ12) (some (.ok (e,a.2.1,a.2.2.1,a.2.2.2,g,l,m,o,p,q,r,c ++ [(b.1,Ze a.1)]))) none)))))) (o9 (o9 (k9 1 (br (Zf (c.length + [(b.1,Ze a.1)].length) τ12) (some (.ok (e,a.2.1,a.2.2.1,a.2.2.2,g,l,m,o,p,q,r,c ++ [(b.1,Ze a.1)]))) none)) (br (Zf (c.length + [(b.1,Ze a.1)].length) τ12) (some (.ok (e,a.2.1,a.2.2.1,a.2.2.2,g,l,m,o,p,q,r,c ++ [(b.1,Ze a.1)]))) none)) (o9 (o9 (k9 1 (br (Zf (c.length + [(b.1,Ze a.1)].length) τ12) (some (.ok (e,a.2.1,a.2.2.1,a.2.2.2,g,l,m,o,p,q,r,c ++ [(b.1,Ze a.1)]))) none)) (k9 1 (k9 2 (br (Zf (c.length + [(b.1,Ze a.1)].length) τ12) (some (.ok (e,a.2.1,a.2.2.1,a.2.2.2,g,l,m,o,p,q,r,c ++ [(b.1,Ze a.1)]))) none)))) (k9 3 (br (Zf (c.length + [(b.1,Ze a.1)].length) τ12) (some (.ok (e,a.2.1,a.2.2.1,a.2.2.2,g,l,m,o,p,q,r,c ++ [(b.1,Ze a.1)]))) none)))))
abbrev c1N(f:SV [.box 0 0,.box 1 0,.box 2 0]->BV [.cells [.box 3 0],.cells [V0],.cells [.box 4 0],.cells [V2,V0,V0],.cells [V0,V1,V1,.nilS,.row 5,V0,V1,V0,.nilS,.nilS,.nilS,.nilS,V0],.row 75 τ12 false]->Option (Except Int (Int×List τ0×Int×Int×Int×d9×d9×Int×d9×Int×Int×List (d9×GExpr)))):PF:={ps:=[.box 0 0,.box 1 0,.box 2 0],bs:=[.cells [.box 3 0],.cells [V0],.cells [.box 4 0],.cells [V2,V0,V0],.cells [V0,V1,V1,.nilS,.row 5,V0,V1,V0,.nilS,.nilS,.nilS,.nilS,V0],.row 75 τ12 false],rs:=[],cs:=[.cells [.box 3 0],.cells [V0],.cells [.box 4 0],.cells [V2,V0,V0],.cells [V0,V1,V1,.nilS,.row 5,V0,V1,V0,.nilS,.nilS,.nilS,.nilS,V0],.row 75 τ12 false],R:=Int×List τ0×Int×Int×Int×d9×d9×Int×d9×Int×Int×List (d9×GExpr),out:=fun z=>((),((),()),(z.1,()),((),()),(z.2.1,z.2.2.1,z.2.2.2.1,()),(z.2.2.2.2.1,z.2.2.2.2.2.1,z.2.2.2.2.2.2.1,(),(),z.2.2.2.2.2.2.2.1,z.2.2.2.2.2.2.2.2.1,z.2.2.2.2.2.2.2.2.2.1,(),(),(),(),z.2.2.2.2.2.2.2.2.2.2.1,()),z.2.2.2.2.2.2.2.2.2.2.2,()),f:=f}
abbrev f0l:PF:=c1N fun _ y=>let z:=y.2.2.2.2.1.2.2.2.2.2;let u:=y.2.2.2;L8 N y.2.1.1 u.1.1 u.1.2.1 u.1.2.2.1 u.2.1.1 u.2.1.2.1 u.2.1.2.2.1 z.1 z.2.1 z.2.2.1 z.2.2.2.2.2.2.2.1 u.2.2.1
def f8E(_N:Nat):FuncId->Option Tmp->Option AF:=fun f _=>t7 [] f
theorem f8F:a1f (f8E N):=fun _ _ _ h=>D7 h lkn
def f7O:FuncId->Option Tmp->Option PF:=fun f _=>
 match f with
  |75=>some (d6l N)
  |76=>some (d9f N)
  |81=>some (d9a N)
  |_=>none
theorem f8G:∀f q F,f7O N f q=some F->SoundP Tryz.prog GW B0G c2M f F:=by
 intro f q F h;unfold f7O at h;split at h
 ·cases h;exact c1Z N
 ·cases h;exact d27 N
 ·cases h;exact d2G N
 ·cases h
def g0w:Nat->Hint:=fun i=>
 match i with
 |100003=>⟨[],[1,2],[],[],[],[]⟩
 |_=>B8
abbrev g0T:Env:=a2Q g0w (f8E N) (f7O N) (fun _=>false) (fun _=>false)
theorem c1O:SoundP Tryz.prog GW B0G c2M 139 (f0l N):=
 a2x (g0T N) (L0 g0w (f8E N) (f7O N) _ _ (f8F N) (f8G N)) Tryz.func139 rfl Tryz.call139 (f0l N) (fun _ y=>let z:=y.2.2.2.2.1.2.2.2.2.2;let u:=y.2.2.2;(y.2.1.1,u.1.1,u.1.2.1,u.1.2.2.1,u.2.1.1,u.2.1.2.1,u.2.1.2.2.1,z.1,z.2.1,z.2.2.1,z.2.2.2.2.2.2.2.1,u.2.2.1)) (fun _ _=>rfl) N (fun _ _=>by kernel_rfl) rfl
def f6c(k0 self:ρ0)(t:List τ0)(u v:Int)(c e:Int)(g l:d9)(m:Int)(o:d9)(p q:Int)(r:List (d9×GExpr)):Option (Except Int (List τ0×Int×Int×Int×Int×d9×d9×List (d9×GExpr)×Int×d9×Int×Int)):=j8 (l6 N 4 [44] t u v) fun b=>br (b.1) (m8 (L8 N c b.2.1 b.2.2.1 b.2.2.2 e g l m o p q r) fun a=>self a.2.1 a.2.2.1 a.2.2.2.1 a.1 a.2.2.2.2.1 a.2.2.2.2.2.1 a.2.2.2.2.2.2.1 a.2.2.2.2.2.2.2.1 a.2.2.2.2.2.2.2.2.1 a.2.2.2.2.2.2.2.2.2.1 a.2.2.2.2.2.2.2.2.2.2.1 a.2.2.2.2.2.2.2.2.2.2.2) (k0 b.2.1 b.2.2.1 b.2.2.2 c e g l m o p q r)
def e90(N:Nat)(k0:ρ0):Nat->τ6->Int->Int->Int->Int->d9->d9->Int->d9->Int->Int->(List (d9×GExpr))->Option (Except Int (List τ0×Int×Int×Int×Int×d9×d9×List (d9×GExpr)×Int×d9×Int×Int))|0,_,_,_,_,_,_,_,_,_,_,_,_=>none|n+1,a,b,c,e,g,l,m,o,p,q,r,t=>f6c N k0 (e90 N k0 n) a b c e g l m o p q r t
def P3(e:d9)(W:Bool)(T:List τ0)(U V:Int)(g l:Int)(m o:d9)(p:Int)(q:d9)(r t:Int):Option (Except Int (List τ0×Int×Int×Int×Int×d9×d9×List (d9×GExpr)×Int×d9×Int×Int)):=br (W) (j8 (l6 N 4 e T U V) fun c=>br (c.1) (some (.ok (c.2.1,c.2.2.1,c.2.2.2,g,l,m,o,[],p,q,r,t))) (m8 (K3 N g c.2.1 c.2.2.1 c.2.2.2 l m o p q r t) fun a=>e90 N (fun u v w B C D E H J K L O=>m8 (k6 N e u v w) fun Q=>some (.ok (Q.1,Q.2.1,Q.2.2,B,C,D,E,O,H,J,K,L))) N a.2.1 a.2.2.1 a.2.2.2.1 a.1 a.2.2.2.2.1 a.2.2.2.2.2.1 a.2.2.2.2.2.2.1 a.2.2.2.2.2.2.2.1 a.2.2.2.2.2.2.2.2.1 a.2.2.2.2.2.2.2.2.2.1 a.2.2.2.2.2.2.2.2.2.2.1 a.2.2.2.2.2.2.2.2.2.2.2)) (m8 (K3 N g T U V l m o p q r t) fun b=>e90 N (fun u v w B C D E H J K L O=>m8 (k6 N e u v w) fun R=>some (.ok (R.1,R.2.1,R.2.2,B,C,D,E,O,H,J,K,L))) N b.2.1 b.2.2.1 b.2.2.2.1 b.1 b.2.2.2.2.1 b.2.2.2.2.2.1 b.2.2.2.2.2.2.1 b.2.2.2.2.2.2.2.1 b.2.2.2.2.2.2.2.2.1 b.2.2.2.2.2.2.2.2.2.1 b.2.2.2.2.2.2.2.2.2.2.1 b.2.2.2.2.2.2.2.2.2.2.2)
abbrev e1q(f:SV [.box 0 0,V1,V3,.fnc 139 [1,2,3]]->BV [.cells [V2,V0,V0],.cells [.box 0 0],.cells [V0],.cells [.box 4 0],.cells [V0,V1,V1,.nilS,.nilS,V0,V1,V0,.nilS,.nilS,.nilS,.nilS,V0]]->Option (Except Int (List τ0×Int×Int×Int×Int×d9×d9×List (d9×GExpr)×Int×d9×Int×Int))):PF:={ps:=[.box 0 0,V1,V3,.fnc 139 [1,2,3]],bs:=[.cells [V2,V0,V0],.cells [.box 0 0],.cells [V0],.cells [.box 4 0],.cells [V0,V1,V1,.nilS,.nilS,V0,V1,V0,.nilS,.nilS,.nilS,.nilS,V0]],rs:=[],cs:=[.cells [V2,V0,V0],.cells [.box 0 0],.cells [V0],.cells [.box 4 0],.cells [V0,V1,V1,.nilS,.v (.sl τ12),V0,V1,V0,.nilS,.nilS,.nilS,.nilS,V0]],R:=List τ0×Int×Int×Int×Int×d9×d9×List (d9×GExpr)×Int×d9×Int×Int,out:=fun z=>((),(z.1,z.2.1,z.2.2.1,()),((),()),(z.2.2.2.1,()),((),()),(z.2.2.2.2.1,z.2.2.2.2.2.1,z.2.2.2.2.2.2.1,(),z.2.2.2.2.2.2.2.1,z.2.2.2.2.2.2.2.2.1,z.2.2.2.2.2.2.2.2.2.1,z.2.2.2.2.2.2.2.2.2.2.1,(),(),(),(),z.2.2.2.2.2.2.2.2.2.2.2,()),()),f:=f}
abbrev d89:PF:=e1q fun x y=>let z:=y.2.2.2.2.1.2.2.2.2.2;let u:=y.2.2.2.2.1;P3 N x.2.1 x.2.2.1 y.1.1 y.1.2.1 y.1.2.2.1 y.2.2.1.1 u.1 u.2.1 u.2.2.1 z.1 z.2.1 z.2.2.1 z.2.2.2.2.2.2.2.1
abbrev f8O:SV []->BV [.cells [V2,V0,V0],.cells [.box 0 0],.cells [V0],.cells [.box 4 0],.cells [V0,V1,V1,.nilS,.v (.sl τ12),V0,V1,V0,.nilS,.nilS,.nilS,.nilS,V0]]->(List τ0×Int×Int×Int×Int×d9×d9×List (d9×GExpr)×Int×d9×Int×Int):=fun _ y=>let z:=y.2.2.2.2.1.2.2.2.2;let u:=y.2.2.2.2.1;(y.1.1,y.1.2.1,y.1.2.2.1,y.2.2.1.1,u.1,u.2.1,u.2.2.1,z.1,z.2.1,z.2.2.1,z.2.2.2.1,z.2.2.2.2.2.2.2.2.1)
abbrev f3x:SV []->BV [.cells [V2,V0,V0],.cells [.box 0 0],.cells [V0],.cells [.box 4 0],.cells [V0,V1,V1,.nilS,.v (.sl τ12),V0,V1,V0,.nilS,.nilS,.nilS,.nilS,V0]]->Except Int (List τ0×Int×Int×Int×Int×d9×d9×List (d9×GExpr)×Int×d9×Int×Int):=fun x y=> .ok (f8O x y)
def e72:FuncId->Option Tmp->Option AF:=fun f _=>t7 [(74,d3b N)] f
theorem e73:a1f (e72 N):=fun _ _ _ h=>D7 h (Q3 (d3e N) lkn)
def e6H:FuncId->Option Tmp->Option PF:=fun f q=>
 match f with
  |76=>some (d9f N)
  |139=>match q with|some 15=>some (d0Y N)|some 19=>some (f0l N)|_=>none
  |_=>none
theorem e74:∀f q F,e6H N f q=some F->SoundP Tryz.prog GW B0G c2M f F:=by
 intro f q F h;unfold e6H at h;split at h
 ·cases h;exact d27 N
 ·split at h
  ·cases h;exact d00 N
  ·cases h;exact c1O N
  ·cases h
 ·cases h
def f1a:Nat->Hint:=fun i=>
 match i with
 |0=>⟨[],[0,1,3],[0,1,2,3,4,101500],[0,1],[0,1,2,3,4,101500],[]⟩
 |_=>B8
abbrev f1Q:Env:=a2Q f1a (e72 N) (e6H N) (fun _=>false) (fun _=>false)
abbrev e85:=P5 (f1Q N) Tryz.f77 (PF.tf (d89 N)) f3x
abbrev e4H:List (Nat×Sl):=[(0,.box 0 0),(1,V1),(3,.fnc 139 [1,2,3])]
abbrev e2r:List (Nat×Sb):=[(0,.cells [V2,V0,V0]),(1,.cells [.box 0 0]),(2,.cells [V0]),(3,.cells [.box 4 0]),(4,.cells [V0,V1,V1,.nilS,.row 101500,V0,V1,V0,.nilS,.nilS,.nilS,.nilS,V0]),(101500,.row 75 τ12 false)]
def e91(a:d9)(b:List τ0)(c e:Int)(g l:Int)(m o:d9)(p:Int)(q:d9)(r t:Int)(u:List (d9×GExpr)):St:=⟨23,[(0,.box 0 0),(1,.v .str a),(3,.fnc 139 [1,2,3])],[(0,.cells [.v (.sl τ1) b,.v τ2 c,.v τ2 e]),(1,.cells [.box 0 0]),(2,.cells [.v τ2 g]),(3,.cells [.box 4 0]),(4,.cells [.v τ2 l,.v .str m,.v .str o,.nilS,.row 101500,.v τ2 p,.v .str q,.v τ2 r,.nilS,.nilS,.nilS,.nilS,.v τ2 t]),(101500,.row 75 τ12 false u)]⟩
def a61(a:d9)(b:List τ0)(c e:Int)(g l:Int)(m o:d9)(p:Int)(q:d9)(r t:Int)(u:List (d9×GExpr)):St:=⟨23,[(0,.box 0 0),(1,.v .str a)],[(0,.cells [.v (.sl τ1) b,.v τ2 c,.v τ2 e]),(1,.cells [.box 0 0]),(2,.cells [.v τ2 g]),(3,.cells [.box 4 0]),(4,.cells [.v τ2 l,.v .str m,.v .str o,.nilS,.row 101500,.v τ2 p,.v .str q,.v τ2 r,.nilS,.nilS,.nilS,.nilS,.v τ2 t]),(101500,.row 75 τ12 false u)]⟩
def f4s(a:d9)(b:List τ0)(c e:Int)(g l:Int)(m o:d9)(p:Int)(q:d9)(r t:Int)(u:List (d9×GExpr))(k:Ex->St->Option (Except Int (List τ0×Int×Int×Int×Int×d9×d9×List (d9×GExpr)×Int×d9×Int×Int))):Option (Except Int (List τ0×Int×Int×Int×Int×d9×d9×List (d9×GExpr)×Int×d9×Int×Int)):=e90 N (fun v w B C D E H J K L O Q=>k (.exit 0) (a61 a v w B C D E H J K L O Q)) N b c e g l m o p q r t u
abbrev f2Q:FV e4H->HV e2r->(Ex->St->Option (Except Int (List τ0×Int×Int×Int×Int×d9×d9×List (d9×GExpr)×Int×d9×Int×Int)))->Option (Except Int (List τ0×Int×Int×Int×Int×d9×d9×List (d9×GExpr)×Int×d9×Int×Int)):=fun x y k=>let z:=y.2.2.2.2.1.2.2.2.2.2;let u:=y.2.2.2.2;f4s N x.2.1 y.1.1 y.1.2.1 y.1.2.2.1 y.2.2.1.1 u.1.1 u.1.2.1 u.1.2.2.1 z.1 z.2.1 z.2.2.1 z.2.2.2.2.2.2.2.1 u.2.1 k
def f6d:Nat->Code->St->(Ex->St->Option (Except Int (List τ0×Int×Int×Int×Int×d9×d9×List (d9×GExpr)×Int×d9×Int×Int)))->Option (Except Int (List τ0×Int×Int×Int×Int×d9×d9×List (d9×GExpr)×Int×d9×Int×Int)):=fun i c=>
 match i with
 |0=>(LPc 23 e4H e2r (f2Q N) (fun st k=>iter (f1a 0) (q7 (f1Q N) N c 0) N st k))
 |i=>fun st k=>iter (f1a i) (q7 (f1Q N) N c i) N st k
theorem f2r(u:d9)(KX:Nat->St->Option (Except Int (List τ0×Int×Int×Int×Int×d9×d9×List (d9×GExpr)×Int×d9×Int×Int)))(I:St->Option (Except Int (List τ0×Int×Int×Int×Int×d9×d9×List (d9×GExpr)×Int×d9×Int×Int)))(a:List τ0)(b c:Int)(e g:Int)(l m:d9)(o:Int)(p:d9)(q r:Int)(t:List (d9×GExpr)):
  s4 (f6d N) (f1Q N) b8w 0 (e91 u a b c e g l m o p q r t) (I2 (f1a 0) I KX (e85 N))=f6c N (fun v w B C D E H J K L O Q=>KX 0 (a61 u v w B C D E H J K L O Q)) (fun a b c e g l m o p q r t=>I (e91 u a b c e g l m o p q r t)) a b c e g l m o p q r t:=by kernel_rfl
theorem f3u:∀x y k,(∀st,k .ret st=(e85 N) st)->iter (f1a 0) (q7 (f1Q N) N b8w 0) N ⟨23,unF e4H x,unH e2r y⟩ k=f2Q N x y k:=fun x y k hk=>
 s5 (S:=τ6×(Int)×(Int)×(Int)×(Int)×(d9)×(d9)×(Int)×(d9)×(Int)×(Int)×(List (d9×GExpr))×Unit) (f1a 0) _ (s4 (f6d N) (f1Q N) b8w 0) (e85 N) (x9 _ _ N _ b8w 0 (show LoopsOk (f6d N) (f1Q N) N (e85 N) []from trivial)) (fun s=>e91 x.2.1 s.1 s.2.1 s.2.2.1 s.2.2.2.1 s.2.2.2.2.1 s.2.2.2.2.2.1 s.2.2.2.2.2.2.1 s.2.2.2.2.2.2.2.1 s.2.2.2.2.2.2.2.2.1 s.2.2.2.2.2.2.2.2.2.1 s.2.2.2.2.2.2.2.2.2.2.1 s.2.2.2.2.2.2.2.2.2.2.2.1) k hk
  (fun self s=>let z:=s.2.2.2.2.2.2;f6c N (fun a b c e g l m o p q r t=>k (.exit 0) (a61 x.2.1 a b c e g l m o p q r t)) (fun u v w B C D E H J K L O=>self (u,v,w,B,C,D,E,H,J,K,L,O,())) s.1 s.2.1 s.2.2.1 s.2.2.2.1 s.2.2.2.2.1 s.2.2.2.2.2.1 z.1 z.2.1 z.2.2.1 z.2.2.2.1 z.2.2.2.2.1 z.2.2.2.2.2.1) (fun n s=>let z:=s.2.2.2.2.2.2;e90 N (fun a b c e g l m o p q r t=>k (.exit 0) (a61 x.2.1 a b c e g l m o p q r t)) n s.1 s.2.1 s.2.2.1 s.2.2.2.1 s.2.2.2.2.1 s.2.2.2.2.2.1 z.1 z.2.1 z.2.2.1 z.2.2.2.1 z.2.2.2.2.1 z.2.2.2.2.2.1) (fun _=>rfl) (fun _ _=>rfl)
  (fun I s=>let z:=s.2.2.2.2.2.2;f2r N x.2.1 (fun j=>k (.exit j)) I s.1 s.2.1 s.2.2.1 s.2.2.2.1 s.2.2.2.2.1 s.2.2.2.2.2.1 z.1 z.2.1 z.2.2.1 z.2.2.2.1 z.2.2.2.2.1 z.2.2.2.2.2.1) N (y.1.1,y.1.2.1,y.1.2.2.1,y.2.2.1.1,y.2.2.2.2.1.1,y.2.2.2.2.1.2.1,y.2.2.2.2.1.2.2.1,y.2.2.2.2.1.2.2.2.2.2.1,y.2.2.2.2.1.2.2.2.2.2.2.1,y.2.2.2.2.1.2.2.2.2.2.2.2.1,y.2.2.2.2.1.2.2.2.2.2.2.2.2.2.2.2.2.1,y.2.2.2.2.2.1,())
theorem f5f:a1g (f6d N) (f1Q N) N (e85 N) 0 b8w:=fun st k hk=>J8 23 e4H e2r _ _ (e85 N) (f3u N) _ st k hk (rfl)
theorem f4u(x:SV [.box 0 0,V1,V3,.fnc 139 [1,2,3]])(y:BV [.cells [V2,V0,V0],.cells [.box 0 0],.cells [V0],.cells [.box 4 0],.cells [V0,V1,V1,.nilS,.nilS,V0,V1,V0,.nilS,.nilS,.nilS,.nilS,V0]]):a0f (f1Q N) Tryz.f77 (PF.tf (d89 N)) f3x (f6d N) x y=P3 N x.2.1 x.2.2.1 y.1.1 y.1.2.1 y.1.2.2.1 y.2.2.1.1 y.2.2.2.2.1.1 y.2.2.2.2.1.2.1 y.2.2.2.2.1.2.2.1 y.2.2.2.2.1.2.2.2.2.2.1 y.2.2.2.2.1.2.2.2.2.2.2.1 y.2.2.2.2.1.2.2.2.2.2.2.2.1 y.2.2.2.2.1.2.2.2.2.2.2.2.2.2.2.2.2.1:=by kernel_rfl
theorem d2F:SoundP Tryz.prog GW B0G c2M 77 (d89 N):=
 b49 (f1Q N) (L0 f1a (e72 N) (e6H N) _ _ (e73 N) (e74 N)) Tryz.func77 rfl Tryz.call77 (d89 N) f8O (fun _ _=>rfl) N (f6d N) (show LoopsOk (f6d N) (f1Q N) N (e85 N) [(0,b8w)]from⟨f5f N,trivial⟩) (f4u N)
def Y3(l:Int)(r:List τ0)(t u _C:Int)(m o:d9)(v:Int)(w:d9)(B p:Int):Option (Except Int (List τ0×Int×Int×Int×d9×d9×List (d9×GExpr)×Int×d9×Int×List d9×List GExpr×Int)):=j8 (l6 N 4 [40] r t u) fun c=>br (c.1) (m8 (P3 N [41] true c.2.1 c.2.2.1 c.2.2.2 l 2 m o v w B p) fun b=>m8 (k6 N [59] b.1 b.2.1 b.2.2.1) fun q=>some (.ok (q.1,q.2.1,q.2.2,b.2.2.2.2.1,b.2.2.2.2.2.1,b.2.2.2.2.2.2.1,b.2.2.2.2.2.2.2.1,b.2.2.2.2.2.2.2.2.1,b.2.2.2.2.2.2.2.2.2.1,b.2.2.2.2.2.2.2.2.2.2.1,[],[],b.2.2.2.2.2.2.2.2.2.2.2))) (m8 (k6 N [61] c.2.1 c.2.2.1 c.2.2.2) fun g=>o9 (k9 1 (m8 (B6 N l g.1 g.2.1 g.2.2) fun a=>m8 (k6 N [59] a.2.1 a.2.2.1 a.2.2.2) fun e=>some (.ok (e.1,e.2.1,e.2.2,1,m,o,[],a.1.kind,a.1.text,a.1.number,a.1.keys,a.1.kids,p)))) (k9 1 (k9 2 (m8 (B6 N l g.1 g.2.1 g.2.2) fun a=>m8 (k6 N [59] a.2.1 a.2.2.1 a.2.2.2) fun e=>some (.ok (e.1,e.2.1,e.2.2,1,m,o,[],a.1.kind,a.1.text,a.1.number,a.1.keys,a.1.kids,p))))))
abbrev e06(f:SV [.box 0 0,.box 1 0,V0]->BV [.cells [V2,V0,V0],.cells [V0,V1,V1,.nilS,.nilS,V0,V1,V0,.nilS,.nilS,.nilS,.nilS,V0]]->Option (Except Int (List τ0×Int×Int×Int×d9×d9×List (d9×GExpr)×Int×d9×Int×List d9×List GExpr×Int))):PF:={ps:=[.box 0 0,.box 1 0,V0],bs:=[.cells [V2,V0,V0],.cells [V0,V1,V1,.nilS,.nilS,V0,V1,V0,.nilS,.nilS,.nilS,.nilS,V0]],rs:=[],cs:=[.cells [V2,V0,V0],.cells [V0,V1,V1,.nilS,.v (.sl τ12),V0,V1,V0,.v τ13,.v (.sl τ3),.nilS,.nilS,V0]],R:=List τ0×Int×Int×Int×d9×d9×List (d9×GExpr)×Int×d9×Int×List d9×List GExpr×Int,out:=fun z=>((),(z.1,z.2.1,z.2.2.1,()),(z.2.2.2.1,z.2.2.2.2.1,z.2.2.2.2.2.1,(),z.2.2.2.2.2.2.1,z.2.2.2.2.2.2.2.1,z.2.2.2.2.2.2.2.2.1,z.2.2.2.2.2.2.2.2.2.1,z.2.2.2.2.2.2.2.2.2.2.1,z.2.2.2.2.2.2.2.2.2.2.2.1,(),(),z.2.2.2.2.2.2.2.2.2.2.2.2,()),()),f:=f}
abbrev d5N:PF:=e06 fun x y=>let z:=y.2.1.2.2.2.2.2;Y3 N x.2.2.1 y.1.1 y.1.2.1 y.1.2.2.1 y.2.1.1 y.2.1.2.1 y.2.1.2.2.1 z.1 z.2.1 z.2.2.1 z.2.2.2.2.2.2.2.1
def e7N:FuncId->Option Tmp->Option AF:=fun f _=>t7 [(74,d3b N)] f
theorem e7O:a1f (e7N N):=fun _ _ _ h=>D7 h (Q3 (d3e N) lkn)
def f7T:FuncId->Option Tmp->Option PF:=fun f _=>
 match f with
  |76=>some (d9f N)
  |77=>some (d89 N)
  |81=>some (d9a N)
  |_=>none
theorem f8N:∀f q F,f7T N f q=some F->SoundP Tryz.prog GW B0G c2M f F:=by
 intro f q F h;unfold f7T at h;split at h
 ·cases h;exact d27 N
 ·cases h;exact d2F N
 ·cases h;exact d2G N
 ·cases h
def f08:Nat->Hint:=fun i=>
 match i with
 |100006=>⟨[],[1,2],[],[],[],[]⟩
 |_=>B8
abbrev f1P:Env:=a2Q f08 (e7N N) (f7T N) (fun _=>false) (fun i=>match i with|139=>true|_=>false)
theorem c1R:SoundP Tryz.prog GW B0G c2M 83 (d5N N):=
 a2x (f1P N) (L0 f08 (e7N N) (f7T N) _ _ (e7O N) (f8N N)) Tryz.func83 rfl Tryz.call83 (d5N N) (fun _ y=>let z:=y.2.1.2.2.2.2;(y.1.1,y.1.2.1,y.1.2.2.1,y.2.1.1,y.2.1.2.1,y.2.1.2.2.1,z.1,z.2.1,z.2.2.1,z.2.2.2.1,z.2.2.2.2.1,z.2.2.2.2.2.1,z.2.2.2.2.2.2.2.2.1)) (fun _ _=>rfl) N (fun _ _=>by kernel_rfl) rfl
end
end
noncomputable section
noncomputable section
variable(N:Nat)
def A8(d4:ρ7)(g:Int)(L:List τ0)(O Q:Int):Option (Except Int (GStmt×List τ0×Int×Int)):=j8 (C5 N L O Q) fun e=>j8 (W5 N e.1 g e.2.1 e.2.2.1 e.2.2.2) fun H=>j8 (l6 N 1 [109,97,99,114,111] H.1 H.2.1 H.2.2) fun m=>br (m.1) (m8 (o4 N m.2.1 m.2.2.1 m.2.2.2) fun u=>m8 (k6 N [40] u.2.1 u.2.2.1 u.2.2.2) fun J=>m8 (S7 N [41] true J.1 J.2.1 J.2.2 3 u.1 [] 0 [] 0 e.1) fun c=>m8 (D3 N d4 (IntKind.i64.wrap (g+1)) c.1 c.2.1 c.2.2.1) fun v=>some (.ok (GStmt.mk c.2.2.2.1 c.2.2.2.2.1 c.2.2.2.2.2.1 c.2.2.2.2.2.2.1 [] (GExpr.mk c.2.2.2.2.2.2.2.1 c.2.2.2.2.2.2.2.2.1 c.2.2.2.2.2.2.2.2.2.1 [] []) v.2.2.2 [] c.2.2.2.2.2.2.2.2.2.2,v.1,v.2.1,v.2.2.1))) (j8 (l6 N 1 [102,111,114] m.2.1 m.2.2.1 m.2.2.2) fun o=>br (o.1) (m8 (o4 N o.2.1 o.2.2.1 o.2.2.2) fun w=>m8 (Q5 N [105,110] w.2.1 w.2.2.1 w.2.2.2) fun K=>m8 (B6 N g K.1 K.2.1 K.2.2) fun l=>m8 (D3 N d4 (IntKind.i64.wrap (g+1)) l.2.1 l.2.2.1 l.2.2.2) fun B=>some (.ok (GStmt.mk 4 w.1 [] [] [] (Ze l.1) B.2.2.2 [] e.1,B.1,B.2.1,B.2.2.1))) (j8 (l6 N 1 [105,102] o.2.1 o.2.2.1 o.2.2.2) fun p=>br (p.1) (m8 (B6 N g p.2.1 p.2.2.1 p.2.2.2) fun a=>m8 (D3 N d4 (IntKind.i64.wrap (g+1)) a.2.1 a.2.2.1 a.2.2.2) fun r=>j8 (l6 N 1 [101,108,115,101] r.1 r.2.1 r.2.2.1) fun t=>br (t.1) (m8 (D3 N d4 (IntKind.i64.wrap (g+1)) t.2.1 t.2.2.1 t.2.2.2) fun C=>some (.ok (GStmt.mk 5 [] [] [] [] (Ze a.1) r.2.2.2 C.2.2.2 e.1,C.1,C.2.1,C.2.2.1))) (some (.ok (GStmt.mk 5 [] [] [] [] (Ze a.1) r.2.2.2 [] e.1,t.2)))) (j8 (l6 N 1 [117,115,101] p.2.1 p.2.2.1 p.2.2.2) fun q=>br (q.1) (m8 (s6 N q.2.1 q.2.2.1 q.2.2.2) fun D=>m8 (k6 N [59] D.2.1 D.2.2.1 D.2.2.2) fun R=>some (.ok (GStmt.mk 6 [] D.1 [] [] (GExpr.mk 0 [] 0 [] []) [] [] e.1,R))) (m8 (o4 N q.2.1 q.2.2.1 q.2.2.2) fun E=>m8 (Y3 N g E.2.1 E.2.2.1 E.2.2.2 0 E.1 [] 0 [] 0 e.1) fun b=>some (.ok (GStmt.mk b.2.2.2.1 b.2.2.2.2.1 b.2.2.2.2.2.1 [] b.2.2.2.2.2.2.1 (GExpr.mk b.2.2.2.2.2.2.2.1 b.2.2.2.2.2.2.2.2.1 b.2.2.2.2.2.2.2.2.2.1 b.2.2.2.2.2.2.2.2.2.2.1 b.2.2.2.2.2.2.2.2.2.2.2.1) [] [] b.2.2.2.2.2.2.2.2.2.2.2.2,b.1,b.2.1,b.2.2.1))))))
abbrev e0z(f:SV [.box 0 0,V0]->BV [.cells [V2,V0,V0]]->Option (Except Int (GStmt×List τ0×Int×Int))):PF:={ps:=[.box 0 0,V0],bs:=[.cells [V2,V0,V0]],rs:=[.v τ17],cs:=[.cells [V2,V0,V0]],R:=GStmt×List τ0×Int×Int,out:=fun z=>((z.1,()),(z.2.1,z.2.2.1,z.2.2.2,()),()),f:=f}
abbrev d5A(d4:ρ7):PF:=e0z fun x y=>A8 N d4 x.2.1 y.1.1 y.1.2.1 y.1.2.2.1
def d0A(d4:ρ7):FuncId->Option Tmp->Option AF:=fun f _=>t7 [(72,f5L N),(73,d9c N),(74,d3b N)] f
theorem d0B(d4:ρ7)(p6:SoundP Tryz.prog GW B0G c2M 48 (e0G fun x y=>d4 x.2.1 y.1.1 y.1.2.1 y.1.2.2.1)):∀f q F,d0A N d4 f q=some F->Sound Tryz.prog GW B0G f F:=fun _ _ _ h=>D7 h (Q3 (c2b N) (Q3 (d2Y N) (Q3 (d3e N) lkn)))
def f7L(d4:ρ7):FuncId->Option Tmp->Option PF:=fun f _=>
 match f with
  |75=>some (d6l N)
  |76=>some (d9f N)
  |77=>some (d6s N)
  |79=>some (d2m N d4)
  |80=>some (d9i N)
  |81=>some (d9a N)
  |82=>some (d3i N)
  |83=>some (d5N N)
  |_=>none
theorem f8z(d4:ρ7)(p6:SoundP Tryz.prog GW B0G c2M 48 (e0G fun x y=>d4 x.2.1 y.1.1 y.1.2.1 y.1.2.2.1)):∀f q F,f7L N d4 f q=some F->SoundP Tryz.prog GW B0G c2M f F:=by
 intro f q F h;unfold f7L at h;split at h
 ·cases h;exact c1Z N
 ·cases h;exact d27 N
 ·cases h;exact d3s N
 ·cases h;exact d2p N d4 p6
 ·cases h;exact d3m N
 ·cases h;exact d2G N
 ·cases h;exact d3l N
 ·cases h;exact c1R N
 ·cases h
def b5w:Nat->Hint:=fun i=>
 match i with
 |_=>B8
abbrev a9c(d4:ρ7):Env:=a2Q b5w (d0A N d4) (f7L N d4) (fun _=>false) (fun i=>match i with|78=>true|_=>false)
theorem d0E(d4:ρ7)(p6:SoundP Tryz.prog GW B0G c2M 48 (e0G fun x y=>d4 x.2.1 y.1.1 y.1.2.1 y.1.2.2.1)):SoundP Tryz.prog GW B0G c2M 48 (d5A N d4):=
 a2x (a9c N d4) (L0 b5w (d0A N d4) (f7L N d4) _ _ (d0B N d4 p6) (f8z N d4 p6)) Tryz.func48 rfl Tryz.call48 (d5A N d4) (fun x y=>(x.1,y.1.1,y.1.2.1,y.1.2.2.1)) (fun _ _=>rfl) N (fun _ _=>by kernel_rfl) rfl
def o5(N:Nat):Nat->Int->τ6->Int->Int->Option (Except Int (GStmt×List τ0×Int×Int))|0=>fun _ _ _ _=>none|d+1=>A8 N (o5 N d)
theorem d0Q(N:Nat):∀d,SoundP Tryz.prog GW B0G c2M 48 (e0G fun x y=>o5 N d x.2.1 y.1.1 y.1.2.1 y.1.2.2.1)
 |0=>SoundP.never Tryz.call48 (fun _ _=>rfl)
 |d+1=>d0E N (o5 N d) (d0Q N d)
end
end
end Go.Proofs.YtolpmfhiegpohaaGreatDoor
