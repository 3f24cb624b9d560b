/- What functions of the program compute, as plain functions (printed). -/
import Derived.Test.YtolpmfhiegpohaaGreatDoorQPaF7
namespace Go.Proofs.YtolpmfhiegpohaaGreatDoor
set_option maxRecDepth 100000
set_option linter.unusedVariables false
open Go Go.RowKit
noncomputable section
noncomputable section
variable(N:Nat)
def D1(c:Int)(t:List τ0)(u v e:Int)(g l:c8)(m:Int)(o:c8)(p q:Int):Option (Except Int (Int×List τ0×Int×Int×Int×c8×c8×Int×c8×Int×Int×List (c8×GExpr))):=l7 (l9 N t u v) fun b=>l7 (g8 N [61] b.2.1 b.2.2.1 b.2.2.2) fun r=>l7 (v7 N c r.1 r.2.1 r.2.2) fun a=>n7 (n7 (j0 2 (br (decide ([(b.1,GExpr.mk a.1.kind a.1.text a.1.number a.1.keys a.1.kids)].length*(24*Ty.sz V6)<=140737488355328)) (some (.ok (c,(a.2.1,(a.2.2.1,(a.2.2.2,(e,(g,(l,(m,(o,(p,(q,[(b.1,GExpr.mk a.1.kind a.1.text a.1.number a.1.keys a.1.kids)]))))))))))))) none)) (n7 (j0 1 (br (decide ([(b.1,GExpr.mk a.1.kind a.1.text a.1.number a.1.keys a.1.kids)].length*(24*Ty.sz V6)<=140737488355328)) (some (.ok (c,(a.2.1,(a.2.2.1,(a.2.2.2,(e,(g,(l,(m,(o,(p,(q,[(b.1,GExpr.mk a.1.kind a.1.text a.1.number a.1.keys a.1.kids)]))))))))))))) none)) (br (decide ([(b.1,GExpr.mk a.1.kind a.1.text a.1.number a.1.keys a.1.kids)].length*(24*Ty.sz V6)<=140737488355328)) (some (.ok (c,(a.2.1,(a.2.2.1,(a.2.2.2,(e,(g,(l,(m,(o,(p,(q,[(b.1,GExpr.mk a.1.kind a.1.text a.1.number a.1.keys a.1.kids)]))))))))))))) none))) (n7 (n7 (j0 2 (br (decide ([(b.1,GExpr.mk a.1.kind a.1.text a.1.number a.1.keys a.1.kids)].length*(24*Ty.sz V6)<=140737488355328)) (some (.ok (c,(a.2.1,(a.2.2.1,(a.2.2.2,(e,(g,(l,(m,(o,(p,(q,[(b.1,GExpr.mk a.1.kind a.1.text a.1.number a.1.keys a.1.kids)]))))))))))))) none)) (n7 (j0 3 (br (decide ([(b.1,GExpr.mk a.1.kind a.1.text a.1.number a.1.keys a.1.kids)].length*(24*Ty.sz V6)<=140737488355328)) (some (.ok (c,(a.2.1,(a.2.2.1,(a.2.2.2,(e,(g,(l,(m,(o,(p,(q,[(b.1,GExpr.mk a.1.kind a.1.text a.1.number a.1.keys a.1.kids)]))))))))))))) none)) (n7 (j0 1 (br (decide ([(b.1,GExpr.mk a.1.kind a.1.text a.1.number a.1.keys a.1.kids)].length*(24*Ty.sz V6)<=140737488355328)) (some (.ok (c,(a.2.1,(a.2.2.1,(a.2.2.2,(e,(g,(l,(m,(o,(p,(q,[(b.1,GExpr.mk a.1.kind a.1.text a.1.number a.1.keys a.1.kids)]))))))))))))) none)) (j0 1 (j0 2 (br (decide ([(b.1,GExpr.mk a.1.kind a.1.text a.1.number a.1.keys a.1.kids)].length*(24*Ty.sz V6)<=140737488355328)) (some (.ok (c,(a.2.1,(a.2.2.1,(a.2.2.2,(e,(g,(l,(m,(o,(p,(q,[(b.1,GExpr.mk a.1.kind a.1.text a.1.number a.1.keys a.1.kids)]))))))))))))) none)))))) (n7 (n7 (j0 1 (br (decide ([(b.1,GExpr.mk a.1.kind a.1.text a.1.number a.1.keys a.1.kids)].length*(24*Ty.sz V6)<=140737488355328)) (some (.ok (c,(a.2.1,(a.2.2.1,(a.2.2.2,(e,(g,(l,(m,(o,(p,(q,[(b.1,GExpr.mk a.1.kind a.1.text a.1.number a.1.keys a.1.kids)]))))))))))))) none)) (br (decide ([(b.1,GExpr.mk a.1.kind a.1.text a.1.number a.1.keys a.1.kids)].length*(24*Ty.sz V6)<=140737488355328)) (some (.ok (c,(a.2.1,(a.2.2.1,(a.2.2.2,(e,(g,(l,(m,(o,(p,(q,[(b.1,GExpr.mk a.1.kind a.1.text a.1.number a.1.keys a.1.kids)]))))))))))))) none)) (n7 (n7 (j0 1 (br (decide ([(b.1,GExpr.mk a.1.kind a.1.text a.1.number a.1.keys a.1.kids)].length*(24*Ty.sz V6)<=140737488355328)) (some (.ok (c,(a.2.1,(a.2.2.1,(a.2.2.2,(e,(g,(l,(m,(o,(p,(q,[(b.1,GExpr.mk a.1.kind a.1.text a.1.number a.1.keys a.1.kids)]))))))))))))) none)) (j0 1 (j0 2 (br (decide ([(b.1,GExpr.mk a.1.kind a.1.text a.1.number a.1.keys a.1.kids)].length*(24*Ty.sz V6)<=140737488355328)) (some (.ok (c,(a.2.1,(a.2.2.1,(a.2.2.2,(e,(g,(l,(m,(o,(p,(q,[(b.1,GExpr.mk a.1.kind a.1.text a.1.number a.1.keys a.1.kids)]))))))))))))) none)))) (j0 3 (br (decide ([(b.1,GExpr.mk a.1.kind a.1.text a.1.number a.1.keys a.1.kids)].length*(24*Ty.sz V6)<=140737488355328)) (some (.ok (c,(a.2.1,(a.2.2.1,(a.2.2.2,(e,(g,(l,(m,(o,(p,(q,[(b.1,GExpr.mk a.1.kind a.1.text a.1.number a.1.keys a.1.kids)]))))))))))))) none)))))
abbrev e2g(f:SV [.box 0 0,.box 1 0,.box 2 0]->BV [.cells [.box 3 0],.cells [V0],.cells [.box 4 0],.cells [V2,V0,V0],.cells [V0,V1,V1,.nilS,.nilS,V0,V1,V0,.nilS,.nilS,.nilS,.nilS,V0]]->Option (Except Int (Int×List τ0×Int×Int×Int×c8×c8×Int×c8×Int×Int×List (c8×GExpr)))):PF:={ps:=[.box 0 0,.box 1 0,.box 2 0],bs:=[.cells [.box 3 0],.cells [V0],.cells [.box 4 0],.cells [V2,V0,V0],.cells [V0,V1,V1,.nilS,.nilS,V0,V1,V0,.nilS,.nilS,.nilS,.nilS,V0]],rs:=[],cs:=[.cells [.box 3 0],.cells [V0],.cells [.box 4 0],.cells [V2,V0,V0],.cells [V0,V1,V1,.nilS,.row 5,V0,V1,V0,.nilS,.nilS,.nilS,.nilS,V0],.row 75 V6 false],R:=Int×List τ0×Int×Int×Int×c8×c8×Int×c8×Int×Int×List (c8×GExpr),out:=fun z=>((),(((),()),(z.1,()),((),()),(z.2.1,z.2.2.1,z.2.2.2.1,()),(z.2.2.2.2.1,z.2.2.2.2.2.1,z.2.2.2.2.2.2.1,(),(),z.2.2.2.2.2.2.2.1,z.2.2.2.2.2.2.2.2.1,z.2.2.2.2.2.2.2.2.2.1,(),(),(),(),z.2.2.2.2.2.2.2.2.2.2.1,()),z.2.2.2.2.2.2.2.2.2.2.2,())),f:=f}
abbrev e0d:PF:=e2g fun _ y=>D1 N y.2.1.1 y.2.2.2.1.1 y.2.2.2.1.2.1 y.2.2.2.1.2.2.1 y.2.2.2.2.1.1 y.2.2.2.2.1.2.1 y.2.2.2.2.1.2.2.1 y.2.2.2.2.1.2.2.2.2.2.1 y.2.2.2.2.1.2.2.2.2.2.2.1 y.2.2.2.2.1.2.2.2.2.2.2.2.1 y.2.2.2.2.1.2.2.2.2.2.2.2.2.2.2.2.2.1
def d1t(_N:Nat):FuncId->Option Tmp->Option AF:=fun f _=>O5 [] f
theorem d1u:I8 (d1t N):=fun _ _ _ h=>o6 h G7
def c5O:FuncId->Option Tmp->Option PF:=fun f _=>
 match f with
  |75=>some (d7A N)
  |76=>some (e0O N)
  |81=>some (e0F N)
  |_=>none
theorem d1v:∀f q F,c5O N f q=some F->SoundP Tryz.prog GW B7 c2n f F:=by
 intro f q F h
 unfold c5O at h
 split at h
 ·cases h;exact d30 N
 ·cases h;exact d31 N
 ·cases h;exact d28 N
 ·cases h
def e2f:Nat->Hint:=fun i=>
 match i with
 |100003=>⟨[],[1,2],[],[],[],[]⟩
 |_=>o3
abbrev e4Y:Env:=a0I e2f (d1t N) (c5O N) (fun _=>false) (fun _=>false)
theorem d1w:SoundP Tryz.prog GW B7 c2n 139 (e0d N):=
 a0p (e4Y N) (D6 e2f (d1t N) (c5O N) _ _ (d1u N) (d1v N)) Tryz.func139 rfl Tryz.call139 (e0d N) (fun _ y=>(y.2.1.1,y.2.2.2.1.1,y.2.2.2.1.2.1,y.2.2.2.1.2.2.1,y.2.2.2.2.1.1,y.2.2.2.2.1.2.1,y.2.2.2.2.1.2.2.1,y.2.2.2.2.1.2.2.2.2.2.1,y.2.2.2.2.1.2.2.2.2.2.2.1,y.2.2.2.2.1.2.2.2.2.2.2.2.1,y.2.2.2.2.1.2.2.2.2.2.2.2.2.2.2.2.2.1,y.2.2.2.2.2.1)) (fun _ _=>rfl) N (fun _ _=>by kernel_rfl) rfl
def E3(e:Int)(u:List τ0)(v w g:Int)(l m:c8)(o:Int)(p:c8)(q r:Int)(c:List (c8×GExpr)):Option (Except Int (Int×List τ0×Int×Int×Int×c8×c8×Int×c8×Int×Int×List (c8×GExpr))):=l7 (l9 N u v w) fun b=>l7 (g8 N [61] b.2.1 b.2.2.1 b.2.2.2) fun t=>l7 (v7 N e t.1 t.2.1 t.2.2) fun a=>n7 (n7 (j0 2 (br (decide ((c.length + [(b.1,GExpr.mk a.1.kind a.1.text a.1.number a.1.keys a.1.kids)].length)*(24*Ty.sz V6)<=140737488355328)) (some (.ok (e,(a.2.1,(a.2.2.1,(a.2.2.2,(g,(l,(m,(o,(p,(q,(r,c ++ [(b.1,GExpr.mk a.1.kind a.1.text a.1.number a.1.keys a.1.kids)]))))))))))))) none)) (n7 (j0 1 (br (decide ((c.length + [(b.1,GExpr.mk a.1.kind a.1.text a.1.number a.1.keys a.1.kids)].length)*(24*Ty.sz V6)<=140737488355328)) (some (.ok (e,(a.2.1,(a.2.2.1,(a.2.2.2,(g,(l,(m,(o,(p,(q,(r,c ++ [(b.1,GExpr.mk a.1.kind a.1.text a.1.number a.1.keys a.1.kids)]))))))))))))) none)) (br (decide ((c.length + [(b.1,GExpr.mk a.1.kind a.1.text a.1.number a.1.keys a.1.kids)].length)*(24*Ty.sz V6)<=140737488355328)) (some (.ok (e,(a.2.1,(a.2.2.1,(a.2.2.2,(g,(l,(m,(o,(p,(q,(r,c ++ [(b.1,GExpr.mk a.1.kind a.1.text a.1.number a.1.keys a.1.kids)]))))))))))))) none))) (n7 (n7 (j0 2 (br (decide ((c.length + [(b.1,GExpr.mk a.1.kind a.1.text a.1.number a.1.keys a.1.kids)].length)*(24*Ty.sz V6)<=140737488355328)) (some (.ok (e,(a.2.1,(a.2.2.1,(a.2.2.2,(g,(l,(m,(o,(p,(q,(r,c ++ [(b.1,GExpr.mk a.1.kind a.1.text a.1.number a.1.keys a.1.kids)]))))))))))))) none)) (n7 (j0 3 (br (decide ((c.length + [(b.1,GExpr.mk a.1.kind a.1.text a.1.number a.1.keys a.1.kids)].length)*(24*Ty.sz V6)<=140737488355328)) (some (.ok (e,(a.2.1,(a.2.2.1,(a.2.2.2,(g,(l,(m,(o,(p,(q,(r,c ++ [(b.1,GExpr.mk a.1.kind a.1.text a.1.number a.1.keys a.1.kids)]))))))))))))) none)) (n7 (j0 1 (br (decide ((c.length + [(b.1,GExpr.mk a.1.kind a.1.text a.1.number a.1.keys a.1.kids)].length)*(24*Ty.sz V6)<=140737488355328)) (some (.ok (e,(a.2.1,(a.2.2.1,(a.2.2.2,(g,(l,(m,(o,(p,(q,(r,c ++ [(b.1,GExpr.mk a.1.kind a.1.text a.1.number a.1.keys a.1.kids)]))))))))))))) none)) (j0 1 (j0 2 (br (decide ((c.length + [(b.1,GExpr.mk a.1.kind a.1.text a.1.number a.1.keys a.1.kids)].length)*(24*Ty.sz V6)<=140737488355328)) (some (.ok (e,(a.2.1,(a.2.2.1,(a.2.2.2,(g,(l,(m,(o,(p,(q,(r,c ++ [(b.1,GExpr.mk a.1.kind a.1.text a.1.number a.1.keys a.1.kids)]))))))))))))) none)))))) (n7 (n7 (j0 1 (br (decide ((c.length + [(b.1,GExpr.mk a.1.kind a.1.text a.1.number a.1.keys a.1.kids)].length)*(24*Ty.sz V6)<=140737488355328)) (some (.ok (e,(a.2.1,(a.2.2.1,(a.2.2.2,(g,(l,(m,(o,(p,(q,(r,c ++ [(b.1,GExpr.mk a.1.kind a.1.text a.1.number a.1.keys a.1.kids)]))))))))))))) none)) (br (decide ((c.length + [(b.1,GExpr.mk a.1.kind a.1.text a.1.number a.1.keys a.1.kids)].length)*(24*Ty.sz V6)<=140737488355328)) (some (.ok (e,(a.2.1,(a.2.2.1,(a.2.2.2,(g,(l,(m,(o,(p,(q,(r,c ++ [(b.1,GExpr.mk a.1.kind a.1.text a.1.number a.1.keys a.1.kids)]))))))))))))) none)) (n7 (n7 (j0 1 (br (decide ((c.length + [(b.1,GExpr.mk a.1.kind a.1.text a.1.number a.1.keys a.1.kids)].length)*(24*Ty.sz V6)<=140737488355328)) (some (.ok (e,(a.2.1,(a.2.2.1,(a.2.2.2,(g,(l,(m,(o,(p,(q,(r,c ++ [(b.1,GExpr.mk a.1.kind a.1.text a.1.number a.1.keys a.1.kids)]))))))))))))) none)) (j0 1 (j0 2 (br (decide ((c.length + [(b.1,GExpr.mk a.1.kind a.1.text a.1.number a.1.keys a.1.kids)].length)*(24*Ty.sz V6)<=140737488355328)) (some (.ok (e,(a.2.1,(a.2.2.1,(a.2.2.2,(g,(l,(m,(o,(p,(q,(r,c ++ [(b.1,GExpr.mk a.1.kind a.1.text a.1.number a.1.keys a.1.kids)]))))))))))))) none)))) (j0 3 (br (decide ((c.length + [(b.1,GExpr.mk a.1.kind a.1.text a.1.number a.1.keys a.1.kids)].length)*(24*Ty.sz V6)<=140737488355328)) (some (.ok (e,(a.2.1,(a.2.2.1,(a.2.2.2,(g,(l,(m,(o,(p,(q,(r,c ++ [(b.1,GExpr.mk a.1.kind a.1.text a.1.number a.1.keys a.1.kids)]))))))))))))) none)))))
abbrev d8C(f:SV [.box 0 0,.box 1 0,.box 2 0]->BV [.cells [.box 3 0],.cells [V0],.cells [.box 4 0],.cells [V2,V0,V0],.cells [V0,V1,V1,.nilS,.row 5,V0,V1,V0,.nilS,.nilS,.nilS,.nilS,V0],.row 75 V6 false]->Option (Except Int (Int×List τ0×Int×Int×Int×c8×c8×Int×c8×Int×Int×List (c8×GExpr)))):PF:={ps:=[.box 0 0,.box 1 0,.box 2 0],bs:=[.cells [.box 3 0],.cells [V0],.cells [.box 4 0],.cells [V2,V0,V0],.cells [V0,V1,V1,.nilS,.row 5,V0,V1,V0,.nilS,.nilS,.nilS,.nilS,V0],.row 75 V6 false],rs:=[],cs:=[.cells [.box 3 0],.cells [V0],.cells [.box 4 0],.cells [V2,V0,V0],.cells [V0,V1,V1,.nilS,.row 5,V0,V1,V0,.nilS,.nilS,.nilS,.nilS,V0],.row 75 V6 false],R:=Int×List τ0×Int×Int×Int×c8×c8×Int×c8×Int×Int×List (c8×GExpr),out:=fun z=>((),(((),()),(z.1,()),((),()),(z.2.1,z.2.2.1,z.2.2.2.1,()),(z.2.2.2.2.1,z.2.2.2.2.2.1,z.2.2.2.2.2.2.1,(),(),z.2.2.2.2.2.2.2.1,z.2.2.2.2.2.2.2.2.1,z.2.2.2.2.2.2.2.2.2.1,(),(),(),(),z.2.2.2.2.2.2.2.2.2.2.1,()),z.2.2.2.2.2.2.2.2.2.2.2,())),f:=f}
abbrev e0b:PF:=d8C fun _ y=>E3 N y.2.1.1 y.2.2.2.1.1 y.2.2.2.1.2.1 y.2.2.2.1.2.2.1 y.2.2.2.2.1.1 y.2.2.2.2.1.2.1 y.2.2.2.2.1.2.2.1 y.2.2.2.2.1.2.2.2.2.2.1 y.2.2.2.2.1.2.2.2.2.2.2.1 y.2.2.2.2.1.2.2.2.2.2.2.2.1 y.2.2.2.2.1.2.2.2.2.2.2.2.2.2.2.2.2.1 y.2.2.2.2.2.1
def d1q(_N:Nat):FuncId->Option Tmp->Option AF:=fun f _=>O5 [] f
theorem d1r:I8 (d1q N):=fun _ _ _ h=>o6 h G7
def f0A:FuncId->Option Tmp->Option PF:=fun f _=>
 match f with
  |75=>some (d7A N)
  |76=>some (e0O N)
  |81=>some (e0F N)
  |_=>none
theorem f1N:∀f q F,f0A N f q=some F->SoundP Tryz.prog GW B7 c2n f F:=by
 intro f q F h
 unfold f0A at h
 split at h
 ·cases h;exact d30 N
 ·cases h;exact d31 N
 ·cases h;exact d28 N
 ·cases h
def e2d:Nat->Hint:=fun i=>
 match i with
 |100003=>⟨[],[1,2],[],[],[],[]⟩
 |_=>o3
abbrev e4X:Env:=a0I e2d (d1q N) (f0A N) (fun _=>false) (fun _=>false)
theorem c1w:SoundP Tryz.prog GW B7 c2n 139 (e0b N):=
 a0p (e4X N) (D6 e2d (d1q N) (f0A N) _ _ (d1r N) (f1N N)) Tryz.func139 rfl Tryz.call139 (e0b N) (fun _ y=>(y.2.1.1,y.2.2.2.1.1,y.2.2.2.1.2.1,y.2.2.2.1.2.2.1,y.2.2.2.2.1.1,y.2.2.2.2.1.2.1,y.2.2.2.2.1.2.2.1,y.2.2.2.2.1.2.2.2.2.2.1,y.2.2.2.2.1.2.2.2.2.2.2.1,y.2.2.2.2.1.2.2.2.2.2.2.2.1,y.2.2.2.2.1.2.2.2.2.2.2.2.2.2.2.2.2.1,y.2.2.2.2.2.1)) (fun _ _=>rfl) N (fun _ _=>by kernel_rfl) rfl
def e7V(k0 self:ρ0)(t:List τ0)(u v:Int)(c e:Int)(g l:c8)(m:Int)(o:c8)(p q:Int)(r:List (c8×GExpr)):Option (Except Int (List τ0×Int×Int×Int×Int×c8×c8×List (c8×GExpr)×Int×c8×Int×Int)):=f5 (j6 N 4 [44] t u v) fun b=>br (b.1) (l7 (E3 N c b.2.1 b.2.2.1 b.2.2.2 e g l m o p q r) fun a=>self a.2.1 a.2.2.1 a.2.2.2.1 a.1 a.2.2.2.2.1 a.2.2.2.2.2.1 a.2.2.2.2.2.2.1 a.2.2.2.2.2.2.2.1 a.2.2.2.2.2.2.2.2.1 a.2.2.2.2.2.2.2.2.2.1 a.2.2.2.2.2.2.2.2.2.2.1 a.2.2.2.2.2.2.2.2.2.2.2) (k0 b.2.1 b.2.2.1 b.2.2.2 c e g l m o p q r)
def e7U(N:Nat)(k0:ρ0):Nat->τ4->Int->Int->Int->Int->c8->c8->Int->c8->Int->Int->(List (c8×GExpr))->Option (Except Int (List τ0×Int×Int×Int×Int×c8×c8×List (c8×GExpr)×Int×c8×Int×Int))|0,_,_,_,_,_,_,_,_,_,_,_,_=>none|n+1,a,b,c,e,g,l,m,o,p,q,r,t=>e7V N k0 (e7U N k0 n) a b c e g l m o p q r t
def H1(e:c8)(W:Bool)(T:List τ0)(U V:Int)(g l:Int)(m o:c8)(p:Int)(q:c8)(r t:Int):Option (Except Int (List τ0×Int×Int×Int×Int×c8×c8×List (c8×GExpr)×Int×c8×Int×Int)):=br (W) (f5 (j6 N 4 e T U V) fun c=>br (c.1) (some (.ok (c.2.1,(c.2.2.1,(c.2.2.2,(g,(l,(m,(o,([],(p,(q,(r,t))))))))))))) (l7 (D1 N g c.2.1 c.2.2.1 c.2.2.2 l m o p q r t) fun a=>e7U N (fun u v w B C D E H J K L O=>l7 (g8 N e u v w) fun Q=>some (.ok (Q.1,(Q.2.1,(Q.2.2,(B,(C,(D,(E,(O,(H,(J,(K,L))))))))))))) N a.2.1 a.2.2.1 a.2.2.2.1 a.1 a.2.2.2.2.1 a.2.2.2.2.2.1 a.2.2.2.2.2.2.1 a.2.2.2.2.2.2.2.1 a.2.2.2.2.2.2.2.2.1 a.2.2.2.2.2.2.2.2.2.1 a.2.2.2.2.2.2.2.2.2.2.1 a.2.2.2.2.2.2.2.2.2.2.2)) (l7 (D1 N g T U V l m o p q r t) fun b=>e7U N (fun u v w B C D E H J K L O=>l7 (g8 N e u v w) fun R=>some (.ok (R.1,(R.2.1,(R.2.2,(B,(C,(D,(E,(O,(H,(J,(K,L))))))))))))) N b.2.1 b.2.2.1 b.2.2.2.1 b.1 b.2.2.2.2.1 b.2.2.2.2.2.1 b.2.2.2.2.2.2.1 b.2.2.2.2.2.2.2.1 b.2.2.2.2.2.2.2.2.1 b.2.2.2.2.2.2.2.2.2.1 b.2.2.2.2.2.2.2.2.2.2.1 b.2.2.2.2.2.2.2.2.2.2.2)
abbrev e2V(f:SV [.box 0 0,V1,.v .bool,.fnc 139 [1,2,3]]->BV [.cells [V2,V0,V0],.cells [.box 0 0],.cells [V0],.cells [.box 4 0],.cells [V0,V1,V1,.nilS,.nilS,V0,V1,V0,.nilS,.nilS,.nilS,.nilS,V0]]->Option (Except Int (List τ0×Int×Int×Int×Int×c8×c8×List (c8×GExpr)×Int×c8×Int×Int))):PF:={ps:=[.box 0 0,V1,.v .bool,.fnc 139 [1,2,3]],bs:=[.cells [V2,V0,V0],.cells [.box 0 0],.cells [V0],.cells [.box 4 0],.cells [V0,V1,V1,.nilS,.nilS,V0,V1,V0,.nilS,.nilS,.nilS,.nilS,V0]],rs:=[],cs:=[.cells [V2,V0,V0],.cells [.box 0 0],.cells [V0],.cells [.box 4 0],.cells [V0,V1,V1,.nilS,.v (.sl V6),V0,V1,V0,.nilS,.nilS,.nilS,.nilS,V0]],R:=List τ0×Int×Int×Int×Int×c8×c8×List (c8×GExpr)×Int×c8×Int×Int,out:=fun z=>((),((z.1,z.2.1,z.2.2.1,()),((),()),(z.2.2.2.1,()),((),()),(z.2.2.2.2.1,z.2.2.2.2.2.1,z.2.2.2.2.2.2.1,(),z.2.2.2.2.2.2.2.1,z.2.2.2.2.2.2.2.2.1,z.2.2.2.2.2.2.2.2.2.1,z.2.2.2.2.2.2.2.2.2.2.1,(),(),(),(),z.2.2.2.2.2.2.2.2.2.2.2,()),())),f:=f}
abbrev d23:PF:=e2V fun x y=>H1 N x.2.1 x.2.2.1 y.1.1 y.1.2.1 y.1.2.2.1 y.2.2.1.1 y.2.2.2.2.1.1 y.2.2.2.2.1.2.1 y.2.2.2.2.1.2.2.1 y.2.2.2.2.1.2.2.2.2.2.1 y.2.2.2.2.1.2.2.2.2.2.2.1 y.2.2.2.2.1.2.2.2.2.2.2.2.1 y.2.2.2.2.1.2.2.2.2.2.2.2.2.2.2.2.2.1
abbrev f2l:SV []->BV [.cells [V2,V0,V0],.cells [.box 0 0],.cells [V0],.cells [.box 4 0],.cells [V0,V1,V1,.nilS,.v (.sl V6),V0,V1,V0,.nilS,.nilS,.nilS,.nilS,V0]]->(List τ0×Int×Int×Int×Int×c8×c8×List (c8×GExpr)×Int×c8×Int×Int):=fun _ y=>(y.1.1,y.1.2.1,y.1.2.2.1,y.2.2.1.1,y.2.2.2.2.1.1,y.2.2.2.2.1.2.1,y.2.2.2.2.1.2.2.1,y.2.2.2.2.1.2.2.2.2.1,y.2.2.2.2.1.2.2.2.2.2.1,y.2.2.2.2.1.2.2.2.2.2.2.1,y.2.2.2.2.1.2.2.2.2.2.2.2.1,y.2.2.2.2.1.2.2.2.2.2.2.2.2.2.2.2.2.1)
abbrev f4E:SV []->BV [.cells [V2,V0,V0],.cells [.box 0 0],.cells [V0],.cells [.box 4 0],.cells [V0,V1,V1,.nilS,.v (.sl V6),V0,V1,V0,.nilS,.nilS,.nilS,.nilS,V0]]->Except Int (List τ0×Int×Int×Int×Int×c8×c8×List (c8×GExpr)×Int×c8×Int×Int):=fun x y=> .ok (f2l x y)
def d21:FuncId->Option Tmp->Option AF:=fun f _=>O5 [(74,e0P N)] f
theorem d22:I8 (d21 N):=fun _ _ _ h=>o6 h (v8 (d32 N) G7)
def c56:FuncId->Option Tmp->Option PF:=fun f q=>
 match f with
  |76=>some (e0O N)
  |139=>match q with|some 15=>some (e0d N)|some 19=>some (e0b N)|_=>none
  |_=>none
theorem d24:∀f q F,c56 N f q=some F->SoundP Tryz.prog GW B7 c2n f F:=by
 intro f q F h
 unfold c56 at h
 split at h
 ·cases h;exact d31 N
 ·split at h
  ·cases h;exact d1w N
  ·cases h;exact c1w N
  ·cases h
 ·cases h
def e2U:Nat->Hint:=fun i=>
 match i with
 |0=>⟨[],[0,1,3],[0,1,2,3,4,101500],[0,1],[0,1,2,3,4,101500],[]⟩
 |_=>o3
abbrev e5b:Env:=a0I e2U (d21 N) (c56 N) (fun _=>false) (fun _=>false)
abbrev e9T:=A8 (e5b N) Tryz.f77 (PF.tf (d23 N)) f4E
abbrev e6x:List (Nat×Sl):=[(0,.box 0 0),(1,V1),(3,.fnc 139 [1,2,3])]
abbrev e6w:List (Nat×Sb):=[(0,.cells [V2,V0,V0]),(1,.cells [.box 0 0]),(2,.cells [V0]),(3,.cells [.box 4 0]),(4,.cells [V0,V1,V1,.nilS,.row 101500,V0,V1,V0,.nilS,.nilS,.nilS,.nilS,V0]),(101500,.row 75 V6 false)]
def e7W(a:c8)(b:List τ0)(c e:Int)(g l:Int)(m o:c8)(p:Int)(q:c8)(r t:Int)(u:List (c8×GExpr)):St:=⟨23,[(0,.box 0 0),(1,.v .str a),(3,.fnc 139 [1,2,3])],[(0,.cells [.v (.sl τ1) b,.v τ2 c,.v τ2 e]),(1,.cells [.box 0 0]),(2,.cells [.v τ2 g]),(3,.cells [.box 4 0]),(4,.cells [.v τ2 l,.v .str m,.v .str o,.nilS,.row 101500,.v τ2 p,.v .str q,.v τ2 r,.nilS,.nilS,.nilS,.nilS,.v τ2 t]),(101500,.row 75 V6 false u)]⟩
def e5G(a:c8)(b:List τ0)(c e:Int)(g l:Int)(m o:c8)(p:Int)(q:c8)(r t:Int)(u:List (c8×GExpr)):St:=⟨23,[(0,.box 0 0),(1,.v .str a)],[(0,.cells [.v (.sl τ1) b,.v τ2 c,.v τ2 e]),(1,.cells [.box 0 0]),(2,.cells [.v τ2 g]),(3,.cells [.box 4 0]),(4,.cells [.v τ2 l,.v .str m,.v .str o,.nilS,.row 101500,.v τ2 p,.v .str q,.v τ2 r,.nilS,.nilS,.nilS,.nilS,.v τ2 t]),(101500,.row 75 V6 false u)]⟩
def f3T(a:c8)(b:List τ0)(c e:Int)(g l:Int)(m o:c8)(p:Int)(q:c8)(r t:Int)(u:List (c8×GExpr))(k:Ex->St->Option (Except Int (List τ0×Int×Int×Int×Int×c8×c8×List (c8×GExpr)×Int×c8×Int×Int))):Option (Except Int (List τ0×Int×Int×Int×Int×c8×c8×List (c8×GExpr)×Int×c8×Int×Int)):=e7U N (fun v w B C D E H J K L O Q=>k (.exit 0) (e5G a v w B C D E H J K L O Q)) N b c e g l m o p q r t u
abbrev f0O:FV e6x->HV e6w->(Ex->St->Option (Except Int (List τ0×Int×Int×Int×Int×c8×c8×List (c8×GExpr)×Int×c8×Int×Int)))->Option (Except Int (List τ0×Int×Int×Int×Int×c8×c8×List (c8×GExpr)×Int×c8×Int×Int)):=fun x y k=>f3T N x.2.1 y.1.1 y.1.2.1 y.1.2.2.1 y.2.2.1.1 y.2.2.2.2.1.1 y.2.2.2.2.1.2.1 y.2.2.2.2.1.2.2.1 y.2.2.2.2.1.2.2.2.2.2.1 y.2.2.2.2.1.2.2.2.2.2.2.1 y.2.2.2.2.1.2.2.2.2.2.2.2.1 y.2.2.2.2.1.2.2.2.2.2.2.2.2.2.2.2.2.1 y.2.2.2.2.2.1 k
def e7X:Nat->Code->St->(Ex->St->Option (Except Int (List τ0×Int×Int×Int×Int×c8×c8×List (c8×GExpr)×Int×c8×Int×Int)))->Option (Except Int (List τ0×Int×Int×Int×Int×c8×c8×List (c8×GExpr)×Int×c8×Int×Int)):=fun i c=>
 match i with
 |0=>(LPc 23 e6x e6w (f0O N) (fun st k=>iter (e2U 0) (V4 (e5b N) N c 0) N st k))
 |i=>fun st k=>iter (e2U i) (V4 (e5b N) N c i) N st k
theorem e9S(u:c8)(KX:Nat->St->Option (Except Int (List τ0×Int×Int×Int×Int×c8×c8×List (c8×GExpr)×Int×c8×Int×Int)))(I:St->Option (Except Int (List τ0×Int×Int×Int×Int×c8×c8×List (c8×GExpr)×Int×c8×Int×Int)))(a:List τ0)(b c:Int)(e g:Int)(l m:c8)(o:Int)(p:c8)(q r:Int)(t:List (c8×GExpr)):
  a0b (e7X N) (e5b N) d8l 0 (e7W u a b c e g l m o p q r t) (p6 (e2U 0) I KX (e9T N))=e7V N (fun v w B C D E H J K L O Q=>KX 0 (e5G u v w B C D E H J K L O Q)) (fun a b c e g l m o p q r t=>I (e7W u a b c e g l m o p q r t)) a b c e g l m o p q r t:=by kernel_rfl
theorem f2k:∀x y k,(∀st,k .ret st=(e9T N) st)->iter (e2U 0) (V4 (e5b N) N d8l 0) N ⟨23,Y7 e6x x,Y8 e6w y⟩ k=f0O N x y k:=fun x y k hk=>
 j9 (S:=τ4×(Int)×(Int)×(Int)×(Int)×(c8)×(c8)×(Int)×(c8)×(Int)×(Int)×(List (c8×GExpr))×Unit) (e2U 0) _ (a0b (e7X N) (e5b N) d8l 0) (e9T N) (k9 _ _ N _ d8l 0 (show LoopsOk (e7X N) (e5b N) N (e9T N) []from trivial)) (fun s=>e7W x.2.1 s.1 s.2.1 s.2.2.1 s.2.2.2.1 s.2.2.2.2.1 s.2.2.2.2.2.1 s.2.2.2.2.2.2.1 s.2.2.2.2.2.2.2.1 s.2.2.2.2.2.2.2.2.1 s.2.2.2.2.2.2.2.2.2.1 s.2.2.2.2.2.2.2.2.2.2.1 s.2.2.2.2.2.2.2.2.2.2.2.1) k hk
  (fun self s=>e7V N (fun a b c e g l m o p q r t=>k (.exit 0) (e5G x.2.1 a b c e g l m o p q r t)) (fun u v w B C D E H J K L O=>self (u,v,w,B,C,D,E,H,J,K,L,O,())) s.1 s.2.1 s.2.2.1 s.2.2.2.1 s.2.2.2.2.1 s.2.2.2.2.2.1 s.2.2.2.2.2.2.1 s.2.2.2.2.2.2.2.1 s.2.2.2.2.2.2.2.2.1 s.2.2.2.2.2.2.2.2.2.1 s.2.2.2.2.2.2.2.2.2.2.1 s.2.2.2.2.2.2.2.2.2.2.2.1) (fun n s=>e7U N (fun a b c e g l m o p q r t=>k (.exit 0) (e5G x.2.1 a b c e g l m o p q r t)) n s.1 s.2.1 s.2.2.1 s.2.2.2.1 s.2.2.2.2.1 s.2.2.2.2.2.1 s.2.2.2.2.2.2.1 s.2.2.2.2.2.2.2.1 s.2.2.2.2.2.2.2.2.1 s.2.2.2.2.2.2.2.2.2.1 s.2.2.2.2.2.2.2.2.2.2.1 s.2.2.2.2.2.2.2.2.2.2.2.1) (fun _=>rfl) (fun _ _=>rfl)
  (fun I s=>e9S N x.2.1 (fun j=>k (.exit j)) I s.1 s.2.1 s.2.2.1 s.2.2.2.1 s.2.2.2.2.1 s.2.2.2.2.2.1 s.2.2.2.2.2.2.1 s.2.2.2.2.2.2.2.1 s.2.2.2.2.2.2.2.2.1 s.2.2.2.2.2.2.2.2.2.1 s.2.2.2.2.2.2.2.2.2.2.1 s.2.2.2.2.2.2.2.2.2.2.2.1) N (y.1.1,y.1.2.1,y.1.2.2.1,y.2.2.1.1,y.2.2.2.2.1.1,y.2.2.2.2.1.2.1,y.2.2.2.2.1.2.2.1,y.2.2.2.2.1.2.2.2.2.2.1,y.2.2.2.2.1.2.2.2.2.2.2.1,y.2.2.2.2.1.2.2.2.2.2.2.2.1,y.2.2.2.2.1.2.2.2.2.2.2.2.2.2.2.2.2.1,y.2.2.2.2.2.1,())
theorem f45:F7 (e7X N) (e5b N) N (e9T N) 0 d8l:=fun st k hk=>p8 23 e6x e6w _ _ (e9T N) (f2k N) _ st k hk (rfl)
theorem f3U(x:SV [.box 0 0,V1,.v .bool,.fnc 139 [1,2,3]])(y:BV [.cells [V2,V0,V0],.cells [.box 0 0],.cells [V0],.cells [.box 4 0],.cells [V0,V1,V1,.nilS,.nilS,V0,V1,V0,.nilS,.nilS,.nilS,.nilS,V0]]):F5 (e5b N) Tryz.f77 (PF.tf (d23 N)) f4E (e7X N) x y=H1 N x.2.1 x.2.2.1 y.1.1 y.1.2.1 y.1.2.2.1 y.2.2.1.1 y.2.2.2.2.1.1 y.2.2.2.2.1.2.1 y.2.2.2.2.1.2.2.1 y.2.2.2.2.1.2.2.2.2.2.1 y.2.2.2.2.1.2.2.2.2.2.2.1 y.2.2.2.2.1.2.2.2.2.2.2.2.1 y.2.2.2.2.1.2.2.2.2.2.2.2.2.2.2.2.2.1:=by kernel_rfl
theorem b5D:SoundP Tryz.prog GW B7 c2n 77 (d23 N):=
 b4k (e5b N) (D6 e2U (d21 N) (c56 N) _ _ (d22 N) (d24 N)) Tryz.func77 rfl Tryz.call77 (d23 N) f2l (fun _ _=>rfl) N (e7X N) (show LoopsOk (e7X N) (e5b N) N (e9T N) [(0,d8l)]from⟨f45 N,trivial⟩) (f3U N)
def O3(l:Int)(r:List τ0)(t u _C:Int)(m o:c8)(v:Int)(w:c8)(B p:Int):Option (Except Int (List τ0×Int×Int×Int×c8×c8×List (c8×GExpr)×Int×c8×Int×List c8×List GExpr×Int)):=f5 (j6 N 4 [40] r t u) fun c=>br (c.1) (l7 (H1 N [41] true c.2.1 c.2.2.1 c.2.2.2 l 2 m o v w B p) fun b=>l7 (g8 N [59] b.1 b.2.1 b.2.2.1) fun q=>some (.ok (q.1,(q.2.1,(q.2.2,(b.2.2.2.2.1,(b.2.2.2.2.2.1,(b.2.2.2.2.2.2.1,(b.2.2.2.2.2.2.2.1,(b.2.2.2.2.2.2.2.2.1,(b.2.2.2.2.2.2.2.2.2.1,(b.2.2.2.2.2.2.2.2.2.2.1,([],([],b.2.2.2.2.2.2.2.2.2.2.2)))))))))))))) (l7 (g8 N [61] c.2.1 c.2.2.1 c.2.2.2) fun g=>n7 (j0 1 (l7 (v7 N l g.1 g.2.1 g.2.2) fun a=>l7 (g8 N [59] a.2.1 a.2.2.1 a.2.2.2) fun e=>some (.ok (e.1,(e.2.1,(e.2.2,(1,(m,(o,([],(a.1.kind,(a.1.text,(a.1.number,(a.1.keys,(a.1.kids,p))))))))))))))) (j0 1 (j0 2 (l7 (v7 N l g.1 g.2.1 g.2.2) fun a=>l7 (g8 N [59] a.2.1 a.2.2.1 a.2.2.2) fun e=>some (.ok (e.1,(e.2.1,(e.2.2,(1,(m,(o,([],(a.1.kind,(a.1.text,(a.1.number,(a.1.keys,(a.1.kids,p)))))))))))))))))
abbrev e2D(f:SV [.box 0 0,.box 1 0,V0]->BV [.cells [V2,V0,V0],.cells [V0,V1,V1,.nilS,.nilS,V0,V1,V0,.nilS,.nilS,.nilS,.nilS,V0]]->Option (Except Int (List τ0×Int×Int×Int×c8×c8×List (c8×GExpr)×Int×c8×Int×List c8×List GExpr×Int))):PF:={ps:=[.box 0 0,.box 1 0,V0],bs:=[.cells [V2,V0,V0],.cells [V0,V1,V1,.nilS,.nilS,V0,V1,V0,.nilS,.nilS,.nilS,.nilS,V0]],rs:=[],cs:=[.cells [V2,V0,V0],.cells [V0,V1,V1,.nilS,.v (.sl V6),V0,V1,V0,.v τ11,.v (.sl τ5),.nilS,.nilS,V0]],R:=List τ0×Int×Int×Int×c8×c8×List (c8×GExpr)×Int×c8×Int×List c8×List GExpr×Int,out:=fun z=>((),((z.1,z.2.1,z.2.2.1,()),(z.2.2.2.1,z.2.2.2.2.1,z.2.2.2.2.2.1,(),z.2.2.2.2.2.2.1,z.2.2.2.2.2.2.2.1,z.2.2.2.2.2.2.2.2.1,z.2.2.2.2.2.2.2.2.2.1,z.2.2.2.2.2.2.2.2.2.2.1,z.2.2.2.2.2.2.2.2.2.2.2.1,(),(),z.2.2.2.2.2.2.2.2.2.2.2.2,()),())),f:=f}
abbrev d61:PF:=e2D fun x y=>O3 N x.2.2.1 y.1.1 y.1.2.1 y.1.2.2.1 y.2.1.1 y.2.1.2.1 y.2.1.2.2.1 y.2.1.2.2.2.2.2.1 y.2.1.2.2.2.2.2.2.1 y.2.1.2.2.2.2.2.2.2.1 y.2.1.2.2.2.2.2.2.2.2.2.2.2.2.1
def d2k:FuncId->Option Tmp->Option AF:=fun f _=>O5 [(74,e0P N)] f
theorem d2l:I8 (d2k N):=fun _ _ _ h=>o6 h (v8 (d32 N) G7)
def f0G:FuncId->Option Tmp->Option PF:=fun f _=>
 match f with
  |76=>some (e0O N)
  |77=>some (d23 N)
  |81=>some (e0F N)
  |_=>none
theorem f1X:∀f q F,f0G N f q=some F->SoundP Tryz.prog GW B7 c2n f F:=by
 intro f q F h
 unfold f0G at h
 split at h
 ·cases h;exact d31 N
 ·cases h;exact b5D N
 ·cases h;exact d28 N
 ·cases h
def c3V:Nat->Hint:=fun i=>
 match i with
 |100006=>⟨[],[1,2],[],[],[],[]⟩
 |_=>o3
abbrev b6X:Env:=a0I c3V (d2k N) (f0G N) (fun _=>false) (fun i=>match i with|139=>true|_=>false)
theorem d2n:SoundP Tryz.prog GW B7 c2n 83 (d61 N):=
 a0p (b6X N) (D6 c3V (d2k N) (f0G N) _ _ (d2l N) (f1X N)) Tryz.func83 rfl Tryz.call83 (d61 N) (fun _ y=>(y.1.1,y.1.2.1,y.1.2.2.1,y.2.1.1,y.2.1.2.1,y.2.1.2.2.1,y.2.1.2.2.2.2.1,y.2.1.2.2.2.2.2.1,y.2.1.2.2.2.2.2.2.1,y.2.1.2.2.2.2.2.2.2.1,y.2.1.2.2.2.2.2.2.2.2.1,y.2.1.2.2.2.2.2.2.2.2.2.1,y.2.1.2.2.2.2.2.2.2.2.2.2.2.2.1)) (fun _ _=>rfl) N (fun _ _=>by kernel_rfl) rfl
end
end
noncomputable section
noncomputable section
variable(N:Nat)
def t8(b7:ρ7)(g:Int)(L:List τ0)(O Q:Int):Option (Except Int (GStmt×List τ0×Int×Int)):=f5 (L8 N L O Q) fun e=>f5 (M8 N e.1 g e.2.1 e.2.2.1 e.2.2.2) fun H=>f5 (j6 N 1 [109,97,99,114,111] H.1 H.2.1 H.2.2) fun m=>br (m.1) (l7 (l9 N m.2.1 m.2.2.1 m.2.2.2) fun u=>l7 (g8 N [40] u.2.1 u.2.2.1 u.2.2.2) fun J=>l7 (J9 N [41] true J.1 J.2.1 J.2.2 3 u.1 [] 0 [] 0 e.1) fun c=>l7 (x6 N b7 (IntKind.i64.wrap (g+1)) c.1 c.2.1 c.2.2.1) fun v=>some (.ok (GStmt.mk c.2.2.2.1 c.2.2.2.2.1 c.2.2.2.2.2.1 c.2.2.2.2.2.2.1 [] (GExpr.mk c.2.2.2.2.2.2.2.1 c.2.2.2.2.2.2.2.2.1 c.2.2.2.2.2.2.2.2.2.1 [] []) v.2.2.2 [] c.2.2.2.2.2.2.2.2.2.2,(v.1,(v.2.1,v.2.2.1))))) (f5 (j6 N 1 [102,111,114] m.2.1 m.2.2.1 m.2.2.2) fun o=>br (o.1) (l7 (l9 N o.2.1 o.2.2.1 o.2.2.2) fun w=>l7 (I3 N [105,110] w.2.1 w.2.2.1 w.2.2.2) fun K=>l7 (v7 N g K.1 K.2.1 K.2.2) fun l=>l7 (x6 N b7 (IntKind.i64.wrap (g+1)) l.2.1 l.2.2.1 l.2.2.2) fun B=>some (.ok (GStmt.mk 4 w.1 [] [] [] (GExpr.mk l.1.kind l.1.text l.1.number l.1.keys l.1.kids) B.2.2.2 [] e.1,(B.1,(B.2.1,B.2.2.1))))) (f5 (j6 N 1 [105,102] o.2.1 o.2.2.1 o.2.2.2) fun p=>br (p.1) (l7 (v7 N g p.2.1 p.2.2.1 p.2.2.2) fun a=>l7 (x6 N b7 (IntKind.i64.wrap (g+1)) a.2.1 a.2.2.1 a.2.2.2) fun r=>f5 (j6 N 1 [101,108,115,101] r.1 r.2.1 r.2.2.1) fun t=>br (t.1) (l7 (x6 N b7 (IntKind.i64.wrap (g+1)) t.2.1 t.2.2.1 t.2.2.2) fun C=>some (.ok (GStmt.mk 5 [] [] [] [] (GExpr.mk a.1.kind a.1.text a.1.number a.1.keys a.1.kids) r.2.2.2 C.2.2.2 e.1,(C.1,(C.2.1,C.2.2.1))))) (some (.ok (GStmt.mk 5 [] [] [] [] (GExpr.mk a.1.kind a.1.text a.1.number a.1.keys a.1.kids) r.2.2.2 [] e.1,t.2)))) (f5 (j6 N 1 [117,115,101] p.2.1 p.2.2.1 p.2.2.2) fun q=>br (q.1) (l7 (p9 N q.2.1 q.2.2.1 q.2.2.2) fun D=>l7 (g8 N [59] D.2.1 D.2.2.1 D.2.2.2) fun R=>some (.ok (GStmt.mk 6 [] D.1 [] [] (GExpr.mk 0 [] 0 [] []) [] [] e.1,R))) (l7 (l9 N q.2.1 q.2.2.1 q.2.2.2) fun E=>l7 (O3 N g E.2.1 E.2.2.1 E.2.2.2 0 E.1 [] 0 [] 0 e.1) fun b=>some (.ok (GStmt.mk b.2.2.2.1 b.2.2.2.2.1 b.2.2.2.2.2.1 [] b.2.2.2.2.2.2.1 (GExpr.mk b.2.2.2.2.2.2.2.1 b.2.2.2.2.2.2.2.2.1 b.2.2.2.2.2.2.2.2.2.1 b.2.2.2.2.2.2.2.2.2.2.1 b.2.2.2.2.2.2.2.2.2.2.2.1) [] [] b.2.2.2.2.2.2.2.2.2.2.2.2,(b.1,(b.2.1,b.2.2.1))))))))
abbrev e19(f:SV [.box 0 0,V0]->BV [.cells [V2,V0,V0]]->Option (Except Int (GStmt×List τ0×Int×Int))):PF:={ps:=[.box 0 0,V0],bs:=[.cells [V2,V0,V0]],rs:=[.v τ16],cs:=[.cells [V2,V0,V0]],R:=GStmt×List τ0×Int×Int,out:=fun z=>((z.1,()),((z.2.1,z.2.2.1,z.2.2.2,()),())),f:=f}
abbrev d6G(b7:ρ7):PF:=e19 fun x y=>t8 N b7 x.2.1 y.1.1 y.1.2.1 y.1.2.2.1
def d07(b7:ρ7):FuncId->Option Tmp->Option AF:=fun f _=>O5 [(72,e0T N),(73,d7v N),(74,e0P N)] f
theorem d08(b7:ρ7)(n8:SoundP Tryz.prog GW B7 c2n 48 (a9v fun x y=>b7 x.2.1 y.1.1 y.1.2.1 y.1.2.2.1)):∀f q F,d07 N b7 f q=some F->Sound Tryz.prog GW B7 f F:=fun _ _ _ h=>o6 h (v8 (d4n N) (v8 (c1I N) (v8 (d32 N) G7)))
def f0x(b7:ρ7):FuncId->Option Tmp->Option PF:=fun f _=>
 match f with
  |75=>some (d7A N)
  |76=>some (e0O N)
  |77=>some (c1N N)
  |79=>some (d2G N b7)
  |80=>some (f5a N)
  |81=>some (e0F N)
  |82=>some (b59 N)
  |83=>some (d61 N)
  |_=>none
theorem f1I(b7:ρ7)(n8:SoundP Tryz.prog GW B7 c2n 48 (a9v fun x y=>b7 x.2.1 y.1.1 y.1.2.1 y.1.2.2.1)):∀f q F,f0x N b7 f q=some F->SoundP Tryz.prog GW B7 c2n f F:=by
 intro f q F h
 unfold f0x at h
 split at h
 ·cases h;exact d30 N
 ·cases h;exact d31 N
 ·cases h;exact a25 N
 ·cases h;exact d2I N b7 n8
 ·cases h;exact c1J N
 ·cases h;exact d28 N
 ·cases h;exact e6A N
 ·cases h;exact d2n N
 ·cases h
def b47:Nat->Hint:=fun i=>
 match i with
 |_=>o3
abbrev a7l(b7:ρ7):Env:=a0I b47 (d07 N b7) (f0x N b7) (fun _=>false) (fun i=>match i with|78=>true|_=>false)
theorem d1b(b7:ρ7)(n8:SoundP Tryz.prog GW B7 c2n 48 (a9v fun x y=>b7 x.2.1 y.1.1 y.1.2.1 y.1.2.2.1)):SoundP Tryz.prog GW B7 c2n 48 (d6G N b7):=
 a0p (a7l N b7) (D6 b47 (d07 N b7) (f0x N b7) _ _ (d08 N b7 n8) (f1I N b7 n8)) Tryz.func48 rfl Tryz.call48 (d6G N b7) (fun x y=>(x.1,y.1.1,y.1.2.1,y.1.2.2.1)) (fun _ _=>rfl) N (fun _ _=>by kernel_rfl) rfl
def m5(N:Nat):Nat->Int->τ4->Int->Int->Option (Except Int (GStmt×List τ0×Int×Int))|0=>fun _ _ _ _=>none|d+1=>t8 N (m5 N d)
theorem c1x(N:Nat):∀d,SoundP Tryz.prog GW B7 c2n 48 (a9v fun x y=>m5 N d x.2.1 y.1.1 y.1.2.1 y.1.2.2.1)
 |0=>SoundP.never Tryz.call48 (fun _ _=>rfl)
 |d+1=>d1b N (m5 N d) (c1x N d)
end
end
end Go.Proofs.YtolpmfhiegpohaaGreatDoor
