/- What functions of the program compute, as plain functions (printed). -/
import Derived.Test.YtolpmfhiegpohaaGreatDoorQPaF7
namespace Go.Proofs.YtolpmfhiegpohaaGreatDoor
set_option maxRecDepth 100000
set_option linter.unusedVariables false
open Go Go.RowKit
noncomputable section
noncomputable section
variable(N:Nat)
def D1(c:Int)(t:List τ0)(u v e:Int)(g l:c8)(m:Int)(o:c8)(p q:Int):Option (Except Int (Int×List τ0×Int×Int×Int×c8×c8×Int×c8×Int×Int×List (c8×GExpr))):=l7 (l9 N t u v) fun b=>l7 (g8 N [61] b.2.1 b.2.2.1 b.2.2.2) fun r=>l7 (v7 N c r.1 r.2.1 r.2.2) fun a=>n7 (n7 (j0 2 (br (decide ([(b.1,GExpr.mk a.1.kind a.1.text a.1.number a.1.keys a.1.kids)].length*(24*Ty.sz τ9)<=140737488355328)) (some (.ok (c,(a.2.1,(a.2.2.1,(a.2.2.2,(e,(g,(l,(m,(o,(p,(q,[(b.1,GExpr.mk a.1.kind a.1.text a.1.number a.1.keys a.1.kids)]))))))))))))) none)) (n7 (j0 1 (br (decide ([(b.1,GExpr.mk a.1.kind a.1.text a.1.number a.1.keys a.1.kids)].length*(24*Ty.sz τ9)<=140737488355328)) (some (.ok (c,(a.2.1,(a.2.2.1,(a.2.2.2,(e,(g,(l,(m,(o,(p,(q,[(b.1,GExpr.mk a.1.kind a.1.text a.1.number a.1.keys a.1.kids)]))))))))))))) none)) (br (decide ([(b.1,GExpr.mk a.1.kind a.1.text a.1.number a.1.keys a.1.kids)].length*(24*Ty.sz τ9)<=140737488355328)) (some (.ok (c,(a.2.1,(a.2.2.1,(a.2.2.2,(e,(g,(l,(m,(o,(p,(q,[(b.1,GExpr.mk a.1.kind a.1.text a.1.number a.1.keys a.1.kids)]))))))))))))) none))) (n7 (n7 (j0 2 (br (decide ([(b.1,GExpr.mk a.1.kind a.1.text a.1.number a.1.keys a.1.kids)].length*(24*Ty.sz τ9)<=140737488355328)) (some (.ok (c,(a.2.1,(a.2.2.1,(a.2.2.2,(e,(g,(l,(m,(o,(p,(q,[(b.1,GExpr.mk a.1.kind a.1.text a.1.number a.1.keys a.1.kids)]))))))))))))) none)) (n7 (j0 3 (br (decide ([(b.1,GExpr.mk a.1.kind a.1.text a.1.number a.1.keys a.1.kids)].length*(24*Ty.sz τ9)<=140737488355328)) (some (.ok (c,(a.2.1,(a.2.2.1,(a.2.2.2,(e,(g,(l,(m,(o,(p,(q,[(b.1,GExpr.mk a.1.kind a.1.text a.1.number a.1.keys a.1.kids)]))))))))))))) none)) (n7 (j0 1 (br (decide ([(b.1,GExpr.mk a.1.kind a.1.text a.1.number a.1.keys a.1.kids)].length*(24*Ty.sz τ9)<=140737488355328)) (some (.ok (c,(a.2.1,(a.2.2.1,(a.2.2.2,(e,(g,(l,(m,(o,(p,(q,[(b.1,GExpr.mk a.1.kind a.1.text a.1.number a.1.keys a.1.kids)]))))))))))))) none)) (j0 1 (j0 2 (br (decide ([(b.1,GExpr.mk a.1.kind a.1.text a.1.number a.1.keys a.1.kids)].length*(24*Ty.sz τ9)<=140737488355328)) (some (.ok (c,(a.2.1,(a.2.2.1,(a.2.2.2,(e,(g,(l,(m,(o,(p,(q,[(b.1,GExpr.mk a.1.kind a.1.text a.1.number a.1.keys a.1.kids)]))))))))))))) none)))))) (n7 (n7 (j0 1 (br (decide ([(b.1,GExpr.mk a.1.kind a.1.text a.1.number a.1.keys a.1.kids)].length*(24*Ty.sz τ9)<=140737488355328)) (some (.ok (c,(a.2.1,(a.2.2.1,(a.2.2.2,(e,(g,(l,(m,(o,(p,(q,[(b.1,GExpr.mk a.1.kind a.1.text a.1.number a.1.keys a.1.kids)]))))))))))))) none)) (br (decide ([(b.1,GExpr.mk a.1.kind a.1.text a.1.number a.1.keys a.1.kids)].length*(24*Ty.sz τ9)<=140737488355328)) (some (.ok (c,(a.2.1,(a.2.2.1,(a.2.2.2,(e,(g,(l,(m,(o,(p,(q,[(b.1,GExpr.mk a.1.kind a.1.text a.1.number a.1.keys a.1.kids)]))))))))))))) none)) (n7 (n7 (j0 1 (br (decide ([(b.1,GExpr.mk a.1.kind a.1.text a.1.number a.1.keys a.1.kids)].length*(24*Ty.sz τ9)<=140737488355328)) (some (.ok (c,(a.2.1,(a.2.2.1,(a.2.2.2,(e,(g,(l,(m,(o,(p,(q,[(b.1,GExpr.mk a.1.kind a.1.text a.1.number a.1.keys a.1.kids)]))))))))))))) none)) (j0 1 (j0 2 (br (decide ([(b.1,GExpr.mk a.1.kind a.1.text a.1.number a.1.keys a.1.kids)].length*(24*Ty.sz τ9)<=140737488355328)) (some (.ok (c,(a.2.1,(a.2.2.1,(a.2.2.2,(e,(g,(l,(m,(o,(p,(q,[(b.1,GExpr.mk a.1.kind a.1.text a.1.number a.1.keys a.1.kids)]))))))))))))) none)))) (j0 3 (br (decide ([(b.1,GExpr.mk a.1.kind a.1.text a.1.number a.1.keys a.1.kids)].length*(24*Ty.sz τ9)<=140737488355328)) (some (.ok (c,(a.2.1,(a.2.2.1,(a.2.2.2,(e,(g,(l,(m,(o,(p,(q,[(b.1,GExpr.mk a.1.kind a.1.text a.1.number a.1.keys a.1.kids)]))))))))))))) none)))))
abbrev e2g(f:SV [.box 0 0,.box 1 0,.box 2 0]->BV [.cells [.box 3 0],.cells [V0],.cells [.box 4 0],.cells [V3,V0,V0],.cells [V0,V1,V1,.nilS,.nilS,V0,V1,V0,.nilS,.nilS,.nilS,.nilS,V0]]->Option (Except Int (Int×List τ0×Int×Int×Int×c8×c8×Int×c8×Int×Int×List (c8×GExpr)))):PF:={ps:=[.box 0 0,.box 1 0,.box 2 0],bs:=[.cells [.box 3 0],.cells [V0],.cells [.box 4 0],.cells [V3,V0,V0],.cells [V0,V1,V1,.nilS,.nilS,V0,V1,V0,.nilS,.nilS,.nilS,.nilS,V0]],rs:=[],cs:=[.cells [.box 3 0],.cells [V0],.cells [.box 4 0],.cells [V3,V0,V0],.cells [V0,V1,V1,.nilS,.row 5,V0,V1,V0,.nilS,.nilS,.nilS,.nilS,V0],.row 75 τ9 false],R:=Int×List τ0×Int×Int×Int×c8×c8×Int×c8×Int×Int×List (c8×GExpr),out:=fun z=>((),(((),()),(z.1,()),((),()),(z.2.1,z.2.2.1,z.2.2.2.1,()),(z.2.2.2.2.1,z.2.2.2.2.2.1,z.2.2.2.2.2.2.1,(),(),z.2.2.2.2.2.2.2.1,z.2.2.2.2.2.2.2.2.1,z.2.2.2.2.2.2.2.2.2.1,(),(),(),(),z.2.2.2.2.2.2.2.2.2.2.1,()),z.2.2.2.2.2.2.2.2.2.2.2,())),f:=f}
abbrev e0d:PF:=e2g fun _ y=>D1 N y.2.1.1 y.2.2.2.1.1 y.2.2.2.1.2.1 y.2.2.2.1.2.2.1 y.2.2.2.2.1.1 y.2.2.2.2.1.2.1 y.2.2.2.2.1.2.2.1 y.2.2.2.2.1.2.2.2.2.2.1 y.2.2.2.2.1.2.2.2.2.2.2.1 y.2.2.2.2.1.2.2.2.2.2.2.2.1 y.2.2.2.2.1.2.2.2.2.2.2.2.2.2.2.2.2.1
def d1t(_N:Nat):FuncId->Option Tmp->Option AF:=fun f _=>O5 [] f
theorem d1u:I8 (d1t N):=fun _ _ _ h=>o6 h G7
def c5O:FuncId->Option Tmp->Option PF:=fun f _=>
 match f with
  |75=>some (c1N N)
  |76=>some (b0e N)
  |81=>some (c8C N)
  |_=>none
theorem d1v:∀f q F,c5O N f q=some F->SoundP Tryz.prog GW B7 c2n f F:=by
 intro f q F h
 unfold c5O at h
 split at h
 ·cases h;exact a25 N
 ·cases h;exact R6 N
 ·cases h;exact a9Y N
 ·cases h
def e2f:Nat->Hint:=fun i=>
 match i with
 |100003=>⟨[],[1,2],[],[],[],[]⟩
 |_=>o3
abbrev e4Y:Env:=a0I e2f (d1t N) (c5O N) (fun _=>false) (fun _=>false)
theorem d1w:SoundP Tryz.prog GW B7 c2n 139 (e0d N):=
 a0p (e4Y N) (D6 e2f (d1t N) (c5O N) _ _ (d1u N) (d1v N)) Tryz.func139 rfl Tryz.call139 (e0d N) (fun _ y=>(y.2.1.1,y.2.2.2.1.1,y.2.2.2.1.2.1,y.2.2.2.1.2.2.1,y.2.2.2.2.1.1,y.2.2.2.2.1.2.1,y.2.2.2.2.1.2.2.1,y.2.2.2.2.1.2.2.2.2.2.1,y.2.2.2.2.1.2.2.2.2.2.2.1,y.2.2.2.2.1.2.2.2.2.2.2.2.1,y.2.2.2.2.1.2.2.2.2.2.2.2.2.2.2.2.2.1,y.2.2.2.2.2.1)) (fun _ _=>rfl) N (fun _ _=>by kernel_rfl) rfl
def E3(e:Int)(u:List τ0)(v w g:Int)(l m:c8)(o:Int)(p:c8)(q r:Int)(c:List (c8×GExpr)):Option (Except Int (Int×List τ0×Int×Int×Int×c8×c8×Int×c8×Int×Int×List (c8×GExpr))):=l7 (l9 N u v w) fun b=>l7 (g8 N [61] b.2.1 b.2.2.1 b.2.2.2) fun t=>l7 (v7 N e t.1 t.2.1 t.2.2) fun a=>n7 (n7 (j0 2 (br (decide ((c.length + [(b.1,GExpr.mk a.1.kind a.1.text a.1.number a.1.keys a.1.kids)].length)*(24*Ty.sz τ9)<=140737488355328)) (some (.ok (e,(a.2.1,(a.2.2.1,(a.2.2.2,(g,(l,(m,(o,(p,(q,(r,c ++ [(b.1,GExpr.mk a.1.kind a.1.text a.1.number a.1.keys a.1.kids)]))))))))))))) none)) (n7 (j0 1 (br (decide ((c.length + [(b.1,GExpr.mk a.1.kind a.1.text a.1.number a.1.keys a.1.kids)].length)*(24*Ty.sz τ9)<=140737488355328)) (some (.ok (e,(a.2.1,(a.2.2.1,(a.2.2.2,(g,(l,(m,(o,(p,(q,(r,c ++ [(b.1,GExpr.mk a.1.kind a.1.text a.1.number a.1.keys a.1.kids)]))))))))))))) none)) (br (decide ((c.length + [(b.1,GExpr.mk a.1.kind a.1.text a.1.number a.1.keys a.1.kids)].length)*(24*Ty.sz τ9)<=140737488355328)) (some (.ok (e,(a.2.1,(a.2.2.1,(a.2.2.2,(g,(l,(m,(o,(p,(q,(r,c ++ [(b.1,GExpr.mk a.1.kind a.1.text a.1.number a.1.keys a.1.kids)]))))))))))))) none))) (n7 (n7 (j0 2 (br (decide ((c.length + [(b.1,GExpr.mk a.1.kind a.1.text a.1.number a.1.keys a.1.kids)].length)*(24*Ty.sz τ9)<=140737488355328)) (some (.ok (e,(a.2.1,(a.2.2.1,(a.2.2.2,(g,(l,(m,(o,(p,(q,(r,c ++ [(b.1,GExpr.mk a.1.kind a.1.text a.1.number a.1.keys a.1.kids)]))))))))))))) none)) (n7 (j0 3 (br (decide ((c.length + [(b.1,GExpr.mk a.1.kind a.1.text a.1.number a.1.keys a.1.kids)].length)*(24*Ty.sz τ9)<=140737488355328)) (some (.ok (e,(a.2.1,(a.2.2.1,(a.2.2.2,(g,(l,(m,(o,(p,(q,(r,c ++ [(b.1,GExpr.mk a.1.kind a.1.text a.1.number a.1.keys a.1.kids)]))))))))))))) none)) (n7 (j0 1 (br (decide ((c.length + [(b.1,GExpr.mk a.1.kind a.1.text a.1.number a.1.keys a.1.kids)].length)*(24*Ty.sz τ9)<=140737488355328)) (some (.ok (e,(a.2.1,(a.2.2.1,(a.2.2.2,(g,(l,(m,(o,(p,(q,(r,c ++ [(b.1,GExpr.mk a.1.kind a.1.text a.1.number a.1.keys a.1.kids)]))))))))))))) none)) (j0 1 (j0 2 (br (decide ((c.length + [(b.1,GExpr.mk a.1.kind a.1.text a.1.number a.1.keys a.1.kids)].length)*(24*Ty.sz τ9)<=140737488355328)) (some (.ok (e,(a.2.1,(a.2.2.1,(a.2.2.2,(g,(l,(m,(o,(p,(q,(r,c ++ [(b.1,GExpr.mk a.1.kind a.1.text a.1.number a.1.keys a.1.kids)]))))))))))))) none)))))) (n7 (n7 (j0 1 (br (decide ((c.length + [(b.1,GExpr.mk a.1.kind a.1.text a.1.number a.1.keys a.1.kids)].length)*(24*Ty.sz τ9)<=140737488355328)) (some (.ok (e,(a.2.1,(a.2.2.1,(a.2.2.2,(g,(l,(m,(o,(p,(q,(r,c ++ [(b.1,GExpr.mk a.1.kind a.1.text a.1.number a.1.keys a.1.kids)]))))))))))))) none)) (br (decide ((c.length + [(b.1,GExpr.mk a.1.kind a.1.text a.1.number a.1.keys a.1.kids)].length)*(24*Ty.sz τ9)<=140737488355328)) (some (.ok (e,(a.2.1,(a.2.2.1,(a.2.2.2,(g,(l,(m,(o,(p,(q,(r,c ++ [(b.1,GExpr.mk a.1.kind a.1.text a.1.number a.1.keys a.1.kids)]))))))))))))) none)) (n7 (n7 (j0 1 (br (decide ((c.length + [(b.1,GExpr.mk a.1.kind a.1.text a.1.number a.1.keys a.1.kids)].length)*(24*Ty.sz τ9)<=140737488355328)) (some (.ok (e,(a.2.1,(a.2.2.1,(a.2.2.2,(g,(l,(m,(o,(p,(q,(r,c ++ [(b.1,GExpr.mk a.1.kind a.1.text a.1.number a.1.keys a.1.kids)]))))))))))))) none)) (j0 1 (j0 2 (br (decide ((c.length + [(b.1,GExpr.mk a.1.kind a.1.text a.1.number a.1.keys a.1.kids)].length)*(24*Ty.sz τ9)<=140737488355328)) (some (.ok (e,(a.2.1,(a.2.2.1,(a.2.2.2,(g,(l,(m,(o,(p,(q,(r,c ++ [(b.1,GExpr.mk a.1.kind a.1.text a.1.number a.1.keys a.1.kids)]))))))))))))) none)))) (j0 3 (br (decide ((c.length + [(b.1,GExpr.mk a.1.kind a.1.text a.1.number a.1.keys a.1.kids)].length)*(24*Ty.sz τ9)<=140737488355328)) (some (.ok (e,(a.2.1,(a.2.2.1,(a.2.2.2,(g,(l,(m,(o,(p,(q,(r,c ++ [(b.1,GExpr.mk a.1.kind a.1.text a.1.number a.1.keys a.1.kids)]))))))))))))) none)))))
abbrev e2c(f:SV [.box 0 0,.box 1 0,.box 2 0]->BV [.cells [.box 3 0],.cells [V0],.cells [.box 4 0],.cells [V3,V0,V0],.cells [V0,V1,V1,.nilS,.row 5,V0,V1,V0,.nilS,.nilS,.nilS,.nilS,V0],.row 75 τ9 false]->Option (Except Int (Int×List τ0×Int×Int×Int×c8×c8×Int×c8×Int×Int×List (c8×GExpr)))):PF:={ps:=[.box 0 0,.box 1 0,.box 2 0],bs:=[.cells [.box 3 0],.cells [V0],.cells [.box 4 0],.cells [V3,V0,V0],.cells [V0,V1,V1,.nilS,.row 5,V0,V1,V0,.nilS,.nilS,.nilS,.nilS,V0],.row 75 τ9 false],rs:=[],cs:=[.cells [.box 3 0],.cells [V0],.cells [.box 4 0],.cells [V3,V0,V0],.cells [V0,V1,V1,.nilS,.row 5,V0,V1,V0,.nilS,.nilS,.nilS,.nilS,V0],.row 75 τ9 false],R:=Int×List τ0×Int×Int×Int×c8×c8×Int×c8×Int×Int×List (c8×GExpr),out:=fun z=>((),(((),()),(z.1,()),((),()),(z.2.1,z.2.2.1,z.2.2.2.1,()),(z.2.2.2.2.1,z.2.2.2.2.2.1,z.2.2.2.2.2.2.1,(),(),z.2.2.2.2.2.2.2.1,z.2.2.2.2.2.2.2.2.1,z.2.2.2.2.2.2.2.2.2.1,(),(),(),(),z.2.2.2.2.2.2.2.2.2.2.1,()),z.2.2.2.2.2.2.2.2.2.2.2,())),f:=f}
abbrev e0a:PF:=e2c fun _ y=>E3 N y.2.1.1 y.2.2.2.1.1 y.2.2.2.1.2.1 y.2.2.2.1.2.2.1 y.2.2.2.2.1.1 y.2.2.2.2.1.2.1 y.2.2.2.2.1.2.2.1 y.2.2.2.2.1.2.2.2.2.2.1 y.2.2.2.2.1.2.2.2.2.2.2.1 y.2.2.2.2.1.2.2.2.2.2.2.2.1 y.2.2.2.2.1.2.2.2.2.2.2.2.2.2.2.2.2.1 y.2.2.2.2.2.1
def d1m(_N:Nat):FuncId->Option Tmp->Option AF:=fun f _=>O5 [] f
theorem d1n:I8 (d1m N):=fun _ _ _ h=>o6 h G7
def c5N:FuncId->Option Tmp->Option PF:=fun f _=>
 match f with
  |75=>some (c1N N)
  |76=>some (b0e N)
  |81=>some (c8C N)
  |_=>none
theorem d1o:∀f q F,c5N N f q=some F->SoundP Tryz.prog GW B7 c2n f F:=by
 intro f q F h
 unfold c5N at h
 split at h
 ·cases h;exact a25 N
 ·cases h;exact R6 N
 ·cases h;exact a9Y N
 ·cases h
def e2b:Nat->Hint:=fun i=>
 match i with
 |100003=>⟨[],[1,2],[],[],[],[]⟩
 |_=>o3
abbrev e4W:Env:=a0I e2b (d1m N) (c5N N) (fun _=>false) (fun _=>false)
theorem d1p:SoundP Tryz.prog GW B7 c2n 139 (e0a N):=
 a0p (e4W N) (D6 e2b (d1m N) (c5N N) _ _ (d1n N) (d1o N)) Tryz.func139 rfl Tryz.call139 (e0a N) (fun _ y=>(y.2.1.1,y.2.2.2.1.1,y.2.2.2.1.2.1,y.2.2.2.1.2.2.1,y.2.2.2.2.1.1,y.2.2.2.2.1.2.1,y.2.2.2.2.1.2.2.1,y.2.2.2.2.1.2.2.2.2.2.1,y.2.2.2.2.1.2.2.2.2.2.2.1,y.2.2.2.2.1.2.2.2.2.2.2.2.1,y.2.2.2.2.1.2.2.2.2.2.2.2.2.2.2.2.2.1,y.2.2.2.2.2.1)) (fun _ _=>rfl) N (fun _ _=>by kernel_rfl) rfl
def b5Q(k0 self:ρ0)(t:List τ0)(u v:Int)(c e:Int)(g l:c8)(m:Int)(o:c8)(p q:Int)(r:List (c8×GExpr)):Option (Except Int (List τ0×Int×Int×Int×Int×c8×c8×List (c8×GExpr)×Int×c8×Int×Int)):=f5 (j6 N 4 [44] t u v) fun b=>br (b.1) (l7 (E3 N c b.2.1 b.2.2.1 b.2.2.2 e g l m o p q r) fun a=>self a.2.1 a.2.2.1 a.2.2.2.1 a.1 a.2.2.2.2.1 a.2.2.2.2.2.1 a.2.2.2.2.2.2.1 a.2.2.2.2.2.2.2.1 a.2.2.2.2.2.2.2.2.1 a.2.2.2.2.2.2.2.2.2.1 a.2.2.2.2.2.2.2.2.2.2.1 a.2.2.2.2.2.2.2.2.2.2.2) (k0 b.2.1 b.2.2.1 b.2.2.2 c e g l m o p q r)
def b5P(N:Nat)(k0:ρ0):Nat->τ5->Int->Int->Int->Int->c8->c8->Int->c8->Int->Int->(List (c8×GExpr))->Option (Except Int (List τ0×Int×Int×Int×Int×c8×c8×List (c8×GExpr)×Int×c8×Int×Int))|0,_,_,_,_,_,_,_,_,_,_,_,_=>none|n+1,a,b,c,e,g,l,m,o,p,q,r,t=>b5Q N k0 (b5P N k0 n) a b c e g l m o p q r t
def H1(e:c8)(W:Bool)(T:List τ0)(U V:Int)(g l:Int)(m o:c8)(p:Int)(q:c8)(r t:Int):Option (Except Int (List τ0×Int×Int×Int×Int×c8×c8×List (c8×GExpr)×Int×c8×Int×Int)):=br (W) (f5 (j6 N 4 e T U V) fun c=>br (c.1) (some (.ok (c.2.1,(c.2.2.1,(c.2.2.2,(g,(l,(m,(o,([],(p,(q,(r,t))))))))))))) (l7 (D1 N g c.2.1 c.2.2.1 c.2.2.2 l m o p q r t) fun a=>b5P N (fun u v w B C D E H J K L O=>l7 (g8 N e u v w) fun Q=>some (.ok (Q.1,(Q.2.1,(Q.2.2,(B,(C,(D,(E,(O,(H,(J,(K,L))))))))))))) N a.2.1 a.2.2.1 a.2.2.2.1 a.1 a.2.2.2.2.1 a.2.2.2.2.2.1 a.2.2.2.2.2.2.1 a.2.2.2.2.2.2.2.1 a.2.2.2.2.2.2.2.2.1 a.2.2.2.2.2.2.2.2.2.1 a.2.2.2.2.2.2.2.2.2.2.1 a.2.2.2.2.2.2.2.2.2.2.2)) (l7 (D1 N g T U V l m o p q r t) fun b=>b5P N (fun u v w B C D E H J K L O=>l7 (g8 N e u v w) fun R=>some (.ok (R.1,(R.2.1,(R.2.2,(B,(C,(D,(E,(O,(H,(J,(K,L))))))))))))) N b.2.1 b.2.2.1 b.2.2.2.1 b.1 b.2.2.2.2.1 b.2.2.2.2.2.1 b.2.2.2.2.2.2.1 b.2.2.2.2.2.2.2.1 b.2.2.2.2.2.2.2.2.1 b.2.2.2.2.2.2.2.2.2.1 b.2.2.2.2.2.2.2.2.2.2.1 b.2.2.2.2.2.2.2.2.2.2.2)
abbrev e20(f:SV [.box 0 0,V1,V2,.fnc 139 [1,2,3]]->BV [.cells [V3,V0,V0],.cells [.box 0 0],.cells [V0],.cells [.box 4 0],.cells [V0,V1,V1,.nilS,.nilS,V0,V1,V0,.nilS,.nilS,.nilS,.nilS,V0]]->Option (Except Int (List τ0×Int×Int×Int×Int×c8×c8×List (c8×GExpr)×Int×c8×Int×Int))):PF:={ps:=[.box 0 0,V1,V2,.fnc 139 [1,2,3]],bs:=[.cells [V3,V0,V0],.cells [.box 0 0],.cells [V0],.cells [.box 4 0],.cells [V0,V1,V1,.nilS,.nilS,V0,V1,V0,.nilS,.nilS,.nilS,.nilS,V0]],rs:=[],cs:=[.cells [V3,V0,V0],.cells [.box 0 0],.cells [V0],.cells [.box 4 0],.cells [V0,V1,V1,.nilS,.v (.sl τ9),V0,V1,V0,.nilS,.nilS,.nilS,.nilS,V0]],R:=List τ0×Int×Int×Int×Int×c8×c8×List (c8×GExpr)×Int×c8×Int×Int,out:=fun z=>((),((z.1,z.2.1,z.2.2.1,()),((),()),(z.2.2.2.1,()),((),()),(z.2.2.2.2.1,z.2.2.2.2.2.1,z.2.2.2.2.2.2.1,(),z.2.2.2.2.2.2.2.1,z.2.2.2.2.2.2.2.2.1,z.2.2.2.2.2.2.2.2.2.1,z.2.2.2.2.2.2.2.2.2.2.1,(),(),(),(),z.2.2.2.2.2.2.2.2.2.2.2,()),())),f:=f}
abbrev d3q:PF:=e20 fun x y=>H1 N x.2.1 x.2.2.1 y.1.1 y.1.2.1 y.1.2.2.1 y.2.2.1.1 y.2.2.2.2.1.1 y.2.2.2.2.1.2.1 y.2.2.2.2.1.2.2.1 y.2.2.2.2.1.2.2.2.2.2.1 y.2.2.2.2.1.2.2.2.2.2.2.1 y.2.2.2.2.1.2.2.2.2.2.2.2.1 y.2.2.2.2.1.2.2.2.2.2.2.2.2.2.2.2.2.1
abbrev d3s:SV []->BV [.cells [V3,V0,V0],.cells [.box 0 0],.cells [V0],.cells [.box 4 0],.cells [V0,V1,V1,.nilS,.v (.sl τ9),V0,V1,V0,.nilS,.nilS,.nilS,.nilS,V0]]->(List τ0×Int×Int×Int×Int×c8×c8×List (c8×GExpr)×Int×c8×Int×Int):=fun _ y=>(y.1.1,y.1.2.1,y.1.2.2.1,y.2.2.1.1,y.2.2.2.2.1.1,y.2.2.2.2.1.2.1,y.2.2.2.2.1.2.2.1,y.2.2.2.2.1.2.2.2.2.1,y.2.2.2.2.1.2.2.2.2.2.1,y.2.2.2.2.1.2.2.2.2.2.2.1,y.2.2.2.2.1.2.2.2.2.2.2.2.1,y.2.2.2.2.1.2.2.2.2.2.2.2.2.2.2.2.2.1)
abbrev d8O:SV []->BV [.cells [V3,V0,V0],.cells [.box 0 0],.cells [V0],.cells [.box 4 0],.cells [V0,V1,V1,.nilS,.v (.sl τ9),V0,V1,V0,.nilS,.nilS,.nilS,.nilS,V0]]->Except Int (List τ0×Int×Int×Int×Int×c8×c8×List (c8×GExpr)×Int×c8×Int×Int):=fun x y=> .ok (d3s x y)
def d3o:FuncId->Option Tmp->Option AF:=fun f _=>O5 [(74,b0f N)] f
theorem d3p:I8 (d3o N):=fun _ _ _ h=>o6 h (v8 (R7 N) G7)
def c6d:FuncId->Option Tmp->Option PF:=fun f q=>
 match f with
  |76=>some (b0e N)
  |139=>match q with|some 15=>some (e0d N)|some 19=>some (e0a N)|_=>none
  |_=>none
theorem d3r:∀f q F,c6d N f q=some F->SoundP Tryz.prog GW B7 c2n f F:=by
 intro f q F h
 unfold c6d at h
 split at h
 ·cases h;exact R6 N
 ·split at h
  ·cases h;exact d1w N
  ·cases h;exact d1p N
  ·cases h
 ·cases h
def c4i:Nat->Hint:=fun i=>
 match i with
 |0=>⟨[],[0,1,3],[0,1,2,3,4,101500],[0,1],[0,1,2,3,4,101500],[]⟩
 |_=>o3
abbrev b5O:Env:=a0I c4i (d3o N) (c6d N) (fun _=>false) (fun _=>false)
abbrev c4h:=A8 (b5O N) Tryz.f77 (PF.tf (d3q N)) d8O
abbrev a9X:List (Nat×Sl):=[(0,.box 0 0),(1,V1),(3,.fnc 139 [1,2,3])]
abbrev a9W:List (Nat×Sb):=[(0,.cells [V3,V0,V0]),(1,.cells [.box 0 0]),(2,.cells [V0]),(3,.cells [.box 4 0]),(4,.cells [V0,V1,V1,.nilS,.row 101500,V0,V1,V0,.nilS,.nilS,.nilS,.nilS,V0]),(101500,.row 75 τ9 false)]
def b5R(a:c8)(b:List τ0)(c e:Int)(g l:Int)(m o:c8)(p:Int)(q:c8)(r t:Int)(u:List (c8×GExpr)):St:=⟨23,[(0,.box 0 0),(1,.v .str a),(3,.fnc 139 [1,2,3])],[(0,.cells [.v (.sl τ1) b,.v τ2 c,.v τ2 e]),(1,.cells [.box 0 0]),(2,.cells [.v τ2 g]),(3,.cells [.box 4 0]),(4,.cells [.v τ2 l,.v .str m,.v .str o,.nilS,.row 101500,.v τ2 p,.v .str q,.v τ2 r,.nilS,.nilS,.nilS,.nilS,.v τ2 t]),(101500,.row 75 τ9 false u)]⟩
def a6Y(a:c8)(b:List τ0)(c e:Int)(g l:Int)(m o:c8)(p:Int)(q:c8)(r t:Int)(u:List (c8×GExpr)):St:=⟨23,[(0,.box 0 0),(1,.v .str a)],[(0,.cells [.v (.sl τ1) b,.v τ2 c,.v τ2 e]),(1,.cells [.box 0 0]),(2,.cells [.v τ2 g]),(3,.cells [.box 4 0]),(4,.cells [.v τ2 l,.v .str m,.v .str o,.nilS,.row 101500,.v τ2 p,.v .str q,.v τ2 r,.nilS,.nilS,.nilS,.nilS,.v τ2 t]),(101500,.row 75 τ9 false u)]⟩
def d7k(a:c8)(b:List τ0)(c e:Int)(g l:Int)(m o:c8)(p:Int)(q:c8)(r t:Int)(u:List (c8×GExpr))(k:Ex->St->Option (Except Int (List τ0×Int×Int×Int×Int×c8×c8×List (c8×GExpr)×Int×c8×Int×Int))):Option (Except Int (List τ0×Int×Int×Int×Int×c8×c8×List (c8×GExpr)×Int×c8×Int×Int)):=b5P N (fun v w B C D E H J K L O Q=>k (.exit 0) (a6Y a v w B C D E H J K L O Q)) N b c e g l m o p q r t u
abbrev c6c:FV a9X->HV a9W->(Ex->St->Option (Except Int (List τ0×Int×Int×Int×Int×c8×c8×List (c8×GExpr)×Int×c8×Int×Int)))->Option (Except Int (List τ0×Int×Int×Int×Int×c8×c8×List (c8×GExpr)×Int×c8×Int×Int)):=fun x y k=>d7k N x.2.1 y.1.1 y.1.2.1 y.1.2.2.1 y.2.2.1.1 y.2.2.2.2.1.1 y.2.2.2.2.1.2.1 y.2.2.2.2.1.2.2.1 y.2.2.2.2.1.2.2.2.2.2.1 y.2.2.2.2.1.2.2.2.2.2.2.1 y.2.2.2.2.1.2.2.2.2.2.2.2.1 y.2.2.2.2.1.2.2.2.2.2.2.2.2.2.2.2.2.1 y.2.2.2.2.2.1 k
def b5S:Nat->Code->St->(Ex->St->Option (Except Int (List τ0×Int×Int×Int×Int×c8×c8×List (c8×GExpr)×Int×c8×Int×Int)))->Option (Except Int (List τ0×Int×Int×Int×Int×c8×c8×List (c8×GExpr)×Int×c8×Int×Int)):=fun i c=>
 match i with
 |0=>(LPc 23 a9X a9W (c6c N) (fun st k=>iter (c4i 0) (k6 (b5O N) N c 0) N st k))
 |i=>fun st k=>iter (c4i i) (k6 (b5O N) N c i) N st k
theorem c4g(u:c8)(KX:Nat->St->Option (Except Int (List τ0×Int×Int×Int×Int×c8×c8×List (c8×GExpr)×Int×c8×Int×Int)))(I:St->Option (Except Int (List τ0×Int×Int×Int×Int×c8×c8×List (c8×GExpr)×Int×c8×Int×Int)))(a:List τ0)(b c:Int)(e g:Int)(l m:c8)(o:Int)(p:c8)(q r:Int)(t:List (c8×GExpr)):
  k7 (b5S N) (b5O N) S8 0 (b5R u a b c e g l m o p q r t) (p6 (c4i 0) I KX (c4h N))=b5Q N (fun v w B C D E H J K L O Q=>KX 0 (a6Y u v w B C D E H J K L O Q)) (fun a b c e g l m o p q r t=>I (b5R u a b c e g l m o p q r t)) a b c e g l m o p q r t:=by kernel_rfl
theorem d3n:∀x y k,(∀st,k .ret st=(c4h N) st)->iter (c4i 0) (k6 (b5O N) N S8 0) N ⟨23,Y7 a9X x,Y8 a9W y⟩ k=c6c N x y k:=fun x y k hk=>
 j9 (S:=τ5×(Int)×(Int)×(Int)×(Int)×(c8)×(c8)×(Int)×(c8)×(Int)×(Int)×(List (c8×GExpr))×Unit) (c4i 0) _ (k7 (b5S N) (b5O N) S8 0) (c4h N) (k9 _ _ N _ S8 0 (show LoopsOk (b5S N) (b5O N) N (c4h N) []from trivial)) (fun s=>b5R x.2.1 s.1 s.2.1 s.2.2.1 s.2.2.2.1 s.2.2.2.2.1 s.2.2.2.2.2.1 s.2.2.2.2.2.2.1 s.2.2.2.2.2.2.2.1 s.2.2.2.2.2.2.2.2.1 s.2.2.2.2.2.2.2.2.2.1 s.2.2.2.2.2.2.2.2.2.2.1 s.2.2.2.2.2.2.2.2.2.2.2.1) k hk
  (fun self s=>b5Q N (fun a b c e g l m o p q r t=>k (.exit 0) (a6Y x.2.1 a b c e g l m o p q r t)) (fun u v w B C D E H J K L O=>self (u,v,w,B,C,D,E,H,J,K,L,O,())) s.1 s.2.1 s.2.2.1 s.2.2.2.1 s.2.2.2.2.1 s.2.2.2.2.2.1 s.2.2.2.2.2.2.1 s.2.2.2.2.2.2.2.1 s.2.2.2.2.2.2.2.2.1 s.2.2.2.2.2.2.2.2.2.1 s.2.2.2.2.2.2.2.2.2.2.1 s.2.2.2.2.2.2.2.2.2.2.2.1) (fun n s=>b5P N (fun a b c e g l m o p q r t=>k (.exit 0) (a6Y x.2.1 a b c e g l m o p q r t)) n s.1 s.2.1 s.2.2.1 s.2.2.2.1 s.2.2.2.2.1 s.2.2.2.2.2.1 s.2.2.2.2.2.2.1 s.2.2.2.2.2.2.2.1 s.2.2.2.2.2.2.2.2.1 s.2.2.2.2.2.2.2.2.2.1 s.2.2.2.2.2.2.2.2.2.2.1 s.2.2.2.2.2.2.2.2.2.2.2.1) (fun _=>rfl) (fun _ _=>rfl)
  (fun I s=>c4g N x.2.1 (fun j=>k (.exit j)) I s.1 s.2.1 s.2.2.1 s.2.2.2.1 s.2.2.2.2.1 s.2.2.2.2.2.1 s.2.2.2.2.2.2.1 s.2.2.2.2.2.2.2.1 s.2.2.2.2.2.2.2.2.1 s.2.2.2.2.2.2.2.2.2.1 s.2.2.2.2.2.2.2.2.2.2.1 s.2.2.2.2.2.2.2.2.2.2.2.1) N (y.1.1,y.1.2.1,y.1.2.2.1,y.2.2.1.1,y.2.2.2.2.1.1,y.2.2.2.2.1.2.1,y.2.2.2.2.1.2.2.1,y.2.2.2.2.1.2.2.2.2.2.1,y.2.2.2.2.1.2.2.2.2.2.2.1,y.2.2.2.2.1.2.2.2.2.2.2.2.1,y.2.2.2.2.1.2.2.2.2.2.2.2.2.2.2.2.2.1,y.2.2.2.2.2.1,())
theorem e0I:F7 (b5S N) (b5O N) N (c4h N) 0 S8:=fun st k hk=>p8 23 a9X a9W _ _ (c4h N) (d3n N) _ st k hk (rfl)
theorem d7l(x:SV [.box 0 0,V1,V2,.fnc 139 [1,2,3]])(y:BV [.cells [V3,V0,V0],.cells [.box 0 0],.cells [V0],.cells [.box 4 0],.cells [V0,V1,V1,.nilS,.nilS,V0,V1,V0,.nilS,.nilS,.nilS,.nilS,V0]]):F5 (b5O N) Tryz.f77 (PF.tf (d3q N)) d8O (b5S N) x y=H1 N x.2.1 x.2.2.1 y.1.1 y.1.2.1 y.1.2.2.1 y.2.2.1.1 y.2.2.2.2.1.1 y.2.2.2.2.1.2.1 y.2.2.2.2.1.2.2.1 y.2.2.2.2.1.2.2.2.2.2.1 y.2.2.2.2.1.2.2.2.2.2.2.1 y.2.2.2.2.1.2.2.2.2.2.2.2.1 y.2.2.2.2.1.2.2.2.2.2.2.2.2.2.2.2.2.1:=by kernel_rfl
theorem d3t:SoundP Tryz.prog GW B7 c2n 77 (d3q N):=
 b4k (b5O N) (D6 c4i (d3o N) (c6d N) _ _ (d3p N) (d3r N)) Tryz.func77 rfl Tryz.call77 (d3q N) d3s (fun _ _=>rfl) N (b5S N) (show LoopsOk (b5S N) (b5O N) N (c4h N) [(0,S8)]from⟨e0I N,trivial⟩) (d7l N)
def O3(l:Int)(r:List τ0)(t u _C:Int)(m o:c8)(v:Int)(w:c8)(B p:Int):Option (Except Int (List τ0×Int×Int×Int×c8×c8×List (c8×GExpr)×Int×c8×Int×List c8×List GExpr×Int)):=f5 (j6 N 4 [40] r t u) fun c=>br (c.1) (l7 (H1 N [41] true c.2.1 c.2.2.1 c.2.2.2 l 2 m o v w B p) fun b=>l7 (g8 N [59] b.1 b.2.1 b.2.2.1) fun q=>some (.ok (q.1,(q.2.1,(q.2.2,(b.2.2.2.2.1,(b.2.2.2.2.2.1,(b.2.2.2.2.2.2.1,(b.2.2.2.2.2.2.2.1,(b.2.2.2.2.2.2.2.2.1,(b.2.2.2.2.2.2.2.2.2.1,(b.2.2.2.2.2.2.2.2.2.2.1,([],([],b.2.2.2.2.2.2.2.2.2.2.2)))))))))))))) (l7 (g8 N [61] c.2.1 c.2.2.1 c.2.2.2) fun g=>n7 (j0 1 (l7 (v7 N l g.1 g.2.1 g.2.2) fun a=>l7 (g8 N [59] a.2.1 a.2.2.1 a.2.2.2) fun e=>some (.ok (e.1,(e.2.1,(e.2.2,(1,(m,(o,([],(a.1.kind,(a.1.text,(a.1.number,(a.1.keys,(a.1.kids,p))))))))))))))) (j0 1 (j0 2 (l7 (v7 N l g.1 g.2.1 g.2.2) fun a=>l7 (g8 N [59] a.2.1 a.2.2.1 a.2.2.2) fun e=>some (.ok (e.1,(e.2.1,(e.2.2,(1,(m,(o,([],(a.1.kind,(a.1.text,(a.1.number,(a.1.keys,(a.1.kids,p)))))))))))))))))
abbrev e2F(f:SV [.box 0 0,.box 1 0,V0]->BV [.cells [V3,V0,V0],.cells [V0,V1,V1,.nilS,.nilS,V0,V1,V0,.nilS,.nilS,.nilS,.nilS,V0]]->Option (Except Int (List τ0×Int×Int×Int×c8×c8×List (c8×GExpr)×Int×c8×Int×List c8×List GExpr×Int))):PF:={ps:=[.box 0 0,.box 1 0,V0],bs:=[.cells [V3,V0,V0],.cells [V0,V1,V1,.nilS,.nilS,V0,V1,V0,.nilS,.nilS,.nilS,.nilS,V0]],rs:=[],cs:=[.cells [V3,V0,V0],.cells [V0,V1,V1,.nilS,.v (.sl τ9),V0,V1,V0,V4,.v (.sl τ4),.nilS,.nilS,V0]],R:=List τ0×Int×Int×Int×c8×c8×List (c8×GExpr)×Int×c8×Int×List c8×List GExpr×Int,out:=fun z=>((),((z.1,z.2.1,z.2.2.1,()),(z.2.2.2.1,z.2.2.2.2.1,z.2.2.2.2.2.1,(),z.2.2.2.2.2.2.1,z.2.2.2.2.2.2.2.1,z.2.2.2.2.2.2.2.2.1,z.2.2.2.2.2.2.2.2.2.1,z.2.2.2.2.2.2.2.2.2.2.1,z.2.2.2.2.2.2.2.2.2.2.2.1,(),(),z.2.2.2.2.2.2.2.2.2.2.2.2,()),())),f:=f}
abbrev e0t:PF:=e2F fun x y=>O3 N x.2.2.1 y.1.1 y.1.2.1 y.1.2.2.1 y.2.1.1 y.2.1.2.1 y.2.1.2.2.1 y.2.1.2.2.2.2.2.1 y.2.1.2.2.2.2.2.2.1 y.2.1.2.2.2.2.2.2.2.1 y.2.1.2.2.2.2.2.2.2.2.2.2.2.2.1
def d2o:FuncId->Option Tmp->Option AF:=fun f _=>O5 [(74,b0f N)] f
theorem d2p:I8 (d2o N):=fun _ _ _ h=>o6 h (v8 (R7 N) G7)
def c5Z:FuncId->Option Tmp->Option PF:=fun f _=>
 match f with
  |76=>some (b0e N)
  |77=>some (d3q N)
  |81=>some (c8C N)
  |_=>none
theorem d2q:∀f q F,c5Z N f q=some F->SoundP Tryz.prog GW B7 c2n f F:=by
 intro f q F h
 unfold c5Z at h
 split at h
 ·cases h;exact R6 N
 ·cases h;exact d3t N
 ·cases h;exact a9Y N
 ·cases h
def e2E:Nat->Hint:=fun i=>
 match i with
 |100006=>⟨[],[1,2],[],[],[],[]⟩
 |_=>o3
abbrev e48:Env:=a0I e2E (d2o N) (c5Z N) (fun _=>false) (fun i=>match i with|139=>true|_=>false)
theorem d2r:SoundP Tryz.prog GW B7 c2n 83 (e0t N):=
 a0p (e48 N) (D6 e2E (d2o N) (c5Z N) _ _ (d2p N) (d2q N)) Tryz.func83 rfl Tryz.call83 (e0t N) (fun _ y=>(y.1.1,y.1.2.1,y.1.2.2.1,y.2.1.1,y.2.1.2.1,y.2.1.2.2.1,y.2.1.2.2.2.2.1,y.2.1.2.2.2.2.2.1,y.2.1.2.2.2.2.2.2.1,y.2.1.2.2.2.2.2.2.2.1,y.2.1.2.2.2.2.2.2.2.2.1,y.2.1.2.2.2.2.2.2.2.2.2.1,y.2.1.2.2.2.2.2.2.2.2.2.2.2.2.1)) (fun _ _=>rfl) N (fun _ _=>by kernel_rfl) rfl
end
end
noncomputable section
noncomputable section
variable(N:Nat)
def t8(b7:ρ15)(g:Int)(L:List τ0)(O Q:Int):Option (Except Int (GStmt×List τ0×Int×Int)):=f5 (L8 N L O Q) fun e=>f5 (M8 N e.1 g e.2.1 e.2.2.1 e.2.2.2) fun H=>f5 (j6 N 1 [109,97,99,114,111] H.1 H.2.1 H.2.2) fun m=>br (m.1) (l7 (l9 N m.2.1 m.2.2.1 m.2.2.2) fun u=>l7 (g8 N [40] u.2.1 u.2.2.1 u.2.2.2) fun J=>l7 (J9 N [41] true J.1 J.2.1 J.2.2 3 u.1 [] 0 [] 0 e.1) fun c=>l7 (x6 N b7 (IntKind.i64.wrap (g+1)) c.1 c.2.1 c.2.2.1) fun v=>some (.ok (GStmt.mk c.2.2.2.1 c.2.2.2.2.1 c.2.2.2.2.2.1 c.2.2.2.2.2.2.1 [] (GExpr.mk c.2.2.2.2.2.2.2.1 c.2.2.2.2.2.2.2.2.1 c.2.2.2.2.2.2.2.2.2.1 [] []) v.2.2.2 [] c.2.2.2.2.2.2.2.2.2.2,(v.1,(v.2.1,v.2.2.1))))) (f5 (j6 N 1 [102,111,114] m.2.1 m.2.2.1 m.2.2.2) fun o=>br (o.1) (l7 (l9 N o.2.1 o.2.2.1 o.2.2.2) fun w=>l7 (I3 N [105,110] w.2.1 w.2.2.1 w.2.2.2) fun K=>l7 (v7 N g K.1 K.2.1 K.2.2) fun l=>l7 (x6 N b7 (IntKind.i64.wrap (g+1)) l.2.1 l.2.2.1 l.2.2.2) fun B=>some (.ok (GStmt.mk 4 w.1 [] [] [] (GExpr.mk l.1.kind l.1.text l.1.number l.1.keys l.1.kids) B.2.2.2 [] e.1,(B.1,(B.2.1,B.2.2.1))))) (f5 (j6 N 1 [105,102] o.2.1 o.2.2.1 o.2.2.2) fun p=>br (p.1) (l7 (v7 N g p.2.1 p.2.2.1 p.2.2.2) fun a=>l7 (x6 N b7 (IntKind.i64.wrap (g+1)) a.2.1 a.2.2.1 a.2.2.2) fun r=>f5 (j6 N 1 [101,108,115,101] r.1 r.2.1 r.2.2.1) fun t=>br (t.1) (l7 (x6 N b7 (IntKind.i64.wrap (g+1)) t.2.1 t.2.2.1 t.2.2.2) fun C=>some (.ok (GStmt.mk 5 [] [] [] [] (GExpr.mk a.1.kind a.1.text a.1.number a.1.keys a.1.kids) r.2.2.2 C.2.2.2 e.1,(C.1,(C.2.1,C.2.2.1))))) (some (.ok (GStmt.mk 5 [] [] [] [] (GExpr.mk a.1.kind a.1.text a.1.number a.1.keys a.1.kids) r.2.2.2 [] e.1,t.2)))) (f5 (j6 N 1 [117,115,101] p.2.1 p.2.2.1 p.2.2.2) fun q=>br (q.1) (l7 (p9 N q.2.1 q.2.2.1 q.2.2.2) fun D=>l7 (g8 N [59] D.2.1 D.2.2.1 D.2.2.2) fun R=>some (.ok (GStmt.mk 6 [] D.1 [] [] (GExpr.mk 0 [] 0 [] []) [] [] e.1,R))) (l7 (l9 N q.2.1 q.2.2.1 q.2.2.2) fun E=>l7 (O3 N g E.2.1 E.2.2.1 E.2.2.2 0 E.1 [] 0 [] 0 e.1) fun b=>some (.ok (GStmt.mk b.2.2.2.1 b.2.2.2.2.1 b.2.2.2.2.2.1 [] b.2.2.2.2.2.2.1 (GExpr.mk b.2.2.2.2.2.2.2.1 b.2.2.2.2.2.2.2.2.1 b.2.2.2.2.2.2.2.2.2.1 b.2.2.2.2.2.2.2.2.2.2.1 b.2.2.2.2.2.2.2.2.2.2.2.1) [] [] b.2.2.2.2.2.2.2.2.2.2.2.2,(b.1,(b.2.1,b.2.2.1))))))))
abbrev e15(f:SV [.box 0 0,V0]->BV [.cells [V3,V0,V0]]->Option (Except Int (GStmt×List τ0×Int×Int))):PF:={ps:=[.box 0 0,V0],bs:=[.cells [V3,V0,V0]],rs:=[.v τ16],cs:=[.cells [V3,V0,V0]],R:=GStmt×List τ0×Int×Int,out:=fun z=>((z.1,()),((z.2.1,z.2.2.1,z.2.2.2,()),())),f:=f}
abbrev e1Z(b7:ρ15):PF:=e15 fun x y=>t8 N b7 x.2.1 y.1.1 y.1.2.1 y.1.2.2.1
def d0N(b7:ρ15):FuncId->Option Tmp->Option AF:=fun f _=>O5 [(72,d7Z N),(73,d7H N),(74,b0f N)] f
theorem d0O(b7:ρ15)(n8:SoundP Tryz.prog GW B7 c2n 48 (a9v fun x y=>b7 x.2.1 y.1.1 y.1.2.1 y.1.2.2.1)):∀f q F,d0N N b7 f q=some F->Sound Tryz.prog GW B7 f F:=fun _ _ _ h=>o6 h (v8 (b6s N) (v8 (c1K N) (v8 (R7 N) G7)))
def c5G(b7:ρ15):FuncId->Option Tmp->Option PF:=fun f _=>
 match f with
  |75=>some (c1N N)
  |76=>some (b0e N)
  |77=>some (d4C N)
  |79=>some (d2X N b7)
  |80=>some (e0S N)
  |81=>some (c8C N)
  |82=>some (c8G N)
  |83=>some (e0t N)
  |_=>none
theorem d0P(b7:ρ15)(n8:SoundP Tryz.prog GW B7 c2n 48 (a9v fun x y=>b7 x.2.1 y.1.1 y.1.2.1 y.1.2.2.1)):∀f q F,c5G N b7 f q=some F->SoundP Tryz.prog GW B7 c2n f F:=by
 intro f q F h
 unfold c5G at h
 split at h
 ·cases h;exact a25 N
 ·cases h;exact R6 N
 ·cases h;exact d4F N
 ·cases h;exact d20 N b7 n8
 ·cases h;exact d4k N
 ·cases h;exact a9Y N
 ·cases h;exact b0g N
 ·cases h;exact d2r N
 ·cases h
def e14:Nat->Hint:=fun i=>
 match i with
 |_=>o3
abbrev e4V(b7:ρ15):Env:=a0I e14 (d0N N b7) (c5G N b7) (fun _=>false) (fun i=>match i with|78=>true|_=>false)
theorem d0Q(b7:ρ15)(n8:SoundP Tryz.prog GW B7 c2n 48 (a9v fun x y=>b7 x.2.1 y.1.1 y.1.2.1 y.1.2.2.1)):SoundP Tryz.prog GW B7 c2n 48 (e1Z N b7):=
 a0p (e4V N b7) (D6 e14 (d0N N b7) (c5G N b7) _ _ (d0O N b7 n8) (d0P N b7 n8)) Tryz.func48 rfl Tryz.call48 (e1Z N b7) (fun x y=>(x.1,y.1.1,y.1.2.1,y.1.2.2.1)) (fun _ _=>rfl) N (fun _ _=>by kernel_rfl) rfl
def m5(N:Nat):Nat->Int->τ5->Int->Int->Option (Except Int (GStmt×List τ0×Int×Int))|0=>fun _ _ _ _=>none|d+1=>t8 N (m5 N d)
theorem c1x(N:Nat):∀d,SoundP Tryz.prog GW B7 c2n 48 (a9v fun x y=>m5 N d x.2.1 y.1.1 y.1.2.1 y.1.2.2.1)
 |0=>SoundP.never Tryz.call48 (fun _ _=>rfl)
 |d+1=>d0Q N (m5 N d) (c1x N d)
end
end
end Go.Proofs.YtolpmfhiegpohaaGreatDoor
