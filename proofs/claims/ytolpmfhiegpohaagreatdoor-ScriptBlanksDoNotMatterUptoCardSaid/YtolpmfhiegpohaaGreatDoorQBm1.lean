/- A machine of values: the model's own code, run on plain typed data and on fragments of memory with a shape. What it computes is plain; that it is sound is shown in the texts that follow. -/
import GoSem.Dispatch
import Derived.Calls
import Derived.Still
namespace Go.Proofs.YtolpmfhiegpohaaGreatDoor
set_option linter.unusedVariables false
set_option linter.unusedSimpArgs false
set_option linter.unusedSectionVars false
open Go
inductive GValue where
 |mk (kind:Int) (text:List UInt8) (number:Int) (list:List (List UInt8)) (cases:List (List UInt8×GValue))
inductive GExpr where
 |mk (kind:Int) (text:List UInt8) (number:Int) (keys:List (List UInt8)) (kids:List GExpr)
inductive GStmt where
 |mk (kind:Int) (name text:List UInt8) (params:List (List UInt8)) (args:List (List UInt8×GExpr)) (expr:GExpr) (body els:List GStmt) (at_:Int)
inductive GPart where
 |mk (kind:Int) (text:List UInt8) (number:Int) (keys:List (List UInt8)) (at_:Int) (kids:List GPart)
inductive RC where
 |value|expr|stmt|part
 deriving DecidableEq
inductive Ty where
 |u8|int (k:IntKind)|bool|str|sl (t:Ty)|pr (a b:Ty)|un|mp (e:Ty)|ptr (t:Ty)|np (t:Ty)|clo (f:Nat) (t:Ty)|rc (i:RC)|nl
 deriving DecidableEq
@[reducible] def RC.den:RC->Type | .value=>GValue | .expr=>GExpr | .stmt=>GStmt | .part=>GPart
@[reducible] def Ty.den:Ty->Type | .u8=>UInt8 | .int _=>Int | .bool=>Bool | .str=>List UInt8 | .sl t=>List t.den | .pr a b=>a.den×b.den | .un=>Unit | .mp e=>List (List UInt8×e.den) | .ptr t=>t.den | .np t=>Option t.den | .clo _ t=>t.den | .rc i=>i.den | .nl=>Unit
abbrev Ty.i64:Ty:= .int .i64
def RC.body:RC->Ty | .value=> .pr .i64 (.pr .str (.pr .i64 (.pr (.sl .str) (.sl (.pr .str (.rc .value)))))) | .expr=> .pr .i64 (.pr .str (.pr .i64 (.pr (.sl .str) (.sl (.rc .expr))))) | .stmt=> .pr .i64 (.pr .str (.pr .str (.pr (.sl .str) (.pr (.sl (.pr .str (.rc .expr))) (.pr (.rc .expr) (.pr (.sl (.rc .stmt)) (.pr (.sl (.rc .stmt)) .i64))))))) | .part=> .pr (.pr .i64 (.pr .str (.pr .i64 (.pr (.sl .str) .nl)))) (.pr .i64 (.sl (.rc .part)))
namespace GValue
def kind:GValue->Int | .mk a _ _ _ _=>a
def text:GValue->List UInt8 | .mk _ a _ _ _=>a
def number:GValue->Int | .mk _ _ a _ _=>a
def list:GValue->List (List UInt8) | .mk _ _ _ a _=>a
def cases:GValue->List (List UInt8×GValue) | .mk _ _ _ _ a=>a
end GValue
namespace GExpr
def kind:GExpr->Int | .mk a _ _ _ _=>a
def text:GExpr->List UInt8 | .mk _ a _ _ _=>a
def number:GExpr->Int | .mk _ _ a _ _=>a
def keys:GExpr->List (List UInt8) | .mk _ _ _ a _=>a
def kids:GExpr->List GExpr | .mk _ _ _ _ a=>a
end GExpr
namespace GStmt
def kind:GStmt->Int | .mk a _ _ _ _ _ _ _ _=>a
def name:GStmt->List UInt8 | .mk _ a _ _ _ _ _ _ _=>a
def text:GStmt->List UInt8 | .mk _ _ a _ _ _ _ _ _=>a
def params:GStmt->List (List UInt8) | .mk _ _ _ a _ _ _ _ _=>a
def args:GStmt->List (List UInt8×GExpr) | .mk _ _ _ _ a _ _ _ _=>a
def expr:GStmt->GExpr | .mk _ _ _ _ _ a _ _ _=>a
def body:GStmt->List GStmt | .mk _ _ _ _ _ _ a _ _=>a
def els:GStmt->List GStmt | .mk _ _ _ _ _ _ _ a _=>a
def at_:GStmt->Int | .mk _ _ _ _ _ _ _ _ a=>a
end GStmt
namespace GPart
def kind:GPart->Int | .mk a _ _ _ _ _=>a
def text:GPart->List UInt8 | .mk _ a _ _ _ _=>a
def number:GPart->Int | .mk _ _ a _ _ _=>a
def keys:GPart->List (List UInt8) | .mk _ _ _ a _ _=>a
def at_:GPart->Int | .mk _ _ _ _ a _=>a
def kids:GPart->List GPart | .mk _ _ _ _ _ a=>a
end GPart
def RC.un:(i:RC)->i.den->i.body.den | .value,x=>(x.kind,x.text,x.number,x.list,x.cases) | .expr,x=>(x.kind,x.text,x.number,x.keys,x.kids) | .stmt,x=>(x.kind,x.name,x.text,x.params,x.args,x.expr,x.body,x.els,x.at_) | .part,x=>((x.kind,x.text,x.number,x.keys,()),x.at_,x.kids)
def RC.mk:(i:RC)->i.body.den->i.den | .value,x=> .mk x.1 x.2.1 x.2.2.1 x.2.2.2.1 x.2.2.2.2 | .expr,x=> .mk x.1 x.2.1 x.2.2.1 x.2.2.2.1 x.2.2.2.2 | .stmt,x=> .mk x.1 x.2.1 x.2.2.1 x.2.2.2.1 x.2.2.2.2.1 x.2.2.2.2.2.1 x.2.2.2.2.2.2.1 x.2.2.2.2.2.2.2.1 x.2.2.2.2.2.2.2.2 | .part,x=> .mk x.1.1 x.1.2.1 x.1.2.2.1 x.1.2.2.2.1 x.2.1 x.2.2
theorem RC.un_mk(i:RC)(x:i.body.den):i.un (i.mk x)=x:=by cases i<;>rfl
def RC.sz:RC->Nat | .value=>5 | .expr=>5 | .stmt=>13 | .part=>7
def Ty.sz:Ty->Nat | .pr a b=>a.sz+b.sz | .un=>0 | .rc i=>i.sz|_=>1
theorem RC.sz_body(i:RC):i.body.sz=i.sz:=by cases i<;>rfl
def Ty.isAgg:Ty->Bool | .pr _ _=>true | .un=>true | .rc _=>true|_=>false
inductive D where
 |dead
 |skip
 |bl (b:Bool)
 |v (ty:Ty) (x:ty.den)
 |nilS
 |nilP
 |row (r:Nat)
 |elp (r sz:Nat) (i:Int) (off:Nat)
 |tl (r sz:Nat) (i:Int)
 |box (r off:Nat)
 |at_ (ty:Ty) (x:ty.den)
 |tup (b:Bool) (l:List D)
 |mref (r:Nat)
 |fnc (f:FuncId) (l:List Nat)
inductive Blk where
 |cells (l:List D)
 |map (e:Ty) (m:List (List UInt8×e.den))
 |row (e:TypeId) (t:Ty) (ex:Bool) (xs:List t.den)
 |iter (e:Ty) (l:List (List UInt8×e.den)) (c:Option (List UInt8×e.den))
structure St where
 n:Nat
 fr:List (Nat×D)
 hp:List (Nat×Blk)
def br{R:Type}(c:Bool)(x y:Option R):Option R:=match c with|true=>x|false=>y
noncomputable def n7{R:Type}(a b:Option R):Option R:=@ite _ (a=b) (Classical.propDecidable _) a none
def f5{α R:Type}(a:Option α)(f:α->Option R):Option R:=match a with|some x=>f x|none=>none
section
@[simp] theorem d4{R:Type}(x y:Option R):br true x y=x:=rfl
@[simp] theorem d6{R:Type}(x y:Option R):br false x y=y:=rfl
noncomputable def j0{R:Type}(n:Nat)(a:Option R):Option R:=Nat.rec (motive:=fun _=>Option R) a (fun _ b=>n7 a b) n
@[simp] theorem o7{R:Type}(a:Option R):n7 a a=a:=by unfold n7;exact if_pos rfl
@[simp] theorem x7{R:Type}:∀(n:Nat) (a:Option R),j0 n a=a
 |0,_=>rfl
 |n+1,a=>by
  show n7 a (j0 n a)=a
  rw[x7 n a];exact o7 a
theorem a2J{R:Type}{a b:Option R}{r:R}(h:n7 a b=some r):a=some r/\b=some r:=by
 unfold n7 at h
 split at h
 ·rename_i e;exact⟨h,e▸h⟩
 ·cases h
@[simp] theorem b9{α R:Type}(a:α)(f:α->Option R):f5 (some a) f=f a:=rfl
@[simp] theorem c85{α R:Type}(f:α->Option R):f5 none f=none:=rfl
theorem a5E{R:Type}(c:Bool)(x y:Option R):br c x y=if c=true then x else y:=by cases c<;>rfl
theorem E9{α R:Type}{a:Option α}{f:α->Option R}{r:R}(h:f5 a f=some r):∃x,a=some x/\f x=some r:=by
 cases a with
 |none=>cases h
 |some x=>exact⟨x,rfl,h⟩
end
noncomputable def c6H{α R:Type}(l:List α)(f:α->List α->Option R):Option R:=@dite _ (∃r,l ≠ []/\∀i (h:i<l.length),f l[i] (l.eraseIdx i)=some r) (Classical.propDecidable _) (fun h=>some h.choose) (fun _=>none)
theorem b0H{α R:Type}{l:List α}{f:α->List α->Option R}{r:R}(h:c6H l f=some r):∀i (hi:i<l.length),f l[i] (l.eraseIdx i)=some r:=by
 unfold c6H at h
 split at h
 ·rename_i hx
  injection h with h
  rw[<-h]
  exact hx.choose_spec.2
 ·cases h
class BothC(R:Type) where
 bo:Option R->Option R->Option R
 law:∀{a b:Option R} {r:R},bo a b=some r->a=some r/\b=some r
 al:{α:Type}->List α->(α->List α->Option R)->Option R
 allaw:∀{α:Type} {l:List α} {f:α->List α->Option R} {r:R},al l f=some r->∀i (hi:i<l.length),f l[i] (l.eraseIdx i)=some r
 pa:Int->List Nat->St->Option R
noncomputable instance bothClassic(R:Type):BothC R:=⟨n7,a2J,c6H,b0H,fun _ _ _=>none⟩
@[reducible] noncomputable instance(priority:=high) bothPan (R:Type):BothC (Except Int R):=⟨n7,a2J,c6H,b0H,fun c _ _=>some (.error c)⟩
def c84{α R:Type}(pa:Int->Option R)(a:Option (Except Int α))(f:α->Option R):Option R:=match a with
 |some (.ok x)=>f x
 |some (.error c)=>pa c
 |none=>none
def l7{α R:Type}(a:Option (Except Int α))(f:α->Option (Except Int R)):Option (Except Int R):=c84 (fun c=>some (.error c)) a f
theorem b8H{α R:Type}{pa:Int->Option R}{a:Option (Except Int α)}{f:α->Option R}{r:R}(h:c84 pa a f=some r):(∃x,a=some (.ok x)/\f x=some r)\/∃c,a=some (.error c)/\pa c=some r:=by
 match a,h with
 |some (.ok x),h=>exact .inl ⟨x,rfl,h⟩
 |some (.error c),h=>exact .inr ⟨c,rfl,h⟩
@[simp] theorem l8{α R:Type}(x:α)(f:α->Option (Except Int R)):l7 (some (.ok x)) f=f x:=rfl
@[simp] theorem i7{α R:Type}(c:Int)(f:α->Option (Except Int R)):l7 (some (.error c)) f=some (.error c):=rfl
@[simp] theorem e1p{α R:Type}(f:α->Option (Except Int R)):l7 none f=none:=rfl
attribute [irreducible] br f5 c84 l7 c6H
def l6{α:Type}(xs:List α)(i:Int):Option α:=if 0<=i then xs[i.toNat]? else none
def slc{α:Type}(xs:List α)(lo hi:Int):Option (List α):=if 0<=lo/\lo<=hi/\hi<=xs.length then some ((xs.take hi.toNat).drop lo.toNat)else none
def b33{α:Type}(m:List (List UInt8×α))(k:List UInt8):Option α:=match m with
 |[]=>none
 |(j,x) :: m=>if k==j then some x else b33 m k
def a4D{α:Type}(m:List (List UInt8×α))(k:List UInt8)(x:α):List (List UInt8×α):=match m with
 |[]=>[(k,x)]
 |(j,y) :: m=>if k==j then(k,x) :: m else(j,y) :: a4D m k x
def B8{α:Type}(xs:List α)(i:Int)(x:α):List α:=xs.set i.toNat x
def mk0{α:Type}(n:Int)(x:α):List α:=List.replicate n.toNat x
def clr{α:Type}(xs:List α)(i:Int)(z:α):List α:=xs.take i.toNat++List.replicate (xs.length-i.toNat) z
def cut{α:Type}(xs:List α)(n:Int):List α:=xs.take n.toNat
theorem c2p{i j:Nat}(h:i≠j):Nat.beq i j=false:=by
 cases hb:Nat.beq i j with
 |false=>rfl
 |true=>exact absurd (Nat.eq_of_beq_eq_true hb) h
section assoc
variable{α:Type}
noncomputable def p5(l:List (Nat×α))(i:Nat):Option α:=List.rec (motive:=fun _=>Option α) none (fun p _ ih=>match Nat.beq p.1 i with|true=>some p.2|false=>ih) l
theorem a4L(i:Nat):p5 ([]:List (Nat×α)) i=none:=rfl
theorem q6(p:Nat×α)(l:List (Nat×α))(i:Nat):p5 (p :: l) i=(match Nat.beq p.1 i with|true=>some p.2|false=>p5 l i):=rfl
def a3d:List (Nat×α)->Nat->α->List (Nat×α)
 |[],i,d=>[(i,d)]
 |(j,x) :: l,i,d=>match Nat.beq j i with
  |true=>(i,d) :: l
  |false=>match Nat.blt i j with
   |true=>(i,d) :: (j,x) :: l
   |false=>(j,x) :: a3d l i d
def b6J(l:List (Nat×α))(i:Nat):List (Nat×α):=match l with
 |[]=>[]
 |(j,x) :: l=>match Nat.beq j i with
  |true=>b6J l i
  |false=>(j,x) :: b6J l i
def a2G(f:α->α)(l:List (Nat×α)):List (Nat×α):=l.map fun p=>(p.1,f p.2)
def q7(l:List Nat)(i:Nat):Bool:=match l with
 |[]=>false
 |j :: l=>match Nat.beq j i with|true=>true|false=>q7 l i
def Z1(ks:List Nat)(f:α->α):List (Nat×α)->List (Nat×α)
 |[]=>[]
 |(j,x) :: l=>match q7 ks j with
  |true=>(j,f x) :: Z1 ks f l
  |false=>Z1 ks f l
theorem M1(l:List (Nat×α))(i:Nat)(d:α):p5 (a3d l i d) i=some d:=by
 induction l with
 |nil=>simp[a3d,q6]
 |cons p l ih=>
  obtain⟨j,x⟩:=p
  unfold a3d
  split
  ·simp[q6]
  ·rename_i h
   split
   ·simp[q6]
   ·rw[q6,h];exact ih
theorem E5(l:List (Nat×α)){i k:Nat}(d:α)(hk:k≠i):p5 (a3d l i d) k=p5 l k:=by
 have hb:Nat.beq i k=false:=c2p (Ne.symm hk)
 induction l with
 |nil=>simp[a3d,q6,a4L,hb]
 |cons p l ih=>
  obtain⟨j,x⟩:=p
  unfold a3d
  split
  ·rename_i h
   have:j=i:=Nat.eq_of_beq_eq_true h
   subst this
   simp[q6,hb]
  ·split
   ·simp[q6,hb]
   ·simp only[q6];rw[ih]
theorem a4K(l:List (Nat×α))(i:Nat):p5 (b6J l i) i=none:=by
 induction l with
 |nil=>rfl
 |cons p l ih=>
  obtain⟨j,x⟩:=p
  unfold b6J
  split
  ·exact ih
  ·rename_i h;rw[q6,h];exact ih
theorem a4p(l:List (Nat×α)){i k:Nat}(hk:k≠i):p5 (b6J l i) k=p5 l k:=by
 induction l with
 |nil=>rfl
 |cons p l ih=>
  obtain⟨j,x⟩:=p
  unfold b6J
  split
  ·rename_i h
   have:j=i:=Nat.eq_of_beq_eq_true h
   subst this
   rw[ih,q6,c2p (Ne.symm hk)]
  ·simp only[q6];rw[ih]
theorem b7c(f:α->α)(l:List (Nat×α))(i:Nat):p5 (a2G f l) i=(p5 l i).map f:=by
 induction l with
 |nil=>rfl
 |cons p l ih=>
  obtain⟨j,x⟩:=p
  show(match Nat.beq j i with|true=>some (f x)|false=>p5 (a2G f l) i)=Option.map f (match Nat.beq j i with|true=>some x|false=>p5 l i)
  split
  ·rfl
  ·exact ih
theorem X6(ks:List Nat)(f:α->α)(l:List (Nat×α))(i:Nat)(y:α)(h:p5 (Z1 ks f l) i=some y):∃x,p5 l i=some x/\y=f x:=by
 induction l with
 |nil=>cases h
 |cons p l ih=>
  obtain⟨j,x⟩:=p
  unfold Z1 at h
  rw[q6]
  cases hb:Nat.beq j i with
  |true=>
   refine⟨x,rfl,?_⟩
   have:j=i:=Nat.eq_of_beq_eq_true hb
   subst this
   split at h
   ·rw[q6,hb]at h;cases h;rfl
   ·rename_i hm
    exact absurd (ih h) (fun _=>by
     have hno:∀l:List (Nat×α),p5 (Z1 ks f l) j=none:=by
      intro l
      induction l with
      |nil=>rfl
      |cons q l ih2=>
       obtain⟨k,z⟩:=q
       unfold Z1
       split
       ·rename_i hk
        rw[q6]
        have:Nat.beq k j=false:=by
         cases hkj:Nat.beq k j with
         |false=>rfl
         |true=>have:=Nat.eq_of_beq_eq_true hkj;subst this;rw[hk]at hm;cases hm
        rw[this];exact ih2
       ·exact ih2
     rw[hno l]at h;cases h)
  |false=>
   split at h
   ·rw[q6,hb]at h;exact ih h
   ·exact ih h
end assoc
def RC.zero:(i:RC)->i.den | .value=> .mk 0 [] 0 [] [] | .expr=> .mk 0 [] 0 [] [] | .stmt=> .mk 0 [] [] [] [] (.mk 0 [] 0 [] []) [] [] 0 | .part=> .mk 0 [] 0 [] 0 []
def zero:(t:Ty)->t.den | .u8=>0 | .int _=>(0:Int) | .bool=>false | .str=>[] | .sl _=>[] | .pr a b=>(zero a,zero b) | .un=>() | .mp _=>[] | .ptr t=>zero t | .np _=>none | .clo _ t=>zero t | .rc i=>i.zero | .nl=>()
noncomputable def St.dat(st:St)(t:Ty):D->Option t.den
 |.v t' x=>if h:t'=t then some (h▸x)else none
 |.row r=>match p5 st.hp r with
  |some (.row _ t' false xs)=>if h:Ty.sl t'=t then some (h▸xs)else none
  |_=>none
 |.nilS=>match t with
  |.sl _=>some []
  |.nl=>some ()
  |_=>none
 |.nilP=>match t with
  |.np _=>some none
  |_=>none
 |.bl b=>match t with
  |.bool=>some b
  |_=>none
 |.at_ t' x=>if h:Ty.ptr t'=t then some (h▸x)else if h:Ty.np t'=t then some (h▸(some x:Option t'.den))else none
 |_=>none
def nob:D->D | .bl b=> .v .bool b|d=>d
def b3J(f:(i:RC)->i.den->List D):(t:Ty)->t.den->List D | .pr a b,x=>b3J f a x.1++b3J f b x.2 | .un,_=>[] | .rc i,x=>f i x | .u8,x=>[.v .u8 x] | .int k,x=>[.v (.int k) x] | .bool,x=>[.v .bool x] | .str,x=>[.v .str x] | .sl t,x=>[.v (.sl t) x] | .mp t,x=>[.v (.mp t) x] | .ptr t,x=>[.v (.ptr t) x] | .np t,x=>[.v (.np t) x] | .nl,x=>[.v .nl x] | .clo f t,x=>[.v (.clo f t) x]
def c9s:Nat->(t:Ty)->t.den->List D|0=>b3J fun _ _=>[]|n+1=>b3J fun i x=>c9s n i.body (i.un x)
def flat:(t:Ty)->t.den->List D:=c9s 2
noncomputable def X4(st:St)(t:Ty):List D->Option (t.den×List D)
 |d :: l=>match st.dat t d with
  |some x=>some (x,l)
  |none=>none
 |[]=>none
noncomputable def a3F(st:St)(f:(i:RC)->List D->Option (i.den×List D)):(t:Ty)->List D->Option (t.den×List D)
 |.pr a b,l=>match a3F st f a l with
  |some (x,l)=>match a3F st f b l with
   |some (y,l)=>some ((x,y),l)
   |none=>none
  |none=>none
 |.un,l=>some ((),l)
 |.rc i,l=>f i l
 |.u8,l=>X4 st .u8 l
 |.int k,l=>X4 st (.int k) l
 |.bool,l=>X4 st .bool l
 |.str,l=>X4 st .str l
 |.sl t,l=>X4 st (.sl t) l
 |.mp t,l=>X4 st (.mp t) l
 |.ptr t,l=>X4 st (.ptr t) l
 |.np t,l=>X4 st (.np t) l
 |.nl,l=>X4 st .nl l
 |.clo f t,l=>X4 st (.clo f t) l
noncomputable def b9b(st:St):Nat->(t:Ty)->List D->Option (t.den×List D)
 |0=>a3F st fun _ _=>none
 |n+1=>a3F st fun i l=>match b9b st n i.body l with
  |some (x,l)=>some (i.mk x,l)
  |none=>none
noncomputable def b1f(st:St):(t:Ty)->List D->Option (t.den×List D):=b9b st 2
noncomputable def St.lent(st:St)(t:Ty):D->Option t.den
 |.mref r=>match p5 st.hp r with
  |some (.map e m)=>if h:Ty.mp e=t then some (h▸m)else none
  |_=>none
 |.row r=>match p5 st.hp r with
  |some (.row _ t' true xs)=>if h:Ty.sl t'=t then some (h▸xs)else none
  |_=>none
 |.box r off=>match t with
  |.ptr t'=>match p5 st.hp r with
   |some (.cells cs)=>match b1f st t' (cs.drop off)with
    |some (x,_)=>some x
    |none=>none
   |_=>none
  |_=>none
 |_=>none
noncomputable def St.as(st:St)(t:Ty)(d:D):Option t.den:=match st.dat t d with
 |some x=>some x
 |none=>st.lent t d
noncomputable def St.dta(st:St)(t:Ty)(d:D):Option t.den:=match t.isAgg,d with
 |true,.tup true l=>match b1f st t l with
  |some (x,[])=>some x
  |_=>none
 |_,d=>st.dat t d
def Z3(f:RC->Option (List D)):Ty->Option (List D)
 |.pr a b=>match Z3 f a,Z3 f b with
  |some x,some y=>some (x++y)
  |_,_=>none
 |.un=>some []
 |.u8=>some [.v .u8 0]
 |.int k=>some [.v (.int k) (0:Int)]
 |.bool=>some [.v .bool false]
 |.str=>some [.v .str []]
 |.sl _=>some [.nilS]
 |.mp _=>none
 |.ptr _=>none
 |.np _=>some [.nilP]
 |.nl=>some [.nilS]
 |.clo _ _=>none
 |.rc i=>f i
def a2K:Nat->Ty->Option (List D)|0=>Z3 fun _=>none|n+1=>Z3 fun i=>a2K n i.body
def a8Z:Ty->Option (List D):=a2K 2
def a1N(f:RC->Option (List D)):Ty->Option (List D)
 |.pr a b=>match a1N f a,a1N f b with
  |some x,some y=>some (x++y)
  |_,_=>none
 |.un=>some []
 |.u8=>some [.v .u8 0]
 |.int k=>some [.v (.int k) (0:Int)]
 |.bool=>some [.v .bool false]
 |.str=>some [.v .str []]
 |.sl _=>some [.nilS]
 |.mp _=>some [.dead]
 |.ptr _=>some [.dead]
 |.np _=>some [.nilP]
 |.nl=>some [.nilS]
 |.clo _ _=>some [.dead]
 |.rc i=>f i
def b0P:Ty->Option (List D):=a1N fun i=>a2K 1 i.body
def c27(f:(i:RC)->i.den->Nat->(t':Ty)->Option t'.den):(t:Ty)->t.den->Nat->(t':Ty)->Option t'.den
 |.pr a b,x,off,t'=>
  if h:off=0/\Ty.pr a b=t' then some (h.2▸x)
  else match Nat.blt off a.sz with
   |true=>c27 f a x.1 off t'
   |false=>c27 f b x.2 (off-a.sz) t'
 |.rc i,x,off,t'=>if h:off=0/\Ty.rc i=t' then some (h.2▸x)else f i x off t'
 |t,x,off,t'=>if h:off=0/\t=t' then some (h.2▸x)else none
def d9v:Nat->(t:Ty)->t.den->Nat->(t':Ty)->Option t'.den|0=>c27 fun _ _ _ _=>none|n+1=>c27 fun i x off t'=>d9v n i.body (i.un x) off t'
def sub:(t:Ty)->t.den->Nat->(t':Ty)->Option t'.den:=d9v 2
def c29(f:(i:RC)->i.den->Nat->(t':Ty)->t'.den->Option i.den):(t:Ty)->t.den->Nat->(t':Ty)->t'.den->Option t.den
 |.pr a b,x,off,t',y=>
  if h:off=0/\t'=Ty.pr a b then some (h.2▸y)
  else match Nat.blt off a.sz with
   |true=>match c29 f a x.1 off t' y with
    |some z=>some (z,x.2)
    |none=>none
   |false=>match c29 f b x.2 (off-a.sz) t' y with
    |some z=>some (x.1,z)
    |none=>none
 |.rc i,x,off,t',y=>if h:off=0/\t'=Ty.rc i then some (h.2▸y)else f i x off t' y
 |t,_,off,t',y=>if h:off=0/\t'=t then some (h.2▸y)else none
def d9z:Nat->(t:Ty)->t.den->Nat->(t':Ty)->t'.den->Option t.den
 |0=>c29 fun _ _ _ _ _=>none
 |n+1=>c29 fun i x off t' y=>match d9z n i.body (i.un x) off t' y with
  |some z=>some (i.mk z)
  |none=>none
def upd:(t:Ty)->t.den->Nat->(t':Ty)->t'.den->Option t.den:=d9z 2
inductive Sl where
 |dead|skip|nilS|nilP
 |v (t:Ty)
 |row (r:Nat)
 |box (r off:Nat)
 |at_ (t:Ty)
 |mref (r:Nat)
 |fnc (f:FuncId) (l:List Nat)
@[reducible] def Sl.den:Sl->Type | .v t=>t.den | .at_ t=>t.den|_=>Unit
@[reducible] def SV:List Sl->Type | []=>Unit|s :: l=>s.den×SV l
inductive Sb where
 |none
 |cells (l:List Sl)
 |map (e:Ty)
 |row (e:TypeId) (t:Ty) (ex:Bool)
 |iter (e:Ty)
@[reducible] def Sb.den:Sb->Type | .none=>Unit | .cells l=>SV l | .map e=>List (List UInt8×e.den) | .row _ t _=>List t.den | .iter e=>List (List UInt8×e.den)
@[reducible] def BV:List Sb->Type | []=>Unit|s :: l=>s.den×BV l
structure AF where
 ps:List Sl
 bs:List Sb
 rs:List Sl
 cs:List Sb
 R:Type
 out:R->SV rs×BV cs
 f:SV ps->BV bs->Option R
structure Hint where
 dm:List Nat
 hf:List Nat
 hn:List Nat
 xf:List Nat
 xn:List Nat
 nl:List (Nat×Nat×Nat×TypeId×Ty)
structure PF where
 ps:List Sl
 bs:List Sb
 rs:List Sl
 cs:List Sb
 R:Type
 out:R->SV rs×BV cs
 f:SV ps->BV bs->Option (Except Int R)
@[reducible] def PF.af(p:PF):AF:={ps:=p.ps,bs:=p.bs,rs:=p.rs,cs:=p.cs,R:=p.R,out:=p.out,f:=fun x y=>match p.f x y with|some (.ok z)=>some z|_=>none}
structure Env where
 ty:TypeId->Option Ty
 el:TypeId->Option (TypeId×Ty)
 fld:TypeId->Nat->Option (Nat×Ty)
 cmp:TypeId->Option Ty
 fn:FuncId->Option Tmp->Option AF
 hint:Nat->Hint
 exq:Nat->Bool
 live:FuncId->Bool
 dyn:St->FuncId->Option Tmp->List D->Option (AF×List Nat):=fun _ _ _ _=>none
 pf:FuncId->Option Tmp->Option PF:=fun _ _=>none
 bad:TypeId:=0
 jn:Nat->Option Nat:=fun _=>none
 kn:Bool:=false
 raw:Bool:=false
def Env.jk(E:Env)(j:Nat->Option Nat):Env:={E with jn:=j,kn:=true}
def eqb:(t:Ty)->t.den->t.den->Bool | .u8,x,y=>x==y | .int _,x,y=>x==y | .bool,x,y=>x==y | .str,x,y=>x==y | .pr a b,x,y=>eqb a x.1 y.1&&eqb b x.2 y.2 | .un,_,_=>true|_,_,_=>false
def a0f:Ty->Bool | .mp _=>true | .ptr t=>a0f t | .np t=>a0f t | .clo _ t=>a0f t | .sl t=>a0f t | .pr a b=>a0f a||a0f b|_=>false
def Sl.noMap:Sl->Bool | .v t=>!a0f t | .at_ t=>!a0f t|_=>true
def Sb.noMap:Sb->Bool | .none=>true | .cells l=>l.all Sl.noMap | .map e=>!a0f e | .row _ t _=>!a0f t | .iter _=>false
def b3K:Ty->Bool | .u8=>true | .int _=>true | .bool=>true | .str=>true|_=>false
def Sl.flat:Sl->Bool | .v t=>b3K t|_=>false
def Sl.calm:Sl->Bool | .v t=>b3K t | .at_ _=>false|_=>true
def Sb.calm:Sb->Bool | .none=>true | .cells l=>l.all Sl.calm | .map e=>b3K e | .row _ t _=>b3K t | .iter _=>false
def a4P:Value->D | .bool b=> .bl b | .int .u8 n=>if 0<=n/\n<256 then .v .u8 (UInt8.ofNat n.toNat)else .dead | .int .i8 n=> .v (.int .i8) n | .int .i16 n=> .v (.int .i16) n | .int .i32 n=> .v (.int .i32) n | .int .i64 n=> .v (.int .i64) n | .int .u16 n=> .v (.int .u16) n | .int .u32 n=> .v (.int .u32) n | .int .u64 n=> .v (.int .u64) n | .string s=> .v .str s.data.toList | .slice none 0 0=> .nilS|_=> .dead
noncomputable def St.ev(st:St):Operand->D
 |.tmp t=>match p5 st.fr t with
  |some d=>d
  |none=> .dead
 |.const (.pointer none)=> .nilP
 |.const v=>a4P v
 |.func f=> .v (.clo f .un) ()
 |_=> .dead
def St.put(st:St)(dst:Option Tmp)(d:D):St:=
 match dst with
 |some t=>match Nat.blt t st.n with
  |true=>{st with fr:=a3d st.fr t d}
  |false=>st
 |none=>st
def forget(l:List Nat):D->D
 |.box r o=>match q7 l r with|true=> .dead|false=> .box r o
 |.mref r=>match q7 l r with|true=> .dead|false=> .mref r
 |.row r=>match q7 l r with|true=> .dead|false=> .row r
 |.elp r z i o=>match q7 l r with|true=> .dead|false=> .elp r z i o
 |.tl r z i=>match q7 l r with|true=> .dead|false=> .tl r z i
 |.fnc f ns=>match ns.any (q7 l)with|true=> .dead|false=> .fnc f ns
 |d=>d
def snap(r:Nat)(t:Ty)(xs:List t.den):D->D
 |.row r'=>match Nat.beq r' r with|true=> .v (.sl t) xs|false=> .row r'
 |.elp r' z i o=>match Nat.beq r' r with|true=> .dead|false=> .elp r' z i o
 |.tl r' z i=>match Nat.beq r' r with|true=> .dead|false=> .tl r' z i
 |d=>d
def freezeM(r:Nat)(e:Ty)(m:List (List UInt8×e.den)):D->D
 |.mref r'=>match Nat.beq r' r with|true=> .v (.mp e) m|false=> .mref r'
 |d=>forget [r] d
def freeze(r:Nat)(t:Ty)(x:t.den):D->D
 |.box r' o=>match Nat.beq r' r with|true=>(match o with|0=> .at_ t x|_=> .dead)|false=> .box r' o
 |.fnc f ns=>match q7 ns r with|true=> .dead|false=> .fnc f ns
 |d=>d
def a2n(f:D->D):D->D | .tup b l=> .tup b (l.map f)|d=>f d
def Blk.lift(f:D->D):Blk->Blk | .cells l=> .cells (l.map f)|b=>b
def St.lift(st:St)(f:D->D):St:={n:=st.n,fr:=a2G (a2n f) st.fr,hp:=a2G (Blk.lift f) st.hp}
def St.setB(st:St)(r:Nat)(b:Blk):St:={st with hp:=a3d st.hp r b}
def St.delB(st:St)(r:Nat):St:={st with hp:=b6J st.hp r}
section
variable{R:Type}
def a7A(d:D)(k:D->Option R):Option R:=
 match d with
 |.dead=>k .dead
 |.skip=>k .skip
 |.bl b=>k (.bl b)
 |.v t x=>k (.v t x)
 |.nilS=>k .nilS
 |.nilP=>k .nilP
 |.row r=>k (.row r)
 |.elp r z i o=>k (.elp r z i o)
 |.tl r z i=>k (.tl r z i)
 |.box r o=>k (.box r o)
 |.at_ t x=>k (.at_ t x)
 |.tup b l=>k (.tup b l)
 |.mref r=>k (.mref r)
 |.fnc f l=>k (.fnc f l)
theorem a2Z(d:D)(k:D->Option R):a7A d k=k d:=by cases d<;>rfl
noncomputable def b0X(f:D->D)(l:List D):(List D->Option R)->Option R:=List.rec (motive:=fun _=>(List D->Option R)->Option R) (fun k=>k []) (fun a _ ih k=>a7A (f a) fun a=>ih fun l=>k (a :: l)) l
theorem a1o(f:D->D):∀(l:List D) (k:List D->Option R),b0X f l k=k (l.map f)
 |[],_=>rfl
 |a :: l,k=>by
  show a7A (f a) (fun a=>b0X f l fun l=>k (a :: l))=_
  rw[a2Z];exact a1o f l fun l=>k (f a :: l)
noncomputable def b3o{α:Type}(l:List (Nat×α))(i:Nat)(d:α):(List (Nat×α)->Option R)->Option R:=
 List.rec (motive:=fun _=>(List (Nat×α)->Option R)->Option R) (fun k=>k [(i,d)])
  (fun p l ih k=>match p with
   |(j,x)=>match Nat.beq j i with
    |true=>k ((i,d) :: l)
    |false=>match Nat.blt i j with
     |true=>k ((i,d) :: (j,x) :: l)
     |false=>ih fun l=>k ((j,x) :: l)) l
theorem a2H{α:Type}:∀(l:List (Nat×α)) (i:Nat) (d:α) (k:List (Nat×α)->Option R),b3o l i d k=k (a3d l i d)
 |[],_,_,_=>rfl
 |(j,x) :: l,i,d,k=>by
  show(match Nat.beq j i with
    |true=>k ((i,d) :: l)
    |false=>match Nat.blt i j with
     |true=>k ((i,d) :: (j,x) :: l)
     |false=>b3o l i d fun l=>k ((j,x) :: l))=_
  unfold a3d
  split
  ·rfl
  ·split
   ·rfl
   ·exact a2H l i d fun l=>k ((j,x) :: l)
noncomputable def c4X{α:Type}(l:List (Nat×α))(i:Nat):(List (Nat×α)->Option R)->Option R:=
 List.rec (motive:=fun _=>(List (Nat×α)->Option R)->Option R) (fun k=>k [])
  (fun p _ ih k=>match p with
   |(j,x)=>match Nat.beq j i with
    |true=>ih k
    |false=>ih fun l=>k ((j,x) :: l)) l
theorem b3j{α:Type}:∀(l:List (Nat×α)) (i:Nat) (k:List (Nat×α)->Option R),c4X l i k=k (b6J l i)
 |[],_,_=>rfl
 |(j,x) :: l,i,k=>by
  show(match Nat.beq j i with
    |true=>c4X l i k
    |false=>c4X l i fun l=>k ((j,x) :: l))=_
  unfold b6J
  split
  ·exact b3j l i k
  ·exact b3j l i fun l=>k ((j,x) :: l)
noncomputable def b2k(f:D->D)(l:List (Nat×D)):(List (Nat×D)->Option R)->Option R:=
 List.rec (motive:=fun _=>(List (Nat×D)->Option R)->Option R) (fun k=>k [])
  (fun p _ ih k=>match p with|(j,x)=>a7A (f x) fun d=>ih fun l=>k ((j,d) :: l)) l
theorem a1I(f:D->D):∀(l:List (Nat×D)) (k:List (Nat×D)->Option R),b2k f l k=k (a2G f l)
 |[],_=>rfl
 |(j,x) :: l,k=>by
  show a7A (f x) (fun d=>b2k f l fun l=>k ((j,d) :: l))=_
  rw[a2Z];exact a1I f l fun l=>k ((j,f x) :: l)
noncomputable def b0I(f:D->D)(l:List (Nat×Blk)):(List (Nat×Blk)->Option R)->Option R:=
 List.rec (motive:=fun _=>(List (Nat×Blk)->Option R)->Option R) (fun k=>k [])
  (fun p _ ih k=>match p with
   |(j,.cells c)=>b0X f c fun c=>ih fun l=>k ((j,.cells c) :: l)
   |(j,.map e m)=>ih fun l=>k ((j,.map e m) :: l)
   |(j,.row e t ex xs)=>ih fun l=>k ((j,.row e t ex xs) :: l)
   |(j,.iter e m c)=>ih fun l=>k ((j,.iter e m c) :: l)) l
theorem Z2(f:D->D):∀(l:List (Nat×Blk)) (k:List (Nat×Blk)->Option R),b0I f l k=k (a2G (Blk.lift f) l)
 |[],_=>rfl
 |(j,.cells c) :: l,k=>by
  show b0X f c (fun c=>b0I f l fun l=>k ((j,.cells c) :: l))=_
  rw[a1o];exact Z2 f l fun l=>k ((j,.cells (c.map f)) :: l)
 |(j,.map e m) :: l,k=>Z2 f l fun l=>k ((j,.map e m) :: l)
 |(j,.row e t ex xs) :: l,k=>Z2 f l fun l=>k ((j,.row e t ex xs) :: l)
 |(j,.iter e m c) :: l,k=>Z2 f l fun l=>k ((j,.iter e m c) :: l)
noncomputable def b3m(ks:List Nat)(f:D->D)(l:List (Nat×D)):(List (Nat×D)->Option R)->Option R:=
 List.rec (motive:=fun _=>(List (Nat×D)->Option R)->Option R) (fun k=>k [])
  (fun p _ ih k=>match p with
   |(j,x)=>match q7 ks j with
    |true=>a7A (f x) fun d=>ih fun l=>k ((j,d) :: l)
    |false=>ih k) l
theorem a5z(ks:List Nat)(f:D->D):∀(l:List (Nat×D)) (k:List (Nat×D)->Option R),b3m ks f l k=k (Z1 ks f l)
 |[],_=>rfl
 |(j,x) :: l,k=>by
  show(match q7 ks j with
    |true=>a7A (f x) fun d=>b3m ks f l fun l=>k ((j,d) :: l)
    |false=>b3m ks f l k)=_
  unfold Z1
  split
  ·rw[a2Z];exact a5z ks f l fun l=>k ((j,f x) :: l)
  ·exact a5z ks f l k
def Blk.past:Blk->Blk | .iter e l _=> .iter e l none|b=>b
def Blk.pastK(b:Blk)(k:Blk->Option R):Option R:=match b with
 |.iter e l _=>k (.iter e l none)
 |.cells l=>k (.cells l)
 |.map e m=>k (.map e m)
 |.row e t ex xs=>k (.row e t ex xs)
theorem c9Q(b:Blk)(k:Blk->Option R):b.pastK k=k b.past:=by cases b<;>rfl
noncomputable def a8T(ks:List Nat)(l:List (Nat×Blk)):(List (Nat×Blk)->Option R)->Option R:=
 List.rec (motive:=fun _=>(List (Nat×Blk)->Option R)->Option R) (fun k=>k [])
  (fun p _ ih k=>match p with
   |(j,x)=>match q7 ks j with
    |true=>x.pastK fun x=>ih fun l=>k ((j,x) :: l)
    |false=>ih k) l
theorem a3b(ks:List Nat):∀(l:List (Nat×Blk)) (k:List (Nat×Blk)->Option R),a8T ks l k=k (Z1 ks Blk.past l)
 |[],_=>rfl
 |(j,x) :: l,k=>by
  show(match q7 ks j with
    |true=>x.pastK fun x=>a8T ks l fun l=>k ((j,x) :: l)
    |false=>a8T ks l k)=_
  unfold Z1
  split
  ·rw[c9Q];exact a3b ks l fun l=>k ((j,x.past) :: l)
  ·exact a3b ks l k
noncomputable def St.putK(st:St)(dst:Option Tmp)(d:D)(k:St->Option R):Option R:=
 a7A d fun d=>match dst,st with
 |some t,⟨n,fr,hp⟩=>match Nat.blt t n with
  |true=>b3o fr t d fun fr=>k ⟨n,fr,hp⟩
  |false=>k ⟨n,fr,hp⟩
 |none,st=>k st
theorem B5(st:St)(dst:Option Tmp)(d:D)(k:St->Option R):st.putK dst d k=k (st.put dst d):=by
 unfold St.putK St.put
 rw[a2Z]
 cases dst with
 |none=>rfl
 |some t=>
  obtain⟨n,fr,hp⟩:=st
  dsimp only
  split
  ·rw[a2H]
  ·rfl
noncomputable def St.liftK(st:St)(f:D->D)(k:St->Option R):Option R:=match st with
 |⟨n,fr,hp⟩=>b2k (a2n f) fr fun fr=>b0I f hp fun hp=>k ⟨n,fr,hp⟩
theorem W6(st:St)(f:D->D)(k:St->Option R):st.liftK f k=k (st.lift f):=by
 obtain⟨n,fr,hp⟩:=st;unfold St.liftK St.lift;dsimp only;rw[a1I,Z2]
noncomputable def St.setBK(st:St)(r:Nat)(b:Blk)(k:St->Option R):Option R:=match st with
 |⟨n,fr,hp⟩=>match b with
  |.cells c=>b0X id c fun c=>b3o hp r (.cells c) fun hp=>k ⟨n,fr,hp⟩
  |.map e m=>b3o hp r (.map e m) fun hp=>k ⟨n,fr,hp⟩
  |.row e t ex xs=>b3o hp r (.row e t ex xs) fun hp=>k ⟨n,fr,hp⟩
  |.iter e m c=>b3o hp r (.iter e m c) fun hp=>k ⟨n,fr,hp⟩
theorem T6(st:St)(r:Nat)(b:Blk)(k:St->Option R):st.setBK r b k=k (st.setB r b):=by
 obtain⟨n,fr,hp⟩:=st;unfold St.setBK St.setB;dsimp only
 cases b with
 |cells c=>dsimp only;rw[a1o,a2H,List.map_id]
 |map e m=>dsimp only;rw[a2H]
 |row e t ex xs=>dsimp only;rw[a2H]
 |iter e m c=>dsimp only;rw[a2H]
noncomputable def St.delBK(st:St)(r:Nat)(k:St->Option R):Option R:=match st with
 |⟨n,fr,hp⟩=>c4X hp r fun hp=>k ⟨n,fr,hp⟩
theorem a4Q(st:St)(r:Nat)(k:St->Option R):st.delBK r k=k (st.delB r):=by
 obtain⟨n,fr,hp⟩:=st;unfold St.delBK St.delB;dsimp only;rw[b3j]
noncomputable def St.newK(st:St)(r:Nat)(b:Blk)(k:St->Option R):Option R:=st.liftK (forget [r]) fun st=>st.setBK r b k
def St.new(st:St)(r:Nat)(b:Blk):St:=(st.lift (forget [r])).setB r b
theorem a1p(st:St)(r:Nat)(b:Blk)(k:St->Option R):st.newK r b k=k (st.new r b):=by unfold St.newK St.new;rw[W6,T6]
def a2l:Ty->Bool | .ptr _=>true | .np _=>true|_=>false
def e1P(i:IntKind)(x y:Int):Int:=x.fdiv (2 ^ (min y.toNat i.bits))
def e1E(i:IntKind)(x y:Int):Int:=i.wrap (BitVec.ofInt i.bits x &&& BitVec.ofInt i.bits y).toNat
def orI(i:IntKind)(x y:Int):Int:=i.wrap (BitVec.ofInt i.bits x ||| BitVec.ofInt i.bits y).toNat
def e1U(i:IntKind)(x y:Int):Int:=i.wrap (BitVec.ofInt i.bits x ^^^ BitVec.ofInt i.bits y).toNat
noncomputable def d86(tx:Option Ty)(cx:Option Ty)(op:BinOp):D->D->(D->Option R)->Option R
 |.v (.int i) x,.v (.int j) y,k=>
  match op with
  |.shr=>br (decide (0<=y)) (k (.v (.int i) (e1P i x y))) none
  |_=>
  if i=j then
  match op with
  |.add=>k (.v (.int i) (i.wrap (x+y)))
  |.sub=>k (.v (.int i) (i.wrap (x-y)))
  |.mul=>k (.v (.int i) (i.wrap (x*y)))
  |.quo=>br (y==0) none (k (.v (.int i) (i.wrap (Int.tdiv x y))))
  |.rem=>br (y==0) none (k (.v (.int i) (Int.tmod x y)))
  |.eql=>k (.v .bool (x==y))
  |.neq=>k (.v .bool (x !=y))
  |.lss=>k (.v .bool (decide (x<y)))
  |.leq=>k (.v .bool (decide (x<=y)))
  |.gtr=>k (.v .bool (decide (x>y)))
  |.geq=>k (.v .bool (decide (x>=y)))
  |.and=>k (.v (.int i) (e1E i x y))
  |.or=>k (.v (.int i) (orI i x y))
  |.xor=>k (.v (.int i) (e1U i x y))
  |_=>none
  else none
 |.v .u8 x,.v .u8 y,k=>
  match op with
  |.eql=>k (.v .bool (x==y))
  |.neq=>k (.v .bool (x !=y))
  |.lss=>k (.v .bool (decide (x<y)))
  |.leq=>k (.v .bool (decide (x<=y)))
  |.gtr=>k (.v .bool (decide (x>y)))
  |.geq=>k (.v .bool (decide (x>=y)))
  |.sub=>k (.v .u8 (x-y))
  |.add=>k (.v .u8 (x+y))
  |_=>none
 |.v .bool x,.v .bool y,k=>
  match tx,op with
  |some .bool,.eql=>k (.v .bool (x==y))
  |some .bool,.neq=>k (.v .bool (x !=y))
  |_,_=>none
 |.v .str x,.v .str y,k=>
  match op with
  |.eql=>k (.v .bool (x==y))
  |.neq=>k (.v .bool (!(x==y)))
  |.lss=>k (.v .bool (Op.bytesLess x y))
  |.leq=>k (.v .bool (Op.bytesLess x y||x==y))
  |.gtr=>k (.v .bool (!(Op.bytesLess x y||x==y)))
  |.geq=>k (.v .bool (!(Op.bytesLess x y)))
  |.add=>br (decide (x.length+y.length<=9223372036854775807)) (k (.v .str (x++y))) none
  |_=>none
 |.v (.pr a b) x,.v t' y,k=>match cx with
  |some tc=>if h:Ty.pr a b=tc/\t'=tc then
    match op with
    |.eql=>k (.v .bool (eqb tc (h.1▸x) (h.2▸y)))
    |.neq=>k (.v .bool (!(eqb tc (h.1▸x) (h.2▸y))))
    |_=>none
   else none
  |none=>none
 |.v (.np _) x,.nilP,k=>match tx.map a2l,op with
  |some true,.eql=>k (.v .bool x.isNone)
  |some true,.neq=>k (.v .bool (!x.isNone))
  |_,_=>none
 |.nilP,.nilP,k=>match tx.map a2l,op with
  |some true,.eql=>k (.v .bool true)
  |some true,.neq=>k (.v .bool false)
  |_,_=>none
 |.at_ _ _,.nilP,k=>match tx.map a2l,op with
  |some true,.eql=>k (.v .bool false)
  |some true,.neq=>k (.v .bool true)
  |_,_=>none
 |.box _ _,.nilP,k=>match tx.map a2l,op with
  |some true,.eql=>k (.v .bool false)
  |some true,.neq=>k (.v .bool true)
  |_,_=>none
 |.box r o,.box r' o',k=>match tx.map a2l,op,Nat.beq r r',Nat.beq o o' with
  |some true,.eql,true,true=>k (.bl true)
  |some true,.neq,true,true=>k (.bl false)
  |_,_,_,_=>none
 |.v (.sl _) xs,.nilS,k=>match tx,op with
  |some (.sl _),.eql=>br xs.isEmpty (n7 (k (.bl true)) (k (.bl false))) (k (.bl false))
  |some (.sl _),.neq=>br xs.isEmpty (n7 (k (.bl true)) (k (.bl false))) (k (.bl true))
  |_,_=>none
 |_,_,_=>none
noncomputable def c9f(st:St)(S:Option Ty)(eS:Option (TypeId×Ty))(T:Option Ty):D->(D->Option R)->Option R
 |.v (.int _) x,k=>match S,T with
  |some _,some (.int j)=>k (.v (.int j) (j.wrap x))
  |some _,some .u8=>k (.v .u8 (UInt8.ofNat (IntKind.u8.wrap x).toNat))
  |_,_=>none
 |.v .u8 x,k=>match S,T with
  |some _,some (.int j)=>k (.v (.int j) (j.wrap (x.toNat:Int)))
  |some _,some .u8=>k (.v .u8 x)
  |_,_=>none
 |.v .str x,k=>match S,T with
  |some .str,some .str=>k (.v .str x)
  |_,_=>none
 |d,k=>match eS,T with
  |some (_,.u8),some .str=>match st.dat (.sl .u8) d with
   |some x=>k (.v .str x)
   |none=>match st.lent (.sl .u8) d with
    |some x=>k (.v .str x)
    |none=>none
  |_,_=>none
noncomputable def d55(T:Option Ty)(st:St):D->(D->Option R)->Option R
 |.v .str x,k=>match T with
  |some .str=>k (.v (.int .i64) (x.length:Int))
  |_=>none
 |.v (.sl _) x,k=>match T with
  |some (.sl _)=>k (.v (.int .i64) (x.length:Int))
  |_=>none
 |.v (.mp _) x,k=>match T with
  |some (.mp _)=>k (.v (.int .i64) (x.length:Int))
  |_=>none
 |.row r,k=>match T,p5 st.hp r with
  |some (.sl _),some (.row _ _ _ x)=>k (.v (.int .i64) (x.length:Int))
  |_,_=>none
 |.nilS,k=>match T with
  |some (.sl _)=>k (.v (.int .i64) (0:Int))
  |_=>none
 |.mref r,k=>match T,p5 st.hp r with
  |some (.mp _),some (.map _ m)=>k (.v (.int .i64) (m.length:Int))
  |_,_=>none
 |_,_=>none
noncomputable def loD(st:St):Option Operand->Option Int
 |none=>some 0
 |some o=>match st.ev o with
  |.v (.int _) n=>some n
  |_=>none
noncomputable def hiD(st:St)(len:Nat):Option Operand->Option Int
 |none=>some len
 |some o=>match st.ev o with
  |.v (.int _) n=>some n
  |_=>none
noncomputable def d6e{α:Type}(st:St)(xs:List α)(lo hi:Option Operand)(mk:List α->D)(k:D->Option R):Option R:=
 match loD st lo,hiD st xs.length hi with
 |some lo,some hi=>f5 (slc xs lo hi) fun ys=>k (mk ys)
 |_,_=>none
def d8n(e:Ty)(m:List (List UInt8×e.den))(key:D)(ok:Bool)(k:D->Option R):Option R:=
 match key with
 |.v .str s=>match a8Z e with
  |some _=>
   if ok then k (.tup false [.v e ((b33 m s).getD (zero e)),.v .bool (b33 m s).isSome])
   else k (.v e ((b33 m s).getD (zero e)))
  |none=>none
 |_=>none
def a5S(t:Ty):D->Bool
 |.v t' _=>decide (t'=t)
 |.bl _=>decide (t = .bool)
 |.nilS=>match t with | .sl _=>true|_=>false
 |.nilP=>match t with | .np _=>true|_=>false
 |.row _=>match t with | .sl _=>true|_=>false
 |.mref _=>match t with | .mp _=>true|_=>false
 |.at_ t' _=>decide (t = .ptr t')||decide (t = .np t')
 |.box _ _=>match t with | .ptr _=>true | .np _=>true|_=>false
 |.fnc _ _=>match t with | .clo _ _=>true|_=>false
 |_=>false
def b0M:D->Bool | .v t _=>!t.isAgg | .bl _ | .nilS | .nilP | .row _ | .mref _ | .at_ _ _ | .box _ _=>true|_=>false
noncomputable def b3u(E:Env)(st:St)(T:TypeId):List (Nat×Operand)->List D->Option (List D)
 |[],cs=>some cs
 |(j,x) :: ps,cs=>match E.fld T j with
  |some (off,t')=>match t'.isAgg with
   |true=>match st.dta t' (st.ev x)with
    |some y=>if off+t'.sz<=cs.length then b3u E st T ps (cs.take off++flat t' y++cs.drop (off+t'.sz))else none
    |none=>none
   |false=>match a5S t' (st.ev x)with
    |true=>if off<cs.length then b3u E st T ps (cs.set off (nob (st.ev x)))else none
    |false=>none
  |none=>none
def c2V:D->D | .v .nl _=> .nilS|d=>d
noncomputable def b91(E:Env)(st:St)(T:TypeId)(d:D)(k:D->Option R):Option R:=
 match E.ty T,d with
 |some t,.at_ t' x=>if h:t'=t then k (.v t (h▸x))else none
 |some t,.box r off=>match p5 st.hp r with
  |some (.cells cs)=>match t.isAgg with
   |true=>match b1f st t (cs.drop off)with
    |some (x,_)=>k (.v t x)
    |none=>match Nat.beq ((cs.drop off).take t.sz).length t.sz,((cs.drop off).take t.sz).all b0M with
     |true,true=>b0X c2V ((cs.drop off).take t.sz) fun l=>k (.tup true l)
     |_,_=>none
   |false=>match cs[off]? with
    |some d=>k d
    |none=>none
  |_=>none
 |some t,.elp r z i off=>match p5 st.hp r with
  |some (.row _ t' true xs)=>match Nat.beq z t'.sz with
   |true=>f5 (l6 xs i) fun x=>match sub t' x off t with
    |some y=>k (.v t y)
    |none=>none
   |false=>none
  |_=>none
 |_,_=>none
noncomputable def J3(E:Env)(o:Op)(ty:TypeId)(st:St)(k:D->Option R):Option R:=
 match o with
 |.move x=>k (st.ev x)
 |.assign x=>k (st.ev x)
 |.nilCheck x=>match st.ev x with
  |.box r off=>k (.box r off)
  |.at_ t x=>k (.at_ t x)
  |.elp r z i off=>k (.elp r z i off)
  |.v (.np t) x=>f5 x fun x=>k (.at_ t x)
  |_=>none
 |.pick c a b=>match st.ev c with
  |.v .bool c=>br c (k (st.ev a)) (k (st.ev b))
  |.bl true=>k (st.ev a)
  |.bl false=>k (st.ev b)
  |_=>none
 |.binOp op T x y _=>d86 (E.ty T) (E.cmp T) op (nob (st.ev x)) (nob (st.ev y)) k
 |.unOp .not _ x=>match st.ev x with
  |.v .bool b=>k (.v .bool !b)
  |.bl b=>k (.bl !b)
  |_=>none
 |.convert S T x=>c9f st (E.ty S) (E.el S) (E.ty T) (st.ev x) k
 |.index T x i=>match E.ty T,st.ev x,st.ev i with
  |some .str,.v .str s,.v (.int _) i=>f5 (l6 s i) fun c=>k (.v .u8 c)
  |some .str,.v .str s,.v .u8 i=>f5 (l6 s (i.toNat:Int)) fun c=>k (.v .u8 c)
  |_,_,_=>none
 |.indexAddr T x i=>match E.el T,st.ev i with
  |some (_,t),.v (.int .i64) i=>match st.dat (.sl t) (st.ev x)with
   |some l=>f5 (l6 l i) fun c=>k (.at_ t c)
   |none=>match st.ev x with
    |.row r=>match p5 st.hp r with
     |some (.row _ t' true xs)=>if t'=t then br (decide (0<=i/\i<(xs.length:Int))) (k (.elp r t.sz i 0)) none else none
     |_=>none
    |_=>none
  |_,_=>none
 |.fieldAddr T x f=>match E.fld T f,st.ev x with
  |some (off,_),.box r o=>k (.box r (o+off))
  |some (off,_),.elp r z i o=>k (.elp r z i (o+off))
  |some (off,t'),.at_ t x=>match sub t x off t' with
   |some y=>k (.at_ t' y)
   |none=>none
  |some (off,t'),.v (.np t) x=>f5 x fun x=>match sub t x off t' with
   |some y=>k (.at_ t' y)
   |none=>none
  |_,_=>none
 |.field T x f=>match E.fld T f,st.ev x with
  |some (off,t'),.v t x=>match t.isAgg,sub t x off t' with
   |true,some y=>k (.v t' y)
   |_,_=>none
  |_,_=>none
 |.load T x=>match st.ev x with
  |.v (.np t) x=>f5 x fun x=>b91 E st T (.at_ t x) k
  |d=>b91 E st T d k
 |.slice T x lo hi none=>match E.ty T,st.ev x with
  |some .str,.v .str s=>d6e st s lo hi (.v .str) k
  |some (.sl t),d=>match E.el T,st.dat (.sl t) d with
   |some (_,t'),some l=>if t'=t then d6e st l lo hi (.v (.sl t)) k else none
   |_,_=>none
  |_,_=>none
 |.lookup T x i ok=>match E.ty T with
  |some (.mp e)=>match st.as (.mp e) (st.ev x)with
   |some m=>d8n e m (st.ev i) ok k
   |none=>none
  |_=>none
 |.extract x i=>match st.ev x with
  |.tup false l=>match l[i]? with
   |some d=>k d
   |none=>none
  |_=>none
 |.build T ps=>match E.ty T with
  |some t=>match(match t.isAgg with|true=>b0P t|false=>none)with
   |some cs=>match b3u E st T ps.toList cs with
    |some cs=>k (.tup true cs)
    |none=>none
   |none=>none
  |none=>none
 |.call c=>match c.callee,c.args.toList with
  |.builtin .len,[x]=>d55 (c.argTypes[0]?.bind E.ty) st (st.ev x) k
  |_,_=>none
 |_=>none
noncomputable def St.evL(st:St):Operand->D | .const (.agg vs)=> .tup true (vs.toList.map a4P)|x=>st.ev x
noncomputable def d56(st:St)(t:Ty):List (Nat×Operand)->Nat->Option (List t.den)
 |[],_=>some []
 |(j,x) :: l,i=>if j=i then
   match st.dta t (st.evL x)with
   |some y=>match d56 st t l (i+1)with
    |some ys=>some (y :: ys)
    |none=>none
   |none=>none
  else none
noncomputable def St.soft1K(st:St)(d:D)(k:St->Option R):Option R:=match d with
 |.row r=>match p5 st.hp r with
  |some (.row e t true xs)=>st.setBK r (.row e t false xs) k
  |_=>k st
 |_=>k st
noncomputable def St.soft1sK(l:List D):St->(St->Option R)->Option R:=List.rec (motive:=fun _=>St->(St->Option R)->Option R) (fun st k=>k st) (fun x _ ih st k=>st.soft1K x fun st=>ih st k) l
noncomputable def St.softTK(st:St)(d:D)(k:St->Option R):Option R:=match d with
 |.tup true l=>St.soft1sK l st k
 |_=>k st
noncomputable def St.softK(st:St)(d:D)(k:St->Option R):Option R:=match d with
 |.tup true l=>St.soft1sK l st k
 |.row r=>st.soft1K (.row r) k
 |_=>k st
noncomputable def St.softTsK(l:List Operand):St->(St->Option R)->Option R:=List.rec (motive:=fun _=>St->(St->Option R)->Option R) (fun st k=>k st) (fun x _ ih st k=>st.softTK (st.ev x) fun st=>ih st k) l
noncomputable def St.softsK(l:List Operand):St->(St->Option R)->Option R:=List.rec (motive:=fun _=>St->(St->Option R)->Option R) (fun st k=>k st) (fun x _ ih st k=>st.softK (st.ev x) fun st=>ih st k) l
noncomputable def St.softDsK(l:List D):St->(St->Option R)->Option R:=List.rec (motive:=fun _=>St->(St->Option R)->Option R) (fun st k=>k st) (fun x _ ih st k=>st.softK x fun st=>ih st k) l
noncomputable def b9y:List Ty->List Operand->St->(St->Option R)->Option R
 |[],[],st,k=>k st
 |.ptr t :: ts,x :: xs,st,k=>match st.ev x with
  |.at_ _ _=>b9y ts xs st k
  |.box r 0=>match Nat.blt r 1000 with
   |true=>none
   |false=>match p5 st.hp r with
    |some (.cells cs)=>match b1f st t cs with
     |some (y,[])=>st.liftK (freeze r t y) fun st=>st.delBK r fun st=>b9y ts xs st k
     |_=>none
    |_=>none
  |_=>none
 |_,_,_,_=>none
def b7h:List Ty->List D->Option ((t:Ty)×t.den)
 |[],[]=>some ⟨.un,()⟩
 |.ptr t :: ts,.at_ t' x :: ds=>if h:t'=t then(match b7h ts ds with|some y=>some ⟨.pr (.ptr t) y.1,(h▸x,y.2)⟩|none=>none)else none
 |_,_=>none
def c9b:(t:Ty)->t.den->List D | .pr (.ptr a) b,x=> .at_ a x.1 :: c9b b x.2|_,_=>[]
def c2s:Ty->Bool | .pr (.ptr _) b=>c2s b | .un=>true|_=>false
noncomputable def c47(st:St):List Operand->Option (List Nat)
 |[]=>some []
 |x :: xs=>match st.ev x with
  |.box r 0=>match c47 st xs with
   |some l=>some (r :: l)
   |none=>none
  |_=>none
def c5v:List Sl->List Ty | []=>[] | .v t :: l=>t :: c5v l|_ :: l=> .un :: c5v l
def nmK(ρ:List Nat)(j r:Nat)(k:List Nat->Option R):Option R:=match ρ[j]? with
 |some r'=>match Nat.beq r' r with|true=>k ρ|false=>none
 |none=>match Nat.beq j ρ.length with
  |true=>match q7 ρ r with|true=>none|false=>k (ρ ++ [r])
  |false=>none
def d9k:List Nat->List Nat->List Nat->(List Nat->Option R)->Option R | [],[],ρ,k=>k ρ|j :: js,r :: rs,ρ,k=>nmK ρ j r fun ρ=>d9k js rs ρ k|_,_,_,_=>none
noncomputable def mtK(st:St)(s:Sl)(d:D)(ρ β:List Nat)(k:s.den->List Nat->List Nat->Option R):Option R:=match s,k with
 |.dead,k=>k () ρ β
 |.skip,k=>match d with | .skip=>k () ρ β|_=>none
 |.nilS,k=>match d with | .nilS=>k () ρ β|_=>none
 |.nilP,k=>match d with | .nilP=>k () ρ β|_=>none
 |.v t,k=>match st.dta t d with
  |some x=>k x ρ β
  |none=>match st.lent t d with
   |some x=>match d with
    |.mref r=>k x ρ (r :: β)
    |.row r=>k x ρ (r :: β)
    |.box r _=>k x ρ (r :: β)
    |_=>none
   |none=>none
 |.at_ t,k=>match d with
  |.at_ t' x=>if h:t'=t then k (h▸x) ρ β else none
  |_=>none
 |.row r,k=>match d with | .row r'=>nmK ρ r r' fun ρ=>k () ρ β|_=>none
 |.mref r,k=>match d with | .mref r'=>nmK ρ r r' fun ρ=>k () ρ β|_=>none
 |.box r o,k=>match d with
  |.box r' o'=>match Nat.beq o' o with|true=>nmK ρ r r' fun ρ=>k () ρ β|false=>none
  |_=>none
 |.fnc f l,k=>match d with
  |.fnc f' l'=>match Nat.beq f' f with|true=>d9k l l' ρ fun ρ=>k () ρ β|false=>none
  |_=>none
noncomputable def b6Q(st:St):(l:List Sl)->List D->List Nat->List Nat->(SV l->List Nat->List Nat->Option R)->Option R | [],[],ρ,β,k=>k () ρ β|s :: l,d :: ds,ρ,β,k=>mtK st s d ρ β fun x ρ β=>b6Q st l ds ρ β fun y ρ β=>k (x,y) ρ β|_,_,_,_,_=>none
noncomputable def mbK(st:St)(s:Sb)(r:Nat)(ρ β:List Nat)(k:s.den->List Nat->List Nat->Option R):Option R:=match s,k with
 |.none,k=>k () ρ β
 |.cells l,k=>match p5 st.hp r with
  |some (.cells ds)=>b6Q st l ds ρ β k
  |_=>none
 |.map e,k=>match p5 st.hp r with
  |some (.map e' m)=>if h:e'=e then k (h▸m) ρ β else none
  |_=>none
 |.row e t ex,k=>match p5 st.hp r with
  |some (.row e' t' ex' xs)=>if h:t'=t then(if e'=e/\ex'=ex then k (h▸xs) ρ β else none)else none
  |_=>none
 |.iter _,_=>none
noncomputable def b31(st:St):(l:List Sb)->(j:Nat)->List Nat->List Nat->(BV l->List Nat->List Nat->Option R)->Option R
 |[],_,ρ,β,k=>k () ρ β
 |s :: l,j,ρ,β,k=>match ρ[j]? with
  |some r=>mbK st s r ρ β fun x ρ β=>b31 st l (j+1) ρ β fun y ρ β=>k (x,y) ρ β
  |none=>none
def M4(ν:List Nat)(j:Nat):Nat:=match ν[j]? with
 |some r=>r
 |none=>0
def c9D(ν:Nat->Nat):(s:Sl)->s.den->D | .dead,_=> .dead | .skip,_=> .skip | .nilS,_=> .nilS | .nilP,_=> .nilP | .v t,x=> .v t x | .at_ t,x=> .at_ t x | .row r,_=> .row (ν r) | .mref r,_=> .mref (ν r) | .box r o,_=> .box (ν r) o | .fnc f l,_=> .fnc f (l.map ν)
def U4(ν:Nat->Nat):(l:List Sl)->SV l->List D | [],_=>[]|s :: l,x=>c9D ν s x.1 :: U4 ν l x.2
def b9Z(ν:Nat->Nat):(s:Sb)->s.den->Option Blk | .none,_=>none | .cells l,x=>some (.cells (U4 ν l x)) | .map e,x=>some (.map e x) | .row e t ex,x=>some (.row e t ex x) | .iter _,_=>none
noncomputable def a4X(ν:Nat->Nat):(l:List Sb)->(j:Nat)->BV l->St->(St->Option R)->Option R
 |[],_,_,st,k=>k st
 |s :: l,j,y,st,k=>match b9Z ν s y.1 with
  |some b=>st.setBK (ν j) b fun st=>a4X ν l (j+1) y.2 st k
  |none=>st.delBK (ν j) fun st=>a4X ν l (j+1) y.2 st k
def a2m(ν:Nat->Nat):(l:List Sb)->(j:Nat)->BV l->St->St
 |[],_,_,st=>st
 |s :: l,j,y,st=>match b9Z ν s y.1 with
  |some b=>a2m ν l (j+1) y.2 (st.setB (ν j) b)
  |none=>a2m ν l (j+1) y.2 (st.delB (ν j))
theorem a2Q(ν:Nat->Nat):∀(l:List Sb) (j:Nat) (y:BV l) (st:St) (k:St->Option R),a4X ν l j y st k=k (a2m ν l j y st)
 |[],_,_,_,_=>rfl
 |s :: l,j,y,st,k=>by
  unfold a4X a2m
  split
  ·rw[T6];exact a2Q ν l (j+1) y.2 _ k
  ·rw[a4Q];exact a2Q ν l (j+1) y.2 _ k
def Z4(b:Nat):Nat->List Nat|0=>[]|n+1=>Z4 b n ++ [b+n]
def a8e:List Sb->List Sb->List Nat->List Nat | .cells _ :: bs,_ :: cs,_ :: ν=>a8e bs cs ν | .map _ :: bs,_ :: cs,_ :: ν=>a8e bs cs ν|_ :: bs,_ :: cs,r :: ν=>r :: a8e bs cs ν|_,_,ν=>ν
def a0g:List Sb->List Sb->Bool | [],[.none]=>true|_ :: bs,_ :: cs=>a0g bs cs|_,_=>false
def a5a(bs cs:List Sb)(ν:List Nat):List Nat:=match a0g bs cs with
 |true=>ν.drop bs.length
 |false=>a8e bs cs ν
def c9Y:List D->D | [d]=>d|l=> .tup false l
noncomputable def a0h(st:St)(F:AF)(ρ β:List Nat):Bool:=
 match F.bs with
 |[]=>β.all (fun r=>match p5 st.hp r with
  |some (.map _ _)=>F.rs.all Sl.noMap&&F.cs.all Sb.noMap
  |_=>F.rs.all Sl.flat&&F.cs.isEmpty)
 |_ :: _=>!β.any (q7 ρ)&&F.rs.all Sl.flat&&F.cs.all Sb.calm
def AF.calm(F:AF):Bool:=F.rs.all Sl.flat&&match F.bs with
 |[]=>F.cs.isEmpty
 |_ :: _=>F.cs.all Sb.calm
noncomputable def Z7:List Sl->List D->St->(St->Option R)->Option R | .v _ :: l,d :: ds,st,k=>st.softK d fun st=>Z7 l ds st k|_ :: l,_ :: ds,st,k=>Z7 l ds st k|_,_,st,k=>k st
noncomputable def b9w(F:AF)(st:St)(dst:Option Tmp)(ds:List D)(k:St->Option R):Option R:=
 (fun go:St->Option R=>match F.calm with
   |true=>go st
   |false=>Z7 F.ps ds st go) fun st=>
  b6Q st F.ps ds [] [] fun x ρ β=>b31 st F.bs 0 ρ β fun y ρ β=>
   match β.isEmpty||a0h st F ρ β,Nat.beq ρ.length F.bs.length with
   |true,true=>f5 (F.f x y) fun z=>
    (fun ν=>match ρ.any (q7 (Z4 (100000+100*(match dst with|some t=>t|none=>0)) (F.cs.length-F.bs.length))),Nat.beq ν.length F.cs.length with
     |false,true=>st.liftK (forget (a5a F.bs F.cs ν)) fun st=>a4X (M4 ν) F.cs 0 (F.out z).2 st fun st=>
       b0X id (U4 (M4 ν) F.rs (F.out z).1) fun l=>st.putK dst (c9Y l) k
     |_,_=>none)
     (ρ++Z4 (100000+100*(match dst with|some t=>t|none=>0)) (F.cs.length-F.bs.length))
   |_,_=>none
noncomputable def c9t:List Nat->List D->St->(List D->St->Option R)->Option R
 |[],ds,st,k=>k ds st
 |r :: l,ds,st,k=>match Nat.blt r 1000 with
  |true=>none
  |false=>match p5 st.hp r with
   |some (.map e m)=>st.liftK (freezeM r e m) fun st=>st.delBK r fun st=>b0X (a2n (freezeM r e m)) ds fun ds=>c9t l ds st k
   |_=>none
noncomputable def c87[BothC R](p:PF)(st:St)(dst:Option Tmp)(ds:List D)(k:St->Option R):Option R:=
 (fun go:St->Option R=>match p.af.calm with
   |true=>go st
   |false=>Z7 p.ps ds st go) fun st=>
  b6Q st p.ps ds [] [] fun x ρ β=>b31 st p.bs 0 ρ β fun y ρ β=>
   match β.isEmpty||a0h st p.af ρ β,Nat.beq ρ.length p.bs.length with
   |true,true=>c84 (fun c=>BothC.pa c ρ st) (p.f x y) fun z=>
    (fun ν=>match ρ.any (q7 (Z4 (100000+100*(match dst with|some t=>t|none=>0)) (p.cs.length-p.bs.length))),Nat.beq ν.length p.cs.length with
     |false,true=>st.liftK (forget (a5a p.bs p.cs ν)) fun st=>a4X (M4 ν) p.cs 0 (p.out z).2 st fun st=>
       b0X id (U4 (M4 ν) p.rs (p.out z).1) fun l=>st.putK dst (c9Y l) k
     |_,_=>none)
     (ρ++Z4 (100000+100*(match dst with|some t=>t|none=>0)) (p.cs.length-p.bs.length))
   |_,_=>none
noncomputable def b3v[BothC R](E:Env)(st:St)(dst:Option Tmp)(f:FuncId)(ds:List D)(k:St->Option R):Option R:=
 match E.fn f dst with
 |some F=>b9w F st dst ds k
 |none=>match E.dyn st f dst ds with
  |some (F,l)=>c9t l ds st fun ds st=>b9w F st dst ds k
  |none=>match E.pf f dst with
   |some p=>c87 p st dst ds k
   |none=>none
def nm(t:Nat):Nat:=1000+t
variable[BothC R]
noncomputable def opD(E:Env)(o:Oper)(st:St)(k:St->Option R):Option R:=
 match o.op with
 |.assign (.const (.slice none 0 0))=>match E.el o.type,o.dst with
  |some (e,t),some r=>st.newK (nm r) (.row e t (E.exq r) []) fun st=>st.putK (some r) (.row (nm r)) k
  |_,_=>none
 |.alloc T=>match E.ty T,o.dst with
  |some t,some r=>match b0P t with
   |some cs=>st.newK (nm r) (.cells cs) fun st=>st.putK (some r) (.box (nm r) 0) k
   |none=>none
  |_,_=>none
 |.box T x=>match E.ty T,o.dst with
  |some t,some r=>match t.isAgg with
   |true=>match E.raw,st.ev x with
    |true,.tup true l=>match l.all b0M with
     |true=>b0X (fun d=>forget [nm r] (nob d)) l fun l=>st.newK (nm r) (.cells l) fun st=>st.putK (some r) (.box (nm r) 0) k
     |false=>none
    |_,_=>st.softK (st.ev x) fun st=>match st.dta t (st.ev x)with
     |some y=>st.newK (nm r) (.cells (flat t y)) fun st=>st.putK (some r) (.box (nm r) 0) k
     |none=>none
   |false=>match a5S t (st.ev x)with
    |true=>(fun d=>st.newK (nm r) (.cells [forget [nm r] d]) fun st=>st.putK (some r) (.box (nm r) 0) k) (nob (st.ev x))
    |false=>none
  |_,_=>none
 |.store T x v=>match o.dst,E.ty T,st.ev x with
  |none,some t,.box r off=>match p5 st.hp r with
   |some (.cells cs)=>match t.isAgg with
    |true=>match st.ev v with
     |.tup true l=>if off+t.sz<=cs.length/\l.length=t.sz/\l.all b0M=true then st.setBK r (.cells (cs.take off++l++cs.drop (off+t.sz))) k else none
     |d=>match st.dta t d with
      |some x=>if off+t.sz<=cs.length then st.setBK r (.cells (cs.take off++flat t x++cs.drop (off+t.sz))) k else none
      |none=>none
    |false=>match a5S t (st.ev v)with
     |true=>if off<cs.length then st.setBK r (.cells (cs.set off (nob (st.ev v)))) k else none
     |false=>none
   |_=>none
  |none,some t,.elp r z i off=>st.softK (st.ev v) fun st=>match st.dta t (st.ev v),p5 st.hp r with
   |some y,some (.row e t' true xs)=>match Nat.beq z t'.sz with
    |true=>f5 (l6 xs i) fun x=>match upd t' x off t y with
     |some x'=>st.setBK r (.row e t' true (B8 xs i x')) k
     |none=>none
    |false=>none
   |_,_=>none
  |_,_,_=>none
 |.makeFunc (.func f) first caps=>match first.toList,o.dst with
  |[],some q=>match E.live f with
   |true=>match c47 st caps.toList with
    |some l=>st.putK (some q) (.fnc f l) k
    |none=>none
   |false=>match E.fn f o.dst with
    |some g=>b9y ((c5v g.ps).drop (g.ps.length-caps.size)) caps.toList st fun st=>
     match b7h ((c5v g.ps).drop (g.ps.length-caps.size)) (caps.toList.map st.ev)with
     |some y=>st.putK (some q) (.v (.clo f y.1) y.2) k
     |none=>none
    |none=>none
  |_,_=>none
 |.makeMap T none=>match E.ty T,o.dst with
  |some (.mp e),some r=>st.newK (nm r) (.map e []) fun st=>st.putK (some r) (.mref (nm r)) k
  |_,_=>none
 |.mapUpdate T m key x=>match o.dst,E.ty T,st.ev m,st.ev key with
  |none,some (.mp e0),.mref r,.v .str s=>st.softK (st.ev x) fun st=>match p5 st.hp r with
   |some (.map e m)=>if e0=e then
     match st.dta e (st.ev x)with
     |some x=>st.setBK r (.map e (a4D m s x)) k
     |none=>none
    else none
   |_=>none
  |_,_,_,_=>none
 |.makeSlice T n c=>match E.el T,o.dst,st.ev n,st.ev c with
  |some (e,t),some r,.v (.int .i64) n,.v (.int .i64) c=>match a8Z t with
   |some _=>br (decide (0<=n/\n<=c/\c*(24*t.sz:Nat)<=140737488355328)) (st.newK (nm r) (.row e t (E.exq r) (mk0 n (zero t))) fun st=>st.putK (some r) (.row (nm r)) k) none
   |none=>none
  |_,_,_,_=>none
 |.buildSlice T n ps=>match E.el T,o.dst with
  |some (e,t),some r=>St.softsK (ps.toList.map (·.2)) st fun st=>match d56 st t ps.toList 0 with
   |some xs=>if xs.length=n/\n*t.sz<=16777216 then st.newK (nm r) (.row e t (E.exq r) xs) fun st=>st.putK (some r) (.row (nm r)) k else none
   |none=>none
  |_,_=>none
 |.range T x=>match E.ty T,o.dst,st.ev x with
  |some (.mp e),some q,.v (.mp e') m=>if e'=e then st.newK (nm q) (.iter e' m none) fun st=>st.putK (some q) (.box (nm q) 0) k else none
  |some (.mp e),some q,.mref r=>match Nat.blt r 1000 with
   |true=>none
   |false=>match p5 st.hp r with
    |some (.map e' m)=>if e'=e then st.liftK (freezeM r e' m) fun st=>st.delBK r fun st=>st.newK (nm q) (.iter e' m none) fun st=>st.putK (some q) (.box (nm q) 0) k else none
    |_=>none
  |_,_,_=>none
 |.next it false=>match o.dst,st.ev it with
  |some q,.box r 0=>match p5 st.hp r with
   |some (.iter e l _)=>br l.isEmpty (st.putK (some q) (.tup false [.bl false]) k)
     (BothC.al l fun p l'=>st.setBK r (.iter e l' (some p)) fun st=>st.putK (some q) (.tup false [.bl true,.v .str p.1,.v e p.2]) k)
   |_=>none
  |_,_=>none
 |.entry it=>match o.dst,st.ev it with
  |some q,.box r 0=>match p5 st.hp r with
   |some (.iter e _ (some p))=>st.putK (some q) (.tup false [.v .str p.1,.v e p.2]) k
   |_=>none
  |_,_=>none
 |.build T ps=>St.softTsK (ps.toList.map (·.2)) st fun st=>J3 E o.op o.type st fun d=>st.putK o.dst d k
 |.slice T x none (some hi) none=>match E.ty T,E.el T,st.ev x with
  |some (.sl t),some (_,t2),.row r=>match p5 st.hp r with
   |some (.row e t' true xs)=>match st.ev hi with
    |.v (.int .i64) n=>if t'=t/\t2=t then br (decide (0<=n/\n<=(xs.length:Int))) (st.liftK (forget [r]) fun st=>st.setBK r (.row e t' true (cut xs n)) fun st=>st.putK o.dst (.row r) k) none else none
    |_=>none
   |_=>J3 E o.op o.type st fun d=>st.putK o.dst d k
  |_,_,_=>J3 E o.op o.type st fun d=>st.putK o.dst d k
 |.slice T x (some lo) none none=>match E.ty T,E.el T,st.ev x with
  |some (.sl t),some (_,t2),.row r=>match p5 st.hp r with
   |some (.row _ t' true xs)=>match st.ev lo with
    |.v (.int .i64) i=>if t'=t/\t2=t then br (decide (0<=i/\i<=(xs.length:Int)/\0<xs.length)) (st.putK o.dst (.tl r t.sz i) k) none else none
    |_=>none
   |_=>J3 E o.op o.type st fun d=>st.putK o.dst d k
  |_,_,_=>J3 E o.op o.type st fun d=>st.putK o.dst d k
 |.convert S T x=>match E.ty S,E.el T,st.ev x with
  |some .str,some (_,.u8),.v .str s=>br (decide (s.length*24<=140737488355328)) (st.putK o.dst (.v (.sl .u8) s) k) none
  |_,_,_=>J3 E o.op o.type st fun d=>st.putK o.dst d k
 |.load T x=>match E.ty T,st.ev x with
  |some t,.box r off=>match t.isAgg,p5 st.hp r with
   |true,some (.cells cs)=>St.softDsK ((cs.drop off).take t.sz) st fun st=>J3 E o.op o.type st fun d=>st.putK o.dst d k
   |_,_=>J3 E o.op o.type st fun d=>st.putK o.dst d k
  |_,_=>J3 E o.op o.type st fun d=>st.putK o.dst d k
 |.call c=>match c.callee with
  |.value (.func f)=>b3v E st o.dst f (c.args.toList.map st.ev) k
  |.builtin .clear=>match c.argTypes.toList,o.dst,c.args.toList with
   |[T],none,[x]=>match E.el T,st.ev x with
    |some (_,t),.tl r z i=>match p5 st.hp r,a8Z t with
     |some (.row e t' true xs),some _=>if t'=t then match Nat.beq z t'.sz with
      |true=>st.setBK r (.row e t' true (clr xs i (zero t'))) k
      |false=>none
      else none
     |_,_=>none
    |_,_=>none
   |_,_,_=>none
  |.value (.tmp t)=>match st.ev (.tmp t)with
   |.v (.clo f ct) cx=>match c2s ct with
    |true=>b3v E st o.dst f (c.args.toList.map st.ev++c9b ct cx) k
    |false=>none
   |.fnc f l=>b3v E st o.dst f (c.args.toList.map st.ev++l.map fun r=> .box r 0) k
   |_=>none
  |.builtin .append=>match c.argTypes.toList,o.dst,c.args.toList with
   |[T,T'],some r,[x,y]=>if T=T' then
     match E.el T with
     |some (e,t)=>st.softK (st.ev y) fun st=>match st.dat (.sl t) (st.ev y)with
      |some ys=>match st.ev x with
       |.row q=>match p5 st.hp q with
        |some (.row e' t' ex xs)=>if h:t'=t then
          if e'=e then br (decide ((xs.length+ys.length)*(24*t.sz)<=140737488355328))
           (st.liftK (match ex with|true=>forget [q]|false=>snap q t' xs) fun st=>st.setBK q (.row e t ex ((h▸xs:List t.den)++ys)) fun st=>st.putK (some r) (.row q) k) none
          else none
         else none
        |_=>none
       |.nilS=>br (decide (ys.length*(24*t.sz)<=140737488355328)) (st.newK (nm r) (.row e t (E.exq r) ys) fun st=>st.putK (some r) (.row (nm r)) k) none
       |_=>none
      |none=>none
     |none=>none
    else none
   |_,_,_=>none
  |_=>J3 E o.op o.type st fun d=>st.putK o.dst d k
 |p=>J3 E p o.type st fun d=>st.putK o.dst d k
noncomputable def a3j(ops:List Oper)(o:Oper)(st:St)(run:St->Option R)(k:St->Option R):Option R:=
 match o.guard with
 |none=>run st
 |some (j,b)=>match ops[j]? with
  |some oj=>match oj.dst with
   |some t=>match st.ev (.tmp t)with
    |.v .bool c=>br c
      (match b with|true=>st.putK (some t) (.bl true) run|false=>st.putK (some t) (.bl true) fun st=>st.putK o.dst .skip k)
      (match b with|true=>st.putK (some t) (.bl false) fun st=>st.putK o.dst .skip k|false=>st.putK (some t) (.bl false) run)
    |.bl true=>match b with
     |true=>run st
     |false=>st.putK o.dst .skip k
    |.bl false=>match b with
     |true=>st.putK o.dst .skip k
     |false=>run st
    |.skip=>st.putK o.dst .skip k
    |_=>none
   |none=>none
  |none=>none
noncomputable def a3s(E:Env)(all:List Oper)(l:List Oper):St->(St->Option R)->Option R:=List.rec (motive:=fun _=>St->(St->Option R)->Option R) (fun st k=>k st) (fun o _ ih st k=>a3j all o st (fun st=>opD E o st (fun st=>ih st k)) (fun st=>ih st k)) l
inductive Ex where
 |normal|exit (id:Nat)|ret
noncomputable def St.hardK(st:St)(s:Nat)(k:St->Option R):Option R:=match p5 st.fr s with
 |some (.row r)=>match p5 st.hp r with
  |some (.row _ t _ xs)=>st.liftK (snap r t xs) fun st=>st.delBK r k
  |_=>k st
 |_=>k st
noncomputable def St.hardsK(l:List Nat):St->(St->Option R)->Option R:=List.rec (motive:=fun _=>St->(St->Option R)->Option R) (fun st k=>k st) (fun s _ ih st k=>st.hardK s fun st=>ih st k) l
noncomputable def St.hard(st:St)(s:Nat):St:=match p5 st.fr s with
 |some (.row r)=>match p5 st.hp r with
  |some (.row _ t _ xs)=>(st.lift (snap r t xs)).delB r
  |_=>st
 |_=>st
noncomputable def St.hards:List Nat->St->St | [],st=>st|s :: l,st=>St.hards l (st.hard s)
theorem a5I:∀(l:List Nat) (st:St) (k:St->Option R),St.hardsK l st k=k (St.hards l st)
 |[],_,_=>rfl
 |s :: l,st,k=>by
  show st.hardK s (fun st=>St.hardsK l st k)=_
  unfold St.hardK St.hards St.hard
  split
  ·split
   ·rw[W6,a4Q];exact a5I l _ k
   ·exact a5I l _ k
  ·exact a5I l _ k
noncomputable def St.setNilK(st:St)(r j:Nat)(d:D)(k:St->Option R):Option R:=match p5 st.hp r with
 |some (.cells cs)=>match cs[j]? with
  |some .nilS=>st.setBK r (.cells (cs.set j d)) k
  |_=>k st
 |_=>k st
noncomputable def St.setNil(st:St)(r j:Nat)(d:D):St:=match p5 st.hp r with
 |some (.cells cs)=>match cs[j]? with
  |some .nilS=>st.setB r (.cells (cs.set j d))
  |_=>st
 |_=>st
theorem b4h(st:St)(r j:Nat)(d:D)(k:St->Option R):st.setNilK r j d k=k (st.setNil r j d):=by
 unfold St.setNilK St.setNil
 split
 ·split
  ·rw[T6]
  ·rfl
 ·rfl
noncomputable def c9y(st:St)(r j:Nat):Bool:=match p5 st.hp r with
 |some (.cells cs)=>match cs[j]? with
  |some .nilS=>true
  |_=>false
 |_=>false
noncomputable def St.nilRowK(st:St)(r j q:Nat)(e:TypeId)(t:Ty)(k:St->Option R):Option R:=match c9y st r j,Nat.beq q 0 with
 |true,true=>st.setNilK r j (.v (.sl t) []) k
 |true,false=>match Nat.blt 999 q&&Nat.blt 0 t.sz with
  |true=>st.newK q (.row e t (Nat.ble 950000 q) []) fun st=>st.setNilK r j (.row q) k
  |false=>k st
 |false,_=>k st
noncomputable def St.nilRow(st:St)(r j q:Nat)(e:TypeId)(t:Ty):St:=match c9y st r j,Nat.beq q 0 with
 |true,true=>st.setNil r j (.v (.sl t) [])
 |true,false=>match Nat.blt 999 q&&Nat.blt 0 t.sz with
  |true=>(st.new q (.row e t (Nat.ble 950000 q) [])).setNil r j (.row q)
  |false=>st
 |false,_=>st
theorem c2U(st:St)(r j q:Nat)(e:TypeId)(t:Ty)(k:St->Option R):st.nilRowK r j q e t k=k (st.nilRow r j q e t):=by
 unfold St.nilRowK St.nilRow
 split
 ·rw[b4h]
 ·split
  ·rw[a1p,b4h]
  ·rfl
 ·rfl
noncomputable def St.nilsK(l:List (Nat×Nat×Nat×TypeId×Ty)):St->(St->Option R)->Option R:=List.rec (motive:=fun _=>St->(St->Option R)->Option R) (fun st k=>k st) (fun s _ ih st k=>st.nilRowK s.1 s.2.1 s.2.2.1 s.2.2.2.1 s.2.2.2.2 fun st=>ih st k) l
noncomputable def St.nils:List (Nat×Nat×Nat×TypeId×Ty)->St->St | [],st=>st|s :: l,st=>St.nils l (st.nilRow s.1 s.2.1 s.2.2.1 s.2.2.2.1 s.2.2.2.2)
theorem b97:∀(l:List (Nat×Nat×Nat×TypeId×Ty)) (st:St) (k:St->Option R),St.nilsK l st k=k (St.nils l st)
 |[],_,_=>rfl
 |s :: l,st,k=>by
  show st.nilRowK s.1 s.2.1 s.2.2.1 s.2.2.2.1 s.2.2.2.2 (fun st=>St.nilsK l st k)=_
  rw[c2U];exact b97 l _ k
noncomputable def St.keepK(st:St)(f h:List Nat)(k:St->Option R):Option R:=match st with
 |⟨n,fr,hp⟩=>b3m f nob fr fun fr=>a8T h hp fun hp=>k ⟨n,fr,hp⟩
def St.keep(st:St)(f h:List Nat):St:=⟨st.n,Z1 f nob st.fr,Z1 h Blk.past st.hp⟩
theorem b9X(st:St)(f h:List Nat)(k:St->Option R):st.keepK f h k=k (st.keep f h):=by
 obtain⟨n,fr,hp⟩:=st;unfold St.keepK St.keep;dsimp only;rw[a5z,a3b]
noncomputable def St.headK(st:St)(h:Hint)(k:St->Option R):Option R:=St.hardsK h.dm st fun st=>St.nilsK h.nl st fun st=>st.keepK h.hf h.hn k
noncomputable def St.head(st:St)(h:Hint):St:=(St.nils h.nl (St.hards h.dm st)).keep h.hf h.hn
theorem a2P(st:St)(h:Hint)(k:St->Option R):st.headK h k=k (st.head h):=by unfold St.headK St.head;rw[a5I,b97,b9X]
noncomputable def St.tailK(st:St)(h:Hint)(k:St->Option R):Option R:=st.keepK h.xf h.xn k
def St.tail(st:St)(h:Hint):St:=st.keep h.xf h.xn
theorem c0p(st:St)(h:Hint)(k:St->Option R):st.tailK h k=k (st.tail h):=by unfold St.tailK St.tail;rw[b9X]
noncomputable def iter(h:Hint)(body:St->(Ex->St->Option R)->Option R):Nat->St->(Ex->St->Option R)->Option R
 |0,_,_=>none
 |n+1,st,k=>body st fun e st=>match e with
  |.normal=>st.headK h fun st=>iter h body n st k
  |.exit j=>st.tailK h (k (.exit j))
  |.ret=>k .ret st
def a1R:List Sl->Bool | [.v .u8]=>true | [.v (.int _)]=>true | [.v .bool]=>true | [.v .str]=>true|_=>false
def C8(E:Env)(o:Oper):Bool:=
 match o.op with
 |.assign (.const (.slice none 0 0))=>false
 |.convert _ T _=>(E.el T).isNone
 |.range _ _ | .next _ _ | .entry _=>false
 |.makeFunc _ _ _ | .alloc _ | .box _ _ | .store _ _ _ | .makeMap _ _ | .mapUpdate _ _ _ _ | .buildSlice _ _ _ | .makeSlice _ _ _ | .slice _ _ _ _ _ | .build _ _=>false
 |.call c=>match c.callee with
  |.value (.func f)=>match E.fn f o.dst with
   |some g=>a1R g.rs&&g.bs.isEmpty&&g.cs.isEmpty
   |none=>false
  |.builtin .len=>true
  |_=>false
 |_=>true
noncomputable def a01(l:List Nat):(List Nat->Option R)->Option R:=List.rec (motive:=fun _=>(List Nat->Option R)->Option R) (fun k=>k []) (fun a _ ih k=>ih fun l=>k (a :: l)) l
theorem a02:∀(l:List Nat) (k:List Nat->Option R),a01 l k=k l
 |[],_=>rfl
 |a :: l,k=>by
  show a01 l (fun l=>k (a :: l))=_
  exact a02 l fun l=>k (a :: l)
def b6I(s:List Nat)(x:Nat):List Nat:=match q7 s x with|true=>s|false=>x :: s
noncomputable def b7l(ops:Array Oper)(cl:List (Nat×List Nat))(j:Nat):List Nat:=match ops[j]? with
 |some oj=>oj.after.toList.foldl (fun s e=>match Region.binds .any e with
  |true=>match p5 cl e.on with
   |some c=>b6I (c.foldl b6I s) e.on
   |none=>b6I s e.on
  |false=>s) []
 |none=>[]
noncomputable def b3C(ops:Array Oper):List Nat->List (Nat×List Nat)->List (Nat×List Nat) | [],cl=>cl|j :: r,cl=>b3C ops r ((j,b7l ops cl j) :: cl)
noncomputable def b9B(ops:Array Oper)(r:List Nat):List (Nat×List Nat)->(List (Nat×List Nat)->Option R)->Option R:=List.rec (motive:=fun _=>List (Nat×List Nat)->(List (Nat×List Nat)->Option R)->Option R) (fun cl k=>k cl) (fun j _ ih cl k=>a01 (b7l ops cl j) fun c=>ih ((j,c) :: cl) k) r
theorem a8V(ops:Array Oper):∀(r:List Nat) (cl:List (Nat×List Nat)) (k:List (Nat×List Nat)->Option R),b9B ops r cl k=k (b3C ops r cl)
 |[],_,_=>rfl
 |j :: r,cl,k=>by
  show a01 (b7l ops cl j) (fun c=>b9B ops r ((j,c) :: cl) k)=_
  rw[a02];exact a8V ops r _ k
noncomputable def c6S(cl:List (Nat×List Nat))(i j:Nat):Bool:=match p5 cl j with|some c=>q7 c i|none=>false
noncomputable def b1g(cl:List (Nat×List Nat))(tl:List Nat)(i:Nat):Bool:=tl.all fun j=>Nat.beq j i||c6S cl i j
def Z0{α:Type}(ks:List Nat):List (Nat×α)->List (Nat×α)
 |[]=>[]
 |(j,x) :: l=>match q7 ks j with
  |true=>Z0 ks l
  |false=>(j,x) :: Z0 ks l
def St.aside(st:St)(l:List Nat):St:={n:=st.n,fr:=(st.lift (forget l)).fr,hp:=Z0 l (st.lift (forget l)).hp}
def keepD(l:List Nat):D->Bool | .box r _=>q7 l r | .mref r=>q7 l r | .row r=>q7 l r | .elp r _ _ _=>q7 l r | .tl r _ _=>q7 l r | .fnc _ ns=>ns.all (q7 l) | .tup _ _=>false|_=>true
def keepB(l:List Nat):Blk->Bool | .cells cs=>cs.all (keepD l)|_=>true
noncomputable def b7e(l ds:List Nat)(fr:List (Nat×D)):List (Nat×D)->List (Nat×D)->List (Nat×D)
 |[],acc=>acc
 |(t,_) :: rest,acc=>match q7 ds t,p5 fr t with
  |false,some d=>match keepD l d with
   |true=>b7e l ds fr rest (a3d acc t d)
   |false=>b7e l ds fr rest acc
  |_,_=>b7e l ds fr rest acc
noncomputable def b7d(l:List Nat)(hp:List (Nat×Blk)):List Nat->List (Nat×Blk)->List (Nat×Blk)
 |[],acc=>acc
 |r :: rest,acc=>match p5 hp r with
  |some b=>match keepB l b with
   |true=>b7d l hp rest (a3d acc r b)
   |false=>b7d l hp rest acc
  |_=>b7d l hp rest acc
noncomputable def St.again(st st':St)(l ds:List Nat):St:={n:=st'.n,fr:=b7e l ds st.fr st.fr (st'.lift (forget l)).fr,hp:=b7d l st.hp l (Z0 l (st'.lift (forget l)).hp)}
noncomputable def b8S(E:Env)(ops:Array Oper)(i:Nat)(st:St)(k:St->Option R):Option R:=
 match ops[i]? with
 |some o=>a3j ops.toList o st (fun st=>opD E o st k) k
 |none=>none
def b1b:Op->Bool | .move _=>true | .assign (.const (.slice none 0 0))=>false | .assign _=>true | .nilCheck _=>true | .pick _ _ _=>true | .binOp _ _ _ _ _=>true | .unOp _ _ _=>true | .index _ _ _=>true | .indexAddr _ _ _=>true | .fieldAddr _ _ _=>true | .field _ _ _=>true | .extract _ _=>true|_=>false
def b26(o:Oper):Bool:=match o.guard with
 |none=>b1b o.op
 |some _=>false
def b86(ops:Array Oper)(listed:Array Bool)(i:Nat):Bool:=(match ops[i]? with|some o=>b26 o|none=>false)&&Region.free .any ops listed i
section
noncomputable def b9u(f:Nat->Option R):List Nat->Option R | []=>none | [i]=>f i|i :: j :: l=>BothC.bo (f i) (b9u f (j :: l))
noncomputable def b04(E:Env)(ops:Array Oper):Nat->Array Bool->St->(St->Option R)->Option R
 |0,listed,st,k=>match Region.ready .any ops listed with
  |[]=>k st
  |_ :: _=>none
 |n+1,listed,st,k=>match Region.ready .any ops listed with
  |[]=>k st
  |i :: rs=>match(i :: rs).find? (b86 ops listed)with
   |some j=>b8S E ops j st fun st=>b04 E ops n (listed.setIfInBounds j true) st k
   |none=>b9u (fun j=>b8S E ops j st fun st=>b04 E ops n (listed.setIfInBounds j true) st k) (i :: rs)
def b3y(o:Oper):Bool:=match o.op with
 |.move _=>true
 |.assign _=>true
 |.extract _ _=>true
 |_=>false
def c9a(ops:Array Oper)(tl:Nat->Bool)(listed:Array Bool):Bool:=
 (List.range ops.size).all fun j=>listed.getD j true||tl j||match ops[j]? with
  |some o=>b3y o
  |none=>true
noncomputable def b8T(E:Env)(ops:Array Oper)(cl:List (Nat×List Nat))(tl l ds:List Nat)(st0:St):Nat->Array Bool->St->(St->Option R)->Option R
 |0,listed,st,k=>match Region.ready .any ops listed with
  |[]=>k (st0.again st l ds)
  |_ :: _=>none
 |n+1,listed,st,k=>match Region.ready .any ops listed with
  |[]=>k (st0.again st l ds)
  |i :: rs=>match(i :: rs).all (q7 tl)||c9a ops (q7 tl) listed with
   |true=>b04 E ops (n+1) listed (st0.again st l ds) k
   |false=>match(i :: rs).find? (fun j=>b86 ops listed j&&b1g cl tl j && !q7 tl j)with
    |some j=>b8S E ops j st fun st=>b8T E ops cl tl l ds st0 n (listed.setIfInBounds j true) st k
    |none=>b9u (fun j=>match q7 tl j with
     |true=>b8S E ops j (st0.again st l ds) fun st=>b04 E ops n (listed.setIfInBounds j true) st k
     |false=>b8S E ops j st fun st=>b8T E ops cl tl l ds st0 n (listed.setIfInBounds j true) st k) (i :: rs)
def a43(E:Env):Op->Bool
 |.load _ _=>true
 |.lookup _ _ _ _=>true
 |.convert _ T _=>(E.el T).isNone
 |.slice _ _ _ _ none=>true
 |.call c=>match c.callee with
  |.builtin .len=>true
  |_=>false
 |p=>b1b p
def b4t(E:Env)(o:Oper):Bool:=match o.guard with
 |none=>a43 E o.op
 |some _=>false
noncomputable def b4p(E:Env)(l:List Nat)(o:Oper)(st:St)(k:St->Option R):Option R:=match b4t E o with
 |true=>J3 E o.op o.type {st with hp:=Z1 l id st.hp} fun d=>st.putK o.dst d k
 |false=>none
noncomputable def b7N(E:Env)(ops:Array Oper)(cl:List (Nat×List Nat))(tl l:List Nat):List Nat->Nat->Array Bool->St->(Nat->Array Bool->St->Option R)->Option R
 |[],n,listed,st,k=>k n listed st
 |i :: rest,n+1,listed,st,k=>match Region.free .any ops listed i&&(Region.ready .any ops listed).contains i&&b1g cl tl i with
  |true=>match ops[i]? with
   |some o=>b4p E l o st fun st=>b7N E ops cl tl l rest n (listed.setIfInBounds i true) st k
   |none=>none
  |false=>none
 |_ :: _,0,_,_,_=>none
def c5t(E:Env)(ops:Array Oper):List Nat:=
 (List.range ops.size).foldl (fun acc i=>match ops[i]? with
  |some o=>match b4t E o&&o.after.all (fun e=>!Region.binds .any e||q7 acc e.on)with
   |true=>acc ++ [i]
   |false=>acc
  |none=>acc) []
noncomputable def b27(ops:Array Oper)(cl:List (Nat×List Nat))(as:List Nat):List Nat:=(List.range ops.size).filter fun j=>!q7 as j&&as.all fun i=>c6S cl i j
def c6T(ops:Array Oper)(listed:Array Bool):List Nat:=(List.range ops.size).filterMap fun i=>match listed.getD i true with
 |true=>none
 |false=>(ops[i]?).bind (·.dst)
noncomputable def c9j(E:Env)(ops:Array Oper)(l:List Nat)(st:St)(k:St->Option R):Option R:=b9B ops (List.range ops.size) [] fun cl=>a01 (c5t E ops) fun as=>a01 (b27 ops cl as) fun tl=>b7N E ops cl tl l as ops.size (Array.replicate ops.size false) st fun n listed st=>a01 (c6T ops listed) fun ds=>b8T E ops cl tl l ds st n listed (st.aside l) k
noncomputable def a3k(ops:Array Oper)(o:Oper)(st:St):Option Bool:=match o.guard with
 |none=>some true
 |some (j,b)=>match ops[j]? with
  |some oj=>match oj.dst with
   |some t=>match st.ev (.tmp t)with
    |.bl true=>some b
    |.bl false=>some (!b)
    |.skip=>some false
    |_=>none
   |none=>none
  |none=>none
noncomputable def c5s(E:Env)(ops:Array Oper)(listed:Array Bool)(st:St):List Nat:=
 (List.range ops.size).foldl (fun acc i=>match listed.getD i true,ops[i]? with
  |false,some o=>match(match a3k ops o st with|some true=>a43 E o.op|some false=>true|none=>false)&&o.after.all (fun e=>!Region.binds .any e||q7 acc e.on||listed.getD e.on false)with
   |true=>acc ++ [i]
   |false=>acc
  |_,_=>acc) []
noncomputable def c5r(cl:List (Nat×List Nat))(tl as:List Nat):List Nat:=tl.filter fun j=>!q7 as j&&as.all fun i=>c6S cl i j
noncomputable def b4r(E:Env)(ops:Array Oper)(l:List Nat)(o:Oper)(st:St)(k:St->Option R):Option R:=match a3k ops o st with
 |some true=>match a43 E o.op with
  |true=>J3 E o.op o.type {st with hp:=Z1 l id st.hp} fun d=>st.putK o.dst d k
  |false=>none
 |some false=>st.putK o.dst .skip k
 |none=>none
noncomputable def c0q(E:Env)(ops:Array Oper)(cl:List (Nat×List Nat))(tl l:List Nat):List Nat->Nat->Array Bool->St->(Nat->Array Bool->St->Option R)->Option R
 |[],n,listed,st,k=>k n listed st
 |i :: rest,n+1,listed,st,k=>match Region.free .any ops listed i&&(Region.ready .any ops listed).contains i&&b1g cl tl i with
  |true=>match ops[i]? with
   |some o=>b4r E ops l o st fun st=>c0q E ops cl tl l rest n (listed.setIfInBounds i true) st k
   |none=>none
  |false=>none
 |_ :: _,0,_,_,_=>none
noncomputable def b7B(ops:Array Oper)(listed:Array Bool)(st:St):List Nat->Option Nat
 |[]=>none
 |i :: r=>match listed.getD i true,ops[i]? with
  |false,some o=>match o.guard with
   |some (j,_)=>match ops[j]? with
    |some oj=>match oj.dst with
     |some t=>match st.ev (.tmp t)with
      |.v .bool _=>some t
      |_=>b7B ops listed st r
     |none=>b7B ops listed st r
    |none=>b7B ops listed st r
   |none=>b7B ops listed st r
  |_,_=>b7B ops listed st r
noncomputable def a8a(E:Env)(ops:Array Oper)(cl:List (Nat×List Nat))(l:List Nat):Nat->List Nat->Nat->Array Bool->St->(St->Option R)->Option R
 |0,_,_,_,_,_=>none
 |f+1,tl0,n,listed,st,k=>a01 (c5s E ops listed st) fun as=>a01 (c5r cl tl0 as) fun tl=>
  c0q E ops cl tl l as n listed st fun n listed st=>match b7B ops listed st (List.range ops.size)with
   |some t=>match st.ev (.tmp t)with
    |.v .bool c=>br c (st.putK (some t) (.bl true) fun st=>a8a E ops cl l f tl n listed st k) (st.putK (some t) (.bl false) fun st=>a8a E ops cl l f tl n listed st k)
    |_=>none
   |none=>match as with
    |[]=>a01 (c6T ops listed) fun ds=>b8T E ops cl tl l ds st n listed (st.aside l) k
    |_ :: _=>a8a E ops cl l f tl n listed st k
noncomputable def b9G(E:Env)(ops:Array Oper)(l:List Nat)(st:St)(k:St->Option R):Option R:=b9B ops (List.range ops.size) [] fun cl=>a8a E ops cl l (ops.size+1) (List.range ops.size) ops.size (Array.replicate ops.size false) st k
noncomputable def c9k(E:Env)(ops:Array Oper)(l as:List Nat)(st:St)(k:St->Option R):Option R:=b9B ops (List.range ops.size) [] fun cl=>a01 (b27 ops cl as) fun tl=>b7N E ops cl tl l as ops.size (Array.replicate ops.size false) st fun n listed st=>a01 (c6T ops listed) fun ds=>b8T E ops cl tl l ds st n listed (st.aside l) k
noncomputable def c5a(E:Env)(ops:Array Oper)(h:Hint)(st:St)(k:St->Option R):Option R:=match h.hf with
 |[]=>c9j E ops h.dm st k
 |[_]=>b9G E ops h.dm st k
 |[_,_]=>b04 E ops ops.size (Array.replicate ops.size false) st k
 |_ :: _ :: _ :: _=>c9k E ops h.dm h.hn st k
end
def c2q:D->Option Bool | .v .bool b=>some b | .bl b=>some b|_=>none
noncomputable def b9V(E:Env)(ops:Array Oper)(draw:Bool)(t:Nat)(st:St)(k:St->Option R):Option R:=
 match ops.toList.all (C8 E)&&(match draw with|true=>Region.lexB .any ops|false=>true)with
 |true=>f5 (@a3s Bool (bothClassic Bool) E ops.toList ops.toList st fun st'=>c2q (st'.ev (.tmp t))) fun b=>
   a01 (ops.toList.filterMap (·.dst)) fun ds=>b2k id (Z0 ds st.fr) fun fr=>(⟨st.n,fr,st.hp⟩:St).putK (some t) (.v .bool b) k
 |false=>none
noncomputable def c9X(E:Env)(id:Nat)(ops:Array Oper)(draw:Bool)(st:St)(k:St->Option R):Option R:=match draw with
 |false=>a3s E ops.toList ops.toList st k
 |true=>match ops.toList.all (C8 E)&&Region.lexB .any ops with
  |true=>a3s E ops.toList ops.toList st k
  |false=>match Region.noSelect ops with
   |true=>c5a E ops (E.hint (100000+id)) st k
   |false=>none
noncomputable def St.knowK(st:St)(x:Operand)(b:Bool)(k:St->Option R):Option R:=match x with
 |.tmp t=>st.putK (some t) (.bl b) k
 |_=>k st
noncomputable def V4(E:Env)(N:Nat)(c:Code):Nat->St->(Ex->St->Option R)->Option R:=
 Code.rec (motive:=fun _=>Nat->St->(Ex->St->Option R)->Option R)
  (fun _ st k=>k .normal st)
  (fun id ops draw _ st k=>match E.jn id with
   |some t=>b9V E ops draw t st (k .normal)
   |none=>c9X E id ops draw st (k .normal))
  (fun _ _ iha ihb i st k=>iha i st fun e st=>match e with
   |.normal=>ihb i st k
   |.exit j=>k (.exit j) st
   |.ret=>k .ret st)
  (fun c _ _ iht ihe i st k=>match st.ev c with
   |.v .bool b=>match E.kn with
    |false=>br b (iht i st k) (ihe i st k)
    |true=>br b (st.knowK c true fun st=>iht i st k) (st.knowK c false fun st=>ihe i st k)
   |.bl true=>iht i st k
   |.bl false=>ihe i st k
   |_=>none)
  (fun id _ ih _ st k=>ih id st fun e st=>match e with
   |.normal=>k .normal st
   |.exit j=>if j=id then k .normal st else k (.exit j) st
   |.ret=>k .ret st)
  (fun _ ih i st k=>st.headK (E.hint i) fun st=>iter (E.hint i) (ih i) N st k)
  (fun _ _ _ _ _ _ _ _ _=>none)
  (fun id _ st k=>k (.exit id) st)
  (fun _ _ _ _ _=>none)
  (fun _ _ _ _=>none)
  (fun _ _ _ _=>none)
  (fun _ st k=>k .ret st)
  (fun _ _ _ _=>none) c
theorem b2p(E:Env)(N id:Nat)(ops:Array Oper)(draw:Bool)(i:Nat)(st:St)(k:Ex->St->Option R):V4 E N (.region id ops draw) i st k=(match E.jn id with
   |some t=>b9V E ops draw t st (k .normal)
   |none=>c9X E id ops draw st (k .normal)):=rfl
theorem b7n(E:Env)(N:Nat)(c:Operand)(x y:Code)(i:Nat)(st:St)(k:Ex->St->Option R):V4 E N (.cond c x y) i st k=(match st.ev c with
   |.v .bool b=>match E.kn with
    |false=>br b (V4 E N x i st k) (V4 E N y i st k)
    |true=>br b (st.knowK c true fun st=>V4 E N x i st k) (st.knowK c false fun st=>V4 E N y i st k)
   |.bl true=>V4 E N x i st k
   |.bl false=>V4 E N y i st k
   |_=>none):=rfl
theorem b7o(E:Env)(N:Nat)(c:Code)(i:Nat)(st:St)(k:Ex->St->Option R):V4 E N (.loop c) i st k=st.headK (E.hint i) fun st=>iter (E.hint i) (V4 E N c i) N st k:=rfl
noncomputable def b4c(E:Env)(st:St):List ResultVar->List D->(List D->Option R)->Option R | [],ds,k=>k ds | .tmp t :: l,ds,k=>a7A (st.ev (.tmp t)) fun d=>b4c E st l (ds ++ [d]) k | .cell x T :: l,ds,k=>b91 E st T (st.ev (.tmp x)) fun d=>a7A d fun d=>b4c E st l (ds ++ [d]) k
def upto:Nat->List Nat|0=>[]|n+1=>upto n ++ [n]
noncomputable def A8(E:Env)(f:Func)(F:AF)(pack:SV F.rs->BV F.cs->F.R)(st:St):Option F.R:=
 b4c E st f.results.toList [] fun ds=>Z7 F.rs ds st fun st=>b6Q st F.rs ds (upto F.bs.length) [] fun x ρ β=>b31 st F.cs 0 ρ β fun y ρ β=>
  match β.any (q7 ρ),Nat.beq ρ.length F.cs.length with
  |false,true=>some (pack x y)
  |_,_=>none
def start(f:Func)(ps:List Sl)(bs:List Sb)(x:SV ps)(y:BV bs):St:={n:=f.ntmps,fr:=prms ps 0 x,hp:=blks bs 0 y}
where
 prms:(l:List Sl)->Nat->SV l->List (Nat×D)
  |[],_,_=>[]
  |.v (.ptr t) :: l,i,x=>(i,.at_ t x.1) :: prms l (i+1) x.2
  |.v .un :: l,i,x=>prms l (i+1) x.2
  |s :: l,i,x=>(i,c9D (fun r=>r) s x.1) :: prms l (i+1) x.2
 blks:(l:List Sb)->Nat->BV l->List (Nat×Blk)
  |[],_,_=>[]
  |s :: l,i,x=>match b9Z (fun r=>r) s x.1 with
   |some b=>(i,b) :: blks l (i+1) x.2
   |none=>blks l (i+1) x.2
noncomputable def b2z(E:Env)(N:Nat)(f:Func)(F:AF)(I:BothC F.R)(pack:SV F.rs->BV F.cs->F.R)(x:SV F.ps)(y:BV F.bs):Option F.R:=
 match f.body,Nat.ble F.ps.length f.ntmps,Nat.ble F.bs.length 1000 with
 |some c,true,true=>b2k id (start f F.ps F.bs x y).fr fun fr=>b0I id (start f F.ps F.bs x y).hp fun hp=>@V4 F.R I E N c 0 ⟨f.ntmps,fr,hp⟩ fun e st=>match e with
  |.exit _=>none
  |.normal=>A8 E f F pack st
  |.ret=>A8 E f F pack st
 |_,_,_=>none
noncomputable def e4O(E:Env)(N:Nat)(f:Func)(F:AF)(pack:SV F.rs->BV F.cs->F.R)(x:SV F.ps)(y:BV F.bs):Option F.R:=b2z E N f F (bothClassic F.R) pack x y
end
end Go.Proofs.YtolpmfhiegpohaaGreatDoor
