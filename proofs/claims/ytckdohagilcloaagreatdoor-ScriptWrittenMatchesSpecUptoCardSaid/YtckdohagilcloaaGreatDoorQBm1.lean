/- % -/
import GoSem.Dispatch
import Derived.Calls
import Derived.Still
namespace Go.Proofs.YtckdohagilcloaaGreatDoor
set_option linter.unusedVariables false
set_option linter.unusedSimpArgs false
set_option linter.unusedSectionVars false
open Go
inductive GValue where
 |mk (kind:Int) (text:List UInt8) (number:Int) (list:List (List UInt8)) (cases:List (List UInt8×GValue))
inductive GExpr where
 |mk (kind:Int) (text:List UInt8) (number:Int) (keys:List (List UInt8)) (kids:List GExpr)
inductive GStmt where
 |mk (kind:Int) (name text:List UInt8) (params:List (List UInt8)) (args:List (List UInt8×GExpr)) (expr:GExpr) (body els:List GStmt) (at_:Int)
inductive GPart where
 |mk (kind:Int) (text:List UInt8) (number:Int) (keys:List (List UInt8)) (at_:Int) (kids:List GPart)
inductive RC where
 |value|expr|stmt|part
 deriving DecidableEq
inductive Ty where
 |u8|int (k:IntKind)|bool|str|sl (t:Ty)|pr (a b:Ty)|un|mp (e:Ty)|ptr (t:Ty)|np (t:Ty)|clo (f:Nat) (t:Ty)|rc (i:RC)|nl
 deriving DecidableEq
@[reducible] def RC.den:RC->Type | .value=>GValue | .expr=>GExpr | .stmt=>GStmt | .part=>GPart
@[reducible] def Ty.den:Ty->Type | .u8=>UInt8 | .int _=>Int | .bool=>Bool | .str=>List UInt8 | .sl t=>List t.den | .pr a b=>a.den×b.den | .un=>Unit | .mp e=>List (List UInt8×e.den) | .ptr t=>t.den | .np t=>Option t.den | .clo _ t=>t.den | .rc i=>i.den | .nl=>Unit
abbrev Ty.i64:Ty:= .int .i64
def RC.body:RC->Ty | .value=> .pr .i64 (.pr .str (.pr .i64 (.pr (.sl .str) (.sl (.pr .str (.rc .value)))))) | .expr=> .pr .i64 (.pr .str (.pr .i64 (.pr (.sl .str) (.sl (.rc .expr))))) | .stmt=> .pr .i64 (.pr .str (.pr .str (.pr (.sl .str) (.pr (.sl (.pr .str (.rc .expr))) (.pr (.rc .expr) (.pr (.sl (.rc .stmt)) (.pr (.sl (.rc .stmt)) .i64))))))) | .part=> .pr (.pr .i64 (.pr .str (.pr .i64 (.pr (.sl .str) .nl)))) (.pr .i64 (.sl (.rc .part)))
namespace GValue
def kind:GValue->Int | .mk a _ _ _ _=>a
def text:GValue->List UInt8 | .mk _ a _ _ _=>a
def number:GValue->Int | .mk _ _ a _ _=>a
def list:GValue->List (List UInt8) | .mk _ _ _ a _=>a
def cases:GValue->List (List UInt8×GValue) | .mk _ _ _ _ a=>a
end GValue
namespace GExpr
def kind:GExpr->Int | .mk a _ _ _ _=>a
def text:GExpr->List UInt8 | .mk _ a _ _ _=>a
def number:GExpr->Int | .mk _ _ a _ _=>a
def keys:GExpr->List (List UInt8) | .mk _ _ _ a _=>a
def kids:GExpr->List GExpr | .mk _ _ _ _ a=>a
end GExpr
abbrev Ze(g:GExpr):GExpr:=GExpr.mk g.kind g.text g.number g.keys g.kids
namespace GStmt
def kind:GStmt->Int | .mk a _ _ _ _ _ _ _ _=>a
def name:GStmt->List UInt8 | .mk _ a _ _ _ _ _ _ _=>a
def text:GStmt->List UInt8 | .mk _ _ a _ _ _ _ _ _=>a
def params:GStmt->List (List UInt8) | .mk _ _ _ a _ _ _ _ _=>a
def args:GStmt->List (List UInt8×GExpr) | .mk _ _ _ _ a _ _ _ _=>a
def expr:GStmt->GExpr | .mk _ _ _ _ _ a _ _ _=>a
def body:GStmt->List GStmt | .mk _ _ _ _ _ _ a _ _=>a
def els:GStmt->List GStmt | .mk _ _ _ _ _ _ _ a _=>a
def at_:GStmt->Int | .mk _ _ _ _ _ _ _ _ a=>a
end GStmt
namespace GPart
def kind:GPart->Int | .mk a _ _ _ _ _=>a
def text:GPart->List UInt8 | .mk _ a _ _ _ _=>a
def number:GPart->Int | .mk _ _ a _ _ _=>a
def keys:GPart->List (List UInt8) | .mk _ _ _ a _ _=>a
def at_:GPart->Int | .mk _ _ _ _ a _=>a
def kids:GPart->List GPart | .mk _ _ _ _ _ a=>a
end GPart
abbrev Zo:GPart:=GPart.mk 0 [] 0 [] 0 []
def RC.un:(i:RC)->i.den->i.body.den | .value,x=>(x.kind,x.text,x.number,x.list,x.cases) | .expr,x=>(x.kind,x.text,x.number,x.keys,x.kids) | .stmt,x=>(x.kind,x.name,x.text,x.params,x.args,x.expr,x.body,x.els,x.at_) | .part,x=>((x.kind,x.text,x.number,x.keys,()),x.at_,x.kids)
def RC.mk:(i:RC)->i.body.den->i.den | .value,x=> .mk x.1 x.2.1 x.2.2.1 x.2.2.2.1 x.2.2.2.2 | .expr,x=> .mk x.1 x.2.1 x.2.2.1 x.2.2.2.1 x.2.2.2.2 | .stmt,x=> .mk x.1 x.2.1 x.2.2.1 x.2.2.2.1 x.2.2.2.2.1 x.2.2.2.2.2.1 x.2.2.2.2.2.2.1 x.2.2.2.2.2.2.2.1 x.2.2.2.2.2.2.2.2 | .part,x=> .mk x.1.1 x.1.2.1 x.1.2.2.1 x.1.2.2.2.1 x.2.1 x.2.2
theorem RC.un_mk(i:RC)(x:i.body.den):i.un (i.mk x)=x:=by cases i<;>rfl
def RC.sz:RC->Nat | .value=>5 | .expr=>5 | .stmt=>13 | .part=>7
def Ty.sz:Ty->Nat | .pr a b=>a.sz+b.sz | .un=>0 | .rc i=>i.sz|_=>1
abbrev Zf(n:Nat)(t:Ty):Bool:=decide (n*(24*t.sz)<=140737488355328)
theorem RC.sz_body(i:RC):i.body.sz=i.sz:=by cases i<;>rfl
def Ty.isAgg:Ty->Bool | .pr _ _=>true | .un=>true | .rc _=>true|_=>false
inductive D where
 |dead
 |skip
 |bl (b:Bool)
 |v (ty:Ty) (x:ty.den)
 |nilS
 |nilP
 |row (r:Nat)
 |elp (r sz:Nat) (i:Int) (off:Nat)
 |tl (r sz:Nat) (i:Int)
 |box (r off:Nat)
 |at_ (ty:Ty) (x:ty.den)
 |tup (b:Bool) (l:List D)
 |mref (r:Nat)
 |fnc (f:FuncId) (l:List Nat)
inductive Blk where
 |cells (l:List D)
 |map (e:Ty) (m:List (List UInt8×e.den))
 |row (e:TypeId) (t:Ty) (ex:Bool) (xs:List t.den)
 |iter (e:Ty) (l:List (List UInt8×e.den)) (c:Option (List UInt8×e.den))
 |bld (T:TypeId) (l:List D)
structure St where
 n:Nat
 fr:List (Nat×D)
 hp:List (Nat×Blk)
def br{R:Type}(c:Bool)(x y:Option R):Option R:=match c with|true=>x|false=>y
noncomputable def q7{R:Type}(a b:Option R):Option R:=@ite _ (a=b) (Classical.propDecidable _) a none
def k8{α R:Type}(a:Option α)(f:α->Option R):Option R:=match a with|some x=>f x|none=>none
section
@[simp] theorem d9{R:Type}(x y:Option R):br true x y=x:=rfl
@[simp] theorem g9{R:Type}(x y:Option R):br false x y=y:=rfl
noncomputable def o3{R:Type}(n:Nat)(a:Option R):Option R:=Nat.rec (motive:=fun _=>Option R) a (fun _ b=>q7 a b) n
@[simp] theorem K7{R:Type}(a:Option R):q7 a a=a:=by unfold q7;exact if_pos rfl
@[simp] theorem N7{R:Type}:∀(n:Nat) (a:Option R),o3 n a=a
 |0,_=>rfl
 |n+1,a=>by
  show q7 a (o3 n a)=a;rw[N7 n a];exact K7 a
theorem a7l{R:Type}{a b:Option R}{r:R}(h:q7 a b=some r):a=some r/\b=some r:=by
 unfold q7 at h;split at h
 ·rename_i e;exact⟨h,e▸h⟩
 ·cases h
@[simp] theorem c8{α R:Type}(a:α)(f:α->Option R):k8 (some a) f=f a:=rfl
@[simp] theorem e99{α R:Type}(f:α->Option R):k8 none f=none:=rfl
theorem b6f{R:Type}(c:Bool)(x y:Option R):br c x y=if c=true then x else y:=by cases c<;>rfl
theorem F9{α R:Type}{a:Option α}{f:α->Option R}{r:R}(h:k8 a f=some r):∃x,a=some x/\f x=some r:=by
 cases a with
 |none=>cases h
 |some x=>exact⟨x,rfl,h⟩
end
noncomputable def b8D{α R:Type}(l:List α)(f:α->List α->Option R):Option R:=@dite _ (∃r,l ≠ []/\∀i (h:i<l.length),f l[i] (l.eraseIdx i)=some r) (Classical.propDecidable _) (fun h=>some h.choose) (fun _=>none)
theorem b6a{α R:Type}{l:List α}{f:α->List α->Option R}{r:R}(h:b8D l f=some r):∀i (hi:i<l.length),f l[i] (l.eraseIdx i)=some r:=by
 unfold b8D at h;split at h
 ·rename_i hx;injection h with h
  rw[<-h];exact hx.choose_spec.2
 ·cases h
theorem c6h{α R:Type}{l:List α}{f:α->List α->Option R}{r:R}(hl:l ≠ [])(h:∀i (hi:i<l.length),f l[i] (l.eraseIdx i)=some r):b8D l f=some r:=by
 unfold b8D;have hx:∃r,l ≠ []/\∀i (h:i<l.length),f l[i] (l.eraseIdx i)=some r:=⟨r,hl,h⟩;rw[dif_pos hx];have h0:0<l.length:=List.length_pos_iff.2 hl;have:=hx.choose_spec.2 0 h0;rw[h 0 h0]at this;exact this.symm
class BothC(R:Type) where
 bo:Option R->Option R->Option R
 law:∀{a b:Option R} {r:R},bo a b=some r->a=some r/\b=some r
 al:{α:Type}->List α->(α->List α->Option R)->Option R
 allaw:∀{α:Type} {l:List α} {f:α->List α->Option R} {r:R},al l f=some r->∀i (hi:i<l.length),f l[i] (l.eraseIdx i)=some r
 pa:Int->List Nat->St->Option R
noncomputable instance bothClassic(R:Type):BothC R:=⟨q7,a7l,b8D,b6a,fun _ _ _=>none⟩
@[reducible] noncomputable instance(priority:=high) bothPan (R:Type):BothC (Except Int R):=⟨q7,a7l,b8D,b6a,fun c _ _=>some (.error c)⟩
def d3e{α R:Type}(pa:Int->Option R)(a:Option (Except Int α))(f:α->Option R):Option R:=match a with
 |some (.ok x)=>f x
 |some (.error c)=>pa c
 |none=>none
def e0A{α R:Type}(a:Option (Except Int α))(f:α->Option (Except Int R)):Option (Except Int R):=d3e (fun c=>some (.error c)) a f
theorem b8H{α R:Type}{pa:Int->Option R}{a:Option (Except Int α)}{f:α->Option R}{r:R}(h:d3e pa a f=some r):(∃x,a=some (.ok x)/\f x=some r)\/∃c,a=some (.error c)/\pa c=some r:=by
 match a,h with
 |some (.ok x),h=>exact .inl ⟨x,rfl,h⟩
 |some (.error c),h=>exact .inr ⟨c,rfl,h⟩
@[simp] theorem f5h{α R:Type}(x:α)(f:α->Option (Except Int R)):e0A (some (.ok x)) f=f x:=rfl
@[simp] theorem e5H{α R:Type}(c:Int)(f:α->Option (Except Int R)):e0A (some (.error c)) f=some (.error c):=rfl
@[simp] theorem e9M{α R:Type}(f:α->Option (Except Int R)):e0A none f=none:=rfl
attribute [irreducible] br k8 d3e e0A b8D
def n8{α:Type}(xs:List α)(i:Int):Option α:=if 0<=i then xs[i.toNat]? else none
def slc{α:Type}(xs:List α)(lo hi:Int):Option (List α):=if 0<=lo/\lo<=hi/\hi<=xs.length then some ((xs.take hi.toNat).drop lo.toNat)else none
def a0X{α:Type}(m:List (List UInt8×α))(k:List UInt8):Option α:=match m with
 |[]=>none
 |(j,x) :: m=>if k==j then some x else a0X m k
def a1V{α:Type}(m:List (List UInt8×α))(k:List UInt8)(x:α):List (List UInt8×α):=match m with
 |[]=>[(k,x)]
 |(j,y) :: m=>if k==j then(k,x) :: m else(j,y) :: a1V m k x
def a3F{α:Type}(xs:List α)(i:Int)(x:α):List α:=xs.set i.toNat x
def mk0{α:Type}(n:Int)(x:α):List α:=List.replicate n.toNat x
def clr{α:Type}(xs:List α)(i:Int)(z:α):List α:=xs.take i.toNat++List.replicate (xs.length-i.toNat) z
def cut{α:Type}(xs:List α)(n:Int):List α:=xs.take n.toNat
theorem c4u{i j:Nat}(h:i≠j):Nat.beq i j=false:=by
 cases hb:Nat.beq i j with
 |false=>rfl
 |true=>exact absurd (Nat.eq_of_beq_eq_true hb) h
section assoc
variable{α:Type}
noncomputable def v6(l:List (Nat×α))(i:Nat):Option α:=List.rec (motive:=fun _=>Option α) none (fun p _ ih=>match Nat.beq p.1 i with|true=>some p.2|false=>ih) l
theorem a6z(i:Nat):v6 ([]:List (Nat×α)) i=none:=rfl
theorem v7(p:Nat×α)(l:List (Nat×α))(i:Nat):v6 (p :: l) i=(match Nat.beq p.1 i with|true=>some p.2|false=>v6 l i):=rfl
def a4S:List (Nat×α)->Nat->α->List (Nat×α)
 |[],i,d=>[(i,d)]
 |(j,x) :: l,i,d=>match Nat.beq j i with
  |true=>(i,d) :: l
  |false=>match Nat.blt i j with
   |true=>(i,d) :: (j,x) :: l
   |false=>(j,x) :: a4S l i d
def b5M(l:List (Nat×α))(i:Nat):List (Nat×α):=match l with
 |[]=>[]
 |(j,x) :: l=>match Nat.beq j i with
  |true=>b5M l i
  |false=>(j,x) :: b5M l i
def a4u(f:α->α)(l:List (Nat×α)):List (Nat×α):=l.map fun p=>(p.1,f p.2)
def w9(l:List Nat)(i:Nat):Bool:=match l with
 |[]=>false
 |j :: l=>match Nat.beq j i with|true=>true|false=>w9 l i
def a1l(ks:List Nat)(f:α->α):List (Nat×α)->List (Nat×α)
 |[]=>[]
 |(j,x) :: l=>match w9 ks j with
  |true=>(j,f x) :: a1l ks f l
  |false=>a1l ks f l
theorem R3(l:List (Nat×α))(i:Nat)(d:α):v6 (a4S l i d) i=some d:=by
 induction l with
 |nil=>simp[a4S,v7]
 |cons p l ih=>
  obtain⟨j,x⟩:=p;unfold a4S;split
  ·simp[v7]
  ·rename_i h;split
   ·simp[v7]
   ·rw[v7,h];exact ih
theorem H9(l:List (Nat×α)){i k:Nat}(d:α)(hk:k≠i):v6 (a4S l i d) k=v6 l k:=by
 have hb:Nat.beq i k=false:=c4u (Ne.symm hk);induction l with
 |nil=>simp[a4S,v7,a6z,hb]
 |cons p l ih=>
  obtain⟨j,x⟩:=p;unfold a4S;split
  ·rename_i h;have:j=i:=Nat.eq_of_beq_eq_true h;subst this;simp[v7,hb]
  ·split
   ·simp[v7,hb]
   ·simp only[v7];rw[ih]
theorem a6y(l:List (Nat×α))(i:Nat):v6 (b5M l i) i=none:=by
 induction l with
 |nil=>rfl
 |cons p l ih=>
  obtain⟨j,x⟩:=p;unfold b5M;split
  ·exact ih
  ·rename_i h;rw[v7,h];exact ih
theorem a52(l:List (Nat×α)){i k:Nat}(hk:k≠i):v6 (b5M l i) k=v6 l k:=by
 induction l with
 |nil=>rfl
 |cons p l ih=>
  obtain⟨j,x⟩:=p;unfold b5M;split
  ·rename_i h;have:j=i:=Nat.eq_of_beq_eq_true h;subst this;rw[ih,v7,c4u (Ne.symm hk)]
  ·simp only[v7];rw[ih]
theorem b59(f:α->α)(l:List (Nat×α))(i:Nat):v6 (a4u f l) i=(v6 l i).map f:=by
 induction l with
 |nil=>rfl
 |cons p l ih=>
  obtain⟨j,x⟩:=p;show(match Nat.beq j i with|true=>some (f x)|false=>v6 (a4u f l) i)=Option.map f (match Nat.beq j i with|true=>some x|false=>v6 l i);split
  ·rfl
  ·exact ih
theorem a1b(ks:List Nat)(f:α->α)(l:List (Nat×α))(i:Nat)(y:α)(h:v6 (a1l ks f l) i=some y):∃x,v6 l i=some x/\y=f x:=by
 induction l with
 |nil=>cases h
 |cons p l ih=>
  obtain⟨j,x⟩:=p;unfold a1l at h;rw[v7];cases hb:Nat.beq j i with
  |true=>
   refine⟨x,rfl,?_⟩;have:j=i:=Nat.eq_of_beq_eq_true hb;subst this;split at h
   ·rw[v7,hb]at h;cases h;rfl
   ·rename_i hm;exact absurd (ih h) (fun _=>by
     have hno:∀l:List (Nat×α),v6 (a1l ks f l) j=none:=by
      intro l;induction l with
      |nil=>rfl
      |cons q l ih2=>
       obtain⟨k,z⟩:=q;unfold a1l;split
       ·rename_i hk;rw[v7];have:Nat.beq k j=false:=by
         cases hkj:Nat.beq k j with
         |false=>rfl
         |true=>have:=Nat.eq_of_beq_eq_true hkj;subst this;rw[hk]at hm;cases hm
        rw[this];exact ih2
       ·exact ih2
     rw[hno l]at h;cases h)
  |false=>
   split at h
   ·rw[v7,hb]at h;exact ih h
   ·exact ih h
end assoc
def RC.zero:(i:RC)->i.den | .value=> .mk 0 [] 0 [] [] | .expr=> .mk 0 [] 0 [] [] | .stmt=> .mk 0 [] [] [] [] (.mk 0 [] 0 [] []) [] [] 0 | .part=> .mk 0 [] 0 [] 0 []
def zero:(t:Ty)->t.den | .u8=>0 | .int _=>(0:Int) | .bool=>false | .str=>[] | .sl _=>[] | .pr a b=>(zero a,zero b) | .un=>() | .mp _=>[] | .ptr t=>zero t | .np _=>none | .clo _ t=>zero t | .rc i=>i.zero | .nl=>()
noncomputable def St.dat(st:St)(t:Ty):D->Option t.den
 |.v t' x=>if h:t'=t then some (h▸x)else none
 |.row r=>match v6 st.hp r with
  |some (.row _ t' false xs)=>if h:Ty.sl t'=t then some (h▸xs)else none
  |_=>none
 |.nilS=>match t with
  |.sl _=>some []
  |.nl=>some ()
  |_=>none
 |.nilP=>match t with
  |.np _=>some none
  |_=>none
 |.bl b=>match t with
  |.bool=>some b
  |_=>none
 |.at_ t' x=>if h:Ty.ptr t'=t then some (h▸x)else if h:Ty.np t'=t then some (h▸(some x:Option t'.den))else none
 |_=>none
def nob:D->D | .bl b=> .v .bool b|d=>d
def b3d(f:(i:RC)->i.den->List D):(t:Ty)->t.den->List D | .pr a b,x=>b3d f a x.1++b3d f b x.2 | .un,_=>[] | .rc i,x=>f i x | .u8,x=>[.v .u8 x] | .int k,x=>[.v (.int k) x] | .bool,x=>[.v .bool x] | .str,x=>[.v .str x] | .sl t,x=>[.v (.sl t) x] | .mp t,x=>[.v (.mp t) x] | .ptr t,x=>[.v (.ptr t) x] | .np t,x=>[.v (.np t) x] | .nl,x=>[.v .nl x] | .clo f t,x=>[.v (.clo f t) x]
def d3C:Nat->(t:Ty)->t.den->List D|0=>b3d fun _ _=>[]|n+1=>b3d fun i x=>d3C n i.body (i.un x)
def flat:(t:Ty)->t.den->List D:=d3C 2
noncomputable def a1a(st:St)(t:Ty):List D->Option (t.den×List D)
 |d :: l=>match st.dat t d with
  |some x=>some (x,l)
  |none=>none
 |[]=>none
noncomputable def a5w(st:St)(f:(i:RC)->List D->Option (i.den×List D)):(t:Ty)->List D->Option (t.den×List D)
 |.pr a b,l=>match a5w st f a l with
  |some (x,l)=>match a5w st f b l with
   |some (y,l)=>some ((x,y),l)
   |none=>none
  |none=>none
 |.un,l=>some ((),l)
 |.rc i,l=>f i l
 |.u8,l=>a1a st .u8 l
 |.int k,l=>a1a st (.int k) l
 |.bool,l=>a1a st .bool l
 |.str,l=>a1a st .str l
 |.sl t,l=>a1a st (.sl t) l
 |.mp t,l=>a1a st (.mp t) l
 |.ptr t,l=>a1a st (.ptr t) l
 |.np t,l=>a1a st (.np t) l
 |.nl,l=>a1a st .nl l
 |.clo f t,l=>a1a st (.clo f t) l
noncomputable def b9B(st:St):Nat->(t:Ty)->List D->Option (t.den×List D)
 |0=>a5w st fun _ _=>none
 |n+1=>a5w st fun i l=>match b9B st n i.body l with
  |some (x,l)=>some (i.mk x,l)
  |none=>none
noncomputable def b0F(st:St):(t:Ty)->List D->Option (t.den×List D):=b9B st 2
noncomputable def St.lent(st:St)(t:Ty):D->Option t.den
 |.mref r=>match v6 st.hp r with
  |some (.map e m)=>if h:Ty.mp e=t then some (h▸m)else none
  |_=>none
 |.row r=>match v6 st.hp r with
  |some (.row _ t' true xs)=>if h:Ty.sl t'=t then some (h▸xs)else none
  |_=>none
 |.box r off=>match t with
  |.ptr t'=>match v6 st.hp r with
   |some (.cells cs)=>match b0F st t' (cs.drop off)with
    |some (x,_)=>some x
    |none=>none
   |_=>none
  |_=>none
 |_=>none
noncomputable def St.as(st:St)(t:Ty)(d:D):Option t.den:=match st.dat t d with
 |some x=>some x
 |none=>st.lent t d
noncomputable def St.dta(st:St)(t:Ty)(d:D):Option t.den:=match t.isAgg,d with
 |true,.tup true l=>match b0F st t l with
  |some (x,[])=>some x
  |_=>none
 |_,d=>st.dat t d
def a1m(f:RC->Option (List D)):Ty->Option (List D)
 |.pr a b=>match a1m f a,a1m f b with
  |some x,some y=>some (x++y)
  |_,_=>none
 |.un=>some []
 |.u8=>some [.v .u8 0]
 |.int k=>some [.v (.int k) (0:Int)]
 |.bool=>some [.v .bool false]
 |.str=>some [.v .str []]
 |.sl _=>some [.nilS]
 |.mp _=>none
 |.ptr _=>none
 |.np _=>some [.nilP]
 |.nl=>some [.nilS]
 |.clo _ _=>none
 |.rc i=>f i
def a4z:Nat->Ty->Option (List D)|0=>a1m fun _=>none|n+1=>a1m fun i=>a4z n i.body
def a9q:Ty->Option (List D):=a4z 2
def a3u(f:RC->Option (List D)):Ty->Option (List D)
 |.pr a b=>match a3u f a,a3u f b with
  |some x,some y=>some (x++y)
  |_,_=>none
 |.un=>some []
 |.u8=>some [.v .u8 0]
 |.int k=>some [.v (.int k) (0:Int)]
 |.bool=>some [.v .bool false]
 |.str=>some [.v .str []]
 |.sl _=>some [.nilS]
 |.mp _=>some [.dead]
 |.ptr _=>some [.dead]
 |.np _=>some [.nilP]
 |.nl=>some [.nilS]
 |.clo _ _=>some [.dead]
 |.rc i=>f i
def b0j:Ty->Option (List D):=a3u fun i=>a4z 1 i.body
def c5f(f:(i:RC)->i.den->Nat->(t':Ty)->Option t'.den):(t:Ty)->t.den->Nat->(t':Ty)->Option t'.den
 |.pr a b,x,off,t'=>
  if h:off=0/\Ty.pr a b=t' then some (h.2▸x)
  else match Nat.blt off a.sz with
   |true=>c5f f a x.1 off t'
   |false=>c5f f b x.2 (off-a.sz) t'
 |.rc i,x,off,t'=>if h:off=0/\Ty.rc i=t' then some (h.2▸x)else f i x off t'
 |t,x,off,t'=>if h:off=0/\t=t' then some (h.2▸x)else none
def e6p:Nat->(t:Ty)->t.den->Nat->(t':Ty)->Option t'.den|0=>c5f fun _ _ _ _=>none|n+1=>c5f fun i x off t'=>e6p n i.body (i.un x) off t'
def sub:(t:Ty)->t.den->Nat->(t':Ty)->Option t'.den:=e6p 2
def c5k(f:(i:RC)->i.den->Nat->(t':Ty)->t'.den->Option i.den):(t:Ty)->t.den->Nat->(t':Ty)->t'.den->Option t.den
 |.pr a b,x,off,t',y=>
  if h:off=0/\t'=Ty.pr a b then some (h.2▸y)
  else match Nat.blt off a.sz with
   |true=>match c5k f a x.1 off t' y with
    |some z=>some (z,x.2)
    |none=>none
   |false=>match c5k f b x.2 (off-a.sz) t' y with
    |some z=>some (x.1,z)
    |none=>none
 |.rc i,x,off,t',y=>if h:off=0/\t'=Ty.rc i then some (h.2▸y)else f i x off t' y
 |t,_,off,t',y=>if h:off=0/\t'=t then some (h.2▸y)else none
def e6v:Nat->(t:Ty)->t.den->Nat->(t':Ty)->t'.den->Option t.den
 |0=>c5k fun _ _ _ _ _=>none
 |n+1=>c5k fun i x off t' y=>match e6v n i.body (i.un x) off t' y with
  |some z=>some (i.mk z)
  |none=>none
def upd:(t:Ty)->t.den->Nat->(t':Ty)->t'.den->Option t.den:=e6v 2
inductive Sl where
 |dead|skip|nilS|nilP
 |v (t:Ty)
 |row (r:Nat)
 |box (r off:Nat)
 |at_ (t:Ty)
 |mref (r:Nat)
 |fnc (f:FuncId) (l:List Nat)
@[reducible] def Sl.den:Sl->Type | .v t=>t.den | .at_ t=>t.den|_=>Unit
@[reducible] def SV:List Sl->Type | []=>Unit|s :: l=>s.den×SV l
inductive Sb where
 |none
 |cells (l:List Sl)
 |map (e:Ty)
 |row (e:TypeId) (t:Ty) (ex:Bool)
 |iter (e:Ty)
 |bld (T:TypeId) (l:List Sl)
@[reducible] def Sb.den:Sb->Type | .none=>Unit | .cells l=>SV l | .map e=>List (List UInt8×e.den) | .row _ t _=>List t.den | .iter e=>List (List UInt8×e.den) | .bld _ l=>SV l
@[reducible] def BV:List Sb->Type | []=>Unit|s :: l=>s.den×BV l
structure AF where
 ps:List Sl
 bs:List Sb
 rs:List Sl
 cs:List Sb
 R:Type
 out:R->SV rs×BV cs
 f:SV ps->BV bs->Option R
structure Hint where
 dm:List Nat
 hf:List Nat
 hn:List Nat
 xf:List Nat
 xn:List Nat
 nl:List (Nat×Nat×Nat×TypeId×Ty)
structure PF where
 ps:List Sl
 bs:List Sb
 rs:List Sl
 cs:List Sb
 R:Type
 out:R->SV rs×BV cs
 f:SV ps->BV bs->Option (Except Int R)
@[reducible] def PF.af(p:PF):AF:={ps:=p.ps,bs:=p.bs,rs:=p.rs,cs:=p.cs,R:=p.R,out:=p.out,f:=fun x y=>match p.f x y with|some (.ok z)=>some z|_=>none}
structure Env where
 ty:TypeId->Option Ty
 el:TypeId->Option (TypeId×Ty)
 fld:TypeId->Nat->Option (Nat×Ty)
 cmp:TypeId->Option Ty
 fn:FuncId->Option Tmp->Option AF
 hint:Nat->Hint
 exq:Nat->Bool
 live:FuncId->Bool
 dyn:St->FuncId->Option Tmp->List D->Option (AF×List Nat):=fun _ _ _ _=>none
 pf:FuncId->Option Tmp->Option PF:=fun _ _=>none
 bad:TypeId:=0
 jn:Nat->Option Nat:=fun _=>none
 kn:Bool:=false
 raw:Bool:=false
def Env.jk(E:Env)(j:Nat->Option Nat):Env:={E with jn:=j,kn:=true}
def eqb:(t:Ty)->t.den->t.den->Bool | .u8,x,y=>x==y | .int _,x,y=>x==y | .bool,x,y=>x==y | .str,x,y=>x==y | .pr a b,x,y=>eqb a x.1 y.1&&eqb b x.2 y.2 | .un,_,_=>true|_,_,_=>false
def a1E:Ty->Bool | .mp _=>true | .ptr t=>a1E t | .np t=>a1E t | .clo _ t=>a1E t | .sl t=>a1E t | .pr a b=>a1E a||a1E b|_=>false
def Sl.noMap:Sl->Bool | .v t=>!a1E t | .at_ t=>!a1E t|_=>true
def Sb.noMap:Sb->Bool | .none=>true | .cells l=>l.all Sl.noMap | .map e=>!a1E e | .row _ t _=>!a1E t | .iter _=>false | .bld _ _=>false
def b3e:Ty->Bool | .u8=>true | .int _=>true | .bool=>true | .str=>true|_=>false
def Sl.flat:Sl->Bool | .v t=>b3e t|_=>false
def Sl.calm:Sl->Bool | .v t=>b3e t | .at_ _=>false|_=>true
def Sb.calm:Sb->Bool | .none=>true | .cells l=>l.all Sl.calm | .map e=>b3e e | .row _ t _=>b3e t | .iter _=>false | .bld _ _=>false
def a6D:Value->D | .bool b=> .bl b | .int .u8 n=>if 0<=n/\n<256 then .v .u8 (UInt8.ofNat n.toNat)else .dead | .int .i8 n=> .v (.int .i8) n | .int .i16 n=> .v (.int .i16) n | .int .i32 n=> .v (.int .i32) n | .int .i64 n=> .v (.int .i64) n | .int .u16 n=> .v (.int .u16) n | .int .u32 n=> .v (.int .u32) n | .int .u64 n=> .v (.int .u64) n | .string s=> .v .str s.data.toList | .slice none 0 0=> .nilS|_=> .dead
noncomputable def St.ev(st:St):Operand->D
 |.tmp t=>match v6 st.fr t with
  |some d=>d
  |none=> .dead
 |.const (.pointer none)=> .nilP
 |.const v=>a6D v
 |.func f=> .v (.clo f .un) ()
 |_=> .dead
def St.put(st:St)(dst:Option Tmp)(d:D):St:=
 match dst with
 |some t=>match Nat.blt t st.n with
  |true=>{st with fr:=a4S st.fr t d}
  |false=>st
 |none=>st
def forget(l:List Nat):D->D
 |.box r o=>match w9 l r with|true=> .dead|false=> .box r o
 |.mref r=>match w9 l r with|true=> .dead|false=> .mref r
 |.row r=>match w9 l r with|true=> .dead|false=> .row r
 |.elp r z i o=>match w9 l r with|true=> .dead|false=> .elp r z i o
 |.tl r z i=>match w9 l r with|true=> .dead|false=> .tl r z i
 |.fnc f ns=>match ns.any (w9 l)with|true=> .dead|false=> .fnc f ns
 |d=>d
def snap(r:Nat)(t:Ty)(xs:List t.den):D->D
 |.row r'=>match Nat.beq r' r with|true=> .v (.sl t) xs|false=> .row r'
 |.elp r' z i o=>match Nat.beq r' r with|true=> .dead|false=> .elp r' z i o
 |.tl r' z i=>match Nat.beq r' r with|true=> .dead|false=> .tl r' z i
 |d=>d
def freezeM(r:Nat)(e:Ty)(m:List (List UInt8×e.den)):D->D
 |.mref r'=>match Nat.beq r' r with|true=> .v (.mp e) m|false=> .mref r'
 |d=>forget [r] d
def freeze(r:Nat)(t:Ty)(x:t.den):D->D
 |.box r' o=>match Nat.beq r' r with|true=>(match o with|0=> .at_ t x|_=> .dead)|false=> .box r' o
 |.fnc f ns=>match w9 ns r with|true=> .dead|false=> .fnc f ns
 |d=>d
def a3Z(f:D->D):D->D | .tup b l=> .tup b (l.map f)|d=>f d
def Blk.lift(f:D->D):Blk->Blk | .cells l=> .cells (l.map f) | .bld T l=> .bld T (l.map f)|b=>b
def St.lift(st:St)(f:D->D):St:={n:=st.n,fr:=a4u (a3Z f) st.fr,hp:=a4u (Blk.lift f) st.hp}
def St.setB(st:St)(r:Nat)(b:Blk):St:={st with hp:=a4S st.hp r b}
def St.delB(st:St)(r:Nat):St:={st with hp:=b5M st.hp r}
section
variable{R:Type}
def a8r(d:D)(k:D->Option R):Option R:=
 match d with
 |.dead=>k .dead
 |.skip=>k .skip
 |.bl b=>k (.bl b)
 |.v t x=>k (.v t x)
 |.nilS=>k .nilS
 |.nilP=>k .nilP
 |.row r=>k (.row r)
 |.elp r z i o=>k (.elp r z i o)
 |.tl r z i=>k (.tl r z i)
 |.box r o=>k (.box r o)
 |.at_ t x=>k (.at_ t x)
 |.tup b l=>k (.tup b l)
 |.mref r=>k (.mref r)
 |.fnc f l=>k (.fnc f l)
theorem a4L(d:D)(k:D->Option R):a8r d k=k d:=by cases d<;>rfl
noncomputable def a8N(f:D->D)(l:List D):(List D->Option R)->Option R:=List.rec (motive:=fun _=>(List D->Option R)->Option R) (fun k=>k []) (fun a _ ih k=>a8r (f a) fun a=>ih fun l=>k (a :: l)) l
theorem a1H(f:D->D):∀(l:List D) (k:List D->Option R),a8N f l k=k (l.map f)
 |[],_=>rfl
 |a :: l,k=>by
  show a8r (f a) (fun a=>a8N f l fun l=>k (a :: l))=_;rw[a4L];exact a1H f l fun l=>k (f a :: l)
noncomputable def b1y{α:Type}(l:List (Nat×α))(i:Nat)(d:α):(List (Nat×α)->Option R)->Option R:=
 List.rec (motive:=fun _=>(List (Nat×α)->Option R)->Option R) (fun k=>k [(i,d)])
  (fun p l ih k=>match p with
   |(j,x)=>match Nat.beq j i with
    |true=>k ((i,d) :: l)
    |false=>match Nat.blt i j with
     |true=>k ((i,d) :: (j,x) :: l)
     |false=>ih fun l=>k ((j,x) :: l)) l
theorem a3s{α:Type}:∀(l:List (Nat×α)) (i:Nat) (d:α) (k:List (Nat×α)->Option R),b1y l i d k=k (a4S l i d)
 |[],_,_,_=>rfl
 |(j,x) :: l,i,d,k=>by
  show(match Nat.beq j i with
    |true=>k ((i,d) :: l)
    |false=>match Nat.blt i j with
     |true=>k ((i,d) :: (j,x) :: l)
     |false=>b1y l i d fun l=>k ((j,x) :: l))=_
  unfold a4S;split
  ·rfl
  ·split
   ·rfl
   ·exact a3s l i d fun l=>k ((j,x) :: l)
noncomputable def c6d{α:Type}(l:List (Nat×α))(i:Nat):(List (Nat×α)->Option R)->Option R:=
 List.rec (motive:=fun _=>(List (Nat×α)->Option R)->Option R) (fun k=>k [])
  (fun p _ ih k=>match p with
   |(j,x)=>match Nat.beq j i with
    |true=>ih k
    |false=>ih fun l=>k ((j,x) :: l)) l
theorem b2J{α:Type}:∀(l:List (Nat×α)) (i:Nat) (k:List (Nat×α)->Option R),c6d l i k=k (b5M l i)
 |[],_,_=>rfl
 |(j,x) :: l,i,k=>by
  show(match Nat.beq j i with
    |true=>c6d l i k
    |false=>c6d l i fun l=>k ((j,x) :: l))=_
  unfold b5M;split
  ·exact b2J l i k
  ·exact b2J l i fun l=>k ((j,x) :: l)
noncomputable def b1x(f:D->D)(l:List (Nat×D)):(List (Nat×D)->Option R)->Option R:=
 List.rec (motive:=fun _=>(List (Nat×D)->Option R)->Option R) (fun k=>k [])
  (fun p _ ih k=>match p with|(j,x)=>a8r (f x) fun d=>ih fun l=>k ((j,d) :: l)) l
theorem a3q(f:D->D):∀(l:List (Nat×D)) (k:List (Nat×D)->Option R),b1x f l k=k (a4u f l)
 |[],_=>rfl
 |(j,x) :: l,k=>by
  show a8r (f x) (fun d=>b1x f l fun l=>k ((j,d) :: l))=_;rw[a4L];exact a3q f l fun l=>k ((j,f x) :: l)
noncomputable def a6B(f:D->D)(l:List (Nat×Blk)):(List (Nat×Blk)->Option R)->Option R:=
 List.rec (motive:=fun _=>(List (Nat×Blk)->Option R)->Option R) (fun k=>k [])
  (fun p _ ih k=>match p with
   |(j,.cells c)=>a8N f c fun c=>ih fun l=>k ((j,.cells c) :: l)
   |(j,.map e m)=>ih fun l=>k ((j,.map e m) :: l)
   |(j,.row e t ex xs)=>ih fun l=>k ((j,.row e t ex xs) :: l)
   |(j,.iter e m c)=>ih fun l=>k ((j,.iter e m c) :: l)
   |(j,.bld T c)=>a8N f c fun c=>ih fun l=>k ((j,.bld T c) :: l)) l
theorem Z5(f:D->D):∀(l:List (Nat×Blk)) (k:List (Nat×Blk)->Option R),a6B f l k=k (a4u (Blk.lift f) l)
 |[],_=>rfl
 |(j,.cells c) :: l,k=>by
  show a8N f c (fun c=>a6B f l fun l=>k ((j,.cells c) :: l))=_;rw[a1H];exact Z5 f l fun l=>k ((j,.cells (c.map f)) :: l)
 |(j,.map e m) :: l,k=>Z5 f l fun l=>k ((j,.map e m) :: l)
 |(j,.row e t ex xs) :: l,k=>Z5 f l fun l=>k ((j,.row e t ex xs) :: l)
 |(j,.iter e m c) :: l,k=>Z5 f l fun l=>k ((j,.iter e m c) :: l)
 |(j,.bld T c) :: l,k=>by
  show a8N f c (fun c=>a6B f l fun l=>k ((j,.bld T c) :: l))=_;rw[a1H];exact Z5 f l fun l=>k ((j,.bld T (c.map f)) :: l)
noncomputable def b2M(ks:List Nat)(f:D->D)(l:List (Nat×D)):(List (Nat×D)->Option R)->Option R:=
 List.rec (motive:=fun _=>(List (Nat×D)->Option R)->Option R) (fun k=>k [])
  (fun p _ ih k=>match p with
   |(j,x)=>match w9 ks j with
    |true=>a8r (f x) fun d=>ih fun l=>k ((j,d) :: l)
    |false=>ih k) l
theorem a7i(ks:List Nat)(f:D->D):∀(l:List (Nat×D)) (k:List (Nat×D)->Option R),b2M ks f l k=k (a1l ks f l)
 |[],_=>rfl
 |(j,x) :: l,k=>by
  show(match w9 ks j with
    |true=>a8r (f x) fun d=>b2M ks f l fun l=>k ((j,d) :: l)
    |false=>b2M ks f l k)=_
  unfold a1l;split
  ·rw[a4L];exact a7i ks f l fun l=>k ((j,f x) :: l)
  ·exact a7i ks f l k
def Blk.past:Blk->Blk | .iter e l _=> .iter e l none|b=>b
def Blk.pastK(b:Blk)(k:Blk->Option R):Option R:=match b with
 |.iter e l _=>k (.iter e l none)
 |.cells l=>k (.cells l)
 |.map e m=>k (.map e m)
 |.row e t ex xs=>k (.row e t ex xs)
 |.bld T l=>k (.bld T l)
theorem d33(b:Blk)(k:Blk->Option R):b.pastK k=k b.past:=by cases b<;>rfl
noncomputable def a89(ks:List Nat)(l:List (Nat×Blk)):(List (Nat×Blk)->Option R)->Option R:=
 List.rec (motive:=fun _=>(List (Nat×Blk)->Option R)->Option R) (fun k=>k [])
  (fun p _ ih k=>match p with
   |(j,x)=>match w9 ks j with
    |true=>x.pastK fun x=>ih fun l=>k ((j,x) :: l)
    |false=>ih k) l
theorem a4R(ks:List Nat):∀(l:List (Nat×Blk)) (k:List (Nat×Blk)->Option R),a89 ks l k=k (a1l ks Blk.past l)
 |[],_=>rfl
 |(j,x) :: l,k=>by
  show(match w9 ks j with
    |true=>x.pastK fun x=>a89 ks l fun l=>k ((j,x) :: l)
    |false=>a89 ks l k)=_
  unfold a1l;split
  ·rw[d33];exact a4R ks l fun l=>k ((j,x.past) :: l)
  ·exact a4R ks l k
noncomputable def St.putK(st:St)(dst:Option Tmp)(d:D)(k:St->Option R):Option R:=
 a8r d fun d=>match dst,st with
 |some t,⟨n,fr,hp⟩=>match Nat.blt t n with
  |true=>b1y fr t d fun fr=>k ⟨n,fr,hp⟩
  |false=>k ⟨n,fr,hp⟩
 |none,st=>k st
theorem F5(st:St)(dst:Option Tmp)(d:D)(k:St->Option R):st.putK dst d k=k (st.put dst d):=by
 unfold St.putK St.put;rw[a4L];cases dst with
 |none=>rfl
 |some t=>
  obtain⟨n,fr,hp⟩:=st;dsimp only;split
  ·rw[a3s]
  ·rfl
noncomputable def St.liftK(st:St)(f:D->D)(k:St->Option R):Option R:=match st with
 |⟨n,fr,hp⟩=>b1x (a3Z f) fr fun fr=>a6B f hp fun hp=>k ⟨n,fr,hp⟩
theorem a0W(st:St)(f:D->D)(k:St->Option R):st.liftK f k=k (st.lift f):=by
 obtain⟨n,fr,hp⟩:=st;unfold St.liftK St.lift;dsimp only;rw[a3q,Z5]
noncomputable def St.setBK(st:St)(r:Nat)(b:Blk)(k:St->Option R):Option R:=match st with
 |⟨n,fr,hp⟩=>match b with
  |.cells c=>a8N id c fun c=>b1y hp r (.cells c) fun hp=>k ⟨n,fr,hp⟩
  |.map e m=>b1y hp r (.map e m) fun hp=>k ⟨n,fr,hp⟩
  |.row e t ex xs=>b1y hp r (.row e t ex xs) fun hp=>k ⟨n,fr,hp⟩
  |.iter e m c=>b1y hp r (.iter e m c) fun hp=>k ⟨n,fr,hp⟩
  |.bld T c=>a8N id c fun c=>b1y hp r (.bld T c) fun hp=>k ⟨n,fr,hp⟩
theorem a0t(st:St)(r:Nat)(b:Blk)(k:St->Option R):st.setBK r b k=k (st.setB r b):=by
 obtain⟨n,fr,hp⟩:=st;unfold St.setBK St.setB;dsimp only;cases b with
 |cells c=>dsimp only;rw[a1H,a3s,List.map_id]
 |map e m=>dsimp only;rw[a3s]
 |row e t ex xs=>dsimp only;rw[a3s]
 |iter e m c=>dsimp only;rw[a3s]
 |bld T c=>dsimp only;rw[a1H,a3s,List.map_id]
noncomputable def St.delBK(st:St)(r:Nat)(k:St->Option R):Option R:=match st with
 |⟨n,fr,hp⟩=>c6d hp r fun hp=>k ⟨n,fr,hp⟩
theorem a6E(st:St)(r:Nat)(k:St->Option R):st.delBK r k=k (st.delB r):=by
 obtain⟨n,fr,hp⟩:=st;unfold St.delBK St.delB;dsimp only;rw[b2J]
noncomputable def St.newK(st:St)(r:Nat)(b:Blk)(k:St->Option R):Option R:=st.liftK (forget [r]) fun st=>st.setBK r b k
def St.new(st:St)(r:Nat)(b:Blk):St:=(st.lift (forget [r])).setB r b
theorem a2Z(st:St)(r:Nat)(b:Blk)(k:St->Option R):st.newK r b k=k (st.new r b):=by unfold St.newK St.new;rw[a0W,a0t]
def a6d:Ty->Bool | .ptr _=>true | .np _=>true|_=>false
def f0L(i:IntKind)(x y:Int):Int:=x.fdiv (2 ^ (min y.toNat i.bits))
def e91(i:IntKind)(x y:Int):Int:=i.wrap (BitVec.ofInt i.bits x &&& BitVec.ofInt i.bits y).toNat
def orI(i:IntKind)(x y:Int):Int:=i.wrap (BitVec.ofInt i.bits x ||| BitVec.ofInt i.bits y).toNat
def f09(i:IntKind)(x y:Int):Int:=i.wrap (BitVec.ofInt i.bits x ^^^ BitVec.ofInt i.bits y).toNat
noncomputable def e5G(tx:Option Ty)(cx:Option Ty)(op:BinOp):D->D->(D->Option R)->Option R
 |.v (.int i) x,.v (.int j) y,k=>
  match op with
  |.shr=>br (decide (0<=y)) (k (.v (.int i) (f0L i x y))) none
  |_=>
  if i=j then
  match op with
  |.add=>k (.v (.int i) (i.wrap (x+y)))
  |.sub=>k (.v (.int i) (i.wrap (x-y)))
  |.mul=>k (.v (.int i) (i.wrap (x*y)))
  |.quo=>br (y==0) none (k (.v (.int i) (i.wrap (Int.tdiv x y))))
  |.rem=>br (y==0) none (k (.v (.int i) (Int.tmod x y)))
  |.eql=>k (.v .bool (x==y))
  |.neq=>k (.v .bool (x !=y))
  |.lss=>k (.v .bool (decide (x<y)))
  |.leq=>k (.v .bool (decide (x<=y)))
  |.gtr=>k (.v .bool (decide (x>y)))
  |.geq=>k (.v .bool (decide (x>=y)))
  |.and=>k (.v (.int i) (e91 i x y))
  |.or=>k (.v (.int i) (orI i x y))
  |.xor=>k (.v (.int i) (f09 i x y))
  |_=>none
  else none
 |.v .u8 x,.v .u8 y,k=>
  match op with
  |.eql=>k (.v .bool (x==y))
  |.neq=>k (.v .bool (x !=y))
  |.lss=>k (.v .bool (decide (x<y)))
  |.leq=>k (.v .bool (decide (x<=y)))
  |.gtr=>k (.v .bool (decide (x>y)))
  |.geq=>k (.v .bool (decide (x>=y)))
  |.sub=>k (.v .u8 (x-y))
  |.add=>k (.v .u8 (x+y))
  |_=>none
 |.v .bool x,.v .bool y,k=>
  match tx,op with
  |some .bool,.eql=>k (.v .bool (x==y))
  |some .bool,.neq=>k (.v .bool (x !=y))
  |_,_=>none
 |.v .str x,.v .str y,k=>
  match op with
  |.eql=>k (.v .bool (x==y))
  |.neq=>k (.v .bool (!(x==y)))
  |.lss=>k (.v .bool (Op.bytesLess x y))
  |.leq=>k (.v .bool (Op.bytesLess x y||x==y))
  |.gtr=>k (.v .bool (!(Op.bytesLess x y||x==y)))
  |.geq=>k (.v .bool (!(Op.bytesLess x y)))
  |.add=>br (decide (x.length+y.length<=9223372036854775807)) (k (.v .str (x++y))) none
  |_=>none
 |.v (.pr a b) x,.v t' y,k=>match cx with
  |some tc=>if h:Ty.pr a b=tc/\t'=tc then
    match op with
    |.eql=>k (.v .bool (eqb tc (h.1▸x) (h.2▸y)))
    |.neq=>k (.v .bool (!(eqb tc (h.1▸x) (h.2▸y))))
    |_=>none
   else none
  |none=>none
 |.v (.np _) x,.nilP,k=>match tx.map a6d,op with
  |some true,.eql=>k (.v .bool x.isNone)
  |some true,.neq=>k (.v .bool (!x.isNone))
  |_,_=>none
 |.nilP,.nilP,k=>match tx.map a6d,op with
  |some true,.eql=>k (.v .bool true)
  |some true,.neq=>k (.v .bool false)
  |_,_=>none
 |.at_ _ _,.nilP,k=>match tx.map a6d,op with
  |some true,.eql=>k (.v .bool false)
  |some true,.neq=>k (.v .bool true)
  |_,_=>none
 |.box _ _,.nilP,k=>match tx.map a6d,op with
  |some true,.eql=>k (.v .bool false)
  |some true,.neq=>k (.v .bool true)
  |_,_=>none
 |.box r o,.box r' o',k=>match tx.map a6d,op,Nat.beq r r',Nat.beq o o' with
  |some true,.eql,true,true=>k (.bl true)
  |some true,.neq,true,true=>k (.bl false)
  |_,_,_,_=>none
 |.v (.sl _) xs,.nilS,k=>match tx,op with
  |some (.sl _),.eql=>br xs.isEmpty (q7 (k (.bl true)) (k (.bl false))) (k (.bl false))
  |some (.sl _),.neq=>br xs.isEmpty (q7 (k (.bl true)) (k (.bl false))) (k (.bl true))
  |_,_=>none
 |_,_,_=>none
noncomputable def d3p(st:St)(S:Option Ty)(eS:Option (TypeId×Ty))(T:Option Ty):D->(D->Option R)->Option R
 |.v (.int _) x,k=>match S,T with
  |some _,some (.int j)=>k (.v (.int j) (j.wrap x))
  |some _,some .u8=>k (.v .u8 (UInt8.ofNat (IntKind.u8.wrap x).toNat))
  |_,_=>none
 |.v .u8 x,k=>match S,T with
  |some _,some (.int j)=>k (.v (.int j) (j.wrap (x.toNat:Int)))
  |some _,some .u8=>k (.v .u8 x)
  |_,_=>none
 |.v .str x,k=>match S,T with
  |some .str,some .str=>k (.v .str x)
  |_,_=>none
 |d,k=>match eS,T with
  |some (_,.u8),some .str=>match st.dat (.sl .u8) d with
   |some x=>k (.v .str x)
   |none=>match st.lent (.sl .u8) d with
    |some x=>k (.v .str x)
    |none=>none
  |_,_=>none
noncomputable def e0Q(T:Option Ty)(st:St):D->(D->Option R)->Option R
 |.v .str x,k=>match T with
  |some .str=>k (.v (.int .i64) (x.length:Int))
  |_=>none
 |.v (.sl _) x,k=>match T with
  |some (.sl _)=>k (.v (.int .i64) (x.length:Int))
  |_=>none
 |.v (.mp _) x,k=>match T with
  |some (.mp _)=>k (.v (.int .i64) (x.length:Int))
  |_=>none
 |.row r,k=>match T,v6 st.hp r with
  |some (.sl _),some (.row _ _ _ x)=>k (.v (.int .i64) (x.length:Int))
  |_,_=>none
 |.nilS,k=>match T with
  |some (.sl _)=>k (.v (.int .i64) (0:Int))
  |_=>none
 |.mref r,k=>match T,v6 st.hp r with
  |some (.mp _),some (.map _ m)=>k (.v (.int .i64) (m.length:Int))
  |_,_=>none
 |_,_=>none
noncomputable def loD(st:St):Option Operand->Option Int
 |none=>some 0
 |some o=>match st.ev o with
  |.v (.int _) n=>some n
  |_=>none
noncomputable def hiD(st:St)(len:Nat):Option Operand->Option Int
 |none=>some len
 |some o=>match st.ev o with
  |.v (.int _) n=>some n
  |_=>none
noncomputable def e1c{α:Type}(st:St)(xs:List α)(lo hi:Option Operand)(mk:List α->D)(k:D->Option R):Option R:=
 match loD st lo,hiD st xs.length hi with
 |some lo,some hi=>k8 (slc xs lo hi) fun ys=>k (mk ys)
 |_,_=>none
def e3t(e:Ty)(m:List (List UInt8×e.den))(key:D)(ok:Bool)(k:D->Option R):Option R:=
 match key with
 |.v .str s=>match a9q e with
  |some _=>
   if ok then k (.tup false [.v e ((a0X m s).getD (zero e)),.v .bool (a0X m s).isSome])
   else k (.v e ((a0X m s).getD (zero e)))
  |none=>none
 |_=>none
def a7z(t:Ty):D->Bool
 |.v t' _=>decide (t'=t)
 |.bl _=>decide (t = .bool)
 |.nilS=>match t with | .sl _=>true|_=>false
 |.nilP=>match t with | .np _=>true|_=>false
 |.row _=>match t with | .sl _=>true|_=>false
 |.mref _=>match t with | .mp _=>true|_=>false
 |.at_ t' _=>decide (t = .ptr t')||decide (t = .np t')
 |.box _ _=>match t with | .ptr _=>true | .np _=>true|_=>false
 |.fnc _ _=>match t with | .clo _ _=>true|_=>false
 |_=>false
def b0h:D->Bool | .v t _=>!t.isAgg | .bl _ | .nilS | .nilP | .row _ | .mref _ | .at_ _ _ | .box _ _=>true|_=>false
noncomputable def b2X(E:Env)(st:St)(T:TypeId):List (Nat×Operand)->List D->Option (List D)
 |[],cs=>some cs
 |(j,x) :: ps,cs=>match E.fld T j with
  |some (off,t')=>match t'.isAgg with
   |true=>match st.dta t' (st.ev x)with
    |some y=>if off+t'.sz<=cs.length then b2X E st T ps (cs.take off++flat t' y++cs.drop (off+t'.sz))else none
    |none=>none
   |false=>match a7z t' (st.ev x)with
    |true=>if off<cs.length then b2X E st T ps (cs.set off (nob (st.ev x)))else none
    |false=>none
  |none=>none
def c4R:D->D | .v .nl _=> .nilS|d=>d
noncomputable def c1h(E:Env)(st:St)(T:TypeId)(d:D)(k:D->Option R):Option R:=
 match E.ty T,d with
 |some t,.at_ t' x=>if h:t'=t then k (.v t (h▸x))else none
 |some t,.box r off=>match v6 st.hp r with
  |some (.cells cs)=>match t.isAgg with
   |true=>match b0F st t (cs.drop off)with
    |some (x,_)=>k (.v t x)
    |none=>match Nat.beq ((cs.drop off).take t.sz).length t.sz,((cs.drop off).take t.sz).all b0h with
     |true,true=>a8N c4R ((cs.drop off).take t.sz) fun l=>k (.tup true l)
     |_,_=>none
   |false=>match cs[off]? with
    |some d=>k d
    |none=>none
  |_=>none
 |some t,.elp r z i off=>match v6 st.hp r with
  |some (.row _ t' true xs)=>match Nat.beq z t'.sz with
   |true=>k8 (n8 xs i) fun x=>match sub t' x off t with
    |some y=>k (.v t y)
    |none=>none
   |false=>none
  |_=>none
 |_,_=>none
noncomputable def O0(E:Env)(o:Op)(ty:TypeId)(st:St)(k:D->Option R):Option R:=
 match o with
 |.move x=>k (st.ev x)
 |.assign x=>k (st.ev x)
 |.nilCheck x=>match st.ev x with
  |.box r off=>k (.box r off)
  |.at_ t x=>k (.at_ t x)
  |.elp r z i off=>k (.elp r z i off)
  |.v (.np t) x=>k8 x fun x=>k (.at_ t x)
  |_=>none
 |.pick c a b=>match st.ev c with
  |.v .bool c=>br c (k (st.ev a)) (k (st.ev b))
  |.bl true=>k (st.ev a)
  |.bl false=>k (st.ev b)
  |_=>none
 |.binOp op T x y _=>e5G (E.ty T) (E.cmp T) op (nob (st.ev x)) (nob (st.ev y)) k
 |.unOp .not _ x=>match st.ev x with
  |.v .bool b=>k (.v .bool !b)
  |.bl b=>k (.bl !b)
  |_=>none
 |.convert S T x=>d3p st (E.ty S) (E.el S) (E.ty T) (st.ev x) k
 |.index T x i=>match E.ty T,st.ev x,st.ev i with
  |some .str,.v .str s,.v (.int _) i=>k8 (n8 s i) fun c=>k (.v .u8 c)
  |some .str,.v .str s,.v .u8 i=>k8 (n8 s (i.toNat:Int)) fun c=>k (.v .u8 c)
  |_,_,_=>none
 |.indexAddr T x i=>match E.el T,st.ev i with
  |some (_,t),.v (.int .i64) i=>match st.dat (.sl t) (st.ev x)with
   |some l=>k8 (n8 l i) fun c=>k (.at_ t c)
   |none=>match st.ev x with
    |.row r=>match v6 st.hp r with
     |some (.row _ t' true xs)=>if t'=t then br (decide (0<=i/\i<(xs.length:Int))) (k (.elp r t.sz i 0)) none else none
     |_=>none
    |_=>none
  |_,_=>none
 |.fieldAddr T x f=>match E.fld T f,st.ev x with
  |some (off,_),.box r o=>k (.box r (o+off))
  |some (off,_),.elp r z i o=>k (.elp r z i (o+off))
  |some (off,t'),.at_ t x=>match sub t x off t' with
   |some y=>k (.at_ t' y)
   |none=>none
  |some (off,t'),.v (.np t) x=>k8 x fun x=>match sub t x off t' with
   |some y=>k (.at_ t' y)
   |none=>none
  |_,_=>none
 |.field T x f=>match E.fld T f,st.ev x with
  |some (off,t'),.v t x=>match t.isAgg,sub t x off t' with
   |true,some y=>k (.v t' y)
   |_,_=>none
  |_,_=>none
 |.load T x=>match st.ev x with
  |.v (.np t) x=>k8 x fun x=>c1h E st T (.at_ t x) k
  |d=>c1h E st T d k
 |.slice T x lo hi none=>match E.ty T,st.ev x with
  |some .str,.v .str s=>e1c st s lo hi (.v .str) k
  |some (.sl t),d=>match E.el T,st.dat (.sl t) d with
   |some (_,t'),some l=>if t'=t then e1c st l lo hi (.v (.sl t)) k else none
   |_,_=>none
  |_,_=>none
 |.lookup T x i ok=>match E.ty T with
  |some (.mp e)=>match st.as (.mp e) (st.ev x)with
   |some m=>e3t e m (st.ev i) ok k
   |none=>none
  |_=>none
 |.extract x i=>match st.ev x with
  |.tup false l=>match l[i]? with
   |some d=>k d
   |none=>none
  |_=>none
 |.build T ps=>match E.ty T with
  |some t=>match(match t.isAgg with|true=>b0j t|false=>none)with
   |some cs=>match b2X E st T ps.toList cs with
    |some cs=>k (.tup true cs)
    |none=>none
   |none=>none
  |none=>none
 |.call c=>match c.callee,c.args.toList with
  |.builtin .len,[x]=>e0Q (c.argTypes[0]?.bind E.ty) st (st.ev x) k
  |_,_=>none
 |_=>none
noncomputable def St.evL(st:St):Operand->D | .const (.agg vs)=> .tup true (vs.toList.map a6D)|x=>st.ev x
noncomputable def e0S(st:St)(t:Ty):List (Nat×Operand)->Nat->Option (List t.den)
 |[],_=>some []
 |(j,x) :: l,i=>if j=i then
   match st.dta t (st.evL x)with
   |some y=>match e0S st t l (i+1)with
    |some ys=>some (y :: ys)
    |none=>none
   |none=>none
  else none
noncomputable def St.soft1K(st:St)(d:D)(k:St->Option R):Option R:=match d with
 |.row r=>match v6 st.hp r with
  |some (.row e t true xs)=>st.setBK r (.row e t false xs) k
  |_=>k st
 |_=>k st
noncomputable def St.soft1sK(l:List D):St->(St->Option R)->Option R:=List.rec (motive:=fun _=>St->(St->Option R)->Option R) (fun st k=>k st) (fun x _ ih st k=>st.soft1K x fun st=>ih st k) l
noncomputable def St.softTK(st:St)(d:D)(k:St->Option R):Option R:=match d with
 |.tup true l=>St.soft1sK l st k
 |_=>k st
noncomputable def St.softK(st:St)(d:D)(k:St->Option R):Option R:=match d with
 |.tup true l=>St.soft1sK l st k
 |.row r=>st.soft1K (.row r) k
 |_=>k st
noncomputable def St.softTsK(l:List Operand):St->(St->Option R)->Option R:=List.rec (motive:=fun _=>St->(St->Option R)->Option R) (fun st k=>k st) (fun x _ ih st k=>st.softTK (st.ev x) fun st=>ih st k) l
noncomputable def St.softsK(l:List Operand):St->(St->Option R)->Option R:=List.rec (motive:=fun _=>St->(St->Option R)->Option R) (fun st k=>k st) (fun x _ ih st k=>st.softK (st.ev x) fun st=>ih st k) l
noncomputable def St.softDsK(l:List D):St->(St->Option R)->Option R:=List.rec (motive:=fun _=>St->(St->Option R)->Option R) (fun st k=>k st) (fun x _ ih st k=>st.softK x fun st=>ih st k) l
noncomputable def c0G:List Ty->List Operand->St->(St->Option R)->Option R
 |[],[],st,k=>k st
 |.ptr t :: ts,x :: xs,st,k=>match st.ev x with
  |.at_ _ _=>c0G ts xs st k
  |.box r 0=>match Nat.blt r 1000 with
   |true=>none
   |false=>match v6 st.hp r with
    |some (.cells cs)=>match b0F st t cs with
     |some (y,[])=>st.liftK (freeze r t y) fun st=>st.delBK r fun st=>c0G ts xs st k
     |_=>none
    |_=>none
  |_=>none
 |_,_,_,_=>none
def b6j:List Ty->List D->Option ((t:Ty)×t.den)
 |[],[]=>some ⟨.un,()⟩
 |.ptr t :: ts,.at_ t' x :: ds=>if h:t'=t then(match b6j ts ds with|some y=>some ⟨.pr (.ptr t) y.1,(h▸x,y.2)⟩|none=>none)else none
 |_,_=>none
def d3l:(t:Ty)->t.den->List D | .pr (.ptr a) b,x=> .at_ a x.1 :: d3l b x.2|_,_=>[]
def c4w:Ty->Bool | .pr (.ptr _) b=>c4w b | .un=>true|_=>false
noncomputable def c6t(st:St):List Operand->Option (List Nat)
 |[]=>some []
 |x :: xs=>match st.ev x with
  |.box r 0=>match c6t st xs with
   |some l=>some (r :: l)
   |none=>none
  |_=>none
def c6Y:List Sl->List Ty | []=>[] | .v t :: l=>t :: c6Y l|_ :: l=> .un :: c6Y l
def nmK(ρ:List Nat)(j r:Nat)(k:List Nat->Option R):Option R:=match ρ[j]? with
 |some r'=>match Nat.beq r' r with|true=>k ρ|false=>none
 |none=>match Nat.beq j ρ.length with
  |true=>match w9 ρ r with|true=>none|false=>k (ρ ++ [r])
  |false=>none
def e51:List Nat->List Nat->List Nat->(List Nat->Option R)->Option R | [],[],ρ,k=>k ρ|j :: js,r :: rs,ρ,k=>nmK ρ j r fun ρ=>e51 js rs ρ k|_,_,_,_=>none
noncomputable def mtK(st:St)(s:Sl)(d:D)(ρ β:List Nat)(k:s.den->List Nat->List Nat->Option R):Option R:=match s,k with
 |.dead,k=>k () ρ β
 |.skip,k=>match d with | .skip=>k () ρ β|_=>none
 |.nilS,k=>match d with | .nilS=>k () ρ β|_=>none
 |.nilP,k=>match d with | .nilP=>k () ρ β|_=>none
 |.v t,k=>match st.dta t d with
  |some x=>k x ρ β
  |none=>match st.lent t d with
   |some x=>match d with
    |.mref r=>k x ρ (r :: β)
    |.row r=>k x ρ (r :: β)
    |.box r _=>k x ρ (r :: β)
    |_=>none
   |none=>none
 |.at_ t,k=>match d with
  |.at_ t' x=>if h:t'=t then k (h▸x) ρ β else none
  |_=>none
 |.row r,k=>match d with | .row r'=>nmK ρ r r' fun ρ=>k () ρ β|_=>none
 |.mref r,k=>match d with | .mref r'=>nmK ρ r r' fun ρ=>k () ρ β|_=>none
 |.box r o,k=>match d with
  |.box r' o'=>match Nat.beq o' o with|true=>nmK ρ r r' fun ρ=>k () ρ β|false=>none
  |_=>none
 |.fnc f l,k=>match d with
  |.fnc f' l'=>match Nat.beq f' f with|true=>e51 l l' ρ fun ρ=>k () ρ β|false=>none
  |_=>none
noncomputable def b5Y(st:St):(l:List Sl)->List D->List Nat->List Nat->(SV l->List Nat->List Nat->Option R)->Option R | [],[],ρ,β,k=>k () ρ β|s :: l,d :: ds,ρ,β,k=>mtK st s d ρ β fun x ρ β=>b5Y st l ds ρ β fun y ρ β=>k (x,y) ρ β|_,_,_,_,_=>none
noncomputable def mbK(st:St)(s:Sb)(r:Nat)(ρ β:List Nat)(k:s.den->List Nat->List Nat->Option R):Option R:=match s,k with
 |.none,k=>k () ρ β
 |.cells l,k=>match v6 st.hp r with
  |some (.cells ds)=>b5Y st l ds ρ β k
  |_=>none
 |.map e,k=>match v6 st.hp r with
  |some (.map e' m)=>if h:e'=e then k (h▸m) ρ β else none
  |_=>none
 |.row e t ex,k=>match v6 st.hp r with
  |some (.row e' t' ex' xs)=>if h:t'=t then(if e'=e/\ex'=ex then k (h▸xs) ρ β else none)else none
  |_=>none
 |.iter _,_=>none
 |.bld T l,k=>match v6 st.hp r with
  |some (.bld T' ds)=>if T'=T then b5Y st l ds ρ β k else none
  |_=>none
noncomputable def b5W(st:St):(l:List Sb)->(j:Nat)->List Nat->List Nat->(BV l->List Nat->List Nat->Option R)->Option R
 |[],_,ρ,β,k=>k () ρ β
 |s :: l,j,ρ,β,k=>match ρ[j]? with
  |some r=>mbK st s r ρ β fun x ρ β=>b5W st l (j+1) ρ β fun y ρ β=>k (x,y) ρ β
  |none=>none
def R5(ν:List Nat)(j:Nat):Nat:=match ν[j]? with
 |some r=>r
 |none=>0
def d3Q(ν:Nat->Nat):(s:Sl)->s.den->D | .dead,_=> .dead | .skip,_=> .skip | .nilS,_=> .nilS | .nilP,_=> .nilP | .v t,x=> .v t x | .at_ t,x=> .at_ t x | .row r,_=> .row (ν r) | .mref r,_=> .mref (ν r) | .box r o,_=> .box (ν r) o | .fnc f l,_=> .fnc f (l.map ν)
def a0E(ν:Nat->Nat):(l:List Sl)->SV l->List D | [],_=>[]|s :: l,x=>d3Q ν s x.1 :: a0E ν l x.2
def c1f(ν:Nat->Nat):(s:Sb)->s.den->Option Blk | .none,_=>none | .cells l,x=>some (.cells (a0E ν l x)) | .map e,x=>some (.map e x) | .row e t ex,x=>some (.row e t ex x) | .iter _,_=>none | .bld T l,x=>some (.bld T (a0E ν l x))
noncomputable def a6I(ν:Nat->Nat):(l:List Sb)->(j:Nat)->BV l->St->(St->Option R)->Option R
 |[],_,_,st,k=>k st
 |s :: l,j,y,st,k=>match c1f ν s y.1 with
  |some b=>st.setBK (ν j) b fun st=>a6I ν l (j+1) y.2 st k
  |none=>st.delBK (ν j) fun st=>a6I ν l (j+1) y.2 st k
def a3Y(ν:Nat->Nat):(l:List Sb)->(j:Nat)->BV l->St->St
 |[],_,_,st=>st
 |s :: l,j,y,st=>match c1f ν s y.1 with
  |some b=>a3Y ν l (j+1) y.2 (st.setB (ν j) b)
  |none=>a3Y ν l (j+1) y.2 (st.delB (ν j))
theorem a4G(ν:Nat->Nat):∀(l:List Sb) (j:Nat) (y:BV l) (st:St) (k:St->Option R),a6I ν l j y st k=k (a3Y ν l j y st)
 |[],_,_,_,_=>rfl
 |s :: l,j,y,st,k=>by
  unfold a6I a3Y;split
  ·rw[a0t];exact a4G ν l (j+1) y.2 _ k
  ·rw[a6E];exact a4G ν l (j+1) y.2 _ k
def a1n(b:Nat):Nat->List Nat|0=>[]|n+1=>a1n b n ++ [b+n]
def a6Z:List Sb->List Sb->List Nat->List Nat | .cells _ :: bs,_ :: cs,_ :: ν=>a6Z bs cs ν | .bld _ _ :: bs,_ :: cs,_ :: ν=>a6Z bs cs ν | .map _ :: bs,_ :: cs,_ :: ν=>a6Z bs cs ν|_ :: bs,_ :: cs,r :: ν=>r :: a6Z bs cs ν|_,_,ν=>ν
def a4F:List Sb->List Sb->Bool | [],[.none]=>true|_ :: bs,_ :: cs=>a4F bs cs|_,_=>false
def a6h(bs cs:List Sb)(ν:List Nat):List Nat:=match a4F bs cs with
 |true=>ν.drop bs.length
 |false=>a6Z bs cs ν
def d4k:List D->D | [d]=>d|l=> .tup false l
noncomputable def a1I(st:St)(F:AF)(ρ β:List Nat):Bool:=
 match F.bs with
 |[]=>β.all (fun r=>match v6 st.hp r with
  |some (.map _ _)=>F.rs.all Sl.noMap&&F.cs.all Sb.noMap
  |_=>F.rs.all Sl.flat&&F.cs.isEmpty)
 |_ :: _=>!β.any (w9 ρ)&&F.rs.all Sl.flat&&F.cs.all Sb.calm
def AF.calm(F:AF):Bool:=F.rs.all Sl.flat&&match F.bs with
 |[]=>F.cs.isEmpty
 |_ :: _=>F.cs.all Sb.calm
noncomputable def a1t:List Sl->List D->St->(St->Option R)->Option R | .v _ :: l,d :: ds,st,k=>st.softK d fun st=>a1t l ds st k|_ :: l,_ :: ds,st,k=>a1t l ds st k|_,_,st,k=>k st
noncomputable def c0E(F:AF)(st:St)(dst:Option Tmp)(ds:List D)(k:St->Option R):Option R:=
 (fun go:St->Option R=>match F.calm with
   |true=>go st
   |false=>a1t F.ps ds st go) fun st=>
  b5Y st F.ps ds [] [] fun x ρ β=>b5W st F.bs 0 ρ β fun y ρ β=>
   match β.isEmpty||a1I st F ρ β,Nat.beq ρ.length F.bs.length with
   |true,true=>k8 (F.f x y) fun z=>
    (fun ν=>match ρ.any (w9 (a1n (100000+100*(match dst with|some t=>t|none=>0)) (F.cs.length-F.bs.length))),Nat.beq ν.length F.cs.length with
     |false,true=>st.liftK (forget (a6h F.bs F.cs ν)) fun st=>a6I (R5 ν) F.cs 0 (F.out z).2 st fun st=>
       a8N id (a0E (R5 ν) F.rs (F.out z).1) fun l=>st.putK dst (d4k l) k
     |_,_=>none)
     (ρ++a1n (100000+100*(match dst with|some t=>t|none=>0)) (F.cs.length-F.bs.length))
   |_,_=>none
noncomputable def e0M:List Nat->List D->St->(List D->St->Option R)->Option R
 |[],ds,st,k=>k ds st
 |r :: l,ds,st,k=>match Nat.blt r 1000 with
  |true=>none
  |false=>match v6 st.hp r with
   |some (.map e m)=>st.liftK (freezeM r e m) fun st=>st.delBK r fun st=>a8N (a3Z (freezeM r e m)) ds fun ds=>e0M l ds st k
   |_=>none
noncomputable def d3h[BothC R](p:PF)(st:St)(dst:Option Tmp)(ds:List D)(k:St->Option R):Option R:=
 (fun go:St->Option R=>match p.af.calm with
   |true=>go st
   |false=>a1t p.ps ds st go) fun st=>
  b5Y st p.ps ds [] [] fun x ρ β=>b5W st p.bs 0 ρ β fun y ρ β=>
   match β.isEmpty||a1I st p.af ρ β,Nat.beq ρ.length p.bs.length with
   |true,true=>d3e (fun c=>BothC.pa c ρ st) (p.f x y) fun z=>
    (fun ν=>match ρ.any (w9 (a1n (100000+100*(match dst with|some t=>t|none=>0)) (p.cs.length-p.bs.length))),Nat.beq ν.length p.cs.length with
     |false,true=>st.liftK (forget (a6h p.bs p.cs ν)) fun st=>a6I (R5 ν) p.cs 0 (p.out z).2 st fun st=>
       a8N id (a0E (R5 ν) p.rs (p.out z).1) fun l=>st.putK dst (d4k l) k
     |_,_=>none)
     (ρ++a1n (100000+100*(match dst with|some t=>t|none=>0)) (p.cs.length-p.bs.length))
   |_,_=>none
noncomputable def b2Y[BothC R](E:Env)(st:St)(dst:Option Tmp)(f:FuncId)(ds:List D)(k:St->Option R):Option R:=
 match E.fn f dst with
 |some F=>c0E F st dst ds k
 |none=>match E.dyn st f dst ds with
  |some (F,l)=>e0M l ds st fun ds st=>c0E F st dst ds k
  |none=>match E.pf f dst with
   |some p=>d3h p st dst ds k
   |none=>none
def nm(t:Nat):Nat:=1000+t
variable[BothC R]
noncomputable def opD(E:Env)(o:Oper)(st:St)(k:St->Option R):Option R:=
 match o.op with
 |.assign (.const (.slice none 0 0))=>match E.el o.type,o.dst with
  |some (e,t),some r=>st.newK (nm r) (.row e t (E.exq r) []) fun st=>st.putK (some r) (.row (nm r)) k
  |_,_=>none
 |.alloc T=>match E.ty T,o.dst with
  |some t,some r=>match b0j t with
   |some cs=>st.newK (nm r) (.cells cs) fun st=>st.putK (some r) (.box (nm r) 0) k
   |none=>none
  |_,_=>none
 |.box T x=>match E.ty T,o.dst with
  |some t,some r=>match t.isAgg with
   |true=>match E.raw,st.ev x with
    |true,.tup true l=>match l.all b0h with
     |true=>a8N (fun d=>forget [nm r] (nob d)) l fun l=>st.newK (nm r) (.cells l) fun st=>st.putK (some r) (.box (nm r) 0) k
     |false=>none
    |_,_=>st.softK (st.ev x) fun st=>match st.dta t (st.ev x)with
     |some y=>st.newK (nm r) (.cells (flat t y)) fun st=>st.putK (some r) (.box (nm r) 0) k
     |none=>none
   |false=>match a7z t (st.ev x)with
    |true=>(fun d=>st.newK (nm r) (.cells [forget [nm r] d]) fun st=>st.putK (some r) (.box (nm r) 0) k) (nob (st.ev x))
    |false=>none
  |_,_=>none
 |.store T x v=>match o.dst,E.ty T,st.ev x with
  |none,some t,.box r off=>match v6 st.hp r with
   |some (.cells cs)=>match t.isAgg with
    |true=>match st.ev v with
     |.tup true l=>if off+t.sz<=cs.length/\l.length=t.sz/\l.all b0h=true then st.setBK r (.cells (cs.take off++l++cs.drop (off+t.sz))) k else none
     |d=>match st.dta t d with
      |some x=>if off+t.sz<=cs.length then st.setBK r (.cells (cs.take off++flat t x++cs.drop (off+t.sz))) k else none
      |none=>none
    |false=>match a7z t (st.ev v)with
     |true=>if off<cs.length then st.setBK r (.cells (cs.set off (nob (st.ev v)))) k else none
     |false=>none
   |_=>none
  |none,some t,.elp r z i off=>st.softK (st.ev v) fun st=>match st.dta t (st.ev v),v6 st.hp r with
   |some y,some (.row e t' true xs)=>match Nat.beq z t'.sz with
    |true=>k8 (n8 xs i) fun x=>match upd t' x off t y with
     |some x'=>st.setBK r (.row e t' true (a3F xs i x')) k
     |none=>none
    |false=>none
   |_,_=>none
  |_,_,_=>none
 |.makeFunc (.func f) first caps=>match first.toList,o.dst with
  |[],some q=>match E.live f with
   |true=>match c6t st caps.toList with
    |some l=>st.putK (some q) (.fnc f l) k
    |none=>none
   |false=>match E.fn f o.dst with
    |some g=>c0G ((c6Y g.ps).drop (g.ps.length-caps.size)) caps.toList st fun st=>
     match b6j ((c6Y g.ps).drop (g.ps.length-caps.size)) (caps.toList.map st.ev)with
     |some y=>st.putK (some q) (.v (.clo f y.1) y.2) k
     |none=>none
    |none=>none
  |_,_=>none
 |.makeMap T none=>match E.ty T,o.dst with
  |some (.mp e),some r=>st.newK (nm r) (.map e []) fun st=>st.putK (some r) (.mref (nm r)) k
  |_,_=>none
 |.mapUpdate T m key x=>match o.dst,E.ty T,st.ev m,st.ev key with
  |none,some (.mp e0),.mref r,.v .str s=>st.softK (st.ev x) fun st=>match v6 st.hp r with
   |some (.map e m)=>if e0=e then
     match st.dta e (st.ev x)with
     |some x=>st.setBK r (.map e (a1V m s x)) k
     |none=>none
    else none
   |_=>none
  |_,_,_,_=>none
 |.makeSlice T n c=>match E.el T,o.dst,st.ev n,st.ev c with
  |some (e,t),some r,.v (.int .i64) n,.v (.int .i64) c=>match a9q t with
   |some _=>br (decide (0<=n/\n<=c/\c*(24*t.sz:Nat)<=140737488355328)) (st.newK (nm r) (.row e t (E.exq r) (mk0 n (zero t))) fun st=>st.putK (some r) (.row (nm r)) k) none
   |none=>none
  |_,_,_,_=>none
 |.buildSlice T n ps=>match E.el T,o.dst with
  |some (e,t),some r=>St.softsK (ps.toList.map (·.2)) st fun st=>match e0S st t ps.toList 0 with
   |some xs=>if xs.length=n/\n*t.sz<=16777216 then st.newK (nm r) (.row e t (E.exq r) xs) fun st=>st.putK (some r) (.row (nm r)) k else none
   |none=>none
  |_,_=>none
 |.range T x=>match E.ty T,o.dst,st.ev x with
  |some (.mp e),some q,.v (.mp e') m=>if e'=e then st.newK (nm q) (.iter e' m none) fun st=>st.putK (some q) (.box (nm q) 0) k else none
  |some (.mp e),some q,.mref r=>match Nat.blt r 1000 with
   |true=>none
   |false=>match v6 st.hp r with
    |some (.map e' m)=>if e'=e then st.liftK (freezeM r e' m) fun st=>st.delBK r fun st=>st.newK (nm q) (.iter e' m none) fun st=>st.putK (some q) (.box (nm q) 0) k else none
    |_=>none
  |_,_,_=>none
 |.next it false=>match o.dst,st.ev it with
  |some q,.box r 0=>match v6 st.hp r with
   |some (.iter e l _)=>br l.isEmpty (st.putK (some q) (.tup false [.bl false]) k)
     (BothC.al l fun p l'=>st.setBK r (.iter e l' (some p)) fun st=>st.putK (some q) (.tup false [.bl true,.v .str p.1,.v e p.2]) k)
   |_=>none
  |_,_=>none
 |.entry it=>match o.dst,st.ev it with
  |some q,.box r 0=>match v6 st.hp r with
   |some (.iter e _ (some p))=>st.putK (some q) (.tup false [.v .str p.1,.v e p.2]) k
   |_=>none
  |_,_=>none
 |.build T ps=>St.softTsK (ps.toList.map (·.2)) st fun st=>O0 E o.op o.type st fun d=>st.putK o.dst d k
 |.slice T x none (some hi) none=>match E.ty T,E.el T,st.ev x with
  |some (.sl t),some (_,t2),.row r=>match v6 st.hp r with
   |some (.row e t' true xs)=>match st.ev hi with
    |.v (.int .i64) n=>if t'=t/\t2=t then br (decide (0<=n/\n<=(xs.length:Int))) (st.liftK (forget [r]) fun st=>st.setBK r (.row e t' true (cut xs n)) fun st=>st.putK o.dst (.row r) k) none else none
    |_=>none
   |_=>O0 E o.op o.type st fun d=>st.putK o.dst d k
  |_,_,_=>O0 E o.op o.type st fun d=>st.putK o.dst d k
 |.slice T x (some lo) none none=>match E.ty T,E.el T,st.ev x with
  |some (.sl t),some (_,t2),.row r=>match v6 st.hp r with
   |some (.row _ t' true xs)=>match st.ev lo with
    |.v (.int .i64) i=>if t'=t/\t2=t then br (decide (0<=i/\i<=(xs.length:Int)/\0<xs.length)) (st.putK o.dst (.tl r t.sz i) k) none else none
    |_=>none
   |_=>O0 E o.op o.type st fun d=>st.putK o.dst d k
  |_,_,_=>O0 E o.op o.type st fun d=>st.putK o.dst d k
 |.convert S T x=>match E.ty S,E.el T,st.ev x with
  |some .str,some (_,.u8),.v .str s=>br (decide (s.length*24<=140737488355328)) (st.putK o.dst (.v (.sl .u8) s) k) none
  |_,_,_=>O0 E o.op o.type st fun d=>st.putK o.dst d k
 |.load T x=>match E.ty T,st.ev x with
  |some t,.box r off=>match t.isAgg,v6 st.hp r with
   |true,some (.cells cs)=>St.softDsK ((cs.drop off).take t.sz) st fun st=>O0 E o.op o.type st fun d=>st.putK o.dst d k
   |_,_=>O0 E o.op o.type st fun d=>st.putK o.dst d k
  |_,_=>O0 E o.op o.type st fun d=>st.putK o.dst d k
 |.call c=>match c.callee with
  |.value (.func f)=>b2Y E st o.dst f (c.args.toList.map st.ev) k
  |.builtin .clear=>match c.argTypes.toList,o.dst,c.args.toList with
   |[T],none,[x]=>match E.el T,st.ev x with
    |some (_,t),.tl r z i=>match v6 st.hp r,a9q t with
     |some (.row e t' true xs),some _=>if t'=t then match Nat.beq z t'.sz with
      |true=>st.setBK r (.row e t' true (clr xs i (zero t'))) k
      |false=>none
      else none
     |_,_=>none
    |_,_=>none
   |_,_,_=>none
  |.value (.tmp t)=>match st.ev (.tmp t)with
   |.v (.clo f ct) cx=>match c4w ct with
    |true=>b2Y E st o.dst f (c.args.toList.map st.ev++d3l ct cx) k
    |false=>none
   |.fnc f l=>b2Y E st o.dst f (c.args.toList.map st.ev++l.map fun r=> .box r 0) k
   |_=>none
  |.builtin .append=>match c.argTypes.toList,o.dst,c.args.toList with
   |[T,T'],some r,[x,y]=>if T=T' then
     match E.el T with
     |some (e,t)=>st.softK (st.ev y) fun st=>match st.dat (.sl t) (st.ev y)with
      |some ys=>match st.ev x with
       |.row q=>match v6 st.hp q with
        |some (.row e' t' ex xs)=>if h:t'=t then
          if e'=e then br (decide ((xs.length+ys.length)*(24*t.sz)<=140737488355328))
           (st.liftK (match ex with|true=>forget [q]|false=>snap q t' xs) fun st=>st.setBK q (.row e t ex ((h▸xs:List t.den)++ys)) fun st=>st.putK (some r) (.row q) k) none
          else none
         else none
        |_=>none
       |.nilS=>br (decide (ys.length*(24*t.sz)<=140737488355328)) (st.newK (nm r) (.row e t (E.exq r) ys) fun st=>st.putK (some r) (.row (nm r)) k) none
       |_=>none
      |none=>none
     |none=>none
    else none
   |_,_,_=>none
  |_=>O0 E o.op o.type st fun d=>st.putK o.dst d k
 |p=>O0 E p o.type st fun d=>st.putK o.dst d k
noncomputable def a8J(ops:List Oper)(o:Oper)(st:St)(run:St->Option R)(k:St->Option R):Option R:=
 match o.guard with
 |none=>run st
 |some (j,b)=>match ops[j]? with
  |some oj=>match oj.dst with
   |some t=>match st.ev (.tmp t)with
    |.v .bool c=>br c
      (match b with|true=>st.putK (some t) (.bl true) run|false=>st.putK (some t) (.bl true) fun st=>st.putK o.dst .skip k)
      (match b with|true=>st.putK (some t) (.bl false) fun st=>st.putK o.dst .skip k|false=>st.putK (some t) (.bl false) run)
    |.bl true=>match b with
     |true=>run st
     |false=>st.putK o.dst .skip k
    |.bl false=>match b with
     |true=>st.putK o.dst .skip k
     |false=>run st
    |.skip=>st.putK o.dst .skip k
    |_=>none
   |none=>none
  |none=>none
noncomputable def b5Z(E:Env)(all:List Oper)(l:List Oper):St->(St->Option R)->Option R:=List.rec (motive:=fun _=>St->(St->Option R)->Option R) (fun st k=>k st) (fun o _ ih st k=>a8J all o st (fun st=>opD E o st (fun st=>ih st k)) (fun st=>ih st k)) l
inductive Ex where
 |normal|exit (id:Nat)|ret
noncomputable def St.hardK(st:St)(s:Nat)(k:St->Option R):Option R:=match v6 st.fr s with
 |some (.row r)=>match v6 st.hp r with
  |some (.row _ t _ xs)=>st.liftK (snap r t xs) fun st=>st.delBK r k
  |_=>k st
 |_=>k st
noncomputable def St.hardsK(l:List Nat):St->(St->Option R)->Option R:=List.rec (motive:=fun _=>St->(St->Option R)->Option R) (fun st k=>k st) (fun s _ ih st k=>st.hardK s fun st=>ih st k) l
noncomputable def St.hard(st:St)(s:Nat):St:=match v6 st.fr s with
 |some (.row r)=>match v6 st.hp r with
  |some (.row _ t _ xs)=>(st.lift (snap r t xs)).delB r
  |_=>st
 |_=>st
noncomputable def St.hards:List Nat->St->St | [],st=>st|s :: l,st=>St.hards l (st.hard s)
theorem a7o:∀(l:List Nat) (st:St) (k:St->Option R),St.hardsK l st k=k (St.hards l st)
 |[],_,_=>rfl
 |s :: l,st,k=>by
  show st.hardK s (fun st=>St.hardsK l st k)=_;unfold St.hardK St.hards St.hard;split
  ·split
   ·rw[a0W,a6E];exact a7o l _ k
   ·exact a7o l _ k
  ·exact a7o l _ k
noncomputable def St.setNilK(st:St)(r j:Nat)(d:D)(k:St->Option R):Option R:=match v6 st.hp r with
 |some (.cells cs)=>match cs[j]? with
  |some .nilS=>st.setBK r (.cells (cs.set j d)) k
  |_=>k st
 |_=>k st
noncomputable def St.setNil(st:St)(r j:Nat)(d:D):St:=match v6 st.hp r with
 |some (.cells cs)=>match cs[j]? with
  |some .nilS=>st.setB r (.cells (cs.set j d))
  |_=>st
 |_=>st
theorem b3Q(st:St)(r j:Nat)(d:D)(k:St->Option R):st.setNilK r j d k=k (st.setNil r j d):=by
 unfold St.setNilK St.setNil;split
 ·split
  ·rw[a0t]
  ·rfl
 ·rfl
noncomputable def d3K(st:St)(r j:Nat):Bool:=match v6 st.hp r with
 |some (.cells cs)=>match cs[j]? with
  |some .nilS=>true
  |_=>false
 |_=>false
noncomputable def St.nilRowK(st:St)(r j q:Nat)(e:TypeId)(t:Ty)(k:St->Option R):Option R:=match d3K st r j,Nat.beq q 0 with
 |true,true=>st.setNilK r j (.v (.sl t) []) k
 |true,false=>match Nat.blt 999 q&&Nat.blt 0 t.sz with
  |true=>st.newK q (.row e t (Nat.ble 950000 q) []) fun st=>st.setNilK r j (.row q) k
  |false=>k st
 |false,_=>k st
noncomputable def St.nilRow(st:St)(r j q:Nat)(e:TypeId)(t:Ty):St:=match d3K st r j,Nat.beq q 0 with
 |true,true=>st.setNil r j (.v (.sl t) [])
 |true,false=>match Nat.blt 999 q&&Nat.blt 0 t.sz with
  |true=>(st.new q (.row e t (Nat.ble 950000 q) [])).setNil r j (.row q)
  |false=>st
 |false,_=>st
theorem c4Q(st:St)(r j q:Nat)(e:TypeId)(t:Ty)(k:St->Option R):st.nilRowK r j q e t k=k (st.nilRow r j q e t):=by
 unfold St.nilRowK St.nilRow;split
 ·rw[b3Q]
 ·split
  ·rw[a2Z,b3Q]
  ·rfl
 ·rfl
noncomputable def St.nilsK(l:List (Nat×Nat×Nat×TypeId×Ty)):St->(St->Option R)->Option R:=List.rec (motive:=fun _=>St->(St->Option R)->Option R) (fun st k=>k st) (fun s _ ih st k=>st.nilRowK s.1 s.2.1 s.2.2.1 s.2.2.2.1 s.2.2.2.2 fun st=>ih st k) l
noncomputable def St.nils:List (Nat×Nat×Nat×TypeId×Ty)->St->St | [],st=>st|s :: l,st=>St.nils l (st.nilRow s.1 s.2.1 s.2.2.1 s.2.2.2.1 s.2.2.2.2)
theorem c1o:∀(l:List (Nat×Nat×Nat×TypeId×Ty)) (st:St) (k:St->Option R),St.nilsK l st k=k (St.nils l st)
 |[],_,_=>rfl
 |s :: l,st,k=>by
  show st.nilRowK s.1 s.2.1 s.2.2.1 s.2.2.2.1 s.2.2.2.2 (fun st=>St.nilsK l st k)=_;rw[c4Q];exact c1o l _ k
noncomputable def St.keepK(st:St)(f h:List Nat)(k:St->Option R):Option R:=match st with
 |⟨n,fr,hp⟩=>b2M f nob fr fun fr=>a89 h hp fun hp=>k ⟨n,fr,hp⟩
def St.keep(st:St)(f h:List Nat):St:=⟨st.n,a1l f nob st.fr,a1l h Blk.past st.hp⟩
theorem c1c(st:St)(f h:List Nat)(k:St->Option R):st.keepK f h k=k (st.keep f h):=by
 obtain⟨n,fr,hp⟩:=st;unfold St.keepK St.keep;dsimp only;rw[a7i,a4R]
noncomputable def St.headK(st:St)(h:Hint)(k:St->Option R):Option R:=St.hardsK h.dm st fun st=>St.nilsK h.nl st fun st=>st.keepK h.hf h.hn k
noncomputable def St.head(st:St)(h:Hint):St:=(St.nils h.nl (St.hards h.dm st)).keep h.hf h.hn
theorem a9t(st:St)(h:Hint)(k:St->Option R):st.headK h k=k (st.head h):=by unfold St.headK St.head;rw[a7o,c1o,c1c]
noncomputable def St.tailK(st:St)(h:Hint)(k:St->Option R):Option R:=st.keepK h.xf h.xn k
def St.tail(st:St)(h:Hint):St:=st.keep h.xf h.xn
theorem d4M(st:St)(h:Hint)(k:St->Option R):st.tailK h k=k (st.tail h):=by unfold St.tailK St.tail;rw[c1c]
noncomputable def iter(h:Hint)(body:St->(Ex->St->Option R)->Option R):Nat->St->(Ex->St->Option R)->Option R
 |0,_,_=>none
 |n+1,st,k=>body st fun e st=>match e with
  |.normal=>st.headK h fun st=>iter h body n st k
  |.exit j=>st.tailK h (k (.exit j))
  |.ret=>k .ret st
def a3B:List Sl->Bool | [.v .u8]=>true | [.v (.int _)]=>true | [.v .bool]=>true | [.v .str]=>true|_=>false
def I8(E:Env)(o:Oper):Bool:=
 match o.op with
 |.assign (.const (.slice none 0 0))=>false
 |.convert _ T _=>(E.el T).isNone
 |.range _ _ | .next _ _ | .entry _=>false
 |.makeFunc _ _ _ | .alloc _ | .box _ _ | .store _ _ _ | .makeMap _ _ | .mapUpdate _ _ _ _ | .buildSlice _ _ _ | .makeSlice _ _ _ | .slice _ _ _ _ _ | .build _ _=>false
 |.call c=>match c.callee with
  |.value (.func f)=>match E.fn f o.dst with
   |some g=>a3B g.rs&&g.bs.isEmpty&&g.cs.isEmpty
   |none=>false
  |.builtin .len=>true
  |_=>false
 |_=>true
noncomputable def a33(l:List Nat):(List Nat->Option R)->Option R:=List.rec (motive:=fun _=>(List Nat->Option R)->Option R) (fun k=>k []) (fun a _ ih k=>ih fun l=>k (a :: l)) l
theorem a3x:∀(l:List Nat) (k:List Nat->Option R),a33 l k=k l
 |[],_=>rfl
 |a :: l,k=>by
  show a33 l (fun l=>k (a :: l))=_;exact a3x l fun l=>k (a :: l)
def b5L(s:List Nat)(x:Nat):List Nat:=match w9 s x with|true=>s|false=>x :: s
noncomputable def b6m(ops:Array Oper)(cl:List (Nat×List Nat))(j:Nat):List Nat:=match ops[j]? with
 |some oj=>oj.after.toList.foldl (fun s e=>match Region.binds .any e with
  |true=>match v6 cl e.on with
   |some c=>b5L (c.foldl b5L s) e.on
   |none=>b5L s e.on
  |false=>s) []
 |none=>[]
noncomputable def b26(ops:Array Oper):List Nat->List (Nat×List Nat)->List (Nat×List Nat) | [],cl=>cl|j :: r,cl=>b26 ops r ((j,b6m ops cl j) :: cl)
noncomputable def c0K(ops:Array Oper)(r:List Nat):List (Nat×List Nat)->(List (Nat×List Nat)->Option R)->Option R:=List.rec (motive:=fun _=>List (Nat×List Nat)->(List (Nat×List Nat)->Option R)->Option R) (fun cl k=>k cl) (fun j _ ih cl k=>a33 (b6m ops cl j) fun c=>ih ((j,c) :: cl) k) r
theorem a9f(ops:Array Oper):∀(r:List Nat) (cl:List (Nat×List Nat)) (k:List (Nat×List Nat)->Option R),c0K ops r cl k=k (b26 ops r cl)
 |[],_,_=>rfl
 |j :: r,cl,k=>by
  show a33 (b6m ops cl j) (fun c=>c0K ops r ((j,c) :: cl) k)=_;rw[a3x];exact a9f ops r _ k
noncomputable def c86(cl:List (Nat×List Nat))(i j:Nat):Bool:=match v6 cl j with|some c=>w9 c i|none=>false
noncomputable def b0H(cl:List (Nat×List Nat))(tl:List Nat)(i:Nat):Bool:=tl.all fun j=>Nat.beq j i||c86 cl i j
def a2n{α:Type}(ks:List Nat):List (Nat×α)->List (Nat×α)
 |[]=>[]
 |(j,x) :: l=>match w9 ks j with
  |true=>a2n ks l
  |false=>(j,x) :: a2n ks l
def St.aside(st:St)(l:List Nat):St:={n:=st.n,fr:=(st.lift (forget l)).fr,hp:=a2n l (st.lift (forget l)).hp}
def keepD(l:List Nat):D->Bool | .box r _=>w9 l r | .mref r=>w9 l r | .row r=>w9 l r | .elp r _ _ _=>w9 l r | .tl r _ _=>w9 l r | .fnc _ ns=>ns.all (w9 l) | .tup _ _=>false|_=>true
def keepB(l:List Nat):Blk->Bool | .cells cs=>cs.all (keepD l) | .bld _ cs=>cs.all (keepD l)|_=>true
noncomputable def b6e(l ds:List Nat)(fr:List (Nat×D)):List (Nat×D)->List (Nat×D)->List (Nat×D)
 |[],acc=>acc
 |(t,_) :: rest,acc=>match w9 ds t,v6 fr t with
  |false,some d=>match keepD l d with
   |true=>b6e l ds fr rest (a4S acc t d)
   |false=>b6e l ds fr rest acc
  |_,_=>b6e l ds fr rest acc
noncomputable def b6d(l:List Nat)(hp:List (Nat×Blk)):List Nat->List (Nat×Blk)->List (Nat×Blk)
 |[],acc=>acc
 |r :: rest,acc=>match v6 hp r with
  |some b=>match keepB l b with
   |true=>b6d l hp rest (a4S acc r b)
   |false=>b6d l hp rest acc
  |_=>b6d l hp rest acc
noncomputable def St.again(st st':St)(l ds:List Nat):St:={n:=st'.n,fr:=b6e l ds st.fr st.fr (st'.lift (forget l)).fr,hp:=b6d l st.hp l (a2n l (st'.lift (forget l)).hp)}
noncomputable def b86(E:Env)(ops:Array Oper)(i:Nat)(st:St)(k:St->Option R):Option R:=
 match ops[i]? with
 |some o=>a8J ops.toList o st (fun st=>opD E o st k) k
 |none=>none
def b0C:Op->Bool | .move _=>true | .assign (.const (.slice none 0 0))=>false | .assign _=>true | .nilCheck _=>true | .pick _ _ _=>true | .binOp _ _ _ _ _=>true | .unOp _ _ _=>true | .index _ _ _=>true | .indexAddr _ _ _=>true | .fieldAddr _ _ _=>true | .field _ _ _=>true | .extract _ _=>true|_=>false
def b2i(o:Oper):Bool:=match o.guard with
 |none=>b0C o.op
 |some _=>false
def b9t(ops:Array Oper)(listed:Array Bool)(i:Nat):Bool:=(match ops[i]? with|some o=>b2i o|none=>false)&&Region.free .any ops listed i
section
noncomputable def c0B(f:Nat->Option R):List Nat->Option R | []=>none | [i]=>f i|i :: j :: l=>BothC.bo (f i) (c0B f (j :: l))
noncomputable def b87(E:Env)(ops:Array Oper):Nat->Array Bool->St->(St->Option R)->Option R
 |0,listed,st,k=>match Region.ready .any ops listed with
  |[]=>k st
  |_ :: _=>none
 |n+1,listed,st,k=>match Region.ready .any ops listed with
  |[]=>k st
  |i :: rs=>match(i :: rs).find? (b9t ops listed)with
   |some j=>b86 E ops j st fun st=>b87 E ops n (listed.setIfInBounds j true) st k
   |none=>c0B (fun j=>b86 E ops j st fun st=>b87 E ops n (listed.setIfInBounds j true) st k) (i :: rs)
def b21(o:Oper):Bool:=match o.op with
 |.move _=>true
 |.assign _=>true
 |.extract _ _=>true
 |_=>false
def d3k(ops:Array Oper)(tl:Nat->Bool)(listed:Array Bool):Bool:=
 (List.range ops.size).all fun j=>listed.getD j true||tl j||match ops[j]? with
  |some o=>b21 o
  |none=>true
noncomputable def b88(E:Env)(ops:Array Oper)(cl:List (Nat×List Nat))(tl l ds:List Nat)(st0:St):Nat->Array Bool->St->(St->Option R)->Option R
 |0,listed,st,k=>match Region.ready .any ops listed with
  |[]=>k (st0.again st l ds)
  |_ :: _=>none
 |n+1,listed,st,k=>match Region.ready .any ops listed with
  |[]=>k (st0.again st l ds)
  |i :: rs=>match(i :: rs).all (w9 tl)||d3k ops (w9 tl) listed with
   |true=>b87 E ops (n+1) listed (st0.again st l ds) k
   |false=>match(i :: rs).find? (fun j=>b9t ops listed j&&b0H cl tl j && !w9 tl j)with
    |some j=>b86 E ops j st fun st=>b88 E ops cl tl l ds st0 n (listed.setIfInBounds j true) st k
    |none=>c0B (fun j=>match w9 tl j with
     |true=>b86 E ops j (st0.again st l ds) fun st=>b87 E ops n (listed.setIfInBounds j true) st k
     |false=>b86 E ops j st fun st=>b88 E ops cl tl l ds st0 n (listed.setIfInBounds j true) st k) (i :: rs)
def b3z(E:Env):Op->Bool
 |.load _ _=>true
 |.lookup _ _ _ _=>true
 |.convert _ T _=>(E.el T).isNone
 |.slice _ _ _ _ none=>true
 |.call c=>match c.callee with
  |.builtin .len=>true
  |_=>false
 |p=>b0C p
def b3Z(E:Env)(o:Oper):Bool:=match o.guard with
 |none=>b3z E o.op
 |some _=>false
noncomputable def b3V(E:Env)(l:List Nat)(o:Oper)(st:St)(k:St->Option R):Option R:=match b3Z E o with
 |true=>O0 E o.op o.type {st with hp:=a1l l id st.hp} fun d=>st.putK o.dst d k
 |false=>none
noncomputable def b6X(E:Env)(ops:Array Oper)(cl:List (Nat×List Nat))(tl l:List Nat):List Nat->Nat->Array Bool->St->(Nat->Array Bool->St->Option R)->Option R
 |[],n,listed,st,k=>k n listed st
 |i :: rest,n+1,listed,st,k=>match Region.free .any ops listed i&&(Region.ready .any ops listed).contains i&&b0H cl tl i with
  |true=>match ops[i]? with
   |some o=>b3V E l o st fun st=>b6X E ops cl tl l rest n (listed.setIfInBounds i true) st k
   |none=>none
  |false=>none
 |_ :: _,0,_,_,_=>none
def c6T(E:Env)(ops:Array Oper):List Nat:=
 (List.range ops.size).foldl (fun acc i=>match ops[i]? with
  |some o=>match b3Z E o&&o.after.all (fun e=>!Region.binds .any e||w9 acc e.on)with
   |true=>acc ++ [i]
   |false=>acc
  |none=>acc) []
noncomputable def b2j(ops:Array Oper)(cl:List (Nat×List Nat))(as:List Nat):List Nat:=(List.range ops.size).filter fun j=>!w9 as j&&as.all fun i=>c86 cl i j
def c87(ops:Array Oper)(listed:Array Bool):List Nat:=(List.range ops.size).filterMap fun i=>match listed.getD i true with
 |true=>none
 |false=>(ops[i]?).bind (·.dst)
noncomputable def d3q(E:Env)(ops:Array Oper)(l:List Nat)(st:St)(k:St->Option R):Option R:=c0K ops (List.range ops.size) [] fun cl=>a33 (c6T E ops) fun as=>a33 (b2j ops cl as) fun tl=>b6X E ops cl tl l as ops.size (Array.replicate ops.size false) st fun n listed st=>a33 (c87 ops listed) fun ds=>b88 E ops cl tl l ds st n listed (st.aside l) k
noncomputable def a42(ops:Array Oper)(o:Oper)(st:St):Option Bool:=match o.guard with
 |none=>some true
 |some (j,b)=>match ops[j]? with
  |some oj=>match oj.dst with
   |some t=>match st.ev (.tmp t)with
    |.bl true=>some b
    |.bl false=>some (!b)
    |.skip=>some false
    |_=>none
   |none=>none
  |none=>none
noncomputable def c6S(E:Env)(ops:Array Oper)(listed:Array Bool)(st:St):List Nat:=
 (List.range ops.size).foldl (fun acc i=>match listed.getD i true,ops[i]? with
  |false,some o=>match(match a42 ops o st with|some true=>b3z E o.op|some false=>true|none=>false)&&o.after.all (fun e=>!Region.binds .any e||w9 acc e.on||listed.getD e.on false)with
   |true=>acc ++ [i]
   |false=>acc
  |_,_=>acc) []
noncomputable def c6R(cl:List (Nat×List Nat))(tl as:List Nat):List Nat:=tl.filter fun j=>!w9 as j&&as.all fun i=>c86 cl i j
noncomputable def b3X(E:Env)(ops:Array Oper)(l:List Nat)(o:Oper)(st:St)(k:St->Option R):Option R:=match a42 ops o st with
 |some true=>match b3z E o.op with
  |true=>O0 E o.op o.type {st with hp:=a1l l id st.hp} fun d=>st.putK o.dst d k
  |false=>none
 |some false=>st.putK o.dst .skip k
 |none=>none
noncomputable def c1U(E:Env)(ops:Array Oper)(cl:List (Nat×List Nat))(tl l:List Nat):List Nat->Nat->Array Bool->St->(Nat->Array Bool->St->Option R)->Option R
 |[],n,listed,st,k=>k n listed st
 |i :: rest,n+1,listed,st,k=>match Region.free .any ops listed i&&(Region.ready .any ops listed).contains i&&b0H cl tl i with
  |true=>match ops[i]? with
   |some o=>b3X E ops l o st fun st=>c1U E ops cl tl l rest n (listed.setIfInBounds i true) st k
   |none=>none
  |false=>none
 |_ :: _,0,_,_,_=>none
noncomputable def b6C(ops:Array Oper)(listed:Array Bool)(st:St):List Nat->Option Nat
 |[]=>none
 |i :: r=>match listed.getD i true,ops[i]? with
  |false,some o=>match o.guard with
   |some (j,_)=>match ops[j]? with
    |some oj=>match oj.dst with
     |some t=>match st.ev (.tmp t)with
      |.v .bool _=>some t
      |_=>b6C ops listed st r
     |none=>b6C ops listed st r
    |none=>b6C ops listed st r
   |none=>b6C ops listed st r
  |_,_=>b6C ops listed st r
noncomputable def a8P(E:Env)(ops:Array Oper)(cl:List (Nat×List Nat))(l:List Nat):Nat->List Nat->Nat->Array Bool->St->(St->Option R)->Option R
 |0,_,_,_,_,_=>none
 |f+1,tl0,n,listed,st,k=>a33 (c6S E ops listed st) fun as=>a33 (c6R cl tl0 as) fun tl=>
  c1U E ops cl tl l as n listed st fun n listed st=>match b6C ops listed st (List.range ops.size)with
   |some t=>match st.ev (.tmp t)with
    |.v .bool c=>br c (st.putK (some t) (.bl true) fun st=>a8P E ops cl l f tl n listed st k) (st.putK (some t) (.bl false) fun st=>a8P E ops cl l f tl n listed st k)
    |_=>none
   |none=>match as with
    |[]=>a33 (c87 ops listed) fun ds=>b88 E ops cl tl l ds st n listed (st.aside l) k
    |_ :: _=>a8P E ops cl l f tl n listed st k
noncomputable def d3r(E:Env)(ops:Array Oper)(l:List Nat)(st:St)(k:St->Option R):Option R:=c0K ops (List.range ops.size) [] fun cl=>a8P E ops cl l (ops.size+1) (List.range ops.size) ops.size (Array.replicate ops.size false) st k
noncomputable def d3s(E:Env)(ops:Array Oper)(l as:List Nat)(st:St)(k:St->Option R):Option R:=c0K ops (List.range ops.size) [] fun cl=>a33 (b2j ops cl as) fun tl=>b6X E ops cl tl l as ops.size (Array.replicate ops.size false) st fun n listed st=>a33 (c87 ops listed) fun ds=>b88 E ops cl tl l ds st n listed (st.aside l) k
noncomputable def d3t(E:Env)(ops:Array Oper)(h:Hint)(st:St)(k:St->Option R):Option R:=match h.hf with
 |[]=>d3q E ops h.dm st k
 |[_]=>d3r E ops h.dm st k
 |[_,_]=>b87 E ops ops.size (Array.replicate ops.size false) st k
 |_ :: _ :: _ :: _=>d3s E ops h.dm h.hn st k
end
def c4v:D->Option Bool | .v .bool b=>some b | .bl b=>some b|_=>none
noncomputable def c1a(E:Env)(ops:Array Oper)(draw:Bool)(t:Nat)(st:St)(k:St->Option R):Option R:=
 match ops.toList.all (I8 E)&&(match draw with|true=>Region.lexB .any ops|false=>true)with
 |true=>k8 (@b5Z Bool (bothClassic Bool) E ops.toList ops.toList st fun st'=>c4v (st'.ev (.tmp t))) fun b=>
   a33 (ops.toList.filterMap (·.dst)) fun ds=>b1x id (a2n ds st.fr) fun fr=>(⟨st.n,fr,st.hp⟩:St).putK (some t) (.v .bool b) k
 |false=>none
noncomputable def e01(E:Env)(id:Nat)(ops:Array Oper)(draw:Bool)(st:St)(k:St->Option R):Option R:=match draw with
 |false=>b5Z E ops.toList ops.toList st k
 |true=>match ops.toList.all (I8 E)&&Region.lexB .any ops with
  |true=>b5Z E ops.toList ops.toList st k
  |false=>match Region.noSelect ops with
   |true=>d3t E ops (E.hint (100000+id)) st k
   |false=>none
noncomputable def St.knowK(st:St)(x:Operand)(b:Bool)(k:St->Option R):Option R:=match x with
 |.tmp t=>st.putK (some t) (.bl b) k
 |_=>k st
noncomputable def Q0(E:Env)(N:Nat)(c:Code):Nat->St->(Ex->St->Option R)->Option R:=
 Code.rec (motive:=fun _=>Nat->St->(Ex->St->Option R)->Option R)
  (fun _ st k=>k .normal st)
  (fun id ops draw _ st k=>match E.jn id with
   |some t=>c1a E ops draw t st (k .normal)
   |none=>e01 E id ops draw st (k .normal))
  (fun _ _ iha ihb i st k=>iha i st fun e st=>match e with
   |.normal=>ihb i st k
   |.exit j=>k (.exit j) st
   |.ret=>k .ret st)
  (fun c _ _ iht ihe i st k=>match st.ev c with
   |.v .bool b=>match E.kn with
    |false=>br b (iht i st k) (ihe i st k)
    |true=>br b (st.knowK c true fun st=>iht i st k) (st.knowK c false fun st=>ihe i st k)
   |.bl true=>iht i st k
   |.bl false=>ihe i st k
   |_=>none)
  (fun id _ ih _ st k=>ih id st fun e st=>match e with
   |.normal=>k .normal st
   |.exit j=>if j=id then k .normal st else k (.exit j) st
   |.ret=>k .ret st)
  (fun _ ih i st k=>st.headK (E.hint i) fun st=>iter (E.hint i) (ih i) N st k)
  (fun _ _ _ _ _ _ _ _ _=>none)
  (fun id _ st k=>k (.exit id) st)
  (fun _ _ _ _ _=>none)
  (fun _ _ _ _=>none)
  (fun _ _ _ _=>none)
  (fun _ st k=>k .ret st)
  (fun _ _ _ _=>none) c
theorem c0W(E:Env)(N id:Nat)(ops:Array Oper)(draw:Bool)(i:Nat)(st:St)(k:Ex->St->Option R):Q0 E N (.region id ops draw) i st k=(match E.jn id with
   |some t=>c1a E ops draw t st (k .normal)
   |none=>e01 E id ops draw st (k .normal)):=rfl
theorem c89(E:Env)(N:Nat)(c:Operand)(x y:Code)(i:Nat)(st:St)(k:Ex->St->Option R):Q0 E N (.cond c x y) i st k=(match st.ev c with
   |.v .bool b=>match E.kn with
    |false=>br b (Q0 E N x i st k) (Q0 E N y i st k)
    |true=>br b (st.knowK c true fun st=>Q0 E N x i st k) (st.knowK c false fun st=>Q0 E N y i st k)
   |.bl true=>Q0 E N x i st k
   |.bl false=>Q0 E N y i st k
   |_=>none):=rfl
theorem c9a(E:Env)(N:Nat)(c:Code)(i:Nat)(st:St)(k:Ex->St->Option R):Q0 E N (.loop c) i st k=st.headK (E.hint i) fun st=>iter (E.hint i) (Q0 E N c i) N st k:=rfl
noncomputable def b6J(E:Env)(st:St):List ResultVar->List D->(List D->Option R)->Option R | [],ds,k=>k ds | .tmp t :: l,ds,k=>a8r (st.ev (.tmp t)) fun d=>b6J E st l (ds ++ [d]) k | .cell x T :: l,ds,k=>c1h E st T (st.ev (.tmp x)) fun d=>a8r d fun d=>b6J E st l (ds ++ [d]) k
def upto:Nat->List Nat|0=>[]|n+1=>upto n ++ [n]
noncomputable def B4(E:Env)(f:Func)(F:AF)(pack:SV F.rs->BV F.cs->F.R)(st:St):Option F.R:=
 b6J E st f.results.toList [] fun ds=>a1t F.rs ds st fun st=>b5Y st F.rs ds (upto F.bs.length) [] fun x ρ β=>b5W st F.cs 0 ρ β fun y ρ β=>
  match β.any (w9 ρ),Nat.beq ρ.length F.cs.length with
  |false,true=>some (pack x y)
  |_,_=>none
def start(f:Func)(ps:List Sl)(bs:List Sb)(x:SV ps)(y:BV bs):St:={n:=f.ntmps,fr:=prms ps 0 x,hp:=blks bs 0 y}
where
 prms:(l:List Sl)->Nat->SV l->List (Nat×D)
  |[],_,_=>[]
  |.v (.ptr t) :: l,i,x=>(i,.at_ t x.1) :: prms l (i+1) x.2
  |.v .un :: l,i,x=>prms l (i+1) x.2
  |s :: l,i,x=>(i,d3Q (fun r=>r) s x.1) :: prms l (i+1) x.2
 blks:(l:List Sb)->Nat->BV l->List (Nat×Blk)
  |[],_,_=>[]
  |s :: l,i,x=>match c1f (fun r=>r) s x.1 with
   |some b=>(i,b) :: blks l (i+1) x.2
   |none=>blks l (i+1) x.2
noncomputable def b1I(E:Env)(N:Nat)(f:Func)(F:AF)(I:BothC F.R)(pack:SV F.rs->BV F.cs->F.R)(x:SV F.ps)(y:BV F.bs):Option F.R:=
 match f.body,Nat.ble F.ps.length f.ntmps,Nat.ble F.bs.length 1000 with
 |some c,true,true=>b1x id (start f F.ps F.bs x y).fr fun fr=>a6B id (start f F.ps F.bs x y).hp fun hp=>@Q0 F.R I E N c 0 ⟨f.ntmps,fr,hp⟩ fun e st=>match e with
  |.exit _=>none
  |.normal=>B4 E f F pack st
  |.ret=>B4 E f F pack st
 |_,_,_=>none
noncomputable def f6n(E:Env)(N:Nat)(f:Func)(F:AF)(pack:SV F.rs->BV F.cs->F.R)(x:SV F.ps)(y:BV F.bs):Option F.R:=b1I E N f F (bothClassic F.R) pack x y
end
end Go.Proofs.YtckdohagilcloaaGreatDoor
