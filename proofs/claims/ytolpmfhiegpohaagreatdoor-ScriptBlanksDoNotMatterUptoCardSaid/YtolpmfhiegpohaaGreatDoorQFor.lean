/- More words for memory: a slice whose elements are read by a relation; making room. No program is in sight here. -/
import Derived.Test.YtolpmfhiegpohaaGreatDoorQBm4
import Derived.Test.YtolpmfhiegpohaaGreatDoorQBmX
import Derived.Laws.StructEq
import Derived.Lib.Bytealg
import Derived.Test.YtolpmfhiegpohaaGreatDoorQBm1
import Derived.Defers
namespace Go.Proofs.YtolpmfhiegpohaaGreatDoor
set_option linter.unusedVariables false
set_option linter.unusedSimpArgs false
open Go Go.RowKit
section
def e1D(p:Prop):Prop:=p
theorem stop{p:Prop}(h:p):e1D p:=h
def SL{α:Type}(w:World)(sz:Nat)(R:List Value->α->Prop)(v:Value)(L:List α):Prop:=∃A c,v = .slice A L.length c/\L.length<=c/\c<=maxLen/\∀i (h:i<L.length),∃ad vs,A=some ad/\vs.length=sz/\R vs L[i]/\∀j u,vs[j]? = some u->w.cell? (ad.add (i*sz+j))=some u
theorem SL.ext{α:Type}{w w':World}{sz:Nat}{R R':List Value->α->Prop}{v:Value}{L:List α}(h:SL w sz R v L)(hE:Ext w w')(hR:∀vs x,R vs x->R' vs x):SL w' sz R' v L:=by
 obtain⟨A,c,e,h1,h2,hr⟩:=h
 refine⟨A,c,e,h1,h2,fun i hi=>?_⟩
 obtain⟨ad,vs,a1,a2,a3,a4⟩:=hr i hi
 exact⟨ad,vs,a1,a2,hR _ _ a3,fun j u hu=>hE.cell (a4 j u hu)⟩
theorem SL.nil{α:Type}(w:World)(sz:Nat)(R:List Value->α->Prop):SL w sz R (.slice none 0 0) []:=⟨none,0,rfl,Nat.le_refl _,Nat.zero_le _,fun i h=>absurd h (by simp)⟩
def BsE(w:World)(vs:List Value)(l:List UInt8):Prop:=∃v,vs=[v]/\Bs w v l
theorem BsE.ext{w w':World}{vs:List Value}{l:List UInt8}(h:BsE w vs l)(hE:Ext w w'):BsE w' vs l:=let ⟨v,e,h⟩:=h;⟨v,e,h.ext hE⟩
def BBs(w:World)(v:Value)(L:List (List UInt8)):Prop:=SL w 1 (BsE w) v L
theorem BBs.ext{w w':World}{v:Value}{L:List (List UInt8)}(h:BBs w v L)(hE:Ext w w'):BBs w' v L:=SL.ext h hE fun _ _ h=>h.ext hE
theorem SL.of_own{α:Type}{w:World}{base:Nat}{e:TypeId}{v:Value}{xs:List Value}{R:List Value->α->Prop}{L:List α}(h:w.ownsRow base e 1 v L.length xs)(hR:∀i (h:i<L.length) u,xs[i]? = some u->R [u] L[i]):SL w 1 R v L:=by
 have hn:xs.length=L.length:=by have:=h.1;omega
 obtain⟨A,c,rfl,h1,h2,hr⟩:=Row.of_own' h
 refine⟨A,c,rfl,h1,h2,fun i hi=>?_⟩
 obtain⟨ad,rfl,hc⟩:=hr.at_ (List.getElem?_eq_getElem (show i<xs.length by omega))
 refine⟨ad,[xs[i]'(by omega)],rfl,rfl,hR i hi _ (List.getElem?_eq_getElem _),fun j u hu=>?_⟩
 match j,hu with
 |0,hu=>simp at hu;subst hu;simpa using hc
theorem BBs.at_{w:World}{A:Option Addr}{n c:Nat}{L:List (List UInt8)}(h:BBs w (.slice A n c) L){i:Nat}(hi:i<L.length):∃ad B d,A=some ad/\w.cell? (ad.add i)=some (.slice B (L[i]'hi).length d)/\(L[i]'hi).length<=d/\d<=maxLen/\Row w B (bcs (L[i]'hi)):=by
 obtain⟨A',c',e,_,_,hr⟩:=h
 obtain⟨ad,vs,a1,a2,⟨v,rfl,⟨B,d,rfl,h1,h2,h3⟩⟩,a4⟩:=hr i hi
 injection e with e1 e2 e3
 subst e1
 exact⟨ad,B,d,a1,by simpa using a4 0 _ rfl,h1,h2,h3⟩
end
section
inductive Sc(P:Program):Ty->TypeId->Prop where
 |u8 {T:TypeId}:P.underlying T=some (.int .u8)->Sc P .u8 T
 |int {T:TypeId} {k:IntKind}:P.underlying T=some (.int k)->Sc P (.int k) T
 |bool {T:TypeId}:P.underlying T=some .bool->Sc P .bool T
 |str {T:TypeId}:P.underlying T=some .string->Sc P .str T
inductive FlatF(P:Program):Ty->List Field->Nat->Prop where
 |nil {o:Nat}:FlatF P .un [] o
 |one {t:Ty} {f:Field} {o:Nat}:f.offset=o->f.name≠ "_"->Sc P t f.type->FlatF P t [f] o
 |single {t:Ty} {f:Field} {o:Nat}:f.offset=o->f.name≠ "_"->Sc P t f.type->FlatF P (.pr t .un) [f] o
 |cons {a b:Ty} {f:Field} {fs:List Field} {o:Nat}:f.offset=o->f.name≠ "_"->Sc P a f.type->FlatF P b fs (o+1)->FlatF P (.pr a b) (f :: fs) o
section
variable{P:Program}{w:World}
theorem Sc.sz{t:Ty}{T:TypeId}(h:Sc P t T):t.sz=1:=by cases h<;>rfl
theorem Sc.cell{t:Ty}{T:TypeId}(h:Sc P t T)(x:t.den):∃c,cellsOf t x=[c]:=by cases h<;>exact⟨_,rfl⟩
theorem Sc.isAgg{t:Ty}{T:TypeId}(h:Sc P t T):(Go.isAgg T).run P w = .ok false w:=by
 cases h<;>rename_i hu<;>simp[Go.isAgg,run_underlying hu]
theorem Sc.eq{t:Ty}{T:TypeId}(h:Sc P t T)(d:Nat){x y:t.den}{a b:Value}(ha:cellsOf t x=[a])(hb:cellsOf t y=[b]):(Op.equalIn (d+1) T a b).run P w = .ok (eqb t x y) w:=by
 cases h with
 |u8 hu=>
  have ha':[Value.int .u8 (UInt8.toNat x)]=[a]:=ha
  have hb':[Value.int .u8 (UInt8.toNat y)]=[b]:=hb
  injection ha' with ha';injection hb' with hb'
  subst ha';subst hb'
  rw[run_equalIn_int w d _ _ _ _ _ hu]
  congr 1
  show decide _=decide _
  exact decide_eq_decide.2 ⟨fun h=>UInt8.toNat_inj.1 (by omega),fun h=>by rw[h]⟩
 |int hu=>
  have ha':[Value.int _ x]=[a]:=ha
  have hb':[Value.int _ y]=[b]:=hb
  injection ha' with ha';injection hb' with hb'
  subst ha';subst hb'
  rw[run_equalIn_int w d _ _ _ _ _ hu]
  rfl
 |bool hu=>
  have ha':[Value.bool x]=[a]:=ha
  have hb':[Value.bool y]=[b]:=hb
  injection ha' with ha';injection hb' with hb'
  subst ha';subst hb'
  rw[run_equalIn_bool' w d _ _ _ hu]
  rfl
 |str hu=>
  have ha':[Value.string ⟨List.toArray x⟩]=[a]:=ha
  have hb':[Value.string ⟨List.toArray y⟩]=[b]:=hb
  injection ha' with ha';injection hb' with hb'
  subst ha';subst hb'
  rw[run_equalIn_string w d _ _ _ hu,Lib.toList_data,Lib.toList_data]
  rfl
theorem b2B{T:TypeId}{xs:Array Value}{o:Nat}{c:Value}(h:(Go.isAgg T).run P w = .ok false w)(hc:xs[o]? = some c):(part T xs o).run P w = .ok c w:=by
 simp[part,h,hc]
theorem d5U(d:Nat):∀(fs:List Field) (t:Ty) (o:Nat) (xs ys:Array Value) (x y:t.den),FlatF P t fs o->(xs.toList.drop o).take t.sz=cellsOf t x->(ys.toList.drop o).take t.sz=cellsOf t y->
  (Op.eqFields (d+1) xs ys fs).run P w = .ok (eqb t x y) w:=by
 have hone:∀(xs:Array Value) (o:Nat) (c:Value) (n:Nat) (l:List Value),(xs.toList.drop o).take (1+n)=c :: l->xs[o]? = some c/\(xs.toList.drop (o+1)).take n=l:=fun xs o c n l h=>by
  have hc:xs.toList.drop o=c :: xs.toList.drop (o+1):=by
   cases hd:xs.toList.drop o with
   |nil=>rw[hd]at h;simp at h
   |cons e r=>
    rw[hd,Nat.add_comm,List.take_succ_cons]at h
    injection h with h1 h2
    rw[h1]
    congr 1
    have:=congrArg (List.drop 1) hd
    rw[List.drop_drop]at this
    simpa [Nat.add_comm]using this.symm
  refine⟨?_,?_⟩
  ·have:=congrArg (fun l=>l[0]?) hc
   simpa using this
  ·rw[hc,Nat.add_comm,List.take_succ_cons]at h
   injection h
 intro fs
 induction fs with
 |nil=>
  intro t o xs ys x y hf _ _
  cases hf
  simp[Op.eqFields,eqb]
 |cons f fs ih=>
  intro t o xs ys x y hf hx hy
  have hstep:∀(a:Ty) (xa ya:a.den) (ca cb:Value) (r:Bool),f.offset=o->f.name≠ "_"->Sc P a f.type->cellsOf a xa=[ca]->cellsOf a ya=[cb]->xs[o]? = some ca->ys[o]? = some cb->
    (Op.eqFields (d+1) xs ys fs).run P w = .ok r w->(Op.eqFields (d+1) xs ys (f :: fs)).run P w = .ok (eqb a xa ya&&r) w:=fun a xa ya ca cb r ho hn hs h1 h2 h3 h4 h5=>by
   subst ho
   simp only[Op.eqFields,hn,ne_eq,not_false_eq_true,if_true,Sem.run_bind,b2B hs.isAgg h3,b2B hs.isAgg h4,hs.eq d h1 h2,Result.andThen_ok]
   cases eqb a xa ya with
   |true=>simpa using h5
   |false=>simp
  cases hf with
  |one ho hn hs=>
   obtain⟨ca,h1⟩:=hs.cell x
   obtain⟨cb,h2⟩:=hs.cell y
   rw[hs.sz,h1]at hx
   rw[hs.sz,h2]at hy
   have:=hstep t x y ca cb true ho hn hs h1 h2 (hone xs o ca 0 [] hx).1 (hone ys o cb 0 [] hy).1 (by simp[Op.eqFields])
   simpa using this
  |single ho hn hs=>
   rename_i a
   obtain⟨xa,u⟩:=x
   obtain⟨ya,v⟩:=y
   obtain⟨ca,h1⟩:=hs.cell xa
   obtain⟨cb,h2⟩:=hs.cell ya
   have hx':(xs.toList.drop o).take (a.sz+0)=cellsOf a xa ++ []:=hx
   have hy':(ys.toList.drop o).take (a.sz+0)=cellsOf a ya ++ []:=hy
   rw[hs.sz,h1]at hx'
   rw[hs.sz,h2]at hy'
   exact hstep a xa ya ca cb true ho hn hs h1 h2 (hone xs o ca 0 [] hx').1 (hone ys o cb 0 [] hy').1 (by simp[Op.eqFields])
  |@cons a b _ _ _ ho hn hs hr=>
   obtain⟨xa,xb⟩:=x
   obtain⟨ya,yb⟩:=y
   obtain⟨ca,h1⟩:=hs.cell xa
   obtain⟨cb,h2⟩:=hs.cell ya
   have hx':(xs.toList.drop o).take (a.sz+b.sz)=cellsOf a xa++cellsOf b xb:=hx
   have hy':(ys.toList.drop o).take (a.sz+b.sz)=cellsOf a ya++cellsOf b yb:=hy
   rw[hs.sz,h1]at hx'
   rw[hs.sz,h2]at hy'
   obtain⟨k1,k2⟩:=hone xs o ca b.sz _ hx'
   obtain⟨k3,k4⟩:=hone ys o cb b.sz _ hy'
   exact hstep a xa ya ca cb _ ho hn hs h1 h2 k1 k3 (ih b (o+1) xs ys xb yb hr k2 k4)
theorem FlatF.len{t:Ty}{fs:List Field}{o:Nat}(h:FlatF P t fs o)(x:t.den):(cellsOf t x).length=t.sz:=by
 induction h with
 |nil=>rfl
 |one _ _ hs=>obtain⟨c,hc⟩:=hs.cell x;rw[hc,hs.sz];rfl
 |single _ _ hs=>
  obtain⟨xa,u⟩:=x
  obtain⟨c,hc⟩:=hs.cell xa
  show(cellsOf _ xa ++ []).length=_+0
  rw[hc,hs.sz];rfl
 |cons _ _ hs _ ih=>
  obtain⟨xa,xb⟩:=x
  obtain⟨c,hc⟩:=hs.cell xa
  show(cellsOf _ xa++cellsOf _ xb).length=_+_
  rw[List.length_append,hc,hs.sz,ih xb];rfl
theorem CmpOk.flat{T:TypeId}{t:Ty}{fs:Array Field}(hc:a3f t=true)(ha:t.isAgg=true)(hu:P.underlying T=some (.struct fs))(hp:P.stoodInHeld T=false)(hg:P.eqGuardType P.depth T=false)(hf:FlatF P t fs.toList 0):CmpOk P T t:=by
 have hfo:P.fieldsOf T=fs:=by unfold Program.fieldsOf;rw[hu]
 have heq:∀(x y:t.den) (w:World),(Op.equalIn 10000 T (.agg (cellsOf t x).toArray) (.agg (cellsOf t y).toArray)).run P w = .ok (eqb t x y) w:=fun x y w=>by
  rw[run_equalIn_agg w 9999 T _ _ (by rw[hfo];exact hu) hp,hfo]
  refine d5U 9998 fs.toList t 0 _ _ x y hf ?_ ?_
  ·rw[List.drop_zero,List.take_of_length_le (by simp[hf.len x])]
  ·rw[List.drop_zero,List.take_of_length_le (by simp[hf.len y])]
 refine⟨hc,ha,fun x y ox oy w=>⟨?_,?_⟩⟩
 ·simp only[Sem.run_bind,run_eqGuard_agg w _ _ _ _ _ _ hg,Result.andThen_ok,run_eql_struct,heq]
 ·simp only[Sem.run_bind,run_eqGuard_agg w _ _ _ _ _ _ hg,Result.andThen_ok,run_neq_struct,heq]
end
end
section
open Go
def a8U{α:Type}(f:α->α->Bool):List α->List α->Bool
 |[],[]=>true
 |a :: l,b :: m=>match f a b with|true=>a8U f l m|false=>false
 |_,_=>false
theorem X0{α:Type}{f:α->α->Bool}(hf:∀a b,f a b=true->a=b):∀{l m:List α},a8U f l m=true->l=m
 |[],[],_=>rfl
 |a :: l,b :: m,h=>by
  unfold a8U at h
  split at h
  ·rename_i h1;rw[hf a b h1,X0 hf h]
  ·cases h
 |[],_ :: _,h=>by cases h
 |_ :: _,[],h=>by cases h
def a7i(a b:Nat):Bool:=Nat.beq a b
theorem Q4(a b:Nat)(h:a7i a b=true):a=b:=Nat.eq_of_beq_eq_true h
def d84(a b:UInt8):Bool:=Nat.beq a.toNat b.toNat
theorem c44(a b:UInt8)(h:d84 a b=true):a=b:=UInt8.toNat_inj.1 (Nat.eq_of_beq_eq_true h)
def a7X(a b:List UInt8):Bool:=a8U d84 a b
theorem S4(a b:List UInt8)(h:a7X a b=true):a=b:=X0 c44 h
def b0L(a b:Int):Bool:=decide (a=b)
theorem W9(a b:Int)(h:b0L a b=true):a=b:=of_decide_eq_true h
def c83(a b:Bool):Bool:=match a,b with
 |true,true=>true
 |false,false=>true
 |_,_=>false
theorem b2Y(a b:Bool)(h:c83 a b=true):a=b:=by cases a<;>cases b<;>first|rfl|cases h
def d85{α:Type}(f:α->α->Bool):Option α->Option α->Bool|none,none=>true|some a,some b=>f a b|_,_=>false
theorem c45{α:Type}{f:α->α->Bool}(hf:∀a b,f a b=true->a=b):∀{l m:Option α},d85 f l m=true->l=m
 |none,none,_=>rfl
 |some a,some b,h=>by rw[hf a b h]
 |none,some _,h=>by cases h
 |some _,none,h=>by cases h
theorem w9{a b:Bool}(h:(a&&b)=true):a=true/\b=true:=by simpa using h
mutual
def GExpr.same:GExpr->GExpr->Bool | .mk a b c d e,.mk a' b' c' d' e'=>b0L a a'&&(a7X b b'&&(b0L c c'&&(a8U a7X d d'&&GExpr.sames e e')))
def GExpr.sames:List GExpr->List GExpr->Bool | [],[]=>true|x :: l,y :: m=>GExpr.same x y&&GExpr.sames l m|_,_=>false
end
mutual
theorem GExpr.same_eq:∀x y,GExpr.same x y=true->x=y
 |.mk a b c d e,.mk a' b' c' d' e',h=>by
  unfold GExpr.same at h
  obtain⟨h1,h⟩:=w9 h
  obtain⟨h2,h⟩:=w9 h
  obtain⟨h3,h⟩:=w9 h
  obtain⟨h4,h⟩:=w9 h
  rw[W9 _ _ h1,S4 _ _ h2,W9 _ _ h3,X0 S4 h4,GExpr.sames_eq _ _ h]
theorem GExpr.sames_eq:∀x y,GExpr.sames x y=true->x=y
 |[],[],_=>rfl
 |x :: l,y :: m,h=>by
  unfold GExpr.sames at h
  obtain⟨h1,h⟩:=w9 h
  rw[GExpr.same_eq _ _ h1,GExpr.sames_eq _ _ h]
 |[],_ :: _,h=>by unfold GExpr.sames at h;cases h
 |_ :: _,[],h=>by unfold GExpr.sames at h;cases h
end
mutual
def GPart.same:GPart->GPart->Bool | .mk a b c d e f,.mk a' b' c' d' e' f'=>b0L a a'&&(a7X b b'&&(b0L c c'&&(a8U a7X d d'&&(b0L e e'&&GPart.sames f f'))))
def GPart.sames:List GPart->List GPart->Bool | [],[]=>true|x :: l,y :: m=>GPart.same x y&&GPart.sames l m|_,_=>false
end
mutual
theorem GPart.same_eq:∀x y,GPart.same x y=true->x=y
 |.mk a b c d e f,.mk a' b' c' d' e' f',h=>by
  unfold GPart.same at h
  obtain⟨h1,h⟩:=w9 h
  obtain⟨h2,h⟩:=w9 h
  obtain⟨h3,h⟩:=w9 h
  obtain⟨h4,h⟩:=w9 h
  obtain⟨h5,h⟩:=w9 h
  rw[W9 _ _ h1,S4 _ _ h2,W9 _ _ h3,X0 S4 h4,W9 _ _ h5,GPart.sames_eq _ _ h]
theorem GPart.sames_eq:∀x y,GPart.sames x y=true->x=y
 |[],[],_=>rfl
 |x :: l,y :: m,h=>by
  unfold GPart.sames at h
  obtain⟨h1,h⟩:=w9 h
  rw[GPart.same_eq _ _ h1,GPart.sames_eq _ _ h]
 |[],_ :: _,h=>by unfold GPart.sames at h;cases h
 |_ :: _,[],h=>by unfold GPart.sames at h;cases h
end
mutual
def GValue.same:GValue->GValue->Bool | .mk a b c d e,.mk a' b' c' d' e'=>b0L a a'&&(a7X b b'&&(b0L c c'&&(a8U a7X d d'&&GValue.sames e e')))
def GValue.sames:List (List UInt8×GValue)->List (List UInt8×GValue)->Bool | [],[]=>true|x :: l,y :: m=>GValue.samep x y&&GValue.sames l m|_,_=>false
def GValue.samep:List UInt8×GValue->List UInt8×GValue->Bool|(a,b),(a',b')=>a7X a a'&&GValue.same b b'
end
mutual
theorem GValue.same_eq:∀x y,GValue.same x y=true->x=y
 |.mk a b c d e,.mk a' b' c' d' e',h=>by
  unfold GValue.same at h
  obtain⟨h1,h⟩:=w9 h
  obtain⟨h2,h⟩:=w9 h
  obtain⟨h3,h⟩:=w9 h
  obtain⟨h4,h⟩:=w9 h
  rw[W9 _ _ h1,S4 _ _ h2,W9 _ _ h3,X0 S4 h4,GValue.sames_eq _ _ h]
theorem GValue.sames_eq:∀x y,GValue.sames x y=true->x=y
 |[],[],_=>rfl
 |x :: l,y :: m,h=>by
  unfold GValue.sames at h
  obtain⟨h1,h⟩:=w9 h
  rw[GValue.samep_eq _ _ h1,GValue.sames_eq _ _ h]
 |[],_ :: _,h=>by unfold GValue.sames at h;cases h
 |_ :: _,[],h=>by unfold GValue.sames at h;cases h
theorem GValue.samep_eq:∀x y,GValue.samep x y=true->x=y
 |(a,b),(a',b'),h=>by
  unfold GValue.samep at h
  obtain⟨h1,h⟩:=w9 h
  rw[S4 _ _ h1,GValue.same_eq _ _ h]
end
mutual
def GStmt.same:GStmt->GStmt->Bool | .mk a b c d e f g h i,.mk a' b' c' d' e' f' g' h' i'=>b0L a a'&&(a7X b b'&&(a7X c c'&&(a8U a7X d d'&&(a8U (fun p q=>a7X p.1 q.1&&GExpr.same p.2 q.2) e e'&&(GExpr.same f f'&&(GStmt.sames g g'&&(GStmt.sames h h'&&b0L i i')))))))
def GStmt.sames:List GStmt->List GStmt->Bool | [],[]=>true|x :: l,y :: m=>GStmt.same x y&&GStmt.sames l m|_,_=>false
end
mutual
theorem GStmt.same_eq:∀x y,GStmt.same x y=true->x=y
 |.mk a b c d e f g h i,.mk a' b' c' d' e' f' g' h' i',hh=>by
  unfold GStmt.same at hh
  obtain⟨h1,hh⟩:=w9 hh
  obtain⟨h2,hh⟩:=w9 hh
  obtain⟨h3,hh⟩:=w9 hh
  obtain⟨h4,hh⟩:=w9 hh
  obtain⟨h5,hh⟩:=w9 hh
  obtain⟨h6,hh⟩:=w9 hh
  obtain⟨h7,hh⟩:=w9 hh
  obtain⟨h8,h9⟩:=w9 hh
  have he:e=e':=X0 (fun p q hpq=>by
   obtain⟨k1,k2⟩:=w9 hpq
   exact Prod.ext (S4 _ _ k1) (GExpr.same_eq _ _ k2)) h5
  rw[W9 _ _ h1,S4 _ _ h2,S4 _ _ h3,X0 S4 h4,he,GExpr.same_eq _ _ h6,GStmt.sames_eq _ _ h7,GStmt.sames_eq _ _ h8,W9 _ _ h9]
theorem GStmt.sames_eq:∀x y,GStmt.sames x y=true->x=y
 |[],[],_=>rfl
 |x :: l,y :: m,h=>by
  unfold GStmt.sames at h
  obtain⟨h1,h⟩:=w9 h
  rw[GStmt.same_eq _ _ h1,GStmt.sames_eq _ _ h]
 |[],_ :: _,h=>by unfold GStmt.sames at h;cases h
 |_ :: _,[],h=>by unfold GStmt.sames at h;cases h
end
def RC.same:(i:RC)->i.den->i.den->Bool | .value=>GValue.same | .expr=>GExpr.same | .stmt=>GStmt.same | .part=>GPart.same
theorem RC.same_eq:∀(i:RC) (x y:i.den),i.same x y=true->x=y
 |.value=>GValue.same_eq
 |.expr=>GExpr.same_eq
 |.stmt=>GStmt.same_eq
 |.part=>GPart.same_eq
def Ty.same:(t:Ty)->t.den->t.den->Bool | .u8,x,y=>d84 x y | .int _,x,y=>b0L x y | .bool,x,y=>c83 x y | .str,x,y=>a7X x y | .sl t,x,y=>a8U t.same x y | .pr a b,x,y=>a.same x.1 y.1&&b.same x.2 y.2 | .un,_,_=>true | .mp e,x,y=>a8U (fun p q=>a7X p.1 q.1&&e.same p.2 q.2) x y | .ptr t,x,y=>t.same x y | .np t,x,y=>d85 t.same x y | .nl,_,_=>true | .clo _ t,x,y=>t.same x y | .rc i,x,y=>i.same x y
theorem Ty.same_eq:∀(t:Ty) (x y:t.den),t.same x y=true->x=y
 |.u8,x,y,h=>c44 x y h
 |.int _,x,y,h=>W9 x y h
 |.bool,x,y,h=>b2Y x y h
 |.str,x,y,h=>S4 x y h
 |.sl t,x,y,h=>X0 t.same_eq h
 |.pr a b,x,y,h=>by
  obtain⟨h1,h2⟩:=w9 h
  exact Prod.ext (a.same_eq _ _ h1) (b.same_eq _ _ h2)
 |.un,_,_,_=>rfl
 |.mp e,x,y,h=>X0 (fun p q hpq=>by
   obtain⟨k1,k2⟩:=w9 hpq
   exact Prod.ext (S4 _ _ k1) (e.same_eq _ _ k2)) h
 |.ptr t,x,y,h=>t.same_eq x y h
 |.np t,x,y,h=>c45 t.same_eq h
 |.nl,_,_,_=>rfl
 |.clo _ t,x,y,h=>t.same_eq x y h
 |.rc i,x,y,h=>i.same_eq x y h
mutual
def D.same:D->D->Bool | .dead,.dead=>true | .skip,.skip=>true | .bl a,.bl b=>c83 a b | .v t x,.v t' y=>if h:t=t' then t'.same (h▸x) y else false | .nilS,.nilS=>true | .nilP,.nilP=>true | .row r,.row r'=>a7i r r' | .elp r s i o,.elp r' s' i' o'=>a7i r r'&&(a7i s s'&&(b0L i i'&&a7i o o')) | .tl r s i,.tl r' s' i'=>a7i r r'&&(a7i s s'&&b0L i i') | .box r o,.box r' o'=>a7i r r'&&a7i o o' | .at_ t x,.at_ t' y=>if h:t=t' then t'.same (h▸x) y else false | .tup b l,.tup b' l'=>c83 b b'&&D.sames l l' | .mref r,.mref r'=>a7i r r' | .fnc f l,.fnc f' l'=>a7i f f'&&a8U a7i l l'|_,_=>false
def D.sames:List D->List D->Bool | [],[]=>true|x :: l,y :: m=>D.same x y&&D.sames l m|_,_=>false
end
mutual
theorem D.same_eq:∀x y,D.same x y=true->x=y
 |.dead,y,h=>by cases y<;>first|rfl|(unfold D.same at h;cases h)
 |.skip,y,h=>by cases y<;>first|rfl|(unfold D.same at h;cases h)
 |.nilS,y,h=>by cases y<;>first|rfl|(unfold D.same at h;cases h)
 |.nilP,y,h=>by cases y<;>first|rfl|(unfold D.same at h;cases h)
 |.bl a,y,h=>by
  cases y<;>(unfold D.same at h)
  case bl b=>rw[b2Y _ _ h]
  all_goals cases h
 |.v t x,y,h=>by
  cases y<;>(unfold D.same at h)
  case v t' y=>
   split at h
   ·rename_i e;subst e;have e2:x=y:=t.same_eq x y h;rw[e2]
   ·cases h
  all_goals cases h
 |.row a,y,h=>by
  cases y<;>(unfold D.same at h)
  case row b=>rw[Q4 _ _ h]
  all_goals cases h
 |.elp a b c d,y,h=>by
  cases y<;>(unfold D.same at h)
  case elp a' b' c' d'=>
   obtain⟨h1,h⟩:=w9 h
   obtain⟨h2,h⟩:=w9 h
   obtain⟨h3,h4⟩:=w9 h
   rw[Q4 _ _ h1,Q4 _ _ h2,W9 _ _ h3,Q4 _ _ h4]
  all_goals cases h
 |.tl a b c,y,h=>by
  cases y<;>(unfold D.same at h)
  case tl a' b' c'=>
   obtain⟨h1,h⟩:=w9 h
   obtain⟨h2,h3⟩:=w9 h
   rw[Q4 _ _ h1,Q4 _ _ h2,W9 _ _ h3]
  all_goals cases h
 |.box a b,y,h=>by
  cases y<;>(unfold D.same at h)
  case box a' b'=>
   obtain⟨h1,h2⟩:=w9 h
   rw[Q4 _ _ h1,Q4 _ _ h2]
  all_goals cases h
 |.at_ t x,y,h=>by
  cases y<;>(unfold D.same at h)
  case at_ t' y=>
   split at h
   ·rename_i e;subst e;have e2:x=y:=t.same_eq x y h;rw[e2]
   ·cases h
  all_goals cases h
 |.tup a l,y,h=>by
  cases y<;>(unfold D.same at h)
  case tup b m=>
   obtain⟨h1,h2⟩:=w9 h
   rw[b2Y _ _ h1,D.sames_eq _ _ h2]
  all_goals cases h
 |.mref a,y,h=>by
  cases y<;>(unfold D.same at h)
  case mref b=>rw[Q4 _ _ h]
  all_goals cases h
 |.fnc f l,y,h=>by
  cases y<;>(unfold D.same at h)
  case fnc g m=>
   obtain⟨h1,h2⟩:=w9 h
   rw[Q4 _ _ h1,X0 Q4 h2]
  all_goals cases h
theorem D.sames_eq:∀x y,D.sames x y=true->x=y
 |[],[],_=>rfl
 |x :: l,y :: m,h=>by
  unfold D.sames at h
  obtain⟨h1,h⟩:=w9 h
  rw[D.same_eq _ _ h1,D.sames_eq _ _ h]
 |[],_ :: _,h=>by unfold D.sames at h;cases h
 |_ :: _,[],h=>by unfold D.sames at h;cases h
end
def Blk.same:Blk->Blk->Bool | .cells l,.cells m=>D.sames l m | .map e x,.map e' y=>if h:e=e' then(Ty.mp e').same (h▸x) y else false | .row e t b x,.row e' t' b' y=>if h:t=t' then a7i e e'&&(c83 b b'&&(Ty.sl t').same (h▸x) y)else false | .iter e x c,.iter e' y c'=>if h:e=e' then(Ty.mp e').same (h▸x) y&&d85 (fun p q=>a7X p.1 q.1&&e'.same p.2 q.2) (h▸c) c' else false|_,_=>false
theorem Blk.same_eq(x y:Blk)(h:Blk.same x y=true):x=y:=by
 cases x with
 |cells l=>
  cases y<;>simp only[Blk.same]at h
  case cells m=>rw[D.sames_eq _ _ h]
  all_goals first|done|cases h
 |map e x=>
  cases y<;>simp only[Blk.same]at h
  case map e' y=>
   split at h
   ·rename_i c;subst c;have e2:x=y:=(Ty.mp e).same_eq x y h;rw[e2]
   ·cases h
  all_goals first|done|cases h
 |row e t b x=>
  cases y<;>simp only[Blk.same]at h
  case row e' t' b' y=>
   split at h
   ·rename_i c
    subst c
    obtain⟨h1,h⟩:=w9 h
    obtain⟨h2,h3⟩:=w9 h
    have e2:x=y:=(Ty.sl t).same_eq x y h3
    rw[Q4 _ _ h1,b2Y _ _ h2,e2]
   ·cases h
  all_goals first|done|cases h
 |iter e x c=>
  cases y<;>simp only[Blk.same]at h
  case iter e' y c'=>
   split at h
   ·rename_i ee
    subst ee
    obtain⟨h1,h2⟩:=w9 h
    have e2:x=y:=(Ty.mp e).same_eq x y h1
    have e3:c=c':=c45 (fun p q hpq=>by
     obtain⟨k1,k2⟩:=w9 hpq
     exact Prod.ext (S4 _ _ k1) (e.same_eq _ _ k2)) h2
    rw[e2,e3]
   ·cases h
  all_goals first|done|cases h
def St.same(x y:St):Bool:=a7i x.n y.n&&(a8U (fun p q=>a7i p.1 q.1&&D.same p.2 q.2) x.fr y.fr&&a8U (fun p q=>a7i p.1 q.1&&Blk.same p.2 q.2) x.hp y.hp)
theorem St.same_eq(x y:St)(h:St.same x y=true):x=y:=by
 obtain⟨h1,h⟩:=w9 h
 obtain⟨h2,h3⟩:=w9 h
 obtain⟨n,fr,hp⟩:=x
 obtain⟨n',fr',hp'⟩:=y
 have e1:n=n':=Q4 _ _ h1
 have e2:fr=fr':=X0 (fun p q hpq=>by
  obtain⟨k1,k2⟩:=w9 hpq
  exact Prod.ext (Q4 _ _ k1) (D.same_eq _ _ k2)) h2
 have e3:hp=hp':=X0 (fun p q hpq=>by
  obtain⟨k1,k2⟩:=w9 hpq
  exact Prod.ext (Q4 _ _ k1) (Blk.same_eq _ _ k2)) h3
 rw[e1,e2,e3]
def c46(a b:Option St):Option St:=match a,b with
 |some x,some y=>match St.same x y with
  |true=>some x
  |false=>none
 |_,_=>none
theorem b3t{a b:Option St}{r:St}(h:c46 a b=some r):a=some r/\b=some r:=by
 unfold c46 at h
 split at h
 ·rename_i x y
  split at h
  ·rename_i e
   cases h
   rw[St.same_eq _ _ e];exact⟨rfl,rfl⟩
  ·cases h
 ·cases h
def alG{α:Type}(f:α->List α->Option St):List α->List α->Option St
 |_,[]=>none
 |pre,a :: l=>match l with
  |[]=>f a (pre ++ [])
  |_ :: _=>c46 (f a (pre++l)) (alG f (pre ++ [a]) l)
theorem b9n{α:Type}{f:α->List α->Option St}{r:St}:∀(pre l:List α),alG f pre l=some r->∀i (hi:i<l.length),f l[i] (pre++l.eraseIdx i)=some r
 |_,[],h,i,hi=>absurd hi (Nat.not_lt_zero _)
 |pre,a :: l,h,i,hi=>by
  unfold alG at h
  split at h
  ·cases i with
   |zero=>exact h
   |succ i=>exact absurd hi (by simp)
  ·obtain⟨h1,h2⟩:=b3t h
   cases i with
   |zero=>exact h1
   |succ i=>
    have:=b9n (pre ++ [a]) _ h2 i (Nat.lt_of_succ_lt_succ hi)
    simpa using this
@[reducible] def D3:BothC St:=⟨c46,b3t,fun l f=>alG f [] l,fun h=>b9n [] _ h,fun _ _ _=>none⟩
end
noncomputable section
section
variable{R:Type}[BothC R]
def e4J(E:Env)(all:List Oper)(l:List Oper):St->(St->Option R)->Option R:=
 List.rec (motive:=fun _=>St->(St->Option R)->Option R) (fun st k=>k st)
  (fun o _ ih st k=>match a43 E o.op with
   |true=>match a3j all o st (fun st=>J3 E o.op o.type st fun d=>st.putK o.dst d some) (some:St->Option St)with
    |some st'=>ih st' k
    |none=>ih st k
   |false=>ih st k) l
def d9i:D->List Nat | .row r=>[r] | .elp r _ _ _=>[r] | .tl r _ _=>[r] | .box r _=>[r] | .mref r=>[r] | .fnc _ l=>l | .tup _ l=>namesL l|_=>[]
where
 namesL:List D->List Nat
  |[]=>[]
  |.row r :: l=>r :: namesL l
  |.elp r _ _ _ :: l=>r :: namesL l
  |.tl r _ _ :: l=>r :: namesL l
  |.box r _ :: l=>r :: namesL l
  |.mref r :: l=>r :: namesL l
  |.fnc _ m :: l=>m++namesL l
  |_ :: l=>namesL l
def b22:List D->List Nat | []=>[]|d :: l=>d9i d++b22 l
def c0g(hp:List (Nat×Blk)):Nat->List Nat->List Nat->List Nat
 |0,_,acc=>acc
 |n+1,[],acc=>acc
 |n+1,r :: l,acc=>match q7 acc r with
  |true=>c0g hp n l acc
  |false=>match p5 hp r with
   |some (.cells cs)=>c0g hp n (b22 cs++l) (r :: acc)
   |_=>c0g hp n l (r :: acc)
def e1S(E:Env)(o:Oper):List Operand:=match a43 E o.op with
 |true=>[]
 |false=>match o.op with
  |.store _ x v=>[x,v]
  |.box _ x=>[x]
  |.build _ ps=>ps.toList.map (·.2)
  |.buildSlice _ _ ps=>ps.toList.map (·.2)
  |.mapUpdate _ m k x=>[m,k,x]
  |.makeFunc _ _ caps=>caps.toList
  |.range _ x=>[x]
  |.next x _=>[x]
  |.convert _ _ x=>[x]
  |.call c=>match c.callee with
   |.value v=>v :: c.args.toList
   |.builtin _=>c.args.toList
   |_=>c.args.toList
  |_=>[]
def d9e(E:Env)(ops:List Oper)(st:St):List Nat:=
 match e4J (R:=St) E ops ops st some with
 |some st'=>(fun rs=>(st'.hp.map (·.1)).filter fun r=>!q7 rs r) (c0g st'.hp 1000 (b22 ((ops.map (e1S E)).flatten.map st'.ev)) [])
 |none=>[]
def b8J(ops:Array Oper):List Nat:=ops.toList.filterMap fun o=>match o.op with
 |.assign _=>none
 |_=>o.dst
def d51(hp:List (Nat×Blk))(l:List (Nat×Blk)):Bool:=
 List.rec (motive:=fun _=>Bool) true (fun p _ ih=>match p5 hp p.1 with
  |some _=>ih
  |none=>false) l
def c9i(E:Env)(ops:Array Oper)(st:St):Option St:=
 b2k (R:=St) id (Z0 (b8J ops) st.fr) fun fr=>(fun st=>a01 (R:=St) (d9e E ops.toList st) fun l=>match @b9G St D3 E ops l st some with
  |some st'=>match d51 st'.hp st.hp with
   |true=>some st'
   |false=>match @b04 St D3 E ops ops.size (Array.replicate ops.size false) st some with
    |some st2=>some st2
    |none=>some st'
  |none=>@b04 St D3 E ops ops.size (Array.replicate ops.size false) st some) ⟨st.n,fr,st.hp⟩
def c5e(body:St->(Ex->St->Option R)->Option R):Nat->St->(Ex->St->Option R)->Option R
 |0,_,_=>none
 |n+1,st,k=>body st fun e st=>match e with
  |.normal=>c5e body n st k
  |.exit j=>k (.exit j) st
  |.ret=>k .ret st
def a0e(E:Env)(N:Nat)(c:Code):Nat->St->(Ex->St->Option R)->Option R:=
 Code.rec (motive:=fun _=>Nat->St->(Ex->St->Option R)->Option R)
  (fun _ st k=>k .normal st)
  (fun id ops draw _ st k=>match draw with
   |false=>a3s E ops.toList ops.toList st (k .normal)
   |true=>match ops.toList.all (C8 E)&&Region.lexB .any ops with
    |true=>a3s E ops.toList ops.toList st (k .normal)
    |false=>match Region.noSelect ops with
     |true=>(match c9i E ops st with
      |some st'=>k .normal st'
      |none=>none)
     |false=>none)
  (fun _ _ iha ihb i st k=>iha i st fun e st=>match e with
   |.normal=>ihb i st k
   |.exit j=>k (.exit j) st
   |.ret=>k .ret st)
  (fun c _ _ iht ihe i st k=>match st.ev c with
   |.v .bool c=>br c (iht i st k) (ihe i st k)
   |.bl true=>iht i st k
   |.bl false=>ihe i st k
   |_=>none)
  (fun id _ ih _ st k=>ih id st fun e st=>match e with
   |.normal=>k .normal st
   |.exit j=>if j=id then k .normal st else k (.exit j) st
   |.ret=>k .ret st)
  (fun _ ih i st k=>c5e (ih i) N st k)
  (fun _ _ _ _ _ _ _ _ _=>none)
  (fun id _ st k=>k (.exit id) st)
  (fun _ _ _ _ _=>none)
  (fun _ _ _ _=>none)
  (fun _ _ _ _=>none)
  (fun _ st k=>k .ret st)
  (fun _ _ _ _=>none) c
theorem c2C(E:Env)(N id:Nat)(ops:Array Oper)(i:Nat)(st:St)(k:Ex->St->Option R):a0e E N (.region id ops true) i st k=(match ops.toList.all (C8 E)&&Region.lexB .any ops with
    |true=>a3s E ops.toList ops.toList st (k .normal)
    |false=>match Region.noSelect ops with
     |true=>(match c9i E ops st with
      |some st'=>k .normal st'
      |none=>none)
     |false=>none):=rfl
theorem c2B(E:Env)(N:Nat)(c:Operand)(x y:Code)(i:Nat)(st:St)(k:Ex->St->Option R):a0e E N (.cond c x y) i st k=(match st.ev c with
   |.v .bool c=>br c (a0e E N x i st k) (a0e E N y i st k)
   |.bl true=>a0e E N x i st k
   |.bl false=>a0e E N y i st k
   |_=>none):=rfl
theorem c2D(E:Env)(N:Nat)(c:Code)(i:Nat)(st:St)(k:Ex->St->Option R):a0e E N (.loop c) i st k=c5e (a0e E N c i) N st k:=rfl
def b4d:List ResultVar->List Nat | []=>[] | .tmp t :: l=>t :: b4d l | .cell x _ :: l=>x :: b4d l
def d5S(f:Func)(st:St):Option St:=b3m (R:=St) (b4d f.results.toList) id st.fr fun fr=>a01 (R:=St) (c0g st.hp 1000 (b22 (fr.map (·.2))++(st.hp.map (·.1)).filter fun r=>Nat.blt r 1000) []) fun rs=>a8T (R:=St) rs st.hp fun hp=>some ⟨st.n,fr,hp⟩
def c9n(E:Env)(N:Nat)(f:Func)(c:Code)(st:St):Option St:=
 @a0e St D3 E N c 0 st fun e st=>match e with
  |.exit _=>none
  |_=>d5S f st
end
section
variable{P:Program}{df:List Deferred}{G:World->Prop}{B0:Nat}{E:Env}{M:Nat->Nat->Prop}{M0:Nat->Nat->Prop}{w0:World}{gi g:Gh}{st:St}{a:Act}{w:World}
theorem b2i{α:Type}(ks:List Nat)(l:List (Nat×α))(i:Nat)(y:α)(h:p5 (Z0 ks l) i=some y):p5 l i=some y:=by
 induction l with
 |nil=>cases h
 |cons p l ih=>
  obtain⟨j,x⟩:=p
  unfold Z0 at h
  rw[q6]
  have hno:∀l:List (Nat×α),q7 ks j=true->p5 (Z0 ks l) j=none:=by
   intro l hj
   induction l with
   |nil=>rfl
   |cons q l ih2=>
    obtain⟨k,z⟩:=q
    unfold Z0
    split
    ·exact ih2
    ·rename_i hk
     rw[q6]
     have:Nat.beq k j=false:=by
      cases hkj:Nat.beq k j with
      |false=>rfl
      |true=>have:=Nat.eq_of_beq_eq_true hkj;subst this;rw[hj]at hk;cases hk
     rw[this];exact ih2
  cases hb:Nat.beq j i with
  |true=>
   have:j=i:=Nat.eq_of_beq_eq_true hb
   subst this
   split at h
   ·rename_i hj;rw[hno l hj]at h;cases h
   ·rw[q6,hb]at h;exact h
  |false=>
   split at h
   ·exact ih h
   ·rw[q6,hb]at h;exact ih h
theorem Sim.drop(hs:Sim df G B0 M0 w0 gi g st a w)(ts:List Nat):Sim df G B0 M0 w0 gi g ⟨st.n,Z0 ts st.fr,st.hp⟩ a w:=
 {hs with
  fr:=fun t d h=>hs.fr t _ (b2i _ _ _ _ h)
  inb:=fun t d h=>hs.inb t _ (b2i _ _ _ _ h)}
theorem c2X{R:Type}[BothC R](hE:EnvOk P G B0 E){id:Nat}{ops:Array Oper}(hsel:Region.noSelect ops=true){k:St->Option R}{r:R}{Q:Exit->Act->World->Prop}(hK:L9 df G B0 M0 w0 gi k r (Q .normal))(hs:Sim df G B0 M0 w0 gi g st a w)
  (h:b04 E ops ops.size (Array.replicate ops.size false) st k=some r):(Code.region id ops true).wp P (PanQ df E.bad M0 w0 gi r Q) a w:=by
 have hs1:=hs.later (Ext.refl w).drew
 exact wp_region_any hE.mixed (Y2 hE hsel (Q:=PanQ df E.bad M0 w0 gi r Q) (fun g st a w hs h=>hK g st a w hs h) PanQ.pans.up (fun _ _ _ c a v w=>PanQ.blind c a _ v w) _ _ _ _ _ _ hs1 h)
theorem I9{R:Type}[BothC R](hE:EnvOk P G B0 E)(hpa:∀c ρ st,(BothC.pa c ρ st:Option R)=none)(N:Nat):∀(c:Code) (i:Nat) {k:Ex->St->Option R} {r:R} {Q:Exit->Act->World->Prop},Leaves df G B0 M0 w0 gi k r Q->∀(g:Gh) (st:St) (a:Act) (w:World),
  Sim df G B0 M0 w0 gi g st a w->a0e E N c i st k=some r->c.wp P Q a w
 |.skip,i,k,r,Q,hK,g,st,a,w,hs,h=>wp_skip (hK .normal _ _ _ _ hs h)
 |.region id ops false,i,k,r,Q,hK,g,st,a,w,hs,h=>wp_region_list (a0L hE (fun _ _ _ _ hs h=>hK .normal _ _ _ _ hs h) (Pans.none hpa) _ _ _ _ _ hs h)
 |.region id ops true,i,k,r,Q,hK,g,st,a,w,hs,h=>by
  rw[c2C]at h
  split at h
  ·rename_i hq
   simp only[Bool.and_eq_true]at hq
   exact wp_region_quiet (C:=fun w'=>Ext w w') hE.mixed hq.2 (Ext.refl w).drew (a0K hE (fun _ _ _ _ hs h=>hK .normal _ _ _ _ hs h) _ _ _ _ hq.1 hs h)
  ·split at h
   ·rename_i hsel
    split at h
    ·rename_i st' hd
     unfold c9i at hd
     simp only[a1I,b8F]at hd
     rw[a02]at hd
     have hs:=hs.drop (b8J ops)
     have key:∀l,@b9G St D3 E ops l ⟨st.n,Z0 (b8J ops) st.fr,st.hp⟩ some=some st'->(Code.region id ops true).wp P Q a w:=fun l hd=>by
      refine Code.wp_mono (@PanQ.out _ _ _ _ St D3 _ _ _ (@Pans.none St D3 _ _ _ _ _ _ _ fun _ _ _=>rfl)) (@b2o _ _ _ _ _ _ _ _ _ _ _ _ St D3 hE id _ hsel l some st' Q (fun _ _ _ _ hs hh=>?_) hs hd)
      cases hh
      exact hK .normal _ _ _ _ hs h
     have key2:@b04 St D3 E ops ops.size (Array.replicate ops.size false) ⟨st.n,Z0 (b8J ops) st.fr,st.hp⟩ some=some st'->(Code.region id ops true).wp P Q a w:=fun hd=>by
      refine Code.wp_mono (@PanQ.out _ _ _ _ St D3 _ _ _ (@Pans.none St D3 _ _ _ _ _ _ _ fun _ _ _=>rfl)) (@c2X _ _ _ _ _ _ _ _ _ _ _ _ St D3 hE id _ hsel some st' Q (fun _ _ _ _ hs hh=>?_) hs hd)
      cases hh
      exact hK .normal _ _ _ _ hs h
     split at hd
     ·rename_i st'' hd'
      split at hd
      ·cases hd
       exact key _ hd'
      ·split at hd
       ·rename_i st2 hd2
        cases hd
        exact key2 hd2
       ·cases hd
        exact key _ hd'
     ·exact key2 hd
    ·cases h
   ·cases h
 |.seq x y,i,k,r,Q,hK,g,st,a,w,hs,h=>by
  refine wp_seq (I9 hE hpa N x i ?_ _ _ _ _ hs h)
  intro e g st a w hs h
  cases e with
  |normal=>exact I9 hE hpa N y i hK _ _ _ _ hs h
  |exit id=>exact hK (.exit id) _ _ _ _ hs h
  |ret=>exact hK .ret _ _ _ _ hs h
 |.cond c x y,i,k,r,Q,hK,g,st,a,w,hs,h=>by
  rw[c2B]at h
  have hc:=hs.ev c
  split at h
  ·rename_i b hd
   rw[hd]at hc
   refine wp_cond (t:=b) (RepD.bool hc) ?_
   rcases F3 h with⟨e,h2⟩|⟨e,h2⟩
   ·subst e;exact I9 hE hpa N x i hK _ _ _ _ hs h2
   ·subst e;exact I9 hE hpa N y i hK _ _ _ _ hs h2
  ·rename_i hd
   rw[hd]at hc
   exact wp_cond (t:=true) hc (I9 hE hpa N x i hK _ _ _ _ hs h)
  ·rename_i hd
   rw[hd]at hc
   exact wp_cond (t:=false) hc (I9 hE hpa N y i hK _ _ _ _ hs h)
  ·cases h
 |.block id c,i,k,r,Q,hK,g,st,a,w,hs,h=>by
  refine wp_block (I9 hE hpa N c id ?_ _ _ _ _ hs h)
  intro e g st a w hs h
  cases e with
  |normal=>exact hK .normal _ _ _ _ hs h
  |exit j=>
   simp only at h
   show(if j=id then Q .normal a w else Q (.exit j) a w)
   split at h
   ·rename_i e;rw[if_pos e];exact hK .normal _ _ _ _ hs h
   ·rename_i e;rw[if_neg e];exact hK (.exit j) _ _ _ _ hs h
  |ret=>exact hK .ret _ _ _ _ hs h
 |.loop c,i,k,r,Q,hK,g,st,a,w,hs,h=>by
  rw[c2D]at h
  have key:∀(n:Nat) (g:Gh) (st:St) (a:Act) (w:World),Sim df G B0 M0 w0 gi g st a w->c5e (a0e E N c i) n st k=some r->Code.rounds P c Q n a w:=by
   intro n
   induction n with
   |zero=>intro g st a w hs h;cases h
   |succ n ih=>
    intro g st a w hs h
    refine I9 hE hpa N c i ?_ _ _ _ _ hs h
    intro e g st a w hs h
    cases e with
    |normal=>exact ih g _ _ _ hs h
    |exit id=>exact hK (.exit id) _ _ _ _ hs h
    |ret=>exact hK .ret _ _ _ _ hs h
  exact wp_loop_rounds N (key N _ _ _ _ hs h)
 |.exit id,i,k,r,Q,hK,g,st,a,w,hs,h=>wp_exit (hK (.exit id) _ _ _ _ hs h)
 |.ret,i,k,r,Q,hK,g,st,a,w,hs,h=>Go.wp_ret (hK .ret _ _ _ _ hs h)
 |.rangeFunc _ _ _ _,i,k,r,Q,hK,g,st,a,w,hs,h=>by cases h
 |.scope _,i,k,r,Q,hK,g,st,a,w,hs,h=>by cases h
 |.label _,i,k,r,Q,hK,g,st,a,w,hs,h=>by cases h
 |.goto _,i,k,r,Q,hK,g,st,a,w,hs,h=>by cases h
 |.refuse _,i,k,r,Q,hK,g,st,a,w,hs,h=>by cases h
theorem Sim.few(hs:Sim df G B0 M0 w0 gi g st a w)(ts:List Nat):Sim df G B0 M0 w0 gi g ⟨st.n,Z1 ts id st.fr,st.hp⟩ a w:=
 {hs with
  fr:=fun t d h=>by obtain⟨x,h1,rfl⟩:=X6 _ _ _ _ _ h;exact hs.fr t _ h1
  inb:=fun t d h=>by obtain⟨x,h1,rfl⟩:=X6 _ _ _ _ _ h;exact hs.inb t _ h1}
theorem Sim.fewB(hs:Sim df G B0 M0 w0 gi g st a w)(l:List Nat):Sim df G B0 M0 w0 gi g ⟨st.n,st.fr,Z1 l Blk.past st.hp⟩ a w:=
 {hs with
  hp:=fun r blk hb=>by
   obtain⟨x,h1,rfl⟩:=X6 l Blk.past st.hp r blk hb
   obtain⟨y,h2,h3⟩:=hs.hp r _ h1
   exact⟨y,h2,h3.past⟩}
theorem Sim.fin(hs:Sim df G B0 M0 w0 gi g st a w){f:Func}{st':St}(h:d5S f st=some st'):Sim df G B0 M0 w0 gi g st' a w:=by
 unfold d5S at h
 simp only[a5z,a02,a3b]at h
 cases h
 exact(hs.few _).fewB _
theorem b4f(hE:EnvOk P G B0 E){f:FuncId}{fn:Func}{c:Code}(hf:P.funcs[f]? = some fn)(hb:fn.body=some c)(hcall:∀(args:Array Value) (w:World),(callFunc f args).run P w = .ok (.enter f args) w)
  (F:AF) (pack:SV F.rs->BV F.cs->F.R) (hpack:∀x y,F.out (pack x y)=(x,y)) (N:Nat) (hps:Nat.ble F.ps.length fn.ntmps=true) (hbs:Nat.ble F.bs.length 1000=true)
  (hrunC:∀x y z,F.f x y=some z->∃sE,c9n E N fn c (start fn F.ps F.bs x y)=some sE/\A8 E fn F pack sE=some z) (hkp:a0g F.bs F.cs=false):Sound P G B0 f F:=by
 refine⟨hcall,fun M w g vs x y z hG hB hfr hrun=>?_⟩
 refine calls_of_wp hf hb ?_
 obtain⟨sE,hrun,hres⟩:=hrunC x y z hrun
 ·unfold c9n at hrun
  have hlen:vs.length=F.ps.length:=by
   have:=hfr.args.len
   rw[<-this]
   have hl:∀(l:List Sl) (x:SV l),(U4 id l x).length=l.length:=fun l=>by
    induction l with
    |nil=>intro _;rfl
    |cons s l ih=>intro x;show(U4 id l x.2).length+1=_;rw[ih];rfl
   exact hl _ _
  have hps':vs.length<=fn.ntmps:=by rw[hlen];exact Nat.le_of_ble_eq_true hps
  have hbs':F.bs.length<=1000:=Nat.le_of_ble_eq_true hbs
  have hM:∀b o,p7 (fun b o=>M b o/\¬N5 g b) g b o↔M b o:=by
   intro b o
   constructor
   ·rintro(h|⟨r,x,h1,h2,h3⟩)
    ·exact h.1
    ·exact(hfr.chg _ _ _ _ h1 h2).2 h3
   ·intro h
    by_cases hX:N5 g b
    ·obtain⟨r,x,h1,h2⟩:=hX
     exact .inr ⟨r,x,h1,h2,(hfr.chg _ _ _ _ h1 h2).1 h⟩
    ·exact .inl ⟨h,hX⟩
  have eM:p7 (fun b o=>M b o/\¬N5 g b) g=M:=funext fun b=>funext fun o=>propext (hM b o)
  have hsim:Sim [] G B0 (fun b o=>M b o/\¬N5 g b) w g g (start fn F.ps F.bs x y) {tmps:=vs.toArray++Array.replicate (fn.ntmps-vs.toArray.size) undef,defers:=[]} w:=by
   refine{defers:=rfl,sz:=?_,fr:=?_,inb:=?_,hp:=?_,low:=?_,inj:=hfr.inj,row:=hfr.row,m0:=fun b o h=>⟨hfr.mlt _ _ h.1,h.2⟩,pin:=fun _ _ h _=>h,gin:=fun r x h _=>Nat.lt_of_lt_of_le (hfr.dom r x h) hbs',gil:=fun b ⟨r,x,h1,h2⟩=>(hfr.low _ _ _ h1 h2).1,ext:=ExtX.refl _ _,stp:=Step.refl _ _,gg:=hG,b0:=hB}
   ·show(vs.toArray++Array.replicate (fn.ntmps-vs.toArray.size) undef).size=fn.ntmps
    simp;omega
   ·intro t d h
    rw[eM]
    obtain⟨_,v,h1,h2⟩:=a0i F.ps 0 x vs hfr.args t d h
    rw[Nat.sub_zero]at h1
    have hlt:=(List.getElem?_eq_some_iff.1 h1).1
    have:(vs.toArray++Array.replicate (fn.ntmps-vs.toArray.size) undef).getD t undef=v:=by
     rw[Array.getD_eq_getD_getElem?,Array.getElem?_append_left (by simpa using hlt),List.getElem?_toArray,h1];rfl
    show RepD M w g d ((vs.toArray++Array.replicate (fn.ntmps-vs.toArray.size) undef).getD t undef)
    rw[this];exact h2
   ·intro t d h
    obtain⟨_,v,h1,_⟩:=a0i F.ps 0 x vs hfr.args t d h
    rw[Nat.sub_zero]at h1
    have hlt:=(List.getElem?_eq_some_iff.1 h1).1
    show t<fn.ntmps
    omega
   ·intro r blk h
    rw[eM]
    obtain⟨_,h1⟩:=a4M F.bs 0 y r blk h
    rw[Nat.sub_zero]at h1
    exact hfr.res r blk h1
   ·exact fun r x b h1 h2=>⟨(hfr.low _ _ _ h1 h2).1,(hfr.low _ _ _ h1 h2).2,.inl ⟨r,x,h1,h2⟩⟩
  refine @I9 _ _ _ _ _ _ _ _ St D3 hE (fun _ _ _=>rfl) N c 0 _ sE _ ?_ _ _ _ _ hsim hrun
  intro e g' st0 a w' hs0 h
  have hh:∃st,Sim [] G B0 (fun b o=>M b o/\¬N5 g b) w g g' st a w'/\A8 E fn F pack st=some z/\∀j,e ≠ .exit j:=by
   cases e with
   |exit id=>cases h
   |normal=>
    exact⟨_,hs0.fin h,hres,fun j hj=>by cases hj⟩
   |ret=>
    exact⟨_,hs0.fin h,hres,fun j hj=>by cases hj⟩
  clear h hs0 hres
  obtain⟨st,hs,h,hne⟩:=hh
  have fin:A8 E fn F pack st=some z->a.defers=[]/\∃v,(results fn a.tmps).run P w' = .ok v w'/\∃vs' g'',Ending.returned v = .returned (a7j vs')/\ExtX (N5 g) w w'/\Step M w (a1d M g g'') w'/\Frag B0 (a1d M g g'') w' g'' F.rs F.cs (F.out z).1 (F.out z).2 vs'/\
   (∀r x,g r=some x->(a4C x.v=true\/a0g F.bs F.cs=true)->g'' r=some x)/\∀b,N5 g'' b->N5 g b\/w.heap.size<=b:=by
   intro h
   obtain⟨_,vs',g'',h1,h2,h3,h4,h5,h6⟩:=a3v hE hs hpack hfr.dom hM h
   exact⟨hs.defers,_,h1,vs',g'',rfl,h2,h3,h4,fun r x e1 e2=>h5 r x e1 (e2.elim id fun e=>by rw[hkp]at e;cases e),h6⟩
  cases e with
  |normal=>exact fin h
  |ret=>exact fin h
  |exit id=>exact absurd rfl (hne id)
end
end
noncomputable section
def a1x:List Oper->Option (List Oper×Oper)
 |[]=>none
 |o :: l=>match l with
  |[]=>match o.op with
   |.defer _=>some ([],o)
   |_=>none
  |_ :: _=>match a1x l with
   |some (i,d)=>some (o :: i,d)
   |none=>none
theorem b4m:∀{l i:List Oper} {d:Oper},a1x l=some (i,d)->l=i ++ [d]
 |[],_,_,h=>by cases h
 |[o],i,d,h=>by
  unfold a1x at h
  dsimp only at h
  split at h
  ·cases h;rfl
  ·cases h
 |o :: o' :: l,i,d,h=>by
  unfold a1x at h
  dsimp only at h
  split at h
  ·rename_i i' d' h'
   cases h
   rw[b4m h'];rfl
  ·cases h
def c9g(st:St)(d:Oper):Option FuncId:=match d.guard,d.dst,d.op with
 |none,none,.defer c=>match c.callee,c.args.toList with
  |.value x,[]=>match st.ev x with
   |.fnc f _=>some f
   |_=>none
  |_,_=>none
 |_,_,_=>none
def d5R(fn:Func):Ex->St->Option St:=fun e st=>match e with
  |.exit _=>none
  |_=>d5S fn st
def b9K(rcv:FuncId->Bool)(E:Env)(N:Nat)(fn:Func)(c:Code):St->Option St:=
 Code.rec (motive:=fun _=>St->Option St) (fun _=>none) (fun _ _ _ _=>none)
  (fun x y _ ih st=>match x with
   |.region id ops false=>match a1x ops.toList with
    |some (i,d)=>@a3s St D3 E ops.toList i st fun st=>match c9g st d with
     |some f=>match rcv f with
      |true=>@a0e St D3 E N y 0 st (d5R fn)
      |false=>none
     |none=>none
    |none=>@a0e St D3 E N (.region id ops false) 0 st fun e st=>match e with
     |.normal=>ih st
     |_=>none
   |x=>@a0e St D3 E N x 0 st fun e st=>match e with
     |.normal=>ih st
     |_=>none)
  (fun _ _ _ _ _ _=>none) (fun _ _ _ _=>none) (fun _ _ _=>none) (fun _ _ _ _ _ _ _=>none) (fun _ _=>none) (fun _ _ _=>none) (fun _ _=>none) (fun _ _=>none) (fun _=>none) (fun _ _=>none) c
theorem Oper.wp_mono2{P:Program}{o:Oper}{a:Act}{w:World}{K K':Act->World->Prop}{Q Q':Exit->Act->World->Prop}(h:∀a w,K a w->K' a w)(hq:∀e a w,e ≠ .normal->Q e a w->Q' e a w)
  (hh:o.wp P a w K Q):o.wp P a w K' Q':=by
 have hl:LetsOut Q->LetsOut Q':=fun⟨a,w,h⟩=>⟨a,w,hq _ _ _ (by simp) h⟩
 unfold Oper.wp at *
 generalize (execOp a.eval o).run P w=r at *
 cases r with
 |ok n w'=>
  cases n<;>simp only[Oper.upon]at hh ⊢ <;> first
   |exact h _ _ hh
   |exact hh
   |exact hh.mono fun e w'' hh=>by
     cases e<;>first|exact h _ _ hh|exact hq _ _ _ (by simp) hh|exact hl hh
   |exact Rows.mono hh fun v w'' hh=>h _ _ hh
 |halt s w'=>
  cases s<;>simp only[Oper.upon]at hh ⊢ <;> first|exact hq _ _ _ (by simp) hh|exact hh
def d8r(P:Program)(ops:Array Oper)(Q:Exit->Act->World->Prop)(rest:List Oper):Exit->Act->World->Prop:=fun e a w=>match e with
 |.normal=>wpList P ops Q rest a w
 |e=>Q e a w
theorem a1D{P:Program}{ops:Array Oper}{Q:Exit->Act->World->Prop}(rest:List Oper):∀(l:List Oper) (a:Act) (w:World),wpList P ops (d8r P ops Q rest) l a w->wpList P ops Q (l++rest) a w
 |[],a,w,h=>h
 |o :: l,a,w,h=>by
  have hq:∀e a w,e≠Exit.normal->d8r P ops Q rest e a w->Q e a w:=fun e a w he h=>by cases e<;>first|exact absurd rfl he|exact h
  show wpList P ops Q (o :: (l++rest)) a w
  unfold wpList at h ⊢
  split
  ·rename_i hw
   rw[if_pos hw]at h
   rcases h with h|⟨h1,a',w',h2⟩
   ·exact .inl (Oper.wp_mono2 (fun a w h=>a1D rest l a w h) hq h)
   ·exact .inr ⟨h1,a',w',hq _ _ _ (by simp) h2⟩
  ·rename_i hw
   rw[if_neg hw]at h
   exact a1D rest l _ _ h
section
variable{P:Program}{df:List Deferred}{G:World->Prop}{B0:Nat}{E:Env}{M:Nat->Nat->Prop}{M0:Nat->Nat->Prop}{w0:World}{gi g:Gh}{st:St}{a:Act}{w:World}
theorem c2z(hs:Sim [] G B0 M0 w0 gi g st a w){d:Oper}{f:FuncId}(h:c9g st d=some f):∃caps:Array Value,∀(ops:Array Oper) (Q:Exit->Act->World->Prop),(∀a',Sim [⟨.fn (.func f) caps,#[]⟩] G B0 M0 w0 gi g st a' w->Q .normal a' w)->wpList P ops Q [d] a w:=by
 unfold c9g at h
 split at h
 case h_2=>cases h
 rename_i c hg hd hop
 split at h
 case h_2=>cases h
 rename_i x hcal hargs
 split at h
 case h_2=>cases h
 rename_i f' l hev
 cases h
 have hx:=hs.ev x
 rw[hev]at hx
 obtain⟨caps,hv,_⟩:=hx
 refine⟨caps,fun ops Q hQ=>?_⟩
 unfold wpList
 rw[if_pos (by unfold Region.wanted;rw[hg])]
 refine .inl ?_
 have ha0:c.args = #[]:=by
  apply Array.ext'
  simpa using hargs
 have hex:(execOp a.eval d).run P w = .ok (.defer ⟨.fn (.func f) caps,#[]⟩) w:=by
  simp[execOp,hop,resolve,hcal,hv,Deferred.ofValue,ha0]
 unfold Oper.wp
 rw[hex,Oper.upon_defer,hd]
 refine hQ _ ?_
 have hdf:a.defers=[]:=hs.defers
 exact{hs with defers:=by simp[Act.put,hdf]}
theorem c5d(hE:EnvOk P G B0 E){rcv:FuncId->Bool}(hcallr:∀f,rcv f=true->∀(args:Array Value) (w:World),(callFunc f args).run P w = .ok (.enter f args) w)(N:Nat)(fn:Func){sE:St}{Q:Exit->Act->World->Prop}:∀(c:Code) (g:Gh) (st:St) (a:Act) (w:World),
  Sim [] G B0 M0 w0 gi g st a w->b9K rcv E N fn c st=some sE->
  (∀e g' a' w' f caps,rcv f=true->(e = .normal\/e = .ret)->Sim [⟨.fn (.func f) caps,#[]⟩] G B0 M0 w0 gi g' sE a' w'->Q e a' w')->c.wp P Q a w
 |.seq x y,g,st,a,w,hs,h,hend=>by
  have other:∀x,(@a0e St D3 E N x 0 st fun e st=>match e with | .normal=>b9K rcv E N fn y st|_=>none)=some sE->(Code.seq x y).wp P Q a w:=by
   intro x h
   refine wp_seq (@I9 _ _ _ _ _ _ _ _ St D3 hE (fun _ _ _=>rfl) N x 0 _ sE _ ?_ _ _ _ _ hs h)
   intro e g st a w hs h
   cases e with
   |normal=>exact c5d hE hcallr N fn y _ _ _ _ hs h hend
   |exit id=>cases h
   |ret=>cases h
  by_cases hx:∃id ops i d,x = .region id ops false/\a1x ops.toList=some (i,d)
  ·obtain⟨id,ops,i,d,rfl,hsp⟩:=hx
   have h:(match a1x ops.toList with
    |some (i,d)=>@a3s St D3 E ops.toList i st fun st=>match c9g st d with
     |some f=>match rcv f with
      |true=>@a0e St D3 E N y 0 st (d5R fn)
      |false=>none
     |none=>none
    |none=>@a0e St D3 E N (.region id ops false) 0 st fun e st=>match e with
     |.normal=>b9K rcv E N fn y st
     |_=>none)=some sE:=h
   rw[hsp]at h
   dsimp only at h
   refine wp_seq (wp_region_list ?_)
   have hl:ops.toList=i ++ [d]:=b4m hsp
   rw[hl]
   refine a1D [d] i a w ?_
   refine @a0L _ _ _ _ _ _ _ _ St D3 hE _ _ sE _ ?_ (@Pans.none St D3 _ _ _ _ _ _ _ fun _ _ _=>rfl) i _ _ _ _ hs h
   intro g st a w hs h
   dsimp only at h
   split at h
   ·rename_i f hf
    split at h
    ·rename_i hr
     obtain⟨caps,hst⟩:=c2z (P:=P) hs hf
     refine hst _ _ fun a' hs'=>?_
     refine @I9 _ _ _ _ _ _ _ _ St D3 hE (fun _ _ _=>rfl) N y 0 _ sE _ ?_ _ _ _ _ hs' h
     intro e g st a w hs h
     unfold d5R at h
     cases e with
     |exit id=>cases h
     |normal=>
      exact hend _ _ _ _ f caps hr (.inl rfl) (hs.fin h)
     |ret=>
      exact hend _ _ _ _ f caps hr (.inr rfl) (hs.fin h)
    ·cases h
   ·cases h
  ·refine other x ?_
   rw[<-h]
   cases x with
   |region id ops draw=>
    cases draw with
    |true=>rfl
    |false=>
     cases hsp:a1x ops.toList with
     |some p=>exact absurd ⟨id,ops,p.1,p.2,rfl,hsp⟩ hx
     |none=>
      have e:b9K rcv E N fn (.seq (.region id ops false) y) st=(match a1x ops.toList with
       |some (i,d)=>@a3s St D3 E ops.toList i st fun st=>match c9g st d with
        |some f=>match rcv f with
         |true=>@a0e St D3 E N y 0 st (d5R fn)
         |false=>none
        |none=>none
       |none=>@a0e St D3 E N (.region id ops false) 0 st fun e st=>match e with
        |.normal=>b9K rcv E N fn y st
        |_=>none):=rfl
      rw[e,hsp]
   |_=>rfl
 |.skip,_,_,_,_,_,h,_=>by cases h
 |.region _ _ _,_,_,_,_,_,h,_=>by cases h
 |.cond _ _ _,_,_,_,_,_,h,_=>by cases h
 |.block _ _,_,_,_,_,_,h,_=>by cases h
 |.loop _,_,_,_,_,_,h,_=>by cases h
 |.rangeFunc _ _ _ _,_,_,_,_,_,h,_=>by cases h
 |.exit _,_,_,_,_,_,h,_=>by cases h
 |.scope _,_,_,_,_,_,h,_=>by cases h
 |.label _,_,_,_,_,_,h,_=>by cases h
 |.goto _,_,_,_,_,_,h,_=>by cases h
 |.ret,_,_,_,_,_,h,_=>by cases h
 |.refuse _,_,_,_,_,_,h,_=>by cases h
theorem c0i(hE:EnvOk P G B0 E){f:FuncId}{fn:Func}{c:Code}(hf:P.funcs[f]? = some fn)(hb:fn.body=some c)(hcall:∀(args:Array Value) (w:World),(callFunc f args).run P w = .ok (.enter f args) w)
  (F:AF) (pack:SV F.rs->BV F.cs->F.R) (hpack:∀x y,F.out (pack x y)=(x,y)) (N:Nat) (hps:Nat.ble F.ps.length fn.ntmps=true) (hbs:Nat.ble F.bs.length 1000=true)
  {rcv:FuncId->Bool} (hcallr:∀f,rcv f=true->∀(args:Array Value) (w:World),(callFunc f args).run P w = .ok (.enter f args) w) (hrcv:∀f,rcv f=true->∀(caps:Array Value) (w:World),CallsD P f caps .returning w fun e u w'=>(∃v,e = .returned v)/\u = .returning/\w'=w)
  (hrunC:∀x y z,F.f x y=some z->∃sE,b9K rcv E N fn c (start fn F.ps F.bs x y)=some sE/\A8 E fn F pack sE=some z) (hkp:a0g F.bs F.cs=false):Sound P G B0 f F:=by
 refine⟨hcall,fun M w g vs x y z hG hB hfr hrun=>?_⟩
 refine calls_of_wp_defers hf hb ?_
 obtain⟨sE,hrun,hres⟩:=hrunC x y z hrun
 ·have hlen:vs.length=F.ps.length:=by
   have:=hfr.args.len
   rw[<-this]
   have hl:∀(l:List Sl) (x:SV l),(U4 id l x).length=l.length:=fun l=>by
    induction l with
    |nil=>intro _;rfl
    |cons s l ih=>intro x;show(U4 id l x.2).length+1=_;rw[ih];rfl
   exact hl _ _
  have hps':vs.length<=fn.ntmps:=by rw[hlen];exact Nat.le_of_ble_eq_true hps
  have hbs':F.bs.length<=1000:=Nat.le_of_ble_eq_true hbs
  have hM:∀b o,p7 (fun b o=>M b o/\¬N5 g b) g b o↔M b o:=by
   intro b o
   constructor
   ·rintro(h|⟨r,x,h1,h2,h3⟩)
    ·exact h.1
    ·exact(hfr.chg _ _ _ _ h1 h2).2 h3
   ·intro h
    by_cases hX:N5 g b
    ·obtain⟨r,x,h1,h2⟩:=hX
     exact .inr ⟨r,x,h1,h2,(hfr.chg _ _ _ _ h1 h2).1 h⟩
    ·exact .inl ⟨h,hX⟩
  have eM:p7 (fun b o=>M b o/\¬N5 g b) g=M:=funext fun b=>funext fun o=>propext (hM b o)
  have hsim:Sim [] G B0 (fun b o=>M b o/\¬N5 g b) w g g (start fn F.ps F.bs x y) {tmps:=vs.toArray++Array.replicate (fn.ntmps-vs.toArray.size) undef,defers:=[]} w:=by
   refine{defers:=rfl,sz:=?_,fr:=?_,inb:=?_,hp:=?_,low:=?_,inj:=hfr.inj,row:=hfr.row,m0:=fun b o h=>⟨hfr.mlt _ _ h.1,h.2⟩,pin:=fun _ _ h _=>h,gin:=fun r x h _=>Nat.lt_of_lt_of_le (hfr.dom r x h) hbs',gil:=fun b ⟨r,x,h1,h2⟩=>(hfr.low _ _ _ h1 h2).1,ext:=ExtX.refl _ _,stp:=Step.refl _ _,gg:=hG,b0:=hB}
   ·show(vs.toArray++Array.replicate (fn.ntmps-vs.toArray.size) undef).size=fn.ntmps
    simp;omega
   ·intro t d h
    rw[eM]
    obtain⟨_,v,h1,h2⟩:=a0i F.ps 0 x vs hfr.args t d h
    rw[Nat.sub_zero]at h1
    have hlt:=(List.getElem?_eq_some_iff.1 h1).1
    have:(vs.toArray++Array.replicate (fn.ntmps-vs.toArray.size) undef).getD t undef=v:=by
     rw[Array.getD_eq_getD_getElem?,Array.getElem?_append_left (by simpa using hlt),List.getElem?_toArray,h1];rfl
    show RepD M w g d ((vs.toArray++Array.replicate (fn.ntmps-vs.toArray.size) undef).getD t undef)
    rw[this];exact h2
   ·intro t d h
    obtain⟨_,v,h1,_⟩:=a0i F.ps 0 x vs hfr.args t d h
    rw[Nat.sub_zero]at h1
    have hlt:=(List.getElem?_eq_some_iff.1 h1).1
    show t<fn.ntmps
    omega
   ·intro r blk h
    rw[eM]
    obtain⟨_,h1⟩:=a4M F.bs 0 y r blk h
    rw[Nat.sub_zero]at h1
    exact hfr.res r blk h1
   ·exact fun r x b h1 h2=>⟨(hfr.low _ _ _ h1 h2).1,(hfr.low _ _ _ h1 h2).2,.inl ⟨r,x,h1,h2⟩⟩
  refine c5d hE hcallr N fn c _ _ _ _ hsim hrun fun e g' a w' f' caps hr he hs=>?_
  obtain⟨_,vs',g'',h1,h2,h3,h4,h5,h6⟩:=a3v hE hs hpack hfr.dom hM hres
  have key:∀R:Ending->World->Prop,R (.returned (a7j vs')) w'->Go.Leaves P fn a.tmps R a.defers .returning w':=by
   intro R hR
   rw[hs.defers]
   refine leaves_cons (by simp) (f:=f') (args:=caps) ?_ ((hrcv f' hr caps w').mono ?_)
   ·have:=hcallr f' hr caps w'
    simp[invoke,this]
   ·rintro e u' w'' ⟨⟨v,rfl⟩,rfl,rfl⟩
    exact⟨_,h1,hR⟩
  have facts:∃vs'' g'',Ending.returned (a7j vs') = .returned (a7j vs'')/\ExtX (N5 g) w w'/\Step M w (a1d M g g'') w'/\Frag B0 (a1d M g g'') w' g'' F.rs F.cs (F.out z).1 (F.out z).2 vs''/\
   (∀r x,g r=some x->(a4C x.v=true\/a0g F.bs F.cs=true)->g'' r=some x)/\∀b,N5 g'' b->N5 g b\/w.heap.size<=b:=⟨vs',g'',rfl,h2,h3,h4,fun r x e1 e2=>h5 r x e1 (e2.elim id fun e=>by rw[hkp]at e;cases e),h6⟩
  rcases he with rfl|rfl<;>exact key _ facts
end
end
noncomputable section
structure Dyn where
 ps:List Sl
 bs:List Sb
 s0:St
 fz:List Nat
structure Dyn' where
 rs:List Sl
 cs:List Sb
section
variable{R:Type}
def e4I(r:Nat)(l:List Nat):Nat->(Option Nat->Option R)->Option R:=
 List.rec (motive:=fun _=>Nat->(Option Nat->Option R)->Option R) (fun _ k=>k none) (fun q _ ih i k=>match Nat.beq q r with|true=>k (some i)|false=>ih (i+1) k) l
def noK(ρ:List Nat)(r:Nat)(k:Nat->List Nat->Option R):Option R:=e4I r ρ 0 fun o=>match o with
 |some j=>k j ρ
 |none=>k ρ.length (ρ ++ [r])
def e4H(l:List Nat):List Nat->List Nat->(List Nat->List Nat->Option R)->Option R:=List.rec (motive:=fun _=>List Nat->List Nat->(List Nat->List Nat->Option R)->Option R) (fun js ρ k=>k js ρ) (fun r _ ih js ρ k=>noK ρ r fun j ρ=>ih (js ++ [j]) ρ k) l
def slK(st:St)(rows dat:Bool)(ty:Option Ty)(ρ:List Nat)(d:D)(k:Sl->List Nat->Option R):Option R:=match d with
 |.dead=>k .dead ρ
 |.skip=>k .skip ρ
 |.bl _=>k (.v .bool) ρ
 |.v t _=>k (.v t) ρ
 |.nilS=>match dat,ty with
  |true,some t=>k (.v t) ρ
  |_,_=>k .nilS ρ
 |.nilP=>k .nilP ρ
 |.at_ t _=>k (.at_ t) ρ
 |.row r=>match rows with
  |false=>match p5 st.hp r with
   |some (.row _ t _ _)=>k (.v (.sl t)) ρ
   |_=>none
  |true=>noK ρ r fun j ρ=>k (.row j) ρ
 |.mref r=>noK ρ r fun j ρ=>k (.mref j) ρ
 |.box r o=>noK ρ r fun j ρ=>k (.box j o) ρ
 |.fnc f l=>e4H l [] ρ fun js ρ=>k (.fnc f js) ρ
 |.tup true _=>match ty with
  |some t=>k (.v t) ρ
  |none=>none
 |_=>none
def d9s(st:St)(rows dat:Bool)(l:List D):List (Option Ty)->List Nat->(List Sl->List Nat->Option R)->Option R:=
 List.rec (motive:=fun _=>List (Option Ty)->List Nat->(List Sl->List Nat->Option R)->Option R) (fun _ ρ k=>k [] ρ)
  (fun d _ ih ts ρ k=>slK st rows dat (match ts with|t :: _=>t | []=>none) ρ d fun s ρ=>ih (match ts with|_ :: ts=>ts | []=>[]) ρ fun l ρ=>k (s :: l) ρ) l
def sbK(st:St)(r:Nat)(ρ:List Nat)(k:Sb->List Nat->Option R):Option R:=match p5 st.hp r with
 |some (.cells ds)=>d9s st true false ds [] ρ fun l ρ=>k (.cells l) ρ
 |some (.map e _)=>k (.map e) ρ
 |some (.row e t ex _)=>k (.row e t ex) ρ
 |some (.iter _ _ _)=>none
 |none=>k .none ρ
def d9r(st:St):Nat->Nat->List Nat->List Sb->(List Sb->Option R)->Option R
 |0,_,_,_,_=>none
 |n+1,j,ρ,acc,k=>match ρ[j]? with
  |some r=>sbK st r ρ fun b ρ=>d9r st n (j+1) ρ (acc ++ [b]) k
  |none=>a01 [] fun _=>k acc
end
def c2R:List D->List Nat | []=>[] | .mref r :: l=>r :: c2R l|_ :: l=>c2R l
structure Call' where
 fn:FuncId->Option Func
 rows:FuncId->Bool
 frz:FuncId->Bool
 exq:FuncId->Nat->Bool
 dfr:FuncId->Bool
 rcv:FuncId->Bool
 dat:FuncId->Bool
def e4g(C:Call')(E:Env)(fn:Func)(st:St)(f:FuncId)(ds:List D):Option Dyn:=
 b0X id ds fun ds=>a01 (match C.frz f with|true=>c2R ds|false=>[]) fun fz=>c9t fz ds st fun ds st=>
   d9s st (C.rows f) (C.dat f) ds (fn.params.toList.map E.ty) [] fun ps ρ=>d9r st 1000 0 ρ [] fun bs=>
   b6Q st ps ds [] [] fun x ρ β=>b31 st bs 0 ρ β fun y ρ β=>
   b2k id (start fn ps bs x y).fr fun fr=>b0I id (start fn ps bs x y).hp fun hp=>some ⟨ps,bs,⟨fn.ntmps,fr,hp⟩,fz⟩
def e4h(E:Env)(fn:Func)(n:Nat)(sE:St):Option Dyn':=b4c E sE fn.results.toList [] fun ds'=>d9s sE true false ds' (fn.resultTypes.toList.map E.ty) (upto n) fun rs ρ'=>d9r sE 1000 0 ρ' [] fun cs=>some ⟨rs,cs⟩
def e4f(E:Env)(fn:Func)(i:Dyn)(sE:St)(z:Dyn'):AF:=
 {ps:=i.ps,bs:=i.bs,rs:=z.rs,cs:=z.cs,R:=SV z.rs×BV z.cs,out:=fun z=>z
  f:=fun x y=>match St.same (start fn i.ps i.bs x y) i.s0 with
   |true=>A8 E fn {ps:=i.ps,bs:=i.bs,rs:=z.rs,cs:=z.cs,R:=SV z.rs×BV z.cs,out:=fun z=>z,f:=fun _ _=>none} Prod.mk sE
   |false=>none}
def Env.wx(E:Env)(x:Nat->Bool):Env:={E with exq:=x}
def d9c(C:Call')(E1:Env)(N:Nat)(st:St)(f:FuncId)(q:Option Tmp)(ds:List D):Option (AF×List Nat):=
 (fun E=>match C.fn f with
 |some fn=>match fn.body with
  |some c=>match e4g C E fn st f ds with
   |some i=>match(match C.dfr f with|true=>b9K C.rcv E N fn c i.s0|false=>c9n E N fn c i.s0)with
    |some sE=>match e4h E fn i.bs.length sE with
     |some z=>match Nat.ble i.ps.length fn.ntmps,Nat.ble i.bs.length 1000,a0g i.bs z.cs with
      |true,true,false=>some (e4f E fn i sE z,i.fz)
      |_,_,_=>none
     |none=>none
    |none=>none
   |none=>none
  |none=>none
 |none=>none) (E1.wx (C.exq f))
section
variable{P:Program}{df:List Deferred}{G:World->Prop}{B0:Nat}{E:Env}
theorem c2A{C:Call'}(hE:EnvOk P G B0 E)(hC:∀f fn,C.fn f=some fn->P.funcs[f]? = some fn/\∀(args:Array Value) (w:World),(callFunc f args).run P w = .ok (.enter f args) w)(hR:∀f,C.rcv f=true->(∀(args:Array Value) (w:World),(callFunc f args).run P w = .ok (.enter f args) w)/\∀(caps:Array Value) (w:World),CallsD P f caps .returning w fun e u w'=>(∃v,e = .returned v)/\u = .returning/\w'=w)(N:Nat)
    {st:St} {f:FuncId} {q:Option Tmp} {ds:List D} {F:AF} {l:List Nat} (h:d9c C E N st f q ds=some (F,l)):Sound P G B0 f F:=by
  unfold d9c at h
  dsimp only at h
  have hE:EnvOk P G B0 (E.wx (C.exq f)):={ty:=hE.ty,el:=hE.el,fld:=hE.fld,mp:=hE.mp,bld:=hE.bld,ptr:=hE.ptr,cmp:=hE.cmp,fn:=hE.fn,stable:=hE.stable,mixed:=hE.mixed,dyn:=hE.dyn,pf:=hE.pf}
  split at h
  · rename_i fn hfn
    split at h
    · rename_i c hb
      split at h
      · rename_i i hi
        split at h
        · rename_i sE hsE
          split at h
          · rename_i z hz
            split at h
            · rename_i h1 h2 h3
              cases h
              obtain⟨hf,hcall⟩:=hC _ _ hfn
              cases hdf:C.dfr f with
              |false=>
               rw[hdf]at hsE
               refine b4f hE hf hb hcall _ Prod.mk (fun _ _=>rfl) N h1 h2 (fun x y r hr=>?_) h3
               show ∃sE,c9n _ N fn c (start fn i.ps i.bs x y)=some sE/\_
               change(match St.same (start fn i.ps i.bs x y) i.s0 with|true=>_|false=>none)=some r at hr
               split at hr
               · rename_i hs
                 exact⟨sE,by rw[St.same_eq _ _ hs];exact hsE,hr⟩
               · cases hr
              |true=>
              rw[hdf]at hsE
              refine c0i hE hf hb hcall _ Prod.mk (fun _ _=>rfl) N h1 h2 (rcv:=C.rcv) (fun f h=>(hR f h).1) (fun f h=>(hR f h).2) (fun x y r hr=>?_) h3
              show ∃sE,b9K _ _ N fn c (start fn i.ps i.bs x y)=some sE/\_
              change(match St.same (start fn i.ps i.bs x y) i.s0 with|true=>_|false=>none)=some r at hr
              split at hr
              · rename_i hs
                exact⟨sE,by rw[St.same_eq _ _ hs];exact hsE,hr⟩
              · cases hr
            · cases h
          · cases h
        · cases h
      · cases h
    · cases h
  · cases h
def Env.rawE(E:Env):Env:={E with raw:=true}
theorem d6d(h:EnvOk P G B0 E):EnvOk P G B0 E.rawE:={ty:=h.ty,el:=h.el,fld:=h.fld,mp:=h.mp,bld:=h.bld,ptr:=h.ptr,cmp:=h.cmp,fn:=h.fn,stable:=h.stable,mixed:=h.mixed,dyn:=h.dyn,pf:=h.pf}
def d8i(P:Program):List (FuncId×Func)->Prop | []=>True|p :: l=>(P.funcs[p.1]? = some p.2/\∀(args:Array Value) (w:World),(callFunc p.1 args).run P w = .ok (.enter p.1 args) w)/\d8i P l
theorem b7r{P:Program}:∀(l:List (FuncId×Func)),d8i P l->∀f fn,p5 l f=some fn->P.funcs[f]? = some fn/\∀(args:Array Value) (w:World),(callFunc f args).run P w = .ok (.enter f args) w
 |[],_,f,fn,h=>by cases h
 |p :: l,hl,f,fn,h=>by
  rw[q6]at h
  split at h
  ·rename_i e
   have e:p.1=f:=Nat.eq_of_beq_eq_true e
   cases h
   rw[<-e]
   exact hl.1
  ·exact b7r l hl.2 f fn h
def d8p(E:Env)(C:Call')(N:Nat):Nat->Env:=Nat.rec (motive:=fun _=>Env) E fun _ E'=>{E with dyn:=d9c C E' N}
theorem b95(hE:EnvOk P G B0 E){C:Call'}(hC:∀f fn,C.fn f=some fn->P.funcs[f]? = some fn/\∀(args:Array Value) (w:World),(callFunc f args).run P w = .ok (.enter f args) w)(hR:∀f,C.rcv f=true->(∀(args:Array Value) (w:World),(callFunc f args).run P w = .ok (.enter f args) w)/\∀(caps:Array Value) (w:World),CallsD P f caps .returning w fun e u w'=>(∃v,e = .returned v)/\u = .returning/\w'=w)(N:Nat):∀n,EnvOk P G B0 (d8p E C N n)
 |0=>hE
 |n+1=>{ty:=hE.ty,el:=hE.el,fld:=hE.fld,mp:=hE.mp,bld:=hE.bld,ptr:=hE.ptr,cmp:=hE.cmp,fn:=hE.fn,stable:=hE.stable,mixed:=hE.mixed,pf:=hE.pf,dyn:=fun st f q ds F l h=>c2A (q:=q) (b95 hE hC hR N n) hC hR N h}
def c9p(E:Env)(N:Nat)(fn:Func):Option Bool:=
 match fn.body with
 |some c=>match c9n E N fn c (start fn [] [] () ())with
  |some sE=>A8 E fn {ps:=[],bs:=[],rs:=[.v .bool],cs:=[],R:=Bool,out:=fun z=>((z,()),()),f:=fun _ _=>none} (fun x _=>x.1) sE
  |none=>none
 |none=>none
theorem b9L(hE:EnvOk P G B0 E){f:FuncId}{fn:Func}(hf:P.funcs[f]? = some fn)(hcall:∀(args:Array Value) (w:World),(callFunc f args).run P w = .ok (.enter f args) w)(N:Nat){b:Bool}(h:c9p E N fn=some b):
  Sound P G B0 f {ps:=[],bs:=[],rs:=[.v .bool],cs:=[],R:=Bool,out:=fun z=>((z,()),()),f:=fun _ _=>some b}:=by
 unfold c9p at h
 split at h
 ·rename_i c hb
  split at h
  ·rename_i sE hsE
   refine b4f hE hf hb hcall _ (fun x _=>x.1) (fun _ _=>rfl) N (by rw[Nat.ble_eq];exact Nat.zero_le _) rfl (fun x y z hz=>?_) rfl
   cases hz
   exact⟨sE,hsE,h⟩
  ·cases h
 ·cases h
end
end
section
def d5V(ks:List Nat)(ops:Array Oper):Bool:=ops.toList.all fun o=>match o.dst with
 |some t=>!q7 ks t
 |none=>true
def a0M(E:Env)(ks:List Nat):Code->Bool
 |.region id ops draw=>d5V ks ops&&(E.jn id).isNone&&match draw with
  |false=>true
  |true=>(ops.toList.all (C8 E)&&Region.lexB .any ops)||match(E.hint (100000+id)).hf with
   |[_,_]=>true
   |_=>false
 |.seq x y=>a0M E ks x&&a0M E ks y
 |.cond _ x y=>a0M E ks x&&a0M E ks y
 |.block _ c=>a0M E ks c
 |.loop c=>a0M E ks c
 |_=>true
section
variable{P:Program}{df:List Deferred}{G:World->Prop}{B0:Nat}{E:Env}{M:Nat->Nat->Prop}{M0:Nat->Nat->Prop}{w0:World}{gi g:Gh}{st:St}{a:Act}{w:World}
theorem a40{R:Type}[BothC R](hE:EnvOk P G B0 E){ops:Array Oper}{k:St->Option R}{r:R}{Q:Exit->Act->World->Prop}(hK:L9 df G B0 M0 w0 gi k r (Q .normal))(hP:a4J df G B0 E.bad M0 w0 gi r Q):∀(l:List Oper) (g:Gh) (st:St) (a:Act) (w:World),
  Sim df G B0 M0 w0 gi g st a w->a3s E ops.toList l st k=some r->wpList P ops Q l a w
 |[],g,st,a,w,hs,h=>hK _ _ _ _ hs h
 |o :: l,g,st,a,w,hs,h=>by
  unfold wpList
  have h:a3j ops.toList o st (fun st=>opD E o st (fun st=>a3s E ops.toList l st k)) (fun st=>a3s E ops.toList l st k)=some r:=h
  rcases a1n hs h with⟨hw,st',hs',h⟩|⟨hw,st',hs',h⟩
  ·rw[if_pos hw]
   exact .inl (b03 hE hs' (fun g st a w hs h=>a40 hE hK hP l g st a w hs h) hP h)
  ·rw[if_neg (by rw[hw];simp)]
   exact a40 hE hK hP l g _ _ w (hs'.put _ (d:= .skip) (v:=undef) rfl) h
theorem J0{R:Type}[BothC R](hE:EnvOk P G B0 E)(N:Nat)(ks:List Nat):∀(c:Code) (i:Nat) {k:Ex->St->Option R} {r:R} {Q:Exit->Act->World->Prop},a0M E ks c=true->Leaves df G B0 M0 w0 gi k r Q->a4J df G B0 E.bad M0 w0 gi r Q->
  (∀t,q7 ks t=false->∀c a v w,Q (.panic c) (a.put (some t) v) w->Q (.panic c) a w)->∀(g:Gh) (st:St) (a:Act) (w:World),
  Sim df G B0 M0 w0 gi g st a w->V4 E N c i st k=some r->c.wp P Q a w
 |.skip,i,k,r,Q,hc,hK,hP,hB,g,st,a,w,hs,h=>wp_skip (hK .normal _ _ _ _ hs h)
 |.region id ops draw,i,k,r,Q,hc,hK,hP,hB,g,st,a,w,hs,h=>by
  rw[b2p]at h
  unfold a0M at hc
  simp only[Bool.and_eq_true]at hc
  obtain⟨⟨hc1,hc2⟩,hc3⟩:=hc
  split at h
  ·rename_i t ht
   rw[ht]at hc2;cases hc2
  ·unfold c9X at h
   split at h
   ·exact wp_region_list (a40 hE (fun _ _ _ _ hs h=>hK .normal _ _ _ _ hs h) hP _ _ _ _ _ hs h)
   ·dsimp only at hc3
    split at h
    ·rename_i hq
     simp only[Bool.and_eq_true]at hq
     exact wp_region_quiet (C:=fun w'=>Ext w w') hE.mixed hq.2 (Ext.refl w).drew (a0K hE (fun _ _ _ _ hs h=>hK .normal _ _ _ _ hs h) _ _ _ _ hq.1 hs h)
    ·rename_i hq
     rw[hq,Bool.false_or]at hc3
     split at h
     ·rename_i hsel
      unfold c5a at h
      split at hc3
      ·rename_i p q hpq
       rw[hpq]at h
       have hs1:=hs.later (Ext.refl w).drew
       refine wp_region_any hE.mixed (Y2 hE hsel (Q:=Q) (fun _ _ _ _ hs h=>hK .normal _ _ _ _ hs h) hP (fun j o ho c a v w hQ=>?_) _ _ _ _ _ _ hs1 h)
       cases hd:o.dst with
       |none=>rw[hd]at hQ;exact hQ
       |some t=>
        rw[hd]at hQ
        have:=List.all_eq_true.1 hc1 o (by rw[<-Array.getElem?_toList]at ho;exact List.mem_of_getElem? ho)
        rw[hd]at this
        exact hB t (by simpa using this) c a v w hQ
      ·cases hc3
     ·cases h
 |.seq x y,i,k,r,Q,hc,hK,hP,hB,g,st,a,w,hs,h=>by
  unfold a0M at hc
  simp only[Bool.and_eq_true]at hc
  refine wp_seq (J0 hE N ks x i hc.1 ?_ ?_ ?_ _ _ _ _ hs h)
  ·intro e g st a w hs h
   cases e with
   |normal=>exact J0 hE N ks y i hc.2 hK hP hB _ _ _ _ hs h
   |exit id=>exact hK (.exit id) _ _ _ _ hs h
   |ret=>exact hK .ret _ _ _ _ hs h
  ·exact fun c ρ g st a w w' h1 h2 h3 h4=>hP c ρ g st a w w' h1 h2 h3 h4
  ·exact fun t ht c a v w h=>hB t ht c a v w h
 |.cond c x y,i,k,r,Q,hcc,hK,hP,hB,g,st,a,w,hs,h=>by
  unfold a0M at hcc
  simp only[Bool.and_eq_true]at hcc
  rw[b7n]at h
  have hc:=hs.ev c
  split at h
  ·rename_i b hd
   rw[hd]at hc
   refine wp_cond (t:=b) (RepD.bool hc) ?_
   split at h
   case h_2=>
    rcases F3 h with⟨e,h2⟩|⟨e,h2⟩
    ·subst e
     obtain⟨st',hs',h2⟩:=hs.know hd h2
     exact J0 hE N ks x i hcc.1 hK hP hB _ _ _ _ hs' h2
    ·subst e
     obtain⟨st',hs',h2⟩:=hs.know hd h2
     exact J0 hE N ks y i hcc.2 hK hP hB _ _ _ _ hs' h2
   rcases F3 h with⟨e,h2⟩|⟨e,h2⟩
   ·subst e;exact J0 hE N ks x i hcc.1 hK hP hB _ _ _ _ hs h2
   ·subst e;exact J0 hE N ks y i hcc.2 hK hP hB _ _ _ _ hs h2
  ·rename_i hd
   rw[hd]at hc
   exact wp_cond (t:=true) hc (J0 hE N ks x i hcc.1 hK hP hB _ _ _ _ hs h)
  ·rename_i hd
   rw[hd]at hc
   exact wp_cond (t:=false) hc (J0 hE N ks y i hcc.2 hK hP hB _ _ _ _ hs h)
  ·cases h
 |.block id c,i,k,r,Q,hc,hK,hP,hB,g,st,a,w,hs,h=>by
  unfold a0M at hc
  refine wp_block (J0 hE N ks c id hc ?_ ?_ ?_ _ _ _ _ hs h)
  ·intro e g st a w hs h
   cases e with
   |normal=>exact hK .normal _ _ _ _ hs h
   |exit j=>
    simp only at h
    show(if j=id then Q .normal a w else Q (.exit j) a w)
    split at h
    ·rename_i e;rw[if_pos e];exact hK .normal _ _ _ _ hs h
    ·rename_i e;rw[if_neg e];exact hK (.exit j) _ _ _ _ hs h
   |ret=>exact hK .ret _ _ _ _ hs h
  ·exact fun c ρ g st a w w' h1 h2 h3 h4=>hP c ρ g st a w w' h1 h2 h3 h4
  ·exact fun t ht c a v w h=>hB t ht c a v w h
 |.loop c,i,k,r,Q,hc,hK,hP,hB,g,st,a,w,hs,h=>by
  unfold a0M at hc
  rw[b7o]at h
  simp only[a2P]at h
  have key:∀(n:Nat) (g:Gh) (st:St) (a:Act) (w:World),Sim df G B0 M0 w0 gi g st a w->iter (E.hint i) (V4 E N c i) n st k=some r->Code.rounds P c Q n a w:=by
   intro n
   induction n with
   |zero=>intro g st a w hs h;cases h
   |succ n ih=>
    intro g st a w hs h
    refine J0 hE N ks c i hc ?_ ?_ ?_ _ _ _ _ hs h
    ·intro e g st a w hs h
     cases e with
     |normal=>simp only[a2P]at h;exact(let ⟨g',hs'⟩:=hs.head (E.hint i);ih g' _ _ _ hs' h)
     |exit id=>simp only[c0p]at h;exact hK (.exit id) _ _ _ _ (hs.tail _) h
     |ret=>exact hK .ret _ _ _ _ hs h
    ·exact fun c ρ g st a w w' h1 h2 h3 h4=>hP c ρ g st a w w' h1 h2 h3 h4
    ·exact fun t ht c a v w h=>hB t ht c a v w h
  obtain⟨g',hs'⟩:=hs.head (E.hint i)
  exact wp_loop_rounds N (key N _ _ _ _ hs' h)
 |.exit id,i,k,r,Q,hc,hK,hP,hB,g,st,a,w,hs,h=>wp_exit (hK (.exit id) _ _ _ _ hs h)
 |.ret,i,k,r,Q,hc,hK,hP,hB,g,st,a,w,hs,h=>Go.wp_ret (hK .ret _ _ _ _ hs h)
 |.rangeFunc _ _ _ _,i,k,r,Q,hc,hK,hP,hB,g,st,a,w,hs,h=>by cases h
 |.scope _,i,k,r,Q,hc,hK,hP,hB,g,st,a,w,hs,h=>by cases h
 |.label _,i,k,r,Q,hc,hK,hP,hB,g,st,a,w,hs,h=>by cases h
 |.goto _,i,k,r,Q,hc,hK,hP,hB,g,st,a,w,hs,h=>by cases h
 |.refuse _,i,k,r,Q,hc,hK,hP,hB,g,st,a,w,hs,h=>by cases h
end
end
section
def L7:Nat:=18446744073709551616
theorem b3Q{α:Type}(xs:List α)(i:Nat):l6 xs (i:Int)=xs[i]?:=by unfold l6;rw[if_pos (by omega)];rfl
theorem b0Q{α:Type}(xs:List α):l6 xs 0=xs[0]?:=b3Q xs 0
theorem o9{α:Type}(xs:List α){i:Nat}(h:i<xs.length):l6 xs (i:Int)=some xs[i]:=by rw[b3Q,List.getElem?_eq_getElem h]
theorem D8{n:Int}(h0:-9223372036854775808<=n)(h:n<=9223372036854775807):IntKind.i64.wrap n=n:=by
 simp[IntKind.wrap,IntKind.signed,IntKind.bits]
 omega
theorem I5{α:Type}{xs:List α}(hx:xs.length<=maxLen){i:Nat}(h:i<xs.length):IntKind.i64.wrap ((i:Int)+1)=((i+1:Nat):Int):=by
 unfold maxLen at hx
 rw[D8 (by omega) (by omega)];rfl
theorem c7r{i:Nat}(h:i<=9223372036854775807):IntKind.i64.wrap ((i:Int)-1)=(i:Int)-1:=D8 (by omega) (by omega)
theorem b4j{α:Type}(xs:List α){i:Nat}(h:i<=xs.length):slc xs 0 (i:Int)=some (xs.take i):=by
 unfold slc;rw[if_pos ⟨by omega,by omega,by omega⟩];simp
theorem d9A(a b:UInt8):(a==b)=decide (a.toNat=b.toNat):=by
 show decide (a=b)=_
 exact decide_eq_decide.2 UInt8.toNat_inj.symm
theorem P9{α:Type}{xs:List α}{i:Nat}(h:i<xs.length):decide ((i:Int)<(xs.length:Int))=true:=decide_eq_true (by omega)
theorem a0Y{α:Type}{xs:List α}:decide ((xs.length:Int)<(xs.length:Int))=false:=decide_eq_false (by omega)
def a2v{α R:Type}(body:Nat->α->R->R)(k:R):List α->Nat->R | [],_=>k|x :: xs,i=>body i x (a2v body k xs (i+1))
theorem b7x{α R:Type}{f:Nat->Int->Option R}{T:(Int->Option R)->Int->Option R}(hf:∀n s,f (n+1) s=T (f n) s)(xs:List α){body:Nat->α->R->R}{k:R}
  (hT:∀(self:Int->Option R) (i:Nat) (h:i<xs.length) (r:R),self ((i+1:Nat):Int)=some r->T self (i:Int)=some (body i xs[i] r))
  (hE:∀self:Int->Option R,T self (xs.length:Int)=some k):
  ∀(m n i:Nat),i+m=xs.length->m<n->f n (i:Int)=some (a2v body k (xs.drop i) i)
 |0,n,i,hi,hn=>by
  obtain⟨n,rfl⟩:∃j,n=j+1:=⟨n-1,by omega⟩
  have:i=xs.length:=by omega
  subst this
  rw[hf,hE,List.drop_length];rfl
 |m+1,n,i,hi,hn=>by
  obtain⟨n,rfl⟩:∃j,n=j+1:=⟨n-1,by omega⟩
  have hlt:i<xs.length:=by omega
  have ih:=b7x hf xs hT hE m n (i+1) (by omega) (by omega)
  rw[hf,hT _ i hlt _ ih,List.drop_eq_getElem_cons hlt];rfl
theorem N6{α R:Type}{f:Nat->Int->Option R}{T:(Int->Option R)->Int->Option R}(hf:∀n s,f (n+1) s=T (f n) s)(xs:List α)(hx:xs.length<=maxLen){body:Nat->α->R->R}{k:R}
  (hT:∀(self:Int->Option R) (i:Nat) (h:i<xs.length) (r:R),self ((i+1:Nat):Int)=some r->T self (i:Int)=some (body i xs[i] r))
  (hE:∀self:Int->Option R,T self (xs.length:Int)=some k) {N:Nat} (hN:L7<=N):f N 0=some (a2v body k xs 0):=by
 have:=b7x hf xs hT hE xs.length N 0 (by omega) (by unfold maxLen at hx;unfold L7 at hN;omega)
 simpa using this
def c2J{α:Type}(p:α->Bool)(xs:List α):Int:=a2v (fun i x r=>if p x=true then(i:Int)else r) (-1) xs 0
theorem b7t{α:Type}(p:α->Bool):∀(xs:List α) (j:Nat),let r:=a2v (fun i x r=>if p x=true then(i:Int)else r) (-1) xs j
  (xs.find? p=none/\r = -1)\/∃i x,xs.find? p=some x/\xs[i]? = some x/\p x=true/\r=((j+i:Nat):Int)
 |[],_=> .inl ⟨rfl,rfl⟩
 |x :: xs,j=>by
  cases hp:p x with
  |true=>exact .inr ⟨0,x,by simp[hp],rfl,hp,by simp[a2v,hp]⟩
  |false=>
   rcases b7t p xs (j+1)with⟨h1,h2⟩|⟨i,y,h1,h2,h3,h4⟩
   ·exact .inl ⟨by simp[hp,h1],by simp only[a2v,hp];simpa using h2⟩
   ·exact .inr ⟨i+1,y,by simp[hp,h1],by simpa using h2,h3,by simp only[a2v,hp];rw[if_neg (by simp),h4];congr 1;omega⟩
theorem c2K{α:Type}(p:α->Bool)(xs:List α):(xs.find? p=none/\c2J p xs = -1)\/∃(i:Nat) (x:α),xs.find? p=some x/\xs[i]? = some x/\p x=true/\c2J p xs=(i:Int):=by
 rcases b7t p xs 0 with h|⟨i,x,h1,h2,h3,h4⟩
 ·exact .inl h
 ·exact .inr ⟨i,x,h1,h2,h3,by rw[c2J,h4];simp⟩
theorem a4U{α:Type}(p:α->Bool)(xs:List α):decide (c2J p xs>=0)=xs.any p:=by
 rcases c2K p xs with⟨h1,h2⟩|⟨i,x,h1,h2,h3,h4⟩
 ·rw[h2]
  have:xs.any p=false:=by rw[List.any_eq_false];intro x hx;have:=List.find?_eq_none.1 h1 x hx;simpa using this
  rw[this];rfl
 ·rw[h4]
  have:xs.any p=true:=List.any_eq_true.2 ⟨x,List.mem_of_getElem? h2,h3⟩
  rw[this];exact decide_eq_true (by omega)
end
end Go.Proofs.YtolpmfhiegpohaaGreatDoor
