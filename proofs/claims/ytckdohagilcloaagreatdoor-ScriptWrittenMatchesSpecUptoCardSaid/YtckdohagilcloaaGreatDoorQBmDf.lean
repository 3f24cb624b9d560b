/- % -/
import Derived.Test.YtckdohagilcloaaGreatDoorQBm4
import Derived.Test.YtckdohagilcloaaGreatDoorQBm13
import Derived.Test.YtckdohagilcloaaGreatDoorQBm1
import Derived.Test.YtckdohagilcloaaGreatDoorQBmLp
import Derived.Defers
namespace Go.Proofs.YtckdohagilcloaaGreatDoor
set_option linter.unusedVariables false
set_option linter.unusedSimpArgs false
open Go Go.RowKit
section
def e9X(p:Prop):Prop:=p
theorem f0N{p:Prop}(h:p):e9X p:=h
def SL{α:Type}(w:World)(sz:Nat)(R:List Value->α->Prop)(v:Value)(L:List α):Prop:=∃A c,v = .slice A L.length c/\L.length<=c/\c<=maxLen/\∀i (h:i<L.length),∃ad vs,A=some ad/\vs.length=sz/\R vs L[i]/\∀j u,vs[j]? = some u->w.cell? (ad.add (i*sz+j))=some u
theorem SL.ext{α:Type}{w w':World}{sz:Nat}{R R':List Value->α->Prop}{v:Value}{L:List α}(h:SL w sz R v L)(hE:Ext w w')(hR:∀vs x,R vs x->R' vs x):SL w' sz R' v L:=by
 obtain⟨A,c,e,h1,h2,hr⟩:=h;refine⟨A,c,e,h1,h2,fun i hi=>?_⟩;obtain⟨ad,vs,a1,a2,a3,a4⟩:=hr i hi;exact⟨ad,vs,a1,a2,hR _ _ a3,fun j u hu=>hE.cell (a4 j u hu)⟩
theorem SL.nil{α:Type}(w:World)(sz:Nat)(R:List Value->α->Prop):SL w sz R (.slice none 0 0) []:=⟨none,0,rfl,Nat.le_refl _,Nat.zero_le _,fun i h=>absurd h (by simp)⟩
def BsE(w:World)(vs:List Value)(l:List UInt8):Prop:=∃v,vs=[v]/\Bs w v l
theorem BsE.ext{w w':World}{vs:List Value}{l:List UInt8}(h:BsE w vs l)(hE:Ext w w'):BsE w' vs l:=let ⟨v,e,h⟩:=h;⟨v,e,h.ext hE⟩
def BBs(w:World)(v:Value)(L:List (List UInt8)):Prop:=SL w 1 (BsE w) v L
theorem BBs.ext{w w':World}{v:Value}{L:List (List UInt8)}(h:BBs w v L)(hE:Ext w w'):BBs w' v L:=SL.ext h hE fun _ _ h=>h.ext hE
theorem SL.of_own{α:Type}{w:World}{base:Nat}{e:TypeId}{v:Value}{xs:List Value}{R:List Value->α->Prop}{L:List α}(h:w.ownsRow base e 1 v L.length xs)(hR:∀i (h:i<L.length) u,xs[i]? = some u->R [u] L[i]):SL w 1 R v L:=by
 have hn:xs.length=L.length:=by have:=h.1;omega
 obtain⟨A,c,rfl,h1,h2,hr⟩:=Row.of_own' h;refine⟨A,c,rfl,h1,h2,fun i hi=>?_⟩;obtain⟨ad,rfl,hc⟩:=hr.at_ (List.getElem?_eq_getElem (show i<xs.length by omega));refine⟨ad,[xs[i]'(by omega)],rfl,rfl,hR i hi _ (List.getElem?_eq_getElem _),fun j u hu=>?_⟩
 match j,hu with
 |0,hu=>simp at hu;subst hu;simpa using hc
theorem BBs.at_{w:World}{A:Option Addr}{n c:Nat}{L:List (List UInt8)}(h:BBs w (.slice A n c) L){i:Nat}(hi:i<L.length):∃ad B d,A=some ad/\w.cell? (ad.add i)=some (.slice B (L[i]'hi).length d)/\(L[i]'hi).length<=d/\d<=maxLen/\Row w B (bcs (L[i]'hi)):=by
 obtain⟨A',c',e,_,_,hr⟩:=h;obtain⟨ad,vs,a1,a2,⟨v,rfl,⟨B,d,rfl,h1,h2,h3⟩⟩,a4⟩:=hr i hi;injection e with e1 e2 e3
 subst e1;exact⟨ad,B,d,a1,by simpa using a4 0 _ rfl,h1,h2,h3⟩
theorem b9l{P:Program}(w0 w:World)(t ti ty e:TypeId)(size bytes:Nat)(hT:ElemT P t e size bytes)(hti:P.underlying ti=some (.int .i64))(hE:Ext w0 w)(n:Nat)(hn:0<n)(hb:n*bytes<=140737488355328):
  ∃cap w',(Builtin.append_ #[t,ti] ty #[.slice none 0 0,.int .i64 n]).run P w = .ok (.slice (some ⟨w.heap.size,0,none⟩) n cap) w'/\n<=cap/\w'.ownsRow w0.heap.size e size (.slice (some ⟨w.heap.size,0,none⟩) 0 cap) 0 []/\Ext w0 w':=by
 obtain⟨ht,hsz,hbp,i,z,hi,hz,hsize,hby,hzs⟩:=hT;subst hsize;subst hby
 have hnb:n<=n*i.bytes:=Nat.le_mul_of_pos_right _ hbp;have hw:IntKind.i64.wrap (n:Int)=n:=by rw[IntKind.wrap_i64];omega
 have h1:¬((n:Int)<0):=by omega
 have h2:¬(((n:Int)*(i.bytes:Int))>2 ^ 48):=by
  have:((n:Int)*(i.bytes:Int))=((n*i.bytes:Nat):Int):=by norm_cast
  omega
 have h3:¬(Builtin.nextslicecap n 0*i.bytes>2 ^ 48):=by
  have:Builtin.nextslicecap n 0=n:=by unfold Builtin.nextslicecap;rw[if_pos (by omega)]
  rw[this];omega
 have hm63:n<=maxLen:=by unfold maxLen;omega
 have hn0:n≠0:=by omega
 have h63':¬(9223372036854775807<(n:Int)):=by omega
 have h2':¬(281474976710656<(n:Int)*(i.bytes:Int)):=h2;have h48':¬(281474976710656<Builtin.nextslicecap n 0*i.bytes):=h3;have hge:=grownCap_ge w n 0 e;have hne:¬(n*i.size=0):=by have:=Nat.mul_pos hn hsz;omega
 refine⟨grownCap w n 0 e,w.drew.alloc (.cells (Builtin.zeroCells z.cells n++Builtin.zeroCells z.cells (grownCap w n 0 e-n)) e),?_,hge,?_,hE.drew.alloc _⟩
 ·simp[Builtin.append_,run_underlying ht,run_underlying hti,sizeOf,typeInfo,hi,asInt,asIntOf,hw,h1,h2',h48',Builtin.firstCells,hne,zeroValue,hz,hn0,h63',Question.forced,newRow,grownCap]
 ·refine⟨by simp,.inr ⟨_,_,_,rfl,hE.size,heap_alloc_new w.drew _,Nat.zero_le _,grownCap_le_maxLen w n 0 e hm63,?_,by simp⟩⟩;simp only[Array.size_append,size_zeroCells,hzs,<-Nat.add_mul];congr 1;omega
theorem c2f{P:Program}{w0 w:World}{ops:Array Oper}{rest:List Oper}{o:Oper}{a:Act}{Q:Exit->Act->World->Prop}(hgd:o.guard=none){s x:Operand}
  {t ti e:TypeId} {size bytes:Nat} (hT:ElemT P t e size bytes) (hti:P.underlying ti=some (.int .i64))
  (ho:o.op = .call {callee:= .builtin .append,args:=#[s,x],argTypes:=#[t,ti]})
  {n:Nat} (hs:a.eval s = .slice none 0 0) (hx:a.eval x = .int .i64 n) (hE:Ext w0 w) (hn:0<n) (hb:n*bytes<=140737488355328)
  (h:∀cap w',n<=cap->w'.ownsRow w0.heap.size e size (.slice (some ⟨w.heap.size,0,none⟩) 0 cap) 0 []->Ext w0 w'->wpList P ops Q rest (a.put o.dst (.slice (some ⟨w.heap.size,0,none⟩) n cap)) w'):wpList P ops Q (o :: rest) a w:=by
 refine wpList_plain hgd fun K hK=>?_
 obtain⟨cap,w',hrun,h2,h3,h4⟩:=b9l (P:=P) w0 w t ti o.type e size bytes hT hti hE n hn hb;unfold Oper.wp execOp;simp only[ho,resolve,invoke,builtin,Sem.run_bind,Sem.run_pure,Result.andThen_ok,List.map_toArray,List.map_cons,List.map_nil,hs,hx,hrun];exact hK _ _ (h cap w' h2 h3 h4)
end
section
def c6D:List D->List Nat | []=>[] | .mref r :: l=>r :: c6D l|_ :: l=>c6D l
def Env.fz(E:Env)(fs:FuncId->Bool):Env:={E with fn:=fun f q=>if fs f=true then none else E.fn f q,dyn:=fun st f q ds=>if fs f=true then(E.fn f q).map fun F=>(F,c6D ds)else E.dyn st f q ds}
theorem EnvOk.fz{P:Program}{G:World->Prop}{B0:Nat}{E:Env}(h:EnvOk P G B0 E)(fs:FuncId->Bool):EnvOk P G B0 (E.fz fs):=
 {ty:=h.ty,el:=h.el,fld:=h.fld,mp:=h.mp,bld:=h.bld,ptr:=h.ptr,cmp:=h.cmp,stable:=h.stable,mixed:=h.mixed,pf:=h.pf,fn:=fun f q F hF=>by
   have hF:(if fs f=true then none else E.fn f q)=some F:=hF;split at hF
   ·cases hF
   ·exact h.fn f q F hF
  dyn:=fun st f q ds F l hF=>by
   have hF:(if fs f=true then(E.fn f q).map (fun F=>(F,c6D ds))else E.dyn st f q ds)=some (F,l):=hF;split at hF
   ·cases hf:E.fn f q with
    |none=>rw[hf]at hF;cases hF
    |some F'=>
     rw[hf]at hF;cases hF;exact h.fn f q _ hf
   ·exact h.dyn st f q ds F l hF}
end
section
open Go
def a9d{α:Type}(f:α->α->Bool):List α->List α->Bool
 |[],[]=>true
 |a :: l,b :: m=>match f a b with|true=>a9d f l m|false=>false
 |_,_=>false
theorem a06{α:Type}{f:α->α->Bool}(hf:∀a b,f a b=true->a=b):∀{l m:List α},a9d f l m=true->l=m
 |[],[],_=>rfl
 |a :: l,b :: m,h=>by
  unfold a9d at h;split at h
  ·rename_i h1;rw[hf a b h1,a06 hf h]
  ·cases h
 |[],_ :: _,h=>by cases h
 |_ :: _,[],h=>by cases h
def a78(a b:Nat):Bool:=Nat.beq a b
theorem X4(a b:Nat)(h:a78 a b=true):a=b:=Nat.eq_of_beq_eq_true h
def e5E(a b:UInt8):Bool:=Nat.beq a.toNat b.toNat
theorem c6n(a b:UInt8)(h:e5E a b=true):a=b:=UInt8.toNat_inj.1 (Nat.eq_of_beq_eq_true h)
def a8B(a b:List UInt8):Bool:=a9d e5E a b
theorem a0d(a b:List UInt8)(h:a8B a b=true):a=b:=a06 c6n h
def b0f(a b:Int):Bool:=decide (a=b)
theorem a05(a b:Int)(h:b0f a b=true):a=b:=of_decide_eq_true h
def d3d(a b:Bool):Bool:=match a,b with
 |true,true=>true
 |false,false=>true
 |_,_=>false
theorem b16(a b:Bool)(h:d3d a b=true):a=b:=by cases a<;>cases b<;>first|rfl|cases h
def e5F{α:Type}(f:α->α->Bool):Option α->Option α->Bool|none,none=>true|some a,some b=>f a b|_,_=>false
theorem c6o{α:Type}{f:α->α->Bool}(hf:∀a b,f a b=true->a=b):∀{l m:Option α},e5F f l m=true->l=m
 |none,none,_=>rfl
 |some a,some b,h=>by rw[hf a b h]
 |none,some _,h=>by cases h
 |some _,none,h=>by cases h
theorem B3{a b:Bool}(h:(a&&b)=true):a=true/\b=true:=by simpa using h
mutual
def GExpr.same:GExpr->GExpr->Bool | .mk a b c d e,.mk a' b' c' d' e'=>b0f a a'&&(a8B b b'&&(b0f c c'&&(a9d a8B d d'&&GExpr.sames e e')))
def GExpr.sames:List GExpr->List GExpr->Bool | [],[]=>true|x :: l,y :: m=>GExpr.same x y&&GExpr.sames l m|_,_=>false
end
mutual
theorem GExpr.same_eq:∀x y,GExpr.same x y=true->x=y
 |.mk a b c d e,.mk a' b' c' d' e',h=>by
  unfold GExpr.same at h;obtain⟨h1,h⟩:=B3 h;obtain⟨h2,h⟩:=B3 h;obtain⟨h3,h⟩:=B3 h;obtain⟨h4,h⟩:=B3 h;rw[a05 _ _ h1,a0d _ _ h2,a05 _ _ h3,a06 a0d h4,GExpr.sames_eq _ _ h]
theorem GExpr.sames_eq:∀x y,GExpr.sames x y=true->x=y
 |[],[],_=>rfl
 |x :: l,y :: m,h=>by
  unfold GExpr.sames at h;obtain⟨h1,h⟩:=B3 h;rw[GExpr.same_eq _ _ h1,GExpr.sames_eq _ _ h]
 |[],_ :: _,h=>by unfold GExpr.sames at h;cases h
 |_ :: _,[],h=>by unfold GExpr.sames at h;cases h
end
mutual
def GPart.same:GPart->GPart->Bool | .mk a b c d e f,.mk a' b' c' d' e' f'=>b0f a a'&&(a8B b b'&&(b0f c c'&&(a9d a8B d d'&&(b0f e e'&&GPart.sames f f'))))
def GPart.sames:List GPart->List GPart->Bool | [],[]=>true|x :: l,y :: m=>GPart.same x y&&GPart.sames l m|_,_=>false
end
mutual
theorem GPart.same_eq:∀x y,GPart.same x y=true->x=y
 |.mk a b c d e f,.mk a' b' c' d' e' f',h=>by
  unfold GPart.same at h;obtain⟨h1,h⟩:=B3 h;obtain⟨h2,h⟩:=B3 h;obtain⟨h3,h⟩:=B3 h;obtain⟨h4,h⟩:=B3 h;obtain⟨h5,h⟩:=B3 h;rw[a05 _ _ h1,a0d _ _ h2,a05 _ _ h3,a06 a0d h4,a05 _ _ h5,GPart.sames_eq _ _ h]
theorem GPart.sames_eq:∀x y,GPart.sames x y=true->x=y
 |[],[],_=>rfl
 |x :: l,y :: m,h=>by
  unfold GPart.sames at h;obtain⟨h1,h⟩:=B3 h;rw[GPart.same_eq _ _ h1,GPart.sames_eq _ _ h]
 |[],_ :: _,h=>by unfold GPart.sames at h;cases h
 |_ :: _,[],h=>by unfold GPart.sames at h;cases h
end
mutual
def GValue.same:GValue->GValue->Bool | .mk a b c d e,.mk a' b' c' d' e'=>b0f a a'&&(a8B b b'&&(b0f c c'&&(a9d a8B d d'&&GValue.sames e e')))
def GValue.sames:List (List UInt8×GValue)->List (List UInt8×GValue)->Bool | [],[]=>true|x :: l,y :: m=>GValue.samep x y&&GValue.sames l m|_,_=>false
def GValue.samep:List UInt8×GValue->List UInt8×GValue->Bool|(a,b),(a',b')=>a8B a a'&&GValue.same b b'
end
mutual
theorem GValue.same_eq:∀x y,GValue.same x y=true->x=y
 |.mk a b c d e,.mk a' b' c' d' e',h=>by
  unfold GValue.same at h;obtain⟨h1,h⟩:=B3 h;obtain⟨h2,h⟩:=B3 h;obtain⟨h3,h⟩:=B3 h;obtain⟨h4,h⟩:=B3 h;rw[a05 _ _ h1,a0d _ _ h2,a05 _ _ h3,a06 a0d h4,GValue.sames_eq _ _ h]
theorem GValue.sames_eq:∀x y,GValue.sames x y=true->x=y
 |[],[],_=>rfl
 |x :: l,y :: m,h=>by
  unfold GValue.sames at h;obtain⟨h1,h⟩:=B3 h;rw[GValue.samep_eq _ _ h1,GValue.sames_eq _ _ h]
 |[],_ :: _,h=>by unfold GValue.sames at h;cases h
 |_ :: _,[],h=>by unfold GValue.sames at h;cases h
theorem GValue.samep_eq:∀x y,GValue.samep x y=true->x=y
 |(a,b),(a',b'),h=>by
  unfold GValue.samep at h;obtain⟨h1,h⟩:=B3 h;rw[a0d _ _ h1,GValue.same_eq _ _ h]
end
mutual
def GStmt.same:GStmt->GStmt->Bool | .mk a b c d e f g h i,.mk a' b' c' d' e' f' g' h' i'=>b0f a a'&&(a8B b b'&&(a8B c c'&&(a9d a8B d d'&&(a9d (fun p q=>a8B p.1 q.1&&GExpr.same p.2 q.2) e e'&&(GExpr.same f f'&&(GStmt.sames g g'&&(GStmt.sames h h'&&b0f i i')))))))
def GStmt.sames:List GStmt->List GStmt->Bool | [],[]=>true|x :: l,y :: m=>GStmt.same x y&&GStmt.sames l m|_,_=>false
end
mutual
theorem GStmt.same_eq:∀x y,GStmt.same x y=true->x=y
 |.mk a b c d e f g h i,.mk a' b' c' d' e' f' g' h' i',hh=>by
  unfold GStmt.same at hh;obtain⟨h1,hh⟩:=B3 hh;obtain⟨h2,hh⟩:=B3 hh;obtain⟨h3,hh⟩:=B3 hh;obtain⟨h4,hh⟩:=B3 hh;obtain⟨h5,hh⟩:=B3 hh;obtain⟨h6,hh⟩:=B3 hh;obtain⟨h7,hh⟩:=B3 hh;obtain⟨h8,h9⟩:=B3 hh;have he:e=e':=a06 (fun p q hpq=>by
   obtain⟨k1,k2⟩:=B3 hpq;exact Prod.ext (a0d _ _ k1) (GExpr.same_eq _ _ k2)) h5
  rw[a05 _ _ h1,a0d _ _ h2,a0d _ _ h3,a06 a0d h4,he,GExpr.same_eq _ _ h6,GStmt.sames_eq _ _ h7,GStmt.sames_eq _ _ h8,a05 _ _ h9]
theorem GStmt.sames_eq:∀x y,GStmt.sames x y=true->x=y
 |[],[],_=>rfl
 |x :: l,y :: m,h=>by
  unfold GStmt.sames at h;obtain⟨h1,h⟩:=B3 h;rw[GStmt.same_eq _ _ h1,GStmt.sames_eq _ _ h]
 |[],_ :: _,h=>by unfold GStmt.sames at h;cases h
 |_ :: _,[],h=>by unfold GStmt.sames at h;cases h
end
def RC.same:(i:RC)->i.den->i.den->Bool | .value=>GValue.same | .expr=>GExpr.same | .stmt=>GStmt.same | .part=>GPart.same
theorem RC.same_eq:∀(i:RC) (x y:i.den),i.same x y=true->x=y
 |.value=>GValue.same_eq
 |.expr=>GExpr.same_eq
 |.stmt=>GStmt.same_eq
 |.part=>GPart.same_eq
def Ty.same:(t:Ty)->t.den->t.den->Bool | .u8,x,y=>e5E x y | .int _,x,y=>b0f x y | .bool,x,y=>d3d x y | .str,x,y=>a8B x y | .sl t,x,y=>a9d t.same x y | .pr a b,x,y=>a.same x.1 y.1&&b.same x.2 y.2 | .un,_,_=>true | .mp e,x,y=>a9d (fun p q=>a8B p.1 q.1&&e.same p.2 q.2) x y | .ptr t,x,y=>t.same x y | .np t,x,y=>e5F t.same x y | .nl,_,_=>true | .clo _ t,x,y=>t.same x y | .rc i,x,y=>i.same x y
theorem Ty.same_eq:∀(t:Ty) (x y:t.den),t.same x y=true->x=y
 |.u8,x,y,h=>c6n x y h
 |.int _,x,y,h=>a05 x y h
 |.bool,x,y,h=>b16 x y h
 |.str,x,y,h=>a0d x y h
 |.sl t,x,y,h=>a06 t.same_eq h
 |.pr a b,x,y,h=>by
  obtain⟨h1,h2⟩:=B3 h;exact Prod.ext (a.same_eq _ _ h1) (b.same_eq _ _ h2)
 |.un,_,_,_=>rfl
 |.mp e,x,y,h=>a06 (fun p q hpq=>by
   obtain⟨k1,k2⟩:=B3 hpq;exact Prod.ext (a0d _ _ k1) (e.same_eq _ _ k2)) h
 |.ptr t,x,y,h=>t.same_eq x y h
 |.np t,x,y,h=>c6o t.same_eq h
 |.nl,_,_,_=>rfl
 |.clo _ t,x,y,h=>t.same_eq x y h
 |.rc i,x,y,h=>i.same_eq x y h
mutual
def D.same:D->D->Bool | .dead,.dead=>true | .skip,.skip=>true | .bl a,.bl b=>d3d a b | .v t x,.v t' y=>if h:t=t' then t'.same (h▸x) y else false | .nilS,.nilS=>true | .nilP,.nilP=>true | .row r,.row r'=>a78 r r' | .elp r s i o,.elp r' s' i' o'=>a78 r r'&&(a78 s s'&&(b0f i i'&&a78 o o')) | .tl r s i,.tl r' s' i'=>a78 r r'&&(a78 s s'&&b0f i i') | .box r o,.box r' o'=>a78 r r'&&a78 o o' | .at_ t x,.at_ t' y=>if h:t=t' then t'.same (h▸x) y else false | .tup b l,.tup b' l'=>d3d b b'&&D.sames l l' | .mref r,.mref r'=>a78 r r' | .fnc f l,.fnc f' l'=>a78 f f'&&a9d a78 l l'|_,_=>false
def D.sames:List D->List D->Bool | [],[]=>true|x :: l,y :: m=>D.same x y&&D.sames l m|_,_=>false
end
mutual
theorem D.same_eq:∀x y,D.same x y=true->x=y
 |.dead,y,h=>by cases y<;>first|rfl|(unfold D.same at h;cases h)
 |.skip,y,h=>by cases y<;>first|rfl|(unfold D.same at h;cases h)
 |.nilS,y,h=>by cases y<;>first|rfl|(unfold D.same at h;cases h)
 |.nilP,y,h=>by cases y<;>first|rfl|(unfold D.same at h;cases h)
 |.bl a,y,h=>by
  cases y<;>(unfold D.same at h)
  case bl b=>rw[b16 _ _ h]
  all_goals cases h
 |.v t x,y,h=>by
  cases y<;>(unfold D.same at h)
  case v t' y=>
   split at h
   ·rename_i e;subst e;have e2:x=y:=t.same_eq x y h;rw[e2]
   ·cases h
  all_goals cases h
 |.row a,y,h=>by
  cases y<;>(unfold D.same at h)
  case row b=>rw[X4 _ _ h]
  all_goals cases h
 |.elp a b c d,y,h=>by
  cases y<;>(unfold D.same at h)
  case elp a' b' c' d'=>
   obtain⟨h1,h⟩:=B3 h;obtain⟨h2,h⟩:=B3 h;obtain⟨h3,h4⟩:=B3 h;rw[X4 _ _ h1,X4 _ _ h2,a05 _ _ h3,X4 _ _ h4]
  all_goals cases h
 |.tl a b c,y,h=>by
  cases y<;>(unfold D.same at h)
  case tl a' b' c'=>
   obtain⟨h1,h⟩:=B3 h;obtain⟨h2,h3⟩:=B3 h;rw[X4 _ _ h1,X4 _ _ h2,a05 _ _ h3]
  all_goals cases h
 |.box a b,y,h=>by
  cases y<;>(unfold D.same at h)
  case box a' b'=>
   obtain⟨h1,h2⟩:=B3 h;rw[X4 _ _ h1,X4 _ _ h2]
  all_goals cases h
 |.at_ t x,y,h=>by
  cases y<;>(unfold D.same at h)
  case at_ t' y=>
   split at h
   ·rename_i e;subst e;have e2:x=y:=t.same_eq x y h;rw[e2]
   ·cases h
  all_goals cases h
 |.tup a l,y,h=>by
  cases y<;>(unfold D.same at h)
  case tup b m=>
   obtain⟨h1,h2⟩:=B3 h;rw[b16 _ _ h1,D.sames_eq _ _ h2]
  all_goals cases h
 |.mref a,y,h=>by
  cases y<;>(unfold D.same at h)
  case mref b=>rw[X4 _ _ h]
  all_goals cases h
 |.fnc f l,y,h=>by
  cases y<;>(unfold D.same at h)
  case fnc g m=>
   obtain⟨h1,h2⟩:=B3 h;rw[X4 _ _ h1,a06 X4 h2]
  all_goals cases h
theorem D.sames_eq:∀x y,D.sames x y=true->x=y
 |[],[],_=>rfl
 |x :: l,y :: m,h=>by
  unfold D.sames at h;obtain⟨h1,h⟩:=B3 h;rw[D.same_eq _ _ h1,D.sames_eq _ _ h]
 |[],_ :: _,h=>by unfold D.sames at h;cases h
 |_ :: _,[],h=>by unfold D.sames at h;cases h
end
def Blk.same:Blk->Blk->Bool | .cells l,.cells m=>D.sames l m | .map e x,.map e' y=>if h:e=e' then(Ty.mp e').same (h▸x) y else false | .row e t b x,.row e' t' b' y=>if h:t=t' then a78 e e'&&(d3d b b'&&(Ty.sl t').same (h▸x) y)else false | .iter e x c,.iter e' y c'=>if h:e=e' then(Ty.mp e').same (h▸x) y&&e5F (fun p q=>a8B p.1 q.1&&e'.same p.2 q.2) (h▸c) c' else false|_,_=>false
theorem Blk.same_eq(x y:Blk)(h:Blk.same x y=true):x=y:=by
 cases x with
 |cells l=>
  cases y<;>simp only[Blk.same]at h
  case cells m=>rw[D.sames_eq _ _ h]
  all_goals first|done|cases h
 |map e x=>
  cases y<;>simp only[Blk.same]at h
  case map e' y=>
   split at h
   ·rename_i c;subst c;have e2:x=y:=(Ty.mp e).same_eq x y h;rw[e2]
   ·cases h
  all_goals first|done|cases h
 |row e t b x=>
  cases y<;>simp only[Blk.same]at h
  case row e' t' b' y=>
   split at h
   ·rename_i c;subst c;obtain⟨h1,h⟩:=B3 h;obtain⟨h2,h3⟩:=B3 h;have e2:x=y:=(Ty.sl t).same_eq x y h3;rw[X4 _ _ h1,b16 _ _ h2,e2]
   ·cases h
  all_goals first|done|cases h
 |bld T l=>
  cases y<;>simp only[Blk.same]at h
  all_goals first|done|cases h
 |iter e x c=>
  cases y<;>simp only[Blk.same]at h
  case iter e' y c'=>
   split at h
   ·rename_i ee;subst ee;obtain⟨h1,h2⟩:=B3 h;have e2:x=y:=(Ty.mp e).same_eq x y h1;have e3:c=c':=c6o (fun p q hpq=>by
     obtain⟨k1,k2⟩:=B3 hpq;exact Prod.ext (a0d _ _ k1) (e.same_eq _ _ k2)) h2
    rw[e2,e3]
   ·cases h
  all_goals first|done|cases h
def St.same(x y:St):Bool:=a78 x.n y.n&&(a9d (fun p q=>a78 p.1 q.1&&D.same p.2 q.2) x.fr y.fr&&a9d (fun p q=>a78 p.1 q.1&&Blk.same p.2 q.2) x.hp y.hp)
theorem St.same_eq(x y:St)(h:St.same x y=true):x=y:=by
 obtain⟨h1,h⟩:=B3 h;obtain⟨h2,h3⟩:=B3 h;obtain⟨n,fr,hp⟩:=x;obtain⟨n',fr',hp'⟩:=y;have e1:n=n':=X4 _ _ h1;have e2:fr=fr':=a06 (fun p q hpq=>by
  obtain⟨k1,k2⟩:=B3 hpq;exact Prod.ext (X4 _ _ k1) (D.same_eq _ _ k2)) h2
 have e3:hp=hp':=a06 (fun p q hpq=>by
  obtain⟨k1,k2⟩:=B3 hpq;exact Prod.ext (X4 _ _ k1) (Blk.same_eq _ _ k2)) h3
 rw[e1,e2,e3]
def c6s(a b:Option St):Option St:=match a,b with
 |some x,some y=>match St.same x y with
  |true=>some x
  |false=>none
 |_,_=>none
theorem b2W{a b:Option St}{r:St}(h:c6s a b=some r):a=some r/\b=some r:=by
 unfold c6s at h;split at h
 ·rename_i x y;split at h
  ·rename_i e;cases h;rw[St.same_eq _ _ e];exact⟨rfl,rfl⟩
  ·cases h
 ·cases h
def alG{α:Type}(f:α->List α->Option St):List α->List α->Option St
 |_,[]=>none
 |pre,a :: l=>match l with
  |[]=>f a (pre ++ [])
  |_ :: _=>c6s (f a (pre++l)) (alG f (pre ++ [a]) l)
theorem c0t{α:Type}{f:α->List α->Option St}{r:St}:∀(pre l:List α),alG f pre l=some r->∀i (hi:i<l.length),f l[i] (pre++l.eraseIdx i)=some r
 |_,[],h,i,hi=>absurd hi (Nat.not_lt_zero _)
 |pre,a :: l,h,i,hi=>by
  unfold alG at h;split at h
  ·cases i with
   |zero=>exact h
   |succ i=>exact absurd hi (by simp)
  ·obtain⟨h1,h2⟩:=b2W h;cases i with
   |zero=>exact h1
   |succ i=>
    have:=c0t (pre ++ [a]) _ h2 i (Nat.lt_of_succ_lt_succ hi);simpa using this
@[reducible] def b0B:BothC St:=⟨c6s,b2W,fun l f=>alG f [] l,fun h=>c0t [] _ h,fun _ _ _=>none⟩
end
noncomputable section
section
variable{R:Type}[BothC R]
def e5Z:D->List Nat | .row r=>[r] | .elp r _ _ _=>[r] | .tl r _ _=>[r] | .box r _=>[r] | .mref r=>[r] | .fnc _ l=>l | .tup _ l=>namesL l|_=>[]
where
 namesL:List D->List Nat
  |[]=>[]
  |.row r :: l=>r :: namesL l
  |.elp r _ _ _ :: l=>r :: namesL l
  |.tl r _ _ :: l=>r :: namesL l
  |.box r _ :: l=>r :: namesL l
  |.mref r :: l=>r :: namesL l
  |.fnc _ m :: l=>m++namesL l
  |_ :: l=>namesL l
def b84:List D->List Nat | []=>[]|d :: l=>e5Z d++b84 l
def c6L(hp:List (Nat×Blk)):Nat->List Nat->List Nat->List Nat
 |0,_,acc=>acc
 |n+1,[],acc=>acc
 |n+1,r :: l,acc=>match w9 acc r with
  |true=>c6L hp n l acc
  |false=>match v6 hp r with
   |some (.cells cs)=>c6L hp n (b84 cs++l) (r :: acc)
   |_=>c6L hp n l (r :: acc)
def b3G:List ResultVar->List Nat | []=>[] | .tmp t :: l=>t :: b3G l | .cell x _ :: l=>x :: b3G l
def f0e(f:Func)(st:St):Option St:=b2M (R:=St) (b3G f.results.toList) id st.fr fun fr=>a33 (R:=St) (c6L st.hp 1000 (b84 (fr.map (·.2))++(st.hp.map (·.1)).filter fun r=>Nat.blt r 1000) []) fun rs=>a89 (R:=St) rs st.hp fun hp=>some ⟨st.n,fr,hp⟩
end
section
variable{P:Program}{df:List Deferred}{G:World->Prop}{B0:Nat}{E:Env}{M:Nat->Nat->Prop}{M0:Nat->Nat->Prop}{w0:World}{gi g:Gh}{st:St}{a:Act}{w:World}
theorem b1v{α:Type}(ks:List Nat)(l:List (Nat×α))(i:Nat)(y:α)(h:v6 (a2n ks l) i=some y):v6 l i=some y:=by
 induction l with
 |nil=>cases h
 |cons p l ih=>
  obtain⟨j,x⟩:=p;unfold a2n at h;rw[v7];have hno:∀l:List (Nat×α),w9 ks j=true->v6 (a2n ks l) j=none:=by
   intro l hj;induction l with
   |nil=>rfl
   |cons q l ih2=>
    obtain⟨k,z⟩:=q;unfold a2n;split
    ·exact ih2
    ·rename_i hk;rw[v7];have:Nat.beq k j=false:=by
      cases hkj:Nat.beq k j with
      |false=>rfl
      |true=>have:=Nat.eq_of_beq_eq_true hkj;subst this;rw[hj]at hk;cases hk
     rw[this];exact ih2
  cases hb:Nat.beq j i with
  |true=>
   have:j=i:=Nat.eq_of_beq_eq_true hb;subst this;split at h
   ·rename_i hj;rw[hno l hj]at h;cases h
   ·rw[v7,hb]at h;exact h
  |false=>
   split at h
   ·exact ih h
   ·rw[v7,hb]at h;exact ih h
theorem Sim.drop(hs:Sim df G B0 M0 w0 gi g st a w)(ts:List Nat):Sim df G B0 M0 w0 gi g ⟨st.n,a2n ts st.fr,st.hp⟩ a w:=
 {hs with
  fr:=fun t d h=>hs.fr t _ (b1v _ _ _ _ h)
  inb:=fun t d h=>hs.inb t _ (b1v _ _ _ _ h)}
theorem Sim.few(hs:Sim df G B0 M0 w0 gi g st a w)(ts:List Nat):Sim df G B0 M0 w0 gi g ⟨st.n,a1l ts id st.fr,st.hp⟩ a w:=
 {hs with
  fr:=fun t d h=>by obtain⟨x,h1,rfl⟩:=a1b _ _ _ _ _ h;exact hs.fr t _ h1
  inb:=fun t d h=>by obtain⟨x,h1,rfl⟩:=a1b _ _ _ _ _ h;exact hs.inb t _ h1}
theorem Sim.fewB(hs:Sim df G B0 M0 w0 gi g st a w)(l:List Nat):Sim df G B0 M0 w0 gi g ⟨st.n,st.fr,a1l l Blk.past st.hp⟩ a w:=
 {hs with
  hp:=fun r blk hb=>by
   obtain⟨x,h1,rfl⟩:=a1b l Blk.past st.hp r blk hb;obtain⟨y,h2,h3⟩:=hs.hp r _ h1;exact⟨y,h2,h3.past⟩}
theorem Sim.fin(hs:Sim df G B0 M0 w0 gi g st a w){f:Func}{st':St}(h:f0e f st=some st'):Sim df G B0 M0 w0 gi g st' a w:=by
 unfold f0e at h;simp only[a7i,a3x,a4R]at h;cases h;exact(hs.few _).fewB _
end
end
section
theorem Oper.wp_mono2{P:Program}{o:Oper}{a:Act}{w:World}{K K':Act->World->Prop}{Q Q':Exit->Act->World->Prop}(h:∀a w,K a w->K' a w)(hq:∀e a w,e ≠ .normal->Q e a w->Q' e a w)
  (hh:o.wp P a w K Q):o.wp P a w K' Q':=by
 have hl:LetsOut Q->LetsOut Q':=fun⟨a,w,h⟩=>⟨a,w,hq _ _ _ (by simp) h⟩
 unfold Oper.wp at *;generalize (execOp a.eval o).run P w=r at *;cases r with
 |ok n w'=>
  cases n<;>simp only[Oper.upon]at hh ⊢ <;> first
   |exact h _ _ hh
   |exact hh
   |exact hh.mono fun e w'' hh=>by
     cases e<;>first|exact h _ _ hh|exact hq _ _ _ (by simp) hh|exact hl hh
   |exact Rows.mono hh fun v w'' hh=>h _ _ hh
 |halt s w'=>
  cases s<;>simp only[Oper.upon]at hh ⊢ <;> first|exact hq _ _ _ (by simp) hh|exact hh
def e3B(P:Program)(ops:Array Oper)(Q:Exit->Act->World->Prop)(rest:List Oper):Exit->Act->World->Prop:=fun e a w=>match e with
 |.normal=>wpList P ops Q rest a w
 |e=>Q e a w
theorem a5B{P:Program}{ops:Array Oper}{Q:Exit->Act->World->Prop}(rest:List Oper):∀(l:List Oper) (a:Act) (w:World),wpList P ops (e3B P ops Q rest) l a w->wpList P ops Q (l++rest) a w
 |[],a,w,h=>h
 |o :: l,a,w,h=>by
  have hq:∀e a w,e≠Exit.normal->e3B P ops Q rest e a w->Q e a w:=fun e a w he h=>by cases e<;>first|exact absurd rfl he|exact h
  show wpList P ops Q (o :: (l++rest)) a w;unfold wpList at h ⊢;split
  ·rename_i hw;rw[if_pos hw]at h;rcases h with h|⟨h1,a',w',h2⟩
   ·exact .inl (Oper.wp_mono2 (fun a w h=>a5B rest l a w h) hq h)
   ·exact .inr ⟨h1,a',w',hq _ _ _ (by simp) h2⟩
  ·rename_i hw;rw[if_neg hw]at h;exact a5B rest l _ _ h
section
variable{P:Program}{df:List Deferred}{G:World->Prop}{B0:Nat}{E:Env}{M:Nat->Nat->Prop}{M0:Nat->Nat->Prop}{w0:World}{gi g:Gh}{st:St}{a:Act}{w:World}
end
end
end Go.Proofs.YtckdohagilcloaaGreatDoor
