/- % -/
import Derived.Test.YtolpmfhiegpohaaGreatDoorQBase2
import Derived.Test.YtolpmfhiegpohaaGreatDoorQBm1
import Derived.Defers
namespace Go.Proofs.YtolpmfhiegpohaaGreatDoor
set_option linter.unusedVariables false
set_option linter.unusedSimpArgs false
open Go Go.RowKit
section
def d1R(ks:List Nat)(ops:Array Oper):Bool:=ops.toList.all fun o=>match o.dst with
 |some t=>!s6 ks t
 |none=>true
def a1a(E:Env)(ks:List Nat):Code->Bool
 |.region id ops draw=>d1R ks ops&&(E.jn id).isNone&&match draw with
  |false=>true
  |true=>(ops.toList.all (H4 E)&&Region.lexB .any ops)||match(E.hint (100000+id)).hf with
   |[_,_]=>true
   |_=>false
 |.seq x y=>a1a E ks x&&a1a E ks y
 |.cond _ x y=>a1a E ks x&&a1a E ks y
 |.block _ c=>a1a E ks c
 |.loop c=>a1a E ks c
 |_=>true
section
variable{P:Program}{df:List Deferred}{G:World->Prop}{B0:Nat}{E:Env}{M:Nat->Nat->Prop}{M0:Nat->Nat->Prop}{w0:World}{gi g:Gh}{st:St}{a:Act}{w:World}
theorem a4V{R:Type}[BothC R](hE:EnvOk P G B0 E){ops:Array Oper}{k:St->Option R}{r:R}{Q:Exit->Act->World->Prop}(hK:P7 df G B0 M0 w0 gi k r (Q .normal))(hP:a4y df G B0 E.bad M0 w0 gi r Q):∀(l:List Oper) (g:Gh) (st:St) (a:Act) (w:World),
  Sim df G B0 M0 w0 gi g st a w->a6w E ops.toList l st k=some r->wpList P ops Q l a w
 |[],g,st,a,w,hs,h=>hK _ _ _ _ hs h
 |o :: l,g,st,a,w,hs,h=>by
  unfold wpList;have h:a3E ops.toList o st (fun st=>opD E o st (fun st=>a6w E ops.toList l st k)) (fun st=>a6w E ops.toList l st k)=some r:=h;rcases a1P hs h with⟨hw,st',hs',h⟩|⟨hw,st',hs',h⟩
  ·rw[if_pos hw];exact .inl (a9v hE hs' (fun g st a w hs h=>a4V hE hK hP l g st a w hs h) hP h)
  ·rw[if_neg (by rw[hw];simp)];exact a4V hE hK hP l g _ _ w (hs'.put _ (d:= .skip) (v:=undef) rfl) h
theorem M8{R:Type}[BothC R](hE:EnvOk P G B0 E)(N:Nat)(ks:List Nat):∀(c:Code) (i:Nat) {k:Ex->St->Option R} {r:R} {Q:Exit->Act->World->Prop},a1a E ks c=true->Leaves df G B0 M0 w0 gi k r Q->a4y df G B0 E.bad M0 w0 gi r Q->
  (∀t,s6 ks t=false->∀c a v w,Q (.panic c) (a.put (some t) v) w->Q (.panic c) a w)->∀(g:Gh) (st:St) (a:Act) (w:World),
  Sim df G B0 M0 w0 gi g st a w->o7 E N c i st k=some r->c.wp P Q a w
 |.skip,i,k,r,Q,hc,hK,hP,hB,g,st,a,w,hs,h=>wp_skip (hK .normal _ _ _ _ hs h)
 |.region id ops draw,i,k,r,Q,hc,hK,hP,hB,g,st,a,w,hs,h=>by
  rw[a98]at h;unfold a1a at hc;simp only[Bool.and_eq_true]at hc;obtain⟨⟨hc1,hc2⟩,hc3⟩:=hc;split at h
  ·rename_i t ht;rw[ht]at hc2;cases hc2
  ·unfold c6G at h;split at h
   ·exact wp_region_list (a4V hE (fun _ _ _ _ hs h=>hK .normal _ _ _ _ hs h) hP _ _ _ _ _ hs h)
   ·dsimp only at hc3;split at h
    ·rename_i hq;simp only[Bool.and_eq_true]at hq;exact wp_region_quiet (C:=fun w'=>Ext w w') hE.mixed hq.2 (Ext.refl w).drew (a09 hE (fun _ _ _ _ hs h=>hK .normal _ _ _ _ hs h) _ _ _ _ hq.1 hs h)
    ·rename_i hq;rw[hq,Bool.false_or]at hc3;split at h
     ·rename_i hsel;unfold c2d at h;split at hc3
      ·rename_i p q hpq;rw[hpq]at h;have hs1:=hs.later (Ext.refl w).drew;refine wp_region_any hE.mixed (a0w hE hsel (Q:=Q) (fun _ _ _ _ hs h=>hK .normal _ _ _ _ hs h) hP (fun j o ho c a v w hQ=>?_) _ _ _ _ _ _ hs1 h);cases hd:o.dst with
       |none=>rw[hd]at hQ;exact hQ
       |some t=>
        rw[hd]at hQ;have:=List.all_eq_true.1 hc1 o (by rw[<-Array.getElem?_toList]at ho;exact List.mem_of_getElem? ho);rw[hd]at this;exact hB t (by simpa using this) c a v w hQ
      ·cases hc3
     ·cases h
 |.seq x y,i,k,r,Q,hc,hK,hP,hB,g,st,a,w,hs,h=>by
  unfold a1a at hc;simp only[Bool.and_eq_true]at hc;refine wp_seq (M8 hE N ks x i hc.1 ?_ ?_ ?_ _ _ _ _ hs h)
  ·intro e g st a w hs h;cases e with
   |normal=>exact M8 hE N ks y i hc.2 hK hP hB _ _ _ _ hs h
   |exit id=>exact hK (.exit id) _ _ _ _ hs h
   |ret=>exact hK .ret _ _ _ _ hs h
  ·exact fun c ρ g st a w w' h1 h2 h3 h4=>hP c ρ g st a w w' h1 h2 h3 h4
  ·exact fun t ht c a v w h=>hB t ht c a v w h
 |.cond c x y,i,k,r,Q,hcc,hK,hP,hB,g,st,a,w,hs,h=>by
  unfold a1a at hcc;simp only[Bool.and_eq_true]at hcc;rw[b4N]at h;have hc:=hs.ev c;split at h
  ·rename_i b hd;rw[hd]at hc;refine wp_cond (t:=b) (RepD.bool hc) ?_;split at h
   case h_2=>
    rcases I6 h with⟨e,h2⟩|⟨e,h2⟩
    ·subst e;obtain⟨st',hs',h2⟩:=hs.know hd h2;exact M8 hE N ks x i hcc.1 hK hP hB _ _ _ _ hs' h2
    ·subst e;obtain⟨st',hs',h2⟩:=hs.know hd h2;exact M8 hE N ks y i hcc.2 hK hP hB _ _ _ _ hs' h2
   rcases I6 h with⟨e,h2⟩|⟨e,h2⟩
   ·subst e;exact M8 hE N ks x i hcc.1 hK hP hB _ _ _ _ hs h2
   ·subst e;exact M8 hE N ks y i hcc.2 hK hP hB _ _ _ _ hs h2
  ·rename_i hd;rw[hd]at hc;exact wp_cond (t:=true) hc (M8 hE N ks x i hcc.1 hK hP hB _ _ _ _ hs h)
  ·rename_i hd;rw[hd]at hc;exact wp_cond (t:=false) hc (M8 hE N ks y i hcc.2 hK hP hB _ _ _ _ hs h)
  ·cases h
 |.block id c,i,k,r,Q,hc,hK,hP,hB,g,st,a,w,hs,h=>by
  unfold a1a at hc;refine wp_block (M8 hE N ks c id hc ?_ ?_ ?_ _ _ _ _ hs h)
  ·intro e g st a w hs h;cases e with
   |normal=>exact hK .normal _ _ _ _ hs h
   |exit j=>
    simp only at h;show(if j=id then Q .normal a w else Q (.exit j) a w);split at h
    ·rename_i e;rw[if_pos e];exact hK .normal _ _ _ _ hs h
    ·rename_i e;rw[if_neg e];exact hK (.exit j) _ _ _ _ hs h
   |ret=>exact hK .ret _ _ _ _ hs h
  ·exact fun c ρ g st a w w' h1 h2 h3 h4=>hP c ρ g st a w w' h1 h2 h3 h4
  ·exact fun t ht c a v w h=>hB t ht c a v w h
 |.loop c,i,k,r,Q,hc,hK,hP,hB,g,st,a,w,hs,h=>by
  unfold a1a at hc;rw[b4O]at h;simp only[a3e]at h;have key:∀(n:Nat) (g:Gh) (st:St) (a:Act) (w:World),Sim df G B0 M0 w0 gi g st a w->iter (E.hint i) (o7 E N c i) n st k=some r->Code.rounds P c Q n a w:=by
   intro n;induction n with
   |zero=>intro g st a w hs h;cases h
   |succ n ih=>
    intro g st a w hs h;refine M8 hE N ks c i hc ?_ ?_ ?_ _ _ _ _ hs h
    ·intro e g st a w hs h;cases e with
     |normal=>simp only[a3e]at h;exact(let ⟨g',hs'⟩:=hs.head (E.hint i);ih g' _ _ _ hs' h)
     |exit id=>simp only[b8s]at h;exact hK (.exit id) _ _ _ _ (hs.tail _) h
     |ret=>exact hK .ret _ _ _ _ hs h
    ·exact fun c ρ g st a w w' h1 h2 h3 h4=>hP c ρ g st a w w' h1 h2 h3 h4
    ·exact fun t ht c a v w h=>hB t ht c a v w h
  obtain⟨g',hs'⟩:=hs.head (E.hint i);exact wp_loop_rounds N (key N _ _ _ _ hs' h)
 |.exit id,i,k,r,Q,hc,hK,hP,hB,g,st,a,w,hs,h=>wp_exit (hK (.exit id) _ _ _ _ hs h)
 |.ret,i,k,r,Q,hc,hK,hP,hB,g,st,a,w,hs,h=>Go.wp_ret (hK .ret _ _ _ _ hs h)
 |.rangeFunc _ _ _ _,i,k,r,Q,hc,hK,hP,hB,g,st,a,w,hs,h=>by cases h
 |.scope _,i,k,r,Q,hc,hK,hP,hB,g,st,a,w,hs,h=>by cases h
 |.label _,i,k,r,Q,hc,hK,hP,hB,g,st,a,w,hs,h=>by cases h
 |.goto _,i,k,r,Q,hc,hK,hP,hB,g,st,a,w,hs,h=>by cases h
 |.refuse _,i,k,r,Q,hc,hK,hP,hB,g,st,a,w,hs,h=>by cases h
end
end
section
open Go
def a7x{α:Type}(f:α->α->Bool):List α->List α->Bool
 |[],[]=>true
 |a :: l,b :: m=>match f a b with|true=>a7x f l m|false=>false
 |_,_=>false
theorem a0j{α:Type}{f:α->α->Bool}(hf:∀a b,f a b=true->a=b):∀{l m:List α},a7x f l m=true->l=m
 |[],[],_=>rfl
 |a :: l,b :: m,h=>by
  unfold a7x at h;split at h
  ·rename_i h1;rw[hf a b h1,a0j hf h]
  ·cases h
 |[],_ :: _,h=>by cases h
 |_ :: _,[],h=>by cases h
def a6t(a b:Nat):Bool:=Nat.beq a b
theorem U0(a b:Nat)(h:a6t a b=true):a=b:=Nat.eq_of_beq_eq_true h
def d4V(a b:UInt8):Bool:=Nat.beq a.toNat b.toNat
theorem c14(a b:UInt8)(h:d4V a b=true):a=b:=UInt8.toNat_inj.1 (Nat.eq_of_beq_eq_true h)
def a6U(a b:List UInt8):Bool:=a7x d4V a b
theorem X2(a b:List UInt8)(h:a6U a b=true):a=b:=a0j c14 h
def a9e(a b:Int):Bool:=decide (a=b)
theorem a0i(a b:Int)(h:a9e a b=true):a=b:=of_decide_eq_true h
def c5J(a b:Bool):Bool:=match a,b with
 |true,true=>true
 |false,false=>true
 |_,_=>false
theorem b0w(a b:Bool)(h:c5J a b=true):a=b:=by cases a<;>cases b<;>first|rfl|cases h
def d4W{α:Type}(f:α->α->Bool):Option α->Option α->Bool|none,none=>true|some a,some b=>f a b|_,_=>false
theorem c16{α:Type}{f:α->α->Bool}(hf:∀a b,f a b=true->a=b):∀{l m:Option α},d4W f l m=true->l=m
 |none,none,_=>rfl
 |some a,some b,h=>by rw[hf a b h]
 |none,some _,h=>by cases h
 |some _,none,h=>by cases h
theorem B6{a b:Bool}(h:(a&&b)=true):a=true/\b=true:=by simpa using h
mutual
def GExpr.same:GExpr->GExpr->Bool | .mk a b c d e,.mk a' b' c' d' e'=>a9e a a'&&(a6U b b'&&(a9e c c'&&(a7x a6U d d'&&GExpr.sames e e')))
def GExpr.sames:List GExpr->List GExpr->Bool | [],[]=>true|x :: l,y :: m=>GExpr.same x y&&GExpr.sames l m|_,_=>false
end
mutual
theorem GExpr.same_eq:∀x y,GExpr.same x y=true->x=y
 |.mk a b c d e,.mk a' b' c' d' e',h=>by
  unfold GExpr.same at h;obtain⟨h1,h⟩:=B6 h;obtain⟨h2,h⟩:=B6 h;obtain⟨h3,h⟩:=B6 h;obtain⟨h4,h⟩:=B6 h;rw[a0i _ _ h1,X2 _ _ h2,a0i _ _ h3,a0j X2 h4,GExpr.sames_eq _ _ h]
theorem GExpr.sames_eq:∀x y,GExpr.sames x y=true->x=y
 |[],[],_=>rfl
 |x :: l,y :: m,h=>by
  unfold GExpr.sames at h;obtain⟨h1,h⟩:=B6 h;rw[GExpr.same_eq _ _ h1,GExpr.sames_eq _ _ h]
 |[],_ :: _,h=>by unfold GExpr.sames at h;cases h
 |_ :: _,[],h=>by unfold GExpr.sames at h;cases h
end
mutual
def GPart.same:GPart->GPart->Bool | .mk a b c d e f,.mk a' b' c' d' e' f'=>a9e a a'&&(a6U b b'&&(a9e c c'&&(a7x a6U d d'&&(a9e e e'&&GPart.sames f f'))))
def GPart.sames:List GPart->List GPart->Bool | [],[]=>true|x :: l,y :: m=>GPart.same x y&&GPart.sames l m|_,_=>false
end
mutual
theorem GPart.same_eq:∀x y,GPart.same x y=true->x=y
 |.mk a b c d e f,.mk a' b' c' d' e' f',h=>by
  unfold GPart.same at h;obtain⟨h1,h⟩:=B6 h;obtain⟨h2,h⟩:=B6 h;obtain⟨h3,h⟩:=B6 h;obtain⟨h4,h⟩:=B6 h;obtain⟨h5,h⟩:=B6 h;rw[a0i _ _ h1,X2 _ _ h2,a0i _ _ h3,a0j X2 h4,a0i _ _ h5,GPart.sames_eq _ _ h]
theorem GPart.sames_eq:∀x y,GPart.sames x y=true->x=y
 |[],[],_=>rfl
 |x :: l,y :: m,h=>by
  unfold GPart.sames at h;obtain⟨h1,h⟩:=B6 h;rw[GPart.same_eq _ _ h1,GPart.sames_eq _ _ h]
 |[],_ :: _,h=>by unfold GPart.sames at h;cases h
 |_ :: _,[],h=>by unfold GPart.sames at h;cases h
end
mutual
def GValue.same:GValue->GValue->Bool | .mk a b c d e,.mk a' b' c' d' e'=>a9e a a'&&(a6U b b'&&(a9e c c'&&(a7x a6U d d'&&GValue.sames e e')))
def GValue.sames:List (List UInt8×GValue)->List (List UInt8×GValue)->Bool | [],[]=>true|x :: l,y :: m=>GValue.samep x y&&GValue.sames l m|_,_=>false
def GValue.samep:List UInt8×GValue->List UInt8×GValue->Bool|(a,b),(a',b')=>a6U a a'&&GValue.same b b'
end
mutual
theorem GValue.same_eq:∀x y,GValue.same x y=true->x=y
 |.mk a b c d e,.mk a' b' c' d' e',h=>by
  unfold GValue.same at h;obtain⟨h1,h⟩:=B6 h;obtain⟨h2,h⟩:=B6 h;obtain⟨h3,h⟩:=B6 h;obtain⟨h4,h⟩:=B6 h;rw[a0i _ _ h1,X2 _ _ h2,a0i _ _ h3,a0j X2 h4,GValue.sames_eq _ _ h]
theorem GValue.sames_eq:∀x y,GValue.sames x y=true->x=y
 |[],[],_=>rfl
 |x :: l,y :: m,h=>by
  unfold GValue.sames at h;obtain⟨h1,h⟩:=B6 h;rw[GValue.samep_eq _ _ h1,GValue.sames_eq _ _ h]
 |[],_ :: _,h=>by unfold GValue.sames at h;cases h
 |_ :: _,[],h=>by unfold GValue.sames at h;cases h
theorem GValue.samep_eq:∀x y,GValue.samep x y=true->x=y
 |(a,b),(a',b'),h=>by
  unfold GValue.samep at h;obtain⟨h1,h⟩:=B6 h;rw[X2 _ _ h1,GValue.same_eq _ _ h]
end
mutual
def GStmt.same:GStmt->GStmt->Bool | .mk a b c d e f g h i,.mk a' b' c' d' e' f' g' h' i'=>a9e a a'&&(a6U b b'&&(a6U c c'&&(a7x a6U d d'&&(a7x (fun p q=>a6U p.1 q.1&&GExpr.same p.2 q.2) e e'&&(GExpr.same f f'&&(GStmt.sames g g'&&(GStmt.sames h h'&&a9e i i')))))))
def GStmt.sames:List GStmt->List GStmt->Bool | [],[]=>true|x :: l,y :: m=>GStmt.same x y&&GStmt.sames l m|_,_=>false
end
mutual
theorem GStmt.same_eq:∀x y,GStmt.same x y=true->x=y
 |.mk a b c d e f g h i,.mk a' b' c' d' e' f' g' h' i',hh=>by
  unfold GStmt.same at hh;obtain⟨h1,hh⟩:=B6 hh;obtain⟨h2,hh⟩:=B6 hh;obtain⟨h3,hh⟩:=B6 hh;obtain⟨h4,hh⟩:=B6 hh;obtain⟨h5,hh⟩:=B6 hh;obtain⟨h6,hh⟩:=B6 hh;obtain⟨h7,hh⟩:=B6 hh;obtain⟨h8,h9⟩:=B6 hh;have he:e=e':=a0j (fun p q hpq=>by
   obtain⟨k1,k2⟩:=B6 hpq;exact Prod.ext (X2 _ _ k1) (GExpr.same_eq _ _ k2)) h5
  rw[a0i _ _ h1,X2 _ _ h2,X2 _ _ h3,a0j X2 h4,he,GExpr.same_eq _ _ h6,GStmt.sames_eq _ _ h7,GStmt.sames_eq _ _ h8,a0i _ _ h9]
theorem GStmt.sames_eq:∀x y,GStmt.sames x y=true->x=y
 |[],[],_=>rfl
 |x :: l,y :: m,h=>by
  unfold GStmt.sames at h;obtain⟨h1,h⟩:=B6 h;rw[GStmt.same_eq _ _ h1,GStmt.sames_eq _ _ h]
 |[],_ :: _,h=>by unfold GStmt.sames at h;cases h
 |_ :: _,[],h=>by unfold GStmt.sames at h;cases h
end
def RC.same:(i:RC)->i.den->i.den->Bool | .value=>GValue.same | .expr=>GExpr.same | .stmt=>GStmt.same | .part=>GPart.same
theorem RC.same_eq:∀(i:RC) (x y:i.den),i.same x y=true->x=y
 |.value=>GValue.same_eq
 |.expr=>GExpr.same_eq
 |.stmt=>GStmt.same_eq
 |.part=>GPart.same_eq
def Ty.same:(t:Ty)->t.den->t.den->Bool | .u8,x,y=>d4V x y | .int _,x,y=>a9e x y | .bool,x,y=>c5J x y | .str,x,y=>a6U x y | .sl t,x,y=>a7x t.same x y | .pr a b,x,y=>a.same x.1 y.1&&b.same x.2 y.2 | .un,_,_=>true | .mp e,x,y=>a7x (fun p q=>a6U p.1 q.1&&e.same p.2 q.2) x y | .ptr t,x,y=>t.same x y | .np t,x,y=>d4W t.same x y | .nl,_,_=>true | .clo _ t,x,y=>t.same x y | .rc i,x,y=>i.same x y
theorem Ty.same_eq:∀(t:Ty) (x y:t.den),t.same x y=true->x=y
 |.u8,x,y,h=>c14 x y h
 |.int _,x,y,h=>a0i x y h
 |.bool,x,y,h=>b0w x y h
 |.str,x,y,h=>X2 x y h
 |.sl t,x,y,h=>a0j t.same_eq h
 |.pr a b,x,y,h=>by
  obtain⟨h1,h2⟩:=B6 h;exact Prod.ext (a.same_eq _ _ h1) (b.same_eq _ _ h2)
 |.un,_,_,_=>rfl
 |.mp e,x,y,h=>a0j (fun p q hpq=>by
   obtain⟨k1,k2⟩:=B6 hpq;exact Prod.ext (X2 _ _ k1) (e.same_eq _ _ k2)) h
 |.ptr t,x,y,h=>t.same_eq x y h
 |.np t,x,y,h=>c16 t.same_eq h
 |.nl,_,_,_=>rfl
 |.clo _ t,x,y,h=>t.same_eq x y h
 |.rc i,x,y,h=>i.same_eq x y h
mutual
def D.same:D->D->Bool | .dead,.dead=>true | .skip,.skip=>true | .bl a,.bl b=>c5J a b | .v t x,.v t' y=>if h:t=t' then t'.same (h▸x) y else false | .nilS,.nilS=>true | .nilP,.nilP=>true | .row r,.row r'=>a6t r r' | .elp r s i o,.elp r' s' i' o'=>a6t r r'&&(a6t s s'&&(a9e i i'&&a6t o o')) | .tl r s i,.tl r' s' i'=>a6t r r'&&(a6t s s'&&a9e i i') | .box r o,.box r' o'=>a6t r r'&&a6t o o' | .at_ t x,.at_ t' y=>if h:t=t' then t'.same (h▸x) y else false | .tup b l,.tup b' l'=>c5J b b'&&D.sames l l' | .mref r,.mref r'=>a6t r r' | .fnc f l,.fnc f' l'=>a6t f f'&&a7x a6t l l'|_,_=>false
def D.sames:List D->List D->Bool | [],[]=>true|x :: l,y :: m=>D.same x y&&D.sames l m|_,_=>false
end
mutual
theorem D.same_eq:∀x y,D.same x y=true->x=y
 |.dead,y,h=>by cases y<;>first|rfl|(unfold D.same at h;cases h)
 |.skip,y,h=>by cases y<;>first|rfl|(unfold D.same at h;cases h)
 |.nilS,y,h=>by cases y<;>first|rfl|(unfold D.same at h;cases h)
 |.nilP,y,h=>by cases y<;>first|rfl|(unfold D.same at h;cases h)
 |.bl a,y,h=>by
  cases y<;>(unfold D.same at h)
  case bl b=>rw[b0w _ _ h]
  all_goals cases h
 |.v t x,y,h=>by
  cases y<;>(unfold D.same at h)
  case v t' y=>
   split at h
   ·rename_i e;subst e;have e2:x=y:=t.same_eq x y h;rw[e2]
   ·cases h
  all_goals cases h
 |.row a,y,h=>by
  cases y<;>(unfold D.same at h)
  case row b=>rw[U0 _ _ h]
  all_goals cases h
 |.elp a b c d,y,h=>by
  cases y<;>(unfold D.same at h)
  case elp a' b' c' d'=>
   obtain⟨h1,h⟩:=B6 h;obtain⟨h2,h⟩:=B6 h;obtain⟨h3,h4⟩:=B6 h;rw[U0 _ _ h1,U0 _ _ h2,a0i _ _ h3,U0 _ _ h4]
  all_goals cases h
 |.tl a b c,y,h=>by
  cases y<;>(unfold D.same at h)
  case tl a' b' c'=>
   obtain⟨h1,h⟩:=B6 h;obtain⟨h2,h3⟩:=B6 h;rw[U0 _ _ h1,U0 _ _ h2,a0i _ _ h3]
  all_goals cases h
 |.box a b,y,h=>by
  cases y<;>(unfold D.same at h)
  case box a' b'=>
   obtain⟨h1,h2⟩:=B6 h;rw[U0 _ _ h1,U0 _ _ h2]
  all_goals cases h
 |.at_ t x,y,h=>by
  cases y<;>(unfold D.same at h)
  case at_ t' y=>
   split at h
   ·rename_i e;subst e;have e2:x=y:=t.same_eq x y h;rw[e2]
   ·cases h
  all_goals cases h
 |.tup a l,y,h=>by
  cases y<;>(unfold D.same at h)
  case tup b m=>
   obtain⟨h1,h2⟩:=B6 h;rw[b0w _ _ h1,D.sames_eq _ _ h2]
  all_goals cases h
 |.mref a,y,h=>by
  cases y<;>(unfold D.same at h)
  case mref b=>rw[U0 _ _ h]
  all_goals cases h
 |.fnc f l,y,h=>by
  cases y<;>(unfold D.same at h)
  case fnc g m=>
   obtain⟨h1,h2⟩:=B6 h;rw[U0 _ _ h1,a0j U0 h2]
  all_goals cases h
theorem D.sames_eq:∀x y,D.sames x y=true->x=y
 |[],[],_=>rfl
 |x :: l,y :: m,h=>by
  unfold D.sames at h;obtain⟨h1,h⟩:=B6 h;rw[D.same_eq _ _ h1,D.sames_eq _ _ h]
 |[],_ :: _,h=>by unfold D.sames at h;cases h
 |_ :: _,[],h=>by unfold D.sames at h;cases h
end
def Blk.same:Blk->Blk->Bool | .cells l,.cells m=>D.sames l m | .map e x,.map e' y=>if h:e=e' then(Ty.mp e').same (h▸x) y else false | .row e t b x,.row e' t' b' y=>if h:t=t' then a6t e e'&&(c5J b b'&&(Ty.sl t').same (h▸x) y)else false | .iter e x c,.iter e' y c'=>if h:e=e' then(Ty.mp e').same (h▸x) y&&d4W (fun p q=>a6U p.1 q.1&&e'.same p.2 q.2) (h▸c) c' else false|_,_=>false
theorem Blk.same_eq(x y:Blk)(h:Blk.same x y=true):x=y:=by
 cases x with
 |cells l=>
  cases y<;>simp only[Blk.same]at h
  case cells m=>rw[D.sames_eq _ _ h]
  all_goals first|done|cases h
 |map e x=>
  cases y<;>simp only[Blk.same]at h
  case map e' y=>
   split at h
   ·rename_i c;subst c;have e2:x=y:=(Ty.mp e).same_eq x y h;rw[e2]
   ·cases h
  all_goals first|done|cases h
 |row e t b x=>
  cases y<;>simp only[Blk.same]at h
  case row e' t' b' y=>
   split at h
   ·rename_i c;subst c;obtain⟨h1,h⟩:=B6 h;obtain⟨h2,h3⟩:=B6 h;have e2:x=y:=(Ty.sl t).same_eq x y h3;rw[U0 _ _ h1,b0w _ _ h2,e2]
   ·cases h
  all_goals first|done|cases h
 |bld T l=>
  cases y<;>simp only[Blk.same]at h
  all_goals first|done|cases h
 |iter e x c=>
  cases y<;>simp only[Blk.same]at h
  case iter e' y c'=>
   split at h
   ·rename_i ee;subst ee;obtain⟨h1,h2⟩:=B6 h;have e2:x=y:=(Ty.mp e).same_eq x y h1;have e3:c=c':=c16 (fun p q hpq=>by
     obtain⟨k1,k2⟩:=B6 hpq;exact Prod.ext (X2 _ _ k1) (e.same_eq _ _ k2)) h2
    rw[e2,e3]
   ·cases h
  all_goals first|done|cases h
def St.same(x y:St):Bool:=a6t x.n y.n&&(a7x (fun p q=>a6t p.1 q.1&&D.same p.2 q.2) x.fr y.fr&&a7x (fun p q=>a6t p.1 q.1&&Blk.same p.2 q.2) x.hp y.hp)
theorem St.same_eq(x y:St)(h:St.same x y=true):x=y:=by
 obtain⟨h1,h⟩:=B6 h;obtain⟨h2,h3⟩:=B6 h;obtain⟨n,fr,hp⟩:=x;obtain⟨n',fr',hp'⟩:=y;have e1:n=n':=U0 _ _ h1;have e2:fr=fr':=a0j (fun p q hpq=>by
  obtain⟨k1,k2⟩:=B6 hpq;exact Prod.ext (U0 _ _ k1) (D.same_eq _ _ k2)) h2
 have e3:hp=hp':=a0j (fun p q hpq=>by
  obtain⟨k1,k2⟩:=B6 hpq;exact Prod.ext (U0 _ _ k1) (Blk.same_eq _ _ k2)) h3
 rw[e1,e2,e3]
def c2a(a b:Option St):Option St:=match a,b with
 |some x,some y=>match St.same x y with
  |true=>some x
  |false=>none
 |_,_=>none
theorem b1c{a b:Option St}{r:St}(h:c2a a b=some r):a=some r/\b=some r:=by
 unfold c2a at h;split at h
 ·rename_i x y;split at h
  ·rename_i e;cases h;rw[St.same_eq _ _ e];exact⟨rfl,rfl⟩
  ·cases h
 ·cases h
def alG{α:Type}(f:α->List α->Option St):List α->List α->Option St
 |_,[]=>none
 |pre,a :: l=>match l with
  |[]=>f a (pre ++ [])
  |_ :: _=>c2a (f a (pre++l)) (alG f (pre ++ [a]) l)
theorem b60{α:Type}{f:α->List α->Option St}{r:St}:∀(pre l:List α),alG f pre l=some r->∀i (hi:i<l.length),f l[i] (pre++l.eraseIdx i)=some r
 |_,[],h,i,hi=>absurd hi (Nat.not_lt_zero _)
 |pre,a :: l,h,i,hi=>by
  unfold alG at h;split at h
  ·cases i with
   |zero=>exact h
   |succ i=>exact absurd hi (by simp)
  ·obtain⟨h1,h2⟩:=b1c h;cases i with
   |zero=>exact h1
   |succ i=>
    have:=b60 (pre ++ [a]) _ h2 i (Nat.lt_of_succ_lt_succ hi);simpa using this
@[reducible] def U7:BothC St:=⟨c2a,b1c,fun l f=>alG f [] l,fun h=>b60 [] _ h,fun _ _ _=>none⟩
end
noncomputable section
section
variable{R:Type}[BothC R]
def d99(E:Env)(all:List Oper)(l:List Oper):St->(St->Option R)->Option R:=
 List.rec (motive:=fun _=>St->(St->Option R)->Option R) (fun st k=>k st)
  (fun o _ ih st k=>match a42 E o.op with
   |true=>match a3E all o st (fun st=>N2 E o.op o.type st fun d=>st.putK o.dst d some) (some:St->Option St)with
    |some st'=>ih st' k
    |none=>ih st k
   |false=>ih st k) l
def d5c:D->List Nat | .row r=>[r] | .elp r _ _ _=>[r] | .tl r _ _=>[r] | .box r _=>[r] | .mref r=>[r] | .fnc _ l=>l | .tup _ l=>namesL l|_=>[]
where
 namesL:List D->List Nat
  |[]=>[]
  |.row r :: l=>r :: namesL l
  |.elp r _ _ _ :: l=>r :: namesL l
  |.tl r _ _ :: l=>r :: namesL l
  |.box r _ :: l=>r :: namesL l
  |.mref r :: l=>r :: namesL l
  |.fnc _ m :: l=>m++namesL l
  |_ :: l=>namesL l
def b0E:List D->List Nat | []=>[]|d :: l=>d5c d++b0E l
def b8b(hp:List (Nat×Blk)):Nat->List Nat->List Nat->List Nat
 |0,_,acc=>acc
 |n+1,[],acc=>acc
 |n+1,r :: l,acc=>match s6 acc r with
  |true=>b8b hp n l acc
  |false=>match p5 hp r with
   |some (.cells cs)=>b8b hp n (b0E cs++l) (r :: acc)
   |_=>b8b hp n l (r :: acc)
def d7t(E:Env)(o:Oper):List Operand:=match a42 E o.op with
 |true=>[]
 |false=>match o.op with
  |.store _ x v=>[x,v]
  |.box _ x=>[x]
  |.build _ ps=>ps.toList.map (·.2)
  |.buildSlice _ _ ps=>ps.toList.map (·.2)
  |.mapUpdate _ m k x=>[m,k,x]
  |.makeFunc _ _ caps=>caps.toList
  |.range _ x=>[x]
  |.next x _=>[x]
  |.convert _ _ x=>[x]
  |.call c=>match c.callee with
   |.value v=>v :: c.args.toList
   |.builtin _=>c.args.toList
   |_=>c.args.toList
  |_=>[]
def d47(E:Env)(ops:List Oper)(st:St):List Nat:=
 match d99 (R:=St) E ops ops st some with
 |some st'=>(fun rs=>(st'.hp.map (·.1)).filter fun r=>!s6 rs r) (b8b st'.hp 1000 (b0E ((ops.map (d7t E)).flatten.map st'.ev)) [])
 |none=>[]
def b5Y(ops:Array Oper):List Nat:=ops.toList.filterMap fun o=>match o.op with
 |.assign _=>none
 |_=>o.dst
def d1S(hp:List (Nat×Blk))(l:List (Nat×Blk)):Bool:=
 List.rec (motive:=fun _=>Bool) true (fun p _ ih=>match p5 hp p.1 with
  |some _=>ih
  |none=>false) l
def c5W(E:Env)(ops:Array Oper)(st:St):Option St:=
 a91 (R:=St) id (a0z (b5Y ops) st.fr) fun fr=>(fun st=>a1s (R:=St) (d47 E ops.toList st) fun l=>match @b7o St U7 E ops l st some with
  |some st'=>match d1S st'.hp st.hp with
   |true=>some st'
   |false=>match @a9w St U7 E ops ops.size (Array.replicate ops.size false) st some with
    |some st2=>some st2
    |none=>some st'
  |none=>@a9w St U7 E ops ops.size (Array.replicate ops.size false) st some) ⟨st.n,fr,st.hp⟩
def c2j(body:St->(Ex->St->Option R)->Option R):Nat->St->(Ex->St->Option R)->Option R
 |0,_,_=>none
 |n+1,st,k=>body st fun e st=>match e with
  |.normal=>c2j body n st k
  |.exit j=>k (.exit j) st
  |.ret=>k .ret st
def a4I(E:Env)(N:Nat)(c:Code):Nat->St->(Ex->St->Option R)->Option R:=
 Code.rec (motive:=fun _=>Nat->St->(Ex->St->Option R)->Option R)
  (fun _ st k=>k .normal st)
  (fun id ops draw _ st k=>match draw with
   |false=>a6w E ops.toList ops.toList st (k .normal)
   |true=>match ops.toList.all (H4 E)&&Region.lexB .any ops with
    |true=>a6w E ops.toList ops.toList st (k .normal)
    |false=>match Region.noSelect ops with
     |true=>(match c5W E ops st with
      |some st'=>k .normal st'
      |none=>none)
     |false=>none)
  (fun _ _ iha ihb i st k=>iha i st fun e st=>match e with
   |.normal=>ihb i st k
   |.exit j=>k (.exit j) st
   |.ret=>k .ret st)
  (fun c _ _ iht ihe i st k=>match st.ev c with
   |.v .bool c=>br c (iht i st k) (ihe i st k)
   |.bl true=>iht i st k
   |.bl false=>ihe i st k
   |_=>none)
  (fun id _ ih _ st k=>ih id st fun e st=>match e with
   |.normal=>k .normal st
   |.exit j=>if j=id then k .normal st else k (.exit j) st
   |.ret=>k .ret st)
  (fun _ ih i st k=>c2j (ih i) N st k)
  (fun _ _ _ _ _ _ _ _ _=>none)
  (fun id _ st k=>k (.exit id) st)
  (fun _ _ _ _ _=>none)
  (fun _ _ _ _=>none)
  (fun _ _ _ _=>none)
  (fun _ st k=>k .ret st)
  (fun _ _ _ _=>none) c
theorem b9T(E:Env)(N id:Nat)(ops:Array Oper)(i:Nat)(st:St)(k:Ex->St->Option R):a4I E N (.region id ops true) i st k=(match ops.toList.all (H4 E)&&Region.lexB .any ops with
    |true=>a6w E ops.toList ops.toList st (k .normal)
    |false=>match Region.noSelect ops with
     |true=>(match c5W E ops st with
      |some st'=>k .normal st'
      |none=>none)
     |false=>none):=rfl
theorem b9S(E:Env)(N:Nat)(c:Operand)(x y:Code)(i:Nat)(st:St)(k:Ex->St->Option R):a4I E N (.cond c x y) i st k=(match st.ev c with
   |.v .bool c=>br c (a4I E N x i st k) (a4I E N y i st k)
   |.bl true=>a4I E N x i st k
   |.bl false=>a4I E N y i st k
   |_=>none):=rfl
theorem b9U(E:Env)(N:Nat)(c:Code)(i:Nat)(st:St)(k:Ex->St->Option R):a4I E N (.loop c) i st k=c2j (a4I E N c i) N st k:=rfl
def b14:List ResultVar->List Nat | []=>[] | .tmp t :: l=>t :: b14 l | .cell x _ :: l=>x :: b14 l
def d46(f:Func)(st:St):Option St:=b04 (R:=St) (b14 f.results.toList) id st.fr fun fr=>a1s (R:=St) (b8b st.hp 1000 (b0E (fr.map (·.2))++(st.hp.map (·.1)).filter fun r=>Nat.blt r 1000) []) fun rs=>a7v (R:=St) rs st.hp fun hp=>some ⟨st.n,fr,hp⟩
def c50(E:Env)(N:Nat)(f:Func)(c:Code)(st:St):Option St:=
 @a4I St U7 E N c 0 st fun e st=>match e with
  |.exit _=>none
  |_=>d46 f st
end
section
variable{P:Program}{df:List Deferred}{G:World->Prop}{B0:Nat}{E:Env}{M:Nat->Nat->Prop}{M0:Nat->Nat->Prop}{w0:World}{gi g:Gh}{st:St}{a:Act}{w:World}
theorem a9Z{α:Type}(ks:List Nat)(l:List (Nat×α))(i:Nat)(y:α)(h:p5 (a0z ks l) i=some y):p5 l i=some y:=by
 induction l with
 |nil=>cases h
 |cons p l ih=>
  obtain⟨j,x⟩:=p;unfold a0z at h;rw[r8];have hno:∀l:List (Nat×α),s6 ks j=true->p5 (a0z ks l) j=none:=by
   intro l hj;induction l with
   |nil=>rfl
   |cons q l ih2=>
    obtain⟨k,z⟩:=q;unfold a0z;split
    ·exact ih2
    ·rename_i hk;rw[r8];have:Nat.beq k j=false:=by
      cases hkj:Nat.beq k j with
      |false=>rfl
      |true=>have:=Nat.eq_of_beq_eq_true hkj;subst this;rw[hj]at hk;cases hk
     rw[this];exact ih2
  cases hb:Nat.beq j i with
  |true=>
   have:j=i:=Nat.eq_of_beq_eq_true hb;subst this;split at h
   ·rename_i hj;rw[hno l hj]at h;cases h
   ·rw[r8,hb]at h;exact h
  |false=>
   split at h
   ·exact ih h
   ·rw[r8,hb]at h;exact ih h
theorem Sim.drop(hs:Sim df G B0 M0 w0 gi g st a w)(ts:List Nat):Sim df G B0 M0 w0 gi g ⟨st.n,a0z ts st.fr,st.hp⟩ a w:=
 {hs with
  fr:=fun t d h=>hs.fr t _ (a9Z _ _ _ _ h)
  inb:=fun t d h=>hs.inb t _ (a9Z _ _ _ _ h)}
theorem c0d{R:Type}[BothC R](hE:EnvOk P G B0 E){id:Nat}{ops:Array Oper}(hsel:Region.noSelect ops=true){k:St->Option R}{r:R}{Q:Exit->Act->World->Prop}(hK:P7 df G B0 M0 w0 gi k r (Q .normal))(hs:Sim df G B0 M0 w0 gi g st a w)
  (h:a9w E ops ops.size (Array.replicate ops.size false) st k=some r):(Code.region id ops true).wp P (PanQ df E.bad M0 w0 gi r Q) a w:=by
 have hs1:=hs.later (Ext.refl w).drew;exact wp_region_any hE.mixed (a0w hE hsel (Q:=PanQ df E.bad M0 w0 gi r Q) (fun g st a w hs h=>hK g st a w hs h) PanQ.pans.up (fun _ _ _ c a v w=>PanQ.blind c a _ v w) _ _ _ _ _ _ hs1 h)
theorem R8{R:Type}[BothC R](hE:EnvOk P G B0 E)(hpa:∀c ρ st,(BothC.pa c ρ st:Option R)=none)(N:Nat):∀(c:Code) (i:Nat) {k:Ex->St->Option R} {r:R} {Q:Exit->Act->World->Prop},Leaves df G B0 M0 w0 gi k r Q->∀(g:Gh) (st:St) (a:Act) (w:World),
  Sim df G B0 M0 w0 gi g st a w->a4I E N c i st k=some r->c.wp P Q a w
 |.skip,i,k,r,Q,hK,g,st,a,w,hs,h=>wp_skip (hK .normal _ _ _ _ hs h)
 |.region id ops false,i,k,r,Q,hK,g,st,a,w,hs,h=>wp_region_list (a2d hE (fun _ _ _ _ hs h=>hK .normal _ _ _ _ hs h) (Pans.none hpa) _ _ _ _ _ hs h)
 |.region id ops true,i,k,r,Q,hK,g,st,a,w,hs,h=>by
  rw[b9T]at h;split at h
  ·rename_i hq;simp only[Bool.and_eq_true]at hq;exact wp_region_quiet (C:=fun w'=>Ext w w') hE.mixed hq.2 (Ext.refl w).drew (a09 hE (fun _ _ _ _ hs h=>hK .normal _ _ _ _ hs h) _ _ _ _ hq.1 hs h)
  ·split at h
   ·rename_i hsel;split at h
    ·rename_i st' hd;unfold c5W at hd;simp only[a13,b5O]at hd;rw[a1t]at hd;have hs:=hs.drop (b5Y ops);have key:∀l,@b7o St U7 E ops l ⟨st.n,a0z (b5Y ops) st.fr,st.hp⟩ some=some st'->(Code.region id ops true).wp P Q a w:=fun l hd=>by
      refine Code.wp_mono (@PanQ.out _ _ _ _ St U7 _ _ _ (@Pans.none St U7 _ _ _ _ _ _ _ fun _ _ _=>rfl)) (@a97 _ _ _ _ _ _ _ _ _ _ _ _ St U7 hE id _ hsel l some st' Q (fun _ _ _ _ hs hh=>?_) hs hd);cases hh;exact hK .normal _ _ _ _ hs h
     have key2:@a9w St U7 E ops ops.size (Array.replicate ops.size false) ⟨st.n,a0z (b5Y ops) st.fr,st.hp⟩ some=some st'->(Code.region id ops true).wp P Q a w:=fun hd=>by
      refine Code.wp_mono (@PanQ.out _ _ _ _ St U7 _ _ _ (@Pans.none St U7 _ _ _ _ _ _ _ fun _ _ _=>rfl)) (@c0d _ _ _ _ _ _ _ _ _ _ _ _ St U7 hE id _ hsel some st' Q (fun _ _ _ _ hs hh=>?_) hs hd);cases hh;exact hK .normal _ _ _ _ hs h
     split at hd
     ·rename_i st'' hd';split at hd
      ·cases hd;exact key _ hd'
      ·split at hd
       ·rename_i st2 hd2;cases hd;exact key2 hd2
       ·cases hd;exact key _ hd'
     ·exact key2 hd
    ·cases h
   ·cases h
 |.seq x y,i,k,r,Q,hK,g,st,a,w,hs,h=>by
  refine wp_seq (R8 hE hpa N x i ?_ _ _ _ _ hs h);intro e g st a w hs h;cases e with
  |normal=>exact R8 hE hpa N y i hK _ _ _ _ hs h
  |exit id=>exact hK (.exit id) _ _ _ _ hs h
  |ret=>exact hK .ret _ _ _ _ hs h
 |.cond c x y,i,k,r,Q,hK,g,st,a,w,hs,h=>by
  rw[b9S]at h;have hc:=hs.ev c;split at h
  ·rename_i b hd;rw[hd]at hc;refine wp_cond (t:=b) (RepD.bool hc) ?_;rcases I6 h with⟨e,h2⟩|⟨e,h2⟩
   ·subst e;exact R8 hE hpa N x i hK _ _ _ _ hs h2
   ·subst e;exact R8 hE hpa N y i hK _ _ _ _ hs h2
  ·rename_i hd;rw[hd]at hc;exact wp_cond (t:=true) hc (R8 hE hpa N x i hK _ _ _ _ hs h)
  ·rename_i hd;rw[hd]at hc;exact wp_cond (t:=false) hc (R8 hE hpa N y i hK _ _ _ _ hs h)
  ·cases h
 |.block id c,i,k,r,Q,hK,g,st,a,w,hs,h=>by
  refine wp_block (R8 hE hpa N c id ?_ _ _ _ _ hs h);intro e g st a w hs h;cases e with
  |normal=>exact hK .normal _ _ _ _ hs h
  |exit j=>
   simp only at h;show(if j=id then Q .normal a w else Q (.exit j) a w);split at h
   ·rename_i e;rw[if_pos e];exact hK .normal _ _ _ _ hs h
   ·rename_i e;rw[if_neg e];exact hK (.exit j) _ _ _ _ hs h
  |ret=>exact hK .ret _ _ _ _ hs h
 |.loop c,i,k,r,Q,hK,g,st,a,w,hs,h=>by
  rw[b9U]at h;have key:∀(n:Nat) (g:Gh) (st:St) (a:Act) (w:World),Sim df G B0 M0 w0 gi g st a w->c2j (a4I E N c i) n st k=some r->Code.rounds P c Q n a w:=by
   intro n;induction n with
   |zero=>intro g st a w hs h;cases h
   |succ n ih=>
    intro g st a w hs h;refine R8 hE hpa N c i ?_ _ _ _ _ hs h;intro e g st a w hs h;cases e with
    |normal=>exact ih g _ _ _ hs h
    |exit id=>exact hK (.exit id) _ _ _ _ hs h
    |ret=>exact hK .ret _ _ _ _ hs h
  exact wp_loop_rounds N (key N _ _ _ _ hs h)
 |.exit id,i,k,r,Q,hK,g,st,a,w,hs,h=>wp_exit (hK (.exit id) _ _ _ _ hs h)
 |.ret,i,k,r,Q,hK,g,st,a,w,hs,h=>Go.wp_ret (hK .ret _ _ _ _ hs h)
 |.rangeFunc _ _ _ _,i,k,r,Q,hK,g,st,a,w,hs,h=>by cases h
 |.scope _,i,k,r,Q,hK,g,st,a,w,hs,h=>by cases h
 |.label _,i,k,r,Q,hK,g,st,a,w,hs,h=>by cases h
 |.goto _,i,k,r,Q,hK,g,st,a,w,hs,h=>by cases h
 |.refuse _,i,k,r,Q,hK,g,st,a,w,hs,h=>by cases h
theorem Sim.few(hs:Sim df G B0 M0 w0 gi g st a w)(ts:List Nat):Sim df G B0 M0 w0 gi g ⟨st.n,a0A ts id st.fr,st.hp⟩ a w:=
 {hs with
  fr:=fun t d h=>by obtain⟨x,h1,rfl⟩:=a0q _ _ _ _ _ h;exact hs.fr t _ h1
  inb:=fun t d h=>by obtain⟨x,h1,rfl⟩:=a0q _ _ _ _ _ h;exact hs.inb t _ h1}
theorem Sim.fewB(hs:Sim df G B0 M0 w0 gi g st a w)(l:List Nat):Sim df G B0 M0 w0 gi g ⟨st.n,st.fr,a0A l Blk.past st.hp⟩ a w:=
 {hs with
  hp:=fun r blk hb=>by
   obtain⟨x,h1,rfl⟩:=a0q l Blk.past st.hp r blk hb;obtain⟨y,h2,h3⟩:=hs.hp r _ h1;exact⟨y,h2,h3.past⟩}
theorem Sim.fin(hs:Sim df G B0 M0 w0 gi g st a w){f:Func}{st':St}(h:d46 f st=some st'):Sim df G B0 M0 w0 gi g st' a w:=by
 unfold d46 at h;simp only[a5A,a1t,a3s]at h;cases h;exact(hs.few _).fewB _
theorem b2a(hE:EnvOk P G B0 E){f:FuncId}{fn:Func}{c:Code}(hf:P.funcs[f]? = some fn)(hb:fn.body=some c)(hcall:∀(args:Array Value) (w:World),(callFunc f args).run P w = .ok (.enter f args) w)
  (F:AF) (pack:SV F.rs->BV F.cs->F.R) (hpack:∀x y,F.out (pack x y)=(x,y)) (N:Nat) (hps:Nat.ble F.ps.length fn.ntmps=true) (hbs:Nat.ble F.bs.length 1000=true)
  (hrunC:∀x y z,F.f x y=some z->∃sE,c50 E N fn c (start fn F.ps F.bs x y)=some sE/\L9 E fn F pack sE=some z) (hkp:a1p F.bs F.cs=false):Sound P G B0 f F:=by
 refine⟨hcall,fun M w g vs x y z hG hB hfr hrun=>?_⟩;refine calls_of_wp hf hb ?_;obtain⟨sE,hrun,hres⟩:=hrunC x y z hrun
 ·unfold c50 at hrun;have hlen:vs.length=F.ps.length:=by
   have:=hfr.args.len;rw[<-this];have hl:∀(l:List Sl) (x:SV l),(Y1 id l x).length=l.length:=fun l=>by
    induction l with
    |nil=>intro _;rfl
    |cons s l ih=>intro x;show(Y1 id l x.2).length+1=_;rw[ih];rfl
   exact hl _ _
  have hps':vs.length<=fn.ntmps:=by rw[hlen];exact Nat.le_of_ble_eq_true hps
  have hbs':F.bs.length<=1000:=Nat.le_of_ble_eq_true hbs;have hM:∀b o,q6 (fun b o=>M b o/\¬R6 g b) g b o↔M b o:=by
   intro b o;constructor
   ·rintro(h|⟨r,x,h1,h2,h3⟩)
    ·exact h.1
    ·exact(hfr.chg _ _ _ _ h1 h2).2 h3
   ·intro h;by_cases hX:R6 g b
    ·obtain⟨r,x,h1,h2⟩:=hX;exact .inr ⟨r,x,h1,h2,(hfr.chg _ _ _ _ h1 h2).1 h⟩
    ·exact .inl ⟨h,hX⟩
  have eM:q6 (fun b o=>M b o/\¬R6 g b) g=M:=funext fun b=>funext fun o=>propext (hM b o)
  have hsim:Sim [] G B0 (fun b o=>M b o/\¬R6 g b) w g g (start fn F.ps F.bs x y) {tmps:=vs.toArray++Array.replicate (fn.ntmps-vs.toArray.size) undef,defers:=[]} w:=by
   refine{defers:=rfl,sz:=?_,fr:=?_,inb:=?_,hp:=?_,low:=?_,inj:=hfr.inj,row:=hfr.row,m0:=fun b o h=>⟨hfr.mlt _ _ h.1,h.2⟩,pin:=fun _ _ h _=>h,gin:=fun r x h _=>Nat.lt_of_lt_of_le (hfr.dom r x h) hbs',gil:=fun b ⟨r,x,h1,h2⟩=>(hfr.low _ _ _ h1 h2).1,ext:=ExtX.refl _ _,stp:=Step.refl _ _,gg:=hG,b0:=hB}
   ·show(vs.toArray++Array.replicate (fn.ntmps-vs.toArray.size) undef).size=fn.ntmps;simp;omega
   ·intro t d h;rw[eM];obtain⟨_,v,h1,h2⟩:=a2i F.ps 0 x vs hfr.args t d h;rw[Nat.sub_zero]at h1;have hlt:=(List.getElem?_eq_some_iff.1 h1).1;have:(vs.toArray++Array.replicate (fn.ntmps-vs.toArray.size) undef).getD t undef=v:=by
     rw[Array.getD_eq_getD_getElem?,Array.getElem?_append_left (by simpa using hlt),List.getElem?_toArray,h1];rfl
    show RepD M w g d ((vs.toArray++Array.replicate (fn.ntmps-vs.toArray.size) undef).getD t undef);rw[this];exact h2
   ·intro t d h;obtain⟨_,v,h1,_⟩:=a2i F.ps 0 x vs hfr.args t d h;rw[Nat.sub_zero]at h1;have hlt:=(List.getElem?_eq_some_iff.1 h1).1;show t<fn.ntmps;omega
   ·intro r blk h;rw[eM];obtain⟨_,h1⟩:=a7y F.bs 0 y r blk h;rw[Nat.sub_zero]at h1;exact hfr.res r blk h1
   ·exact fun r x b h1 h2=>⟨(hfr.low _ _ _ h1 h2).1,(hfr.low _ _ _ h1 h2).2,.inl ⟨r,x,h1,h2⟩⟩
  refine @R8 _ _ _ _ _ _ _ _ St U7 hE (fun _ _ _=>rfl) N c 0 _ sE _ ?_ _ _ _ _ hsim hrun;intro e g' st0 a w' hs0 h;have hh:∃st,Sim [] G B0 (fun b o=>M b o/\¬R6 g b) w g g' st a w'/\L9 E fn F pack st=some z/\∀j,e ≠ .exit j:=by
   cases e with
   |exit id=>cases h
   |normal=>
    exact⟨_,hs0.fin h,hres,fun j hj=>by cases hj⟩
   |ret=>
    exact⟨_,hs0.fin h,hres,fun j hj=>by cases hj⟩
  clear h hs0 hres;obtain⟨st,hs,h,hne⟩:=hh;have fin:L9 E fn F pack st=some z->a.defers=[]/\∃v,(results fn a.tmps).run P w' = .ok v w'/\∃vs' g'',Ending.returned v = .returned (a7M vs')/\ExtX (R6 g) w w'/\Step M w (y4 M g g'') w'/\Frag B0 (y4 M g g'') w' g'' F.rs F.cs (F.out z).1 (F.out z).2 vs'/\
   (∀r x,g r=some x->(a4P x.v=true\/a1p F.bs F.cs=true)->g'' r=some x)/\∀b,R6 g'' b->R6 g b\/w.heap.size<=b:=by
   intro h;obtain⟨_,vs',g'',h1,h2,h3,h4,h5,h6⟩:=a69 hE hs hpack hfr.dom hM h;exact⟨hs.defers,_,h1,vs',g'',rfl,h2,h3,h4,fun r x e1 e2=>h5 r x e1 (e2.elim id fun e=>by rw[hkp]at e;cases e),h6⟩
  cases e with
  |normal=>exact fin h
  |ret=>exact fin h
  |exit id=>exact absurd rfl (hne id)
end
end
section
theorem Oper.wp_mono2{P:Program}{o:Oper}{a:Act}{w:World}{K K':Act->World->Prop}{Q Q':Exit->Act->World->Prop}(h:∀a w,K a w->K' a w)(hq:∀e a w,e ≠ .normal->Q e a w->Q' e a w)
  (hh:o.wp P a w K Q):o.wp P a w K' Q':=by
 have hl:LetsOut Q->LetsOut Q':=fun⟨a,w,h⟩=>⟨a,w,hq _ _ _ (by simp) h⟩
 unfold Oper.wp at *;generalize (execOp a.eval o).run P w=r at *;cases r with
 |ok n w'=>
  cases n<;>simp only[Oper.upon]at hh ⊢ <;> first
   |exact h _ _ hh
   |exact hh
   |exact hh.mono fun e w'' hh=>by
     cases e<;>first|exact h _ _ hh|exact hq _ _ _ (by simp) hh|exact hl hh
   |exact Rows.mono hh fun v w'' hh=>h _ _ hh
 |halt s w'=>
  cases s<;>simp only[Oper.upon]at hh ⊢ <;> first|exact hq _ _ _ (by simp) hh|exact hh
def d4d(P:Program)(ops:Array Oper)(Q:Exit->Act->World->Prop)(rest:List Oper):Exit->Act->World->Prop:=fun e a w=>match e with
 |.normal=>wpList P ops Q rest a w
 |e=>Q e a w
theorem a30{P:Program}{ops:Array Oper}{Q:Exit->Act->World->Prop}(rest:List Oper):∀(l:List Oper) (a:Act) (w:World),wpList P ops (d4d P ops Q rest) l a w->wpList P ops Q (l++rest) a w
 |[],a,w,h=>h
 |o :: l,a,w,h=>by
  have hq:∀e a w,e≠Exit.normal->d4d P ops Q rest e a w->Q e a w:=fun e a w he h=>by cases e<;>first|exact absurd rfl he|exact h
  show wpList P ops Q (o :: (l++rest)) a w;unfold wpList at h ⊢;split
  ·rename_i hw;rw[if_pos hw]at h;rcases h with h|⟨h1,a',w',h2⟩
   ·exact .inl (Oper.wp_mono2 (fun a w h=>a30 rest l a w h) hq h)
   ·exact .inr ⟨h1,a',w',hq _ _ _ (by simp) h2⟩
  ·rename_i hw;rw[if_neg hw]at h;exact a30 rest l _ _ h
section
variable{P:Program}{df:List Deferred}{G:World->Prop}{B0:Nat}{E:Env}{M:Nat->Nat->Prop}{M0:Nat->Nat->Prop}{w0:World}{gi g:Gh}{st:St}{a:Act}{w:World}
end
end
noncomputable section
structure Dyn where
 ps:List Sl
 bs:List Sb
 s0:St
 fz:List Nat
structure Dyn' where
 rs:List Sl
 cs:List Sb
section
variable{R:Type}
def d98(r:Nat)(l:List Nat):Nat->(Option Nat->Option R)->Option R:=
 List.rec (motive:=fun _=>Nat->(Option Nat->Option R)->Option R) (fun _ k=>k none) (fun q _ ih i k=>match Nat.beq q r with|true=>k (some i)|false=>ih (i+1) k) l
def noK(ρ:List Nat)(r:Nat)(k:Nat->List Nat->Option R):Option R:=d98 r ρ 0 fun o=>match o with
 |some j=>k j ρ
 |none=>k ρ.length (ρ ++ [r])
def d97(l:List Nat):List Nat->List Nat->(List Nat->List Nat->Option R)->Option R:=List.rec (motive:=fun _=>List Nat->List Nat->(List Nat->List Nat->Option R)->Option R) (fun js ρ k=>k js ρ) (fun r _ ih js ρ k=>noK ρ r fun j ρ=>ih (js ++ [j]) ρ k) l
def slK(st:St)(rows dat:Bool)(ty:Option Ty)(ρ:List Nat)(d:D)(k:Sl->List Nat->Option R):Option R:=match d with
 |.dead=>k .dead ρ
 |.skip=>k .skip ρ
 |.bl _=>k (.v .bool) ρ
 |.v t _=>k (.v t) ρ
 |.nilS=>match dat,ty with
  |true,some t=>k (.v t) ρ
  |_,_=>k .nilS ρ
 |.nilP=>k .nilP ρ
 |.at_ t _=>k (.at_ t) ρ
 |.row r=>match rows with
  |false=>match p5 st.hp r with
   |some (.row _ t _ _)=>k (.v (.sl t)) ρ
   |_=>none
  |true=>noK ρ r fun j ρ=>k (.row j) ρ
 |.mref r=>noK ρ r fun j ρ=>k (.mref j) ρ
 |.box r o=>noK ρ r fun j ρ=>k (.box j o) ρ
 |.fnc f l=>d97 l [] ρ fun js ρ=>k (.fnc f js) ρ
 |.tup true _=>match ty with
  |some t=>k (.v t) ρ
  |none=>none
 |_=>none
def d5v(st:St)(rows dat:Bool)(l:List D):List (Option Ty)->List Nat->(List Sl->List Nat->Option R)->Option R:=
 List.rec (motive:=fun _=>List (Option Ty)->List Nat->(List Sl->List Nat->Option R)->Option R) (fun _ ρ k=>k [] ρ)
  (fun d _ ih ts ρ k=>slK st rows dat (match ts with|t :: _=>t | []=>none) ρ d fun s ρ=>ih (match ts with|_ :: ts=>ts | []=>[]) ρ fun l ρ=>k (s :: l) ρ) l
def sbK(st:St)(r:Nat)(ρ:List Nat)(k:Sb->List Nat->Option R):Option R:=match p5 st.hp r with
 |some (.cells ds)=>d5v st true false ds [] ρ fun l ρ=>k (.cells l) ρ
 |some (.map e _)=>k (.map e) ρ
 |some (.row e t ex _)=>k (.row e t ex) ρ
 |some (.iter _ _ _)=>none
 |some (.bld _ _)=>none
 |none=>k .none ρ
def d5u(st:St):Nat->Nat->List Nat->List Sb->(List Sb->Option R)->Option R
 |0,_,_,_,_=>none
 |n+1,j,ρ,acc,k=>match ρ[j]? with
  |some r=>sbK st r ρ fun b ρ=>d5u st n (j+1) ρ (acc ++ [b]) k
  |none=>a1s [] fun _=>k acc
end
def b98:List D->List Nat | []=>[] | .mref r :: l=>r :: b98 l|_ :: l=>b98 l
structure Call' where
 fn:FuncId->Option Func
 rows:FuncId->Bool
 frz:FuncId->Bool
 exq:FuncId->Nat->Bool
 dat:FuncId->Bool
def d9G(C:Call')(E:Env)(fn:Func)(st:St)(f:FuncId)(ds:List D):Option Dyn:=
 a6v id ds fun ds=>a1s (match C.frz f with|true=>b98 ds|false=>[]) fun fz=>c57 fz ds st fun ds st=>
   d5v st (C.rows f) (C.dat f) ds (fn.params.toList.map E.ty) [] fun ps ρ=>d5u st 1000 0 ρ [] fun bs=>
   b1O st ps ds [] [] fun x ρ β=>b1L st bs 0 ρ β fun y ρ β=>
   a91 id (start fn ps bs x y).fr fun fr=>a6S id (start fn ps bs x y).hp fun hp=>some ⟨ps,bs,⟨fn.ntmps,fr,hp⟩,fz⟩
def d9H(E:Env)(fn:Func)(n:Nat)(sE:St):Option Dyn':=b13 E sE fn.results.toList [] fun ds'=>d5v sE true false ds' (fn.resultTypes.toList.map E.ty) (a7X n) fun rs ρ'=>d5u sE 1000 0 ρ' [] fun cs=>some ⟨rs,cs⟩
def d9F(E:Env)(fn:Func)(i:Dyn)(sE:St)(z:Dyn'):AF:=
 {ps:=i.ps,bs:=i.bs,rs:=z.rs,cs:=z.cs,R:=SV z.rs×BV z.cs,out:=fun z=>z
  f:=fun x y=>match St.same (start fn i.ps i.bs x y) i.s0 with
   |true=>L9 E fn {ps:=i.ps,bs:=i.bs,rs:=z.rs,cs:=z.cs,R:=SV z.rs×BV z.cs,out:=fun z=>z,f:=fun _ _=>none} Prod.mk sE
   |false=>none}
def Env.wx(E:Env)(x:Nat->Bool):Env:={E with exq:=x}
def d44(C:Call')(E1:Env)(N:Nat)(st:St)(f:FuncId)(q:Option Tmp)(ds:List D):Option (AF×List Nat):=
 (fun E=>match C.fn f with
 |some fn=>match fn.body with
  |some c=>match d9G C E fn st f ds with
   |some i=>match c50 E N fn c i.s0 with
    |some sE=>match d9H E fn i.bs.length sE with
     |some z=>match Nat.ble i.ps.length fn.ntmps,Nat.ble i.bs.length 1000,a1p i.bs z.cs with
      |true,true,false=>some (d9F E fn i sE z,i.fz)
      |_,_,_=>none
     |none=>none
    |none=>none
   |none=>none
  |none=>none
 |none=>none) (E1.wx (C.exq f))
section
variable{P:Program}{df:List Deferred}{G:World->Prop}{B0:Nat}{E:Env}
theorem b9R{C:Call'}(hE:EnvOk P G B0 E)(hC:∀f fn,C.fn f=some fn->P.funcs[f]? = some fn/\∀(args:Array Value) (w:World),(callFunc f args).run P w = .ok (.enter f args) w)(N:Nat)
  {st:St} {f:FuncId} {q:Option Tmp} {ds:List D} {F:AF} {l:List Nat} (h:d44 C E N st f q ds=some (F,l)):Sound P G B0 f F:=by
 unfold d44 at h;dsimp only at h;have hE:EnvOk P G B0 (E.wx (C.exq f)):={ty:=hE.ty,el:=hE.el,fld:=hE.fld,mp:=hE.mp,bld:=hE.bld,ptr:=hE.ptr,cmp:=hE.cmp,fn:=hE.fn,stable:=hE.stable,mixed:=hE.mixed,dyn:=hE.dyn,pf:=hE.pf};split at h
 ·rename_i fn hfn;split at h
  ·rename_i c hb;split at h
   ·rename_i i hi;split at h
    ·rename_i sE hsE;split at h
     ·rename_i z hz;split at h
      ·rename_i h1 h2 h3;cases h;obtain⟨hf,hcall⟩:=hC _ _ hfn;refine b2a hE hf hb hcall _ Prod.mk (fun _ _=>rfl) N h1 h2 (fun x y r hr=>?_) h3;show ∃sE,c50 _ N fn c (start fn i.ps i.bs x y)=some sE/\_;change(match St.same (start fn i.ps i.bs x y) i.s0 with|true=>_|false=>none)=some r at hr;split at hr
       ·rename_i hs;exact⟨sE,by rw[St.same_eq _ _ hs];exact hsE,hr⟩
       ·cases hr
      ·cases h
     ·cases h
    ·cases h
   ·cases h
  ·cases h
 ·cases h
def Env.rawE(E:Env):Env:={E with raw:=true}
theorem d18(h:EnvOk P G B0 E):EnvOk P G B0 E.rawE:={ty:=h.ty,el:=h.el,fld:=h.fld,mp:=h.mp,bld:=h.bld,ptr:=h.ptr,cmp:=h.cmp,fn:=h.fn,stable:=h.stable,mixed:=h.mixed,dyn:=h.dyn,pf:=h.pf}
def d31(P:Program):List (FuncId×Func)->Prop | []=>True|p :: l=>(P.funcs[p.1]? = some p.2/\∀(args:Array Value) (w:World),(callFunc p.1 args).run P w = .ok (.enter p.1 args) w)/\d31 P l
theorem b4R{P:Program}:∀(l:List (FuncId×Func)),d31 P l->∀f fn,p5 l f=some fn->P.funcs[f]? = some fn/\∀(args:Array Value) (w:World),(callFunc f args).run P w = .ok (.enter f args) w
 |[],_,f,fn,h=>by cases h
 |p :: l,hl,f,fn,h=>by
  rw[r8]at h;split at h
  ·rename_i e;have e:p.1=f:=Nat.eq_of_beq_eq_true e;cases h;rw[<-e];exact hl.1
  ·exact b4R l hl.2 f fn h
def d4b(E:Env)(C:Call')(N:Nat):Nat->Env:=Nat.rec (motive:=fun _=>Env) E fun _ E'=>{E with dyn:=d44 C E' N}
theorem b7L(hE:EnvOk P G B0 E){C:Call'}(hC:∀f fn,C.fn f=some fn->P.funcs[f]? = some fn/\∀(args:Array Value) (w:World),(callFunc f args).run P w = .ok (.enter f args) w)(N:Nat):∀n,EnvOk P G B0 (d4b E C N n)
 |0=>hE
 |n+1=>{ty:=hE.ty,el:=hE.el,fld:=hE.fld,mp:=hE.mp,bld:=hE.bld,ptr:=hE.ptr,cmp:=hE.cmp,fn:=hE.fn,stable:=hE.stable,mixed:=hE.mixed,pf:=hE.pf,dyn:=fun st f q ds F l h=>b9R (q:=q) (b7L hE hC N n) hC N h}
def c53(E:Env)(N:Nat)(fn:Func):Option Bool:=
 match fn.body with
 |some c=>match c50 E N fn c (start fn [] [] () ())with
  |some sE=>L9 E fn {ps:=[],bs:=[],rs:=[.v .bool],cs:=[],R:=Bool,out:=fun z=>((z,()),()),f:=fun _ _=>none} (fun x _=>x.1) sE
  |none=>none
 |none=>none
theorem b7t(hE:EnvOk P G B0 E){f:FuncId}{fn:Func}(hf:P.funcs[f]? = some fn)(hcall:∀(args:Array Value) (w:World),(callFunc f args).run P w = .ok (.enter f args) w)(N:Nat){b:Bool}(h:c53 E N fn=some b):
  Sound P G B0 f {ps:=[],bs:=[],rs:=[.v .bool],cs:=[],R:=Bool,out:=fun z=>((z,()),()),f:=fun _ _=>some b}:=by
 unfold c53 at h;split at h
 ·rename_i c hb;split at h
  ·rename_i sE hsE;refine b2a hE hf hb hcall _ (fun x _=>x.1) (fun _ _=>rfl) N (by rw[Nat.ble_eq];exact Nat.zero_le _) rfl (fun x y z hz=>?_) rfl;cases hz;exact⟨sE,hsE,h⟩
  ·cases h
 ·cases h
end
end
end Go.Proofs.YtolpmfhiegpohaaGreatDoor
