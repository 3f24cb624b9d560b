/- % -/
import Derived.Test.YtckdohagilcloaaGreatDoorQBm11
namespace Go.Proofs.YtckdohagilcloaaGreatDoor
set_option linter.unusedVariables false
set_option linter.unusedSimpArgs false
open Go Go.RowKit
section
section
variable{P:Program}{df:List Deferred}{G:World->Prop}{B0:Nat}{E:Env}{M:Nat->Nat->Prop}{M0:Nat->Nat->Prop}{w0:World}{gi g:Gh}{st:St}{a:Act}{w:World}
theorem RepG.monoC{RR RR':(i:RC)->i.den->List Value->Prop}{M M':Nat->Nat->Prop}{w':World}(hs:∀ad u,w.cell? ad=some u->¬M ad.block ad.off->w'.cell? ad=some u/\¬M' ad.block ad.off)(hR:∀i x cs,RR i x cs->RR' i x cs):
  ∀(t:Ty) (x:t.den) (cs:List Value),a1E t=false->RepG RR M w t x cs->RepG RR' M' w' t x cs
 |.u8,_,_,_,h=>h
 |.int _,_,_,_,h=>h
 |.bool,_,_,_,h=>h
 |.str,_,_,_,h=>h
 |.sl t,_,_,ht,h=>by
  obtain⟨A,c,rfl,h1,h2,h3⟩:=h;refine⟨A,c,rfl,h1,h2,fun i hi=>?_⟩;obtain⟨ad,es,e,hr,hp⟩:=h3 i hi;exact⟨ad,es,e,RepG.monoC hs hR t _ _ ht hr,fun j u hu=>let ⟨a,b⟩:=hp j u hu;hs _ _ a b⟩
 |.pr a b,x,_,ht,h=>by
  obtain⟨c1,c2,rfl,h1,h2⟩:=h;simp only[a1E,Bool.or_eq_false_iff]at ht;exact⟨c1,c2,rfl,RepG.monoC hs hR a _ _ ht.1 h1,RepG.monoC hs hR b _ _ ht.2 h2⟩
 |.un,_,_,_,h=>h
 |.mp e,_,_,ht,h=>by cases ht
 |.ptr t,_,_,ht,h=>by
  obtain⟨ad,es,rfl,h1,h2⟩:=h;exact⟨ad,es,rfl,RepG.monoC hs hR t _ _ ht h1,fun j u hu=>let ⟨a,b⟩:=h2 j u hu;hs _ _ a b⟩
 |.np t,x,_,ht,h=>by
  cases x with
  |none=>exact h
  |some x=>
   obtain⟨ad,es,rfl,h1,h2⟩:=h;exact⟨ad,es,rfl,RepG.monoC hs hR t _ _ ht h1,fun j u hu=>let ⟨a,b⟩:=h2 j u hu;hs _ _ a b⟩
 |.nl,_,_,_,h=>h
 |.clo _ t,_,_,ht,h=>by
  obtain⟨c,rfl,h1⟩:=h;exact⟨c,rfl,RepG.monoC hs hR t _ _ ht h1⟩
 |.rc i,x,cs,_,h=>hR i x cs h
theorem RepC.stepC{M M':Nat->Nat->Prop}{w':World}(hs:∀ad u,w.cell? ad=some u->¬M ad.block ad.off->w'.cell? ad=some u/\¬M' ad.block ad.off)(t:Ty)(x:t.den)(cs:List Value)(ht:a1E t=false)(h:RepC M w t x cs):RepC M' w' t x cs:=
 RepG.monoC hs (fun _ _ _ h=>h (fun i x cs=>RRs M' w' i x cs) fun j _ _ h'=>RRs.intro (RepG.monoC hs (fun _ _ _ h=>h) _ _ _ (by cases j<;>rfl) h')) t x cs ht h
def c4g(M' M'':Nat->Nat->Prop)(w:World)(t:Ty):Prop:=∀(x:t.den) cs,RepC M' w t x cs->RepC M'' w t x cs
def c4h(M' M'':Nat->Nat->Prop)(w:World):Prop:=∀ad cs,Pl M' w ad cs->Pl M'' w ad cs
def a6U(M' M'':Nat->Nat->Prop)(w:World):Sl->Prop | .v t=>c4g M' M'' w t | .at_ t=>c4g M' M'' w t/\c4h M' M'' w|_=>True
def b9p(M' M'':Nat->Nat->Prop)(w:World):Sb->Prop | .none=>True | .cells l=>∀s∈l,a6U M' M'' w s | .map e=>c4g M' M'' w e | .row _ t _=>c4g M' M'' w t | .iter _=>True | .bld _ l=>∀s∈l,a6U M' M'' w s
theorem c9e{M' M'':Nat->Nat->Prop}{g' G':Gh}{ν:Nat->Nat}(hν:∀j x,g' j=some x->G' (ν j)=some x){s:Sl}(hG:a6U M' M'' w s){x:s.den}{v:Value}(h:RepD0 M' w g' (d3Q id s x) v):RepD0 M'' w G' (d3Q ν s x) v:=by
 cases s with
 |v t=>obtain⟨cs,h1,h2⟩:=h;exact⟨cs,hG _ _ h1,h2⟩
 |at_ t=>obtain⟨ad,cs,h1,h2,h3⟩:=h;exact⟨ad,cs,h1,hG.1 _ _ h2,hG.2 _ _ h3⟩
 |row r=>obtain⟨x,A,n,c,h1,h2⟩:=h;exact⟨x,A,n,c,hν _ _ h1,h2⟩
 |mref r=>obtain⟨x,b,h1,h2⟩:=h;exact⟨x,b,hν _ _ h1,h2⟩
 |box r o=>obtain⟨x,b,h1,h2⟩:=h;exact⟨x,b,hν _ _ h1,h2⟩
 |fnc f l=>
  obtain⟨cs,e,ha⟩:=h;refine⟨cs,e,?_⟩;change All2 _ (l.map id) cs.toList at ha;show All2 _ (l.map ν) cs.toList;rw[List.map_id]at ha;exact ha.mapL ν fun r u ⟨x,b,h1,h2⟩=>⟨x,b,hν _ _ h1,h2⟩
 |dead=>trivial
 |skip=>exact h
 |nilS=>exact h
 |nilP=>exact h
theorem a7p{M' M'':Nat->Nat->Prop}{g' G':Gh}{ν:Nat->Nat}(hν:∀j x,g' j=some x->G' (ν j)=some x):∀{l:List Sl},(∀s∈l,a6U M' M'' w s)->∀{x:SV l} {vs:List Value},All2 (RepD0 M' w g') (a0E id l x) vs->All2 (RepD0 M'' w G') (a0E ν l x) vs
 |[],_,_,[],_=>trivial
 |[],_,_,_ :: _,h=>h.elim
 |s :: l,hG,x,[],h=>h.elim
 |s :: l,hG,x,v :: vs,h=>⟨c9e hν (hG s List.mem_cons_self) h.1,a7p hν (fun s hs=>hG s (List.mem_cons_of_mem _ hs)) h.2⟩
theorem c9f{M' M'':Nat->Nat->Prop}{g' G':Gh}{ν:Nat->Nat}(hν:∀j x,g' j=some x->G' (ν j)=some x){s:Sb}(hG:b9p M' M'' w s){x:s.den}{blk:Blk}(hb:c1f ν s x=some blk){gx:GB}(h:∀blk,c1f id s x=some blk->∃gx',gx'=gx/\RepB M' w g' gx' blk):RepB M'' w G' gx blk:=by
 cases s with
 |none=>cases hb
 |cells l=>
  cases hb;obtain⟨_,rfl,b,vs,el,h1,h2,h3⟩:=h _ rfl;exact⟨b,vs,el,h1,h2,a7p hν hG h3⟩
 |bld T l=>
  cases hb;obtain⟨_,rfl,b,p,vs,h1,h2,h0,h3⟩:=h _ rfl;exact⟨b,p,vs,h1,h2,h0,a7p hν hG h3⟩
 |map e=>
  cases hb;obtain⟨_,rfl,b,es,c,h1,h2,h3,h7⟩:=h _ rfl;exact⟨b,es,c,h1,h2,h3.mono fun _ _ ⟨h4,cs,h5,h6⟩=>⟨h4,cs,hG _ _ h5,h6⟩,h7⟩
 |row e t ex=>
  cases hb;obtain⟨_,rfl,hz,cs,h1,h2,h3,h4⟩:=h _ rfl;exact⟨hz,cs,h1,h2,h3,fun i hi=>hG _ _ (h4 i hi)⟩
 |iter e=>cases hb
theorem b2T{M' M'':Nat->Nat->Prop}{g' G':Gh}{ν:Nat->Nat}(hν:∀j x,g' j=some x->G' (ν j)=some x):∀{l:List Sb},(∀s∈l,b9p M' M'' w s)->∀{y:BV l} {i:Nat} {blk:Blk},a2T ν l y i=some blk->∀{f:Nat->GB},(∀blk,a2T id l y i=some blk->∃gx',gx'=f i/\RepB M' w g' gx' blk)->RepB M'' w G' (f i) blk
 |[],_,_,_,_,hb,_,_=>by cases hb
 |s :: l,hG,y,0,blk,hb,f,h=>c9f hν (hG s List.mem_cons_self) hb h
 |s :: l,hG,y,i+1,blk,hb,f,h=>b2T hν (l:=l) (fun s hs=>hG s (List.mem_cons_of_mem _ hs)) hb (f:=fun j=>f (j+1)) h
theorem c0A{ν:Nat->Nat}:∀{l:List Sb} {y:BV l} {i:Nat} {blk:Blk},a2T ν l y i=some blk->i<l.length/\∃blk',a2T id l y i=some blk'
 |[],_,_,_,h=>by cases h
 |s :: l,y,0,blk,h=>by
  refine⟨Nat.zero_lt_succ _,?_⟩;cases s with
  |none=>cases h
  |iter e=>cases h
  |_=>exact⟨_,rfl⟩
 |s :: l,y,i+1,blk,h=>by
  obtain⟨h1,h2⟩:=c0A (l:=l) (y:=y.2) (i:=i) h;exact⟨Nat.succ_lt_succ h1,h2⟩
theorem a4H(ν:Nat->Nat):∀(l:List Sb) (j:Nat) (y:BV l) (st:St),(a3Y ν l j y st).fr=st.fr/\(a3Y ν l j y st).n=st.n
 |[],_,_,_=>⟨rfl,rfl⟩
 |s :: l,j,y,st=>by
  unfold a3Y;split
  ·exact a4H ν l (j+1) y.2 _
  ·exact a4H ν l (j+1) y.2 _
theorem a2u(ν:Nat->Nat){r:Nat}:∀(l:List Sb) (j:Nat) (y:BV l) (st:St),(∀i,i<l.length->ν (j+i)≠r)->v6 (a3Y ν l j y st).hp r=v6 st.hp r
 |[],_,_,_,_=>rfl
 |s :: l,j,y,st,h=>by
  have h0:ν j≠r:=h 0 (Nat.zero_lt_succ _);have h1:∀i,i<l.length->ν (j+1+i)≠r:=fun i hi=>by rw[show j+1+i=j+(i+1) by omega];exact h _ (Nat.succ_lt_succ hi)
  unfold a3Y;split
  ·rw[a2u ν l (j+1) y.2 _ h1];exact H9 _ _ (Ne.symm h0)
  ·rw[a2u ν l (j+1) y.2 _ h1];exact a52 _ (Ne.symm h0)
theorem b3p(ν:Nat->Nat):∀(l:List Sb) (j:Nat) (y:BV l) (st:St) (i:Nat),i<l.length->(∀i',i'<l.length->i'≠i->ν (j+i')≠ν (j+i))->v6 (a3Y ν l j y st).hp (ν (j+i))=a2T ν l y i
 |[],_,_,_,_,h,_=>by cases h
 |s :: l,j,y,st,0,_,h=>by
  have h1:∀i,i<l.length->ν (j+1+i)≠ν j:=fun i hi=>by rw[show j+1+i=j+(i+1) by omega];exact h _ (Nat.succ_lt_succ hi) (by omega)
  unfold a3Y;show _=c1f ν s y.1;split
  ·rename_i b hb;rw[hb];exact(a2u ν l (j+1) y.2 (st.setB (ν j) b) h1).trans (R3 _ _ _)
  ·rename_i hb;rw[hb];exact(a2u ν l (j+1) y.2 (st.delB (ν j)) h1).trans (a6y _ _)
 |s :: l,j,y,st,i+1,hi,h=>by
  have h1:∀i',i'<l.length->i'≠i->ν (j+1+i')≠ν (j+1+i):=fun i' hi' hne=>by
   rw[show j+1+i'=j+(i'+1) by omega,show j+1+i=j+(i+1) by omega];exact h _ (Nat.succ_lt_succ hi') (by omega)
  have hi':i<l.length:=Nat.lt_of_succ_lt_succ hi;unfold a3Y;show _=a2T ν l y.2 i;rw[show j+(i+1)=j+1+i by omega];split
  ·exact b3p ν l (j+1) y.2 _ i hi' h1
  ·exact b3p ν l (j+1) y.2 _ i hi' h1
def pos:List Nat->Nat->Option Nat | [],_=>none|b :: l,r=>if b=r then some 0 else(pos l r).map (·+ 1)
theorem b3x:∀{l:List Nat} {r j:Nat},pos l r=some j->l[j]? = some r
 |[],_,_,h=>by cases h
 |b :: l,r,j,h=>by
  unfold pos at h;split at h
  ·rename_i e;cases h;simp[e]
  ·cases h1:pos l r with
   |none=>rw[h1]at h;cases h
   |some i=>rw[h1]at h;cases h;simpa using b3x h1
theorem c1w:∀{l:List Nat} {r:Nat},pos l r=none->r∉l
 |[],_,_=>by simp
 |b :: l,r,h=>by
  unfold pos at h;split at h
  ·cases h
  ·rename_i hne;cases h1:pos l r with
   |none=>have:=c1w h1;simp[this,Ne.symm hne]
   |some i=>rw[h1]at h;cases h
theorem e0Z{l:List Nat}(hn:l.Nodup){r j:Nat}(h:l[j]? = some r):pos l r=some j:=by
 cases h1:pos l r with
 |none=>exact absurd (List.mem_of_getElem? h) (c1w h1)
 |some i=>
  have:=b3x h1;exact congrArg some ((List.getElem?_inj (List.getElem?_eq_some_iff.1 this).1 hn).1 (this.trans h.symm))
theorem a7q{b:Nat}:∀{n r:Nat},r∈a1n b n↔b<=r/\r<b+n
 |0,r=>by simp[a1n]
 |n+1,r=>by
  simp only[a1n,List.mem_append,a7q (n:=n),List.mem_singleton];omega
theorem a6K(b:Nat):∀n,(a1n b n).Nodup
 |0=>by simp[a1n]
 |n+1=>by
  simp only[a1n];rw[List.nodup_append];refine⟨a6K b n,by simp,fun x hx y hy e=>?_⟩;have:=a7q.1 hx;have h2:y=b+n:=by simpa using hy
  omega
def a12(g:Gh)(ν:List Nat)(g':Gh):Gh:=fun r=>match pos ν r with
 |some j=>g' j
 |none=>g r
theorem a08{ν:List Nat}{g':Gh}(hn:ν.Nodup){j r:Nat}(h:ν[j]? = some r):a12 g ν g' r=g' j:=by unfold a12;rw[e0Z hn h]
theorem R4{ν:List Nat}{g':Gh}{r:Nat}(h:r∉ν):a12 g ν g' r=g r:=by
 unfold a12;split
 ·rename_i j hj;exact absurd (List.mem_of_getElem? (b3x hj)) h
 ·rfl
theorem b6V:∀{bs cs:List Sb} {ν:List Nat} {j r:Nat},cs.length=ν.length->ν[j]? = some r->(∀s,bs[j]? = some s->(∀l,s ≠ .cells l)/\(∀e,s ≠ .map e)/\∀T l,s ≠ .bld T l)->r∈a6Z bs cs ν
 |[],cs,ν,j,r,_,h,_=>by
  have:a6Z [] cs ν=ν:=by cases cs<;>rfl
  rw[this];exact List.mem_of_getElem? h
 |b :: bs,[],ν,j,r,hl,h,_=>by
  have:ν=[]:=List.eq_nil_of_length_eq_zero hl.symm;subst this;simp at h
 |b :: bs,c :: cs,[],j,r,hl,h,_=>by simp at h
 |b :: bs,c :: cs,n :: ν,0,r,hl,h,hb=>by
  have hr:n=r:=by simpa using h
  subst hr;have:=hb b rfl;cases b with
  |cells l=>exact absurd rfl (this.1 l)
  |map e=>exact absurd rfl (this.2.1 e)
  |bld T l=>exact absurd rfl (this.2.2 T l)
  |none=>exact List.mem_cons_self
  |row _ _ _=>exact List.mem_cons_self
  |iter _=>exact List.mem_cons_self
 |b :: bs,c :: cs,n :: ν,j+1,r,hl,h,hb=>by
  have ih:=b6V (bs:=bs) (cs:=cs) (ν:=ν) (j:=j) (r:=r) (by simpa using hl) (by simpa using h) (fun s hs=>hb s (by simpa using hs));cases b with
  |cells l=>exact ih
  |bld _ _=>exact ih
  |map e=>exact ih
  |none=>exact List.mem_cons_of_mem _ ih
  |row _ _ _=>exact List.mem_cons_of_mem _ ih
  |iter _=>exact List.mem_cons_of_mem _ ih
theorem B8{R:Type}[BothC R]:∀(l:List Sl) (ds:List D) {g:Gh} {st:St},Sim df G B0 M0 w0 gi g st a w->∀{k:St->Option R} {r:R},a1t l ds st k=some r->
  ∃g' st',Sim df G B0 M0 w0 gi g' st' a w/\k st'=some r/\(∀x v,RepD (u9 M0 g) w g x v->RepD (u9 M0 g') w g' x v)
 |[],ds,g,st,hs,k,r,h=>⟨g,st,hs,by cases ds<;>exact h,fun _ _ h=>h⟩
 |.v t :: l,d :: ds,g,st,hs,k,r,h=>by
  change st.softK d (fun st=>a1t l ds st k)=some r at h;have h1:∃g1 st1,Sim df G B0 M0 w0 gi g1 st1 a w/\a1t l ds st1 k=some r/\(∀x v,RepD (u9 M0 g) w g x v->RepD (u9 M0 g1) w g1 x v):=by
   obtain⟨g',st1,h1,h2,_,h3⟩:=a3G hs h;exact⟨g',st1,h1,h2,h3⟩
  obtain⟨g1,st1,h2,h3,h4⟩:=h1;obtain⟨g2,st2,h5,h6,h7⟩:=B8 l ds h2 h3;exact⟨g2,st2,h5,h6,fun x v hx=>h7 x v (h4 x v hx)⟩
 |.v t :: l,[],g,st,hs,k,r,h=>⟨g,st,hs,h,fun _ _ h=>h⟩
 |s :: l,[],g,st,hs,k,r,h=>⟨g,st,hs,by cases s<;>exact h,fun _ _ h=>h⟩
 |.dead :: l,d :: ds,g,st,hs,k,r,h=>B8 l ds hs h
 |.skip :: l,d :: ds,g,st,hs,k,r,h=>B8 l ds hs h
 |.nilS :: l,d :: ds,g,st,hs,k,r,h=>B8 l ds hs h
 |.nilP :: l,d :: ds,g,st,hs,k,r,h=>B8 l ds hs h
 |.row _ :: l,d :: ds,g,st,hs,k,r,h=>B8 l ds hs h
 |.box _ _ :: l,d :: ds,g,st,hs,k,r,h=>B8 l ds hs h
 |.at_ _ :: l,d :: ds,g,st,hs,k,r,h=>B8 l ds hs h
 |.mref _ :: l,d :: ds,g,st,hs,k,r,h=>B8 l ds hs h
 |.fnc _ _ :: l,d :: ds,g,st,hs,k,r,h=>B8 l ds hs h
theorem b2K(hs:Sim df G B0 M0 w0 gi g st a w){F:AF}{ρ ν β:List Nat}{y:BV F.bs}{z:F.R}(hn:ν.Nodup)(hl:ν.length=F.cs.length)(hρ:ρ <+: ν)(hρl:ρ.length=F.bs.length)(hge:∀r,r∈ν->r∉ρ->1000<=r)
  (hbs:∀i blk,a2T id F.bs y i=some blk->∃gx,D2 g ρ i=some gx/\RepB (Mlend M0 g β) w (D2 g ρ) gx blk)
  {w':World} {vs:List Value} {g':Gh} (hX:ExtX (Z4 (D2 g ρ)) w w') (hS:Step (Mlend M0 g β) w (y6 (Mlend M0 g β) (D2 g ρ) g') w') (hfr:Frag B0 (y6 (Mlend M0 g β) (D2 g ρ) g') w' g' F.rs F.cs (F.out z).1 (F.out z).2 vs)
  (hkeep:∀r x,D2 g ρ r=some x->(a79 x.v=true\/a4F F.bs F.cs=true)->g' r=some x) (hnew:∀b,Z4 g' b->Z4 (D2 g ρ) b\/w.heap.size<=b)
  (hgood:(∀s∈F.rs,a6U (y6 (Mlend M0 g β) (D2 g ρ) g') (u9 M0 (a12 g ν g')) w' s)/\∀s∈F.cs,b9p (y6 (Mlend M0 g β) (D2 g ρ) g') (u9 M0 (a12 g ν g')) w' s):
  Sim df G B0 M0 w0 gi (a12 g ν g') (a3Y (R5 ν) F.cs 0 (F.out z).2 (st.lift (forget (a6h F.bs F.cs ν)))) a w'/\All2 (RepD0 (u9 M0 (a12 g ν g')) w' (a12 g ν g')) (a0E (R5 ν) F.rs (F.out z).1) vs:=by
 have hname:∀{j r},ν[j]? = some r->R5 ν j=r:=fun{j r} h=>by unfold R5;rw[h]
 have hg'n:∀j x,g' j=some x->a12 g ν g' (R5 ν j)=some x:=by
  intro j x h;have hj:j<ν.length:=by rw[hl];exact hfr.dom j x h
  have h1:ν[j]? = some ν[j]:=List.getElem?_eq_getElem hj;rw[hname h1,a08 hn h1];exact h
 have hsubget:∀{j x},D2 g ρ j=some x->∃r,ρ[j]? = some r/\ν[j]? = some r/\g r=some x:=by
  intro j x h;unfold D2 at h;cases h1:ρ[j]? with
  |none=>rw[h1]at h;cases h
  |some r=>rw[h1]at h;exact⟨r,rfl,b2e hρ h1,h⟩
 have hXg:∀b,Z4 (D2 g ρ) b->∃r,r∈ρ/\∃x,g r=some x/\x.blk=some b:=by
  rintro b ⟨j,x,h1,h2⟩;obtain⟨r,h3,_,h4⟩:=hsubget h1;exact⟨r,List.mem_of_getElem? h3,x,h4,h2⟩
 have hρν:∀r,r∈ρ->r∈ν:=fun r hr=>hρ.subset hr
 have hM:∀b o,b<w.heap.size\/Z4 g' b->u9 M0 (a12 g ν g') b o->y6 (Mlend M0 g β) (D2 g ρ) g' b o\/u9 M0 g b o/\¬Z4 (D2 g ρ) b:=by
  intro b o _ h;rcases h with h|⟨r,x,h1,h2,h3⟩
  ·refine .inr ⟨.inl h,fun hx=>?_⟩;obtain⟨r,_,x,h4,h5⟩:=hXg b hx;exact hs.m0x h h4 h5
  ·by_cases hr:r∈ν
   ·obtain⟨j,hj⟩:=List.getElem?_of_mem hr;rw[a08 hn hj]at h1;exact .inl (.inr ⟨j,x,h1,h2,h3⟩)
   ·rw[R4 hr]at h1;refine .inr ⟨.inr ⟨r,x,h1,h2,h3⟩,fun hx=>?_⟩;obtain⟨r',h4,x',h5,h6⟩:=hXg b hx;have:=hs.inj _ _ _ _ _ h1 h5 h2 h6;subst this;exact hr (hρν _ h4)
 have hMl:∀b o,¬u9 M0 g b o->¬Mlend M0 g β b o:=fun b o h h'=>h h'.1
 have hstep:Step (u9 M0 g) w (u9 M0 (a12 g ν g')) w':=by
  refine⟨fun ad u hc hm=>?_,fun b es c hc hm=>?_⟩
  ·obtain⟨h1,h2⟩:=hS.1 ad u hc (hMl _ _ hm);refine⟨h1,fun h3=>?_⟩;rcases hM _ _ (.inl (World.block_lt_of_cell? w ad hc)) h3 with h4|h4
   ·exact h2 h4
   ·exact hm h4.1
  ·obtain⟨h1,h2⟩:=hS.2 b es c hc (hMl _ _ hm);refine⟨h1,fun h3=>?_⟩;rcases hM _ _ (.inl (z8 hc)) h3 with h4|h4
   ·exact h2 h4
   ·exact hm h4.1
 have hφ:∀r,r∉a6h F.bs F.cs ν->∀x,g r=some x->a12 g ν g' r=some x:=by
  intro r hr x hx;by_cases hrν:r∈ν
  ·obtain⟨j,hj⟩:=List.getElem?_of_mem hrν;rw[a08 hn hj];by_cases hk:a4F F.bs F.cs=true
   ·have hjl:j<ρ.length:=by
     rw[hρl];apply Classical.byContradiction;intro hge2;apply hr;unfold a6h;rw[hk];refine List.mem_of_getElem? (i:=j-F.bs.length) ?_;rw[List.getElem?_drop,Nat.add_sub_cancel' (by omega)];exact hj
    have hjρ:ρ[j]? = some r:=by
     have h1:ρ[j]? = some ρ[j]:=List.getElem?_eq_getElem hjl;have h2:=b2e hρ h1;rw[hj]at h2;rw[h1];exact h2.symm
    have hsub:D2 g ρ j=some x:=by simp only[D2,hjρ,Option.bind_some];exact hx
    exact hkeep j x hsub (.inr hk)
   have hr:r∉a6Z F.bs F.cs ν:=by
    unfold a6h at hr;rw[Bool.eq_false_iff.2 hk]at hr;exact hr
   have hsh:∃s,F.bs[j]? = some s/\((∃l,s = .cells l)\/(∃e,s = .map e)\/∃T l,s = .bld T l):=by
    by_cases h1:∃s,F.bs[j]? = some s/\((∃l,s = .cells l)\/(∃e,s = .map e)\/∃T l,s = .bld T l)
    ·exact h1
    ·refine absurd (b6V hl.symm hj fun s hs=>⟨fun l e=>h1 ⟨s,hs,.inl ⟨l,e⟩⟩,fun e e'=>h1 ⟨s,hs,.inr (.inl ⟨e,e'⟩)⟩,fun T l e'=>h1 ⟨s,hs,.inr (.inr ⟨T,l,e'⟩)⟩⟩) hr
   obtain⟨s,hs1,hs2⟩:=hsh;have hjl:j<ρ.length:=by rw[hρl];exact(List.getElem?_eq_some_iff.1 hs1).1
   have hjρ:ρ[j]? = some r:=by
    have h1:ρ[j]? = some ρ[j]:=List.getElem?_eq_getElem hjl;have h2:=b2e hρ h1;rw[hj]at h2;rw[h1];exact h2.symm
   have hsub:D2 g ρ j=some x:=by simp only[D2,hjρ,Option.bind_some];exact hx
   refine hkeep j x hsub (.inl ?_);have hblk:∃blk,a2T id F.bs y j=some blk/\((∃l,blk = .cells l)\/(∃e m,blk = .map e m)\/∃T l,blk = .bld T l):=by
    have gen:∀(l:List Sb) (y:BV l) (j:Nat),l[j]? = some s->∃blk,a2T id l y j=some blk/\((∃l,blk = .cells l)\/(∃e m,blk = .map e m)\/∃T l,blk = .bld T l):=by
     intro l;induction l with
     |nil=>intro y j h;simp at h
     |cons s' l ih=>
      intro y j h;cases j with
      |zero=>
       have:s'=s:=by simpa using h
       subst this;rcases hs2 with⟨l,rfl⟩|⟨e,rfl⟩|⟨T,l,rfl⟩
       ·exact⟨_,rfl,.inl ⟨_,rfl⟩⟩
       ·exact⟨_,rfl,.inr (.inl ⟨_,_,rfl⟩)⟩
       ·exact⟨_,rfl,.inr (.inr ⟨_,_,rfl⟩)⟩
      |succ j=>exact ih y.2 j (by simpa using h)
    exact gen F.bs y j hs1
   obtain⟨blk,hb1,hb2⟩:=hblk;obtain⟨gx,h3,h4⟩:=hbs j blk hb1;rw[hsub]at h3;cases h3;rcases hb2 with⟨l,rfl⟩|⟨e,m,rfl⟩|⟨T,l,rfl⟩
   ·obtain⟨b,vs,el,e,_⟩:=h4;rw[e];rfl
   ·obtain⟨b,es,c,e,_⟩:=h4;rw[e];rfl
   ·obtain⟨b,p,vs,e,_⟩:=h4;rw[e];rfl
  ·rw[R4 hrν];exact hx
 have hother:∀r x b,r∉ν->g r=some x->x.blk=some b->w'.heap[b]? = w.heap[b]?:=by
  intro r x b hr h1 h2;refine hX.block b (hs.low _ _ _ h1 h2).2.1 fun hx=>?_
  obtain⟨r',h4,x',h5,h6⟩:=hXg b hx;have:=hs.inj _ _ _ _ _ h1 h5 h2 h6;subst this;exact hr (hρν _ h4)
 have hinj':∀i i',i<F.cs.length->i'<F.cs.length->i'≠i->R5 ν i'≠R5 ν i:=by
  intro i i' hi hi' hne e;have h1:ν[i]? = some ν[i]:=List.getElem?_eq_getElem (by omega);have h2:ν[i']? = some ν[i']:=List.getElem?_eq_getElem (by omega);rw[hname h1,hname h2]at e;exact hne ((List.getElem?_inj (by omega) hn).1 (by rw[h1,h2,e]))
 have hres:All2 (RepD0 (u9 M0 (a12 g ν g')) w' (a12 g ν g')) (a0E (R5 ν) F.rs (F.out z).1) vs:=a7p hg'n hgood.1 hfr.args;refine⟨{defers:=hs.defers,sz:=?_,inb:=fun t d h=>by rw[(a4H (R5 ν) F.cs 0 (F.out z).2 _).1]at h;obtain⟨d0,h1,_⟩:=a30 h;rw[(a4H (R5 ν) F.cs 0 (F.out z).2 _).2];exact hs.inb t d0 h1,fr:=?_,hp:=?_,low:=?_,inj:=?_,row:=?_,m0:=hs.m0,pin:=?_,gin:=hs.gin,gil:=hs.gil,ext:=?_,stp:=hs.stp.trans hstep,gg:=hs.gg,b0:=hs.b0},hres⟩
 ·rw[(a4H (R5 ν) F.cs 0 (F.out z).2 _).2];exact hs.sz
 ·intro t d h;rw[(a4H (R5 ν) F.cs 0 (F.out z).2 _).1]at h;obtain⟨d0,h1,rfl⟩:=a30 h;exact RepD.lift (fun d v hd=>RepD0.forget' hstep hφ hd) (fun _ _=>rfl) (hs.fr t d0 h1)
 ·intro r blk h;by_cases hr:r∈ν
  ·obtain⟨j,hj⟩:=List.getElem?_of_mem hr;have hjl:j<F.cs.length:=by rw[<-hl];exact(List.getElem?_eq_some_iff.1 hj).1
   have h1:=b3p (R5 ν) F.cs 0 (F.out z).2 (st.lift (forget (a6h F.bs F.cs ν))) j hjl (fun i' hi' hne=>by rw[Nat.zero_add,Nat.zero_add];exact hinj' j i' hjl hi' hne);rw[Nat.zero_add,hname hj,h]at h1;obtain⟨_,blk',h2⟩:=c0A h1.symm;obtain⟨gx,h3,h4⟩:=hfr.res j blk' h2;refine⟨gx,by rw[a08 hn hj];exact h3,?_⟩;refine b2T hg'n hgood.2 (i:=j) h1.symm (f:=fun _=>gx) fun blk'' h5=>⟨gx,rfl,?_⟩
   rw[h2]at h5;cases h5;exact h4
  ·rw[a2u (R5 ν) F.cs 0 (F.out z).2 _ (fun i hi e=>hr (by
    rw[Nat.zero_add]at e;have h1:ν[i]? = some ν[i]:=List.getElem?_eq_getElem (by omega);rw[hname h1]at e;rw[<-e];exact List.getElem_mem _))]at h
   obtain⟨b0,h1,rfl⟩:=a9x h;obtain⟨x,h2,h3⟩:=hs.hp _ _ h1;refine⟨x,by rw[R4 hr];exact h2,?_⟩;have hb:=fun b (e:x.blk=some b)=>hother r x b hr h2 e
   cases b0 with
   |cells ds=>
    obtain⟨b,vs,el,e,h4,h5⟩:=h3;exact⟨b,vs,el,e,(hb b (by rw[e])).trans h4,h5.mapL (forget (a6h F.bs F.cs ν)) fun _ _ hd=>RepD0.forget' hstep hφ hd⟩
   |bld T ds=>
    obtain⟨b,p,vs,e,h4,h0,h5⟩:=h3;exact⟨b,p,vs,e,(hb b (by rw[e])).trans h4,h0,h5.mapL (forget (a6h F.bs F.cs ν)) fun _ _ hd=>RepD0.forget' hstep hφ hd⟩
   |map e m=>
    obtain⟨b,es,c,e,h4,h5,hsp⟩:=h3;exact⟨b,es,c,e,(hb b (by rw[e])).trans h4,h5.mono fun _ _ ⟨h6,h7⟩=>⟨h6,h7.step hstep⟩,hsp⟩
   |row e t ex xs=>
    obtain⟨hz,cs,h4,h5,h6,h7⟩:=h3;refine⟨hz,cs,⟨h4.1,?_⟩,h5,h6,fun i hi=>RepC.step hstep _ _ _ (h7 i hi)⟩;rcases h4.2 with h0|⟨gg,cap,cur,h8,h9,h10,h11⟩
    ·exact .inl h0
    ·exact .inr ⟨gg,cap,cur,h8,h9,(hb gg (by rw[h5,h8];rfl)).trans h10,h11⟩
   |iter e l cur=>exact RepB.step (blk:= .iter e l cur) hstep hb h3
 ·intro r x b h1 h2;by_cases hr:r∈ν
  ·obtain⟨j,hj⟩:=List.getElem?_of_mem hr;rw[a08 hn hj]at h1;obtain⟨h3,h4⟩:=hfr.low _ _ _ h1 h2;refine⟨h3,h4,?_⟩;rcases hnew b ⟨j,x,h1,h2⟩with h5|h5
   ·obtain⟨r',h6,x',h7,h8⟩:=hXg b h5;exact(hs.low _ _ _ h7 h8).2.2
   ·exact .inr (Nat.le_trans hs.size h5)
  ·rw[R4 hr]at h1;have:=hs.low _ _ _ h1 h2;exact⟨this.1,Nat.lt_of_lt_of_le this.2.1 hX.size,this.2.2⟩
 ·have key:∀r1 j x1 x2 b,r1∉ν->g r1=some x1->g' j=some x2->x1.blk=some b->x2.blk=some b->False:=by
   intro r1 j x1 x2 b hr h1 h2 h3 h4;rcases hnew b ⟨j,x2,h2,h4⟩with h5|h5
   ·obtain⟨r',h6,x',h7,h8⟩:=hXg b h5;have:=hs.inj _ _ _ _ _ h1 h7 h3 h8;subst this;exact hr (hρν _ h6)
   ·have:=(hs.low _ _ _ h1 h3).2.1;omega
  intro r1 r2 x1 x2 b h1 h2 h3 h4;by_cases hr1:r1∈ν<;>by_cases hr2:r2∈ν
  ·obtain⟨j1,hj1⟩:=List.getElem?_of_mem hr1;obtain⟨j2,hj2⟩:=List.getElem?_of_mem hr2;rw[a08 hn hj1]at h1;rw[a08 hn hj2]at h2;have:=hfr.inj _ _ _ _ _ h1 h2 h3 h4;subst this;rw[hj1]at hj2;injection hj2
  ·obtain⟨j1,hj1⟩:=List.getElem?_of_mem hr1;rw[a08 hn hj1]at h1;rw[R4 hr2]at h2;exact(key _ _ _ _ _ hr2 h2 h1 h4 h3).elim
  ·obtain⟨j2,hj2⟩:=List.getElem?_of_mem hr2;rw[a08 hn hj2]at h2;rw[R4 hr1]at h1;exact(key _ _ _ _ _ hr1 h1 h2 h3 h4).elim
  ·rw[R4 hr1]at h1;rw[R4 hr2]at h2;exact hs.inj _ _ _ _ _ h1 h2 h3 h4
 ·intro r x b h1 h2 h3;by_cases hr:r∈ν
  ·obtain⟨j,hj⟩:=List.getElem?_of_mem hr;rw[a08 hn hj]at h1;exact hfr.row _ _ _ h1 h2 h3
  ·rw[R4 hr]at h1;rw[hother r x b hr h1 h2];exact hs.row _ _ _ h1 h2 h3
 ·intro r x h1 h2;have h3:=hs.pin r x h1 h2;by_cases hr:r∈ν
  ·obtain⟨j,hj⟩:=List.getElem?_of_mem hr;rw[a08 hn hj];by_cases hρm:r∈ρ
   ·obtain⟨i,hi⟩:=List.getElem?_of_mem hρm;have hij:ν[i]? = some r:=b2e hρ hi;have:i=j:=(List.getElem?_inj (List.getElem?_eq_some_iff.1 hij).1 hn).1 (hij.trans hj.symm);subst this;exact hkeep i x (by simp only[D2,hi,Option.bind_some];exact h3) (.inl h2)
   ·have:=hge r hr hρm;have:=hs.gin r x h1 h2;omega
  ·rw[R4 hr];exact h3
 ·refine hs.ext.trans hX fun n hn' hx=>?_
  obtain⟨r,_,x,h4,h5⟩:=hXg n hx;rcases(hs.low _ _ _ h4 h5).2.2 with h6|h6
  ·exact h6
  ·omega
end
end
section
section
variable{P:Program}{df:List Deferred}{G:World->Prop}{B0:Nat}{E:Env}{M:Nat->Nat->Prop}{M0:Nat->Nat->Prop}{w0:World}{gi g:Gh}{st:St}{a:Act}{w:World}
theorem b3H{M:Nat->Nat->Prop}:∀{ds:List D} {vs:List Value},All2 (RepD0 M w g) ds vs->RepD M w g (d4k ds) (b12 vs)
 |[],[],_=>⟨#[],rfl,trivial⟩
 |[d],[v],h=>h.1.toD
 |d :: d' :: ds,v :: v' :: vs,h=>by
  have e:b12 (v :: v' :: vs) = .tuple (v :: v' :: vs).toArray:=dif_neg (by simp);rw[e];exact⟨_,rfl,h⟩
 |[],_ :: _,h=>h.elim
 |_ :: _,[],h=>h.elim
 |[_],_ :: _ :: _,h=>h.2.elim
 |_ :: _ :: _,[_],h=>h.2.elim
theorem a4A{M' M'':Nat->Nat->Prop}{t:Ty}(h:b3e t=true):c4g M' M'' w t:=by
 intro x cs hr;cases t<;>first|exact hr|cases h
theorem c6e(hs:Sim df G B0 M0 w0 gi g st a w){ρ ν β:List Nat}{g':Gh}(hn:ν.Nodup)(hρ:ρ <+: ν){b o:Nat}(h:u9 M0 (a12 g ν g') b o):y6 (Mlend M0 g β) (D2 g ρ) g' b o\/u9 M0 g b o/\¬Z4 (D2 g ρ) b:=by
 have hXg:∀b,Z4 (D2 g ρ) b->∃r,r∈ρ/\∃x,g r=some x/\x.blk=some b:=by
  rintro b ⟨j,x,h1,h2⟩;unfold D2 at h1;cases h3:ρ[j]? with
  |none=>rw[h3]at h1;cases h1
  |some r=>rw[h3]at h1;exact⟨r,List.mem_of_getElem? h3,x,h1,h2⟩
 rcases h with h|⟨r,x,h1,h2,h3⟩
 ·refine .inr ⟨.inl h,fun hx=>?_⟩;obtain⟨r,_,x,h4,h5⟩:=hXg b hx;exact hs.m0x h h4 h5
 ·by_cases hr:r∈ν
  ·obtain⟨j,hj⟩:=List.getElem?_of_mem hr;rw[a08 hn hj]at h1;exact .inl (.inr ⟨j,x,h1,h2,h3⟩)
  ·rw[R4 hr]at h1;refine .inr ⟨.inr ⟨r,x,h1,h2,h3⟩,fun hx=>?_⟩;obtain⟨r',h4,x',h5,h6⟩:=hXg b hx;have:=hs.inj _ _ _ _ _ h1 h5 h2 h6;subst this;exact hr (hρ.subset h4)
theorem b3l(hs:Sim df G B0 M0 w0 gi g st a w){F:AF}{ρ ν β:List Nat}{g':Gh}{w':World}(hn:ν.Nodup)(hρ:ρ <+: ν)(hX:ExtX (Z4 (D2 g ρ)) w w')(hρl:ρ.length=F.bs.length)(hl:(β.isEmpty||a1I st F ρ β)=true):
  (∀s∈F.rs,a6U (y6 (Mlend M0 g β) (D2 g ρ) g') (u9 M0 (a12 g ν g')) w' s)/\∀s∈F.cs,b9p (y6 (Mlend M0 g β) (D2 g ρ) g') (u9 M0 (a12 g ν g')) w' s:=by
 by_cases hb:β=[]
 ·subst hb;have hsub:∀b o,u9 M0 (a12 g ν g') b o->y6 (Mlend M0 g []) (D2 g ρ) g' b o:=fun b o h=>by
   rcases c6e hs (β:=[]) hn hρ h with h|h
   ·exact h
   ·exact .inl ⟨⟨h.1,fun⟨_,h',_⟩=>by cases h'⟩,h.2⟩
  have hst:Step (y6 (Mlend M0 g []) (D2 g ρ) g') w' (u9 M0 (a12 g ν g')) w':=⟨fun _ _ h hm=>⟨h,fun h'=>hm (hsub _ _ h')⟩,fun _ _ _ h hm=>⟨h,fun h'=>hm (hsub _ _ h')⟩⟩;have hG:∀t,c4g (y6 (Mlend M0 g []) (D2 g ρ) g') (u9 M0 (a12 g ν g')) w' t:=fun t x cs h=>RepC.step hst _ _ _ h
  have hP:c4h (y6 (Mlend M0 g []) (D2 g ρ) g') (u9 M0 (a12 g ν g')) w':=fun ad cs h=>h.step hst
  have hsl:∀s,a6U (y6 (Mlend M0 g []) (D2 g ρ) g') (u9 M0 (a12 g ν g')) w' s:=fun s=>by
   cases s<;>first|exact hG _|exact⟨hG _,hP⟩|trivial
  exact⟨fun s _=>hsl s,fun s _=>by cases s<;>first|exact hG _|exact fun s _=>hsl s|trivial⟩
 ·have hml:a1I st F ρ β=true:=by
   have:β.isEmpty=false:=by cases β<;>first|exact absurd rfl hb|rfl
   rw[this]at hl;exact hl
  unfold a1I at hml;split at hml
  ·rename_i hbs;have hρ0:ρ=[]:=List.eq_nil_of_length_eq_zero (by rw[hρl,hbs];rfl);subst hρ0;have hXn:∀b,¬Z4 (D2 g []) b:=by rintro b ⟨j,x,h1,_⟩;simp[D2]at h1
   rw[List.all_eq_true]at hml;by_cases hall:∀r,r∈β->∃e m,v6 st.hp r=some (.map e m)
   ·
    obtain⟨r0,hr0⟩:=List.exists_mem_of_ne_nil _ hb;obtain⟨e0,m0,h0⟩:=hall r0 hr0;have h1:=hml r0 hr0;rw[h0]at h1;simp only[Bool.and_eq_true,List.all_eq_true]at h1;have hC:∀ad u,w'.cell? ad=some u->¬y6 (Mlend M0 g β) (D2 g []) g' ad.block ad.off->w'.cell? ad=some u/\¬u9 M0 (a12 g ν g') ad.block ad.off:=by
     refine fun ad u hc hm=>⟨hc,fun h=>?_⟩
     rcases c6e hs (β:=β) hn hρ h with h|h
     ·exact hm h
     ·refine hm (.inl ⟨⟨h.1,?_⟩,h.2⟩);rintro⟨r,hr,x,h2,h3⟩;obtain⟨e,m,h4⟩:=hall r hr;obtain⟨gx,h5,b,es,c,h6,h7,_⟩:=hs.hp _ _ h4;rw[h2]at h5;cases h5;rw[h6]at h3;have hbb:b=ad.block:=by simpa using h3
      have:=(hX.block b (z8 h7) (hXn b)).trans h7;rw[hbb]at this;simp[World.cell?,this]at hc
    have hG:∀t,a1E t=false->c4g (y6 (Mlend M0 g β) (D2 g []) g') (u9 M0 (a12 g ν g')) w' t:=fun t ht x cs h=>RepC.stepC hC _ _ _ ht h
    have hP:c4h (y6 (Mlend M0 g β) (D2 g []) g') (u9 M0 (a12 g ν g')) w':=fun ad cs h j u hu=>let ⟨a,b⟩:=h j u hu;hC _ _ a b
    have hsl:∀s,Sl.noMap s=true->a6U (y6 (Mlend M0 g β) (D2 g []) g') (u9 M0 (a12 g ν g')) w' s:=fun s hs=>by
     cases s<;>first|exact hG _ (by simpa [Sl.noMap]using hs)|exact⟨hG _ (by simpa [Sl.noMap]using hs),hP⟩|trivial
    refine⟨fun s hs=>hsl s (h1.1 s hs),fun s hs=>?_⟩;have h2:=h1.2 s hs;cases s with
    |none=>trivial
    |cells l=>exact fun s hs=>hsl s (List.all_eq_true.1 h2 s hs)
    |map e=>exact hG _ (by simpa [Sb.noMap]using h2)
    |row e t ex=>exact hG _ (by simpa [Sb.noMap]using h2)
    |iter e=>exact absurd h2 (by simp[Sb.noMap])
    |bld T l=>exact absurd h2 (by simp[Sb.noMap])
   ·
    obtain⟨r0,h2⟩:=Classical.not_forall.1 hall;obtain⟨hr0,h3⟩:=Classical.not_imp.1 h2;have h1:=hml r0 hr0;have h4:(F.rs.all Sl.flat&&F.cs.isEmpty)=true:=by
     split at h1
     ·rename_i e m h5;exact absurd ⟨e,m,h5⟩ h3
     ·exact h1
    simp only[Bool.and_eq_true,List.all_eq_true,List.isEmpty_iff]at h4;refine⟨fun s hs=>?_,fun s hs=>by rw[h4.2]at hs;cases hs⟩;have h5:=h4.1 s hs;cases s<;>first|exact a4A h5|trivial|cases h5
  ·simp only[Bool.and_eq_true,List.all_eq_true]at hml;obtain⟨⟨_,h1⟩,h2⟩:=hml;refine⟨fun s hs=>?_,fun s hs=>?_⟩
   ·have h5:=h1 s hs;cases s<;>first|exact a4A h5|trivial|cases h5
   ·have h5:=h2 s hs;cases s with
    |none=>trivial
    |cells l=>
     intro s' hs';have h6:=List.all_eq_true.1 h5 s' hs';cases s'<;>first|exact a4A h6|trivial|cases h6
    |map e=>exact a4A h5
    |row e t ex=>exact a4A h5
    |iter e=>cases h5
    |bld T l=>cases h5
theorem RepD0.freezeM{M':Nat->Nat->Prop}{r b:Nat}{gx:GB}(hg:g r=some gx)(hgv:gx.v = .map (some b))(hst:Step M w M' w){e:Ty}{m:List (List UInt8×e.den)}{es:Array MapEntry}{c:Nat}(hb:w.heap[b]? = some (.map es c))(hnot:¬M' b 0)
  (ha:All2 (fun x y=>y.key = .string ⟨x.1.toArray⟩/\RepV M' w e x.2 y.val) m es.toList) (hsp:MapKept.Stamped es c) {d:D} {v:Value} (h:RepD0 M w g d v):RepD0 M' w (g.set r none) (Go.Proofs.YtckdohagilcloaaGreatDoor.freezeM r e m d) v:=by
 cases d with
 |mref r'=>
  show RepD0 _ _ _ (match Nat.beq r' r with|true=> .v (.mp e) m|false=> .mref r') v;obtain⟨x,b',h1,h1',rfl⟩:=h;cases hr:Nat.beq r' r with
  |true=>
   have:=Nat.eq_of_beq_eq_true hr;subst this;rw[hg]at h1;cases h1;have e1:b'=b:=by rw[hgv]at h1';simpa using h1'.symm
   subst e1;exact⟨[.map (some b')],⟨b',es,c,rfl,hb,hnot,ha.mono fun _ _ ⟨h6,cs,h7,h8⟩=>⟨h6,cs,h7,h8⟩,hsp⟩,rfl⟩
  |false=>exact⟨x,b',(Gh.set_other _ _ fun e=>by subst e;simp at hr).trans h1,h1',rfl⟩
 |_=>exact RepD0.forget (l:=[r]) hst (fun i hi=>Gh.set_other _ _ fun e=>hi (by simp[e])) h
theorem b3i{R:Type}[BothC R]:∀(l:List Nat) (ds:List D) {vs:List Value} {g:Gh} {st:St} {k:List D->St->Option R} {r:R},Sim df G B0 M0 w0 gi g st a w->All2 (RepD (u9 M0 g) w g) ds vs->e0M l ds st k=some r->
  ∃g' st' ds',Sim df G B0 M0 w0 gi g' st' a w/\All2 (RepD (u9 M0 g') w g') ds' vs/\k ds' st'=some r
 |[],ds,vs,g,st,k,r,hs,hd,h=>⟨g,st,ds,hs,hd,h⟩
 |q :: l,ds,vs,g,st,k,r,hs,hd,h=>by
  unfold e0M at h;split at h
  ·cases h
  ·rename_i hlt;split at h
   ·rename_i e m hcs;simp only[a0W,a6E,a1H]at h;obtain⟨gx',hg,b,es,c,e1,h1,h2,h3⟩:=hs.hp _ _ hcs;have hr:1000<=q:=by
     rcases Nat.lt_or_ge q 1000 with h|h
     ·rw[show Nat.blt q 1000=true from by rw[Nat.blt_eq];exact h]at hlt;cases hlt
     ·exact h
    have hgv:gx'.v = .map (some b):=by rw[e1]
    have hnot:¬u9 M0 (g.set q none) b 0:=by
     intro h;rcases h with h|⟨r'',y,k1,k2,k3⟩
     ·exact hs.m0x h hg (by rw[e1])
     ·by_cases hq:r''=q
      ·subst hq;rw[Gh.set_same]at k1;cases k1
      ·rw[Gh.set_other _ _ hq]at k1;exact hq (hs.inj _ _ _ _ _ k1 hg k2 (by rw[e1]))
    have hstep:Step (u9 M0 g) w (u9 M0 (g.set q none)) w:=by
     have ht:Turn g q none w w:=⟨rfl,rfl,rfl,Nat.le_refl _,fun _ _ _=>rfl,fun z b h=>(by cases h),fun x b _ _ _=>⟨fun _ _ _ _ h=>h,fun z h=>(by cases h)⟩,fun z b h=>(by cases h)⟩;exact ht.step hs
    have hs':=hs.gone (r:=q) (fun x h1 h2=>absurd (hs.gin _ _ h1 h2) (by omega)) (φ:=Go.Proofs.YtckdohagilcloaaGreatDoor.freezeM q e m) (fun d v hst hd=>RepD0.freezeM hg hgv hst h1 hnot (h2.mono fun _ _ ⟨a,b⟩=>⟨a,b.step hst⟩) h3 hd) fun _ _=>rfl
    refine b3i l _ hs' (hd.mapL _ fun d v hd=>RepD.lift (fun d v hd=>RepD0.freezeM hg hgv hstep h1 hnot (h2.mono fun _ _ ⟨a,b⟩=>⟨a,b.step hstep⟩) h3 hd) (fun _ _=>rfl) hd) h
   ·cases h
theorem b6h{R:Type}[BothC R](hE:EnvOk P G B0 E){o:Oper}{k:St->Option R}{r:R}{K:Act->World->Prop}{Q:Exit->Act->World->Prop}(hs:Sim df G B0 M0 w0 gi g st a w)(hK:S6 df G B0 M0 w0 gi k r K)
  {f:FuncId} {F:AF} (hF:Sound P G B0 f F) {ds:List D} {vs:List Value} (hds:All2 (RepD (u9 M0 g) w g) ds vs) (hex:(∀w,(callFunc f vs.toArray).run P w = .ok (.enter f vs.toArray) w)->(execOp a.eval o).run P w = .ok (.enter f vs.toArray) w)
  (h:(b5Y st F.ps ds [] [] fun x ρ β=>b5W st F.bs 0 ρ β fun y ρ β=>
   match β.isEmpty||a1I st F ρ β,Nat.beq ρ.length F.bs.length with
   |true,true=>k8 (F.f x y) fun z=>
    (fun ν=>match ρ.any (w9 (a1n (100000+100*(match o.dst with|some t=>t|none=>0)) (F.cs.length-F.bs.length))),Nat.beq ν.length F.cs.length with
     |false,true=>st.liftK (forget (a6h F.bs F.cs ν)) fun st=>a6I (R5 ν) F.cs 0 (F.out z).2 st fun st=>
       a8N id (a0E (R5 ν) F.rs (F.out z).1) fun l=>st.putK o.dst (d4k l) k
     |_,_=>none)
     (ρ++a1n (100000+100*(match o.dst with|some t=>t|none=>0)) (F.cs.length-F.bs.length))
   |_,_=>none)=some r):o.wp P a w K Q:=by
 obtain⟨x,ρ1,β1,h1,_,hn1,_,hx⟩:=a1g hs F.ps ds vs hds List.nodup_nil h;obtain⟨y,ρ,β,h2,hp2,hn2,hβ2,hy⟩:=a5f hs F.bs 0 hn1 h1;split at h2
 ·rename_i hlend hlen;have hρl:=Nat.eq_of_beq_eq_true hlen;obtain⟨z,hz,h3⟩:=F9 h2;dsimp only at h3;generalize hb:100000+100*(match o.dst with|some t=>t|none=>0)=b at h3;generalize hm:F.cs.length-F.bs.length=m at h3;have hbge:1000<=b:=by rw[<-hb];exact Nat.le_trans (by decide) (Nat.le_add_right 100000 _)
  split at h3
  ·rename_i hdis hνl;have hνl':=Nat.eq_of_beq_eq_true hνl;simp only[a0W,a4G,a1H,List.map_id,F5]at h3;obtain⟨hcf,hcalls⟩:=hF;have hGw:G w:=hE.stable _ _ _ hs.gg hs.ext hs.gil;have hdis':∀q,q∈ρ->q∉a1n b m:=by
    intro q hq hq2;have:=List.any_eq_false.1 hdis q hq;exact this (C0.2 hq2)
   have hνn:(ρ++a1n b m).Nodup:=by
    rw[List.nodup_append];exact⟨hn2,a6K _ _,fun p hp q hq e=>hdis' p hp (e▸hq)⟩
   have hβρ:∀r,r∈β->r∉ρ:=by
    intro r hr hr2;have:β.isEmpty=false:=by
     cases β with
     |nil=>cases hr
     |cons _ _=>rfl
    rw[this]at hlend;change a1I st F ρ β=true at hlend;unfold a1I at hlend;split at hlend
    ·rename_i e;have:ρ=[]:=List.eq_nil_of_length_eq_zero (by rw[hρl,e];rfl);subst this;cases hr2
    ·simp only[Bool.and_eq_true,Bool.not_eq_true']at hlend;exact List.any_eq_false.1 hlend.1.1 r hr (C0.2 hr2)
   have hargs:=hx ρ β hp2 hβ2;have hres:=fun i blk=>hy ρ β (List.prefix_refl _) (fun _ h=>h) i blk
   simp only[Nat.zero_add]at hres;have hfrag:=b8P hs hn2 hρl hβρ hargs hres;have hcall:=hcalls _ w _ vs x y z hGw (Nat.le_trans hs.b0 hs.size) hfrag hz;unfold Oper.wp;rw[hex (hcf vs.toArray),Oper.upon_enter];refine hcall.mono ?_;rintro e w' ⟨vs',g',rfl,hX,hS,hfr,hkeep,hnew⟩;obtain⟨hsim,hrs⟩:=b2K (z:=z) hs hνn hνl' (List.prefix_append _ _) hρl (fun q hq hq2=>by
    rcases List.mem_append.1 hq with h|h
    ·exact absurd h hq2
    ·exact Nat.le_trans hbge (a7q.1 h).1) hres hX hS hfr hkeep hnew (b3l hs hνn (List.prefix_append _ _) hX hρl hlend)
   exact hK _ _ _ _ (hsim.put _ (b3H hrs)) h3
  ·cases h3
 ·cases h2
theorem c0F{R:Type}[BothC R](hE:EnvOk P G B0 E){o:Oper}{k:St->Option R}{r:R}{K:Act->World->Prop}{Q:Exit->Act->World->Prop}{g:Gh}{st:St}(hs:Sim df G B0 M0 w0 gi g st a w)(hK:S6 df G B0 M0 w0 gi k r K)
  {f:FuncId} {F:AF} (hF:Sound P G B0 f F) {ds:List D} {vs:List Value} (hds:All2 (RepD (u9 M0 g) w g) ds vs) (hex:(∀w,(callFunc f vs.toArray).run P w = .ok (.enter f vs.toArray) w)->(execOp a.eval o).run P w = .ok (.enter f vs.toArray) w)
  (h:c0E F st o.dst ds k=some r):o.wp P a w K Q:=by
 unfold c0E at h;dsimp only at h;split at h
 ·exact b6h hE hs hK hF hds hex h
 ·obtain⟨g',st',hs',h',hd'⟩:=B8 F.ps ds hs h;exact b6h hE hs' hK hF (hds.mono fun d v hd=>hd' d v hd) hex h'
theorem b20{R:Type}[BothC R](hE:EnvOk P G B0 E){o:Oper}{k:St->Option R}{r:R}{K:Act->World->Prop}{Q:Exit->Act->World->Prop}(hs:Sim df G B0 M0 w0 gi g st a w)(hK:S6 df G B0 M0 w0 gi k r K)(hP:a88 df G B0 E.bad M0 w0 gi r Q)
  {f:FuncId} {F:PF} (hF:SoundP P G B0 E.bad f F) {ds:List D} {vs:List Value} (hds:All2 (RepD (u9 M0 g) w g) ds vs) (hex:(∀w,(callFunc f vs.toArray).run P w = .ok (.enter f vs.toArray) w)->(execOp a.eval o).run P w = .ok (.enter f vs.toArray) w)
  (h:(b5Y st F.ps ds [] [] fun x ρ β=>b5W st F.bs 0 ρ β fun y ρ β=>
   match β.isEmpty||a1I st F.af ρ β,Nat.beq ρ.length F.bs.length with
   |true,true=>d3e (fun c=>BothC.pa c ρ st) (F.f x y) fun z=>
    (fun ν=>match ρ.any (w9 (a1n (100000+100*(match o.dst with|some t=>t|none=>0)) (F.cs.length-F.bs.length))),Nat.beq ν.length F.cs.length with
     |false,true=>st.liftK (forget (a6h F.bs F.cs ν)) fun st=>a6I (R5 ν) F.cs 0 (F.out z).2 st fun st=>
       a8N id (a0E (R5 ν) F.rs (F.out z).1) fun l=>st.putK o.dst (d4k l) k
     |_,_=>none)
     (ρ++a1n (100000+100*(match o.dst with|some t=>t|none=>0)) (F.cs.length-F.bs.length))
   |_,_=>none)=some r):o.wp P a w K Q:=by
 obtain⟨x,ρ1,β1,h1,_,hn1,_,hx⟩:=a1g hs F.ps ds vs hds List.nodup_nil h;obtain⟨y,ρ,β,h2,hp2,hn2,hβ2,hy⟩:=a5f hs F.bs 0 hn1 h1;split at h2
 ·rename_i hlend hlen;have hρl:=Nat.eq_of_beq_eq_true hlen;obtain⟨hcf,hcalls⟩:=hF;have hGw:G w:=hE.stable _ _ _ hs.gg hs.ext hs.gil;have hβρ:∀r,r∈β->r∉ρ:=by
   intro r hr hr2;have:β.isEmpty=false:=by
    cases β with
    |nil=>cases hr
    |cons _ _=>rfl
   rw[this]at hlend;change a1I st F.af ρ β=true at hlend;unfold a1I at hlend;split at hlend
   ·rename_i e;have:ρ=[]:=List.eq_nil_of_length_eq_zero (by rw[hρl];show F.af.bs.length=0;rw[e];rfl);subst this;cases hr2
   ·simp only[Bool.and_eq_true,Bool.not_eq_true']at hlend;exact List.any_eq_false.1 hlend.1.1 r hr (C0.2 hr2)
  have hargs:=hx ρ β hp2 hβ2;have hres:=fun i blk=>hy ρ β (List.prefix_refl _) (fun _ h=>h) i blk
  simp only[Nat.zero_add]at hres;have hfrag:=b8P hs hn2 hρl hβρ hargs hres;obtain⟨hcall1,hcall2⟩:=hcalls _ w _ vs x y hGw (Nat.le_trans hs.b0 hs.size) hfrag;rcases b8H h2 with⟨z,hz,h3⟩|⟨c,hz,h3⟩
  case inr=>
   unfold Oper.wp;rw[hex (hcf vs.toArray),Oper.upon_enter];refine(hcall2 c hz).mono ?_;rintro e w' ⟨rfl,hX,hS⟩;refine hP c ρ g st a w w' hs (hX.wider fun b hb=>?_) ⟨fun ad u hc hm=>?_,fun b es cc hc hm=>?_⟩ h3
   ·obtain⟨j,x,h4,h5⟩:=hb;unfold D2 at h4;cases h6:ρ[j]? with
    |none=>rw[h6]at h4;cases h4
    |some r'=>
     rw[h6]at h4;exact⟨r',x,List.mem_of_getElem? h6,h4,h5⟩
   ·exact⟨(hS.1 ad u hc fun h'=>hm h'.1).1,hm⟩
   ·exact⟨(hS.2 b es cc hc fun h'=>hm h'.1).1,hm⟩
  dsimp only at h3;generalize hb:100000+100*(match o.dst with|some t=>t|none=>0)=b at h3;generalize hm:F.cs.length-F.bs.length=m at h3;have hbge:1000<=b:=by rw[<-hb];exact Nat.le_trans (by decide) (Nat.le_add_right 100000 _)
  split at h3
  ·rename_i hdis hνl;have hνl':=Nat.eq_of_beq_eq_true hνl;simp only[a0W,a4G,a1H,List.map_id,F5]at h3;have hdis':∀q,q∈ρ->q∉a1n b m:=by
    intro q hq hq2;have:=List.any_eq_false.1 hdis q hq;exact this (C0.2 hq2)
   have hνn:(ρ++a1n b m).Nodup:=by
    rw[List.nodup_append];exact⟨hn2,a6K _ _,fun p hp q hq e=>hdis' p hp (e▸hq)⟩
   unfold Oper.wp;rw[hex (hcf vs.toArray),Oper.upon_enter];refine(hcall1 z hz).mono ?_;rintro e w' ⟨vs',g',rfl,hX,hS,hfr,hkeep,hnew⟩;obtain⟨hsim,hrs⟩:=b2K (F:=F.af) (y:=y) (z:=z) hs hνn hνl' (List.prefix_append _ _) hρl (fun q hq hq2=>by
    rcases List.mem_append.1 hq with h|h
    ·exact absurd h hq2
    ·exact Nat.le_trans hbge (a7q.1 h).1) hres hX hS hfr hkeep hnew (b3l (F:=F.af) hs hνn (List.prefix_append _ _) hX hρl hlend)
   exact hK _ _ _ _ (hsim.put _ (b3H hrs)) h3
  ·cases h3
 ·cases h2
theorem d3i{R:Type}[BothC R](hE:EnvOk P G B0 E){o:Oper}{k:St->Option R}{r:R}{K:Act->World->Prop}{Q:Exit->Act->World->Prop}{g:Gh}{st:St}(hs:Sim df G B0 M0 w0 gi g st a w)(hK:S6 df G B0 M0 w0 gi k r K)(hP:a88 df G B0 E.bad M0 w0 gi r Q)
  {f:FuncId} {F:PF} (hF:SoundP P G B0 E.bad f F) {ds:List D} {vs:List Value} (hds:All2 (RepD (u9 M0 g) w g) ds vs) (hex:(∀w,(callFunc f vs.toArray).run P w = .ok (.enter f vs.toArray) w)->(execOp a.eval o).run P w = .ok (.enter f vs.toArray) w)
  (h:d3h F st o.dst ds k=some r):o.wp P a w K Q:=by
 unfold d3h at h;dsimp only at h;split at h
 ·exact b20 hE hs hK hP hF hds hex h
 ·obtain⟨g',st',hs',h',hd'⟩:=B8 F.ps ds hs h;exact b20 hE hs' hK hP hF (hds.mono fun d v hd=>hd' d v hd) hex h'
theorem b2Z{R:Type}[BothC R](hE:EnvOk P G B0 E){o:Oper}{k:St->Option R}{r:R}{K:Act->World->Prop}{Q:Exit->Act->World->Prop}(hs:Sim df G B0 M0 w0 gi g st a w)(hK:S6 df G B0 M0 w0 gi k r K)(hP:a88 df G B0 E.bad M0 w0 gi r Q)
  {f:FuncId} {ds:List D} {vs:List Value} (hds:All2 (RepD (u9 M0 g) w g) ds vs) (hex:(∀w,(callFunc f vs.toArray).run P w = .ok (.enter f vs.toArray) w)->(execOp a.eval o).run P w = .ok (.enter f vs.toArray) w)
  (h:b2Y E st o.dst f ds k=some r):o.wp P a w K Q:=by
 unfold b2Y at h;split at h
 ·rename_i F hF;exact c0F hE hs hK (hE.fn _ _ _ hF) hds hex h
 ·split at h
  ·rename_i F l hF;obtain⟨g',st',ds',hs',hd',h'⟩:=b3i l ds hs hds h;exact c0F hE hs' hK (hE.dyn _ _ _ _ _ _ hF) hd' hex h'
  ·split at h
   ·rename_i p hp;exact d3i hE hs hK hP (hE.pf _ _ _ hp) hds hex h
   ·cases h
theorem a3l(hs:Sim df G B0 M0 w0 gi g st a w):∀xs:List Operand,All2 (RepD (u9 M0 g) w g) (xs.map st.ev) (xs.map a.eval)
 |[]=>trivial
 |x :: xs=>⟨hs.ev x,a3l hs xs⟩
theorem e0D{R:Type}[BothC R](hE:EnvOk P G B0 E){o:Oper}{k:St->Option R}{r:R}{K:Act->World->Prop}{Q:Exit->Act->World->Prop}(hs:Sim df G B0 M0 w0 gi g st a w)(hK:S6 df G B0 M0 w0 gi k r K)(hP:a88 df G B0 E.bad M0 w0 gi r Q)
  {c:Call} {f:FuncId} (ho:o.op = .call c) (hc:c.callee = .value (.func f)) (h:opD E o st k=some r):o.wp P a w K Q:=by
 simp only[opD,ho,hc]at h;have harr:(c.args.toList.map a.eval).toArray=c.args.map a.eval:=by
  apply Array.ext';simp
 refine b2Z hE hs hK hP (a3l hs c.args.toList) (fun hcf=>?_) h;have:=hcf w;rw[harr]at this ⊢;simp[execOp,ho,resolve,hc,Act.eval,Deferred.ofValue,invoke,this]
theorem b22{M:Nat->Nat->Prop}:∀(t:Ty) (x:t.den) (cs:List Value),RepC M w t x cs->c4w t=true->All2 (RepD M w g) (d3l t x) cs
 |.pr (.ptr a) b,x,cs,h,hok=>by
  obtain⟨c1,c2,rfl,h1,h2⟩:=h;obtain⟨ad,es,rfl,h3,h4⟩:=h1;exact⟨⟨ad,es,rfl,h3,h4⟩,b22 b x.2 c2 h2 hok⟩
 |.un,x,cs,h,_=>by rw[show cs=[]from h];trivial
 |.u8,_,_,_,h=>by cases h
 |.int _,_,_,_,h=>by cases h
 |.bool,_,_,_,h=>by cases h
 |.str,_,_,_,h=>by cases h
 |.sl _,_,_,_,h=>by cases h
 |.mp _,_,_,_,h=>by cases h
 |.ptr _,_,_,_,h=>by cases h
 |.np _,_,_,_,h=>by cases h
 |.nl,_,_,_,h=>by cases h
 |.clo _ _,_,_,_,h=>by cases h
 |.rc _,_,_,_,h=>by cases h
 |.pr .u8 _,_,_,_,h=>by cases h
 |.pr (.int _) _,_,_,_,h=>by cases h
 |.pr .bool _,_,_,_,h=>by cases h
 |.pr .str _,_,_,_,h=>by cases h
 |.pr (.sl _) _,_,_,_,h=>by cases h
 |.pr (.mp _) _,_,_,_,h=>by cases h
 |.pr (.np _) _,_,_,_,h=>by cases h
 |.pr .nl _,_,_,_,h=>by cases h
 |.pr (.clo _ _) _,_,_,_,h=>by cases h
 |.pr (.rc _) _,_,_,_,h=>by cases h
 |.pr (.pr _ _) _,_,_,_,h=>by cases h
 |.pr .un _,_,_,_,h=>by cases h
theorem d3j{R:Type}[BothC R](hE:EnvOk P G B0 E){o:Oper}{k:St->Option R}{r:R}{K:Act->World->Prop}{Q:Exit->Act->World->Prop}(hs:Sim df G B0 M0 w0 gi g st a w)(hK:S6 df G B0 M0 w0 gi k r K)(hP:a88 df G B0 E.bad M0 w0 gi r Q)
  {c:Call} {t:Tmp} (ho:o.op = .call c) (hc:c.callee = .value (.tmp t)) (h:opD E o st k=some r):o.wp P a w K Q:=by
 simp only[opD,ho,hc]at h;have hr:=hs.ev (.tmp t);split at h
 ·rename_i f ct cx hd;split at h
  case h_2=>cases h
  rename_i hok;rw[hd]at hr;obtain⟨caps,hv,hcaps⟩:=RepV.plain rfl hr;simp only[List.cons.injEq,and_true]at hv;have harr:(c.args.toList.map a.eval++caps.toList).toArray=c.args.map a.eval++caps:=by
   apply Array.ext';simp
  refine b2Z hE hs hK hP ((a3l hs c.args.toList).append (b22 ct cx _ hcaps hok)) (fun hcf=>?_) h;have:=hcf w;rw[harr]at this ⊢;simp[execOp,ho,resolve,hc,hv,Deferred.ofValue,invoke,this]
 ·rename_i f l hd;rw[hd]at hr;obtain⟨caps,hv,hcaps⟩:=hr;have harr:(c.args.toList.map a.eval++caps.toList).toArray=c.args.map a.eval++caps:=by
   apply Array.ext';simp
  have hcaps':All2 (RepD (u9 M0 g) w g) (l.map fun r=> .box r 0) caps.toList:=hcaps.mapL _ fun r u ⟨x,b,h1,h2,h3⟩=>(⟨x,b,h1,h2,h3⟩:RepD (u9 M0 g) w g (.box r 0) u)
  refine b2Z hE hs hK hP ((a3l hs c.args.toList).append hcaps') (fun hcf=>?_) h;have:=hcf w;rw[harr]at this ⊢;simp[execOp,ho,resolve,hc,hv,Deferred.ofValue,invoke,this]
 ·cases h
theorem RepD0.freeze{M M':Nat->Nat->Prop}{r b:Nat}{gx:GB}{t:Ty}{x:t.den}{cs:List Value}(hb:g r=some gx)(hgv:gx.v=S8 b)(hst:Step M w M' w)(hx:RepC M' w t x cs)(hp:Pl M' w ⟨b,0,none⟩ cs){d:D}{v:Value}(h:RepD0 M w g d v):RepD0 M' w (g.set r none) (freeze r t x d) v:=by
 have hne:∀q,Nat.beq q r=false->(g.set r none) q=g q:=fun q hq=>Gh.set_other _ _ fun e=>by subst e;simp at hq
 have hnb:∀q y,g q=some y->(∀b,y.v≠S8 b)->q≠r:=fun q y h1 h2 e=>by subst e;rw[hb]at h1;cases h1;exact h2 b hgv
 cases d with
 |box r' o=>
  simp only[Go.Proofs.YtckdohagilcloaaGreatDoor.freeze];obtain⟨y,b',h1,h2,h3⟩:=h;split
  ·rename_i e;have:=Nat.eq_of_beq_eq_true e;subst this;rw[hb]at h1;cases h1;have:b'=b:=by rw[hgv]at h2;simpa [S8]using h2.symm
   subst this;split
   ·exact⟨_,cs,h3,hx,hp⟩
   ·trivial
  ·rename_i hq;exact⟨y,b',(hne _ hq).trans h1,h2,h3⟩
 |mref r'=>obtain⟨y,b',h1,h2,h3⟩:=h;exact⟨y,b',(Gh.set_other _ _ (hnb r' y h1 (by rw[h2];intro b e;cases e))).trans h1,h2,h3⟩
 |row r'=>obtain⟨y,A,n,c,h1,h2,h3⟩:=h;exact⟨y,A,n,c,(Gh.set_other _ _ (hnb r' y h1 (by rw[<-h2,h3];intro b e;cases e))).trans h1,h2,h3⟩
 |elp r' z i o=>obtain⟨y,b',n,c,h1,h2,h3⟩:=h;exact⟨y,b',n,c,(Gh.set_other _ _ (hnb r' y h1 (by rw[h2];intro b e;cases e))).trans h1,h2,h3⟩
 |tl r' z i=>obtain⟨y,b',n,c,h1,h2,h3⟩:=h;exact⟨y,b',n,c,(Gh.set_other _ _ (hnb r' y h1 (by rw[h2];intro b e;cases e))).trans h1,h2,h3⟩
 |fnc f ns=>
  simp only[Go.Proofs.YtckdohagilcloaaGreatDoor.freeze];split
  ·trivial
  ·rename_i hm;obtain⟨cs',e,ha⟩:=h;refine⟨cs',e,?_⟩;have hnot:r∉ns:=fun h'=>by rw[C0.2 h']at hm;cases hm
   clear e hm;revert ha hnot;generalize cs'.toList=us;induction ns generalizing us with
   |nil=>intro ha _;cases us with|nil=>trivial|cons _ _=>exact ha.elim
   |cons n ns ih=>
    intro ha hnot;cases us with
    |nil=>exact ha.elim
    |cons u us=>
     obtain⟨⟨y,b',h1,h2⟩,h3⟩:=ha;refine⟨⟨y,b',(Gh.set_other _ _ fun e=>hnot (by simp[e])).trans h1,h2⟩,ih us h3 fun h'=>hnot (List.mem_cons_of_mem _ h')⟩
 |dead=>trivial
 |skip=>exact h
 |bl b=>exact h
 |v t x=>exact RepV.step hst h
 |nilS=>exact h
 |nilP=>exact h
 |at_ t x=>obtain⟨ad,cs,a,b,c⟩:=h;exact⟨ad,cs,a,RepC.step hst _ _ _ b,c.step hst⟩
 |tup b l=>exact h.elim
theorem Sim.freeze(hs:Sim df G B0 M0 w0 gi g st a w){r:Nat}(hr:1000<=r){t:Ty}{x:t.den}{ds:List D}(hb:v6 st.hp r=some (.cells ds))(hu:b0F st t ds=some (x,[])):
  Sim df G B0 M0 w0 gi (g.set r none) ((st.lift (Go.Proofs.YtckdohagilcloaaGreatDoor.freeze r t x)).delB r) a w:=by
 obtain⟨gx,hg,b,vs,el,e,hheap,hall⟩:=hs.hp _ _ hb;subst e;refine hs.gone (fun x h1 h2=>absurd (hs.gin _ _ h1 h2) (by omega)) (φ:=Go.Proofs.YtckdohagilcloaaGreatDoor.freeze r t x) (fun d v hst hd=>?_) fun _ _=>rfl
 obtain⟨c1,c2,e,hrep,hrest⟩:=a3j hs t hall hu;have hc2:c2=[]:=by
  cases c2 with
  |nil=>rfl
  |cons a l=>exact hrest.elim
 subst hc2;rw[List.append_nil]at e;subst e;have hnot:∀o,¬u9 M0 (g.set r none) b o:=by
  intro o h;rcases h with h|⟨r',y,h1,h2,h3⟩
  ·exact hs.m0x h hg rfl
  ·by_cases hr:r'=r
   ·subst hr;rw[Gh.set_same]at h1;cases h1
   ·rw[Gh.set_other _ _ hr]at h1;exact hr (hs.inj _ _ _ _ _ h1 hg h2 rfl)
 refine RepD0.freeze hg rfl hst (RepC.step hst _ _ _ hrep) (fun j u hu=>?_) hd;rw[Addr.add_box,Nat.zero_add];refine⟨?_,hnot _⟩;rw[a4w hheap,<-Array.getElem?_toList];exact hu
theorem a6C{R:Type}[BothC R]:∀(ts:List Ty) (xs:List Operand) {g:Gh} {st:St} {k:St->Option R} {r:R},Sim df G B0 M0 w0 gi g st a w->c0G ts xs st k=some r->∃g' st',Sim df G B0 M0 w0 gi g' st' a w/\k st'=some r
 |[],[],_,_,_,_,hs,h=>⟨_,_,hs,h⟩
 |.ptr t :: ts,x :: xs,_,_,_,_,hs,h=>by
  simp only[c0G]at h;split at h
  ·exact a6C ts xs hs h
  ·split at h
   ·cases h
   ·rename_i hlt;split at h
    ·rename_i cs hcs;split at h
     ·rename_i y hy;rw[a0W,a6E]at h;have h1000:1000<=_:=Nat.le_of_not_lt fun h'=>by rw[<-Nat.blt_eq,hlt]at h';cases h'
      exact a6C ts xs (hs.freeze h1000 hcs hy) h
     ·cases h
    ·cases h
  ·cases h
 |[],_ :: _,_,_,_,_,_,h=>by cases h
 |.ptr _ :: _,[],_,_,_,_,_,h=>by cases h
 |.u8 :: _,_,_,_,_,_,_,h=>by cases h
 |.int _ :: _,_,_,_,_,_,_,h=>by cases h
 |.bool :: _,_,_,_,_,_,_,h=>by cases h
 |.str :: _,_,_,_,_,_,_,h=>by cases h
 |.sl _ :: _,_,_,_,_,_,_,h=>by cases h
 |.pr _ _ :: _,_,_,_,_,_,_,h=>by cases h
 |.un :: _,_,_,_,_,_,_,h=>by cases h
 |.mp _ :: _,_,_,_,_,_,_,h=>by cases h
 |.np _ :: _,_,_,_,_,_,_,h=>by cases h
 |.nl :: _,_,_,_,_,_,_,h=>by cases h
 |.rc _ :: _,_,_,_,_,_,_,h=>by cases h
 |.clo _ _ :: _,_,_,_,_,_,_,h=>by cases h
theorem c0H{M:Nat->Nat->Prop}:∀(ts:List Ty) (ds:List D) (vs:List Value) (y:(t:Ty)×t.den),All2 (RepD M w g) ds vs->b6j ts ds=some y->RepC M w y.1 y.2 vs:=by
 intro ts ds;induction ts,ds using b6j.induct with
 |case1=>intro vs y ha h;cases h;cases vs with
  |nil=>rfl
  |cons _ _=>exact ha.elim
 |case2 t' ts x ds z hz ih=>
  intro vs y ha h;cases vs with
  |nil=>exact ha.elim
  |cons v vs=>
   simp only[b6j,dif_pos,hz,Option.some.injEq]at h;subst h;obtain⟨ad,cs,rfl,h1,h2⟩:=ha.1;exact⟨[_],vs,rfl,⟨ad,cs,rfl,h1,h2⟩,ih vs z ha.2 hz⟩
 |_=>intro vs y ha h;simp_all[b6j]
theorem b1B(hs:Sim df G B0 M0 w0 gi g st a w):∀(xs:List Operand) (l:List Nat),c6t st xs=some l->All2 (fun r u=>∃x b,g r=some x/\x.v=S8 b/\u=S8 b) l (xs.map a.eval)
 |[],l,h=>by cases h;trivial
 |x :: xs,l,h=>by
  simp only[c6t]at h;have hx:=hs.ev x;split at h
  ·rename_i r hd;rw[hd]at hx;split at h
   ·rename_i l' hl;cases h;obtain⟨y,b,h1,h2,h3⟩:=hx;exact⟨⟨y,b,h1,h2,h3⟩,b1B hs xs l' hl⟩
   ·cases h
  ·cases h
theorem c1j{R:Type}[BothC R]{o:Oper}{k:St->Option R}{r:R}{K:Act->World->Prop}{Q:Exit->Act->World->Prop}(hs:Sim df G B0 M0 w0 gi g st a w)(hK:S6 df G B0 M0 w0 gi k r K)
  {f:FuncId} {first caps:Array Operand} (ho:o.op = .makeFunc (.func f) first caps) (h:opD E o st k=some r):o.wp P a w K Q:=by
 simp only[opD,ho,F5]at h;have hex:first.toList=[]->(execOp a.eval o).run P w = .ok (.value (.func (.func f) #[] (caps.map a.eval))) w:=fun hf=>by
  have hf0:first = #[]:=by cases first;simp_all
  subst hf0;simp[execOp,ho,Instr.makeFunc]
 have hmap:(caps.map a.eval).toList=caps.toList.map a.eval:=by simp
 split at h
 ·rename_i q hfirst hd;split at h
  ·split at h
   ·rename_i l hl;unfold Oper.wp;rw[hex hfirst,Oper.upon_value];refine hK _ _ _ _ (hs.put _ (d:= .fnc f l) ⟨caps.map a.eval,rfl,?_⟩) (by rw[hd];exact h);rw[hmap];exact b1B hs _ _ hl
   ·cases h
  ·split at h
   ·rename_i F hF;obtain⟨g',st',hs',h⟩:=a6C _ _ hs h;split at h
    ·rename_i y hy;have hrep:=c0H _ _ _ y (a3l hs' caps.toList) hy;unfold Oper.wp;rw[hex hfirst,Oper.upon_value];refine hK _ _ _ _ (hs'.put _ (d:= .v (.clo f y.1) y.2) (RepC.toV (t:= .clo f y.1) rfl ⟨caps.map a.eval,rfl,?_⟩)) (by rw[hd];exact h);rw[hmap];exact hrep
    ·cases h
   ·cases h
 ·cases h
theorem d4P{R:Type}[BothC R](hE:EnvOk P G B0 E){o:Oper}{k:St->Option R}{r:R}{K:Act->World->Prop}{Q:Exit->Act->World->Prop}(hs:Sim df G B0 M0 w0 gi g st a w)(hK:S6 df G B0 M0 w0 gi k r K)
  {T:TypeId} {x hi:Operand} (ho:o.op = .slice T x none (some hi) none) (h:opD E o st k=some r):o.wp P a w K Q:=by
 simp only[opD,ho,F5,a0W,a0t]at h;have hval:O0 E o.op o.type st (fun d=>k (st.put o.dst d))=some r->o.wp P a w K Q:=fun h=>a8U hE hs hK h
 rw[ho]at hval;split at h
 ·rename_i t e2 t2 q hT hel hdx;split at h
  ·rename_i e t' xs hb;split at h
   ·rename_i n hdh;split at h
    ·rename_i htt;obtain⟨rfl,rfl⟩:=htt;rcases M6 h with⟨hcond,h⟩|⟨_,h⟩
     ·have hx:=hs.ev x;have hh:=hs.ev hi;rw[hdx]at hx;rw[hdh]at hh;have hh':=RepD.int hh;obtain⟨N,hN⟩:∃N:Int,N=n:=⟨n,rfl⟩;have hc:=of_decide_eq_true hcond;rw[<-hN]at hh' h hc;have h0:(0:Int)<=N:=hc.1;have h1:N<=(xs.length:Int):=hc.2;clear hc hN hcond;obtain⟨gx,hg,hz,cs,hown,hblk,hlo,hels⟩:=hs.hp _ _ hb;obtain⟨gx',A0,n0,c0,hg',hv,hv2⟩:=hx;rw[hg]at hg';cases hg';obtain⟨A,c,hv3,hlc,hmax,hrow⟩:=Row.of_own' hown;have hxv:a.eval x = .slice A xs.length c:=hv.trans hv3;have hu:=b35 (hE.ty _ _ hT);obtain⟨hok,bytes,⟨hu2,_⟩,_⟩:=hE.el _ _ _ hel;have hb2:=X8 (P:=P) (w:=w) (isS:=true) (len:=xs.length) (cap:=c) (lo:=none) (hi:=some (.int .i64 N)) (l:=0) (h:=N) (.inl ⟨rfl,rfl⟩) (.inr ⟨_,rfl⟩) (Int.le_refl 0) h0 h1 hlc;have hA:(if c=(0:Int).toNat then A else A.map (·.add ((0:Int).toNat*t2.sz)))=A:=by
       split
       ·rfl
       ·cases A with
        |none=>rfl
        |some ad=>simp[Addr.add]
      have hrun:(Instr.sliceAt T (a.eval x) none (some (a.eval hi)) none).run P w = .ok (.slice A N.toNat c) w:=by
       rw[a5p hu2 (by simp),hxv,hh'];simp only[Instr.slice,Sem.run_bind,run_underlying hu2,Result.andThen_ok,Sem.run_pure,hb2,G2 hok,hA];simp
      refine wp_ret (s:=Instr.sliceAt T (a.eval x) none (some (a.eval hi)) none) (by simp[execOp,ho]) hrun ?_;have hcl:(cut xs N).length=N.toNat:=by simp only[cut,List.length_take];omega
      have hle:N.toNat<=xs.length:=by omega
      have hmul:N.toNat*t2.sz<=xs.length*t2.sz:=Nat.mul_le_mul_right _ hle;have hlo':gx.lo=0:=hlo;have hown2:w.ownsRow 0 e t2.sz (.slice A N.toNat c) N.toNat (cs.take (N.toNat*t2.sz)):=by
       refine⟨by rw[List.length_take,hown.1];omega,?_⟩;rcases hown.2 with⟨e5,e6⟩|⟨gg,cap,cur,e5,e6,e7,e8,e9,e10,e11⟩
       ·rw[hv3]at e5;simp only[Value.slice.injEq]at e5;obtain⟨rfl,_,rfl⟩:=e5;exact .inl ⟨by rw[show N.toNat=0 by omega],by omega⟩
       ·rw[hv3]at e5;simp only[Value.slice.injEq,true_and]at e5;obtain⟨rfl,rfl⟩:=e5;exact .inr ⟨gg,c,cur,rfl,e6,e7,by omega,e9,e10,by rw[<-e11,List.take_take,Nat.min_eq_left hmul]⟩
      have hvo:(Value.slice A N.toNat c).ownBlock=gx.v.ownBlock:=by rw[hv3];cases A<;>rfl
      have ht:Turn g q (some ⟨gx.blk,0,.slice A N.toNat c⟩) w w:=by
       refine⟨rfl,rfl,rfl,Nat.le_refl _,fun _ _ _=>rfl,fun z b e1 e2=>?_,fun x b e1 e2 e3=>?_,fun z b e1 e2 e3=>?_⟩
       ·cases e1;exact⟨(hs.low _ _ _ hg e2).2.1,.inr ⟨gx,hg,e2⟩⟩
       ·rw[hg]at e1;cases e1;omega
       ·cases e1;exact absurd e3 (Nat.lt_irrefl 0)
      have hst:=ht.step hs;refine hK _ _ _ _ (Sim.put (hs.turnB ht (φ:=forget [q]) (fun d v hd=>RepD0.forget hst (fun i hi=>Gh.set_other _ _ fun e=>hi (by simp[e])) hd) (fun _ _=>rfl) (fun x' e1 e2=>?_) (blk:= .row e t2 true (cut xs N)) ⟨hz,cs.take (N.toNat*t2.sz),by rw[hcl];exact hown2,by rw[hvo];exact hblk,rfl,fun i hi=>?_⟩) o.dst ?_) h
      ·have:=hs.pin q x' e1 e2;rw[hg]at this;cases this;exact(a4K hown e2).elim
      ·rw[hcl]at hi;have e1:(cut xs N)[i]'(by rw[hcl];exact hi)=xs[i]:=by simp[cut]
       rw[e1];have hpos:i*t2.sz+t2.sz<=N.toNat*t2.sz:=by
        have:(i+1)*t2.sz<=N.toNat*t2.sz:=Nat.mul_le_mul_right _ hi;rw[Nat.add_mul]at this;omega
       have e2:((cs.take (N.toNat*t2.sz)).drop (i*t2.sz)).take t2.sz=(cs.drop (i*t2.sz)).take t2.sz:=by
        rw[List.drop_take,List.take_take,Nat.min_eq_left (by omega)]
       rw[e2];exact RepC.step hst _ _ _ (hels i (by omega))
      ·exact⟨_,A,_,c,Gh.set_same _ _ _,rfl,rfl⟩
     ·cases h
    ·cases h
   ·cases h
  ·exact hval h
 ·exact hval h
theorem e1f{R:Type}[BothC R](hE:EnvOk P G B0 E){o:Oper}{k:St->Option R}{r:R}{K:Act->World->Prop}{Q:Exit->Act->World->Prop}(hs:Sim df G B0 M0 w0 gi g st a w)(hK:S6 df G B0 M0 w0 gi k r K)
  {T:TypeId} {x lo:Operand} (ho:o.op = .slice T x (some lo) none none) (h:opD E o st k=some r):o.wp P a w K Q:=by
 simp only[opD,ho,F5]at h;have hval:O0 E o.op o.type st (fun d=>k (st.put o.dst d))=some r->o.wp P a w K Q:=fun h=>a8U hE hs hK h
 rw[ho]at hval;split at h
 ·rename_i t e2 t2 q hT hel hdx;split at h
  ·rename_i e t' xs hb;split at h
   ·rename_i n hdl;split at h
    ·rename_i htt;obtain⟨rfl,rfl⟩:=htt;rcases M6 h with⟨hcond,h⟩|⟨_,h⟩
     ·have hx:=hs.ev x;have hh:=hs.ev lo;rw[hdx]at hx;rw[hdl]at hh;have hh':=RepD.int hh;obtain⟨N,hN⟩:∃N:Int,N=n:=⟨n,rfl⟩;have hc:=of_decide_eq_true hcond;rw[<-hN]at hh' h hc;have h0:(0:Int)<=N:=hc.1;have h1:N<=(xs.length:Int):=hc.2.1;have hpos:0<xs.length:=hc.2.2;clear hc hN hcond;obtain⟨gx,hg,hz,cs,hown,hblk,hlo,hels⟩:=hs.hp _ _ hb;obtain⟨gx',A0,n0,c0,hg',hv,hv2⟩:=hx;rw[hg]at hg';cases hg';rcases hown.2 with⟨e5,e6⟩|⟨gg,c,cur,e5,e6,e7,hlc,hmax,e10,e11⟩
      ·exact absurd e6 (by omega)
      ·have hxv:a.eval x = .slice (some ⟨gg,0,none⟩) xs.length c:=hv.trans e5;have hu:=b35 (hE.ty _ _ hT);obtain⟨hok,bytes,⟨hu2,_⟩,_⟩:=hE.el _ _ _ hel;have hb2:=X8 (P:=P) (w:=w) (isS:=true) (len:=xs.length) (cap:=c) (lo:=some (.int .i64 N)) (hi:=none) (l:=N) (h:=(xs.length:Int)) (.inr ⟨_,rfl⟩) (.inl ⟨rfl,rfl⟩) h0 h1 (Int.le_refl _) hlc;have hA:(if c=N.toNat then some (⟨gg,0,none⟩:Addr)else(some (⟨gg,0,none⟩:Addr)).map (·.add (N.toNat*t2.sz)))=some ⟨gg,(if c=N.toNat then 0 else N.toNat*t2.sz),none⟩:=by
        split
        ·rfl
        ·simp[Addr.add];exact fun h=>h.symm
       have hrun:(Instr.sliceAt T (a.eval x) (some (a.eval lo)) none none).run P w = .ok (.slice (some ⟨gg,(if c=N.toNat then 0 else N.toNat*t2.sz),none⟩) (xs.length-N.toNat) (c-N.toNat)) w:=by
        rw[a5p hu2 (by simp),hxv,hh'];simp only[Instr.slice,Sem.run_bind,run_underlying hu2,Result.andThen_ok,Sem.run_pure,hb2,G2 hok,hA];simp
       refine wp_ret (s:=Instr.sliceAt T (a.eval x) (some (a.eval lo)) none none) (by simp[execOp,ho]) hrun ?_;exact hK _ _ _ _ (hs.put (d:= .tl q t2.sz N) o.dst ⟨gx,gg,xs.length,c,hg,e5,h0,h1,rfl⟩) h
     ·cases h
    ·cases h
   ·cases h
  ·exact hval h
 ·exact hval h
theorem d3n{R:Type}[BothC R](hE:EnvOk P G B0 E){o:Oper}{k:St->Option R}{r:R}{K:Act->World->Prop}{Q:Exit->Act->World->Prop}(hs:Sim df G B0 M0 w0 gi g st a w)(hK:S6 df G B0 M0 w0 gi k r K)
  {c:Call} (ho:o.op = .call c) (hc:c.callee = .builtin .clear) (h:opD E o st k=some r):o.wp P a w K Q:=by
 simp only[opD,ho,hc,a0t]at h;split at h
 ·rename_i T x hts hdst hargs;split at h
  ·rename_i e0 t q z i hel hdx;split at h
   ·rename_i e t' xs cs0 hb hz0;split at h
    ·rename_i htt;subst htt;split at h
     ·rename_i hzz;have:=Nat.eq_of_beq_eq_true hzz;subst this;have hx:=hs.ev x;rw[hdx]at hx;obtain⟨gx,b,n,cp,hg,hgv,hi0,hin,ex⟩:=hx;obtain⟨gx',hg',hz,cs,hown,hblk,hlo,hels⟩:=hs.hp _ _ hb;rw[hg]at hg';cases hg';obtain⟨hok,bytes,⟨hu2,_⟩,_⟩:=hE.el _ _ _ hel;rcases hown.2 with⟨e5,e6⟩|⟨gg,cap,cur,e5,e6,hg1,hlc,hmax,hcs,htk⟩
      ·rw[e5]at hgv;cases hgv
      ·have hgg:gg=b/\xs.length=n/\cap=cp:=by
        rw[e5]at hgv;simp only[Value.slice.injEq,Option.some.injEq,Addr.mk.injEq,and_true]at hgv;exact⟨hgv.1,hgv.2.1,hgv.2.2⟩
       obtain⟨rfl,rfl,rfl⟩:=hgg;have hle:i.toNat<=xs.length:=by omega
       have hl:=hown.1;obtain⟨Z,hZ⟩:∃Z:List Value,Z=(madeCells (I5 t').toArray ((xs.length-i.toNat)*t'.sz)).toList:=⟨_,rfl⟩;have hzl:(I5 t').length=t'.sz:=a19 t';have hZl:Z.length=(xs.length-i.toNat)*t'.sz:=by rw[hZ,Array.length_toList,size_madeCells]
       have hmul:i.toNat*t'.sz+(xs.length-i.toNat)*t'.sz=xs.length*t'.sz:=by
        rw[<-Nat.add_mul];congr 1;omega
       have hcapm:xs.length*t'.sz<=cap*t'.sz:=Nat.mul_le_mul_right _ hlc;have hzs:∀{M':Nat->Nat->Prop} {w':World},RepC M' w' t' (zero t') (I5 t'):=a86 t' cs0 hz0;have hZg:∀k,k<Z.length->Z[k]? = (I5 t')[k % t'.sz]?:=fun k hk=>by
        have hzm:k % t'.sz<(I5 t').length:=by rw[hzl];exact Nat.mod_lt _ hz
        rw[hZ,a8f,if_pos (by rw[<-hZl];exact hk)];simp only[List.size_toArray,hzl];rw[List.getElem?_eq_getElem hzm];simp[hzm]
       have hZ1:∀v∈Z,v.oneCell'=true:=fun v hv=>by
        obtain⟨k,hk,rfl⟩:=List.getElem_of_mem hv;have:=hZg k hk;rw[List.getElem?_eq_getElem hk]at this;exact RepC.one _ _ _ (hzs (M':=M0) (w':=w)) _ (List.mem_of_getElem? this.symm)
       have hrun:(Builtin.clear_ #[T] o.type #[a.eval x]).run P w = .ok (.tuple #[]) (w.setRow gg (cur.toList.take (i.toNat*t'.sz)++Z++cur.toList.drop (i.toNat*t'.sz+Z.length)).toArray):=by
        rw[ex];rcases Nat.eq_zero_or_pos (xs.length-i.toNat)with h0|h0
        ·have hZ0:Z=[]:=List.eq_nil_of_length_eq_zero (by rw[hZl,h0,Nat.zero_mul]);rw[hZ0,h0];have:(cur.toList.take (i.toNat*t'.sz) ++ []++cur.toList.drop (i.toNat*t'.sz+([]:List Value).length)).toArray=cur:=by simp
         rw[this,setRow_self w gg cur e _ hg1];simp[Builtin.clear_,run_underlying hu2]
        ·have hne:¬(cap=i.toNat):=by omega
         rw[if_neg hne];have hst0:=run_storeCells_at P gg (i.toNat*t'.sz) e Z 0 cur w hg1 (by omega) hZ1;rw[Nat.add_zero]at hst0;have hzv:=a5X (w:=w) (P:=P) hok;have hzz:(Builtin.zeroCells (mkV t' (I5 t')).cells (xs.length-i.toNat)).toList=Z:=by
          have e1:(mkV t' (I5 t')).cells=(I5 t').toArray:=b0q (a19 t') (b1t t');rw[hZ,e1];show(madeCells (I5 t').toArray ((xs.length-i.toNat)*(I5 t').toArray.size)).toList=_;rw[List.size_toArray,hzl]
         obtain⟨m,hm⟩:∃m,xs.length-i.toNat=m+1:=⟨xs.length-i.toNat-1,by omega⟩;rw[hm]at hzz ⊢;simp[Builtin.clear_,run_underlying hu2,hzv,hzz,hst0]
       have harg:c.args = #[x]:=Array.ext' (by simpa using hargs);have htys:c.argTypes = #[T]:=Array.ext' (by simpa using hts);have he:execOp a.eval o=(do pure (Next.value (<-Builtin.clear_ #[T] o.type #[a.eval x]))):=by
        simp[execOp,ho,resolve,hc,harg,htys,invoke,builtin]
       refine wp_ret he hrun ?_;rw[hdst];have hgx:gx=⟨some gg,0,gx.v⟩:=by
        obtain⟨b1,l1,v1⟩:=gx;have e3:b1=some gg:=hblk.trans (by rw[show v1=_ from e5];rfl);have e4:l1=0:=hlo;rw[e3,e4]
       rw[hgx]at hg;have hcll:(clr xs i (zero t')).length=xs.length:=by
        simp only[clr,List.length_append,List.length_take,List.length_replicate];omega
       have hcutl:∀m:List Value,m=cur.toList->(m.take (i.toNat*t'.sz)++Z++m.drop (i.toNat*t'.sz+Z.length)).take (xs.length*t'.sz)=cs.take (i.toNat*t'.sz)++Z:=by
        rintro m rfl;apply List.ext_getElem?;intro p;have hcut0:cs.take (i.toNat*t'.sz)=cur.toList.take (i.toNat*t'.sz):=by
         rw[<-htk,List.take_take,Nat.min_eq_left (by omega)]
        have hl2:(cur.toList.take (i.toNat*t'.sz)++Z).length=xs.length*t'.sz:=by
         rw[List.length_append,List.length_take,Array.length_toList,hcs,hZl,Nat.min_eq_left (by omega)];exact hmul
        rw[hcut0,List.getElem?_take];split
        ·rename_i hp;rw[List.getElem?_append_left (by omega)]
        ·rename_i hp;rw[List.getElem?_eq_none (by omega)]
       refine hK _ _ _ _ (hs.setObj (w':=w.setRow gg (cur.toList.take (i.toNat*t'.sz)++Z++cur.toList.drop (i.toNat*t'.sz+Z.length)).toArray) hg rfl rfl rfl (by simp[World.setRow]) (fun j hj=>setRow_other w gg j _ hj) (blk:= .row e t' true (clr xs i (zero t'))) fun hst=>
        ⟨hz,cs.take (i.toNat*t'.sz)++Z,⟨?_,.inr ⟨gg,cap,_,?_,Nat.zero_le _,setRow_heap w gg cur _ e _ hg1,?_,hmax,?_,?_⟩⟩,?_,rfl,?_⟩) h
       ·rw[hcll,List.length_append,List.length_take,hZl];omega
       ·rw[hcll];exact e5
       ·rw[hcll];exact hlc
       ·simp only[List.size_toArray,List.length_append,List.length_take,List.length_drop,Array.length_toList];omega
       ·rw[hcll];exact hcutl _ rfl
       ·rw[<-hblk];exact(congrArg GB.blk hgx).symm
       ·intro j hj;have hj':j<xs.length:=by rw[hcll]at hj;exact hj
        have hjm:j*t'.sz+t'.sz<=xs.length*t'.sz:=by
         have:(j+1)*t'.sz<=xs.length*t'.sz:=Nat.mul_le_mul_right _ hj';rw[Nat.add_mul]at this;omega
        have htl:(cs.take (i.toNat*t'.sz)).length=i.toNat*t'.sz:=by rw[List.length_take];omega
        rcases Nat.lt_or_ge j i.toNat with hji|hji
        ·have e1:(clr xs i (zero t'))[j]'hj=xs[j]:=by
          simp only[clr];rw[List.getElem_append_left (by rw[List.length_take];omega),List.getElem_take]
         have hjm2:j*t'.sz+t'.sz<=i.toNat*t'.sz:=by
          have:(j+1)*t'.sz<=i.toNat*t'.sz:=Nat.mul_le_mul_right _ hji;rw[Nat.add_mul]at this;omega
         have e2:((cs.take (i.toNat*t'.sz)++Z).drop (j*t'.sz)).take t'.sz=(cs.drop (j*t'.sz)).take t'.sz:=by
          apply List.ext_getElem?;intro m;rw[List.getElem?_take,List.getElem?_take];split
          ·rw[List.getElem?_drop,List.getElem?_drop,List.getElem?_append_left (by omega),List.getElem?_take,if_pos (by omega)]
          ·rfl
         rw[e1,e2];exact RepC.step hst _ _ _ (hels j hj')
        ·have e1:(clr xs i (zero t'))[j]'hj=zero t':=by
          simp only[clr];rw[List.getElem_append_right (by rw[List.length_take];omega),List.getElem_replicate]
         have e2:((cs.take (i.toNat*t'.sz)++Z).drop (j*t'.sz)).take t'.sz=I5 t':=by
          apply List.ext_getElem?;intro m;rw[List.getElem?_take];have hjm2:i.toNat*t'.sz<=j*t'.sz:=Nat.mul_le_mul_right _ hji;split
          ·rename_i hm;rw[List.getElem?_drop,List.getElem?_append_right (by omega),htl,hZg _ (by omega)];congr 1;have:j*t'.sz+m-i.toNat*t'.sz=(j-i.toNat)*t'.sz+m:=by
            rw[Nat.sub_mul];omega
           rw[this,Nat.mul_add_mod_of_lt' hm]
          ·rename_i hm;rw[List.getElem?_eq_none (by omega)]
         rw[e1,e2];exact hzs
     ·cases h
    ·cases h
   ·cases h
  ·cases h
 ·cases h
theorem b6v{R:Type}[BothC R]{o:Oper}{k:St->Option R}{r:R}(hs:Sim df G B0 M0 w0 gi g st a w){T:TypeId}{x:Operand}(ho:o.op = .load T x)(h:opD E o st k=some r):
  ∃g' st',Sim df G B0 M0 w0 gi g' st' a w/\O0 E o.op o.type st' (fun d=>k (st'.put o.dst d))=some r:=by
 simp only[opD,ho,F5]at h;rw[ho];split at h
 ·split at h
  ·exact a8o _ hs h
  ·exact⟨g,st,hs,h⟩
 ·exact⟨g,st,hs,h⟩
theorem c80{R:Type}[BothC R](hE:EnvOk P G B0 E){o:Oper}{k:St->Option R}{r:R}{K:Act->World->Prop}{Q:Exit->Act->World->Prop}(hs:Sim df G B0 M0 w0 gi g st a w)(hK:S6 df G B0 M0 w0 gi k r K)
  {T:TypeId} {ps:Array (Nat×Operand)} (ho:o.op = .build T ps) (h:opD E o st k=some r):o.wp P a w K Q:=by
 simp only[opD,ho,F5]at h;obtain⟨g',st',hs',h'⟩:=a8p _ hs h;exact a8U hE hs' hK (by rw[ho];exact h')
end
end
end Go.Proofs.YtckdohagilcloaaGreatDoor
