/- % -/
import Derived.Test.YtckdohagilcloaaGreatDoorQBm14
namespace Go.Proofs.YtckdohagilcloaaGreatDoor
set_option linter.unusedVariables false
set_option linter.unusedSimpArgs false
set_option linter.unusedSectionVars false
open Go Go.RowKit
section
section
variable{P:Program}{df:List Deferred}{G:World->Prop}{B0:Nat}{E:Env}{M0:Nat->Nat->Prop}{w0:World}{gi g:Gh}{st:St}{a:Act}{w:World}{R:Type}[BothC R]
theorem Oper.wp_put{o:Oper}{K:Act->World->Prop}{Q:Exit->Act->World->Prop}(hh:o.wp P a w K Q):o.wp P a w (fun a' w'=>K a' w'/\∃v,a'.tmps=(a.put o.dst v).tmps) Q:=by
 unfold Oper.wp at *;generalize (execOp a.eval o).run P w=r at *;cases r with
 |ok n w'=>
  cases n<;>simp only[Oper.upon]at hh ⊢ <;>
   first
    |exact⟨hh,_,rfl⟩
    |exact Calls.mono hh (fun e w'' he=>by cases e<;>first|exact⟨he,_,rfl⟩|exact he)
    |exact Rows.mono hh (fun _ _ he=>⟨he,_,rfl⟩)
    |exact⟨hh,undef,by cases o.dst<;>rfl⟩
    |exact hh
 |halt x w'=>cases x<;>simp only[Oper.upon]at hh ⊢ <;> exact hh
def a6F(ops:Array Oper)(i:Nat):Option Tmp:=(ops[i]?).bind (·.dst)
theorem a8O{ops:Array Oper}{Q:Exit->Act->World->Prop}(hE:EnvOk P G B0 E){K:Act->World->Prop}{k:St->Option R}{r:R}{i:Nat}(hs:Sim df G B0 M0 w0 gi g st a w)(hK:S6 df G B0 M0 w0 gi k r K)(hP:a88 df G B0 E.bad M0 w0 gi r Q)(h:b86 E ops i st k=some r):
  wpOp P ops Q i (fun a' w'=>K a' w'/\∃v,a'.tmps=(a.put (a6F ops i) v).tmps) a w:=by
 unfold b86 at h;unfold wpOp a6F;cases ho:ops[i]? with
 |none=>rw[ho]at h;cases h
 |some o=>
  rw[ho]at h;dsimp only[Option.bind]at h ⊢;rcases a40 hs h with⟨hw,st',hs',h⟩|⟨hw,st',hs',h⟩
  ·rw[if_pos hw];exact .inl (Oper.wp_put (b6B hE hs' hK hP h))
  ·rw[if_neg (by rw[hw];simp)];exact⟨hK _ _ _ _ (hs'.put o.dst (d:= .skip) (v:=undef) rfl) h,undef,rfl⟩
theorem c9I(hE:EnvOk P G B0 E){o:Oper}(ho:b2i o=true)(hs:Sim df G B0 M0 w0 gi g st a w){k:St->Option R}{r:R}(h:opD E o st k=some r):
  o.guard=none/\∃d v,RepD (u9 M0 g) w g d v/\(∀w',(execOp a.eval o).run P w' = .ok (.value v) w')/\k (st.put o.dst d)=some r:=by
 unfold b2i at ho;split at ho
 ·rename_i hg;refine⟨hg,?_⟩;have hv:O0 E o.op o.type st (fun d=>k (st.put o.dst d))=some r:=by
   unfold opD at h;cases hop:o.op with
   |assign x=>
    rw[hop]at h ho;simp only[F5]at h;split at h
    case h_1 hq=>cases hq;cases ho
    all_goals first
     |(rename_i hq;cases hq;done)
     |exact h
   |_=>rw[hop]at h ho;first|(cases ho;done)|(simp only[F5]at h;exact h)
  obtain⟨d,v,h1,h2,h3⟩:=c5m hE hs ho hv;exact⟨d,v,h2,fun w'=>h3 w' trivial,h1⟩
 ·cases ho
section
theorem a8C{f:Nat->Option R}{r:R}:∀{l:List Nat},c0B f l=some r->∀i∈l,f i=some r
 |[i],h,j,hj=>by rw[List.mem_singleton.1 hj];exact h
 |i :: j :: l,h,q,hq=>by
  obtain⟨h1,h2⟩:=BothC.law (show BothC.bo (f i) (c0B f (j :: l))=some r from h);rcases List.mem_cons.1 hq with rfl|hq
  ·exact h1
  ·exact a8C h2 q hq
end
theorem b6W(hE:EnvOk P G B0 E){ops:Array Oper}{listed:Array Bool}{j:Nat}(hj:b9t ops listed j=true)(hs:Sim df G B0 M0 w0 gi g st a w){k:St->Option R}{r:R}(h:b86 E ops j st k=some r):
  ∃o d v,ops[j]? = some o/\Region.free .any ops listed j=true/\Yields P ops o v a/\RepD (u9 M0 g) w g d v/\k (st.put o.dst d)=some r:=by
 unfold b9t at hj;simp only[Bool.and_eq_true]at hj;unfold b86 at h;cases ho:ops[j]? with
 |none=>rw[ho]at h;cases h
 |some o=>
  rw[ho]at h hj;dsimp only at h hj;unfold a8J at h;have hg:o.guard=none:=by
   have:=hj.1;unfold b2i at this;split at this
   ·assumption
   ·cases this
  rw[hg]at h;dsimp only at h;obtain⟨_,d,v,h1,h2,h3⟩:=c9I hE hj.1 hs h;exact⟨o,d,v,rfl,hj.2,.inl ⟨by simp[Region.wanted,hg],h2⟩,h1,h3⟩
section
theorem a3z(hE:EnvOk P G B0 E){ops:Array Oper}(hsel:Region.noSelect ops=true){k:St->Option R}{r:R}{Q:Exit->Act->World->Prop}(hK:S6 df G B0 M0 w0 gi k r (Q .normal))(hP:a88 df G B0 E.bad M0 w0 gi r Q)(hQ:∀(i:Nat) (o:Oper),ops[i]? = some o->∀c a v w,Q (.panic c) (a.put o.dst v) w->Q (.panic c) a w):
  ∀(n:Nat) (listed:Array Bool) (g:Gh) (st:St) (a:Act) (w:World),Sim df G B0 M0 w0 gi g st a w->b87 E ops n listed st k=some r->wpAny P .any ops Q n listed a w
 |0,listed,g,st,a,w,hs,h=>by
  unfold b87 at h;split at h
  ·rename_i hr;exact⟨hr,hK _ _ _ _ hs h⟩
  ·cases h
 |n+1,listed,g,st,a,w,hs,h=>by
  unfold b87 at h;split at h
  ·rename_i hr;exact⟨fun _=>hK _ _ _ _ hs h,fun i hi=>by rw[hr]at hi;cases hi⟩
  ·rename_i i rs hr;split at h
   ·rename_i j hf;have hj:=List.find?_some hf;have hm:=List.mem_of_find?_eq_some hf;obtain⟨o,d,v,ho,hfree,hy,hd,h⟩:=b6W hE hj hs h;exact wpAny_take ho hsel hfree (by rw[hr];simpa using hm) (fun c a w h=>hQ _ _ ho c a _ w h) hy (a3z hE hsel hK hP hQ n _ g _ _ w (hs.put o.dst hd) h)
   ·refine⟨fun h0=>(by rw[hr]at h0;cases h0),fun j hj=>?_⟩;rw[hr]at hj;exact wpOp_mono (fun a' w' h'=>h'.1) (a8O hE hs (fun g st a w hs h=>a3z hE hsel hK hP hQ n _ g st a w hs h) hP (a8C h j hj))
def KeepS(M0:Nat->Nat->Prop)(g:Gh)(l:List Nat)(w w':World):Prop:=(∀ad u,w.cell? ad=some u->¬u9 M0 g ad.block ad.off->w'.cell? ad=some u)/\(∀b es c,w.heap[b]? = some (.map es c)->¬u9 M0 g b 0->w'.heap[b]? = some (.map es c))/\∀r x b,w9 l r=true->g r=some x->x.blk=some b->w'.heap[b]? = w.heap[b]?
theorem KeepS.refl(M0:Nat->Nat->Prop)(g:Gh)(l:List Nat)(w:World):KeepS M0 g l w w:=⟨fun _ _ h _=>h,fun _ _ _ h _=>h,fun _ _ _ _ _ _=>rfl⟩
theorem Sim.keepS(hs:Sim df G B0 M0 w0 gi g st a w){l:List Nat}{g':Gh}{st':St}{a':Act}{w':World}(hs':Sim df G B0 (a2J M0 g l) w (g.off l).base g' st' a' w'):KeepS M0 g l w w':=by
 refine⟨fun ad u h1 h2=>(hs'.stp.1 ad u h1 fun h3=>h2 (a3k.1 (a4t.1 h3))).1,fun b es c h1 h2=>(hs'.stp.2 b es c h1 fun h3=>h2 (a3k.1 (a4t.1 h3))).1,fun r x b hm h1 h2=>hs'.ext.block b (hs.low r x b h1 h2).2.1 fun hX=>?_⟩;obtain⟨r',x',h4,h5⟩:=a1B.1 hX;obtain⟨h6,h7⟩:=Gh.off_some h4;have:=hs.inj _ _ _ _ _ h1 h7 h2 h5;rw[this,h6]at hm;cases hm
theorem c1A{a a':Act}{dst:Option Tmp}{v:Value}(h:a'.tmps=(a.put dst v).tmps){ds:List Nat}(hd:∀d,dst=some d->w9 ds d=true):a'.tmps.size=a.tmps.size/\∀t,w9 ds t=false->a'.tmps.getD t undef=a.tmps.getD t undef:=by
 cases dst with
 |none=>
  have h:a'.tmps=a.tmps:=h;rw[h];exact⟨rfl,fun _ _=>rfl⟩
 |some d=>
  have h:a'.tmps=a.tmps.setIfInBounds d v:=h;rw[h];refine⟨by simp,fun t ht=>?_⟩;have hne:d≠t:=fun e=>by
   have:=hd d rfl;rw[e,ht]at this;cases this
  simp[Array.getD_eq_getD_getElem?,Array.getElem?_setIfInBounds,hne]
def PanQ(df:List Deferred)(T:TypeId)(M0:Nat->Nat->Prop)(w0:World)(gi:Gh)(r:R)(Q:Exit->Act->World->Prop):Exit->Act->World->Prop:=fun e a w=>match e with
 |.normal=>Q .normal a w
 |.panic ch=>∃c,ch=d29 T c/\a.defers=df/\ExtX (Z4 gi) w0 w/\Step (u9 M0 gi) w0 (u9 M0 gi) w/\∃ρ st,BothC.pa c ρ st=some r
 |_=>False
theorem PanQ.pans{T:TypeId}{r:R}{Q:Exit->Act->World->Prop}:Pans df T M0 w0 gi r (PanQ df T M0 w0 gi r Q):=fun c _ _ h1 h2 h3 h4=>⟨c,rfl,h1,h2,h3,h4⟩
theorem PanQ.blind{T:TypeId}{r:R}{Q:Exit->Act->World->Prop}:∀c a dst v w,PanQ df T M0 w0 gi r Q (.panic c) (a.put dst v) w->PanQ df T M0 w0 gi r Q (.panic c) a w:=fun c a dst v w ⟨c',h1,h2,h3⟩=>⟨c',h1,by cases dst<;>exact h2,h3⟩
theorem PanQ.noOut{T:TypeId}{r:R}{Q:Exit->Act->World->Prop}:¬LetsOut (PanQ df T M0 w0 gi r Q):=fun⟨_,_,h⟩=>h
theorem PanQ.out{T:TypeId}{r:R}{Q:Exit->Act->World->Prop}(hP:Pans df T M0 w0 gi r Q):∀e a w,PanQ df T M0 w0 gi r Q e a w->Q e a w
 |.normal,_,_,h=>h
 |.panic _,a,w,⟨c,h1,h2,h3,h4,h5⟩=>by rw[h1];exact hP c a w h2 h3 h4 h5
theorem Pans.apart{T:TypeId}{r:R}{Q:Exit->Act->World->Prop}{g0:Gh}{st0:St}{a0:Act}{w1:World}(hs0:Sim df G B0 M0 w0 gi g0 st0 a0 w1)(l:List Nat)(hP:Pans df T M0 w0 gi r Q):Pans df T (a2J M0 g0 l) w1 (g0.off l).base r Q:=by
 intro c a w' hd hX hS hp;refine hP c a w' hd (hs0.ext.trans hX fun n hn hx=>?_) ⟨fun ad u hc hm=>?_,fun b es cc hc hm=>?_⟩ hp
 ·obtain⟨r',x',h4,h5⟩:=a1B.1 hx;obtain⟨h6,h7⟩:=Gh.off_some h4;rcases(hs0.low _ _ _ h7 h5).2.2 with h8|h8
  ·exact h8
  ·omega
 ·obtain⟨h4,h5⟩:=hs0.stp.1 ad u hc hm;exact⟨(hS.1 ad u h4 fun h'=>h5 (a3k.1 (a4t.1 h'))).1,hm⟩
 ·obtain⟨h4,h5⟩:=hs0.stp.2 b es cc hc hm;exact⟨(hS.2 b es cc h4 fun h'=>h5 (a3k.1 (a4t.1 h'))).1,hm⟩
theorem a3A(hE:EnvOk P G B0 E){ops:Array Oper}(hsel:Region.noSelect ops=true){k:St->Option R}{r:R}{Q:Exit->Act->World->Prop}(hK:S6 df G B0 M0 w0 gi k r (Q .normal))(hP:Pans df E.bad M0 w0 gi r Q)(hQ:∀c a dst v w,Q (.panic c) (a.put dst v) w->Q (.panic c) a w)(hL:¬LetsOut Q)
  {cl:List (Nat×List Nat)} (hcL:CL ops cl) {tl l ds:List Nat} {g0:Gh} {st0:St} {a0:Act} {w1:World} (hs0:Sim df G B0 M0 w0 gi g0 st0 a0 w1):
  ∀(n:Nat) (listed:Array Bool),Closed ops listed->(∀i d,listed.getD i true=false->a6F ops i=some d->w9 ds d=true)->∀(g:Gh) (st:St) (a:Act) (w:World),Sim df G B0 (a2J M0 g0 l) w1 (g0.off l).base g st a w->a.tmps.size=a0.tmps.size->(∀t,w9 ds t=false->a.tmps.getD t undef=a0.tmps.getD t undef)->
   b88 E ops cl tl l ds st0 n listed st k=some r->Y4 P ops Q (w9 tl) (KeepS M0 g0 l w1) n listed a w
 |0,listed,hcl,hds,g,st,a,w,hs,hz,ht,h=>by
  unfold b88 at h;split at h
  ·rename_i hr;exact⟨hr,hK _ _ _ _ (hs0.again l ds hs (by rw[<-hs.sz,<-hs0.sz,hz]) ht) h⟩
  ·cases h
 |n+1,listed,hcl,hds,g,st,a,w,hs,hz,ht,h=>by
  have hds':∀j i d,(listed.setIfInBounds j true).getD i true=false->a6F ops i=some d->w9 ds d=true:=fun j i d h1 h2=>by
   refine hds i d ?_ h2;by_cases hij:j=i
   ·subst hij;rcases Nat.lt_or_ge j listed.size with h'|h'
    ·simp[Array.getD_eq_getD_getElem?,h']at h1
    ·simp[Array.getD_eq_getD_getElem?,Array.getElem?_eq_none h']at h1
   ·rw[getD_set_ne true hij]at h1;exact h1
  unfold b88 at h;split at h
  ·rename_i hr;exact⟨fun _=>hK _ _ _ _ (hs0.again l ds hs (by rw[<-hs.sz,<-hs0.sz,hz]) ht) h,fun i hi=>by rw[hr]at hi;cases hi⟩
  ·rename_i i rs hr;split at h
   ·rename_i hall;have hPP:=a3z hE hsel hK hP.up (fun _ _ _ c a v w=>hQ c a _ v w) _ listed _ _ _ _ (hs0.again l ds hs (by rw[<-hs.sz,<-hs0.sz,hz]) ht) h;rcases Bool.or_eq_true_iff.1 hall with hall|hall
    ·refine c2e (fun j hj=>?_) hPP;rw[hr]at hj;exact List.all_eq_true.1 hall j hj
    ·refine a7a _ _ _ _ (fun j o h1 h2 h3=>?_) (hs0.keepS hs) hL hPP;have:=List.all_eq_true.1 hall j (List.mem_range.2 (Array.getElem?_eq_some_iff.1 h3).1);rw[h1,h2,h3]at this;simpa using this
   ·split at h
    ·rename_i j hf;have hj:=List.find?_some hf;have hm:=List.mem_of_find?_eq_some hf;simp only[Bool.and_eq_true]at hj;obtain⟨o,d,v,ho,hfree,hy,hd,h⟩:=b6W hE hj.1.1 hs h;have hsl:=c1A (a:=a) (a':=a.put o.dst v) (dst:=o.dst) (v:=v) rfl (ds:=ds) fun d hd=>hds j d (mem_ready.1 (by rw[hr];simpa using hm)).1 (by unfold a6F;rw[ho];exact hd)
     exact a7b hcL hcl ho hsel hfree (by rw[hr];simpa using hm) hj.1.2 (fun c a w h=>hQ c a _ _ w h) hy.yieldsIf (hs0.keepS hs) (a3A hE hsel hK hP hQ hL hcL hs0 n _ (hcl.next (by rw[hr];simpa using hm)) (hds' _) g _ _ w (hs.put o.dst hd) (hsl.1.trans hz) (fun t h=>(hsl.2 t h).trans (ht t h)) h)
    ·refine⟨fun h0=>(by rw[hr]at h0;cases h0),fun j hj=>?_⟩;rw[hr]at hj;have h:=a8C h j hj;cases htl:w9 tl j with
     |true=>
      rw[htl]at h;exact wpOp_mono (fun a' w' h'=> .inl ⟨rfl,h'.1⟩) (a8O hE (hs0.again l ds hs (by rw[<-hs.sz,<-hs0.sz,hz]) ht) (fun g st a w hs h=>a3z hE hsel hK hP.up (fun _ _ _ c a v w=>hQ c a _ v w) n _ g st a w hs h) hP.up h)
     |false=>
      rw[htl]at h;refine wpOp_mono (fun a' w' h'=> .inr ⟨rfl,?_⟩) (a8O hE hs (K:=fun a' w'=>∃g' st',Sim df G B0 (a2J M0 g0 l) w1 (g0.off l).base g' st' a' w'/\b88 E ops cl tl l ds st0 n (listed.setIfInBounds j true) st' k=some r) (fun g st a w hs h=>⟨g,st,hs,h⟩) (Pans.apart hs0 l hP).up h);obtain⟨⟨g',st',hs',h'⟩,v,hv⟩:=h';have hsl:=c1A hv (ds:=ds) fun d hd=>hds j d (mem_ready.1 (by rw[hr];exact hj)).1 hd
      exact⟨hs0.keepS hs',a3A hE hsel hK hP hQ hL hcL hs0 n _ (hcl.next (by rw[hr];exact hj)) (hds' _) g' st' a' w' hs' (hsl.1.trans hz) (fun t h=>(hsl.2 t h).trans (ht t h)) h'⟩
theorem b1w{l:List Nat}{hp:List (Nat×Blk)}{r:Nat}{b:Blk}(h:v6 (a1l l id hp) r=some b):w9 l r=true/\v6 hp r=some b:=by
 obtain⟨x,h1,e⟩:=a1b l id hp r b h;have e2:b=x:=e;subst e2;refine⟨?_,h1⟩;clear h1 e;induction hp with
 |nil=>cases h
 |cons p hp ih=>
  obtain⟨j,y⟩:=p;unfold a1l at h;split at h
  ·rename_i hm;rw[v7]at h;cases hb:Nat.beq j r with
   |true=>obtain rfl:=Nat.eq_of_beq_eq_true hb;exact hm
   |false=>rw[hb]at h;exact ih h
  ·exact ih h
theorem KeepS.keepR{l:List Nat}{w':World}(h:KeepS M0 g l w w'):KeepR (u9 M0 g) g (a1l l id st.hp) w w':=
 ⟨h.1,h.2.1,fun r blk x b h1 h2 h3 _=>h.2.2 r x b (b1w h1).1 h2 h3⟩
theorem Sim.only(hs:Sim df G B0 M0 w0 gi g st a w)(l:List Nat):Sim df G B0 M0 w0 gi g {st with hp:=a1l l id st.hp} a w:=
 {hs with hp:=fun r blk hb=>hs.hp r blk (b1w hb).2}
end
theorem b3W(hE:EnvOk P G B0 E)(hs:Sim df G B0 M0 w0 gi g st a w){l:List Nat}{ops:Array Oper}{o:Oper}{k:St->Option R}{r:R}(h:b3V E l o st k=some r):
  ∃d v,YieldsIf P ops (KeepS M0 g l w) o v a/\RepD (u9 M0 g) w g d v/\k (st.put o.dst d)=some r:=by
 unfold b3V at h;split at h
 ·rename_i ho;have hg:o.guard=none:=by
   unfold b3Z at ho;split at ho
   ·assumption
   ·cases ho
  simp only[F5]at h;obtain⟨d,v,h1,h2,h3⟩:=a5z hE (hs.only l) h;exact⟨d,v,.inl ⟨by simp[Region.wanted,hg],fun w' hS=>h3 w' (KeepS.keepR hS)⟩,h2,h1⟩
 ·cases h
section
end
theorem a65(hE:EnvOk P G B0 E){ops:Array Oper}(hsel:Region.noSelect ops=true){Q:Exit->Act->World->Prop}(hQ:∀c a dst v w,Q (.panic c) (a.put dst v) w->Q (.panic c) a w){cl:List (Nat×List Nat)}(hcL:CL ops cl){tl l:List Nat}{kk:Nat->Array Bool->St->Option R}{r:R}
  (hK:∀n listed st a,Closed ops listed->Sim df G B0 M0 w0 gi g st a w->kk n listed st=some r->Y4 P ops Q (w9 tl) (KeepS M0 g l w) n listed a w):
  ∀(as:List Nat) (n:Nat) (listed:Array Bool) (st:St) (a:Act),Closed ops listed->Sim df G B0 M0 w0 gi g st a w->b6X E ops cl tl l as n listed st kk=some r->Y4 P ops Q (w9 tl) (KeepS M0 g l w) n listed a w
 |[],n,listed,st,a,hcl,hs,h=>hK n listed st a hcl hs h
 |i :: rest,0,listed,st,a,hcl,hs,h=>by unfold b6X at h;cases h
 |i :: rest,n+1,listed,st,a,hcl,hs,h=>by
  unfold b6X at h;split at h
  ·rename_i hb;simp only[Bool.and_eq_true]at hb;split at h
   ·rename_i o ho;obtain⟨d,v,hy,hd,h⟩:=b3W (ops:=ops) hE hs h;exact a7b hcL hcl ho hsel hb.1.1 hb.1.2 hb.2 (fun c a w h=>hQ c a _ _ w h) hy (KeepS.refl _ _ _ _) (a65 hE hsel hQ hcL hK rest n _ _ _ (hcl.next (by simpa using hb.1.2)) (hs.put o.dst hd) h)
   ·cases h
  ·cases h
section
theorem c0O(hE:EnvOk P G B0 E){id:Nat}{ops:Array Oper}(hsel:Region.noSelect ops=true){l:List Nat}{k:St->Option R}{r:R}{Q:Exit->Act->World->Prop}(hK:S6 df G B0 M0 w0 gi k r (Q .normal))(hs:Sim df G B0 M0 w0 gi g st a w)
  (h:d3q E ops l st k=some r):(Code.region id ops true).wp P (PanQ df E.bad M0 w0 gi r Q) a w:=by
 have hs1:=hs.later (Ext.refl w).drew;have hds:∀(listed:Array Bool) i d,listed.getD i true=false->a6F ops i=some d->w9 (c87 ops listed) d=true:=fun listed i d hl hd=>by
  unfold a6F at hd;cases ho:ops[i]? with
  |none=>rw[ho]at hd;cases hd
  |some o=>
   refine C0.2 (List.mem_filterMap.2 ⟨i,List.mem_range.2 (Array.getElem?_eq_some_iff.1 ho).1,?_⟩);rw[hl];exact hd
 unfold d3q at h;simp only[a9f,a3x]at h;have hcL:=a2X (ops:=ops) (List.range ops.size) [] fun i j h=>by cases h
 refine a7c (tail:=w9 (b2j ops (b26 ops (List.range ops.size) []) (c6T E ops))) (S:=KeepS M0 g l {w with drawn:=w.drawn+1}) hE.mixed ?_;refine a65 hE hsel (Q:=PanQ df E.bad M0 w0 gi r Q) PanQ.blind hcL (fun n listed st a hcl hs h=>?_) _ _ _ _ _ Closed.start hs1 h;exact a3A hE hsel (Q:=PanQ df E.bad M0 w0 gi r Q) (fun g st a w hs h=>hK g st a w hs h) PanQ.pans PanQ.blind PanQ.noOut hcL hs n listed hcl (hds listed) _ _ _ _ (hs.apart hE l) rfl (fun _ _=>rfl) h
theorem c0Q(hE:EnvOk P G B0 E){id:Nat}{ops:Array Oper}(hsel:Region.noSelect ops=true){l as:List Nat}{k:St->Option R}{r:R}{Q:Exit->Act->World->Prop}(hK:S6 df G B0 M0 w0 gi k r (Q .normal))(hs:Sim df G B0 M0 w0 gi g st a w)
  (h:d3s E ops l as st k=some r):(Code.region id ops true).wp P (PanQ df E.bad M0 w0 gi r Q) a w:=by
 have hs1:=hs.later (Ext.refl w).drew;have hds:∀(listed:Array Bool) i d,listed.getD i true=false->a6F ops i=some d->w9 (c87 ops listed) d=true:=fun listed i d hl hd=>by
  unfold a6F at hd;cases ho:ops[i]? with
  |none=>rw[ho]at hd;cases hd
  |some o=>
   refine C0.2 (List.mem_filterMap.2 ⟨i,List.mem_range.2 (Array.getElem?_eq_some_iff.1 ho).1,?_⟩);rw[hl];exact hd
 unfold d3s at h;simp only[a9f,a3x]at h;have hcL:=a2X (ops:=ops) (List.range ops.size) [] fun i j h=>by cases h
 refine a7c (tail:=w9 (b2j ops (b26 ops (List.range ops.size) []) as)) (S:=KeepS M0 g l {w with drawn:=w.drawn+1}) hE.mixed ?_;refine a65 hE hsel (Q:=PanQ df E.bad M0 w0 gi r Q) PanQ.blind hcL (fun n listed st a hcl hs h=>?_) _ _ _ _ _ Closed.start hs1 h;exact a3A hE hsel (Q:=PanQ df E.bad M0 w0 gi r Q) (fun g st a w hs h=>hK g st a w hs h) PanQ.pans PanQ.blind PanQ.noOut hcL hs n listed hcl (hds listed) _ _ _ _ (hs.apart hE l) rfl (fun _ _=>rfl) h
theorem b1R{P:Program}{ops:Array Oper}{Q:Exit->Act->World->Prop}{S:World->Prop}{tail tail':Nat->Bool}(ht:∀i,tail i=true->tail' i=true):∀(fuel:Nat) (listed:Array Bool) (a:Act) (w:World),Y4 P ops Q tail S fuel listed a w->Y4 P ops Q tail' S fuel listed a w
 |0,_,_,_,h=>h
 |fuel+1,_,_,_,h=>⟨h.1,fun i hi=>wpOp_mono (fun a' w' h'=>by
   cases ht':tail' i with
   |true=>
    rcases h' with h'|h'
    ·exact .inl ⟨rfl,h'.2⟩
    ·exact .inl ⟨rfl,a5A _ _ _ _ h'.2.2⟩
   |false=>
    rcases h' with h'|h'
    ·rw[ht i h'.1]at ht';cases ht'
    ·exact .inr ⟨rfl,h'.2.1,b1R ht fuel _ a' w' h'.2.2⟩) (h.2 i hi)⟩
theorem a3X{ops:Array Oper}{o:Oper}{c:Bool}(hs:Sim df G B0 M0 w0 gi g st a w)(h:a42 ops o st=some c):Region.wanted o (yielded ops a.tmps)=c:=by
 unfold a42 at h;split at h
 ·rename_i hg;cases h;simp[Region.wanted,hg]
 ·rename_i j b hg;split at h
  ·rename_i oj hj;split at h
   ·rename_i t ht;split at h
    ·rename_i hc;have e:=Option.some.inj h;rw[<-e];have hv:a.tmps.getD t undef = .bool true:=evt hs hc;have hlt2:t<a.tmps.size:=a5r hs hc;have hy:yielded ops a.tmps j=some true:=by
      simp only[yielded,hj,Option.bind_some,ht,a4Y hv hlt2]
     cases b<;>simp[Region.wanted,hg,hy]
    ·rename_i hc;have e:=Option.some.inj h;rw[<-e];have hv:a.tmps.getD t undef = .bool false:=evt hs hc;have hlt2:t<a.tmps.size:=a5r hs hc;have hy:yielded ops a.tmps j=some false:=by
      simp only[yielded,hj,Option.bind_some,ht,a4Y hv hlt2]
     cases b<;>simp[Region.wanted,hg,hy]
    ·rename_i hc;cases h;have hv:a.tmps.getD t undef=undef:=evt hs hc;have hlt2:t<a.tmps.size:=a5r hs hc;have hy:yielded ops a.tmps j=none:=by
      simp only[yielded,hj,Option.bind_some,ht,a4Y hv hlt2];rfl
     simp[Region.wanted,hg,hy]
    ·cases h
   ·cases h
  ·cases h
end
theorem b3Y(hE:EnvOk P G B0 E)(hs:Sim df G B0 M0 w0 gi g st a w){l:List Nat}{ops:Array Oper}{o:Oper}{k:St->Option R}{r:R}(h:b3X E ops l o st k=some r):
  ∃d v,YieldsIf P ops (KeepS M0 g l w) o v a/\RepD (u9 M0 g) w g d v/\k (st.put o.dst d)=some r:=by
 unfold b3X at h;split at h
 ·rename_i hg;have hw:=a3X hs hg;split at h
  ·simp only[F5]at h;obtain⟨d,v,h1,h2,h3⟩:=a5z hE (hs.only l) h;exact⟨d,v,.inl ⟨hw,fun w' hS=>h3 w' (KeepS.keepR hS)⟩,h2,h1⟩
  ·cases h
 ·rename_i hg;have hw:=a3X hs hg;simp only[F5]at h;exact⟨.skip,undef,.inr ⟨hw,rfl⟩,rfl,h⟩
 ·cases h
section
end
theorem b1Q(hE:EnvOk P G B0 E){ops:Array Oper}(hsel:Region.noSelect ops=true){Q:Exit->Act->World->Prop}(hQ:∀c a dst v w,Q (.panic c) (a.put dst v) w->Q (.panic c) a w){cl:List (Nat×List Nat)}(hcL:CL ops cl){tl l:List Nat}{kk:Nat->Array Bool->St->Option R}{r:R}
  (hK:∀n listed st a,Closed ops listed->Sim df G B0 M0 w0 gi g st a w->kk n listed st=some r->Y4 P ops Q (w9 tl) (KeepS M0 g l w) n listed a w):
  ∀(as:List Nat) (n:Nat) (listed:Array Bool) (st:St) (a:Act),Closed ops listed->Sim df G B0 M0 w0 gi g st a w->c1U E ops cl tl l as n listed st kk=some r->Y4 P ops Q (w9 tl) (KeepS M0 g l w) n listed a w
 |[],n,listed,st,a,hcl,hs,h=>hK n listed st a hcl hs h
 |i :: rest,0,listed,st,a,hcl,hs,h=>by unfold c1U at h;cases h
 |i :: rest,n+1,listed,st,a,hcl,hs,h=>by
  unfold c1U at h;split at h
  ·rename_i hb;simp only[Bool.and_eq_true]at hb;split at h
   ·rename_i o ho;obtain⟨d,v,hy,hd,h⟩:=b3Y (ops:=ops) hE hs h;exact a7b hcL hcl ho hsel hb.1.1 hb.1.2 hb.2 (fun c a w h=>hQ c a _ _ w h) hy (KeepS.refl _ _ _ _) (b1Q hE hsel hQ hcL hK rest n _ _ _ (hcl.next (by simpa using hb.1.2)) (hs.put o.dst hd) h)
   ·cases h
  ·cases h
section
theorem c1l{q:Nat->Bool}{l:List Nat}{i:Nat}(h:w9 (l.filter q) i=true):w9 l i=true:=C0.2 (List.mem_filter.1 (C0.1 h)).1
theorem d3u(ops:Array Oper)(listed:Array Bool):∀i d,listed.getD i true=false->a6F ops i=some d->w9 (c87 ops listed) d=true:=fun i d hl hd=>by
 unfold a6F at hd;cases ho:ops[i]? with
 |none=>rw[ho]at hd;cases hd
 |some o=>
  refine C0.2 (List.mem_filterMap.2 ⟨i,List.mem_range.2 (Array.getElem?_eq_some_iff.1 ho).1,?_⟩);rw[hl];exact hd
theorem a3a(hE:EnvOk P G B0 E){ops:Array Oper}(hsel:Region.noSelect ops=true){Q:Exit->Act->World->Prop}{k:St->Option R}{r:R}(hK:S6 df G B0 M0 w0 gi k r (Q .normal))(hP:Pans df E.bad M0 w0 gi r Q)(hQ:∀c a dst v w,Q (.panic c) (a.put dst v) w->Q (.panic c) a w)(hL:¬LetsOut Q)
  {cl:List (Nat×List Nat)} (hcL:CL ops cl) {l:List Nat}:∀(f:Nat) (tl0:List Nat) (n:Nat) (listed:Array Bool) (st:St) (a:Act),Closed ops listed->Sim df G B0 M0 w0 gi g st a w->a8P E ops cl l f tl0 n listed st k=some r->Y4 P ops Q (w9 tl0) (KeepS M0 g l w) n listed a w
 |0,_,_,_,_,_,_,_,h=>by unfold a8P at h;cases h
 |f+1,tl0,n,listed,st,a,hcl,hs,h=>by
  unfold a8P at h;simp only[a3x]at h;refine b1R (tail:=w9 (c6R cl tl0 (c6S E ops listed st))) (fun i hi=>c1l hi) _ _ _ _ ?_;refine b1Q hE hsel hQ hcL (fun n listed st a hcl hs h=>?_) _ _ _ _ _ hcl hs h;split at h
  ·rename_i t _;split at h
   ·rename_i c hc;simp only[F5]at h;have hv:=RepD.bool (evt hs hc);have hre:Sim df G B0 M0 w0 gi g (st.put (some t) (.bl c)) a w:=hs.reput (RepD0.toD (d:= .bl c) hv);rcases M6 h with⟨e,h2⟩|⟨e,h2⟩
    ·subst e;exact a3a hE hsel hK hP hQ hL hcL f _ _ _ _ _ hcl hre h2
    ·subst e;exact a3a hE hsel hK hP hQ hL hcL f _ _ _ _ _ hcl hre h2
   ·cases h
  ·split at h
   ·exact a3A hE hsel hK hP hQ hL hcL hs n listed hcl (d3u ops listed) _ _ _ _ (hs.apart hE l) rfl (fun _ _=>rfl) h
   ·exact a3a hE hsel hK hP hQ hL hcL f _ _ _ _ _ hcl hs h
theorem c0P(hE:EnvOk P G B0 E){id:Nat}{ops:Array Oper}(hsel:Region.noSelect ops=true){l:List Nat}{k:St->Option R}{r:R}{Q:Exit->Act->World->Prop}(hK:S6 df G B0 M0 w0 gi k r (Q .normal))(hs:Sim df G B0 M0 w0 gi g st a w)
  (h:d3r E ops l st k=some r):(Code.region id ops true).wp P (PanQ df E.bad M0 w0 gi r Q) a w:=by
 have hs1:=hs.later (Ext.refl w).drew;unfold d3r at h;simp only[a9f]at h;have hcL:=a2X (ops:=ops) (List.range ops.size) [] fun i j h=>by cases h
 refine a7c (tail:=w9 (List.range ops.size)) (S:=KeepS M0 g l {w with drawn:=w.drawn+1}) hE.mixed ?_;exact a3a hE hsel (Q:=PanQ df E.bad M0 w0 gi r Q) (fun g st a w hs h=>hK g st a w hs h) PanQ.pans PanQ.blind PanQ.noOut hcL _ _ _ _ _ _ Closed.start hs1 h
theorem c4U(hE:EnvOk P G B0 E){id:Nat}{ops:Array Oper}(hsel:Region.noSelect ops=true){k:St->Option R}{r:R}{Q:Exit->Act->World->Prop}(hK:S6 df G B0 M0 w0 gi k r (Q .normal))(hs:Sim df G B0 M0 w0 gi g st a w)
  (h:b87 E ops ops.size (Array.replicate ops.size false) st k=some r):(Code.region id ops true).wp P (PanQ df E.bad M0 w0 gi r Q) a w:=by
 have hs1:=hs.later (Ext.refl w).drew;exact wp_region_any hE.mixed (a3z hE hsel (Q:=PanQ df E.bad M0 w0 gi r Q) (fun g st a w hs h=>hK g st a w hs h) PanQ.pans.up (fun _ _ _ c a v w=>PanQ.blind c a _ v w) _ _ _ _ _ _ hs1 h)
theorem c0R(hE:EnvOk P G B0 E){id:Nat}{ops:Array Oper}(hsel:Region.noSelect ops=true){hh:Hint}{k:St->Option R}{r:R}{Q:Exit->Act->World->Prop}(hK:S6 df G B0 M0 w0 gi k r (Q .normal))(hs:Sim df G B0 M0 w0 gi g st a w)
  (h:d3t E ops hh st k=some r):(Code.region id ops true).wp P (PanQ df E.bad M0 w0 gi r Q) a w:=by
 unfold d3t at h;split at h
 ·exact c0O hE hsel hK hs h
 ·exact c0P hE hsel hK hs h
 ·exact c4U hE hsel hK hs h
 ·exact c0Q hE hsel hK hs h
end
end
end
section
section
variable{P:Program}{df:List Deferred}{G:World->Prop}{B0:Nat}{E:Env}{M:Nat->Nat->Prop}{M0:Nat->Nat->Prop}{w0:World}{gi g:Gh}{st:St}{a:Act}{w:World}
def Ex.toExit:Ex->Exit | .normal=> .normal | .exit id=> .exit id | .ret=> .ret
def Leaves{R:Type}(df:List Deferred)(G:World->Prop)(B0:Nat)(M0:Nat->Nat->Prop)(w0:World)(gi:Gh)(k:Ex->St->Option R)(r:R)(Q:Exit->Act->World->Prop):Prop:=∀e g st a w,Sim df G B0 M0 w0 gi g st a w->k e st=some r->Q e.toExit a w
theorem Sim.hard(hs:Sim df G B0 M0 w0 gi g st a w)(s:Nat):∃g',Sim df G B0 M0 w0 gi g' (st.hard s) a w:=by
 unfold St.hard;split
 ·rename_i q hd;split
  ·rename_i e t ex xs hb;obtain⟨gx,hg,hz,cs,hown,hblk,hlo,hel⟩:=hs.hp _ _ hb;have hnb:=a4K hown;refine⟨_,hs.gone (fun x h1 h2=>?_) (φ:=snap q t xs) (fun d v hst hdv=>?_) fun _ _=>rfl⟩
   ·have:=hs.pin q x h1 h2;rw[hg]at this;cases this;exact hnb h2
   ·refine RepD0.snap hg hst (fun r hr=>Gh.set_other _ _ hr) hnb ?_ hdv;refine RepC.toV (t:= .sl t) rfl (RepC.of_own hz hown (fun b o hb2 _ hm=>?_) fun i hi=>RepC.step hst _ _ _ (hel i hi));rcases hm with h|⟨r',y,h1,h2,h3⟩
    ·exact hs.m0x h hg (by rw[hblk];exact hb2)
    ·by_cases hr:r'=q
     ·subst hr;rw[Gh.set_same]at h1;cases h1
     ·rw[Gh.set_other _ _ hr]at h1;exact hr (hs.inj _ _ _ _ _ h1 hg h2 (by rw[hblk];exact hb2))
  ·exact⟨g,hs⟩
 ·exact⟨g,hs⟩
theorem Sim.hards:∀(l:List Nat) {g:Gh} {st:St},Sim df G B0 M0 w0 gi g st a w->∃g',Sim df G B0 M0 w0 gi g' (St.hards l st) a w
 |[],g,_,h=>⟨g,h⟩
 |s :: l,_,st,h=>by
  obtain⟨g',h'⟩:=h.hard s;exact Sim.hards l h'
theorem Sim.setNil(hs:Sim df G B0 M0 w0 gi g st a w){r j:Nat}{d:D}(hd:RepD0 (u9 M0 g) w g d (.slice none 0 0)):Sim df G B0 M0 w0 gi g (st.setNil r j d) a w:=by
 unfold St.setNil;split
 ·rename_i cs hb;split
  ·rename_i hj;refine{hs with hp:=fun r' blk h=>?_};change v6 (a4S st.hp r (.cells (cs.set j d))) r'=some blk at h;by_cases hr:r'=r
   ·subst hr;rw[R3]at h;cases h;obtain⟨y,h1,b,vs,el,e,h2,h3⟩:=hs.hp _ _ hb;obtain⟨v,hv,hn⟩:=h3.get hj;have hn:v = .slice none 0 0:=hn;subst hn;exact⟨y,h1,b,vs,el,e,h2,h3.setL hv hd⟩
   ·rw[H9 _ _ hr]at h;exact hs.hp r' blk h
  ·exact hs
 ·exact hs
theorem Sim.nilRow(hs:Sim df G B0 M0 w0 gi g st a w)(r j q:Nat)(e:TypeId)(t:Ty):∃g',Sim df G B0 M0 w0 gi g' (st.nilRow r j q e t) a w:=by
 unfold St.nilRow;split
 ·exact⟨g,hs.setNil (RepC.toV (t:= .sl t) rfl ⟨none,0,rfl,Nat.le_refl _,Nat.zero_le _,fun i hi=>absurd hi (by simp)⟩)⟩
 ·split
  ·rename_i hc;simp only[Bool.and_eq_true,Nat.blt_eq]at hc;refine⟨_,Sim.setNil (hs.newB (r:=q) (z:=⟨none,0,.slice none 0 0⟩) hc.1 (Ext.refl w) (blk:= .row e t (Nat.ble 950000 q) []) (fun b hb=>by cases hb) (fun hst=>⟨hc.2,[],World.ownsRow_nil _ _ _ _,rfl,(by cases Nat.ble 950000 q<;>simp),fun i hi=>absurd hi (by simp)⟩)) ⟨_,none,0,0,Gh.set_same _ _ _,rfl,rfl⟩⟩
  ·exact⟨g,hs⟩
 ·exact⟨g,hs⟩
theorem Sim.nils:∀(l:List (Nat×Nat×Nat×TypeId×Ty)) {g:Gh} {st:St},Sim df G B0 M0 w0 gi g st a w->∃g',Sim df G B0 M0 w0 gi g' (St.nils l st) a w
 |[],g,_,h=>⟨g,h⟩
 |s :: l,_,st,h=>by
  obtain⟨g',h'⟩:=h.nilRow s.1 s.2.1 s.2.2.1 s.2.2.2.1 s.2.2.2.2;exact Sim.nils l h'
theorem Sim.keep(hs:Sim df G B0 M0 w0 gi g st a w)(f h:List Nat):Sim df G B0 M0 w0 gi g (st.keep f h) a w:=
 {hs with
  fr:=fun t d hd=>by
   obtain⟨x,h1,rfl⟩:=a1b f nob st.fr t d hd;exact a4J (hs.fr t x h1)
  inb:=fun t d hd=>by
   obtain⟨x,h1,_⟩:=a1b f nob st.fr t d hd;exact hs.inb t x h1
  hp:=fun r blk hb=>by
   obtain⟨x,h1,rfl⟩:=a1b h Blk.past st.hp r blk hb;obtain⟨y,h2,h3⟩:=hs.hp r _ h1;exact⟨y,h2,h3.past⟩}
theorem Sim.head(h:Sim df G B0 M0 w0 gi g st a w)(hh:Hint):∃g',Sim df G B0 M0 w0 gi g' (st.head hh) a w:=by
 obtain⟨g',h'⟩:=h.hards hh.dm;obtain⟨g2,h2⟩:=h'.nils hh.nl;exact⟨g2,h2.keep _ _⟩
theorem Sim.tail(h:Sim df G B0 M0 w0 gi g st a w)(hh:Hint):Sim df G B0 M0 w0 gi g (st.tail hh) a w:=h.keep _ _
theorem a2o{α:Type}(ks:List Nat):∀(l:List (Nat×α)) (i:Nat) (y:α),v6 (a2n ks l) i=some y->v6 l i=some y/\w9 ks i=false
 |[],_,_,h=>by cases h
 |(j,x) :: l,i,y,h=>by
  unfold a2n at h;rw[v7];cases hb:Nat.beq j i with
  |true=>
   obtain rfl:=Nat.eq_of_beq_eq_true hb;split at h
   ·rename_i hm;exact absurd hm (by rw[(a2o ks l _ _ h).2];simp)
   ·rename_i hm;rw[v7,hb]at h;exact⟨h,hm⟩
  |false=>
   split at h
   ·exact a2o ks l i y h
   ·rw[v7,hb]at h;exact a2o ks l i y h
def FrameT(ds:List Nat)(a a':Act):Prop:=a'.defers=a.defers/\a'.tmps.size=a.tmps.size/\∀t,w9 ds t=false->a'.tmps.getD t undef=a.tmps.getD t undef
theorem FrameT.put{ds:List Nat}{a a':Act}(h:FrameT ds a a'){dst:Option Tmp}(hd:∀t,dst=some t->w9 ds t=true)(v:Value):FrameT ds a (a'.put dst v):=by
 cases dst with
 |none=>exact h
 |some d=>
  refine⟨h.1,?_,fun t ht=>?_⟩
  ·show(a'.tmps.setIfInBounds d v).size=_;rw[Array.size_setIfInBounds];exact h.2.1
  ·have hne:d≠t:=fun e=>by
    have:=hd d rfl;rw[e,ht]at this;cases this
   rw[<-h.2.2 t ht];show(a'.tmps.setIfInBounds d v).getD t undef=_;simp[Array.getD_eq_getD_getElem?,Array.getElem?_setIfInBounds,hne]
theorem a4r{ops:Array Oper}{C:World->Prop}{K:Act->Prop}{ds:List Nat}{a0:Act}:∀(l:List Oper) (a:Act),(∀o∈l,∀t,o.dst=some t->w9 ds t=true)->FrameT ds a0 a->wpQuiet P ops C K l a->wpQuiet P ops C (fun a'=>K a'/\FrameT ds a0 a') l a
 |[],a,_,hf,h=>⟨h,hf⟩
 |o :: l,a,hd,hf,h=>by
  unfold wpQuiet at h ⊢;have hd1:=hd o List.mem_cons_self;have hd2:=fun o' (h:o'∈l)=>hd o' (List.mem_cons_of_mem _ h)
  split
  ·rename_i hw;rw[if_pos hw]at h;obtain⟨v,h1,h2⟩:=h;exact⟨v,h1,a4r l _ hd2 (hf.put hd1 v) h2⟩
  ·rename_i hw;rw[if_neg hw]at h;exact a4r l _ hd2 (hf.put hd1 _) h
theorem a1U{ops:Array Oper}{C:World->Prop}{Q:Exit->Act->World->Prop}:∀(l:List Oper) (a:Act) (w:World),C w->wpQuiet P ops C (fun a'=>∀w',C w'->Q .normal a' w') l a->wpList P ops Q l a w
 |[],a,w,hC,h=>h w hC
 |o :: l,a,w,hC,h=>by
  unfold wpQuiet at h;unfold wpList;split
  ·rename_i hw;rw[if_pos hw]at h;obtain⟨v,h1,h2⟩:=h;refine .inl ?_;have:=h1 w hC;unfold Oper.quietAt Oper.quietUpon at this;unfold Oper.wp;split at this
   ·rename_i u w' he;obtain⟨rfl,rfl⟩:=this;rw[he];exact a1U l _ _ hC h2
   ·rename_i w' he;obtain⟨rfl,rfl⟩:=this;rw[he];exact a1U l _ _ hC h2
   ·rename_i f args w' he;obtain⟨rfl,hcl⟩:=this;rw[he,Oper.upon_enter];refine hcl.mono ?_;rintro e w'' ⟨rfl,hC'⟩;exact a1U l _ _ hC' h2
   ·exact this.elim
  ·rename_i hw;rw[if_neg hw]at h;exact a1U l _ w hC h
theorem c0v:∀{l:List (Nat×D)},a4u id l=l
 |[]=>rfl
 |p :: l=>by show(p.1,id p.2) :: a4u id l=_;rw[c0v];rfl
theorem a5C{ops:Array Oper}{C:World->Prop}{K K':Act->Prop}(h:∀a,K a->K' a):∀(l:List Oper) (a:Act),wpQuiet P ops C K l a->wpQuiet P ops C K' l a
 |[],a,hh=>h a hh
 |o :: l,a,hh=>by
  unfold wpQuiet at hh ⊢;split
  ·rename_i hw;rw[if_pos hw]at hh;exact Oper.quiet_mono (fun a=>a5C h l a) hh
  ·rename_i hw;rw[if_neg hw]at hh;exact a5C h l _ hh
theorem c1b{R:Type}[BothC R](hE:EnvOk P G B0 E){id:Nat}{ops:Array Oper}{draw:Bool}{t:Nat}{k:St->Option R}{r:R}{Q:Exit->Act->World->Prop}(hK:S6 df G B0 M0 w0 gi k r (Q .normal))(hs:Sim df G B0 M0 w0 gi g st a w)
  (h:c1a E ops draw t st k=some r):(Code.region id ops draw).wp P Q a w:=by
 unfold c1a at h;split at h
 case h_2=>cases h
 rename_i hq;simp only[Bool.and_eq_true]at hq;obtain⟨b,hb,h⟩:=F9 h;simp only[a3x,a3q,c0v,F5]at h;have hds:∀o∈ops.toList,∀t,o.dst=some t->w9 (ops.toList.filterMap (·.dst)) t=true:=fun o ho t hd=>C0.2 (List.mem_filterMap.2 ⟨o,ho,hd⟩)
 have key:∀(w':World),Ext w w'->∀a',FrameT (ops.toList.filterMap (·.dst)) a a'->a'.tmps.getD t undef = .bool b->Q .normal a' w':=by
  intro w' hE' a' hf hv;have h1:=hs.later hE';have h2:Sim df G B0 M0 w0 gi g ⟨st.n,a2n (ops.toList.filterMap (·.dst)) st.fr,st.hp⟩ a' w':={h1 with
   defers:=hf.1.trans h1.defers
   sz:=hf.2.1.trans h1.sz
   fr:=fun t d hd=>by
    obtain⟨h2,h3⟩:=a2o _ _ _ _ hd;rw[hf.2.2 t h3];exact h1.fr t d h2
   inb:=fun t d hd=>h1.inb t d (a2o _ _ _ _ hd).1}
  exact hK _ _ _ _ (h2.reput (t:=t) (d:= .v .bool b) (by rw[hv];exact J5 b)) h
 have hquiet:∀w1,Ext w w1->wpQuiet P ops (fun w'=>Ext w1 w') (fun a'=>∀w',Ext w1 w'->Q .normal a' w') ops.toList a:=by
  intro w1 hE1;have h1:=@a5h _ _ _ _ _ _ _ _ (w:=w1) Bool (bothClassic Bool) hE ops (fun st'=>c4v (st'.ev (.tmp t))) b (fun e a' w'=>e = .normal->a'.tmps.getD t undef = .bool b) (fun g st a w hs h _=>?_) ops.toList g st a hq.1 (hs.later hE1) hb
  ·have h2:=a4r ops.toList a hds ⟨rfl,rfl,fun _ _=>rfl⟩ h1;exact a5C (fun a' hh w' hE'=>key w' (hE1.trans hE') a' hh.2 (hh.1 w' hE' rfl)) _ _ h2
  ·have hv:=hs.ev (.tmp t);unfold c4v at h;dsimp only at h;split at h
   ·rename_i b' hd;cases h;rw[hd]at hv;exact RepD.bool hv
   ·rename_i b' hd;cases h;rw[hd]at hv;exact hv
   ·cases h
 cases draw with
 |false=>exact wp_region_list (a1U (C:=fun w'=>Ext w w') _ _ _ (Ext.refl w) (hquiet w (Ext.refl w)))
 |true=>exact wp_region_quiet (C:=fun w'=>Ext w w') hE.mixed hq.2 (Ext.refl w).drew (hquiet w (Ext.refl w))
theorem Sim.know{R:Type}(hs:Sim df G B0 M0 w0 gi g st a w){c:Operand}{b:Bool}(hd:st.ev c = .v .bool b){k:St->Option R}{r:R}(h:st.knowK c b k=some r):∃st',Sim df G B0 M0 w0 gi g st' a w/\k st'=some r:=by
 unfold St.knowK at h;split at h
 ·rename_i t;rw[F5]at h;refine⟨_,hs.reput (RepD0.toD (d:= .bl b) ?_),h⟩;have:=hs.ev (.tmp t);rw[hd]at this;exact RepD.bool this
 ·exact⟨_,hs,h⟩
theorem L6{R:Type}[BothC R](hE:EnvOk P G B0 E)(N:Nat):∀(c:Code) (i:Nat) {k:Ex->St->Option R} {r:R} {Q:Exit->Act->World->Prop},Leaves df G B0 M0 w0 gi k r Q->Pans df E.bad M0 w0 gi r Q->∀(g:Gh) (st:St) (a:Act) (w:World),
  Sim df G B0 M0 w0 gi g st a w->Q0 E N c i st k=some r->c.wp P Q a w
 |.skip,i,k,r,Q,hK,hP,g,st,a,w,hs,h=>wp_skip (hK .normal _ _ _ _ hs h)
 |.region id ops draw,i,k,r,Q,hK,hP,g,st,a,w,hs,h=>by
  rw[c0W]at h;split at h
  ·exact c1b hE (fun _ _ _ _ hs h=>hK .normal _ _ _ _ hs h) hs h
  ·unfold e01 at h;split at h
   ·exact wp_region_list (a5i hE (fun _ _ _ _ hs h=>hK .normal _ _ _ _ hs h) hP _ _ _ _ _ hs h)
   ·split at h
    ·rename_i hq;simp only[Bool.and_eq_true]at hq;exact wp_region_quiet (C:=fun w'=>Ext w w') hE.mixed hq.2 (Ext.refl w).drew (a5h hE (fun _ _ _ _ hs h=>hK .normal _ _ _ _ hs h) _ _ _ _ hq.1 hs h)
    ·split at h
     ·rename_i hsel;exact Code.wp_mono (PanQ.out hP) (c0R hE hsel (Q:=Q) (fun _ _ _ _ hs h=>hK .normal _ _ _ _ hs h) hs h)
     ·cases h
 |.seq x y,i,k,r,Q,hK,hP,g,st,a,w,hs,h=>by
  refine wp_seq (L6 hE N x i ?_ ?_ _ _ _ _ hs h)
  rotate_left;exact fun c a w h1 h2 h3 h4=>hP c a w h1 h2 h3 h4
  intro e g st a w hs h;cases e with
  |normal=>exact L6 hE N y i hK hP _ _ _ _ hs h
  |exit id=>exact hK (.exit id) _ _ _ _ hs h
  |ret=>exact hK .ret _ _ _ _ hs h
 |.cond c x y,i,k,r,Q,hK,hP,g,st,a,w,hs,h=>by
  rw[c89]at h;have hc:=hs.ev c;split at h
  ·rename_i b hd;rw[hd]at hc;refine wp_cond (t:=b) (RepD.bool hc) ?_;split at h
   case h_2=>
    rcases M6 h with⟨e,h2⟩|⟨e,h2⟩
    ·subst e;obtain⟨st',hs',h2⟩:=hs.know hd h2;exact L6 hE N x i hK hP _ _ _ _ hs' h2
    ·subst e;obtain⟨st',hs',h2⟩:=hs.know hd h2;exact L6 hE N y i hK hP _ _ _ _ hs' h2
   rcases M6 h with⟨e,h2⟩|⟨e,h2⟩
   ·subst e;exact L6 hE N x i hK hP _ _ _ _ hs h2
   ·subst e;exact L6 hE N y i hK hP _ _ _ _ hs h2
  ·rename_i hd;rw[hd]at hc;exact wp_cond (t:=true) hc (L6 hE N x i hK hP _ _ _ _ hs h)
  ·rename_i hd;rw[hd]at hc;exact wp_cond (t:=false) hc (L6 hE N y i hK hP _ _ _ _ hs h)
  ·cases h
 |.block id c,i,k,r,Q,hK,hP,g,st,a,w,hs,h=>by
  refine wp_block (L6 hE N c id ?_ ?_ _ _ _ _ hs h)
  rotate_left;exact fun c a w h1 h2 h3 h4=>hP c a w h1 h2 h3 h4
  intro e g st a w hs h;cases e with
  |normal=>exact hK .normal _ _ _ _ hs h
  |exit j=>
   simp only at h;show(if j=id then Q .normal a w else Q (.exit j) a w);split at h
   ·rename_i e;rw[if_pos e];exact hK .normal _ _ _ _ hs h
   ·rename_i e;rw[if_neg e];exact hK (.exit j) _ _ _ _ hs h
  |ret=>exact hK .ret _ _ _ _ hs h
 |.loop c,i,k,r,Q,hK,hP,g,st,a,w,hs,h=>by
  rw[c9a]at h;simp only[a9t]at h;have key:∀(n:Nat) (g:Gh) (st:St) (a:Act) (w:World),Sim df G B0 M0 w0 gi g st a w->iter (E.hint i) (Q0 E N c i) n st k=some r->Code.rounds P c Q n a w:=by
   intro n;induction n with
   |zero=>intro g st a w hs h;cases h
   |succ n ih=>
    intro g st a w hs h;refine L6 hE N c i ?_ ?_ _ _ _ _ hs h
    rotate_left;exact fun c a w h1 h2 h3 h4=>hP c a w h1 h2 h3 h4
    intro e g st a w hs h;cases e with
    |normal=>simp only[a9t]at h;exact(let ⟨g',hs'⟩:=hs.head (E.hint i);ih g' _ _ _ hs' h)
    |exit id=>simp only[d4M]at h;exact hK (.exit id) _ _ _ _ (hs.tail _) h
    |ret=>exact hK .ret _ _ _ _ hs h
  obtain⟨g',hs'⟩:=hs.head (E.hint i);exact wp_loop_rounds N (key N _ _ _ _ hs' h)
 |.exit id,i,k,r,Q,hK,hP,g,st,a,w,hs,h=>wp_exit (hK (.exit id) _ _ _ _ hs h)
 |.ret,i,k,r,Q,hK,hP,g,st,a,w,hs,h=>Go.wp_ret (hK .ret _ _ _ _ hs h)
 |.rangeFunc _ _ _ _,i,k,r,Q,hK,hP,g,st,a,w,hs,h=>by cases h
 |.scope _,i,k,r,Q,hK,hP,g,st,a,w,hs,h=>by cases h
 |.label _,i,k,r,Q,hK,hP,g,st,a,w,hs,h=>by cases h
 |.goto _,i,k,r,Q,hK,hP,g,st,a,w,hs,h=>by cases h
 |.refuse _,i,k,r,Q,hK,hP,g,st,a,w,hs,h=>by cases h
end
end
noncomputable section
section
variable{P:Program}{df:List Deferred}{G:World->Prop}{B0:Nat}{E:Env}{M:Nat->Nat->Prop}{M0:Nat->Nat->Prop}{w0:World}{gi g:Gh}{st:St}{a:Act}{w:World}
def a7w(P:Program)(w:World)(tmps:Array Value):List ResultVar->List Value->Prop | [],vs=>vs=[] | .tmp t :: l,vs=>∃vs',vs=tmps.getD t undef :: vs'/\a7w P w tmps l vs' | .cell x T :: l,vs=>∃ad v vs',tmps.getD x undef = .pointer (some ad)/\(loadVar T ad).run P w = .ok v w/\vs=v :: vs'/\a7w P w tmps l vs'
theorem a8l{α β:Type}(f:α->Sem β)(w:World)(R:List α->List β->Prop)(h0:R [] [])(hc:∀a l bs,R (a :: l) bs->∃b bs',bs=b :: bs'/\(f a).run P w = .ok b w/\R l bs')(hn:∀bs,R [] bs->bs=[]):
  ∀(l:List α) (bs:List β),R l bs->(l.mapM f).run P w = .ok bs w
 |[],bs,h=>by rw[hn bs h];rfl
 |a :: l,bs,h=>by
  obtain⟨b,bs',rfl,h1,h2⟩:=hc _ _ _ h;simp[List.mapM_cons,h1,a8l f w R h0 hc hn l bs' h2]
def e59(tmps:Array Value):ResultVar->Sem Value
 |.tmp t=>pure (tmps.getD t undef)
 |.cell a t=>do loadVar t (<-asAddr (tmps.getD a undef))
theorem c4Y(fn:Func)(tmps:Array Value):results fn tmps=(fn.results.mapM (e59 tmps) >>= fun vs=>pure (if h:vs.size=1 then vs[0]else .tuple vs)):=by
 unfold results;congr 1
theorem c1I{fn:Func}{tmps:Array Value}{vs:List Value}(h:a7w P w tmps fn.results.toList vs):(results fn tmps).run P w = .ok (if h:vs.length=1 then vs[0]else .tuple vs.toArray) w:=by
 have hm:(fn.results.toList.mapM (e59 tmps)).run P w = .ok vs w:=by
  refine a8l _ w (a7w P w tmps) rfl ?_ (fun bs h=>h) _ _ h;intro a l bs h;cases a with
  |tmp t=>
   obtain⟨vs',rfl,h2⟩:=h;exact⟨_,vs',rfl,rfl,h2⟩
  |cell x T=>
   obtain⟨ad,v,vs',h1,h2,rfl,h3⟩:=h;exact⟨v,vs',rfl,by simp[e59,h1,asAddr,h2],h3⟩
 rw[c4Y,Array.mapM_eq_mapM_toList];have:∀(s:Sem (List Value)),s.run P w = .ok vs w->((List.toArray <$> s:Sem (Array Value))).run P w = .ok vs.toArray w:=fun s hs=>by
  simp[hs]
 simp only[Sem.run_bind,this _ hm,Result.andThen_ok,Sem.run_pure];simp
theorem a6P{R:Type}[BothC R](hE:EnvOk P G B0 E)(hs:Sim df G B0 M0 w0 gi g st a w):∀(l:List ResultVar) (ds0:List D) {k:List D->Option R} {r:R},b6J E st l ds0 k=some r->
  ∃ds vs,k (ds0++ds)=some r/\a7w P w a.tmps l vs/\All2 (RepD (u9 M0 g) w g) ds vs
 |[],ds0,k,r,h=>⟨[],[],by rw[List.append_nil];exact h,rfl,trivial⟩
 |.tmp t :: l,ds0,k,r,h=>by
  simp only[b6J,a4L]at h;obtain⟨ds,vs,h1,h2,h3⟩:=a6P hE hs l _ h;exact⟨st.ev (.tmp t) :: ds,a.tmps.getD t undef :: vs,by rw[List.append_assoc]at h1;exact h1,⟨vs,rfl,h2⟩,hs.ev (.tmp t),h3⟩
 |.cell x T :: l,ds0,k,r,h=>by
  simp only[b6J,a4L]at h;obtain⟨d,ad,v,h0,e,hr,hrun⟩:=a6J hE hs (hs.ev (.tmp x)) h;obtain⟨ds,vs,h1,h2,h3⟩:=a6P hE hs l _ h0;exact⟨d :: ds,v :: vs,by rw[List.append_assoc]at h1;exact h1,⟨ad,v,vs,e,hrun w (KeepR.of_ext (Ext.refl w)),rfl,h2⟩,hr,h3⟩
theorem c11:∀{n j:Nat},j<n->(upto n)[j]? = some j
 |0,_,h=>by omega
 |n+1,j,h=>by
  have hl:∀n,(upto n).length=n:=fun n=>by induction n with
   |zero=>rfl
   |succ n ih=>simp[upto,ih]
  simp only[upto];by_cases hj:j<n
  ·rw[List.getElem?_append_left (by rw[hl];exact hj)];exact c11 hj
  ·have:j=n:=by omega
   subst this;rw[List.getElem?_append_right (by rw[hl];exact Nat.le_refl _),hl];simp
theorem b38:∀n,(upto n).Nodup
 |0=>by simp[upto]
 |n+1=>by
  have hm:∀n x,x∈upto n->x<n:=fun n=>by induction n with
   |zero=>intro x h;simp[upto]at h
   |succ n ih=>
    intro x h;simp only[upto,List.mem_append,List.mem_singleton]at h;rcases h with h|h
    ·have:=ih x h;omega
    ·omega
  simp only[upto];rw[List.nodup_append];refine⟨b38 n,by simp,fun x hx y hy e=>?_⟩;have:=hm n x hx;have h2:y=n:=by simpa using hy
  omega
theorem d4l(hs:Sim df G B0 (fun b o=>M b o/\¬Z4 gi b) w0 gi g st a w){fn:Func}{F:AF}{pack:SV F.rs->BV F.cs->F.R}(hpack:∀x y,F.out (pack x y)=(x,y))(hdom:∀r x,gi r=some x->r<F.bs.length)
  (hM:∀b o,u9 (fun b o=>M b o/\¬Z4 gi b) gi b o↔M b o) {z:F.R} {ds:List D} {vs:List Value} (h1:b5Y st F.rs ds (upto F.bs.length) [] (fun x ρ β=>b5W st F.cs 0 ρ β fun y ρ β=>
   match β.any (w9 ρ),Nat.beq ρ.length F.cs.length with
   |false,true=>some (pack x y)
   |_,_=>none)=some z) (hvals:a7w P w a.tmps fn.results.toList vs) (hds:All2 (RepD (u9 (fun b o=>M b o/\¬Z4 gi b) g) w g) ds vs):
  (∃x y,z=pack x y)/\∃vs' g',(results fn a.tmps).run P w = .ok (b12 vs') w/\ExtX (Z4 gi) w0 w/\Step M w0 (y6 M gi g') w/\Frag B0 (y6 M gi g') w g' F.rs F.cs (F.out z).1 (F.out z).2 vs'/\
   (∀r x,gi r=some x->a79 x.v=true->g' r=some x)/\∀b,Z4 g' b->Z4 gi b\/w0.heap.size<=b:=by
 obtain⟨x,ρ1,β1,h2,hp1,hn1,_,hx⟩:=a1g hs F.rs ds vs hds (b38 _) h1;obtain⟨y,ρ,β,h3,hp2,hn2,hβ2,hy⟩:=a5f hs F.cs 0 hn1 h2;split at h3
 ·rename_i hβ hlen;cases h3;have hρl:=Nat.eq_of_beq_eq_true hlen;rw[hpack];have hβρ:∀r,r∈β->r∉ρ:=fun r hr hr2=>List.any_eq_false.1 hβ r hr (C0.2 hr2)
  have hg:∀{r x},D2 g ρ r=some x->∃r',ρ[r]? = some r'/\g r'=some x:=by
   intro r x h;unfold D2 at h;cases h1:ρ[r]? with
   |none=>rw[h1]at h;cases h
   |some r'=>rw[h1]at h;exact⟨r',rfl,h⟩
  have hin:∀r,r<F.bs.length->D2 g ρ r=g r:=fun r hr=>a4E (hp1.trans hp2) (c11 hr)
  have hsub:∀b o,y6 M gi (D2 g ρ) b o->Mlend (fun b o=>M b o/\¬Z4 gi b) g β b o:=by
   rintro b o (h|⟨j,x,h4,h5,h6⟩)
   ·exact⟨.inl h,fun⟨r,_,x,h4,h5⟩=>hs.m0x h h4 h5⟩
   ·obtain⟨r',e1,e2⟩:=hg h4;refine⟨.inr ⟨r',x,e2,h5,h6⟩,fun⟨r,hr,x',h7,h8⟩=>?_⟩;have:=hs.inj _ _ _ _ _ e2 h7 h5 h8;subst this;exact hβρ _ hr (List.mem_of_getElem? e1)
  have hst2:Step (Mlend (fun b o=>M b o/\¬Z4 gi b) g β) w (y6 M gi (D2 g ρ)) w:=⟨fun _ _ h hm=>⟨h,fun h'=>hm (hsub _ _ h')⟩,fun _ _ _ h hm=>⟨h,fun h'=>hm (hsub _ _ h')⟩⟩;refine⟨⟨_,_,rfl⟩,vs,D2 g ρ,?_,hs.ext,?_,⟨?_,?_,?_,?_,?_,?_,?_,?_⟩,?_,?_⟩
  ·have:=c1I hvals;rw[this];rfl
  ·have h4:=hs.stp;have e:u9 (fun b o=>M b o/\¬Z4 gi b) gi=M:=funext fun b=>funext fun o=>propext (hM b o)
   rw[e]at h4;exact h4.trans ((Mlend.step β).trans hst2)
  ·exact(hx ρ β hp2 hβ2).mono fun _ _ h=>RepD0.step hst2 h
  ·intro r blk hblk;obtain⟨gx,h4,h5⟩:=hy ρ β (List.prefix_refl _) (fun _ h=>h) r blk hblk;rw[Nat.zero_add]at h4;exact⟨gx,h4,RepB.step hst2 (fun _ _=>rfl) h5⟩
  ·intro r gx h;obtain⟨r',e1,_⟩:=hg h;rw[<-hρl];exact(List.getElem?_eq_some_iff.1 e1).1
  ·intro r r' x x' b h1 h2 h3 h4;obtain⟨q,e1,e2⟩:=hg h1;obtain⟨q',e3,e4⟩:=hg h2;have:=hs.inj _ _ _ _ _ e2 e4 h3 h4;subst this;exact(List.getElem?_inj (List.getElem?_eq_some_iff.1 e1).1 hn2).1 (e1.trans e3.symm)
  ·intro r x b h1 h2;obtain⟨q,e1,e2⟩:=hg h1;have:=hs.low _ _ _ e2 h2;exact⟨this.1,this.2.1⟩
  ·intro r x b o h1 h2;obtain⟨q,e1,e2⟩:=hg h1;exact⟨fun h=>(hs.chg e2 h2).1 (hsub _ _ h).1,fun h=> .inr ⟨r,x,h1,h2,h⟩⟩
  ·exact fun b o h=>hs.mlt (hsub _ _ h).1
  ·intro r x b h1 h2;obtain⟨q,e1,e2⟩:=hg h1;exact hs.row _ _ _ e2 h2
  ·intro r x h1 h2;rw[hin r (hdom r x h1)];exact hs.pin r x h1 h2
  ·rintro b ⟨r,x,h1,h2⟩;obtain⟨q,e1,e2⟩:=hg h1;exact(hs.low _ _ _ e2 h2).2.2
 ·cases h3
theorem b3F(hE:EnvOk P G B0 E)(hs:Sim df G B0 (fun b o=>M b o/\¬Z4 gi b) w0 gi g st a w){fn:Func}{F:AF}{pack:SV F.rs->BV F.cs->F.R}(hpack:∀x y,F.out (pack x y)=(x,y))(hdom:∀r x,gi r=some x->r<F.bs.length)
  (hM:∀b o,u9 (fun b o=>M b o/\¬Z4 gi b) gi b o↔M b o) {z:F.R} (h:B4 E fn F pack st=some z):
  (∃x y,z=pack x y)/\∃vs' g',(results fn a.tmps).run P w = .ok (b12 vs') w/\ExtX (Z4 gi) w0 w/\Step M w0 (y6 M gi g') w/\Frag B0 (y6 M gi g') w g' F.rs F.cs (F.out z).1 (F.out z).2 vs'/\
   (∀r x,gi r=some x->a79 x.v=true->g' r=some x)/\∀b,Z4 g' b->Z4 gi b\/w0.heap.size<=b:=by
 unfold B4 at h;obtain⟨ds,vs,h1,hvals,hds⟩:=a6P hE hs _ _ h;rw[List.nil_append]at h1;obtain⟨g2,st2,hs2,h2,hd2⟩:=B8 F.rs ds hs h1;exact d4l hs2 hpack hdom hM h2 hvals (hds.mono hd2)
theorem a6O{M:Nat->Nat->Prop}:∀(l:List Sl) (i:Nat) (x:SV l) (vs:List Value),All2 (RepD0 M w g) (a0E id l x) vs->∀t d,v6 (start.prms l i x) t=some d->i<=t/\∃v,vs[t-i]? = some v/\RepD M w g d v
 |[],i,x,vs,_,t,d,h=>by cases h
 |s :: l,i,x,[],ha,t,d,h=>ha.elim
 |s :: l,i,x,v :: vs,ha,t,d,h=>by
  have rest:∀{x:SV l},All2 (RepD0 M w g) (a0E id l x) vs->v6 (start.prms l (i+1) x) t=some d->i<=t/\∃v',(v :: vs)[t-i]? = some v'/\RepD M w g d v':=by
   intro x ha h;obtain⟨h1,v',h2,h3⟩:=a6O l (i+1) x vs ha t d h;refine⟨by omega,v',?_,h3⟩;rw[show t-i=(t-(i+1))+1 by omega];simpa using h2
  have cons:∀{d0:D} {x:SV l},RepD0 M w g d0 v->All2 (RepD0 M w g) (a0E id l x) vs->v6 ((i,d0) :: start.prms l (i+1) x) t=some d->i<=t/\∃v',(v :: vs)[t-i]? = some v'/\RepD M w g d v':=by
   intro d0 x h0 ha hh;rw[v7]at hh;split at hh
   ·rename_i e;have e2:=Nat.eq_of_beq_eq_true e;have e3:d0=d:=by simpa using hh
    rw[<-e3];have e4:i=t:=e2;exact⟨Nat.le_of_eq e4,v,by rw[<-e4];simp,h0.toD⟩
   ·exact rest ha hh
  cases s with
  |v ty=>
   cases ty with
   |ptr ty=>
    obtain⟨ad,es,e,h1,h2⟩:=RepV.plain (t:= .ptr ty) rfl ha.1;simp only[List.cons.injEq,and_true]at e;exact cons (d0:= .at_ ty x.1) ⟨ad,es,e,h1,h2⟩ ha.2 h
   |un=>exact rest ha.2 h
   |_=>exact cons ha.1 ha.2 h
  |_=>exact cons ha.1 ha.2 h
theorem b2U:∀(l:List Sb) (i:Nat) (y:BV l) (r:Nat) (blk:Blk),v6 (start.blks l i y) r=some blk->i<=r/\a2T id l y (r-i)=some blk
 |[],_,_,_,_,h=>by cases h
 |s :: l,i,y,r,blk,h=>by
  have rest:v6 (start.blks l (i+1) y.2) r=some blk->i<=r/\a2T id (s :: l) y (r-i)=some blk:=by
   intro h;obtain⟨h1,h2⟩:=b2U l (i+1) y.2 r blk h;refine⟨by omega,?_⟩;rw[show r-i=(r-(i+1))+1 by omega];exact h2
  unfold start.blks at h;split at h
  ·rename_i b hb;rw[v7]at h;split at h
   ·rename_i e;have:=Nat.eq_of_beq_eq_true e;simp only at this;subst this;cases h;exact⟨Nat.le_refl _,by rw[Nat.sub_self];exact hb⟩
   ·exact rest h
  ·exact rest h
theorem b8E{l:List (Nat×D)}:a4u id l=l:=by
 induction l with
 |nil=>rfl
 |cons p l ih=>show(p.1,id p.2) :: a4u id l=_;rw[ih];rfl
theorem b2N{l:List (Nat×Blk)}:a4u (Blk.lift id) l=l:=by
 induction l with
 |nil=>rfl
 |cons p l ih=>show(p.1,Blk.lift id p.2) :: a4u (Blk.lift id) l=_;rw[ih,b1z]
theorem c9B(hE:EnvOk P G B0 E){f:FuncId}{fn:Func}{c:Code}(hf:P.funcs[f]? = some fn)(hb:fn.body=some c)
  (F:AF) (I:BothC F.R) (pack:SV F.rs->BV F.cs->F.R) (hpack:∀x y,F.out (pack x y)=(x,y)) (N:Nat) {M:Nat->Nat->Prop} {w:World} {g:Gh} {vs:List Value} {x:SV F.ps} {y:BV F.bs} {z:F.R} (hG:G w) (hB:B0<=w.heap.size) (hfr:Frag B0 M w g F.ps F.bs x y vs)
  (hrun:b1I E N fn F I pack x y=some z) {R:Ending->World->Prop}
  (hR:∀x1 y1 vs' g' w',z=pack x1 y1->ExtX (Z4 g) w w'->Step M w (y6 M g g') w'->Frag B0 (y6 M g g') w' g' F.rs F.cs (F.out z).1 (F.out z).2 vs'->(∀r x,g r=some x->a79 x.v=true->g' r=some x)->(∀b,Z4 g' b->Z4 g b\/w.heap.size<=b)->R (.returned (b12 vs')) w')
  (hPn:∀c w',ExtX (Z4 g) w w'->Step M w M w'->(∃ρ st,I.pa c ρ st=some z)->R (.panicked (d29 E.bad c)) w'):Calls P f vs.toArray w R:=by
 refine calls_of_wp hf hb ?_;unfold b1I at hrun;rw[hb]at hrun;split at hrun
 ·rename_i c' hc' hps hbs;cases hc';simp only[a3q,Z5,b8E,b2N]at hrun;have hlen:vs.length=F.ps.length:=by
   have:=hfr.args.len;rw[<-this];have hl:∀(l:List Sl) (x:SV l),(a0E id l x).length=l.length:=fun l=>by
    induction l with
    |nil=>intro _;rfl
    |cons s l ih=>intro x;show(a0E id l x.2).length+1=_;rw[ih];rfl
   exact hl _ _
  have hps':vs.length<=fn.ntmps:=by rw[hlen];exact Nat.le_of_ble_eq_true hps
  have hbs':F.bs.length<=1000:=Nat.le_of_ble_eq_true hbs;have hM:∀b o,u9 (fun b o=>M b o/\¬Z4 g b) g b o↔M b o:=by
   intro b o;constructor
   ·rintro(h|⟨r,x,h1,h2,h3⟩)
    ·exact h.1
    ·exact(hfr.chg _ _ _ _ h1 h2).2 h3
   ·intro h;by_cases hX:Z4 g b
    ·obtain⟨r,x,h1,h2⟩:=hX;exact .inr ⟨r,x,h1,h2,(hfr.chg _ _ _ _ h1 h2).1 h⟩
    ·exact .inl ⟨h,hX⟩
  have eM:u9 (fun b o=>M b o/\¬Z4 g b) g=M:=funext fun b=>funext fun o=>propext (hM b o)
  have hsim:Sim [] G B0 (fun b o=>M b o/\¬Z4 g b) w g g (start fn F.ps F.bs x y) {tmps:=vs.toArray++Array.replicate (fn.ntmps-vs.toArray.size) undef,defers:=[]} w:=by
   refine{defers:=rfl,sz:=?_,fr:=?_,inb:=?_,hp:=?_,low:=?_,inj:=hfr.inj,row:=hfr.row,m0:=fun b o h=>⟨hfr.mlt _ _ h.1,h.2⟩,pin:=fun _ _ h _=>h,gin:=fun r x h _=>Nat.lt_of_lt_of_le (hfr.dom r x h) hbs',gil:=fun b ⟨r,x,h1,h2⟩=>(hfr.low _ _ _ h1 h2).1,ext:=ExtX.refl _ _,stp:=Step.refl _ _,gg:=hG,b0:=hB}
   ·show(vs.toArray++Array.replicate (fn.ntmps-vs.toArray.size) undef).size=fn.ntmps;simp;omega
   ·intro t d h;rw[eM];obtain⟨_,v,h1,h2⟩:=a6O F.ps 0 x vs hfr.args t d h;rw[Nat.sub_zero]at h1;have hlt:=(List.getElem?_eq_some_iff.1 h1).1;have:(vs.toArray++Array.replicate (fn.ntmps-vs.toArray.size) undef).getD t undef=v:=by
     rw[Array.getD_eq_getD_getElem?,Array.getElem?_append_left (by simpa using hlt),List.getElem?_toArray,h1];rfl
    show RepD M w g d ((vs.toArray++Array.replicate (fn.ntmps-vs.toArray.size) undef).getD t undef);rw[this];exact h2
   ·intro t d h;obtain⟨_,v,h1,_⟩:=a6O F.ps 0 x vs hfr.args t d h;rw[Nat.sub_zero]at h1;have hlt:=(List.getElem?_eq_some_iff.1 h1).1;show t<fn.ntmps;omega
   ·intro r blk h;rw[eM];obtain⟨_,h1⟩:=b2U F.bs 0 y r blk h;rw[Nat.sub_zero]at h1;exact hfr.res r blk h1
   ·exact fun r x b h1 h2=>⟨(hfr.low _ _ _ h1 h2).1,(hfr.low _ _ _ h1 h2).2,.inl ⟨r,x,h1,h2⟩⟩
  refine @L6 _ _ _ _ _ _ _ _ F.R I hE N c 0 _ z _ ?_ ?_ _ _ _ _ hsim hrun
  ·intro e g' st a w' hs h;have fin:B4 E fn F pack st=some z->a.defers=[]/\∃v,(results fn a.tmps).run P w' = .ok v w'/\R (.returned v) w':=by
    intro h;obtain⟨⟨x1,y1,hpk⟩,vs',g'',h1,h2,h3,h4,h5,h6⟩:=b3F hE hs hpack hfr.dom hM h;exact⟨hs.defers,_,h1,hR x1 y1 vs' g'' w' hpk h2 h3 h4 h5 h6⟩
   cases e with
   |normal=>exact fin h
   |ret=>exact fin h
   |exit id=>cases h
  ·intro c a w' h1 h2 h3 h4;exact⟨h1,hPn c w' h2 (by rw[eM]at h3;exact h3) h4⟩
 ·cases hrun
theorem b3M(hE:EnvOk P G B0 E){f:FuncId}{fn:Func}{c:Code}(hf:P.funcs[f]? = some fn)(hb:fn.body=some c)(hcall:∀(args:Array Value) (w:World),(callFunc f args).run P w = .ok (.enter f args) w)
  (F:AF) (pack:SV F.rs->BV F.cs->F.R) (hpack:∀x y,F.out (pack x y)=(x,y)) (N:Nat) (hrunD:∀x y z,F.f x y=some z->f6n E N fn F pack x y=some z) (hkp:a4F F.bs F.cs=false:=by rfl):Sound P G B0 f F:=by
 refine⟨hcall,fun M w g vs x y z hG hB hfr hrun=>?_⟩;refine c9B hE hf hb F (bothClassic F.R) pack hpack N hG hB hfr (hrunD x y z hrun) ?_ ?_
 ·intro x1 y1 vs' g'' w' _ h2 h3 h4 h5 h6;exact⟨vs',g'',rfl,h2,h3,h4,fun r x e1 e2=>h5 r x e1 (e2.elim id fun e=>by rw[hkp]at e;cases e),h6⟩
 ·intro c w' _ _ ⟨_,_,h⟩;cases h
def RC.dflt:(i:RC)->i.den | .value=> .mk 0 [] 0 [] [] | .expr=> .mk 0 [] 0 [] [] | .stmt=> .mk 0 [] [] [] [] (.mk 0 [] 0 [] []) [] [] 0 | .part=> .mk 0 [] 0 [] 0 []
def Ty.dflt:(t:Ty)->t.den | .u8=>(0:UInt8) | .int _=>(0:Int) | .bool=>false | .str=>([]:List UInt8) | .sl _=>[] | .pr a b=>(a.dflt,b.dflt) | .un=>() | .mp _=>[] | .ptr t=>t.dflt | .np _=>none | .nl=>() | .clo _ t=>t.dflt | .rc i=>i.dflt
def Sl.dflt:(s:Sl)->s.den | .v t=>t.dflt | .at_ t=>t.dflt | .dead=>() | .skip=>() | .nilS=>() | .nilP=>() | .row _=>() | .box _ _=>() | .mref _=>() | .fnc _ _=>()
def SV.dflt:(l:List Sl)->SV l | []=>()|s :: l=>(s.dflt,SV.dflt l)
def Sb.dflt:(s:Sb)->s.den | .none=>() | .cells l=>SV.dflt l | .map _=>[] | .row _ _ _=>[] | .iter _=>[] | .bld _ l=>SV.dflt l
def BV.dflt:(l:List Sb)->BV l | []=>()|s :: l=>(s.dflt,BV.dflt l)
@[reducible] def PF.tf(p:PF):AF:={ps:=p.ps,bs:=p.bs,rs:=p.rs,cs:=p.cs,R:=Except Int p.R,out:=fun z=>match z with | .ok z=>p.out z | .error _=>(SV.dflt p.rs,BV.dflt p.cs),f:=p.f}
@[reducible] noncomputable def f8x(E:Env)(N:Nat)(fn:Func)(p:PF)(pack:SV p.rs->BV p.cs->p.R)(x:SV p.ps)(y:BV p.bs):Option (Except Int p.R):=b1I E N fn p.tf (bothPan p.R) (fun x y=> .ok (pack x y)) x y
end
end
noncomputable section
def P9:Code->List Bool->Code|c,[]=>c | .seq a _,false :: p=>P9 a p | .seq _ b,true :: p=>P9 b p | .cond _ a _,false :: p=>P9 a p | .cond _ _ b,true :: p=>P9 b p | .block _ c,_ :: p=>P9 c p | .loop c,_ :: p=>P9 c p|c,_=>c
def m8(f:Func):Code:=match f.body with
 |some c=>c
 |none=> .skip
def un1:(s:Sl)->s.den->D | .dead,_=> .dead | .skip,_=> .skip | .nilS,_=> .nilS | .nilP,_=> .nilP | .v t,x=> .v t x | .at_ t,x=> .at_ t x | .row r,_=> .row r | .mref r,_=> .mref r | .box r o,_=> .box r o | .fnc f l,_=> .fnc f l
def pr1:(s:Sl)->D->Option s.den
 |.v t,d=>match d with
  |.v t' x=>if h:t'=t then some (h▸x)else none
  |_=>none
 |.at_ t,d=>match d with
  |.at_ t' x=>if h:t'=t then some (h▸x)else none
  |_=>none
 |.dead,d=>match d with
  |.dead=>some ()
  |_=>none
 |.skip,d=>match d with
  |.skip=>some ()
  |_=>none
 |.nilS,d=>match d with
  |.nilS=>some ()
  |_=>none
 |.nilP,d=>match d with
  |.nilP=>some ()
  |_=>none
 |.row r,d=>match d with
  |.row r'=>if r'=r then some ()else none
  |_=>none
 |.box r o,d=>match d with
  |.box r' o'=>if r'=r then(if o'=o then some ()else none)else none
  |_=>none
 |.mref r,d=>match d with
  |.mref r'=>if r'=r then some ()else none
  |_=>none
 |.fnc f l,d=>match d with
  |.fnc f' l'=>if f'=f then(if l'=l then some ()else none)else none
  |_=>none
theorem d37(s:Sl)(d:D)(x:s.den)(h:pr1 s d=some x):un1 s x=d:=by
 cases s<;>cases d<;>simp only[pr1,reduceCtorEq]at h <;>
  (repeat' (split at h))<;>first|(subst_vars;cases h;rfl)|cases h
def unL:(l:List Sl)->SV l->List D | [],_=>[]|s :: l,x=>un1 s x.1 :: unL l x.2
def prL(l:List Sl):List D->Option (SV l):=
 List.rec (motive:=fun l=>List D->Option (SV l))
  (fun ds=>match ds with | []=>some ()|_ :: _=>none)
  (fun s _ ih ds=>match ds with
   |d :: ds=>match pr1 s d with
    |some x=>match ih ds with
     |some y=>some (x,y)
     |none=>none
    |none=>none
   |[]=>none) l
theorem c4W:∀(l:List Sl) (ds:List D) (x:SV l),prL l ds=some x->unL l x=ds
 |[],[],_,_=>rfl
 |[],_ :: _,_,h=>by cases h
 |_ :: _,[],_,h=>by cases h
 |s :: l,d :: ds,x,h=>by
  change(match pr1 s d with
    |some x=>match prL l ds with
     |some y=>some (x,y)
     |none=>none
    |none=>none)=some x at h
  split at h
  ·rename_i a ha;split at h
   ·rename_i b hb;cases h;show un1 s a :: unL l b=_;rw[d37 s d a ha,c4W l ds b hb]
   ·cases h
  ·cases h
@[reducible] def FV:List (Nat×Sl)->Type | []=>Unit|s :: l=>s.2.den×FV l
def unF:(l:List (Nat×Sl))->FV l->List (Nat×D) | [],_=>[]|s :: l,x=>(s.1,un1 s.2 x.1) :: unF l x.2
def prF(l:List (Nat×Sl)):List (Nat×D)->Option (FV l):=
 List.rec (motive:=fun l=>List (Nat×D)->Option (FV l))
  (fun ds=>match ds with | []=>some ()|_ :: _=>none)
  (fun s _ ih ds=>match ds with
   |d :: ds=>match Nat.beq d.1 s.1,pr1 s.2 d.2 with
    |true,some x=>match ih ds with
     |some y=>some (x,y)
     |none=>none
    |_,_=>none
   |[]=>none) l
theorem d39:∀(l:List (Nat×Sl)) (ds:List (Nat×D)) (x:FV l),prF l ds=some x->unF l x=ds
 |[],[],_,_=>rfl
 |[],_ :: _,_,h=>by cases h
 |_ :: _,[],_,h=>by cases h
 |s :: l,d :: ds,x,h=>by
  change(match Nat.beq d.1 s.1,pr1 s.2 d.2 with
    |true,some x=>match prF l ds with
     |some y=>some (x,y)
     |none=>none
    |_,_=>none)=some x at h
  split at h
  ·rename_i a he ha;split at h
   ·rename_i b hb;cases h;show(s.1,un1 s.2 a) :: unF l b=_;rw[d37 s.2 d.2 a ha,d39 l ds b hb,<-Nat.eq_of_beq_eq_true he]
   ·cases h
  ·cases h
def un2:(s:Sb)->s.den->Blk | .none,_=> .cells [] | .cells l,x=> .cells (unL l x) | .map e,x=> .map e x | .row e t ex,x=> .row e t ex x | .iter e,x=> .iter e x none | .bld T l,x=> .bld T (unL l x)
def pr2:(s:Sb)->Blk->Option s.den
 |.none,_=>none
 |.cells l,b=>match b with
  |.cells ds=>prL l ds
  |_=>none
 |.map e,b=>match b with
  |.map e' m=>if h:e'=e then some (h▸m)else none
  |_=>none
 |.row e t ex,b=>match b with
  |.row e' t' ex' xs=>if h:t'=t then(if e'=e then(if ex'=ex then some (h▸xs)else none)else none)else none
  |_=>none
 |.iter e,b=>match b with
  |.iter e' m none=>if h:e'=e then some (h▸m)else none
  |_=>none
 |.bld T l,b=>match b with
  |.bld T' ds=>if T'=T then prL l ds else none
  |_=>none
theorem e55(s:Sb)(b:Blk)(x:s.den)(h:pr2 s b=some x):un2 s x=b:=by
 cases s with
 |none=>cases h
 |cells l=>cases b with
  |cells ds=>show Blk.cells (unL l x)=_;rw[c4W l ds x h]
  |map e m=>cases h
  |row=>cases h
  |iter=>cases h
  |bld=>cases h
 |bld T l=>cases b with
  |bld T' ds=>
   simp only[pr2]at h;split at h
   ·subst_vars;show Blk.bld _ (unL l x)=_;rw[c4W l ds x h]
   ·cases h
  |cells ds=>cases h
  |map e m=>cases h
  |row=>cases h
  |iter=>cases h
 |map e=>cases b with
  |cells ds=>cases h
  |bld=>cases h
  |map e' m=>
   simp only[pr2]at h;split at h
   ·subst_vars;cases h;rfl
   ·cases h
  |row=>cases h
  |iter=>cases h
 |iter e=>cases b with
  |cells ds=>cases h
  |bld=>cases h
  |map=>cases h
  |row=>cases h
  |iter e' m c=>
   cases c with
   |some p=>cases h
   |none=>
    simp only[pr2]at h;split at h
    ·subst_vars;cases h;rfl
    ·cases h
 |row e t ex=>cases b with
  |cells ds=>cases h
  |bld=>cases h
  |map e' m=>cases h
  |iter=>cases h
  |row e' t' ex' xs=>
   simp only[pr2]at h;split at h
   ·split at h
    ·split at h
     ·subst_vars;cases h;rfl
     ·cases h
    ·cases h
   ·cases h
@[reducible] def HV:List (Nat×Sb)->Type | []=>Unit|s :: l=>s.2.den×HV l
def unH:(l:List (Nat×Sb))->HV l->List (Nat×Blk) | [],_=>[]|s :: l,x=>(s.1,un2 s.2 x.1) :: unH l x.2
def prH(l:List (Nat×Sb)):List (Nat×Blk)->Option (HV l):=
 List.rec (motive:=fun l=>List (Nat×Blk)->Option (HV l))
  (fun ds=>match ds with | []=>some ()|_ :: _=>none)
  (fun s _ ih ds=>match ds with
   |d :: ds=>match Nat.beq d.1 s.1,pr2 s.2 d.2 with
    |true,some x=>match ih ds with
     |some y=>some (x,y)
     |none=>none
    |_,_=>none
   |[]=>none) l
theorem d4a:∀(l:List (Nat×Sb)) (ds:List (Nat×Blk)) (x:HV l),prH l ds=some x->unH l x=ds
 |[],[],_,_=>rfl
 |[],_ :: _,_,h=>by cases h
 |_ :: _,[],_,h=>by cases h
 |s :: l,d :: ds,x,h=>by
  change(match Nat.beq d.1 s.1,pr2 s.2 d.2 with
    |true,some x=>match prH l ds with
     |some y=>some (x,y)
     |none=>none
    |_,_=>none)=some x at h
  split at h
  ·rename_i a he ha;split at h
   ·rename_i b hb;cases h;show(s.1,un2 s.2 a) :: unH l b=_;rw[e55 s.2 d.2 a ha,d4a l ds b hb,<-Nat.eq_of_beq_eq_true he]
   ·cases h
  ·cases h
section
variable{R:Type}[BothC R]
def LPc(n0:Nat)(fs:List (Nat×Sl))(bs:List (Nat×Sb))(F:FV fs->HV bs->(Ex->St->Option R)->Option R)(G:St->(Ex->St->Option R)->Option R)(st:St)(k:Ex->St->Option R):Option R:=
 match st with
 |⟨n,fr,hp⟩=>match Nat.beq n n0 with
  |true=>match prF fs fr with
   |some x=>match prH bs hp with
    |some y=>F x y k
    |none=>G st k
   |none=>G st k
  |false=>G st k
theorem a4P(n0:Nat)(fs:List (Nat×Sl))(bs:List (Nat×Sb))(F:FV fs->HV bs->(Ex->St->Option R)->Option R)(G:St->(Ex->St->Option R)->Option R)(KR:St->Option R)
  (h:∀x y k,(∀st,k .ret st=KR st)->G ⟨n0,unF fs x,unH bs y⟩ k=F x y k) (G':St->(Ex->St->Option R)->Option R) (st:St) (k:Ex->St->Option R) (hk:∀st,k .ret st=KR st) (hG:G' st k=G st k):LPc n0 fs bs F G' st k=G st k:=by
 obtain⟨n,fr,hp⟩:=st;unfold LPc;dsimp only;split
 ·rename_i hn;have:=Nat.eq_of_beq_eq_true hn;subst this;split
  ·rename_i x hx;split
   ·rename_i y hy;rw[<-h x y k hk,d39 fs fr x hx,d4a bs hp y hy]
   ·exact hG
  ·exact hG
 ·exact hG
def Q4(LP:Nat->Code->St->(Ex->St->Option R)->Option R)(E:Env)(c:Code):Nat->St->(Ex->St->Option R)->Option R:=
 Code.rec (motive:=fun _=>Nat->St->(Ex->St->Option R)->Option R)
  (fun _ st k=>k .normal st)
  (fun id ops draw _ st k=>match E.jn id with
   |some t=>c1a E ops draw t st (k .normal)
   |none=>e01 E id ops draw st (k .normal))
  (fun _ _ iha ihb i st k=>iha i st fun e st=>match e with
   |.normal=>ihb i st k
   |.exit j=>k (.exit j) st
   |.ret=>k .ret st)
  (fun c _ _ iht ihe i st k=>match st.ev c with
   |.v .bool b=>match E.kn with
    |false=>br b (iht i st k) (ihe i st k)
    |true=>br b (st.knowK c true fun st=>iht i st k) (st.knowK c false fun st=>ihe i st k)
   |.bl true=>iht i st k
   |.bl false=>ihe i st k
   |_=>none)
  (fun id _ ih _ st k=>ih id st fun e st=>match e with
   |.normal=>k .normal st
   |.exit j=>if j=id then k .normal st else k (.exit j) st
   |.ret=>k .ret st)
  (fun c _ i st k=>st.headK (E.hint i) fun st=>LP i c st k)
  (fun _ _ _ _ _ _ _ _ _=>none)
  (fun id _ st k=>k (.exit id) st)
  (fun _ _ _ _ _=>none)
  (fun _ _ _ _=>none)
  (fun _ _ _ _=>none)
  (fun _ st k=>k .ret st)
  (fun _ _ _ _=>none) c
def loops(c:Code):Nat->List (Nat×Code):=Code.rec (motive:=fun _=>Nat->List (Nat×Code)) (fun _=>[]) (fun _ _ _ _=>[]) (fun _ _ a b i=>a i++b i) (fun _ _ _ a b i=>a i++b i) (fun id _ a _=>a id) (fun c a i=>(i,c) :: a i) (fun _ _ _ _ _ _ _=>[]) (fun _ _=>[]) (fun _ _ _=>[]) (fun _ _=>[]) (fun _ _=>[]) (fun _=>[]) (fun _ _=>[]) c
def LoopsOk(LP:Nat->Code->St->(Ex->St->Option R)->Option R)(E:Env)(N:Nat)(KR:St->Option R):List (Nat×Code)->Prop | []=>True|p :: l=>(∀st k,(∀st,k .ret st=KR st)->LP p.1 p.2 st k=iter (E.hint p.1) (Q0 E N p.2 p.1) N st k)/\LoopsOk LP E N KR l
theorem LoopsOk.left{LP:Nat->Code->St->(Ex->St->Option R)->Option R}{E:Env}{N:Nat}{KR:St->Option R}:∀{l l':List (Nat×Code)},LoopsOk LP E N KR (l++l')->LoopsOk LP E N KR l
 |[],_,_=>trivial
 |_ :: _,_,h=>⟨h.1,LoopsOk.left h.2⟩
theorem LoopsOk.right{LP:Nat->Code->St->(Ex->St->Option R)->Option R}{E:Env}{N:Nat}{KR:St->Option R}:∀{l l':List (Nat×Code)},LoopsOk LP E N KR (l++l')->LoopsOk LP E N KR l'
 |[],_,h=>h
 |_ :: l,_,h=>LoopsOk.right (l:=l) h.2
theorem a0V(LP:Nat->Code->St->(Ex->St->Option R)->Option R)(E:Env)(N:Nat)(KR:St->Option R)(c:Code):∀(i:Nat),LoopsOk LP E N KR (loops c i)->
  ∀(st:St) (k:Ex->St->Option R),(∀st,k .ret st=KR st)->Q4 LP E c i st k=Q0 E N c i st k:=by
 induction c with
 |seq a b iha ihb=>
  intro i h st k hk;show Q4 LP E a i st _=Q0 E N a i st _;have e:(fun e st=>match e with | .normal=>Q4 LP E b i st k | .exit j=>k (.exit j) st | .ret=>k .ret st:Ex->St->Option R)=(fun e st=>match e with | .normal=>Q0 E N b i st k | .exit j=>k (.exit j) st | .ret=>k .ret st):=by
   funext e st;cases e with
   |normal=>exact ihb i (LoopsOk.right (l:=loops a i) h) st k hk
   |exit j=>rfl
   |ret=>rfl
  exact(congrArg (Q4 LP E a i st) e).trans (iha i (LoopsOk.left h) st _ hk)
 |cond o a b iha ihb=>
  intro i h st k hk;have e1:∀st,Q4 LP E a i st k=Q0 E N a i st k:=fun st=>iha i (LoopsOk.left h) st k hk
  have e2:∀st,Q4 LP E b i st k=Q0 E N b i st k:=fun st=>ihb i (LoopsOk.right (l:=loops a i) h) st k hk
  show(match st.ev o with
   |.v .bool c=>match E.kn with
    |false=>br c (Q4 LP E a i st k) (Q4 LP E b i st k)
    |true=>br c (st.knowK o true fun st=>Q4 LP E a i st k) (st.knowK o false fun st=>Q4 LP E b i st k)
   |.bl true=>Q4 LP E a i st k
   |.bl false=>Q4 LP E b i st k
   |_=>none)=(match st.ev o with
   |.v .bool c=>match E.kn with
    |false=>br c (Q0 E N a i st k) (Q0 E N b i st k)
    |true=>br c (st.knowK o true fun st=>Q0 E N a i st k) (st.knowK o false fun st=>Q0 E N b i st k)
   |.bl true=>Q0 E N a i st k
   |.bl false=>Q0 E N b i st k
   |_=>none)
  simp only[e1,e2]
 |block id c ih=>
  intro i h st k hk;exact ih id h st _ hk
 |loop c ih=>
  intro i h st k hk;show st.headK (E.hint i) (fun st=>LP i c st k)=st.headK (E.hint i) (fun st=>iter (E.hint i) (Q0 E N c i) N st k);rw[a9t,a9t];exact h.1 _ k hk
 |_=>intros;rfl
def a2M(h:Hint)(I:St->Option R)(KX:Nat->St->Option R)(KR:St->Option R):Ex->St->Option R:=fun e st=>match e with
 |.normal=>st.headK h I
 |.exit j=>st.tailK h (KX j)
 |.ret=>KR st
theorem a0D{S:Type}(h:Hint)(b b':St->(Ex->St->Option R)->Option R)(KR:St->Option R)(hb:∀st k,(∀st,k .ret st=KR st)->b' st k=b st k)(HD:S->St)(k:Ex->St->Option R)
  (hk:∀st,k .ret st=KR st) (T:(S->Option R)->S->Option R) (L:Nat->S->Option R) (h0:∀s,L 0 s=none) (hs:∀n s,L (n+1) s=T (L n) s)
  (step:∀I s,b' (HD s) (a2M h I (fun j=>k (.exit j)) KR)=T (fun s=>I (HD s)) s):∀n s,iter h b n (HD s) k=L n s:=by
 intro n;induction n with
 |zero=>intro s;rw[h0];rfl
 |succ n ih=>
  intro s;have e:(fun e st=>match e with | .normal=>st.headK h fun st=>iter h b n st k | .exit j=>st.tailK h (k (.exit j)) | .ret=>k .ret st:Ex->St->Option R)=a2M h (fun st=>iter h b n st k) (fun j=>k (.exit j)) KR:=by
   funext e st;cases e with
   |normal=>rfl
   |exit j=>rfl
   |ret=>exact hk st
  have e2:(fun s=>iter h b n (HD s) k)=L n:=funext ih;exact(congrArg (b (HD s)) e).trans ((hb _ _ fun _=>rfl).symm.trans ((step _ s).trans ((congrArg (fun f=>T f s) e2).trans (hs n s).symm)))
end
def b53(E:Env)(f:Func)(F:AF)[BothC F.R](pack:SV F.rs->BV F.cs->F.R)(LP:Nat->Code->St->(Ex->St->Option F.R)->Option F.R)(x:SV F.ps)(y:BV F.bs):Option F.R:=
 match f.body,Nat.ble F.ps.length f.ntmps,Nat.ble F.bs.length 1000 with
 |some c,true,true=>b1x id (start f F.ps F.bs x y).fr fun fr=>a6B id (start f F.ps F.bs x y).hp fun hp=>Q4 LP E c 0 ⟨f.ntmps,fr,hp⟩ fun e st=>match e with
  |.exit _=>none
  |.normal=>B4 E f F pack st
  |.ret=>B4 E f F pack st
 |_,_,_=>none
theorem b2h(E:Env)(N:Nat)(f:Func)(F:AF)[I:BothC F.R](pack:SV F.rs->BV F.cs->F.R)(LP:Nat->Code->St->(Ex->St->Option F.R)->Option F.R)(h:LoopsOk LP E N (B4 E f F pack) (loops (m8 f) 0))(x:SV F.ps)(y:BV F.bs):
  b1I E N f F I pack x y=b53 E f F pack LP x y:=by
 unfold b1I b53;unfold m8 at h;cases hb:f.body with
 |none=>rfl
 |some c=>
  rw[hb]at h;cases Nat.ble F.ps.length f.ntmps<;>cases Nat.ble F.bs.length 1000<;>first|rfl|skip
  simp only[a3q,Z5];exact(a0V LP E N (B4 E f F pack) c 0 h _ _ fun _=>rfl).symm
end
noncomputable section
variable{R:Type}[BothC R]
abbrev T9(R:Type)(fs:List (Nat×Sl))(bs:List (Nat×Sb)):Type:=(Nat->St->Option R)->Nat->FV fs->HV bs->Option R
def U4(E:Env)(N n0:Nat){fs:List (Nat×Sl)}{bs:List (Nat×Sb)}(L:T9 R fs bs)(i:Nat)(c:Code):St->(Ex->St->Option R)->Option R:=LPc n0 fs bs (fun x y k=>L (fun j=>k (.exit j)) N x y) (fun st k=>iter (E.hint i) (Q0 E N c i) N st k)
def LpD(E:Env)(N i:Nat)(c:Code):St->(Ex->St->Option R)->Option R:=fun st k=>iter (E.hint i) (Q0 E N c i) N st k
theorem a4Q{LP:Nat->Code->St->(Ex->St->Option R)->Option R}{E:Env}{N:Nat}{KR:St->Option R}{n0:Nat}{fs:List (Nat×Sl)}{bs:List (Nat×Sb)}{i:Nat}{c:Code}(L:T9 R fs bs)(T:(Nat->St->Option R)->(FV fs->HV bs->Option R)->FV fs->HV bs->Option R)
  (hl:LoopsOk LP E N KR (loops c i))
  (step:∀K I x y,b1x id (unF fs x) (fun fr=>a6B id (unH bs y) fun hp=>Q4 LP E c i ⟨n0,fr,hp⟩ (a2M (E.hint i) I K KR))=T K (fun x y=>I ⟨n0,unF fs x,unH bs y⟩) x y:=by intro _ _ _ _;kernel_rfl)
  (hP:∀st k,LP i c st k=U4 E N n0 L i c st k:=by exact fun _ _=>rfl) (h0:∀K x y,L K 0 x y=none:=by exact fun _ _ _=>rfl) (hs:∀K n x y,L K (n+1) x y=T K (L K n) x y:=by exact fun _ _ _ _=>rfl):
  ∀st k,(∀st,k .ret st=KR st)->LP i c st k=iter (E.hint i) (Q0 E N c i) N st k:=by
 intro st k hk;rw[hP];refine a4P n0 fs bs _ _ KR (fun x y k hk=>?_) _ st k hk rfl;refine a0D (S:=FV fs×HV bs) (E.hint i) _ (Q4 LP E c i) KR (a0V _ _ N _ c i hl) (fun s=>⟨n0,unF fs s.1,unH bs s.2⟩) k hk (fun self s=>T (fun j=>k (.exit j)) (fun x y=>self (x,y)) s.1 s.2) (fun n s=>L (fun j=>k (.exit j)) n s.1 s.2) (fun s=>h0 _ _ _) (fun n s=>hs _ _ _ _) (fun I s=>?_) N (x,y);have:=step (fun j=>k (.exit j)) I s.1 s.2;rw[a3q,b8E,Z5,b2N]at this;exact this
theorem o0{LP:Nat->Code->St->(Ex->St->Option R)->Option R}{E:Env}{N:Nat}{KR:St->Option R}{n0:Nat}{fs:List (Nat×Sl)}{bs:List (Nat×Sb)}{i:Nat}{c:Code}(L:T9 R fs bs)(T:(Nat->St->Option R)->(FV fs->HV bs->Option R)->FV fs->HV bs->Option R)
  (step:∀K I x y,b1x id (unF fs x) (fun fr=>a6B id (unH bs y) fun hp=>Q4 LP E c i ⟨n0,fr,hp⟩ (a2M (E.hint i) I K KR))=T K (fun x y=>I ⟨n0,unF fs x,unH bs y⟩) x y:=by intro _ _ _ _;kernel_rfl)
  (hP:∀st k,LP i c st k=U4 E N n0 L i c st k:=by exact fun _ _=>rfl) (h0:∀K x y,L K 0 x y=none:=by exact fun _ _ _=>rfl) (hs:∀K n x y,L K (n+1) x y=T K (L K n) x y:=by exact fun _ _ _ _=>rfl) (hl:loops c i=[]:=by kernel_rfl):
  ∀st k,(∀st,k .ret st=KR st)->LP i c st k=iter (E.hint i) (Q0 E N c i) N st k:=
 a4Q L T (hl▸trivial) step hP h0 hs
end
end Go.Proofs.YtckdohagilcloaaGreatDoor
