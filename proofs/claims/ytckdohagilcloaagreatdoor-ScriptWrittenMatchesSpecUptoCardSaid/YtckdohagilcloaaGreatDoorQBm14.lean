/- % -/
import Derived.Test.YtckdohagilcloaaGreatDoorQBm13
import Derived.OrdersHeld
import Derived.Laws.IdiomRangeMap
import Derived.Maps.RangeRun
import Derived.Deep.Quiet
import Derived.Laws.IdiomStrings
namespace Go.Proofs.YtckdohagilcloaaGreatDoor
set_option linter.unusedVariables false
set_option linter.unusedSimpArgs false
open Go Go.RowKit
section
section
variable{P:Program}{ops:Array Oper}{Q:Exit->Act->World->Prop}{S:World->Prop}{tail:Nat->Bool}
def Y4(P:Program)(ops:Array Oper)(Q:Exit->Act->World->Prop)(tail:Nat->Bool)(S:World->Prop):Nat->Array Bool->Act->World->Prop|0,listed,a,w=>Region.ready .any ops listed=[]/\Q .normal a w|fuel+1,listed,a,w=>(Region.ready .any ops listed=[]->Q .normal a w)/\∀i∈Region.ready .any ops listed,wpOp P ops Q i (fun a' w'=>(tail i=true/\wpAny P .any ops Q fuel (listed.setIfInBounds i true) a' w')\/(tail i=false/\S w'/\Y4 P ops Q tail S fuel (listed.setIfInBounds i true) a' w')) a w
theorem a5A:∀(fuel:Nat) (listed:Array Bool) (a:Act) (w:World),Y4 P ops Q tail S fuel listed a w->wpAny P .any ops Q fuel listed a w
 |0,_,_,_,h=>h
 |fuel+1,_,_,_,h=>⟨h.1,fun i hi=>wpOp_mono (fun a' w' h'=>by
   rcases h' with h'|h'
   ·exact h'.2
   ·exact a5A fuel _ a' w' h'.2.2) (h.2 i hi)⟩
theorem c2e{fuel:Nat}{listed:Array Bool}{a:Act}{w:World}(ht:∀i∈Region.ready .any ops listed,tail i=true)(h:wpAny P .any ops Q fuel listed a w):Y4 P ops Q tail S fuel listed a w:=by
 cases fuel with
 |zero=>exact h
 |succ fuel=>exact⟨h.1,fun i hi=>wpOp_mono (fun a' w' h'=> .inl ⟨ht i hi,h'⟩) (h.2 i hi)⟩
theorem e0E{o:Oper}(ho:b21 o=true){a:Act}{w:World}{K:Act->World->Prop}(h:o.wp P a w K Q):o.wp P a w (fun a' w'=>w'=w/\K a' w') Q:=by
 unfold b21 at ho;split at ho
 ·rename_i x hop;unfold Oper.wp at *;simp only[execOp,hop,Sem.run_pure,Oper.upon_value]at h ⊢;exact⟨trivial,h⟩
 ·rename_i x hop;unfold Oper.wp at *;simp only[execOp,hop,Sem.run_pure,Oper.upon_value]at h ⊢;exact⟨trivial,h⟩
 ·rename_i x j hop;unfold Oper.wp at *;simp only[execOp,hop,Instr.extract]at h ⊢;split at h
  ·split at h
   ·simp only[Sem.run_bind,Sem.run_pure,Result.andThen_ok,Oper.upon_value]at h ⊢;exact⟨trivial,h⟩
   ·simp[stuck,Oper.upon]at h
  ·simp[stuck,Oper.upon]at h
 ·cases ho
theorem a7a:∀(fuel:Nat) (listed:Array Bool) (a:Act) (w:World),(∀j o,listed.getD j true=false->tail j=false->ops[j]? = some o->b21 o=true)->S w->¬LetsOut Q->wpAny P .any ops Q fuel listed a w->Y4 P ops Q tail S fuel listed a w
 |0,_,_,_,_,_,_,h=>h
 |fuel+1,listed,a,w,hc,hS,hL,h=>⟨h.1,fun i hi=>by
   have h1:=h.2 i hi;obtain⟨hun,oi,hoi,_⟩:=mem_ready.1 hi;have hc':∀j o,(listed.setIfInBounds i true).getD j true=false->tail j=false->ops[j]? = some o->b21 o=true:=fun j o h1 h2 h3=>by
    refine hc j o ?_ h2 h3;by_cases hij:i=j
    ·subst hij;exact hun
    ·rw[getD_set_ne true hij]at h1;exact h1
   cases ht:tail i with
   |true=>exact wpOp_mono (fun a' w' h'=> .inl ⟨rfl,h'⟩) h1
   |false=>
    have hcal:=hc i oi hun ht hoi;unfold wpOp at h1 ⊢;rw[hoi]at h1 ⊢;dsimp only at h1 ⊢;split at h1
    ·rename_i hw;rw[if_pos hw];rcases h1 with h1|h1
     ·exact .inl (Oper.wp_mono (K:=fun a' w'=>w'=w/\wpAny P .any ops Q fuel (listed.setIfInBounds i true) a' w') (fun a' w' h'=> .inr ⟨rfl,(by rw[h'.1];exact hS),a7a fuel _ a' w' hc' (by rw[h'.1];exact hS) hL h'.2⟩) (e0E hcal h1))
     ·exact absurd h1.2 hL
    ·rename_i hw;rw[if_neg hw];exact .inr ⟨rfl,hS,a7a fuel _ _ w hc' hS hL h1⟩⟩
inductive Dep(ops:Array Oper)(i:Nat):Nat->Prop where
 |direct {j:Nat} {oj:Oper} {e:_}:ops[j]? = some oj->e∈oj.after->Region.binds .any e=true->e.on=i->Dep ops i j
 |step {j:Nat} {oj:Oper} {e:_}:ops[j]? = some oj->e∈oj.after->Region.binds .any e=true->Dep ops i e.on->Dep ops i j
def Closed(ops:Array Oper)(listed:Array Bool):Prop:=∀k ok,ops[k]? = some ok->listed.getD k false=true->∀e∈ok.after,Region.binds .any e=true->listed.getD e.on false=true
theorem Closed.start{n:Nat}:Closed ops (Array.replicate n false):=fun k ok _ h=>by
 simp[Array.getD_eq_getD_getElem?,Array.getElem?_replicate]at h;split at h<;>simp at h
theorem Closed.next{listed:Array Bool}(h:Closed ops listed){j:Nat}(hj:j∈Region.ready .any ops listed):Closed ops (listed.setIfInBounds j true):=fun k ok hk hl e he hb=>by
 by_cases hjk:j=k
 ·subst hjk;obtain⟨_,oj,hoj,hall⟩:=mem_ready.1 hj;rw[hk]at hoj;cases hoj;exact getD_set_true (hall e he hb)
 ·rw[getD_set_ne false hjk]at hl;exact getD_set_true (h k ok hk hl e he hb)
theorem Dep.listed{listed:Array Bool}(hc:Closed ops listed){i j:Nat}(h:Dep ops i j):(∀oj,ops[j]? = some oj->∀e∈oj.after,Region.binds .any e=true->listed.getD e.on false=true)->listed.getD i false=true:=by
 induction h with
 |direct h1 h2 h3 h4=>intro h;rw[<-h4];exact h _ h1 _ h2 h3
 |step h1 h2 h3 _ ih=>intro h;exact ih fun oj hoj=>hc _ _ hoj (h _ h1 _ h2 h3)
theorem b9F{i:Nat}{oi:Oper}{v:Value}(hi:ops[i]? = some oi)(hsel:∀(j:Nat) (o:Oper) cs b,ops[j]? = some o->o.op ≠ .select cs b)
  (hQ:∀c a w,Q (.panic c) (a.put oi.dst v) w->Q (.panic c) a w)
  (hwait:∀j,tail j=true->j≠i->Dep ops i j):
  ∀(fuel:Nat) (listed:Array Bool) (a:Act) (w:World),Closed ops listed->
   (∀j oj,ops[j]? = some oj->j≠i->listed.getD j true=false->(∀e∈oj.after,Region.binds .any e=true->e.on≠i)->oi.apart ops oj=true)->
   i∈Region.ready .any ops listed->YieldsIf P ops S oi v a->S w->
   Y4 P ops Q tail S fuel (listed.setIfInBounds i true) (a.put oi.dst v) w->Y4 P ops Q tail S (fuel+1) listed a w:=by
 intro fuel;have same:∀(fuel:Nat) (listed:Array Bool) (a:Act) (w:World),S w->Y4 P ops Q tail S fuel (listed.setIfInBounds i true) a w->
   (tail i=true/\wpAny P .any ops Q fuel (listed.setIfInBounds i true) a w)\/(tail i=false/\S w/\Y4 P ops Q tail S fuel (listed.setIfInBounds i true) a w):=fun fuel listed a w hS H=>by
  cases ht:tail i with
  |true=>exact .inl ⟨rfl,a5A _ _ _ _ H⟩
  |false=>exact .inr ⟨rfl,hS,H⟩
 induction fuel with
 |zero=>
  intro listed a w _ _ hr hy hS H;refine⟨fun h=>(by rw[h]at hr;cases hr),fun j hj=>?_⟩;by_cases hji:j=i
  ·subst hji;exact hy.wpOp hi hS (same _ _ _ _ hS H)
  ·have:=ready_mono hj hji;rw[H.1]at this;cases this
 |succ fuel ih=>
  intro listed a w hcl hfree hr hy hS H;refine⟨fun h=>(by rw[h]at hr;cases hr),fun j hj=>?_⟩;by_cases hji:j=i
  ·subst hji;exact hy.wpOp hi hS (same _ _ _ _ hS H)
  ·have h1:=H.2 j (ready_mono hj hji);obtain⟨hjun,oj,hoj,hall⟩:=mem_ready.1 hj;have hnot:∀e∈oj.after,Region.binds .any e=true->e.on≠i:=fun e he hb heq=>by
    have h1:=hall e he hb;have h0:=(mem_ready.1 hr).1;rw[heq]at h1;rcases Nat.lt_or_ge i listed.size with h'|h'
    ·simp[h']at h0 h1;rw[h0]at h1;cases h1
    ·simp[Array.getElem?_eq_none h']at h1
   have htj:tail j=false:=by
    cases ht:tail j with
    |false=>rfl
    |true=>
     have h1:=(hwait j ht hji).listed hcl fun oj' hoj' e he hb=>by rw[hoj]at hoj';cases hoj';exact hall e he hb
     have h0:=(mem_ready.1 hr).1;rcases Nat.lt_or_ge i listed.size with h'|h'
     ·simp[h']at h0 h1;rw[h0]at h1;cases h1
     ·simp[Array.getElem?_eq_none h']at h1
   have h2:=wpOp_putIf hoj (hfree j oj hoj hji hjun hnot) (fun cs b=>hsel i oi cs b hi) (fun cs b=>hsel j oj cs b hoj) hQ hy h1;have hfree':∀k ok,ops[k]? = some ok->k≠i->(listed.setIfInBounds j true).getD k true=false->
     (∀e∈ok.after,Region.binds .any e=true->e.on≠i)->oi.apart ops ok=true:=fun k ok hk hki hun hno=>by
    refine hfree k ok hk hki ?_ hno;by_cases hjk:j=k
    ·subst hjk;exact hjun
    ·rw[getD_set_ne true hjk]at hun;exact hun
   refine wpOp_mono (fun a' w' h3=> .inr ⟨htj,?_⟩) h2;rcases h3.2 with h4|h4
   ·rw[htj]at h4;cases h4.1
   ·refine⟨h4.2.1,ih (listed.setIfInBounds j true) a' w' (hcl.next hj) hfree' (ready_mono hr (Ne.symm hji)) h3.1 h4.2.1 ?_⟩;rw[Array.setIfInBounds_comm _ _ hji];exact h4.2.2
def CL(ops:Array Oper)(cl:List (Nat×List Nat)):Prop:=∀i j,c86 cl i j=true->Dep ops i j
theorem b0n{s:List Nat}{x i:Nat}(h:w9 (b5L s x) i=true):w9 s i=true\/i=x:=by
 unfold b5L at h;split at h
 ·exact .inl h
 ·unfold w9 at h;split at h
  ·rename_i hb;exact .inr (Nat.eq_of_beq_eq_true hb).symm
  ·exact .inl h
theorem b3s:∀(c s:List Nat) {i:Nat},w9 (c.foldl b5L s) i=true->w9 s i=true\/w9 c i=true
 |[],_,_,h=> .inl h
 |x :: c,s,i,h=>by
  rcases b3s c (b5L s x) h with h|h
  ·rcases b0n h with h|rfl
   ·exact .inl h
   ·exact .inr (C0.2 (by simp))
  ·exact .inr (C0.2 (List.mem_cons_of_mem _ (C0.1 h)))
theorem c0J{cl:List (Nat×List Nat)}(hc:CL ops cl){j:Nat}{oj:Oper}(hj:ops[j]? = some oj){i:Nat}(h:w9 (b6m ops cl j) i=true):Dep ops i j:=by
 unfold b6m at h;rw[hj]at h;dsimp only at h;have key:∀(l:List _) (s:List Nat),(∀e∈l,e∈oj.after)->(∀i,w9 s i=true->Dep ops i j)->∀i,w9 (l.foldl (fun s e=>match Region.binds .any e with
  |true=>match v6 cl e.on with
   |some c=>b5L (c.foldl b5L s) e.on
   |none=>b5L s e.on
  |false=>s) s) i=true->Dep ops i j:=by
  intro l;induction l with
  |nil=>intro s _ hs i h;exact hs i h
  |cons e l ih=>
   intro s hl hs i h;refine ih _ (fun e he=>hl e (List.mem_cons_of_mem _ he)) (fun i hi=>?_) i h;have hea:=hl e List.mem_cons_self;dsimp only at hi;cases hb:Region.binds .any e with
   |false=>rw[hb]at hi;exact hs i hi
   |true=>
    rw[hb]at hi;dsimp only at hi;split at hi
    ·rename_i c hcl;rcases b0n hi with hi|rfl
     ·rcases b3s _ _ hi with hi|hi
      ·exact hs i hi
      ·exact .step hj hea hb (hc i e.on (by unfold c86;rw[hcl];exact hi))
     ·exact .direct hj hea hb rfl
    ·rcases b0n hi with hi|rfl
     ·exact hs i hi
     ·exact .direct hj hea hb rfl
 exact key _ [] (fun e he=>by simpa using he) (fun i h=>by cases h) i h
theorem a2X:∀(r:List Nat) (cl:List (Nat×List Nat)),CL ops cl->CL ops (b26 ops r cl)
 |[],_,h=>h
 |j :: r,cl,h=>a2X r _ fun i k hk=>by
  unfold c86 at hk;rw[v7]at hk;cases hb:Nat.beq j k with
  |false=>rw[hb]at hk;exact h i k hk
  |true=>
   obtain rfl:=Nat.eq_of_beq_eq_true hb;rw[hb]at hk;dsimp only at hk;cases ho:ops[j]? with
   |none=>unfold b6m at hk;rw[ho]at hk;cases hk
   |some oj=>exact c0J h ho hk
theorem c2d{cl:List (Nat×List Nat)}(hc:CL ops cl){tl:List Nat}{i:Nat}(h:b0H cl tl i=true)(j:Nat)(ht:w9 tl j=true)(hn:j≠i):Dep ops i j:=by
 unfold b0H at h;have h1:=List.all_eq_true.1 h j (C0.1 ht);rw[c4u hn,Bool.false_or]at h1;exact hc i j h1
theorem a7b{cl:List (Nat×List Nat)}(hc:CL ops cl){tl:List Nat}{i:Nat}{oi:Oper}{v:Value}{fuel:Nat}{listed:Array Bool}{a:Act}{w:World}(hcl:Closed ops listed)(hi:ops[i]? = some oi)
  (hs:Region.noSelect ops=true) (hf:Region.free .any ops listed i=true) (hr:(Region.ready .any ops listed).contains i=true) (hw:b0H cl tl i=true)
  (hQ:∀c a w,Q (.panic c) (a.put oi.dst v) w->Q (.panic c) a w) (hy:YieldsIf P ops S oi v a) (hS:S w)
  (h:Y4 P ops Q (w9 tl) S fuel (listed.setIfInBounds i true) (a.put oi.dst v) w):Y4 P ops Q (w9 tl) S (fuel+1) listed a w:=
 b9F hi (Region.noSelect_spec hs) hQ (c2d hc hw) fuel listed a w hcl (Region.free_spec hi hf) (by simpa using hr) hy hS h
theorem a7c{id:Nat}{a:Act}{w:World}(hm:P.follows .mixedOrders=true)
  (h:Y4 P ops Q tail S ops.size (Array.replicate ops.size false) a {w with drawn:=w.drawn+1}):(Code.region id ops true).wp P Q a w:=
 wp_region_any hm (a5A _ _ _ _ h)
end
end
section
section
variable{P:Program}{df:List Deferred}{G:World->Prop}{B0:Nat}{E:Env}{M0:Nat->Nat->Prop}{w0:World}{gi g:Gh}{st:St}{a:Act}{w:World}
def Gh.off(g:Gh)(l:List Nat):Gh:=fun r=>match w9 l r with|true=>none|false=>g r
def Gh.back(g g':Gh)(l:List Nat):Gh:=fun r=>match w9 l r with|true=>g r|false=>g' r
def Gh.base(g:Gh):Gh:=fun r=>(g r).map fun x=>if r<1000 then x else⟨x.blk,x.lo,undef⟩
def a2J(M0:Nat->Nat->Prop)(g:Gh)(l:List Nat)(b o:Nat):Prop:=M0 b o\/∃r x,w9 l r=true/\g r=some x/\x.blk=some b/\x.lo<=o
theorem Gh.off_some{l:List Nat}{r:Nat}{x:GB}(h:g.off l r=some x):w9 l r=false/\g r=some x:=by
 unfold Gh.off at h;split at h
 ·cases h
 ·rename_i hm;exact⟨hm,h⟩
theorem Gh.off_of{l:List Nat}{r:Nat}(hm:w9 l r=false):g.off l r=g r:=by unfold Gh.off;rw[hm]
theorem Gh.base_some{r:Nat}{x:GB}(h:g.base r=some x):∃y,g r=some y/\x.blk=y.blk/\x.lo=y.lo/\(a79 x.v=true->r<1000/\x=y):=by
 unfold Gh.base at h;cases hy:g r with
 |none=>rw[hy]at h;cases h
 |some y=>
  rw[hy]at h;obtain rfl:=Option.some.inj h;refine⟨y,rfl,?_⟩;dsimp only;by_cases hr:r<1000
  ·rw[if_pos hr];exact⟨rfl,rfl,fun _=>⟨hr,rfl⟩⟩
  ·rw[if_neg hr];exact⟨rfl,rfl,fun h=>(by cases h)⟩
theorem Gh.base_of{r:Nat}{y:GB}(h:g r=some y):∃x,g.base r=some x/\x.blk=y.blk/\x.lo=y.lo:=by
 unfold Gh.base;rw[h];refine⟨_,rfl,?_⟩;dsimp only;by_cases hr:r<1000
 ·rw[if_pos hr];exact⟨rfl,rfl⟩
 ·rw[if_neg hr];exact⟨rfl,rfl⟩
theorem a1B{b:Nat}:Z4 g.base b↔Z4 g b:=by
 constructor
 ·rintro⟨r,x,h1,h2⟩;obtain⟨y,h3,h4,_⟩:=Gh.base_some h1;exact⟨r,y,h3,h4▸h2⟩
 ·rintro⟨r,y,h1,h2⟩;obtain⟨x,h3,h4,_⟩:=Gh.base_of h1;exact⟨r,x,h3,h4.trans h2⟩
theorem a4t{M:Nat->Nat->Prop}{b o:Nat}:u9 M g.base b o↔u9 M g b o:=by
 constructor
 ·rintro(h|⟨r,x,h1,h2,h3⟩)
  ·exact .inl h
  ·obtain⟨y,h4,h5,h6,_⟩:=Gh.base_some h1;exact .inr ⟨r,y,h4,h5▸h2,h6▸h3⟩
 ·rintro(h|⟨r,y,h1,h2,h3⟩)
  ·exact .inl h
  ·obtain⟨x,h4,h5,h6⟩:=Gh.base_of h1;exact .inr ⟨r,x,h4,h5.trans h2,h6▸h3⟩
theorem a3k{l:List Nat}{b o:Nat}:u9 (a2J M0 g l) (g.off l) b o↔u9 M0 g b o:=by
 constructor
 ·rintro((h|⟨r,x,_,h1,h2,h3⟩)|⟨r,x,h1,h2,h3⟩)
  ·exact .inl h
  ·exact .inr ⟨r,x,h1,h2,h3⟩
  ·exact .inr ⟨r,x,(Gh.off_some h1).2,h2,h3⟩
 ·rintro(h|⟨r,x,h1,h2,h3⟩)
  ·exact .inl (.inl h)
  ·cases hm:w9 l r with
   |true=>exact .inl (.inr ⟨r,x,hm,h1,h2,h3⟩)
   |false=>exact .inr ⟨r,x,(Gh.off_of hm).trans h1,h2,h3⟩
theorem Step.sub{M M':Nat->Nat->Prop}(h:∀b o,M' b o->M b o)(w:World):Step M w M' w:=
 ⟨fun _ _ h1 h2=>⟨h1,fun h3=>h2 (h _ _ h3)⟩,fun _ _ _ h1 h2=>⟨h1,fun h3=>h2 (h _ _ h3)⟩⟩
theorem b2L{α:Type}(ks:List Nat)(l:List (Nat×α))(i:Nat):v6 (a2n ks l) i=match w9 ks i with|true=>none|false=>v6 l i:=by
 induction l with
 |nil=>unfold a2n;rw[a6z];cases w9 ks i<;>rfl
 |cons p l ih=>
  obtain⟨j,x⟩:=p;unfold a2n;split
  ·rename_i hj;rw[ih,v7];cases hb:Nat.beq j i with
   |false=>rfl
   |true=>
    obtain rfl:=Nat.eq_of_beq_eq_true hb;rw[hj]
  ·rename_i hj;rw[v7,v7,ih];cases hb:Nat.beq j i with
   |false=>rfl
   |true=>
    obtain rfl:=Nat.eq_of_beq_eq_true hb;rw[hj]
theorem RepB.forget{M M':Nat->Nat->Prop}{g':Gh}{l:List Nat}{x:GB}{b0:Blk}(hst:Step M w M' w)(hg:∀r,r∉l->g' r=g r)(h:RepB M w g x b0):RepB M' w g' x (b0.lift (Go.Proofs.YtckdohagilcloaaGreatDoor.forget l)):=by
 cases b0 with
 |cells ds=>
  obtain⟨b,vs,el,e,h1,h2⟩:=h;exact⟨b,vs,el,e,h1,h2.mapL _ fun d v hd=>RepD0.forget hst hg hd⟩
 |bld T ds=>
  obtain⟨b,p,vs,e,h1,h0,h2⟩:=h;exact⟨b,p,vs,e,h1,h0,h2.mapL _ fun d v hd=>RepD0.forget hst hg hd⟩
 |map e m=>exact RepB.step hst (fun _ _=>rfl) h
 |row e t ex xs=>exact RepB.step hst (fun _ _=>rfl) h
 |iter e l=>exact RepB.step hst (fun _ _=>rfl) h
theorem Sim.apart(hE:EnvOk P G B0 E)(hs:Sim df G B0 M0 w0 gi g st a w)(l:List Nat):Sim df G B0 (a2J M0 g l) w (g.off l).base (g.off l) (st.aside l) a w:=by
 have hst:Step (u9 M0 g) w (u9 (a2J M0 g l) (g.off l)) w:=Step.sub (fun b o h=>a3k.1 h) w;have hgl:∀r,r∉l->g.off l r=g r:=fun r hr=>Gh.off_of (by
  cases h:w9 l r with
  |false=>rfl
  |true=>exact absurd (C0.1 h) hr)
 refine{defers:=hs.defers,sz:=hs.sz,fr:=fun t d hd=>?_,inb:=fun t d hd=>?_,hp:=fun r blk hb=>?_,low:=fun r x b h1 h2=>?_,inj:=fun r r' x x' b h1 h2=>hs.inj r r' x x' b (Gh.off_some h1).2 (Gh.off_some h2).2,row:=fun r x b h1=>hs.row r x b (Gh.off_some h1).2,m0:=fun b o h=>?_,pin:=fun r x h1 h2=>?_,gin:=fun r x h1 h2=>?_,gil:=fun b h=>?_,ext:=ExtX.refl _ w,stp:=Step.sub (fun b o h=>a4t.2 h) w,gg:=hE.stable w0 w _ hs.gg hs.ext hs.gil,b0:=Nat.le_trans hs.b0 hs.size}
 ·obtain⟨d0,h1,rfl⟩:=a30 hd;exact RepD.lift (fun d v h=>RepD0.forget hst hgl h) (fun _ _=>rfl) (hs.fr t d0 h1)
 ·obtain⟨d0,h1,_⟩:=a30 hd;exact hs.inb t d0 h1
 ·change v6 (a2n l (st.lift (forget l)).hp) r=some blk at hb;rw[b2L]at hb;cases hm:w9 l r with
  |true=>rw[hm]at hb;cases hb
  |false=>
   rw[hm]at hb;obtain⟨b0,h1,rfl⟩:=a9x hb;obtain⟨x,h2,h3⟩:=hs.hp r b0 h1;exact⟨x,(Gh.off_of hm).trans h2,h3.forget hst hgl⟩
 ·obtain⟨h3,h4,_⟩:=hs.low r x b (Gh.off_some h1).2 h2;exact⟨h3,h4,.inl (a1B.2 ⟨r,x,h1,h2⟩)⟩
 ·rcases h with h|⟨r,x,hm,h1,h2,h3⟩
  ·refine⟨Nat.lt_of_lt_of_le (hs.m0 b o h).1 hs.size,fun hX=>?_⟩;obtain⟨r,x,h1,h2⟩:=a1B.1 hX;exact hs.m0x h (Gh.off_some h1).2 h2
  ·refine⟨(hs.low r x b h1 h2).2.1,fun hX=>?_⟩;obtain⟨r',x',h4,h5⟩:=a1B.1 hX;obtain⟨h6,h7⟩:=Gh.off_some h4;have:=hs.inj _ _ _ _ _ h1 h7 h2 h5;rw[this,h6]at hm;cases hm
 ·obtain⟨y,h3,_,_,h4⟩:=Gh.base_some h1;rw[(h4 h2).2];exact h3
 ·obtain⟨y,h3,_,_,h4⟩:=Gh.base_some h1;exact(h4 h2).1
 ·obtain⟨r,x,h1,h2⟩:=a1B.1 h;exact(hs.low r x b (Gh.off_some h1).2 h2).1
theorem a4v{l ds:List Nat}{fr:List (Nat×D)}:∀(l2 acc:List (Nat×D)) (t:Nat) (d:D),v6 (b6e l ds fr l2 acc) t=some d->v6 acc t=some d\/(w9 ds t=false/\v6 fr t=some d/\keepD l d=true)
 |[],acc,t,d,h=> .inl h
 |(t',_) :: rest,acc,t,d,h=>by
  unfold b6e at h;split at h
  ·rename_i d' h1 h2;split at h
   ·rename_i h3;rcases a4v rest _ t d h with h4|h4
    ·by_cases ht:t=t'
     ·subst ht;rw[R3]at h4;cases h4;exact .inr ⟨h1,h2,h3⟩
     ·rw[H9 _ _ ht]at h4;exact .inl h4
    ·exact .inr h4
   ·exact a4v rest _ t d h
  ·exact a4v rest _ t d h
theorem RepD0.keepD{M:Nat->Nat->Prop}{g g':Gh}{l:List Nat}(hg:∀r,r∈l->g' r=g r){d:D}{v:Value}(hd:Go.Proofs.YtckdohagilcloaaGreatDoor.keepD l d=true)(h:RepD0 M w g d v):RepD0 M w g' d v:=by
 cases d with
 |box r o=>obtain⟨x,b,h1,h2⟩:=h;exact⟨x,b,(hg r (C0.1 hd)).trans h1,h2⟩
 |mref r=>obtain⟨x,b,h1,h2⟩:=h;exact⟨x,b,(hg r (C0.1 hd)).trans h1,h2⟩
 |row r=>obtain⟨x,A,n,c,h1,h2⟩:=h;exact⟨x,A,n,c,(hg r (C0.1 hd)).trans h1,h2⟩
 |elp r z i o=>obtain⟨x,b,n,c,h1,h2⟩:=h;exact⟨x,b,n,c,(hg r (C0.1 hd)).trans h1,h2⟩
 |tl r z i=>obtain⟨x,b,n,c,h1,h2⟩:=h;exact⟨x,b,n,c,(hg r (C0.1 hd)).trans h1,h2⟩
 |fnc f ns=>
  obtain⟨caps,e,h1⟩:=h;refine⟨caps,e,?_⟩;have hd:ns.all (w9 l)=true:=hd;clear e;generalize caps.toList=cl at h1 ⊢;revert cl;induction ns with
  |nil=>intro cl h1;cases cl with
   |nil=>trivial
   |cons=>exact h1.elim
  |cons r ns ih=>
   intro cl h1;simp only[List.all_cons,Bool.and_eq_true]at hd;cases cl with
   |nil=>exact h1.elim
   |cons u cl=>
    obtain⟨⟨x,b,h2,h3⟩,h4⟩:=h1;exact⟨⟨x,b,(hg r (C0.1 hd.1)).trans h2,h3⟩,ih hd.2 hd.2 cl h4⟩
 |tup=>simp[Go.Proofs.YtckdohagilcloaaGreatDoor.keepD]at hd
 |_=>exact h
theorem RepD.keepD{M:Nat->Nat->Prop}{g g':Gh}{l:List Nat}(hg:∀r,r∈l->g' r=g r){d:D}{v:Value}(hd:Go.Proofs.YtckdohagilcloaaGreatDoor.keepD l d=true)(h:RepD M w g d v):RepD M w g' d v:=by
 have ht:∀b m,d ≠ .tup b m:=fun b m e=>by subst e;simp[Go.Proofs.YtckdohagilcloaaGreatDoor.keepD]at hd
 exact(RepD.of0 ht).2 (RepD0.keepD hg hd ((RepD.of0 ht).1 h))
theorem a7k{l0:List Nat}{hp:List (Nat×Blk)}:∀(l:List Nat) (acc:List (Nat×Blk)) (r:Nat) (b:Blk),v6 (b6d l0 hp l acc) r=some b->v6 acc r=some b\/(r∈l/\v6 hp r=some b/\keepB l0 b=true)
 |[],acc,r,b,h=> .inl h
 |q :: rest,acc,r,b,h=>by
  unfold b6d at h;split at h
  ·rename_i b' h1;split at h
   ·rename_i h2;rcases a7k rest _ r b h with h3|⟨h3,h4⟩
    ·by_cases hr:r=q
     ·subst hr;rw[R3]at h3;cases h3;exact .inr ⟨by simp,h1,h2⟩
     ·rw[H9 _ _ hr]at h3;exact .inl h3
    ·exact .inr ⟨by simp[h3],h4⟩
   ·rcases a7k rest _ r b h with h3|⟨h3,h4⟩
    ·exact .inl h3
    ·exact .inr ⟨by simp[h3],h4⟩
  ·rcases a7k rest _ r b h with h3|⟨h3,h4⟩
   ·exact .inl h3
   ·exact .inr ⟨by simp[h3],h4⟩
theorem All2.all{α β:Type}{R R':α->β->Prop}{q:α->Bool}(hR:∀a b,q a=true->R a b->R' a b):∀{l:List α} {m:List β},l.all q=true->All2 R l m->All2 R' l m
 |[],[],_,h=>h
 |x :: l,y :: m,hq,h=>by
  simp only[List.all_cons,Bool.and_eq_true]at hq;exact⟨hR _ _ hq.1 h.1,All2.all hR hq.2 h.2⟩
theorem RepB.keepB{M:Nat->Nat->Prop}{g g':Gh}{l:List Nat}(hg:∀r,r∈l->g' r=g r){x:GB}{blk:Blk}(hd:Go.Proofs.YtckdohagilcloaaGreatDoor.keepB l blk=true)(h:RepB M w g x blk):RepB M w g' x blk:=by
 cases blk with
 |cells ds=>
  obtain⟨b,vs,el,e,h1,h2⟩:=h;exact⟨b,vs,el,e,h1,All2.all (R:=RepD0 M w g) (R':=RepD0 M w g') (fun d v hq h=>RepD0.keepD hg hq h) hd h2⟩
 |bld T ds=>
  obtain⟨b,p,vs,e,h1,h0,h2⟩:=h;exact⟨b,p,vs,e,h1,h0,All2.all (R:=RepD0 M w g) (R':=RepD0 M w g') (fun d v hq h=>RepD0.keepD hg hq h) hd h2⟩
 |map e m=>exact h
 |row e t ex xs=>exact h
 |iter e l=>exact h
theorem Sim.again(hs:Sim df G B0 M0 w0 gi g st a w)(l ds:List Nat){g':Gh}{st':St}{a':Act}{w':World}(hs':Sim df G B0 (a2J M0 g l) w (g.off l).base g' st' a' w')
  (hn:st'.n=st.n) (ht:∀t,w9 ds t=false->a'.tmps.getD t undef=a.tmps.getD t undef):Sim df G B0 M0 w0 gi (g.back g' l) (st.again st' l ds) a' w':=by
 have hM:∀b o,u9 M0 (g.back g' l) b o->u9 (a2J M0 g l) g' b o:=fun b o h=>by
  rcases h with h|⟨r,x,h1,h2,h3⟩
  ·exact .inl (.inl h)
  ·unfold Gh.back at h1;split at h1
   ·rename_i hm;exact .inl (.inr ⟨r,x,hm,h1,h2,h3⟩)
   ·exact .inr ⟨r,x,h1,h2,h3⟩
 have hst1:Step (u9 (a2J M0 g l) g') w' (u9 M0 (g.back g' l)) w':=Step.sub hM w';have hM2:∀b o,u9 (a2J M0 g l) (g.off l).base b o->u9 M0 g b o:=fun b o h=>a3k.1 (a4t.1 h)
 have hst2:Step (u9 M0 g) w (u9 M0 (g.back g' l)) w':=((Step.sub hM2 w).trans hs'.stp).trans hst1;have hgl:∀r,r∉l->g.back g' l r=g' r:=fun r hr=>by
  unfold Gh.back;cases h:w9 l r with
  |false=>rfl
  |true=>exact absurd (C0.1 h) hr
 have hgm:∀{r},w9 l r=true->g.back g' l r=g r:=fun{r} hr=>by unfold Gh.back;rw[hr]
 have hoff:∀{r x b},w9 l r=true->g r=some x->x.blk=some b->¬Z4 (g.off l).base b:=fun{r x b} hm h1 h2 hX=>by
  obtain⟨r',x',h4,h5⟩:=a1B.1 hX;obtain⟨h6,h7⟩:=Gh.off_some h4;have:=hs.inj _ _ _ _ _ h1 h7 h2 h5;rw[this,h6]at hm;cases hm
 have hheap:∀{r x b},w9 l r=true->g r=some x->x.blk=some b->w'.heap[b]? = w.heap[b]?:=fun{r x b} hm h1 h2=>hs'.ext.block b (hs.low r x b h1 h2).2.1 (hoff hm h1 h2)
 have hcase:∀{r x},g.back g' l r=some x->(w9 l r=true/\g r=some x)\/(w9 l r=false/\g' r=some x):=fun{r x} h=>by
  unfold Gh.back at h;split at h
  ·rename_i hm;exact .inl ⟨hm,h⟩
  ·rename_i hm;exact .inr ⟨hm,h⟩
 have hmix:∀{r r' x x' b},w9 l r=true->g r=some x->g' r'=some x'->x.blk=some b->x'.blk=some b->False:=fun{r r' x x' b} hm h1 h2 h3 h4=>
  hs'.m0x (.inr ⟨r,x,hm,h1,h3,Nat.le_refl _⟩:a2J M0 g l b x.lo) h2 h4
 refine{defers:=hs'.defers,sz:=hs'.sz,fr:=fun t d hd=>?_,inb:=fun t d hd=>?_,hp:=fun r blk hb=>?_,low:=fun r x b h1 h2=>?_,inj:=fun r r' x x' b h1 h2 h3 h4=>?_,row:=fun r x b h1 h2 h3 es c=>?_,m0:=hs.m0,pin:=fun r x h1 h2=>?_,gin:=hs.gin,gil:=hs.gil,ext:=?_,stp:=hs.stp.trans hst2,gg:=hs.gg,b0:=hs.b0}
 ·rcases a4v _ _ _ _ hd with h|⟨h1,h2,h3⟩
  ·obtain⟨d0,h1,rfl⟩:=a30 h;exact RepD.lift (fun d v h=>RepD0.forget hst1 hgl h) (fun _ _=>rfl) (hs'.fr t d0 h1)
  ·rw[ht t h1];exact RepD.keepD (fun r hr=>hgm (C0.2 hr)) h3 ((hs.fr t _ h2).step hst2)
 ·show t<st'.n;rcases a4v _ _ _ _ hd with h|⟨h1,h2,_⟩
  ·obtain⟨d0,h1,_⟩:=a30 h;exact hs'.inb t d0 h1
  ·rw[hn];exact hs.inb t d h2
 ·rcases a7k _ _ _ _ hb with h|⟨h1,h2,h3⟩
  ·rw[b2L]at h;cases hm:w9 l r with
   |true=>rw[hm]at h;cases h
   |false=>
    rw[hm]at h;obtain⟨b0,h1,rfl⟩:=a9x h;obtain⟨x,h2,h3⟩:=hs'.hp r b0 h1;refine⟨x,?_,h3.forget hst1 hgl⟩;unfold Gh.back;rw[hm];exact h2
  ·have hm:w9 l r=true:=C0.2 h1;obtain⟨x,h4,h5⟩:=hs.hp r _ h2;exact⟨x,(hgm hm).trans h4,RepB.keepB (fun r hr=>hgm (C0.2 hr)) h3 (RepB.step hst2 (fun b hb=>hheap hm h4 hb) h5)⟩
 ·rcases hcase h1 with⟨hm,h3⟩|⟨_,h3⟩
  ·obtain⟨h4,h5,h6⟩:=hs.low r x b h3 h2;exact⟨h4,Nat.lt_of_lt_of_le h5 hs'.size,h6⟩
  ·obtain⟨h4,h5,h6⟩:=hs'.low r x b h3 h2;refine⟨h4,h5,?_⟩;rcases h6 with h6|h6
   ·obtain⟨r',x',h7,h8⟩:=a1B.1 h6;exact(hs.low r' x' b (Gh.off_some h7).2 h8).2.2
   ·exact .inr (Nat.le_trans hs.size h6)
 ·rcases hcase h1 with⟨m1,k1⟩|⟨m1,k1⟩<;>rcases hcase h2 with⟨m2,k2⟩|⟨m2,k2⟩
  ·exact hs.inj _ _ _ _ _ k1 k2 h3 h4
  ·exact(hmix m1 k1 k2 h3 h4).elim
  ·exact(hmix m2 k2 k1 h4 h3).elim
  ·exact hs'.inj _ _ _ _ _ k1 k2 h3 h4
 ·rcases hcase h1 with⟨hm,k1⟩|⟨_,k1⟩
  ·rw[hheap hm k1 h2];exact hs.row r x b k1 h2 h3 es c
  ·exact hs'.row r x b k1 h2 h3 es c
 ·have h3:=hs.pin r x h1 h2;cases hm:w9 l r with
  |true=>exact(hgm hm).trans h3
  |false=>
   unfold Gh.back;rw[hm];refine hs'.pin r x ?_ h2;unfold Gh.base;rw[Gh.off_of hm,h3];dsimp only[Option.map];rw[if_pos (hs.gin r x h1 h2)]
 ·refine hs.ext.trans hs'.ext fun n hn hX=>?_
  obtain⟨r',x',h7,h8⟩:=a1B.1 hX;rcases(hs.low r' x' n (Gh.off_some h7).2 h8).2.2 with h9|h9
  ·exact h9
  ·omega
end
end
section
section
variable{P:Program}{df:List Deferred}{G:World->Prop}{B0:Nat}{E:Env}{M:Nat->Nat->Prop}{M0:Nat->Nat->Prop}{w0:World}{gi g:Gh}{st:St}{a:Act}{w:World}
theorem All2.erase{α β:Type}{R:α->β->Prop}:∀{l:List α} {m:List β},All2 R l m->∀i,All2 R (l.eraseIdx i) (m.eraseIdx i)
 |[],[],_,_=>trivial
 |_ :: _,_ :: _,h,0=>h.2
 |_ :: _,_ :: _,h,i+1=>⟨h.1,All2.erase h.2 i⟩
 |[],_ :: _,h,_=>h.elim
 |_ :: _,[],h,_=>h.elim
theorem a9p:∀(l:List MapEntry) (i:Nat) (en:MapEntry),(l.map (·.born)).Nodup->l[i]? = some en->l.filter (fun y=>!(y.born==en.born))=l.eraseIdx i
 |[],_,_,_,h=>by cases h
 |x :: l,0,en,hn,h=>by
  have hx:x=en:=by simpa using h
  subst hx;have hn':=List.nodup_cons.1 hn;rw[List.filter_cons];simp only[beq_self_eq_true,Bool.not_true,Bool.false_eq_true,if_false,List.eraseIdx_cons_zero];rw[List.filter_eq_self];intro y hy;have:y.born≠x.born:=fun e=>hn'.1 (List.mem_map.2 ⟨y,hy,e⟩)
  simp[this]
 |x :: l,i+1,en,hn,h=>by
  have hn':=List.nodup_cons.1 hn;have h':l[i]? = some en:=by simpa using h
  have hx:x.born≠en.born:=fun e=>hn'.1 (List.mem_map.2 ⟨en,List.mem_of_getElem? h',e.symm⟩)
  rw[List.filter_cons];have hb:(!(x.born==en.born))=true:=by simp[hx]
  rw[if_pos hb,List.eraseIdx_cons_succ,a9p l i en hn'.2 h']
theorem c6K{R:Type}[BothC R](hE:EnvOk P G B0 E){o:Oper}{k:St->Option R}{r:R}{K:Act->World->Prop}{Q:Exit->Act->World->Prop}(hK:S6 df G B0 M0 w0 gi k r K){g:Gh}{st:St}(hs:Sim df G B0 M0 w0 gi g st a w)
  {T:TypeId} {x:Operand} (ho:o.op = .range T x) {e:Ty} (hT:E.ty T=some (.mp e)) {q:Nat} (hd:o.dst=some q) {b:Nat} {es:Array MapEntry} {c:Nat} {m:List (List UInt8×e.den)} (hev:a.eval x = .map (some b)) (hb:w.heap[b]? = some (.map es c)) (hnot:¬u9 M0 g b 0)
  (ha:All2 (fun x y=>y.key = .string ⟨x.1.toArray⟩/\RepV (u9 M0 g) w e x.2 y.val) m es.toList) (hsp:MapKept.Stamped es c) (h:k ((st.new (nm q) (.iter e m none)).put (some q) (.box (nm q) 0))=some r):o.wp P a w K Q:=by
 obtain⟨kt,el,hu,huk,hel⟩:=hE.mp _ _ hT;have hrun:=run_range_map w T kt el b es c hu hb;refine wp_ret (s:=Instr.range T (a.eval x)) (v:= .pointer (some ⟨w.heap.size,0,none⟩)) (w':=w.alloc (.mapIter (some b) c #[] c)) (by simp only[execOp,ho]) (by rw[hev];exact hrun) ?_;rw[hd];have hE':Ext w (w.alloc (.mapIter (some b) c #[] c)):=(Ext.refl w).alloc _;refine hK _ _ _ _ (Sim.put (hs.newB (r:=nm q) (z:=⟨some w.heap.size,0,S8 w.heap.size⟩) (Nat.le_add_right _ _) hE' (blk:= .iter e m none) (fun b' hb'=>?_) (fun hst=>?_)) (some q) ?_) h
 ·have:w.heap.size=b':=by simpa using hb'
  subst this;exact⟨Nat.le_refl _,by simp,fun es c hc=>absurd hc (Nat.lt_irrefl 0)⟩
 ·obtain⟨h12,h13⟩:=hst.2 _ _ _ hb hnot;refine⟨_,b,es,c,c,#[],c,rfl,heap_alloc_new _ _,h12,h13,hsp.1,Nat.le_refl _,Nat.le_refl _,hsp,?_,fun p hp=>by cases hp⟩;have:es.toList.filter (fun y=>!(#[]:Array Nat).contains y.born)=es.toList:=by simp
  rw[this];exact ha.mono fun _ _ ⟨a,b⟩=>⟨a,b.step hst⟩
 ·exact⟨_,_,Gh.set_same _ _ _,rfl,rfl⟩
theorem d4g{R:Type}[BothC R](hE:EnvOk P G B0 E){o:Oper}{k:St->Option R}{r:R}{K:Act->World->Prop}{Q:Exit->Act->World->Prop}(hs:Sim df G B0 M0 w0 gi g st a w)(hK:S6 df G B0 M0 w0 gi k r K)
  {T:TypeId} {x:Operand} (ho:o.op = .range T x) (h:opD E o st k=some r):o.wp P a w K Q:=by
 simp only[opD,ho,F5,a2Z,a0W,a6E]at h;have hx:=hs.ev x;split at h
 ·rename_i e q e' m hT hd hev;rw[hev]at hx;split at h
  ·rename_i e1;subst e1;obtain⟨b,es,c,e1,h1,h2,h3,h4⟩:=RepV.plain (t:= .mp e') rfl hx;simp only[List.cons.injEq,and_true]at e1;exact c6K hE hK hs ho hT hd e1 h1 h2 h3 h4 h
  ·cases h
 ·rename_i e q r' hT hd hev;rw[hev]at hx;obtain⟨gx,b,hg,hgv,ev⟩:=hx;split at h
  ·cases h
  ·rename_i hlt;split at h
   ·rename_i e' m hcs;split at h
    ·rename_i e1;subst e1;obtain⟨gx',hg',b',es,c,e2,h1,h2,h3⟩:=hs.hp _ _ hcs;rw[hg]at hg';cases hg';subst e2;have e3:b'=b:=by simpa using hgv
     subst e3;have hr:1000<=r':=by
      rcases Nat.lt_or_ge r' 1000 with h|h
      ·rw[show Nat.blt r' 1000=true from by rw[Nat.blt_eq];exact h]at hlt;cases hlt
      ·exact h
     have hnot:¬u9 M0 (g.set r' none) b' 0:=by
      intro h;rcases h with h|⟨r'',y,h1,h2,h3⟩
      ·exact hs.m0x h hg rfl
      ·by_cases hr:r''=r'
       ·subst hr;rw[Gh.set_same]at h1;cases h1
       ·rw[Gh.set_other _ _ hr]at h1;exact hr (hs.inj _ _ _ _ _ h1 hg h2 rfl)
     have hs':=hs.gone (r:=r') (fun x h1 h2=>absurd (hs.gin _ _ h1 h2) (by omega)) (φ:=Go.Proofs.YtckdohagilcloaaGreatDoor.freezeM r' e' m) (fun d v hst hd=>RepD0.freezeM hg rfl hst h1 hnot (h2.mono fun _ _ ⟨a,b⟩=>⟨a,b.step hst⟩) h3 hd) fun _ _=>rfl
     have hstep:Step (u9 M0 g) w (u9 M0 (g.set r' none)) w:=by
      have ht:Turn g r' none w w:=⟨rfl,rfl,rfl,Nat.le_refl _,fun _ _ _=>rfl,fun z b h=>(by cases h),fun x b _ _ _=>⟨fun _ _ _ _ h=>h,fun z h=>(by cases h)⟩,fun z b h=>(by cases h)⟩;exact ht.step hs
     exact c6K hE hK hs' ho hT hd ev h1 hnot (h2.mono fun _ _ ⟨a,b⟩=>⟨a,b.step hstep⟩) h3 h
    ·cases h
   ·cases h
 ·cases h
theorem e0V{R:Type}[BothC R](hE:EnvOk P G B0 E){o:Oper}{k:St->Option R}{r:R}{K:Act->World->Prop}{Q:Exit->Act->World->Prop}(hs:Sim df G B0 M0 w0 gi g st a w)(hK:S6 df G B0 M0 w0 gi k r K)
  {it:Operand} (ho:o.op = .next it false) (h:opD E o st k=some r):o.wp P a w K Q:=by
 simp only[opD,ho,F5,a0t]at h;have hx:=hs.ev it;split at h
 ·rename_i q r' hd hev;rw[hev]at hx;obtain⟨gx,b,hg,hgv,ev⟩:=hx;split at h
  ·rename_i e l cur hcs;obtain⟨gx',hg',ib,bm,es,c,since,seen,c0,e1,h1,h2,h3,h4,h5,h6,h7,h8,_⟩:=hs.hp _ _ hcs;rw[hg]at hg';cases hg';subst e1;have e3:ib=b:=by simpa [S8]using hgv
   subst e3;have hrun:=run_next_at (P:=P) w o.type ib bm since c0 seen es c h1 h2 h4 h5;have hlf:(leftOf es seen).toList=es.toList.filter fun y=>!seen.contains y.born:=by simp[leftOf]
   have hsz:(leftOf es seen).size=l.length:=by rw[<-Array.length_toList,hlf,h8.len]
   rcases M6 h with⟨hem,h⟩|⟨hem,h⟩
   ·have hl0:l=[]:=List.isEmpty_iff.1 hem;rcases hrun with⟨_,hrun⟩|⟨en,hen,_⟩
    ·refine wp_ret (s:=Instr.next (a.eval it) false o.type) (v:= .tuple #[.bool false]) (w':=w) (by simp only[execOp,ho]) (by rw[ev];exact hrun) ?_;rw[hd];exact hK _ _ _ _ (hs.put (some q) (d:= .tup false [.bl false]) ⟨#[.bool false],rfl,rfl,trivial⟩) h
    ·subst hl0;have:(leftOf es seen).toList=[]:=List.eq_nil_of_length_eq_zero (by rw[Array.length_toList,hsz];rfl);rw[this]at hen;cases hen
   ·rcases hrun with⟨hz,_⟩|⟨en,hen,w1,hw1,hrun⟩
    ·have:l=[]:=List.eq_nil_of_length_eq_zero (by omega);subst this;cases hem
    ·rw[hlf]at hen;obtain⟨i,hi⟩:=List.getElem?_of_mem hen;obtain⟨p,hp,hpk,hpv⟩:=h8.get' hi;have hil:i<l.length:=(List.getElem?_eq_some_iff.1 hp).1;have hpi:l[i]=p:=(List.getElem?_eq_some_iff.1 hp).2;have hk:=BothC.allaw h i hil;rw[hpi]at hk;have hbl:ib<w.heap.size:=by
      rcases Nat.lt_or_ge ib w.heap.size with h|h
      ·exact h
      ·simp[Array.getElem?_eq_none h]at h1
     have hw1h:w1.heap=w.heap:=by rcases hw1 with e|e<;>rw[e]<;>rfl
     have hw1o:w1.os=w.os:=by rcases hw1 with e|e<;>rw[e]<;>rfl
     have hw1t:w1.tape=w.tape:=by rcases hw1 with e|e<;>rw[e]<;>rfl
     have hw1p:w1.output=w.output:=by rcases hw1 with e|e<;>rw[e]<;>rfl
     refine wp_ret (s:=Instr.next (a.eval it) false o.type) (v:= .tuple #[.bool true,en.key,en.val]) (w':=ChangeMaps.setBlock w1 ib (.mapIter (some bm) since (seen.push en.born) c)) (by simp only[execOp,ho]) (by rw[ev];exact hrun) ?_;rw[hd];have hheap:(ChangeMaps.setBlock w1 ib (.mapIter (some bm) since (seen.push en.born) c)).heap=w.heap.setIfInBounds ib (.mapIter (some bm) since (seen.push en.born) c):=by
      show w1.heap.setIfInBounds _ _=_;rw[hw1h]
     have hother:∀j,j≠ib->(ChangeMaps.setBlock w1 ib (.mapIter (some bm) since (seen.push en.born) c)).heap[j]? = w.heap[j]?:=fun j hj=>by rw[hheap,Array.getElem?_setIfInBounds,if_neg (Ne.symm hj)]
     have hstp:Step (u9 M0 g) w (u9 M0 g) (ChangeMaps.setBlock w1 ib (.mapIter (some bm) since (seen.push en.born) c)):=by
      have hgs:=Gh.set_self g r' hg;have ht:Turn g r' (some ⟨some ib,0,S8 ib⟩) w (ChangeMaps.setBlock w1 ib (.mapIter (some bm) since (seen.push en.born) c)):=⟨hw1o,hw1t,hw1p,by rw[hheap];simp,fun b hb h=>hother b fun e=>h _ hg (by rw[e]),fun z b h1 h2=>by
        cases h1;exact⟨Nat.lt_of_lt_of_le (hs.low _ _ _ hg h2).2.1 (by rw[hheap];simp),.inr ⟨_,hg,h2⟩⟩,fun x' b h1 h2 h3=>by
        rw[hg]at h1;cases h1;exact absurd h3 (Nat.lt_irrefl 0),fun z b h1 h2 h3=>by cases h1;exact absurd h3 (Nat.lt_irrefl 0)⟩
      have:=ht.step hs;rw[hgs]at this;exact this
     have hrep:∀(hst:Step (u9 M0 g) w (u9 M0 g) (ChangeMaps.setBlock w1 ib (.mapIter (some bm) since (seen.push en.born) c))),RepB (u9 M0 g) (ChangeMaps.setBlock w1 ib (.mapIter (some bm) since (seen.push en.born) c)) g ⟨some ib,0,S8 ib⟩ (.iter e (l.eraseIdx i) (some p)):=by
      intro hst;obtain⟨h12,h13⟩:=hst.2 _ _ _ h2 h3;refine⟨ib,bm,es,c,since,seen.push en.born,c,rfl,?_,h12,h13,h4,h6,h6,h7,?_,fun p' hp'=>?_⟩
      ·rw[hheap,Array.getElem?_setIfInBounds,if_pos rfl,if_pos hbl]
      ·have hf:(es.toList.filter fun y=>!(seen.push en.born).contains y.born)=(es.toList.filter fun y=>!seen.contains y.born).eraseIdx i:=by
        rw[<-a9p _ i en ?_ hi,List.filter_filter]
        ·apply List.filter_congr;intro y _;simp[Bool.and_comm];rfl
        ·exact List.Nodup.sublist (List.filter_sublist.map _) h7.2.1
       rw[hf];exact(h8.mono fun _ _ ⟨a,b⟩=>⟨a,b.step hst⟩).erase i
      ·cases hp';exact⟨rfl,seen,en,rfl,(List.mem_filter.1 hen).1,hpk,hpv.step hst⟩
     refine hK _ _ _ _ (Sim.put (hs.setObj hg (w':=ChangeMaps.setBlock w1 ib (.mapIter (some bm) since (seen.push en.born) c)) hw1o hw1t hw1p (by rw[hheap];simp) hother (blk:= .iter e (l.eraseIdx i) (some p)) hrep) (some q) (d:= .tup false [.bl true,.v .str p.1,.v e p.2]) ⟨#[.bool true,en.key,en.val],rfl,rfl,⟨_,rfl,hpk⟩,hpv.step hstp,trivial⟩) hk
  ·cases h
 ·cases h
theorem d3w{R:Type}[BothC R](hE:EnvOk P G B0 E){o:Oper}{k:St->Option R}{r:R}{K:Act->World->Prop}{Q:Exit->Act->World->Prop}(hs:Sim df G B0 M0 w0 gi g st a w)(hK:S6 df G B0 M0 w0 gi k r K)
  {it:Operand} (ho:o.op = .entry it) (h:opD E o st k=some r):o.wp P a w K Q:=by
 simp only[opD,ho,F5]at h;have hx:=hs.ev it;split at h
 ·rename_i q r' hd hev;rw[hev]at hx;obtain⟨gx,b,hg,hgv,ev⟩:=hx;split at h
  ·rename_i e l p hcs;obtain⟨gx',hg',ib,bm,es,c,since,seen,c0,e1,h1,h2,h3,h4,h5,h6,h7,h8,h9⟩:=hs.hp _ _ hcs;rw[hg]at hg';cases hg';subst e1;have e3:ib=b:=by simpa [S8]using hgv
   subst e3;obtain⟨e4,seen',y,e5,hy,hk,hv⟩:=h9 _ rfl;subst e4 e5;have hrun:=run_entry_at (P:=P) w ib bm since seen' es c0 y h1 h2 hy h7.2.1;refine wp_ret (s:=Instr.entry (a.eval it)) (v:= .tuple #[y.key,y.val]) (w':=w) (by simp only[execOp,ho]) (by rw[ev];exact hrun) ?_;rw[hd];exact hK _ _ _ _ (hs.put (some q) (d:= .tup false [.v .str p.1,.v e p.2]) ⟨#[y.key,y.val],rfl,⟨_,rfl,hk⟩,hv,trivial⟩) h
  ·cases h
 ·cases h
end
end
section
section
variable{P:Program}{df:List Deferred}{G:World->Prop}{B0:Nat}{E:Env}{M:Nat->Nat->Prop}{M0:Nat->Nat->Prop}{w0:World}{gi g:Gh}{st:St}{a:Act}{w:World}
theorem b5R{R:Type}[BothC R](hE:EnvOk P G B0 E){o:Oper}{k:St->Option R}{r:R}{K:Act->World->Prop}{Q:Exit->Act->World->Prop}(hs:Sim df G B0 M0 w0 gi g st a w)(hK:S6 df G B0 M0 w0 gi k r K)
  {S T:TypeId} {x:Operand} (ho:o.op = .convert S T x) {e:TypeId} {s:List UInt8} (hS:E.ty S=some .str) (hT:E.el T=some (e,.u8)) (hx:RepD (u9 M0 g) w g (.v .str s) (a.eval x))
  (hb:s.length*24<=140737488355328) (h:k (st.put o.dst (.v (.sl .u8) s))=some r):o.wp P a w K Q:=by
 have hx':=RepD.str hx;obtain⟨he,bytes,⟨hu,_⟩,_⟩:=hE.el _ _ _ hT;have hm:s.length<=maxLen:=by unfold maxLen;omega
 have hrun:=run_bytes_of_string (P:=P) w S T e ⟨s.toArray⟩ (a3i (hE.ty _ _ hS)) hu (b36 he);have hsz:(⟨s.toArray⟩:ByteArray).size=s.length:=rfl;have hge:=grownCap_ge w s.length 0 e;have hle:=grownCap_le_maxLen w s.length 0 e hm;rw[hsz]at hrun;generalize hcap:grownCap w s.length 0 e=cap at hrun hge hle;generalize hrow:bytesRow ⟨s.toArray⟩ cap=row at hrun;have hget:∀j (hj:j<s.length),row[j]? = some (.int .u8 (s[j].toNat:Int)):=fun j hj=>by
  rw[<-hrow];unfold bytesRow;rw[Array.getElem?_append_left (by simpa using hj)];simp[hj]
 have hext:Ext w (w.drew.alloc (.cells row e (row.size,row.size+1))):=(Ext.refl w).drew.alloc _;refine wp_ret (s:=convert S T (.string ⟨s.toArray⟩)) (by simp[execOp,ho,hx']) hrun ?_;refine hK _ _ _ _ ((hs.later hext).put o.dst (d:= .v (.sl .u8) s) ?_) h;refine RepC.toV (t:= .sl .u8) rfl ⟨some ⟨w.heap.size,0,none⟩,cap,rfl,hge,hle,fun i hi=>⟨⟨w.heap.size,0,none⟩,[.int .u8 (s[i].toNat:Int)],rfl,rfl,fun j u hu=>?_⟩⟩
 match j,hu with
 |0,hu=>
  simp only[List.getElem?_cons_zero,Option.some.injEq]at hu;subst hu;have e1:((⟨w.heap.size,0,none⟩:Addr).add (i*Ty.u8.sz)).add 0=⟨w.heap.size,i,none⟩:=by
   rw[Addr.add_box,Addr.add_box];show(⟨w.heap.size,0+i*1+0,none⟩:Addr)=_;congr 1;omega
  rw[e1];refine⟨?_,fun hM=>?_⟩
  ·have hnew:(w.drew.alloc (.cells row e (row.size,row.size+1))).heap[w.heap.size]? = some (.cells row e (row.size,row.size+1)):=by
    show(w.heap.push _)[w.heap.size]? = _;simp
   have hc:∀(w:World) (b o:Nat) (c:Array Value) (e:TypeId) (fr:Nat×Nat),w.heap[b]? = some (.cells c e fr)->w.cell? ⟨b,o,none⟩=c[o]?:=fun w b o c e fr h=>by
    simp[World.cell?,h]
   rw[hc _ _ _ _ _ _ hnew];exact hget i hi
  ·have:=hs.mlt hM;exact absurd this (Nat.lt_irrefl _)
theorem b6B{R:Type}[BothC R](hE:EnvOk P G B0 E){o:Oper}{k:St->Option R}{r:R}{K:Act->World->Prop}{Q:Exit->Act->World->Prop}(hs:Sim df G B0 M0 w0 gi g st a w)(hK:S6 df G B0 M0 w0 gi k r K)(hP:a88 df G B0 E.bad M0 w0 gi r Q)
  (h:opD E o st k=some r):o.wp P a w K Q:=by
 have h0:=h;unfold opD at h;simp only[F5]at h;split at h
 ·rename_i ho;exact e50 hE hs hK ho h0
 ·rename_i T ho;exact d2Y hE hs hK ho h0
 ·rename_i T x ho;exact e5I hE hs hK ho h0
 ·rename_i T x v ho;exact d4K hE hs hK ho h0
 ·rename_i f first caps ho;exact c1j hs hK ho h0
 ·rename_i T ho;exact c4M hE hs hK ho h0
 ·rename_i T m key x ho;exact b82 hE hs hK ho h0
 ·rename_i T n c ho;exact b81 hE hs hK ho h0
 ·rename_i T n ps ho;exact b5N hE hs hK ho h0
 ·rename_i T x ho;exact d4g hE hs hK ho h0
 ·rename_i it ho;exact e0V hE hs hK ho h0
 ·rename_i it ho;exact d3w hE hs hK ho h0
 ·rename_i T ps ho;exact c80 hE hs hK ho h0
 ·rename_i T x hi ho;exact d4P hE hs hK ho h0
 ·rename_i T x lo ho;exact e1f hE hs hK ho h0
 ·rename_i S T x ho;split at h
  ·rename_i e s hS hT hd;rcases M6 h with⟨hc,h⟩|⟨_,h⟩
   ·have hx:=hs.ev x;rw[hd]at hx;exact b5R hE hs hK ho hS hT hx (of_decide_eq_true hc) h
   ·cases h
  ·exact a8U hE hs hK (by rw[ho]at h ⊢;exact h)
 ·rename_i T x ho;obtain⟨g',st',hs',h'⟩:=b6v hs ho h0;exact a8U hE hs' hK h'
 ·rename_i c ho;split at h
  ·rename_i f hc;exact e0D hE hs hK hP ho hc h0
  ·rename_i hc;exact d3n hE hs hK ho hc h0
  ·rename_i t hc;exact d3j hE hs hK hP ho hc h0
  ·rename_i hc;exact c8U hE hs hK ho hc h0
  ·exact a8U hE hs hK (by rw[ho]at h ⊢;exact h)
 ·exact a8U hE hs hK h
theorem evt(hs:Sim df G B0 M0 w0 gi g st a w){t:Nat}{d:D}(h:st.ev (.tmp t)=d):RepD (u9 M0 g) w g d (a.tmps.getD t undef):=by
 have:=hs.ev (.tmp t);rw[h]at this;exact this
theorem a5r(hs:Sim df G B0 M0 w0 gi g st a w){t:Nat}{d:D}(h:st.ev (.tmp t)=d)(hd:d ≠ .dead:=by intro h;cases h):t<a.tmps.size:=by
 rw[hs.sz];simp only[St.ev]at h;split at h
 ·rename_i d' hd';exact hs.inb t d' hd'
 ·exact absurd h.symm hd
theorem a4Y{l:Array Value}{t:Nat}{v:Value}(h:l.getD t undef=v)(hl:t<l.size):l[t]? = some v:=by
 rw[Array.getD_eq_getD_getElem?,Array.getElem?_eq_getElem hl]at h;rw[Array.getElem?_eq_getElem hl];simpa using h
theorem a40{R:Type}[BothC R]{ops:Array Oper}{o:Oper}{run k:St->Option R}{r:R}(hs:Sim df G B0 M0 w0 gi g st a w)(h:a8J ops.toList o st run k=some r):
  (Region.wanted o (yielded ops a.tmps)=true/\∃st',Sim df G B0 M0 w0 gi g st' a w/\run st'=some r)\/
  (Region.wanted o (yielded ops a.tmps)=false/\∃st',Sim df G B0 M0 w0 gi g st' a w/\k (st'.put o.dst .skip)=some r):=by
 unfold a8J at h;simp only[F5]at h;split at h
 ·rename_i hg;exact .inl ⟨by simp[Region.wanted,hg],st,hs,h⟩
 ·rename_i j b hg;split at h
  ·rename_i oj hj;split at h
   ·rename_i t ht;split at h
    ·rename_i c hc;have hv:=RepD.bool (evt hs hc);have hlt2:t<a.tmps.size:=a5r hs hc;have hy:yielded ops a.tmps j=some c:=by
      rw[Array.getElem?_toList]at hj;simp only[yielded,hj,Option.bind_some,ht,a4Y hv hlt2]
     have hw:Region.wanted o (yielded ops a.tmps)=(c==b):=by
      simp only[Region.wanted,hg,hy];cases c<;>cases b<;>rfl
     have hre:Sim df G B0 M0 w0 gi g (st.put (some t) (.bl c)) a w:=hs.reput (RepD0.toD (d:= .bl c) hv);rcases M6 h with⟨e,h2⟩|⟨e,h2⟩
     ·subst e;cases b
      ·exact .inr ⟨by rw[hw];rfl,_,hre,h2⟩
      ·exact .inl ⟨by rw[hw];rfl,_,hre,h2⟩
     ·subst e;cases b
      ·exact .inl ⟨by rw[hw];rfl,_,hre,h2⟩
      ·exact .inr ⟨by rw[hw];rfl,_,hre,h2⟩
    ·rename_i hc;have hv:a.tmps.getD t undef = .bool true:=evt hs hc;have hlt2:t<a.tmps.size:=a5r hs hc;have hy:yielded ops a.tmps j=some true:=by
      rw[Array.getElem?_toList]at hj;simp only[yielded,hj,Option.bind_some,ht,a4Y hv hlt2]
     cases b
     ·exact .inr ⟨by simp[Region.wanted,hg,hy],st,hs,h⟩
     ·exact .inl ⟨by simp[Region.wanted,hg,hy],st,hs,h⟩
    ·rename_i hc;have hv:a.tmps.getD t undef = .bool false:=evt hs hc;have hlt2:t<a.tmps.size:=a5r hs hc;have hy:yielded ops a.tmps j=some false:=by
      rw[Array.getElem?_toList]at hj;simp only[yielded,hj,Option.bind_some,ht,a4Y hv hlt2]
     cases b
     ·exact .inl ⟨by simp[Region.wanted,hg,hy],st,hs,h⟩
     ·exact .inr ⟨by simp[Region.wanted,hg,hy],st,hs,h⟩
    ·rename_i hc;have hv:a.tmps.getD t undef=undef:=evt hs hc;have hlt2:t<a.tmps.size:=a5r hs hc;have hy:yielded ops a.tmps j=none:=by
      rw[Array.getElem?_toList]at hj;simp only[yielded,hj,Option.bind_some,ht,a4Y hv hlt2];rfl
     exact .inr ⟨by simp[Region.wanted,hg,hy],st,hs,h⟩
    ·cases h
   ·cases h
  ·cases h
theorem a5i{R:Type}[BothC R](hE:EnvOk P G B0 E){ops:Array Oper}{k:St->Option R}{r:R}{Q:Exit->Act->World->Prop}(hK:S6 df G B0 M0 w0 gi k r (Q .normal))(hP:Pans df E.bad M0 w0 gi r Q):∀(l:List Oper) (g:Gh) (st:St) (a:Act) (w:World),
  Sim df G B0 M0 w0 gi g st a w->b5Z E ops.toList l st k=some r->wpList P ops Q l a w
 |[],g,st,a,w,hs,h=>hK _ _ _ _ hs h
 |o :: l,g,st,a,w,hs,h=>by
  unfold wpList;have h:a8J ops.toList o st (fun st=>opD E o st (fun st=>b5Z E ops.toList l st k)) (fun st=>b5Z E ops.toList l st k)=some r:=h;rcases a40 hs h with⟨hw,st',hs',h⟩|⟨hw,st',hs',h⟩
  ·rw[if_pos hw];exact .inl (b6B hE hs' (fun g st a w hs h=>a5i hE hK hP l g st a w hs h) hP.up h)
  ·rw[if_neg (by rw[hw];simp)];exact a5i hE hK hP l g _ _ w (hs'.put _ (d:= .skip) (v:=undef) rfl) h
theorem a7u{R:Type}[BothC R](hE:EnvOk P G B0 E){o:Oper}{k:D->Option R}{r:R}{K:Act->Prop}(hs:Sim df G B0 M0 w0 gi g st a w)(h:O0 E o.op o.type st k=some r)
  (hK:∀d v,RepD (u9 M0 g) w g d v->k d=some r->K (a.put o.dst v)):o.quiet P a (fun w'=>Ext w w') K:=by
 obtain⟨d,v,h1,h2,h3⟩:=a5z hE hs h;refine⟨v,fun w' hE'=>?_,hK d v h2 h1⟩;unfold Oper.quietAt;rw[h3 w' (KeepR.of_ext hE')];exact⟨rfl,rfl⟩
theorem b9e(t u:Sl)(l:List Sl):a3B (t :: u :: l)=false:=by
 cases t with
 |v ty=>cases ty<;>rfl
 |_=>rfl
theorem c9x:∀(rs:List Sl) (y:SV rs),a3B rs=true->∃v d,a0E id rs y=[d]/\(∀(M:Nat->Nat->Prop) (w:World) (g:Gh),RepD M w g d v)/\∀(M:Nat->Nat->Prop) (w:World) (g:Gh) (vs:List Value),All2 (RepD0 M w g) (a0E id rs y) vs->b12 vs=v
 |[.v .u8],y,_=>⟨.int .u8 (UInt8.toNat y.1),.v .u8 y.1,rfl,fun _ _ _=>b3D _,fun M w g vs h=>by
  obtain⟨v,rfl,h2⟩:=one_of h;exact RepD.u8 (g:=g) h2⟩
 |[.v (.int i)],y,_=>⟨.int i y.1,.v (.int i) y.1,rfl,fun _ _ _=>a0P i _,fun M w g vs h=>by
  obtain⟨v,rfl,h2⟩:=one_of h;exact RepD.int (g:=g) h2⟩
 |[.v .bool],y,_=>⟨.bool y.1,.v .bool y.1,rfl,fun _ _ _=>J5 _,fun M w g vs h=>by
  obtain⟨v,rfl,h2⟩:=one_of h;exact RepD.bool (g:=g) h2⟩
 |[.v .str],y,_=>⟨.string ⟨List.toArray y.1⟩,.v .str y.1,rfl,fun _ _ _=>b0t _,fun M w g vs h=>by
  obtain⟨v,rfl,h2⟩:=one_of h;exact RepD.str (g:=g) h2⟩
 |[],_,h=>by cases h
 |[.v (.sl _)],_,h=>by cases h
 |[.v (.pr _ _)],_,h=>by cases h
 |[.v .un],_,h=>by cases h
 |[.v (.mp _)],_,h=>by cases h
 |[.v (.ptr _)],_,h=>by cases h
 |[.v (.np _)],_,h=>by cases h
 |[.v .nl],_,h=>by cases h
 |[.v (.rc _)],_,h=>by cases h
 |[.v (.clo _ _)],_,h=>by cases h
 |[.dead],_,h=>by cases h
 |[.skip],_,h=>by cases h
 |[.nilS],_,h=>by cases h
 |[.nilP],_,h=>by cases h
 |[.row _],_,h=>by cases h
 |[.box _ _],_,h=>by cases h
 |[.at_ _],_,h=>by cases h
 |[.mref _],_,h=>by cases h
 |[.fnc _ _],_,h=>by cases h
 |t :: u :: l,_,h=>by rw[b9e]at h;cases h
where
 one_of {M:Nat->Nat->Prop} {w:World} {g:Gh} {d:D} {vs:List Value} (h:All2 (RepD0 M w g) [d] vs):∃v,vs=[v]/\RepD0 M w g d v:=by
  match vs,h with
  |[v],h=>exact⟨v,rfl,h.1⟩
theorem c4F:forget []=id:=by
 funext d;cases d with
 |fnc f l=>
  have:l.any (w9 [])=false:=by simp[w9]
  simp[forget,this]
 |_=>rfl
theorem c4X{R:Type}[BothC R](hE:EnvOk P G B0 E){o:Oper}{F:AF}{f:FuncId}(hF:E.fn f o.dst=some F)(hq:(a3B F.rs&&F.bs.isEmpty&&F.cs.isEmpty)=true){k:St->Option R}{r:R}{K:Act->Prop}(hs:Sim df G B0 M0 w0 gi g st a w)(hK:∀st' a',Sim df G B0 M0 w0 gi g st' a' w->k st'=some r->K a')
  {ds:List D} {vs:List Value} (hds:All2 (RepD (u9 M0 g) w g) ds vs) (hex:∀w',(∀w,(callFunc f vs.toArray).run P w = .ok (.enter f vs.toArray) w)->(execOp a.eval o).run P w' = .ok (.enter f vs.toArray) w')
  (h:b2Y E st o.dst f ds k=some r):o.quiet P a (fun w'=>Ext w w') K:=by
 unfold b2Y at h;rw[hF]at h;dsimp only at h;unfold c0E at h;dsimp only at h;simp only[Bool.and_eq_true,List.isEmpty_iff]at hq;obtain⟨⟨hq1,hq2⟩,hq3⟩:=hq;obtain⟨hcf,hcalls⟩:=hE.fn _ _ _ hF;obtain⟨ps,bs,rs,cs,RR,out,ff⟩:=F;dsimp only at hq1 hq2 hq3 h hcalls;subst hq2 hq3;split at h
 ·obtain⟨x,ρ,β,h1,_,hn1,_,hx⟩:=a1g hs ps ds vs hds List.nodup_nil h;simp only[b5W]at h1;split at h1
  ·rename_i hlend hlen;have hρl:=List.eq_nil_of_length_eq_zero (Nat.eq_of_beq_eq_true hlen);subst hρl;obtain⟨z,hz,h3⟩:=F9 h1;dsimp only[List.length_nil,Nat.sub_zero,a1n,List.append_nil,List.nil_append,List.any_nil]at h3;simp only[show Nat.beq 0 0=true from rfl,List.append_nil,List.length_nil,a0W,a4G,a1H,List.map_id,F5,a3Y,(show a6h [] [] ([]:List Nat)=[]from rfl),c4F,b8V]at h3;obtain⟨v,d,hd,hrep,huniq⟩:=c9x rs (out z).1 hq1;have hgn:∀j,D2 g [] j=none:=fun j=>by simp[D2]
   have hmove:∀l (x:SV l),a3B l=true->a0E (R5 []) l x=a0E id l x:=by
    intro l x hl;unfold a3B at hl;split at hl<;>first|rfl|cases hl
   rw[hmove _ _ hq1,hd]at h3;refine⟨v,fun w' hE'=>?_,hK _ _ (hs.put _ (hrep _ _ _)) h3⟩;have hs':=hs.later hE';have hGw:G w':=hE.stable _ _ _ hs'.gg hs'.ext hs'.gil;have hargs:=(hx [] β (List.prefix_refl _) fun _ h=>h).mono fun _ _ hd=>RepD0.step (Step.ext hE') hd
   have hfrag:=b8P (y:=()) hs' (bs:=[]) (ρ:=[]) (β:=β) List.nodup_nil rfl (fun _ _ h=>by cases h) hargs (fun i blk h=>by cases h);have hcall:=hcalls _ w' _ vs x () z hGw (Nat.le_trans hs'.b0 hs'.size) hfrag hz;unfold Oper.quietAt;rw[hex w' (hcf _)];refine⟨rfl,hcall.mono ?_⟩;rintro e' w'' ⟨vs',g',rfl,hX,_,hfr,_⟩;exact⟨by rw[huniq _ _ _ _ hfr.args],hE'.trans (hX.ext fun b ⟨j,x,h1,_⟩=>by rw[hgn]at h1;cases h1)⟩
  ·cases h1
 ·rename_i hno;have:rs.all Sl.flat=true:=by
   unfold a3B at hq1;split at hq1<;>first|rfl|cases hq1
  simp[AF.calm,this]at hno
theorem c9o{R:Type}[BothC R](hE:EnvOk P G B0 E){o:Oper}(hq:I8 E o=true){k:St->Option R}{r:R}{K:Act->Prop}(hs:Sim df G B0 M0 w0 gi g st a w)(hK:∀g' st' a',Sim df G B0 M0 w0 gi g' st' a' w->k st'=some r->K a')
  (h:opD E o st k=some r):o.quiet P a (fun w'=>Ext w w') K:=by
 have h0:=h;unfold opD at h;simp only[F5]at h;split at h
 ·rename_i ho;simp[I8,ho]at hq
 ·rename_i T ho;simp[I8,ho]at hq
 ·rename_i T x ho;simp[I8,ho]at hq
 ·rename_i T x v ho;simp[I8,ho]at hq
 ·rename_i f first caps ho;simp[I8,ho]at hq
 ·rename_i T ho;simp[I8,ho]at hq
 ·rename_i T m key x ho;simp[I8,ho]at hq
 ·rename_i T n c ho;simp[I8,ho]at hq
 ·rename_i T n ps ho;simp[I8,ho]at hq
 ·rename_i T x ho;simp[I8,ho]at hq
 ·rename_i it ho;simp[I8,ho]at hq
 ·rename_i it ho;simp[I8,ho]at hq
 ·rename_i T ps ho;simp[I8,ho]at hq
 ·rename_i T x hi ho;simp[I8,ho]at hq
 ·rename_i T x lo ho;simp[I8,ho]at hq
 ·rename_i S T x ho;have hn:E.el T=none:=by simpa [I8,ho]using hq
  split at h
  ·rename_i hT _;rw[hn]at hT;cases hT
  ·exact a7u hE hs (k:=fun d=>k (st.put o.dst d)) (by rw[ho]at h ⊢;exact h) fun d v hr hk=>hK _ _ _ (hs.put _ hr) hk
 ·rename_i T x ho;obtain⟨g',st',hs',h'⟩:=b6v hs ho h0;exact a7u hE hs' (k:=fun d=>k (st'.put o.dst d)) h' fun d v hr hk=>hK _ _ _ (hs'.put _ hr) hk
 ·rename_i c ho;split at h
  ·rename_i f hc;simp only[I8,ho,hc]at hq;cases hF:E.fn f o.dst with
   |none=>rw[hF]at hq;cases hq
   |some F=>
    rw[hF]at hq;have harr:(c.args.toList.map a.eval).toArray=c.args.map a.eval:=by
     apply Array.ext';simp
    refine c4X hE hF hq hs (fun st a=>hK _ st a) (a3l hs c.args.toList) (fun w' hcf=>?_) h;have:=hcf w';rw[harr]at this ⊢;simp[execOp,ho,resolve,hc,Act.eval,Deferred.ofValue,invoke,this]
  ·rename_i hc;simp[I8,ho,hc]at hq
  ·rename_i hc;simp[I8,ho,hc]at hq
  ·rename_i hc;simp[I8,ho,hc]at hq
  ·exact a7u hE hs (k:=fun d=>k (st.put o.dst d)) (by rw[ho]at h ⊢;exact h) fun d v hr hk=>hK _ _ _ (hs.put _ hr) hk
 ·exact a7u hE hs (k:=fun d=>k (st.put o.dst d)) h fun d v hr hk=>hK _ _ _ (hs.put _ hr) hk
theorem a5h{R:Type}[BothC R](hE:EnvOk P G B0 E){ops:Array Oper}{k:St->Option R}{r:R}{Q:Exit->Act->World->Prop}(hK:S6 df G B0 M0 w0 gi k r (Q .normal)):∀(l:List Oper) (g:Gh) (st:St) (a:Act),l.all (I8 E)=true->
  Sim df G B0 M0 w0 gi g st a w->b5Z E ops.toList l st k=some r->wpQuiet P ops (fun w'=>Ext w w') (fun a'=>∀w',Ext w w'->Q .normal a' w') l a
 |[],g,st,a,_,hs,h=>fun w' hE'=>hK _ _ _ _ (hs.later hE') h
 |o :: l,g,st,a,hq,hs,h=>by
  simp only[List.all_cons,Bool.and_eq_true]at hq;unfold wpQuiet;have h:a8J ops.toList o st (fun st=>opD E o st (fun st=>b5Z E ops.toList l st k)) (fun st=>b5Z E ops.toList l st k)=some r:=h;rcases a40 hs h with⟨hw,st',hs',h⟩|⟨hw,st',hs',h⟩
  ·rw[if_pos hw];exact c9o hE hq.1 hs' (fun _ st a hs h=>a5h hE hK l _ st a hq.2 hs h) h
  ·rw[if_neg (by rw[hw];simp)];exact a5h hE hK l _ _ _ hq.2 (hs'.put _ (d:= .skip) (v:=undef) rfl) h
end
end
end Go.Proofs.YtckdohagilcloaaGreatDoor
