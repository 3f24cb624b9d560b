/- % -/
import Derived.Test.YtckdohagilcloaaGreatDoorQBm8
namespace Go.Proofs.YtckdohagilcloaaGreatDoor
set_option linter.unusedVariables false
set_option linter.unusedSimpArgs false
open Go Go.RowKit
section
theorem Nat.mul_add_mod_of_lt'{j k m:Nat}(h:m<k):(j*k+m) % k=m:=by rw[Nat.mul_comm,Nat.mul_add_mod,Nat.mod_eq_of_lt h]
section
variable{P:Program}
theorem b1J(w:World)(base:Nat)(t ty e:TypeId)(size bytes:Nat)(hT:ElemT P t e size bytes)(v:Value)(n:Nat)(xs:List Value)(hown:w.ownsRow base e size v n xs)(hbase:base<=w.heap.size)
  (A:Option Addr) (m c:Nat) (news:List Value) (hl:news.length=m*size) (hr:Row w A news) (h1:∀u∈news,u.oneCell'=true) (hb:(n+m)*bytes<=140737488355328):
  ∃v' w',(Builtin.append_ #[t,t] ty #[v,.slice A m c]).run P w = .ok v' w'/\w'.ownsRow base e size v' (n+m) (xs++news)/\
   ((v'.ownBlock=v.ownBlock/\w.grownBy w' v.ownBlock)\/(Ext w w'/\v'.ownBlock=some w.heap.size)):=by
 by_cases hm:m=0
 ·subst hm;have hn:news=[]:=List.eq_nil_of_length_eq_zero (by simpa using hl);subst hn;have hsame:(Builtin.append_ #[t,t] ty #[v,.slice A 0 c]).run P w = .ok v w:=by
   rcases A with _|ad
   ·exact a6f P w base t ty e size bytes hT v n xs hown c
   ·obtain⟨ht,hsz,hbp,i,z,hi,hz,hsize,hby,hzs⟩:=hT;rcases hown.2 with⟨rfl,rfl⟩|⟨g,cap,cur,rfl,_,_,hnc,_⟩
    ·simp[Builtin.append_,run_underlying ht,sizeOf,typeInfo,hi,Builtin.lenOf,Builtin.firstCells,loadCells,loadCellsFrom]
    ·simp[Builtin.append_,run_underlying ht,sizeOf,typeInfo,hi,Builtin.lenOf,Builtin.firstCells,hnc,storeCells,loadCells,loadCellsFrom]
  exact⟨v,w,hsame,by simpa using hown,.inl ⟨rfl,World.grownBy.refl w _⟩⟩
 ·obtain⟨ht,hsz,hbp,i,z,hi,hz,hsize,hby,hzs⟩:=hT;have hne:news ≠ []:=by rintro rfl;have:=Nat.mul_pos (Nat.pos_of_ne_zero hm) hsz;simp at hl;omega
  obtain⟨ad,rfl,hcells⟩:=hr hne;have h63:n+m<=maxLen:=by
   have:n+m<=(n+m)*bytes:=Nat.le_mul_of_pos_right _ hbp;unfold maxLen;omega
  have h63':n+m<=9223372036854775807:=by simp only[maxLen]at h63;omega
  obtain⟨v',w',hrun,h2,h3,_,h5⟩:=run_append_own_at (P:=P) w base t ty e i z size bytes ht hi hz hsize hby hzs hsz v n xs hown ad m c news hl hcells h1 h63 hb hbase;subst hsize;subst hby
  refine⟨v',w',hrun,h2,?_⟩;rcases hown.2 with⟨rfl,rfl⟩|⟨gg,cap,cur,rfl,hbg,hg,hnc,hcm,hcs,htake⟩
  ·have h48:m*i.bytes<=281474976710656:=by simp only[Nat.zero_add]at hb;omega
   have hrun2:=run_append_nil (P:=P) w t ty e i z ht hi hz ad m c news hl hcells (by omega) (by omega) h48;rw[hrun]at hrun2;injection hrun2 with e1 e2
   exact .inr ⟨by rw[e2];exact(Ext.refl w).drew.alloc _,by rw[e1];rfl⟩
  ·by_cases hroom:n+m<=cap
   ·have hfit:n*i.size+news.length<=cur.size:=by rw[hl,hcs,<-Nat.add_mul];exact Nat.mul_le_mul_right _ hroom
    have hrun2:=run_append_room (P:=P) w t ty e i ht hi gg n cap cur hg ad m c news hl hcells h1 hroom hfit;rw[hrun]at hrun2;injection hrun2 with e1 e2
    exact .inl ⟨by rw[e1];rfl,h3⟩
   ·have holds:∀j u,xs[j]? = some u->w.cell? ((⟨gg,0,none⟩:Addr).add j)=some u:=hown.cells (g:=gg) rfl;have hrun2:=run_append_grow (P:=P) w t ty e i z ht hi hz ⟨gg,0,none⟩ n cap xs hown.1 holds ad m c news hl hcells (by omega) (by omega) (growslice_fits (by omega) hb);rw[hrun]at hrun2;injection hrun2 with e1 e2
    exact .inr ⟨by rw[e2];exact(Ext.refl w).drew.alloc _,by rw[e1];rfl⟩
end
section
variable{P:Program}{df:List Deferred}{G:World->Prop}{B0:Nat}{E:Env}{M:Nat->Nat->Prop}{M0:Nat->Nat->Prop}{w0:World}{gi g:Gh}{st:St}{a:Act}{w:World}
theorem RepC.rowOf{t:Ty}(hz:0<t.sz){xs:List t.den}{A:Option Addr}{n c:Nat}(h:RepC M w (.sl t) xs [.slice A n c]):
  n=xs.length/\∃cs,cs.length=n*t.sz/\Row w A cs/\(∀u∈cs,u.oneCell'=true)/\∀i (h:i<xs.length),RepC M w t xs[i] ((cs.drop (i*t.sz)).take t.sz):=by
 obtain⟨A',c',e,_,_,hr⟩:=h;simp only[List.cons.injEq,Value.slice.injEq,and_true]at e;obtain⟨rfl,rfl,rfl⟩:=e;refine⟨rfl,?_⟩;have hex:∀i,∃es:List Value,∀h:i<xs.length,∃ad,A=some ad/\RepC M w t xs[i] es/\Pl M w (ad.add (i*t.sz)) es:=fun i=>by
  by_cases h:i<xs.length
  ·obtain⟨ad,es,e,h1,h2⟩:=hr i h;exact⟨es,fun _=>⟨ad,e,h1,h2⟩⟩
  ·exact⟨[],fun h'=>absurd h' h⟩
 obtain⟨f,hf⟩:=Classical.axiomOfChoice hex
 let vs:List Value:=(List.range xs.length).map fun i=> .agg (f i).toArray
 have hvs:∀v∈vs,v.cells.size=t.sz:=by
  intro v hv;obtain⟨i,hi,rfl⟩:=List.mem_map.1 hv;obtain⟨ad,_,h1,_⟩:=hf i (List.mem_range.1 hi);simpa [Value.cells]using RepC.len _ _ _ h1
 have hget:∀i j,i<xs.length->j<t.sz->(vs.flatMap fun v=>v.cells.toList)[i*t.sz+j]? = (f i)[j]?:=by
  intro i j hi hj;rw[Great.flat_get hz vs hvs];have e1:(i*t.sz+j) / t.sz=i:=by rw[Nat.mul_comm,Nat.mul_add_div hz,Nat.div_eq_of_lt hj,Nat.add_zero]
  have e2:(i*t.sz+j) % t.sz=j:=by rw[Nat.mul_comm,Nat.mul_add_mod,Nat.mod_eq_of_lt hj]
  rw[e1,e2];simp[vs,hi,Value.cells]
 have hlen:(vs.flatMap fun v=>v.cells.toList).length=xs.length*t.sz:=by
  have:∀l:List Value,(∀v∈l,v.cells.size=t.sz)->(l.flatMap fun v=>v.cells.toList).length=l.length*t.sz:=by
   intro l;induction l with
   |nil=>intro _;simp
   |cons v l ih=>
    intro h;rw[List.flatMap_cons,List.length_append,ih (fun u hu=>h u (List.mem_cons_of_mem _ hu)),Array.length_toList,h v List.mem_cons_self,List.length_cons,Nat.add_mul];omega
  rw[this vs hvs];simp[vs]
 have hslice:∀i,i<xs.length->((vs.flatMap fun v=>v.cells.toList).drop (i*t.sz)).take t.sz=f i:=by
  intro i hi;obtain⟨ad,_,h1,_⟩:=hf i hi;have hl:=RepC.len _ _ _ h1;apply List.ext_getElem?;intro j;rw[List.getElem?_take];by_cases hj:j<t.sz
  ·rw[if_pos hj,List.getElem?_drop,hget i j hi hj]
  ·rw[if_neg hj,List.getElem?_eq_none (by omega)]
 refine⟨_,hlen,?_,?_,fun i hi=>by rw[hslice i hi];exact(hf i hi).choose_spec.2.1⟩
 ·intro hne;have h0:0<xs.length:=by
   rcases Nat.eq_zero_or_pos xs.length with h0|h0
   ·exact absurd (List.eq_nil_of_length_eq_zero (by rw[hlen,h0,Nat.zero_mul])) hne
   ·exact h0
  obtain⟨ad,e,_⟩:=hf 0 h0;refine⟨ad,e,fun k u hu=>?_⟩;have hk:k<xs.length*t.sz:=by
   rcases Nat.lt_or_ge k (vs.flatMap fun v=>v.cells.toList).length with h'|h'
   ·rwa [hlen]at h'
   ·rw[List.getElem?_eq_none h']at hu;cases hu
  have hi:k / t.sz<xs.length:=(Nat.div_lt_iff_lt_mul hz).2 hk;have hj:k % t.sz<t.sz:=Nat.mod_lt _ hz;have hk2:k / t.sz*t.sz+k % t.sz=k:=Nat.div_add_mod' k t.sz;obtain⟨ad',e',_,h2⟩:=hf _ hi;rw[e]at e';injection e' with e'
  subst e';have hg:=hget _ _ hi hj;rw[hk2,hu]at hg;have:=(h2 _ _ hg.symm).1;rw[a1Z,hk2]at this;exact this
 ·intro u hu;obtain⟨v,hv,hu⟩:=List.mem_flatMap.1 hu;obtain⟨i,hi,rfl⟩:=List.mem_map.1 hv;obtain⟨ad,_,h1,_⟩:=hf i (List.mem_range.1 hi);exact RepC.one _ _ _ h1 u (by simpa [Value.cells]using hu)
theorem ElOk.pos{T e:TypeId}{t:Ty}(h:ElOk P T e t):0<t.sz:=by obtain⟨_,bytes,⟨_,h2,_⟩,_⟩:=h;exact h2
theorem c01{s:Nat}(hs:0<s)(vs:List Value)(h:∀v∈vs,v.cells.size=s){i:Nat}(hi:i<vs.length):((vs.flatMap fun v=>v.cells.toList).drop (i*s)).take s=vs[i].cells.toList:=by
 have hl:vs[i].cells.size=s:=h _ (List.getElem_mem hi);apply List.ext_getElem?;intro j;rw[List.getElem?_take];by_cases hj:j<s
 ·rw[if_pos hj,List.getElem?_drop,Great.flat_get hs vs h];have e1:(i*s+j) / s=i:=by rw[Nat.mul_comm,Nat.mul_add_div hs,Nat.div_eq_of_lt hj,Nat.add_zero]
  have e2:(i*s+j) % s=j:=by rw[Nat.mul_comm,Nat.mul_add_mod,Nat.mod_eq_of_lt hj]
  rw[e1,e2,List.getElem?_eq_getElem hi];simp
 ·rw[if_neg hj,List.getElem?_eq_none (by rw[Array.length_toList];omega)]
theorem b6o{s:Nat}:∀(vs:List Value),(∀v∈vs,v.cells.size=s)->(vs.flatMap fun v=>v.cells.toList).length=vs.length*s
 |[],_=>by simp
 |v :: vs,h=>by
  rw[List.flatMap_cons,List.length_append,b6o vs (fun u hu=>h u (List.mem_cons_of_mem _ hu)),Array.length_toList,h v List.mem_cons_self,List.length_cons,Nat.add_mul];omega
theorem c4B(v:Value):∀b l,a6D v ≠ .tup b l:=by
 intro b l;unfold a6D;split<;>first|(split<;>(intro h;cases h))|(intro h;cases h)
theorem Sim.evL(hs:Sim df G B0 M0 w0 gi g st a w)(x:Operand):RepD (u9 M0 g) w g (st.evL x) (a.eval x):=by
 unfold St.evL;split
 ·rename_i vs;refine⟨vs,rfl,?_⟩;have:∀l:List Value,All2 (RepD0 (u9 M0 g) w g) (l.map a6D) l:=fun l=>by
   induction l with
   |nil=>trivial
   |cons v l ih=>exact⟨(RepD.of0 (c4B v)).1 (b3B v),ih⟩
  exact this _
 ·exact hs.ev x
theorem a8M(hs:Sim df G B0 M0 w0 gi g st a w){t:Ty}:∀(ps:List (Nat×Operand)) (i:Nat) (xs:List t.den),e0S st t ps i=some xs->
  (ps.map fun p=>(p.1,a.eval p.2))=((ps.map fun p=>a.eval p.2).zipIdx i).map (fun x=>(x.2,x.1))/\All2 (fun x v=>RepV (u9 M0 g) w t x v) xs (ps.map fun p=>a.eval p.2)
 |[],i,xs,h=>by cases h;exact⟨rfl,trivial⟩
 |(j,x) :: ps,i,xs,h=>by
  simp only[e0S]at h;split at h
  ·rename_i hj;subst hj;split at h
   ·rename_i y hy;split at h
    ·rename_i ys hys;cases h;obtain⟨h1,h2⟩:=a8M hs ps (j+1) ys hys;exact⟨by simp only[List.map_cons,List.zipIdx_cons];rw[h1],hs.dta (hs.evL x) hy,h2⟩
    ·cases h
   ·cases h
  ·cases h
theorem a5j{base:Nat}{e:TypeId}{sz:Nat}{v:Value}{n:Nat}{cs:List Value}(h:w.ownsRow base e sz v n cs){b:Nat}(hb:v.ownBlock=some b):b<w.heap.size/\∀es c,w.heap[b]? ≠ some (.map es c):=by
 rcases h.2 with⟨e5,_⟩|⟨gg,cap,cur,e5,_,hg,_⟩
 ·rw[e5]at hb;cases hb
 ·rw[e5]at hb;have:gg=b:=by simpa [Value.ownBlock]using hb
  subst this;exact⟨z8 hg,fun es c hc=>by rw[hg]at hc;cases hc⟩
theorem a4K{base:Nat}{e:TypeId}{sz:Nat}{v:Value}{n:Nat}{cs:List Value}(h:w.ownsRow base e sz v n cs):a79 v=true->False:=by
 obtain⟨A,c,rfl,_⟩:=Row.of_own' h;intro h;cases h
def c9j(t:Ty)(ex:Bool)(n:Nat):Nat:=match ex with|true=>0|false=>n*t.sz
theorem a9z{R:Type}[BothC R]{o:Oper}{k:St->Option R}{r:R}{K:Act->World->Prop}(hs:Sim df G B0 M0 w0 gi g st a w)(hK:S6 df G B0 M0 w0 gi k r K){n q:Nat}(hq:1000<=q)(hd:o.dst=some n){e:TypeId}{t:Ty}{ex:Bool}{xs:List t.den}{w':World}{v:Value}{cs:List Value}
  (hz:0<t.sz) (he:Ext w w') (hown:w'.ownsRow 0 e t.sz v xs.length cs) (hblk:∀b,v.ownBlock=some b->w.heap.size<=b)
  (hel:∀M',Step (u9 M0 g) w M' w'->∀i (h:i<xs.length),RepC M' w' t xs[i] ((cs.drop (i*t.sz)).take t.sz)) (h:k ((st.new q (.row e t ex xs)).put (some n) (.row q))=some r):K (a.put o.dst v) w':=by
 rw[hd];obtain⟨A,c,hv,_⟩:=Row.of_own' hown;refine hK _ _ _ _ (Sim.put (hs.newB (r:=q) (z:=⟨v.ownBlock,c9j t ex xs.length,v⟩) hq he (blk:= .row e t ex xs) (fun b hb=>?_) (fun hst=>⟨hz,cs,hown,rfl,by cases ex<;>rfl,hel _ hst⟩)) (some n) ?_) h
 ·exact⟨hblk b hb,(a5j hown hb).1,fun es c _=>(a5j hown hb).2 es c⟩
 ·exact⟨_,A,_,c,Gh.set_same _ _ _,rfl,hv⟩
theorem e50{R:Type}[BothC R](hE:EnvOk P G B0 E){o:Oper}{k:St->Option R}{r:R}{K:Act->World->Prop}{Q:Exit->Act->World->Prop}(hs:Sim df G B0 M0 w0 gi g st a w)(hK:S6 df G B0 M0 w0 gi k r K)
  (ho:o.op = .assign (.const (.slice none 0 0))) (h:opD E o st k=some r):o.wp P a w K Q:=by
 simp only[opD,ho,F5,a2Z]at h;split at h
 ·rename_i e t n hT hd;have he:execOp a.eval o=(do pure (Next.value (<-(pure (.slice none 0 0):Sem Value)))):=by simp[execOp,ho,Act.eval]
  refine wp_ret he (Sem.run_pure _ _ _) ?_;exact a9z hs hK (Nat.le_add_right _ _) hd (hE.el _ _ _ hT).pos (Ext.refl w) (cs:=[]) (World.ownsRow_nil _ _ _ _) (fun b hb=>by cases hb) (fun _ _ i hi=>absurd hi (by simp)) h
 ·cases h
theorem b5N{R:Type}[BothC R](hE:EnvOk P G B0 E){o:Oper}{k:St->Option R}{r:R}{K:Act->World->Prop}{Q:Exit->Act->World->Prop}(hs:Sim df G B0 M0 w0 gi g st a w)(hK:S6 df G B0 M0 w0 gi k r K)
  {T:TypeId} {n:Nat} {ps:Array (Nat×Operand)} (ho:o.op = .buildSlice T n ps) (h:opD E o st k=some r):o.wp P a w K Q:=by
 simp only[opD,ho,F5,a2Z]at h;split at h
 ·rename_i e t q hT hd;obtain⟨g,st,hs,h⟩:=a9K _ hs h;split at h
  ·rename_i xs hxs;split at h
   ·rename_i hn;obtain⟨hn,hsm⟩:=hn;rcases Nat.eq_zero_or_pos n with h00|h0
    ·have h9:=h;clear h;subst h00;have hel:=hE.el _ _ _ hT;have hz:=hel.pos;obtain⟨hok,bytes,⟨hu,_,_,i,z,hi,hiz,hisz,hib,hzs⟩,_⟩:=hel;have hx0:xs=[]:=List.eq_nil_of_length_eq_zero hn;subst hx0;have hps:ps = #[]:=by
      have hl:=(a8M hs _ _ _ hxs).2.len;simp only[List.length_map,Array.length_toList,List.length_nil]at hl;exact Array.eq_empty_of_size_eq_zero hl.symm
     subst hps;have hrun:(Instr.buildSlice T 0 (#[]:Array (Nat×Value))).run P w = .ok (.slice (some ⟨w.heap.size,0,none⟩) 0 0) (w.alloc (.cells #[] e)):=by
      have hsz:=G2 (w:=w) (P:=P) hok;simp[Instr.buildSlice,run_underlying hu,hsz,Instr.fill,newRow];rw[show Array.map (fun x=>(default:Value)) (Array.range 0) = #[]from Array.eq_empty_of_size_eq_zero (by rw[Array.size_map,Array.size_range])]
     have he:execOp a.eval o=(do pure (Next.value (<-Instr.buildSlice T 0 (#[]:Array (Nat×Value))))):=by simp[execOp,ho]
     refine wp_ret he hrun ?_;refine a9z (xs:=[]) (cs:=[]) hs hK (Nat.le_add_right _ _) hd hz ((Ext.refl w).alloc _) ?_ (fun b hb=>?_) (fun M' hst j hj=>(by cases hj)) h9
     ·exact⟨by simp,.inr ⟨w.heap.size,0,_,rfl,Nat.zero_le _,heap_alloc_new _ _,Nat.le_refl _,Nat.zero_le _,by simp,by simp⟩⟩
     ·simp only[Value.ownBlock,Option.some.injEq]at hb;omega
    have hel:=hE.el _ _ _ hT;have hz:=hel.pos;obtain⟨hok,bytes,⟨hu,_,_,i,z,hi,hiz,hisz,hib,hzs⟩,_⟩:=hel;obtain⟨h1,h2⟩:=a8M hs _ _ _ hxs;have hlen:(ps.toList.map fun p=>a.eval p.2).length=n:=by rw[<-hn];exact h2.len.symm
    have hcells:∀v∈ps.toList.map (fun p=>a.eval p.2),v.cells.size=t.sz:=by
     intro v hv;obtain⟨j,hj,rfl⟩:=List.getElem_of_mem hv;obtain⟨x,_,hx⟩:=h2.get' (List.getElem?_eq_getElem hj);have:=RepC.len _ _ _ hx.cells
     rwa [Array.length_toList]at this
    have hfill:=Great.fill_whole hz (ps.toList.map fun p=>a.eval p.2) ((Array.range (n*i.size)).map (z.cells[·% z.cells.size]!)) hcells (by rw[hlen];simp[hisz]);have e3:(ps.map fun(i,x)=>(i,a.eval x)).toList=((ps.toList.map fun p=>a.eval p.2).zipIdx 0).map (fun x=>(x.2,x.1)):=by rw[Array.toList_map];exact h1
    have hs1:¬n*i.size>2 ^ 24:=by rw[hisz];exact Nat.not_lt.2 hsm
    have hs2:¬n*i.size=0:=by rw[hisz];exact Nat.ne_of_gt (Nat.mul_pos h0 hz)
    rw[<-e3]at hfill;have hrun:=run_buildSlice (P:=P) w T e n (ps.map fun(i,x)=>(i,a.eval x)) _ i z hu hi hiz hs1 hs2 (by rw[hisz]at hfill ⊢;exact hfill);have he:execOp a.eval o=(do pure (Next.value (<-Instr.buildSlice T n (ps.map fun(i,x)=>(i,a.eval x))))):=by simp only[execOp,ho]
    refine wp_ret he hrun ?_;clear hrun he hfill e3;have hown:(w.alloc (.cells ((ps.toList.map fun p=>a.eval p.2).flatMap fun v=>v.cells.toList).toArray e)).ownsRow 0 e t.sz (.slice (some ⟨w.heap.size,0,none⟩) n n) n ((ps.toList.map fun p=>a.eval p.2).flatMap fun v=>v.cells.toList):=by
     have hfl:=b6o _ hcells;rw[hlen]at hfl;refine⟨hfl,.inr ⟨w.heap.size,n,_,rfl,Nat.zero_le _,heap_alloc_new _ _,Nat.le_refl _,?_,by simpa using hfl,?_⟩⟩
     ·have:n<=n*t.sz:=Nat.le_mul_of_pos_right _ hz;unfold maxLen;omega
     ·rw[<-hfl];exact List.take_length
    refine a9z hs hK (Nat.le_add_right _ _) hd hz ((Ext.refl w).alloc _) (by rw[hn];exact hown) (fun b hb=>?_) (fun M' hst j hj=>?_) h
    ·simp only[Value.ownBlock,Option.some.injEq]at hb;omega
    ·have hj':j<(ps.toList.map fun p=>a.eval p.2).length:=by rw[hlen];omega
     rw[c01 hz _ hcells hj'];obtain⟨v,hv,hx⟩:=h2.get (List.getElem?_eq_getElem hj);rw[List.getElem?_eq_getElem hj']at hv;injection hv with hv
     rw[hv];exact RepC.step hst _ _ _ hx.cells
   ·cases h
  ·cases h
 ·cases h
theorem a8f(z:Array Value)(n k:Nat):(madeCells z n).toList[k]? = if k<n then some (z[k % z.size]!)else none:=by
 simp only[madeCells,Array.toList_map,Array.toList_range,List.getElem?_map];by_cases h:k<n
 ·rw[List.getElem?_eq_getElem (by simpa using h)];simp[h]
 ·rw[List.getElem?_eq_none (by simpa using h)];simp[h]
theorem b81{R:Type}[BothC R](hE:EnvOk P G B0 E){o:Oper}{k:St->Option R}{r:R}{K:Act->World->Prop}{Q:Exit->Act->World->Prop}(hs:Sim df G B0 M0 w0 gi g st a w)(hK:S6 df G B0 M0 w0 gi k r K)
  {T:TypeId} {n c:Operand} (ho:o.op = .makeSlice T n c) (h:opD E o st k=some r):o.wp P a w K Q:=by
 simp only[opD,ho,F5,a2Z]at h;split at h
 ·rename_i e t q n' c' hT hd hn hc;split at h
  ·rename_i ds hz0;rcases M6 h with⟨hcond,h⟩|⟨_,h⟩
   ·have hcond':=of_decide_eq_true hcond;have hel:=hE.el _ _ _ hT;have hz:=hel.pos;obtain⟨hok,bytes,⟨hu,_,_,i,z,hi,hiz,hisz,hib,hzs⟩,hby⟩:=hel;have hn1:=hs.ev n;have hc1:=hs.ev c;rw[hn]at hn1;rw[hc]at hc1;have hn2:=RepD.int hn1;have hc2:=RepD.int hc1;have hzc:z.cells=(I5 t).toArray:=by
     obtain⟨d,h3,_⟩:=hok;rw[hi]at h3;simp only[Option.map_some,Option.some.injEq,Prod.mk.injEq]at h3;have h4:=h3.2;rw[hiz]at h4;injection h4 with h4
     rw[h4,b0q (a19 t) (b1t t)]
    obtain⟨N,hN⟩:∃N:Int,N=n':=⟨n',rfl⟩;obtain⟨C,hC⟩:∃C:Int,C=c':=⟨c',rfl⟩;rw[<-hN,<-hC]at hcond';rw[<-hN]at hn2 h;rw[<-hC]at hc2;clear hN hC;obtain⟨h0',hnc',hcb'⟩:=hcond';have h0:(0:Int)<=N:=h0';have hnc:N<=C:=hnc';have hcb:C*(24*t.sz:Nat)<=(140737488355328:Int):=hcb';clear h0' hnc' hcb';have hzn:z.cells.size=t.sz:=by rw[hzc];simpa using a19 t
    have hc24:(i.bytes:Int)*C<=281474976710656:=by
     rw[hib];have h5:(bytes:Int)<=(24*t.sz:Nat):=by exact_mod_cast hby
     have h6:(bytes:Int)*C<=(24*t.sz:Nat)*C:=Int.mul_le_mul_of_nonneg_right h5 (by omega);rw[Int.mul_comm C]at hcb;omega
    have hc63:C<=140737488355328:=by
     have h5:C*1<=C*(24*t.sz:Nat):=Int.mul_le_mul_of_nonneg_left (by omega) (by omega);omega
    have hrun:=run_make (P:=P) w T e i z hu hi hiz .i64 .i64 N C h0 hnc hc24 (by omega);have he:execOp a.eval o=(do pure (Next.value (<-Instr.makeSlice T (.int .i64 N) (.int .i64 C)))):=by simp only[execOp,ho,hn2,hc2]
    refine wp_ret he hrun ?_;clear hrun he;rw[hisz];have hlen:(mk0 N (zero t)).length=N.toNat:=List.length_replicate;have hle:N.toNat<=C.toNat:=Int.toNat_le_toNat hnc;have hmul:N.toNat*t.sz<=C.toNat*t.sz:=Nat.mul_le_mul_right _ hle;refine a9z (cs:=(madeCells z.cells (C.toNat*t.sz)).toList.take (N.toNat*t.sz)) hs hK (Nat.le_add_right _ _) hd hz ((Ext.refl w).alloc _) ?_ (fun b hb=>?_) (fun M' hst j hj=>?_) h
    ·rw[hlen];refine⟨by rw[List.length_take,Array.length_toList,size_madeCells];omega,.inr ⟨w.heap.size,C.toNat,_,rfl,Nat.zero_le _,heap_alloc_new _ _,hle,?_,size_madeCells _ _,rfl⟩⟩;unfold maxLen;omega
    ·simp only[Value.ownBlock,Option.some.injEq]at hb;omega
    ·rw[hlen]at hj;have e0:(mk0 N (zero t))[j]'(by rw[hlen];exact hj)=zero t:=List.getElem_replicate _;rw[e0];have e1:(((madeCells z.cells (C.toNat*t.sz)).toList.take (N.toNat*t.sz)).drop (j*t.sz)).take t.sz=I5 t:=by
      have hj2:j*t.sz+t.sz<=N.toNat*t.sz:=by
       have:(j+1)*t.sz<=N.toNat*t.sz:=Nat.mul_le_mul_right _ hj;rw[Nat.add_mul]at this;omega
      apply List.ext_getElem?;intro m;rw[List.getElem?_take];by_cases hm:m<t.sz
      ·rw[if_pos hm,List.getElem?_drop,List.getElem?_take,if_pos (by omega),a8f,if_pos (by omega),hzn,Nat.mul_add_mod_of_lt' hm,hzc];have:m<(I5 t).length:=by rw[a19];exact hm
       simp[this]
      ·rw[if_neg hm,List.getElem?_eq_none (by rw[a19];omega)]
     rw[e1];exact RepC.step hst _ _ _ (a86 t ds hz0)
   ·cases h
  ·cases h
 ·cases h
end
end
section
section
variable{P:Program}{df:List Deferred}{G:World->Prop}{B0:Nat}{E:Env}{M:Nat->Nat->Prop}{M0:Nat->Nat->Prop}{w0:World}{gi g:Gh}{st:St}{a:Act}{w:World}
theorem RepD0.snap{M M':Nat->Nat->Prop}{w':World}{g':Gh}{q:Nat}{t:Ty}{xs:List t.den}{x:GB}(hx:g q=some x)(hst:Step M w M' w')(hg:∀r,r≠q->g' r=g r)(hnb:a79 x.v=true->False)(hdat:RepV M' w' (.sl t) xs x.v){d:D}{v:Value}(h:RepD0 M w g d v):RepD0 M' w' g' (snap q t xs d) v:=by
 have hne:∀r,Nat.beq r q=false->g' r=g r:=fun r hr=>hg r fun e=>by subst e;simp at hr
 have hbx:∀r y,g r=some y->a79 y.v=true->r≠q:=fun r y h1 h2 e=>by subst e;rw[hx]at h1;cases h1;exact hnb h2
 cases d with
 |row r=>
  simp only[Go.Proofs.YtckdohagilcloaaGreatDoor.snap];obtain⟨y,A,n,c,h1,h2,h3⟩:=h;split
  ·rename_i hr;have:=Nat.eq_of_beq_eq_true hr;subst this;rw[hx]at h1;cases h1;rw[h2];exact hdat
  ·rename_i hr;exact⟨y,A,n,c,(hne r hr).trans h1,h2,h3⟩
 |elp r z i o=>
  simp only[Go.Proofs.YtckdohagilcloaaGreatDoor.snap];split
  ·trivial
  ·rename_i hr;obtain⟨y,b,n,c,h1,h2⟩:=h;exact⟨y,b,n,c,(hne r hr).trans h1,h2⟩
 |tl r z i=>
  simp only[Go.Proofs.YtckdohagilcloaaGreatDoor.snap];split
  ·trivial
  ·rename_i hr;obtain⟨y,b,n,c,h1,h2⟩:=h;exact⟨y,b,n,c,(hne r hr).trans h1,h2⟩
 |box r o=>obtain⟨y,b,h1,h2,h3⟩:=h;exact⟨y,b,(hg r (hbx r y h1 (by rw[h2];rfl))).trans h1,h2,h3⟩
 |mref r=>obtain⟨y,b,h1,h2,h3⟩:=h;exact⟨y,b,(hg r (hbx r y h1 (by rw[h2];rfl))).trans h1,h2,h3⟩
 |fnc f ns=>
  obtain⟨cs,e,ha⟩:=h;refine⟨cs,e,ha.mono ?_⟩;rintro r u ⟨y,b,h1,h2,h3⟩;exact⟨y,b,(hg r (hbx r y h1 (by rw[h2];rfl))).trans h1,h2,h3⟩
 |dead=>trivial
 |skip=>exact h
 |bl b=>exact h
 |v t x=>exact RepV.step hst h
 |nilS=>exact h
 |nilP=>exact h
 |at_ t x=>obtain⟨ad,cs,a,b,c⟩:=h;exact⟨ad,cs,a,RepC.step hst _ _ _ b,c.step hst⟩
 |tup b l=>exact h.elim
theorem b8F{t:Ty}{xs ys:List t.den}{cx news:List Value}(hl:cx.length=xs.length*t.sz){M':Nat->Nat->Prop}{w':World}(hx:∀i (h:i<xs.length),RepC M' w' t xs[i] ((cx.drop (i*t.sz)).take t.sz))(hy:∀i (h:i<ys.length),RepC M' w' t ys[i] ((news.drop (i*t.sz)).take t.sz)):
  ∀i (h:i<(xs++ys).length),RepC M' w' t (xs++ys)[i] (((cx++news).drop (i*t.sz)).take t.sz):=by
 intro i hi;rw[List.length_append]at hi;by_cases hlt:i<xs.length
 ·rw[List.getElem_append_left hlt];have hpos:i*t.sz+t.sz<=xs.length*t.sz:=by
   have:(i+1)*t.sz<=xs.length*t.sz:=Nat.mul_le_mul_right _ hlt;rw[Nat.add_mul]at this;omega
  have:((cx++news).drop (i*t.sz)).take t.sz=(cx.drop (i*t.sz)).take t.sz:=by
   rw[List.drop_append_of_le_length (by omega),List.take_append_of_le_length (by rw[List.length_drop];omega)]
  rw[this];exact hx i hlt
 ·rw[List.getElem_append_right (by omega)];have:(cx++news).drop (i*t.sz)=news.drop ((i-xs.length)*t.sz):=by
   rw[List.drop_append,List.drop_eq_nil_of_le (by rw[hl];exact Nat.mul_le_mul_right _ (by omega)),List.nil_append,hl,Nat.sub_mul]
  rw[this];exact hy _ (by omega)
def d3D(ex:Bool)(q:Nat)(t:Ty)(xs:List t.den):D->D:=match ex with|true=>Go.Proofs.YtckdohagilcloaaGreatDoor.forget [q]|false=>Go.Proofs.YtckdohagilcloaaGreatDoor.snap q t xs
theorem c4o{R:Type}[BothC R](hE:EnvOk P G B0 E){o:Oper}{k:St->Option R}{r:R}{K:Act->World->Prop}{Q:Exit->Act->World->Prop}(hs:Sim df G B0 M0 w0 gi g st a w)(hK:S6 df G B0 M0 w0 gi k r K)
  {T e:TypeId} {t:Ty} {n q:Nat} (hT:E.el T=some (e,t)) (hd:o.dst=some n) {u:Value} {ex:Bool} {xs ys:List t.den} {A0:Option Addr} {n0 c0:Nat} {gx:GB} (hgx:g q=some gx) (hv:gx.v = .slice A0 n0 c0)
  (he:execOp a.eval o=(do pure (Next.value (<-Builtin.append_ #[T,T] o.type #[gx.v,u]))))
  (hb:v6 st.hp q=some (.row e t ex xs)) (hu:RepC (u9 M0 g) w (.sl t) ys [u]) (hsize:(xs.length+ys.length)*(24*t.sz)<=140737488355328)
  (h:k (((st.lift (d3D ex q t xs)).setB q (.row e t ex (xs++ys))).put (some n) (.row q))=some r):o.wp P a w K Q:=by
 obtain⟨gx',hgx',hz,cx,hown,hblk,hlo,hcx⟩:=hs.hp _ _ hb;rw[hgx]at hgx';cases hgx';obtain⟨hok,bytes,hET,hbytes⟩:=hE.el _ _ _ hT;have hu':=hu;obtain⟨A,c,e1,_⟩:=hu';simp only[List.cons.injEq,and_true]at e1;subst e1;obtain⟨_,news,hnl,hnr,hn1,hnews⟩:=RepC.rowOf hz hu;have hb':(xs.length+ys.length)*bytes<=140737488355328:=Nat.le_trans (Nat.mul_le_mul_left _ hbytes) hsize;obtain⟨v',w',hrun,h2,h3⟩:=b1J (P:=P) w 0 T o.type e t.sz bytes hET gx.v xs.length cx hown (Nat.zero_le _) A ys.length c news hnl hnr hn1 hb';have hlen1:=hown.1;refine wp_ret he hrun ?_;have hlen2:xs.length+ys.length=(xs++ys).length:=by rw[List.length_append]
 have hlo':gx.lo=c9j t ex xs.length:=hlo;have ht:Turn g q (some ⟨v'.ownBlock,c9j t ex (xs++ys).length,v'⟩) w w':=by
  rcases h3 with⟨h3,h4⟩|⟨h3,h4⟩
  ·have hcell:∀b o u s,gx.blk=some b->o<xs.length*t.sz->w.cell? ⟨b,o,s⟩=some u->w'.cell? ⟨b,o,s⟩=some u:=by
    intro b o u s hb1 hlt hc;rw[hblk]at hb1;rcases hown.2 with⟨e0,_⟩|⟨gg,cap,cur,e0,_,hg1,_,_,hcs,htk⟩
    ·rw[e0]at hb1;cases hb1
    ·rcases h2.2 with⟨e5,_⟩|⟨gg',cap',cur',e5,_,hg2,_,_,hcs',htk'⟩
     ·rw[e5]at h3;rw[<-h3]at hb1;cases hb1
     ·have hgg:gg=b:=by rw[e0]at hb1;simpa [Value.ownBlock]using hb1
      have hgg':gg'=b:=by rw[<-h3,e5]at hb1;simpa [Value.ownBlock]using hb1
      subst hgg;rw[hgg']at hg2;cases s with
      |some s=>simp[World.cell?,hg1]at hc
      |none=>
       rw[a4w hg1]at hc;rw[a4w hg2];have a1:cx[o]? = some u:=by rw[<-htk,List.getElem?_take,if_pos (by omega),Array.getElem?_toList];exact hc
       have a2:(cx++news)[o]? = some u:=by rw[List.getElem?_append_left (by omega)];exact a1
       rw[<-htk',List.getElem?_take,Array.getElem?_toList]at a2;split at a2
       ·exact a2
       ·cases a2
   refine⟨h4.os,h4.tape,h4.output,h4.size,fun b hb1 hb2=>h4.block b hb1 fun e2=>hb2 gx hgx (by rw[hblk];exact e2.symm),fun z b e2 e3=>?_,fun x b e2 e3 e4=>⟨fun o u s ho hc=>?_,fun z e5 e6=>?_⟩,fun z b e2 e3 _=>?_⟩
   ·cases e2;have e4:v'.ownBlock=some b:=e3;exact⟨(a5j h2 e4).1,.inr ⟨gx,hgx,by rw[hblk,<-h3];exact e4⟩⟩
   ·rw[hgx]at e2;cases e2;rw[hlo']at ho;cases ex
    ·exact hcell b o u s e3 ho hc
    ·exact absurd ho (Nat.not_lt_zero _)
   ·cases e5;rw[hgx]at e2;cases e2;rw[hlo'];cases ex
    ·exact Nat.mul_le_mul_right _ (by rw[<-hlen2];omega)
    ·exact Nat.le_refl _
   ·cases e2;exact(a5j h2 e3).2
  ·have hbl:∀b,v'.ownBlock=some b->w.heap.size<=b:=fun b hb2=>by rw[h4]at hb2;injection hb2 with hb2;omega
   exact Turn.new hs q h3 fun b hb2=>⟨hbl b hb2,(a5j h2 hb2).1,fun es c _=>(a5j h2 hb2).2 es c⟩
 have hst:=ht.step hs;rw[hd];obtain⟨A2,c2,hv2,_⟩:=Row.of_own' h2;refine hK _ _ _ _ (Sim.put (hs.turnB ht (φ:=d3D ex q t xs) (fun d v hdv=>?_) (fun b l=>by cases ex<;>rfl) (fun x' e1 e2=>?_) (blk:= .row e t ex (xs++ys)) ⟨hz,cx++news,by rw[<-hlen2];exact h2,rfl,by cases ex<;>rfl,b8F hlen1 (fun i hi=>RepC.step hst _ _ _ (hcx i hi)) fun i hi=>RepC.step hst _ _ _ (hnews i hi)⟩) (some n) ?_) h
 ·cases ex
  ·have hold:RepV (u9 M0 g) w (.sl t) xs gx.v:=by
    have:=hs.dat (d:= .row q) (v:=gx.v) (RepD0.toD (d:= .row q) ⟨gx,A0,n0,c0,hgx,rfl,hv⟩) (t:= .sl t) (x:=xs) (by simp[St.dat,hb]);exact this
   exact RepD0.snap hgx hst (fun r hr=>Gh.set_other _ _ hr) (a4K hown) (hold.step hst) hdv
  ·exact RepD0.forget hst (fun r hr=>Gh.set_other _ _ fun e=>hr (by simp[e])) hdv
 ·have:=hs.pin q x' e1 e2;rw[hgx]at this;cases this;exact(a4K hown e2).elim
 ·exact⟨_,A2,_,c2,Gh.set_same _ _ _,rfl,hv2⟩
theorem c8U{R:Type}[BothC R](hE:EnvOk P G B0 E){o:Oper}{k:St->Option R}{r:R}{K:Act->World->Prop}{Q:Exit->Act->World->Prop}(hs:Sim df G B0 M0 w0 gi g st a w)(hK:S6 df G B0 M0 w0 gi k r K)
  {c:Call} (ho:o.op = .call c) (hc:c.callee = .builtin .append) (h:opD E o st k=some r):o.wp P a w K Q:=by
 simp only[opD,ho,hc,F5,a2Z,a0W,a0t]at h;split at h
 ·rename_i T T' n x y hT hd hxy;split at h
  ·rename_i e1;subst e1;have hargs:c.args = #[x,y]:=by apply Array.ext';simpa using hxy
   have htys:c.argTypes = #[T,T]:=by apply Array.ext';simpa using hT
   have he:execOp a.eval o=(do pure (Next.value (<-Builtin.append_ #[T,T] o.type #[a.eval x,a.eval y]))):=by
    simp[execOp,ho,resolve,hc,hargs,htys,invoke,builtin]
   split at h
   ·rename_i e t hel;obtain⟨g,st,hs,h⟩:=a6W hs h;split at h
    ·rename_i ys hys;have hu:=RepV.plain rfl (hs.dat (hs.ev y) hys);have hx:=hs.ev x;split at h
     ·rename_i q hdx;rw[hdx]at hx;obtain⟨gx,A,n',c',hg,hv,hv2⟩:=hx;split at h
      ·rename_i e' t' ex xs hb;split at h
       ·rename_i e1;subst e1;split at h
        ·rename_i e2;subst e2;rcases M6 h with⟨hcond,h⟩|⟨_,h⟩
         ·rw[hv]at he hv2;exact c4o hE hs hK hel hd hg hv2 he hb hu (of_decide_eq_true hcond) h
         ·cases h
        ·cases h
       ·cases h
      ·cases h
     ·rename_i hdx;rw[hdx]at hx;have hx':a.eval x = .slice none 0 0:=hx;rcases M6 h with⟨hcond,h⟩|⟨_,h⟩
      ·rw[hx']at he;have hz:=(hE.el _ _ _ hel).pos;obtain⟨hok,bytes,hET,hbytes⟩:=hE.el _ _ _ hel;have hu':=hu;obtain⟨A,c,e1,_⟩:=hu';simp only[List.cons.injEq,and_true]at e1;rw[e1]at hu he;obtain⟨_,news,hnl,hnr,hn1,hnews⟩:=RepC.rowOf hz hu;have hb':(0+ys.length)*bytes<=140737488355328:=by
        rw[Nat.zero_add];exact Nat.le_trans (Nat.mul_le_mul_left _ hbytes) (of_decide_eq_true hcond)
       obtain⟨v',w',hrun,h2,h3⟩:=b1J (P:=P) w 0 T o.type e t.sz bytes hET (.slice none 0 0) 0 [] (World.ownsRow_nil _ _ _ _) (Nat.zero_le _) A ys.length c news hnl hnr hn1 hb';rw[Nat.zero_add,List.nil_append]at h2;refine wp_ret he hrun ?_;have hE2:Ext w w':=by
        rcases h3 with⟨h3,h4⟩|⟨h3,h4⟩
        ·exact⟨h4.os,h4.tape,h4.output,h4.size,fun k hk=>h4.block k hk (by simp[Value.ownBlock])⟩
        ·exact h3
       have hbl:∀b,v'.ownBlock=some b->w.heap.size<=b:=fun b hb2=>by
        rcases h3 with⟨h3,h4⟩|⟨h3,h4⟩
        ·rw[h3]at hb2;cases hb2
        ·rw[h4]at hb2;injection hb2 with hb2;omega
       exact a9z hs hK (Nat.le_add_right _ _) hd hz hE2 h2 hbl (fun M' hst i hi=>RepC.step hst _ _ _ (hnews i hi)) h
      ·cases h
     ·cases h
    ·cases h
   ·cases h
  ·cases h
 ·cases h
theorem b2b{cs c:List Value}{p q:Nat}(h:p+c.length<=cs.length):(cs.take p++c++cs.drop (p+c.length))[q]? = if p<=q/\q<p+c.length then c[q-p]? else cs[q]?:=by
 by_cases h1:q<p
 ·rw[if_neg (by omega),List.append_assoc,List.getElem?_append_left (by rw[List.length_take];omega),List.getElem?_take,if_pos h1]
 ·by_cases h2:q<p+c.length
  ·rw[if_pos ⟨by omega,h2⟩,List.getElem?_append_left (by rw[List.length_append,List.length_take];omega),List.getElem?_append_right (by rw[List.length_take];omega),List.length_take];congr 1;omega
  ·rw[if_neg (by omega),List.getElem?_append_right (by rw[List.length_append,List.length_take];omega),List.length_append,List.length_take,List.getElem?_drop];congr 1;omega
theorem c9g{cs c:List Value}{i j sz off n:Nat}(hoff:off+c.length<=sz)(hi:i<n)(hl:cs.length=n*sz):
  ((cs.take (i*sz+off)++c++cs.drop (i*sz+off+c.length)).drop (j*sz)).take sz=if j=i then((cs.drop (i*sz)).take sz).take off++c++((cs.drop (i*sz)).take sz).drop (off+c.length)else(cs.drop (j*sz)).take sz:=by
 have hb:i*sz+sz<=n*sz:=by
  have:(i+1)*sz<=n*sz:=Nat.mul_le_mul_right _ hi;rw[Nat.add_mul]at this;omega
 have hcl:((cs.drop (i*sz)).take sz).length=sz:=by rw[List.length_take,List.length_drop];omega
 apply List.ext_getElem?;intro m;rw[List.getElem?_take];by_cases hm:m<sz
 ·rw[if_pos hm,List.getElem?_drop,b2b (by omega)];by_cases hji:j=i
  ·subst hji;rw[if_pos rfl,b2b (by omega)];by_cases h1:off<=m/\m<off+c.length
   ·rw[if_pos (by omega),if_pos h1];congr 1;omega
   ·rw[if_neg (by omega),if_neg h1,List.getElem?_take,if_pos hm,List.getElem?_drop]
  ·have hne:¬(i*sz+off<=j*sz+m/\j*sz+m<i*sz+off+c.length):=by
    rintro⟨h1,h2⟩;rcases Nat.lt_or_gt_of_ne hji with h3|h3
    ·have:(j+1)*sz<=i*sz:=Nat.mul_le_mul_right _ h3;rw[Nat.add_mul]at this;omega
    ·have:(i+1)*sz<=j*sz:=Nat.mul_le_mul_right _ h3;rw[Nat.add_mul]at this;omega
   rw[if_neg hne,if_neg hji,List.getElem?_take,if_pos hm,List.getElem?_drop]
 ·rw[if_neg hm];split
  ·rw[List.getElem?_eq_none];rw[List.length_append,List.length_append,List.length_take,List.length_drop,hcl];omega
  ·rw[List.getElem?_take,if_neg hm]
theorem c9K{R:Type}[BothC R](hE:EnvOk P G B0 E){o:Oper}{k:St->Option R}{r:R}{K:Act->World->Prop}{Q:Exit->Act->World->Prop}(hs:Sim df G B0 M0 w0 gi g st a w)(hK:S6 df G B0 M0 w0 gi k r K)
  {T:TypeId} {x y:Operand} (ho:o.op = .store T x y) (h:opD E o st k=some r) {q z:Nat} {i:Int} {off:Nat} (hd:st.ev x = .elp q z i off):o.wp P a w K Q:=by
 simp only[opD,ho,a0t,hd]at h;split at h
 ·rename_i t r' off' hdst hT hd';cases hd'
 ·rename_i t q' z' i' off' hdst hT hd';cases hd';obtain⟨g,st',hs,h8,hev,_⟩:=a3G hs h;clear h;have hx:=hs.ev x;rw[hev,hd]at hx;obtain⟨gx,b,n,c,hg,hgv,hi0,hin,ex⟩:=hx;split at h8
  ·rename_i y' e t' xs hy hb;obtain⟨gx',hg',hz,cs,hown,hblk,hlo,hel⟩:=hs.hp _ _ hb;rw[hg]at hg';cases hg';split at h8
   ·rename_i hzz;have:=Nat.eq_of_beq_eq_true hzz;subst this;obtain⟨x0,hx0,h9⟩:=F9 h8;obtain⟨_,hlt,e2⟩:=a4C hx0;split at h9
    ·rename_i x1 hx1;have hch:=hel i.toNat hlt;rw[e2]at hch;have hr:=(hs.dta (hs.ev y) hy).cells;obtain⟨hle,hnew⟩:=c9Q _ _ _ _ _ _ _ _ hch hr hx1;have hcl:=RepC.len _ _ _ hr;have hc1:=RepC.one _ _ _ hr;have hl:=hown.1;have hpos:i.toNat*t'.sz+t'.sz<=xs.length*t'.sz:=by
      have:(i.toNat+1)*t'.sz<=xs.length*t'.sz:=Nat.mul_le_mul_right _ hlt;rw[Nat.add_mul]at this;omega
     rcases hown.2 with⟨e0,e9⟩|⟨gg,cap,cur,e0,_,hg1,hcap,hmax,hcs,htk⟩
     ·exact absurd e9 (by omega)
     ·have hgg:gg=b/\n=xs.length/\c=cap:=by
       rw[e0]at hgv;simp only[Value.slice.injEq,Option.some.injEq,Addr.mk.injEq,and_true]at hgv;exact⟨hgv.1,hgv.2.1.symm,hgv.2.2.symm⟩
      obtain⟨rfl,rfl,rfl⟩:=hgg;have hok:=hE.ty _ _ hT;have hcapm:xs.length*t'.sz<=c*t'.sz:=Nat.mul_le_mul_right _ hcap;have hst0:=run_storeCells_at P gg (i.toNat*t'.sz+off) e (a.eval y).cells.toList 0 cur w hg1 (by omega) hc1;rw[Nat.add_zero]at hst0;have hsz:=hcl;rw[Array.length_toList]at hsz;have hrun:(Instr.storeAt T (a.eval x) (a.eval y)).run P w = .ok () (w.setRow gg (cur.toList.take (i.toNat*t'.sz+off)++(a.eval y).cells.toList++cur.toList.drop (i.toNat*t'.sz+off+(a.eval y).cells.toList.length)).toArray):=by
       simp[Instr.storeAt,ex,Instr.sureAddr,storeVar,G2 hok,hsz,hst0]
      refine b4b (s:=Instr.storeAt T (a.eval x) (a.eval y)) (by simp only[execOp,ho]) hrun ?_;rw[hdst];have hgx:gx=⟨some gg,0,gx.v⟩:=by
       obtain⟨b1,l1,v1⟩:=gx;have e3:b1=some gg:=hblk.trans (by rw[show v1=_ from e0];rfl);have e4:l1=0:=hlo;rw[e3,e4]
      rw[hgx]at hg;have hcutl:∀m:List Value,m=cur.toList->(m.take (i.toNat*t'.sz+off)++(a.eval y).cells.toList++m.drop (i.toNat*t'.sz+off+(a.eval y).cells.toList.length)).take (xs.length*t'.sz)=cs.take (i.toNat*t'.sz+off)++(a.eval y).cells.toList++cs.drop (i.toNat*t'.sz+off+(a.eval y).cells.toList.length):=by
       rintro m rfl;apply List.ext_getElem?;intro p;rw[List.getElem?_take,b2b (by simp only[Array.length_toList];rw[hcs];omega),b2b (by omega)];by_cases hp:p<xs.length*t'.sz
       ·rw[if_pos hp];split
        ·rfl
        ·rw[<-htk,List.getElem?_take,if_pos hp]
       ·rw[if_neg hp,if_neg (by omega),List.getElem?_eq_none (by omega)]
      refine hK _ _ _ _ (hs.setObj (w':=w.setRow gg (cur.toList.take (i.toNat*t'.sz+off)++(a.eval y).cells.toList++cur.toList.drop (i.toNat*t'.sz+off+(a.eval y).cells.toList.length)).toArray) hg rfl rfl rfl (by simp[World.setRow]) (fun j hj=>setRow_other w gg j _ hj) (blk:= .row e t' true (a3F xs i x1)) fun hst=>
       ⟨hz,cs.take (i.toNat*t'.sz+off)++(a.eval y).cells.toList++cs.drop (i.toNat*t'.sz+off+(a.eval y).cells.toList.length),⟨?_,.inr ⟨gg,c,_,?_,Nat.zero_le _,setRow_heap w gg cur _ e _ hg1,?_,hmax,?_,?_⟩⟩,?_,rfl,?_⟩) h9
      ·simp only[List.length_append,List.length_take,List.length_drop,a3F,List.length_set];omega
      ·simp only[a3F,List.length_set];exact e0
      ·simp only[a3F,List.length_set];exact hcap
      ·simp only[List.size_toArray,List.length_append,List.length_take,List.length_drop,Array.length_toList];omega
      ·simp only[a3F,List.length_set];exact hcutl _ rfl
      ·rw[<-hblk];exact(congrArg GB.blk hgx).symm
      ·intro j hj;have hj':j<xs.length:=by simpa [a3F]using hj
       rw[c9g (n:=xs.length) (by omega) hlt hl];by_cases hji:j=i.toNat
       ·subst hji;rw[if_pos rfl];have:(a3F xs i x1)[i.toNat]'hj=x1:=by simp[a3F]
        have hnew':=RepC.step hst _ _ _ hnew;rw[<-hcl]at hnew';rw[this];exact hnew'
       ·rw[if_neg hji];have:(a3F xs i x1)[j]'hj=xs[j]:=by simp only[a3F];rw[List.getElem_set_ne (Ne.symm hji)]
        rw[this];exact RepC.step hst _ _ _ (hel j hj')
    ·cases h9
   ·cases h8
  ·cases h8
 ·cases h
theorem d4K{R:Type}[BothC R](hE:EnvOk P G B0 E){o:Oper}{k:St->Option R}{r:R}{K:Act->World->Prop}{Q:Exit->Act->World->Prop}(hs:Sim df G B0 M0 w0 gi g st a w)(hK:S6 df G B0 M0 w0 gi k r K)
  {T:TypeId} {x y:Operand} (ho:o.op = .store T x y) (h:opD E o st k=some r):o.wp P a w K Q:=
 c9J hE hs hK ho h fun _ _ _ _ hd=>c9K hE hs hK ho h hd
end
end
section
section
variable{P:Program}{df:List Deferred}{G:World->Prop}{B0:Nat}{E:Env}{M:Nat->Nat->Prop}{M0:Nat->Nat->Prop}{w0:World}{gi g:Gh}{st:St}{a:Act}{w:World}
def Mlend(M0:Nat->Nat->Prop)(g:Gh)(β:List Nat)(b o:Nat):Prop:=u9 M0 g b o/\¬∃r,r∈β/\∃x,g r=some x/\x.blk=some b
def D2(g:Gh)(ρ:List Nat):Gh:=fun j=>(ρ[j]?).bind g
theorem a4E{ρ ρf:List Nat}(h:ρ <+: ρf){j r:Nat}(hj:ρ[j]? = some r):D2 g ρf j=g r:=by
 obtain⟨t,rfl⟩:=h;have hlt:j<ρ.length:=(List.getElem?_eq_some_iff.1 hj).1;simp only[D2,List.getElem?_append_left hlt,hj,Option.bind_some]
theorem Mlend.step(β:List Nat):Step (u9 M0 g) w (Mlend M0 g β) w:=⟨fun _ _ h hm=>⟨h,fun h'=>hm h'.1⟩,fun _ _ _ h hm=>⟨h,fun h'=>hm h'.1⟩⟩
theorem a7r{R:Type}[BothC R]{ρ:List Nat}{j r:Nat}{k:List Nat->Option R}{res:R}(hn:ρ.Nodup)(h:nmK ρ j r k=some res):∃ρ',k ρ'=some res/\ρ <+: ρ'/\ρ'.Nodup/\ρ'[j]? = some r:=by
 unfold nmK at h;split at h
 ·rename_i r' hr;split at h
  ·rename_i e;have:=Nat.eq_of_beq_eq_true e;subst this;exact⟨ρ,h,List.prefix_refl _,hn,hr⟩
  ·cases h
 ·split at h
  ·rename_i hj;have:=Nat.eq_of_beq_eq_true hj;subst this;split at h
   ·cases h
   ·rename_i hm;have hnot:r∉ρ:=fun h'=>by rw[C0.2 h']at hm;cases hm
    refine⟨_,h,List.prefix_append _ _,?_,by simp⟩;rw[List.nodup_append];refine⟨hn,by simp,?_⟩;intro a ha b hb e;have hbr:b=r:=by simpa using hb
    exact hnot (by rw[<-hbr,<-e];exact ha)
  ·cases h
theorem e5W(hs:Sim df G B0 M0 w0 gi g st a w){t:Ty}{d:D}{v:Value}(hd:RepD (u9 M0 g) w g d v){x:t.den}(h:st.lent t d=some x):
  (∃r,(d = .mref r\/d = .row r\/∃o,d = .box r o)/\∀β,r∈β->RepV (Mlend M0 g β) w t x v):=by
 cases d with
 |mref r=>
  refine⟨r,.inl rfl,fun β hr=>?_⟩;simp only[St.lent]at h;split at h
  ·rename_i e m hb;split at h
   ·rename_i e1;subst e1;cases h;obtain⟨x,b,h1,h1',rfl⟩:=hd;obtain⟨x',h2,b',es,c,e2,h3,h4,hsp⟩:=hs.hp _ _ hb;rw[h1]at h2;cases h2;subst e2;have e3:b'=b:=by simpa using h1'
    subst e3;refine RepC.toV (t:= .mp e) rfl ⟨b',es,c,rfl,h3,fun hm=>hm.2 ⟨r,hr,_,h1,rfl⟩,h4.mono fun _ _ ⟨h6,cs,h7,h8⟩=>⟨h6,cs,RepC.step (Mlend.step β) _ _ _ h7,h8⟩,hsp⟩
   ·cases h
  ·cases h
 |row r=>
  refine⟨r,.inr (.inl rfl),fun β hr=>?_⟩;simp only[St.lent]at h;split at h
  ·rename_i e t' xs hb;split at h
   ·rename_i e';subst e';cases h;obtain⟨gx,h1,hz,cs,h2,h3,h4,h5⟩:=hs.hp _ _ hb;obtain⟨gx',_,_,_,h6,h7,_⟩:=hd;rw[h1]at h6;cases h6;subst h7;exact RepC.toV (t:= .sl t') rfl (RepC.of_own hz h2 (fun b o hb _ hm=>hm.2 ⟨r,hr,gx,h1,by rw[h3];exact hb⟩) fun i hi=>RepC.step (Mlend.step β) _ _ _ (h5 i hi))
   ·cases h
  ·cases h
 |box r off=>
  refine⟨r,.inr (.inr ⟨off,rfl⟩),fun β hr=>?_⟩;cases t with
  |ptr t'=>
   simp only[St.lent]at h;split at h
   case h_2=>cases h
   rename_i cs hb;split at h
   case h_2=>cases h
   rename_i y rest hu;cases h;obtain⟨gx,b,hg,hgv,rfl⟩:=hd;obtain⟨gx',hg',b',vs,el,e2,h1,h2⟩:=hs.hp _ _ hb;rw[hg]at hg';cases hg';subst e2;have e3:b'=b:=by simpa [S8]using hgv
   subst e3;obtain⟨c1,c2,e4,h3,_⟩:=a3j hs t' (h2.drop off) hu;refine RepC.toV (t:= .ptr t') rfl ⟨⟨b',off,none⟩,c1,rfl,RepC.step (Mlend.step β) _ _ _ h3,fun j u hu=>⟨?_,fun hm=>hm.2 ⟨r,hr,_,hg,by rw[Addr.add_box]⟩⟩⟩;rw[Addr.add_box,a4w h1,<-Array.getElem?_toList,<-List.getElem?_drop,e4];obtain⟨hj,e5⟩:=List.getElem?_eq_some_iff.1 hu;rw[List.getElem?_append_left hj];exact hu
  |_=>simp[St.lent]at h
 |_=>simp[St.lent]at h
theorem b3t{R:Type}[BothC R]:∀(js rs:List Nat) {ρ:List Nat} {k:List Nat->Option R} {res:R},ρ.Nodup->e51 js rs ρ k=some res->
  ∃ρ',k ρ'=some res/\ρ <+: ρ'/\ρ'.Nodup/\All2 (fun j r=>ρ'[j]? = some r) js rs
 |[],[],ρ,k,res,hn,h=>⟨ρ,h,List.prefix_refl _,hn,trivial⟩
 |j :: js,r :: rs,ρ,k,res,hn,h=>by
  obtain⟨ρ1,h1,h2,h3,h4⟩:=a7r hn h;obtain⟨ρ2,h5,h6,h7,h8⟩:=b3t js rs h3 h1;refine⟨ρ2,h5,h2.trans h6,h7,?_,h8⟩;obtain⟨t,rfl⟩:=h6;rw[List.getElem?_append_left (List.getElem?_eq_some_iff.1 h4).1];exact h4
 |[],_ :: _,_,_,_,_,h=>by cases h
 |_ :: _,[],_,_,_,_,h=>by cases h
theorem b2e{ρ ρf:List Nat}(h:ρ <+: ρf){j r:Nat}(hj:ρ[j]? = some r):ρf[j]? = some r:=by
 obtain⟨t,rfl⟩:=h;rw[List.getElem?_append_left (List.getElem?_eq_some_iff.1 hj).1];exact hj
theorem b6A{ρ' ρf:List Nat}(hp:ρ' <+: ρf):∀{l l':List Nat} {us:List Value},All2 (fun j r=>ρ'[j]? = some r) l l'->All2 (fun r u=>∃x b,g r=some x/\x.v=S8 b/\u=S8 b) l' us->
  All2 (fun r u=>∃x b,D2 g ρf r=some x/\x.v=S8 b/\u=S8 b) l us
 |[],[],[],_,_=>trivial
 |j :: l,r :: l',u :: us,h,ha=>by
  obtain⟨x,b,h5,h6⟩:=ha.1;exact⟨⟨x,b,(a4E hp h.1).trans h5,h6⟩,b6A hp h.2 ha.2⟩
 |[],[],_ :: _,_,ha=>ha.elim
 |_ :: _,_ :: _,[],_,ha=>ha.elim
 |[],_ :: _,_,h,_=>h.elim
 |_ :: _,[],_,h,_=>h.elim
theorem c9m{R:Type}[BothC R](hs:Sim df G B0 M0 w0 gi g st a w){s:Sl}{d:D}{v:Value}(hd:RepD (u9 M0 g) w g d v){ρ β:List Nat}{k:s.den->List Nat->List Nat->Option R}{res:R}(hn:ρ.Nodup)(h:mtK st s d ρ β k=some res):
  ∃x ρ' β',k x ρ' β'=some res/\ρ <+: ρ'/\ρ'.Nodup/\(∀r,r∈β->r∈β')/\∀ρf βf,ρ' <+: ρf->(∀r,r∈β'->r∈βf)->RepD0 (Mlend M0 g βf) w (D2 g ρf) (d3Q id s x) v:=by
 cases s with
 |dead=>exact⟨(),ρ,β,h,List.prefix_refl _,hn,fun _ h=>h,fun _ _ _ _=>trivial⟩
 |skip=>
  simp only[mtK]at h;split at h
  ·exact⟨(),ρ,β,h,List.prefix_refl _,hn,fun _ h=>h,fun _ _ _ _=>hd⟩
  ·cases h
 |nilS=>
  simp only[mtK]at h;split at h
  ·exact⟨(),ρ,β,h,List.prefix_refl _,hn,fun _ h=>h,fun _ _ _ _=>hd⟩
  ·cases h
 |nilP=>
  simp only[mtK]at h;split at h
  ·exact⟨(),ρ,β,h,List.prefix_refl _,hn,fun _ h=>h,fun _ _ _ _=>hd⟩
  ·cases h
 |v t=>
  simp only[mtK]at h;split at h
  ·rename_i x hx;exact⟨x,ρ,β,h,List.prefix_refl _,hn,fun _ h=>h,fun _ βf _ _=>RepV.step (Mlend.step βf) (hs.dta hd hx)⟩
  ·split at h
   ·rename_i x hx;obtain⟨r,hr,hrep⟩:=e5W hs hd hx;rcases hr with rfl|rfl|⟨o,rfl⟩
    ·exact⟨x,ρ,r :: β,h,List.prefix_refl _,hn,fun _ h=>List.mem_cons_of_mem _ h,fun _ βf _ hβ=>hrep βf (hβ r List.mem_cons_self)⟩
    ·exact⟨x,ρ,r :: β,h,List.prefix_refl _,hn,fun _ h=>List.mem_cons_of_mem _ h,fun _ βf _ hβ=>hrep βf (hβ r List.mem_cons_self)⟩
    ·exact⟨x,ρ,r :: β,h,List.prefix_refl _,hn,fun _ h=>List.mem_cons_of_mem _ h,fun _ βf _ hβ=>hrep βf (hβ r List.mem_cons_self)⟩
   ·cases h
 |at_ t=>
  simp only[mtK]at h;split at h
  ·split at h
   ·rename_i e;subst e;obtain⟨ad,cs,rfl,h1,h2⟩:=hd;exact⟨_,ρ,β,h,List.prefix_refl _,hn,fun _ h=>h,fun _ βf _ _=>⟨ad,cs,rfl,RepC.step (Mlend.step βf) _ _ _ h1,h2.step (Mlend.step βf)⟩⟩
   ·cases h
  ·cases h
 |row r=>
  simp only[mtK]at h;split at h
  ·rename_i r';obtain⟨ρ',h1,h2,h3,h4⟩:=a7r hn h;refine⟨(),ρ',β,h1,h2,h3,fun _ h=>h,fun ρf βf hp _=>?_⟩;obtain⟨x,A,n,c,h5,h6⟩:=hd;exact⟨x,A,n,c,(a4E hp h4).trans h5,h6⟩
  ·cases h
 |mref r=>
  simp only[mtK]at h;split at h
  ·rename_i r';obtain⟨ρ',h1,h2,h3,h4⟩:=a7r hn h;refine⟨(),ρ',β,h1,h2,h3,fun _ h=>h,fun ρf βf hp _=>?_⟩;obtain⟨x,b,h5,h6⟩:=hd;exact⟨x,b,(a4E hp h4).trans h5,h6⟩
  ·cases h
 |box r o=>
  simp only[mtK]at h;split at h
  ·rename_i r' o';split at h
   ·rename_i e;have:=Nat.eq_of_beq_eq_true e;subst this;obtain⟨ρ',h1,h2,h3,h4⟩:=a7r hn h;refine⟨(),ρ',β,h1,h2,h3,fun _ h=>h,fun ρf βf hp _=>?_⟩;obtain⟨x,b,h5,h6⟩:=hd;exact⟨x,b,(a4E hp h4).trans h5,h6⟩
   ·cases h
  ·cases h
 |fnc f l=>
  simp only[mtK]at h;split at h
  ·rename_i f' l';split at h
   ·rename_i e;have:=Nat.eq_of_beq_eq_true e;subst this;obtain⟨ρ',h1,h2,h3,h4⟩:=b3t _ _ hn h;refine⟨(),ρ',β,h1,h2,h3,fun _ h=>h,fun ρf βf hp _=>?_⟩;obtain⟨cs,e,ha⟩:=hd;refine⟨cs,e,?_⟩;show All2 _ (l.map id) _;rw[List.map_id];exact b6A hp h4 ha
   ·cases h
  ·cases h
theorem a1g{R:Type}[BothC R](hs:Sim df G B0 M0 w0 gi g st a w):∀(l:List Sl) (ds:List D) (vs:List Value) {ρ β:List Nat} {k:SV l->List Nat->List Nat->Option R} {res:R},All2 (RepD (u9 M0 g) w g) ds vs->ρ.Nodup->b5Y st l ds ρ β k=some res->
  ∃x ρ' β',k x ρ' β'=some res/\ρ <+: ρ'/\ρ'.Nodup/\(∀r,r∈β->r∈β')/\∀ρf βf,ρ' <+: ρf->(∀r,r∈β'->r∈βf)->All2 (RepD0 (Mlend M0 g βf) w (D2 g ρf)) (a0E id l x) vs
 |[],[],[],ρ,β,k,res,_,hn,h=>⟨(),ρ,β,h,List.prefix_refl _,hn,fun _ h=>h,fun _ _ _ _=>trivial⟩
 |s :: l,d :: ds,v :: vs,ρ,β,k,res,ha,hn,h=>by
  obtain⟨x,ρ1,β1,h1,h2,h3,h4,h5⟩:=c9m hs ha.1 hn h;obtain⟨y,ρ2,β2,h6,h7,h8,h9,h10⟩:=a1g hs l ds vs ha.2 h3 h1;exact⟨(x,y),ρ2,β2,h6,h2.trans h7,h8,fun r hr=>h9 r (h4 r hr),fun ρf βf hp hβ=>⟨h5 ρf βf (h7.trans hp) fun r hr=>hβ r (h9 r hr),h10 ρf βf hp hβ⟩⟩
 |[],[],_ :: _,_,_,_,_,ha,_,_=>ha.elim
 |_ :: _,_ :: _,[],_,_,_,_,ha,_,_=>ha.elim
 |[],_ :: _,_,_,_,_,_,_,_,h=>by cases h
 |_ :: _,[],_,_,_,_,_,_,_,h=>by cases h
theorem All2.toD{M:Nat->Nat->Prop}{ds:List D}{vs:List Value}(h:All2 (RepD0 M w g) ds vs):All2 (RepD M w g) ds vs:=h.mono fun _ _=>RepD0.toD
theorem c9k{R:Type}[BothC R](hs:Sim df G B0 M0 w0 gi g st a w){s:Sb}{r:Nat}{ρ β:List Nat}{k:s.den->List Nat->List Nat->Option R}{res:R}(hn:ρ.Nodup)(h:mbK st s r ρ β k=some res):
  ∃x ρ' β',k x ρ' β'=some res/\ρ <+: ρ'/\ρ'.Nodup/\(∀r,r∈β->r∈β')/\∀ρf βf,ρ' <+: ρf->(∀r,r∈β'->r∈βf)->∀blk,c1f id s x=some blk->∃gx,g r=some gx/\RepB (Mlend M0 g βf) w (D2 g ρf) gx blk:=by
 cases s with
 |none=>exact⟨(),ρ,β,h,List.prefix_refl _,hn,fun _ h=>h,fun _ _ _ _ _ h=>by cases h⟩
 |cells l=>
  simp only[mbK]at h;split at h
  ·rename_i ds hb;obtain⟨gx,h1,b,vs,el,e,h2,h3⟩:=hs.hp _ _ hb;obtain⟨x,ρ',β',h4,h5,h6,h7,h8⟩:=a1g hs l ds vs.toList h3.toD hn h;refine⟨x,ρ',β',h4,h5,h6,h7,fun ρf βf hp hβ blk hblk=>⟨gx,h1,?_⟩⟩;cases hblk;exact⟨b,vs,el,e,h2,h8 ρf βf hp hβ⟩
  ·cases h
 |bld T l=>
  simp only[mbK]at h;split at h
  ·rename_i T' ds hb;split at h
   ·rename_i e1;subst e1;obtain⟨gx,h1,b,p,vs,e,h2,h0,h3⟩:=hs.hp _ _ hb;obtain⟨x,ρ',β',h4,h5,h6,h7,h8⟩:=a1g hs l ds vs h3.toD hn h;refine⟨x,ρ',β',h4,h5,h6,h7,fun ρf βf hp hβ blk hblk=>⟨gx,h1,?_⟩⟩;cases hblk;exact⟨b,p,vs,e,h2,h0,h8 ρf βf hp hβ⟩
   ·cases h
  ·cases h
 |map e=>
  simp only[mbK]at h;split at h
  ·rename_i e' m hb;split at h
   ·rename_i e1;subst e1;obtain⟨gx,h1,b,es,c,e,h2,h3,hsp⟩:=hs.hp _ _ hb;refine⟨_,ρ,β,h,List.prefix_refl _,hn,fun _ h=>h,fun ρf βf _ _ blk hblk=>⟨gx,h1,?_⟩⟩;cases hblk;exact⟨b,es,c,e,h2,h3.mono fun _ _ ⟨h4,h5⟩=>⟨h4,h5.step (Mlend.step βf)⟩,hsp⟩
   ·cases h
  ·cases h
 |iter e=>cases h
 |row e t ex=>
  simp only[mbK]at h;split at h
  ·rename_i e' t' ex' xs hb;split at h
   ·rename_i e1;subst e1;split at h
    ·rename_i e2;obtain⟨rfl,rfl⟩:=e2;obtain⟨gx,h1,hz,cs,h2,h3,h4,h5⟩:=hs.hp _ _ hb;refine⟨_,ρ,β,h,List.prefix_refl _,hn,fun _ h=>h,fun ρf βf _ _ blk hblk=>⟨gx,h1,?_⟩⟩;cases hblk;exact⟨hz,cs,h2,h3,h4,fun i hi=>RepC.step (Mlend.step βf) _ _ _ (h5 i hi)⟩
    ·cases h
   ·cases h
  ·cases h
theorem a5f{R:Type}[BothC R](hs:Sim df G B0 M0 w0 gi g st a w):∀(l:List Sb) (j:Nat) {ρ β:List Nat} {k:BV l->List Nat->List Nat->Option R} {res:R},ρ.Nodup->b5W st l j ρ β k=some res->
  ∃x ρ' β',k x ρ' β'=some res/\ρ <+: ρ'/\ρ'.Nodup/\(∀r,r∈β->r∈β')/\∀ρf βf,ρ' <+: ρf->(∀r,r∈β'->r∈βf)->∀i blk,a2T id l x i=some blk->∃gx,D2 g ρf (j+i)=some gx/\RepB (Mlend M0 g βf) w (D2 g ρf) gx blk
 |[],j,ρ,β,k,res,hn,h=>⟨(),ρ,β,h,List.prefix_refl _,hn,fun _ h=>h,fun _ _ _ _ i _ h=>by cases h⟩
 |s :: l,j,ρ,β,k,res,hn,h=>by
  simp only[b5W]at h;split at h
  ·rename_i r hr;obtain⟨x,ρ1,β1,h1,h2,h3,h4,h5⟩:=c9k hs hn h;obtain⟨y,ρ2,β2,h6,h7,h8,h9,h10⟩:=a5f hs l (j+1) h3 h1;refine⟨(x,y),ρ2,β2,h6,h2.trans h7,h8,fun r hr=>h9 r (h4 r hr),fun ρf βf hp hβ i blk hblk=>?_⟩;cases i with
   |zero=>
    obtain⟨gx,h11,h12⟩:=h5 ρf βf (h7.trans hp) (fun r hr=>hβ r (h9 r hr)) blk hblk;exact⟨gx,by rw[Nat.add_zero,a4E (h2.trans (h7.trans hp)) hr];exact h11,h12⟩
   |succ i=>
    obtain⟨gx,h11,h12⟩:=h10 ρf βf hp hβ i blk hblk;exact⟨gx,by rw[show j+(i+1)=j+1+i by omega];exact h11,h12⟩
  ·cases h
theorem b8P(hs:Sim df G B0 M0 w0 gi g st a w){ps:List Sl}{bs:List Sb}{x:SV ps}{y:BV bs}{vs:List Value}{ρ β:List Nat}(hn:ρ.Nodup)(hl:ρ.length=bs.length)(hβ:∀r,r∈β->r∉ρ)
  (ha:All2 (RepD0 (Mlend M0 g β) w (D2 g ρ)) (a0E id ps x) vs) (hb:∀i blk,a2T id bs y i=some blk->∃gx,D2 g ρ i=some gx/\RepB (Mlend M0 g β) w (D2 g ρ) gx blk):Frag B0 (Mlend M0 g β) w (D2 g ρ) ps bs x y vs:=by
 have hg:∀{r x},D2 g ρ r=some x->∃r',ρ[r]? = some r'/\g r'=some x:=by
  intro r x h;unfold D2 at h;cases h1:ρ[r]? with
  |none=>rw[h1]at h;cases h
  |some r'=>rw[h1]at h;exact⟨r',rfl,h⟩
 refine⟨ha,hb,fun r gx h=>?_,fun r r' x x' b h1 h2 h3 h4=>?_,fun r x b h1 h2=>?_,fun r x b o h1 h2=>?_,fun b o h=>hs.mlt h.1,fun r x b h1 h2=>?_⟩
 ·obtain⟨r',h1,_⟩:=hg h;rw[<-hl];exact(List.getElem?_eq_some_iff.1 h1).1
 ·obtain⟨q,e1,e2⟩:=hg h1;obtain⟨q',e3,e4⟩:=hg h2;have:=hs.inj _ _ _ _ _ e2 e4 h3 h4;subst this;exact(List.getElem?_inj (List.getElem?_eq_some_iff.1 e1).1 hn).1 (e1.trans e3.symm)
 ·obtain⟨q,e1,e2⟩:=hg h1;have:=hs.low _ _ _ e2 h2;exact⟨this.1,this.2.1⟩
 ·obtain⟨q,e1,e2⟩:=hg h1;refine⟨fun h=>(hs.chg e2 h2).1 h.1,fun h=>⟨(hs.chg e2 h2).2 h,fun⟨r',h',x',h5,h6⟩=>?_⟩⟩;have:=hs.inj _ _ _ _ _ h5 e2 h6 h2;subst this;exact hβ _ h' (List.mem_of_getElem? e1)
 ·obtain⟨q,e1,e2⟩:=hg h1;exact hs.row _ _ _ e2 h2
end
end
end Go.Proofs.YtckdohagilcloaaGreatDoor
