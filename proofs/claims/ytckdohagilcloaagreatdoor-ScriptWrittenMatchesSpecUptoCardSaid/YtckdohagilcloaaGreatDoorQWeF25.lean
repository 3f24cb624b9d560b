/- % -/
import Derived.Test.YtckdohagilcloaaGreatDoorQBmRv
import Derived.Test.YtckdohagilcloaaGreatDoorQBmDf
namespace Go.Proofs.YtckdohagilcloaaGreatDoor
set_option linter.unusedVariables false
set_option linter.unusedSimpArgs false
set_option maxRecDepth 100000
open Go Go.RowKit
noncomputable section
section
variable{P:Program}{df:List Deferred}{G:World->Prop}{B0:Nat}{E:Env}{M:Nat->Nat->Prop}{M0:Nat->Nat->Prop}{w0:World}{gi g:Gh}{st:St}{a:Act}{w:World}
theorem c9H{fn:Func}{ps:List Sl}{bs:List Sb}{x:SV ps}{y:BV bs}{vs:List Value}(hG:G w)(hB:B0<=w.heap.size)(hfr:Frag B0 M w g ps bs x y vs)(hps:Nat.ble ps.length fn.ntmps=true)(hbs:Nat.ble bs.length 1000=true):
  u9 (fun b o=>M b o/\¬Z4 g b) g=M/\Sim [] G B0 (fun b o=>M b o/\¬Z4 g b) w g g (start fn ps bs x y) {tmps:=vs.toArray++Array.replicate (fn.ntmps-vs.toArray.size) undef,defers:=[]} w:=by
 have hlen:vs.length=ps.length:=by
  have:=hfr.args.len;rw[<-this];have hl:∀(l:List Sl) (x:SV l),(a0E id l x).length=l.length:=fun l=>by
   induction l with
   |nil=>intro _;rfl
   |cons s l ih=>intro x;show(a0E id l x.2).length+1=_;rw[ih];rfl
  exact hl _ _
 have hps':vs.length<=fn.ntmps:=by rw[hlen];exact Nat.le_of_ble_eq_true hps
 have hbs':bs.length<=1000:=Nat.le_of_ble_eq_true hbs;have hM:∀b o,u9 (fun b o=>M b o/\¬Z4 g b) g b o↔M b o:=by
  intro b o;constructor
  ·rintro(h|⟨r,x,h1,h2,h3⟩)
   ·exact h.1
   ·exact(hfr.chg _ _ _ _ h1 h2).2 h3
  ·intro h;by_cases hX:Z4 g b
   ·obtain⟨r,x,h1,h2⟩:=hX;exact .inr ⟨r,x,h1,h2,(hfr.chg _ _ _ _ h1 h2).1 h⟩
   ·exact .inl ⟨h,hX⟩
 have eM:u9 (fun b o=>M b o/\¬Z4 g b) g=M:=funext fun b=>funext fun o=>propext (hM b o)
 refine⟨eM,{defers:=rfl,sz:=?_,fr:=?_,inb:=?_,hp:=?_,low:=?_,inj:=hfr.inj,row:=hfr.row,m0:=fun b o h=>⟨hfr.mlt _ _ h.1,h.2⟩,pin:=fun _ _ h _=>h,gin:=fun r x h _=>Nat.lt_of_lt_of_le (hfr.dom r x h) hbs',gil:=fun b ⟨r,x,h1,h2⟩=>(hfr.low _ _ _ h1 h2).1,ext:=ExtX.refl _ _,stp:=Step.refl _ _,gg:=hG,b0:=hB}⟩
 ·show(vs.toArray++Array.replicate (fn.ntmps-vs.toArray.size) undef).size=fn.ntmps;simp;omega
 ·intro t d h;rw[eM];obtain⟨_,v,h1,h2⟩:=a6O ps 0 x vs hfr.args t d h;rw[Nat.sub_zero]at h1;have hlt:=(List.getElem?_eq_some_iff.1 h1).1;have:(vs.toArray++Array.replicate (fn.ntmps-vs.toArray.size) undef).getD t undef=v:=by
   rw[Array.getD_eq_getD_getElem?,Array.getElem?_append_left (by simpa using hlt),List.getElem?_toArray,h1];rfl
  show RepD M w g d ((vs.toArray++Array.replicate (fn.ntmps-vs.toArray.size) undef).getD t undef);rw[this];exact h2
 ·intro t d h;obtain⟨_,v,h1,_⟩:=a6O ps 0 x vs hfr.args t d h;rw[Nat.sub_zero]at h1;have hlt:=(List.getElem?_eq_some_iff.1 h1).1;show t<fn.ntmps;omega
 ·intro r blk h;rw[eM];obtain⟨_,h1⟩:=b2U bs 0 y r blk h;rw[Nat.sub_zero]at h1;exact hfr.res r blk h1
 ·exact fun r x b h1 h2=>⟨(hfr.low _ _ _ h1 h2).1,(hfr.low _ _ _ h1 h2).2,.inl ⟨r,x,h1,h2⟩⟩
theorem c0N(hs:Sim [] G B0 M0 w0 gi g st a w){d:Oper}{f:FuncId}{l:List Nat}{x:Operand}{c:Call}(hg:d.guard=none)(hd:d.dst=none)(hop:d.op = .defer c)(hcal:c.callee = .value x)(ha0:c.args = #[])(hev:st.ev x = .fnc f l):
  ∃caps:Array Value,All2 (fun r u=>∃x b,g r=some x/\x.v=S8 b/\u=S8 b) l caps.toList/\
   ∀(ops:Array Oper) (Q:Exit->Act->World->Prop),(∀a',Sim [⟨.fn (.func f) caps,#[]⟩] G B0 M0 w0 gi g st a' w->Q .normal a' w)->wpList P ops Q [d] a w:=by
 have hx:=hs.ev x;rw[hev]at hx;obtain⟨caps,hv,hcaps⟩:=hx;refine⟨caps,hcaps,fun ops Q hQ=>?_⟩;unfold wpList;rw[if_pos (by unfold Region.wanted;rw[hg])];refine .inl ?_;have hex:(execOp a.eval d).run P w = .ok (.defer ⟨.fn (.func f) caps,#[]⟩) w:=by
  simp[execOp,hop,resolve,hcal,hv,Deferred.ofValue,ha0]
 unfold Oper.wp;rw[hex,Oper.upon_defer,hd];refine hQ _ ?_;have hdf:a.defers=[]:=hs.defers;exact{hs with defers:=by simp[Act.put,hdf]}
def c4V:D->Bool | .v _ _=>true | .nilS=>true|_=>false
theorem c9c{d:List Deferred}(hs:Sim d G B0 M0 w0 gi g st a w)(hGw:G w)(js:List Nat)(hjs:js.length<=1000)(hn:js.Nodup){st':St}(hn':st'.n=st.n)
  (hfr:∀t d,v6 st'.fr t=some d->d = .dead\/∃r r',d = .box r 0/\js[r]? = some r'/\v6 st.fr t=some (.box r' 0))
  (hin:∀t d,v6 st'.fr t=some d->t<st.n)
  (hhp:∀r blk,v6 st'.hp r=some blk->∃r' ds,js[r]? = some r'/\blk = .cells ds/\v6 st.hp r'=some (.cells ds)/\ds.all c4V=true):
  u9 (fun b o=>u9 M0 g b o/\¬Z4 (D2 g js) b) (D2 g js)=u9 M0 g/\Sim d G B0 (fun b o=>u9 M0 g b o/\¬Z4 (D2 g js) b) w (D2 g js) (D2 g js) st' a w:=by
 have hsub:∀{j x},D2 g js j=some x->∃r,js[j]? = some r/\g r=some x:=by
  intro j x h;unfold D2 at h;cases h1:js[j]? with
  |none=>rw[h1]at h;cases h
  |some r=>rw[h1]at h;exact⟨r,rfl,h⟩
 have hsub':∀{j r},js[j]? = some r->D2 g js j=g r:=by
  intro j r h;unfold D2;rw[h];rfl
 have eM:u9 (fun b o=>u9 M0 g b o/\¬Z4 (D2 g js) b) (D2 g js)=u9 M0 g:=by
  funext b o;apply propext;constructor
  ·rintro(h|⟨r,x,h1,h2,h3⟩)
   ·exact h.1
   ·obtain⟨r',_,h4⟩:=hsub h1;exact(hs.chg h4 h2).2 h3
  ·intro h;by_cases hX:Z4 (D2 g js) b
   ·obtain⟨r,x,h1,h2⟩:=hX;obtain⟨r',_,h4⟩:=hsub h1;exact .inr ⟨r,x,h1,h2,(hs.chg h4 h2).1 h⟩
   ·exact .inl ⟨h,hX⟩
 have hlow:∀r x b,D2 g js r=some x->x.blk=some b->B0<=b/\b<w.heap.size:=fun r x b h1 h2=>by
  obtain⟨r',_,h4⟩:=hsub h1;exact⟨(hs.low _ _ _ h4 h2).1,(hs.low _ _ _ h4 h2).2.1⟩
 refine⟨eM,{defers:=hs.defers,sz:=hs.sz.trans hn'.symm,fr:=?_,inb:=fun t d h=>by rw[hn'];exact hin t d h,hp:=?_,low:=fun r x b h1 h2=>⟨(hlow _ _ _ h1 h2).1,(hlow _ _ _ h1 h2).2,.inl ⟨r,x,h1,h2⟩⟩,inj:=?_,row:=?_,m0:=fun b o h=>⟨hs.mlt h.1,h.2⟩,pin:=fun _ _ h _=>h,gin:=fun r x h _=>?_,gil:=fun b ⟨r,x,h1,h2⟩=>(hlow _ _ _ h1 h2).1,ext:=ExtX.refl _ _,stp:=Step.refl _ _,gg:=?_,b0:=Nat.le_trans hs.b0 hs.size}⟩
 ·intro t d h;rw[eM];rcases hfr t d h with rfl|⟨r,r',rfl,h1,h2⟩
  ·trivial
  ·obtain⟨x,b,h3,h4⟩:=hs.fr t _ h2;exact⟨x,b,(hsub' h1).trans h3,h4⟩
 ·intro r blk h;rw[eM];obtain⟨r',ds,h1,rfl,h2,h3⟩:=hhp r blk h;obtain⟨x,h4,b,vs,el,h5,h6,h7⟩:=hs.hp _ _ h2;refine⟨x,(hsub' h1).trans h4,b,vs,el,h5,h6,?_⟩;have gen:∀(ds:List D) (l:List Value),ds.all c4V=true->All2 (RepD0 (u9 M0 g) w g) ds l->All2 (RepD0 (u9 M0 g) w (D2 g js)) ds l:=by
   intro ds;induction ds with
   |nil=>intro l _ h;cases l<;>first|trivial|exact h.elim
   |cons x ds ih=>
    intro l hx h;simp only[List.all_cons,Bool.and_eq_true]at hx;cases l with
    |nil=>exact h.elim
    |cons v l=>
     refine⟨?_,ih l hx.2 h.2⟩;have h1:=h.1;cases x<;>first|exact h1|(exact absurd hx.1 (by simp[c4V]))
  exact gen ds _ h3 h7
 ·intro r r' x x' b h1 h2 h3 h4;obtain⟨q,e1,e2⟩:=hsub h1;obtain⟨q',e3,e4⟩:=hsub h2;have:=hs.inj _ _ _ _ _ e2 e4 h3 h4;subst this;exact(List.getElem?_inj (List.getElem?_eq_some_iff.1 e1).1 hn).1 (e1.trans e3.symm)
 ·intro r x b h1 h2;obtain⟨q,e1,e2⟩:=hsub h1;exact hs.row _ _ _ e2 h2
 ·obtain⟨q,e1,e2⟩:=hsub h;have:=(List.getElem?_eq_some_iff.1 e1).1;omega
 ·exact hGw
end
abbrev c8S:=List τ1
abbrev PBs:List Sb:=[.cells [V2,V0,V0]]
def d2V:Env:=M5 (fun _=>o5) (fun _ _=>none) (fun _=>false) (fun f=>match f with|73=>true|_=>false)
def b8C(l:c8S)(e d:Int):St:=⟨20,[(0,.box 0 0),(2,.box 1002 0),(3,.box 1003 0),(4,.box 1004 0)],[(0,.cells [.v (.sl τ2) l,.v τ3 e,.v τ3 d]),(1002,.cells [.nilS]),(1003,.cells [.v τ3 0]),(1004,.cells [.v .bool false])]⟩
def d2W(l:c8S)(e d:Int):St:=⟨20,[(0,.box 0 0),(2,.box 1002 0),(3,.box 1003 0),(4,.box 1004 0),(5,.fnc 73 [1002,1003,1004])],(b8C l e d).hp⟩
noncomputable def a7j:Array Oper:=match P9 (m8 Tryz.f37) [true,false]with
 |.region _ ops _=>ops
 |_=>#[]
def c6g:Oper:=a7j[0]!
def c6f:Oper:=a7j[1]!
theorem e0r:m8 Tryz.f37 = .seq (P9 (m8 Tryz.f37) [false]) (.seq (.region 1 a7j false) a9b):=by kernel_rfl
theorem e5B:a7j.toList=[c6g] ++ [c6f]:=by kernel_rfl
def e0s:Call:=match c6f.op with
 |.defer c=>c
 |_=>default
theorem e0t(l:c8S)(e d:Int):@Q0 St b0B d2V 0 (P9 (m8 Tryz.f37) [false]) 0 (start Tryz.f37 [.box 0 0] PBs ((),()) ((l,e,d,()),())) (fun e st=>match e with | .normal=>some st|_=>none)=some (b8C l e d):=by kernel_rfl
theorem e0u(l:c8S)(e d:Int):@b5Z St b0B d2V a7j.toList [c6g] (b8C l e d) some=some (d2W l e d):=by kernel_rfl
abbrev f5E:List Sl:=[.box 0 0,.dead,.box 1 0,.box 2 0,.box 3 0]
abbrev f5D:List Sb:=PBs ++ [.cells [.nilS],.cells [V0],.cells [V3]]
theorem f0F{M M':Nat->Nat->Prop}{w:World}{g g':Gh}{a b c:Ty}{e:a.den}{l:b.den}{m:c.den}(hst:Step M w M' w):∀{vs:List Value},All2 (RepD0 M w g) [.v a e,.v b l,.v c m] vs->All2 (RepD0 M' w g') [.v a e,.v b l,.v c m] vs
 |[_,_,_],h=>⟨RepV.step hst h.1,RepV.step hst h.2.1,RepV.step hst h.2.2.1,trivial⟩
theorem e5N{M M':Nat->Nat->Prop}{w:World}{g g':Gh}{b c a:Ty}{l:b.den}{m:c.den}{e:a.den}(hst:Step M w M' w):∀{vs:List Value},All2 (RepD0 M w g) [.v b l,.v c m,.v a e] vs->All2 (RepD0 M' w g') [.dead,.dead,.v a e] vs
 |[_,_,_],h=>⟨trivial,trivial,RepV.step hst h.2.2.1,trivial⟩
set_option maxHeartbeats 1000000 in
theorem d2X(N:Nat){M:Nat->Nat->Prop}{w:World}{g:Gh}{vs:List Value}{l:c8S}{e d:Int}(hG:GW w)(hB:x6<=w.heap.size)(hfr:Frag x6 M w g [.box 0 0] PBs ((),()) ((l,e,d,()),()) vs)
  {z:_} (hY:L9 N l e d 0 false=some z) {R:Ending->World->Prop}
  (hok:∀vs' g' w',ExtX (Z4 g) w w'->Step M w (y6 M g g') w'->Frag x6 (y6 M g g') w' g' [V5,V0,V3] [.cells [.dead,.dead,V0]] (z.1,z.2.1,z.2.2.1,()) (((),(),z.2.2.2.2.2.1,()),()) vs'->
   (∀r x,g r=some x->a79 x.v=true->g' r=some x)->(∀b,Z4 g' b->Z4 g b\/w.heap.size<=b)->R (.returned (b12 vs')) w'):
  Calls Tryz.prog 37 vs.toArray w R:=by
 refine calls_of_wp_defers (c:=m8 Tryz.f37) Tryz.func37 rfl ?_;obtain⟨eM,hs0⟩:=c9H (fn:=Tryz.f37) hG hB hfr rfl rfl;have hE0:EnvOk Tryz.prog GW x6 d2V:=t6 _ _ _ _ (fun _ _ _ h=>by cases h);have hE4:EnvOk Tryz.prog GW x6 (a6r N):=t6 _ (d9M N) _ _ (d9N N);rw[e0r];refine wp_seq (@L6 _ _ _ _ _ _ _ _ St b0B hE0 0 _ 0 _ (b8C l e d) _ ?_ (@Pans.none St b0B _ _ _ _ _ _ _ fun _ _ _=>rfl) _ _ _ _ hs0 (e0t l e d));intro e1 g1 st1 a1 a hs1 h1;cases e1 with
 |exit id=>cases h1
 |ret=>cases h1
 |normal=>
 injection h1 with h1
 subst h1;refine wp_seq (wp_region_list ?_);rw[e5B];refine a5B [c6f] [c6g] a1 a ?_;refine @a5i _ _ _ _ _ _ _ _ St b0B hE0 a7j some (d2W l e d) _ ?_ (@Pans.none St b0B _ _ _ _ _ _ _ fun _ _ _=>rfl) [c6g] _ _ _ _ hs1 (e0u l e d);intro g2 st2 a2 w2 hs2 h2;injection h2 with h2
 subst h2;obtain⟨caps,hcaps,hst⟩:=c0N (P:=Tryz.prog) hs2 (d:=c6f) (x:= .tmp 5) (c:=e0s) (f:=73) (l:=[1002,1003,1004]) (by kernel_rfl) (by kernel_rfl) (by kernel_rfl) (by kernel_rfl) (by kernel_rfl) (by kernel_rfl);refine hst _ _ fun a3 hs3=>?_
 show Code.wp _ a9b _ a3 w2;have hGw:GW w2:=a7h _ _ _ hG hs3.ext hs3.gil;obtain⟨eM3,hs4⟩:=c9c hs3 hGw [0,1002,1003,1004] (by decide) (by decide) (st':=start a6A f5E f5D ((),(),(),(),(),()) ((l,e,d,()),((),()),(0,()),(false,()),())) rfl
  (fun t d h=>by
   have h:v6 [(0,D.box 0 0),(1,D.dead),(2,D.box 1 0),(3,D.box 2 0),(4,D.box 3 0)] t=some d:=h;simp only[v7,a6z]at h
   repeat' (split at h)
   all_goals first
    |(cases h;done)
    |(rename_i hb;obtain rfl:=Nat.eq_of_beq_eq_true hb;cases h;first|exact .inl rfl|exact .inr ⟨_,_,rfl,rfl,by kernel_rfl⟩))
  (fun t d h=>by
   have h:v6 [(0,D.box 0 0),(1,D.dead),(2,D.box 1 0),(3,D.box 2 0),(4,D.box 3 0)] t=some d:=h;simp only[v7,a6z]at h
   repeat' (split at h)
   all_goals first
    |(cases h;done)
    |(rename_i hb;obtain rfl:=Nat.eq_of_beq_eq_true hb;show _<20;decide))
  (fun r blk h=>by
   have h:v6 [(0,Blk.cells [.v (.sl τ2) l,.v τ3 e,.v τ3 d]),(1,Blk.cells [.nilS]),(2,Blk.cells [.v τ3 0]),(3,Blk.cells [.v .bool false])] r=some blk:=h;simp only[v7,a6z]at h
   repeat' (split at h)
   all_goals first
    |(cases h;done)
    |(rename_i hb;obtain rfl:=Nat.eq_of_beq_eq_true hb;cases h;exact⟨_,_,rfl,rfl,by kernel_rfl,rfl⟩))
 have hrun:=a5n N ((),(),(),(),(),()) ((l,e,d,()),((),()),(0,()),(false,()),()) z hY;unfold b1I at hrun;rw[show a6A.body=some a9b from rfl]at hrun;split at hrun
 case h_2=>cases hrun
 rename_i c' hc' hps hbs;cases hc';simp only[a3q,Z5,b8E,b2N]at hrun;have hsub:∀{j x},D2 g2 [0,1002,1003,1004] j=some x->∃r,[0,1002,1003,1004][j]? = some r/\g2 r=some x:=by
  intro j x h;unfold D2 at h;cases h1:[0,1002,1003,1004][j]? with
  |none=>rw[h1]at h;cases h
  |some r=>rw[h1]at h;exact⟨r,rfl,h⟩
 have hXi:∀b,Z4 (D2 g2 [0,1002,1003,1004]) b->Z4 g b\/w.heap.size<=b:=by
  rintro b ⟨j,x,h1,h2⟩;obtain⟨r,_,h3⟩:=hsub h1;exact(hs3.low _ _ _ h3 h2).2.2
 have hinv:∀w',(invoke (.fn (.func 73) caps) #[]).run Tryz.prog w' = .ok (.enter 73 caps) w':=by
  intro w';have:=Tryz.call73 caps w';simp[invoke,this]
 refine @L6 _ _ _ _ _ _ _ _ _ (bothClassic _) hE4 N a9b 0 _ _ _ ?_ (@Pans.none _ (bothClassic _) _ _ _ _ _ _ _ fun _ _ _=>rfl) _ _ _ _ hs4 hrun
 ·
  intro ex g5 st5 a5 w5 hs5 h5;have fin:B4 (a6r N) a6A (b56 N) a8x st5=some z->Go.Leaves Tryz.prog Tryz.f37 a5.tmps R a5.defers .returning w5:=by
   intro h5;obtain⟨⟨m,p,hpk⟩,vs',g6,r1,r2,r3,r4,r5,r6⟩:=b3F hE4 hs5 (fun x y=>rfl) (fun r x h=>by
    obtain⟨r',h1,_⟩:=hsub h;exact(List.getElem?_eq_some_iff.1 h1).1) (fun b o=>by rw[eM3]) h5
   rw[hs5.defers];refine leaves_cons (by simp) (f:=73) (args:=caps) (hinv w5) ((d3I caps w5).mono ?_);rintro e' u' w'' ⟨⟨v,rfl⟩,rfl,rfl⟩;refine⟨_,r1,?_⟩;subst hpk;have hincl:∀b o,y6 M g (fun i=>if i=0 then g6 0 else none) b o->y6 (u9 (fun b o=>M b o/\¬Z4 g b) g2) (D2 g2 [0,1002,1003,1004]) g6 b o:=by
    rintro b o (⟨h1,h2⟩|⟨r,x,h1,h2,h3⟩)
    ·refine .inl ⟨.inl ⟨h1,h2⟩,fun h=>?_⟩;rcases hXi b h with h|h
     ·exact h2 h
     ·have:=hfr.mlt _ _ h1;omega
    ·by_cases hr:r=0
     ·subst hr;exact .inr ⟨0,x,(by simpa using h1),h2,h3⟩
     ·simp[hr]at h1
   have hst5:Step (y6 (u9 (fun b o=>M b o/\¬Z4 g b) g2) (D2 g2 [0,1002,1003,1004]) g6) w'' (y6 M g fun i=>if i=0 then g6 0 else none) w'':=⟨fun _ _ h hm=>⟨h,fun h'=>hm (hincl _ _ h')⟩,fun _ _ _ h hm=>⟨h,fun h'=>hm (hincl _ _ h')⟩⟩;obtain⟨gx,hgx,bb,cs5,el5,hgx2,hbb,hcs5⟩:=r4.res 0 _ rfl;refine hok vs' (fun i=>if i=0 then g6 0 else none) w'' (hs3.ext.trans r2 fun n hn hx=>(hXi n hx).resolve_right (by omega)) ?_ ⟨?_,?_,?_,?_,?_,?_,?_,?_⟩ ?_ ?_
   ·have h1:=hs3.stp;rw[eM]at h1;exact h1.trans (r3.trans hst5)
   ·exact f0F hst5 r4.args
   ·intro r blk h
    match r,h with
    |0,h=>
     cases h;exact⟨gx,by simpa using hgx,bb,cs5,el5,hgx2,hbb,e5N hst5 hcs5⟩
    |r+1,h=>cases h
   ·intro r x h;by_cases hr:r=0
    ·subst hr;exact Nat.zero_lt_one
    ·simp[hr]at h
   ·intro r r' x x' b h1 h2 _ _;by_cases hr:r=0
    ·by_cases hr':r'=0
     ·rw[hr,hr']
     ·simp[hr']at h2
    ·simp[hr]at h1
   ·intro r x b h1 h2;by_cases hr:r=0
    ·subst hr;exact r4.low 0 x b (by simpa using h1) h2
    ·simp[hr]at h1
   ·intro r x b o h1 h2;by_cases hr:r=0
    ·subst hr;have h1':g6 0=some x:=by simpa using h1
     rw[hgx]at h1';cases h1';refine⟨fun _=>by rw[hgx2];exact Nat.zero_le _,fun h3=> .inr ⟨0,_,by simpa using hgx,h2,h3⟩⟩
    ·simp[hr]at h1
   ·exact fun b o h=>r4.mlt _ _ (hincl _ _ h)
   ·intro r x b h1 h2 h3;by_cases hr:r=0
    ·subst hr;have h1':g6 0=some x:=by simpa using h1
     rw[hgx]at h1';cases h1';rw[hgx2]at h3;exact absurd h3 (Nat.lt_irrefl _)
    ·simp[hr]at h1
   ·intro r x h1 h2;have hr:r=0:=by have:=hfr.dom r x h1;have:r<1:=this;omega
    subst hr;have:=r5 0 x (by show D2 g2 _ 0=_;exact hs3.pin 0 x h1 h2) h2;simpa using this
   ·rintro b ⟨r,x,h1,h2⟩;by_cases hr:r=0
    ·subst hr;rcases r6 b ⟨0,x,by simpa using h1,h2⟩with h3|h3
     ·exact hXi b h3
     ·exact .inr (Nat.le_trans hs3.size h3)
    ·simp[hr]at h1
  cases ex with
  |normal=>exact fin h5
  |ret=>exact fin h5
  |exit id=>cases h5
def K9(N:Nat)(l:c8S)(e d:Int):Option (List GStmt×Int×Bool×Int):=match L9 N l e d 0 false with
 |some z=>some (z.1,z.2.1,z.2.2.1,z.2.2.2.2.2.1)
 |none=>none
theorem d9d(N:Nat):I6 37 (f30 fun _ y=>K9 N y.1.1 y.1.2.1 y.1.2.2.1):=by
 refine⟨Tryz.call37,fun M w g vs x y z hG hB hfr hz=>?_⟩;obtain⟨⟨l,e,d,_⟩,_⟩:=y;change K9 N l e d=some z at hz;unfold K9 at hz;split at hz
 case h_2=>cases hz
 rename_i z' ho;cases hz;refine d2X N hG hB hfr ho ?_;intro vs' g' w' h1 h2 h3 h4 h5;exact⟨vs',g',rfl,h1,h2,h3,fun r x e1 e2=>h4 r x e1 (e2.elim id fun e=>by cases e),h5⟩
end
noncomputable section
noncomputable section
variable(N:Nat)
def b1m(_N:Nat)(c:d3)(e:Int)(k0:Int->Option τ28)(self:Int->Int->Option τ28)(a b:Int):Option τ28:=br (decide (a<e)) (k8 (n8 c a) fun g=>self (IntKind.i64.wrap (a+1)) (IntKind.i64.wrap ((IntKind.i64.wrap (10*b))+(IntKind.i64.wrap (UInt8.toNat (g-48):Int))))) (k0 b)
def c3y(N:Nat)(a:d3)(b:Int)(k0:Int->Option τ28):Nat->Int->Int->Option τ28|0,_,_=>none|n+1,c,e=>b1m N a b k0 (c3y N a b k0 n) c e
def a0a(m:d3)(o g:Int)(b:d3)(c e:Int)(p:List τ1):Option τ28:=k8 (U9 N () m o p) fun a=>br (decide ((a.1.length:Int)>1)) (k8 (n8 a.1 0) fun q=>br (q==48) (some (10,a.2.1,a.2.2.1,g,b,c,e,a.2.2.2)) (br (decide ((a.1.length:Int)>9)) (some (2,a.2.1,a.2.2.1,g,b,c,e,a.2.2.2)) (c3y N a.1 (a.1.length:Int) (fun l=>some (0,a.2.1,a.2.2.1,3,b,l,e,a.2.2.2)) N 0 c))) (br (decide ((a.1.length:Int)>9)) (some (2,a.2.1,a.2.2.1,g,b,c,e,a.2.2.2)) (c3y N a.1 (a.1.length:Int) (fun l=>some (0,a.2.1,a.2.2.1,3,b,l,e,a.2.2.2)) N 0 c))
abbrev f2P(f:SV [.box 0 0,.box 1 0]->BV [.cells [V1,V0,.row 2],.cells [V0,V1,V0,V0],.row 138 τ2 false]->Option τ28):AF:={ps:=[.box 0 0,.box 1 0],bs:=[.cells [V1,V0,.row 2],.cells [V0,V1,V0,V0],.row 138 τ2 false],rs:=[V0],cs:=[.cells [V1,V0,.row 2],.cells [V0,V1,V0,V0],.row 138 τ2 false],R:=Int×d3×Int×Int×d3×Int×Int×List τ1,out:=fun z=>((z.1,()),(z.2.1,z.2.2.1,(),()),(z.2.2.2.1,z.2.2.2.2.1,z.2.2.2.2.2.1,z.2.2.2.2.2.2.1,()),z.2.2.2.2.2.2.2,()),f:=f}
abbrev e8W:AF:=f2P fun _ y=>a0a N y.1.1 y.1.2.1 y.2.1.1 y.2.1.2.1 y.2.1.2.2.1 y.2.1.2.2.2.1 y.2.2.1
abbrev e4O:SV [V0]->BV [.cells [V1,V0,.row 2],.cells [V0,V1,V0,V0],.row 138 τ2 false]->τ28:=fun x y=>(x.1,y.1.1,y.1.2.1,y.2.1.1,y.2.1.2.1,y.2.1.2.2.1,y.2.1.2.2.2.1,y.2.2.1)
def e4N:FuncId->Option Tmp->Option AF:=fun f _=>P0 [(132,e2M N)] f
theorem d7Y:H5 (e4N N):=fun _ _ _ h=>r9 h (u4 (d84 N) F1)
def f6V:Nat->Hint:=fun i=>
 match i with
 |0=>⟨[],[1,5,21,22],[0,1,2],[1],[0,1,2],[]⟩
 |100009=>⟨[1],[1],[],[],[],[]⟩
 |_=>o5
abbrev e2o:Env:=M5 f6V (e4N N) FF FF
abbrev f6U:=B4 (e2o N) Tryz.f134 (e8W N) e4O
abbrev d7X:List (Nat×Sl):=[(1,.box 1 0),(5,V1),(21,V0),(22,V0)]
abbrev b5l:List (Nat×Sb):=[(0,.cells [V1,V0,.row 2]),(1,.cells [V0,V1,V0,V0]),(2,.row 138 τ2 false)]
def b8c(y:HV b5l):St:=⟨43,[(1,.box 1 0)],unH b5l y⟩
def c8f:T9 (τ28) d7X b5l:=fun K n x y=>c3y N x.2.1 x.2.2.1 (fun a=>K 0 (b8c (y.1,(y.2.1.1,y.2.1.2.1,a,y.2.1.2.2.2),y.2.2))) n x.2.2.2.1 y.2.1.2.2.1
def e4M:Nat->Code->St->(Ex->St->Option τ28)->Option τ28:=fun i c=>
 match i with
 |0=>U4 (e2o N) N 43 (c8f N) 0 c
 |i=>LpD (e2o N) N i c
theorem e8X:B2 (e4M N) (e2o N) N (f6U N) 0 f4C:=
 o0 (c8f N) (fun K f x y=>b1m N x.2.1 x.2.2.1 (fun a=>K 0 (b8c (y.1,(y.2.1.1,y.2.1.2.1,a,y.2.1.2.2.2),y.2.2))) (fun b c=>f (x.1,x.2.1,x.2.2.1,b,x.2.2.2.2) (y.1,(y.2.1.1,y.2.1.2.1,c,y.2.1.2.2.2),y.2.2)) x.2.2.2.1 y.2.1.2.2.1)
theorem d7Z:I6 134 (e8W N):=
 X0 (d7Y N) Tryz.func134 Tryz.call134 (e8W N) e4O N (e4M N) (P5 (e8X N) U6)
def b5r(_N:Nat)(b:d3)(e:List τ1)(k0:Int->Option τ34)(self:Int->τ23->Option τ34)(a:Int)(c:List UInt8):Option τ34:=br (decide (a<(b.length:Int))) (k8 (n8 b a) fun g=>br (g==34) (some (c,true,b,IntKind.i64.wrap (a+1),e)) (br (g==92) (br ((IntKind.i64.wrap (a+1))==(b.length:Int)) (some ([],false,b,IntKind.i64.wrap (a+1),e)) (k8 (n8 b (IntKind.i64.wrap (a+1))) fun l=>br (l==34) (br (l==34) (k8 (n8 b (IntKind.i64.wrap (a+1))) fun m=>br (Zf (c.length + [m].length) .u8) (self (IntKind.i64.wrap ((IntKind.i64.wrap (a+1))+1)) (c ++ [m])) none) (br (l==110) (br (Zf (c.length + [(10:UInt8)].length) .u8) (self (IntKind.i64.wrap ((IntKind.i64.wrap (a+1))+1)) (c ++ [(10:UInt8)])) none) (some ([],false,b,IntKind.i64.wrap (a+1),e)))) (br (l==92) (k8 (n8 b (IntKind.i64.wrap (a+1))) fun o=>br (Zf (c.length + [o].length) .u8) (self (IntKind.i64.wrap ((IntKind.i64.wrap (a+1))+1)) (c ++ [o])) none) (br (l==110) (br (Zf (c.length + [(10:UInt8)].length) .u8) (self (IntKind.i64.wrap ((IntKind.i64.wrap (a+1))+1)) (c ++ [(10:UInt8)])) none) (some ([],false,b,IntKind.i64.wrap (a+1),e)))))) (br (decide (g<32)) (some ([],false,b,IntKind.i64.wrap (a+1),e)) (br (decide (g>126)) (some ([],false,b,IntKind.i64.wrap (a+1),e)) (br (Zf (c.length + [g].length) .u8) (self (IntKind.i64.wrap (a+1)) (c ++ [g])) none))))) (k0 a)
def b5q(N:Nat)(a:d3)(b:List τ1)(k0:Int->Option τ34):Nat->Int->τ23->Option τ34|0,_,_=>none|n+1,c,e=>b5r N a b k0 (b5q N a b k0 n) c e
def a0T(a:d3)(c:Int)(b:List τ1):Option τ34:=b5q N a b (fun e=>some ([],false,a,e,b)) N c []
abbrev f3X(f:SV [.box 0 0]->BV [.cells [V1,V0,.row 1],.row 138 τ2 false]->Option τ34):AF:={ps:=[.box 0 0],bs:=[.cells [V1,V0,.row 1],.row 138 τ2 false],rs:=[V1,V3],cs:=[.cells [V1,V0,.row 1],.row 138 τ2 false],R:=d3×Bool×d3×Int×List τ1,out:=fun z=>((z.1,z.2.1,()),(z.2.2.1,z.2.2.2.1,(),()),z.2.2.2.2,()),f:=f}
abbrev e9l:AF:=f3X fun _ y=>a0T N y.1.1 y.1.2.1 y.2.1
abbrev e5a:SV [V1,V3]->BV [.cells [V1,V0,.row 1],.row 138 τ2 false]->τ34:=fun x y=>(x.1,x.2.1,y.1.1,y.1.2.1,y.2.1)
def e49(_N:Nat):FuncId->Option Tmp->Option AF:=fun f _=>P0 [] f
theorem d86:H5 (e49 N):=fun _ _ _ h=>r9 h F1
def f7s:Nat->Hint:=fun i=>
 match i with
 |0=>⟨[],[0,4],[0,1,1004],[],[0,1],[]⟩
 |100015=>⟨[0,1],[1],[],[],[],[]⟩
 |_=>o5
abbrev e2N:Env:=M5 f7s (e49 N) FF FF
noncomputable abbrev f3W:Code:=P9 (m8 Tryz.f135) [true,true,false,false,false]
abbrev f7r:=B4 (e2N N) Tryz.f135 (e9l N) e5a
abbrev d85:List (Nat×Sl):=[(0,.box 0 0),(4,.row 1004)]
abbrev c3N:List (Nat×Sb):=[(0,.cells [V1,V0,.row 1]),(1,.row 138 τ2 false),(1004,.row 5 .u8 false)]
def b8l(y:HV c3N):St:=⟨97,[],[(0,.cells [.v .str y.1.1,.v τ3 y.1.2.1,.row 1]),(1,.row 138 τ2 false y.2.1)]⟩
def c8r:T9 (τ34) d85 c3N:=fun K n x y=>b5q N y.1.1 y.2.1 (fun a=>K 0 (b8l ((y.1.1,a,y.1.2.2),y.2))) n y.1.2.1 y.2.2.1
def e48:Nat->Code->St->(Ex->St->Option τ34)->Option τ34:=fun i c=>
 match i with
 |0=>U4 (e2N N) N 97 (c8r N) 0 c
 |i=>LpD (e2N N) N i c
theorem e9m:B2 (e48 N) (e2N N) N (f7r N) 0 f3W:=
 o0 (c8r N) (fun K f x y=>b5r N y.1.1 y.2.1 (fun a=>K 0 (b8l ((y.1.1,a,y.1.2.2),y.2))) (fun b c=>f x ((y.1.1,b,y.1.2.2),y.2.1,c,y.2.2.2)) y.1.2.1 y.2.2.1)
theorem d87:I6 135 (e9l N):=
 X0 (d86 N) Tryz.func135 Tryz.call135 (e9l N) e5a N (e48 N) (P5 (e9m N) U6)
def I2(b:d3)(a:Int)(e:List τ1):Option (τ1×Int×d3×Int×List τ1):=k8 (n8 b a) fun l=>k8 (J8 N l) fun o=>br (o) (k8 (U8 N () b a e) fun g=>br (decide ((g.1.length:Int)>40)) (some ((1,g.1,0,a),2,g.2)) (some ((1,g.1,0,a),0,g.2))) (k8 (J7 N l) fun p=>br (p) (k8 (a0a N b a 0 [] 0 a e) fun c=>some ((c.2.2.2.1,c.2.2.2.2.1,c.2.2.2.2.2.1,c.2.2.2.2.2.2.1),c.1,c.2.1,c.2.2.1,c.2.2.2.2.2.2.2)) (br (l==34) (k8 (a0T N b (IntKind.i64.wrap (a+1)) e) fun m=>br (!m.2.1) (some ((0,[],0,a),10,m.2.2)) (some ((2,m.1,0,a),0,m.2.2))) (k8 (strings_IndexByte [61,43,40,41,91,93,123,125,44,58,59] l) fun q=>br (decide (q>=0)) (k8 (slc b a (b.length:Int)) fun r=>k8 (strings_HasPrefix N r [61,61]) fun t=>br (t) (k8 (slc b a (IntKind.i64.wrap (a+2))) fun u=>some ((4,u,0,a),0,b,IntKind.i64.wrap (a+2),e)) (k8 (slc b a (IntKind.i64.wrap (a+1))) fun v=>some ((4,v,0,a),0,b,IntKind.i64.wrap (a+1),e))) (some ((0,[],0,a),10,b,a,e)))))
abbrev f4w:=E3 [.box 0 0] [.cells [V1,V0,.row 1],.row 138 τ2 false] [.v τ2,V0] [.cells [V1,V0,.row 1],.row 138 τ2 false] (τ1×Int×d3×Int×List τ1) fun z=>((z.1,z.2.1,()),(z.2.2.1,z.2.2.2.1,(),()),z.2.2.2.2,())
abbrev e9y:AF:=f4w fun _ y=>I2 N y.1.1 y.1.2.1 y.2.1
def f7H:Nat->Hint:=fun i=>
 match i with
 |100020=>⟨[0,1],[1],[],[],[],[]⟩
 |100022=>⟨[0,1],[1],[],[],[],[]⟩
 |_=>o5
theorem d9E:I6 72 (e9y N):=
 N9 f7H (u4 (b0Z N) (u4 (a7G N) (u4 (c92 N) (u4 (a7B) (u4 (d82 N) (u4 (d7Z N) (u4 (d87 N) F1))))))) Tryz.func72 Tryz.call72 (e9y N) (fun x y=>(x.1,x.2.1,y.1.1,y.1.2.1,y.2.1)) N
def a7J(c:d3)(self:d3->Int->τ22->Option τ35)(e:d3)(g:Int)(l:List τ1):Option τ35:=k8 (Z9 N e g l) fun b=>br (b.2.1==(c.length:Int)) (some (b.2.2,0,0)) (br ((b.2.2.length:Int)==50000) (some ([],b.2.1,2)) (k8 (I2 N b.1 b.2.1 b.2.2) fun a=>br (a.2.1 !=0) (some ([],a.1.2.2.2,a.2.1)) (o3 2 (br (Zf (a.2.2.2.2.length + [a.1].length) τ2) (self a.2.2.1 a.2.2.2.1 (a.2.2.2.2 ++ [a.1])) none))))
def b4J(N:Nat)(a:d3):Nat->d3->Int->τ22->Option τ35|0,_,_,_=>none|n+1,b,c,e=>a7J N a (b4J N a n) b c e
def a2e(a:d3):Option τ35:=br (decide ((a.length:Int)>50000)) (some ([],0,2)) (b4J N a N a 0 [])
abbrev e7w(f:SV [V1]->BV []->Option τ35):AF:={ps:=[V1],bs:=[],rs:=[V2,V0,V0],cs:=[],R:=List τ1×Int×Int,out:=fun z=>((z.1,z.2.1,z.2.2,()),()),f:=f}
abbrev d5S:AF:=e7w fun x _=>a2e N x.1
abbrev d5T:SV [V2,V0,V0]->BV []->τ35:=fun x _=>(x.1,x.2.1,x.2.2.1)
def d5R:FuncId->Option Tmp->Option AF:=fun f _=>P0 [(71,e2n N),(72,e9y N)] f
theorem d1a:H5 (d5R N):=fun _ _ _ h=>r9 h (u4 (d7W N) (u4 (d9E N) F1))
def f1w:Nat->Hint:=fun i=>
 match i with
 |0=>⟨[],[0,5],[1013,900001],[],[],[(1013,2,900001,138,τ2)]⟩
 |100008=>⟨[1013,900001],[1],[],[],[],[]⟩
 |100011=>⟨[1006],[1],[],[],[],[]⟩
 |100012=>⟨[],[1,2],[],[],[],[]⟩
 |_=>o5
abbrev c7s:Env:=M5 f1w (d5R N) FF FF
noncomputable abbrev e7v:Code:=P9 (m8 Tryz.f36) [true,true,true,false,false]
abbrev f1v:=B4 (c7s N) Tryz.f36 (d5S N) d5T
abbrev d09:List (Nat×Sl):=[(0,V1),(5,.box 1013 0)]
abbrev d08:List (Nat×Sb):=[(1013,.cells [V1,V0,.row 900001]),(900001,.row 138 τ2 false)]
def c2Q:T9 (τ35) d09 d08:=fun K n x y=>b4J N x.1 n y.1.1 y.1.2.1 y.2.1
def d5Q:Nat->Code->St->(Ex->St->Option τ35)->Option τ35:=fun i c=>
 match i with
 |0=>U4 (c7s N) N 57 (c2Q N) 0 c
 |i=>LpD (c7s N) N i c
theorem e1M:B2 (d5Q N) (c7s N) N (f1v N) 0 e7v:=
 o0 (c2Q N) (fun K f x y=>a7J N x.1 (fun a b c=>f x ((a,b,y.1.2.2),c,y.2.2)) y.1.1 y.1.2.1 y.2.1)
theorem d1b:I6 36 (d5S N):=
 X0 (d1a N) Tryz.func36 Tryz.call36 (d5S N) d5T N (d5Q N) (P5 (e1M N) U6)
def a3d(c:d3):Option (List GStmt×Int×Int):=k8 (a2e N c) fun b=>br (b.2.2 !=0) (some ([],b.2)) (k8 (K9 N b.1 (c.length:Int) (-1:Int)) fun a=>br (!a.2.2.1) (some ([],a.2.1,10)) (br (decide (a.2.2.2>=0)) (some ([],a.2.2.2,2)) (k8 (t8 N a.1) fun e=>br (e !=0) (some ([],0,e)) (some (a.1,0,0)))))
abbrev e75:=E3 [V1] [] [V5,V0,V0] [] (List GStmt×Int×Int) fun z=>((z.1,z.2.1,z.2.2,()),())
abbrev d6B:AF:=e75 fun x _=>a3d N x.1
def f1Q:Nat->Hint:=fun i=>
 match i with
 |100009=>⟨[1026],[],[],[],[],[]⟩
 |_=>o5
theorem d1W:I6 18 (d6B N):=
 N9 f1Q (u4 (c3H N) (u4 (d1b N) (u4 (d9d N) F1))) Tryz.func18 Tryz.call18 (d6B N) (fun x _=>(x.1,x.2.1,x.2.2.1)) N
def a2N(_N:Nat)(a:Option Unit):Option (Option Unit×List (τa)):=some (a,[])
abbrev e67:=E3 [.v τ41] [] [.box 0 0] [.cells [.v τ41,.mref 1,.nilS],.map τ8] (Option Unit×List (τa)) fun z=>(((),()),(z.1,(),(),()),z.2,())
abbrev e31:AF:=e67 fun x _=>a2N N x.1
theorem d0I:I6 38 (e31 N):=
 N9 h0 F1 Tryz.func38 Tryz.call38 (e31 N) (fun _ y=>(y.1.1,y.2.1)) N
def a1M(b:Bool):Option (Bool×Bool×Option Unit×τ27×List (τa)):=k8 (a2N N (none:Option Unit)) fun a=>some (b,false,a.1,[],a.2)
abbrev f5a:=E3 [V3] [] [.box 0 0] [.cells [.box 1 0,.mref 2,V3,V3],.cells [.v τ41,.mref 3,.nilS],.map .bool,.map τ8] (Bool×Bool×Option Unit×τ27×List (τa)) fun z=>(((),()),((),(),z.1,z.2.1,()),(z.2.2.1,(),(),()),z.2.2.2.1,z.2.2.2.2,())
abbrev e9J:AF:=f5a fun x _=>a1M N x.1
theorem e0h:I6 19 (e9J N):=
 N9 h0 (u4 (d0I N) F1) Tryz.func19 Tryz.call19 (e9J N) (fun _ y=>(y.1.2.2.1,y.1.2.2.2.1,y.2.1.1,y.2.2.1,y.2.2.2.1)) N
def E9(_N:Nat)(b c:d3)(e:List R2)(g:List τ7)(a l m:Int)(m1:τ43)(m2:List τ4):Option τ16:=br (a==50000) (some (16,b,c,e,g,a,l,m,m1,m2)) (some (0,b,c,e,g,IntKind.i64.wrap (a+1),l,m,m1,m2))
abbrev f3Z(f:SV [.box 0 0]->BV [.cells [V1,V1,.v τ17,.v τ10,V0,V0,V0,.mref 1,.mref 2],.map τ5,.map τ6]->Option τ16):AF:={ps:=[.box 0 0],bs:=[.cells [V1,V1,.v τ17,.v τ10,V0,V0,V0,.mref 1,.mref 2],.map τ5,.map τ6],rs:=[V0],cs:=[.cells [V1,V1,.v τ17,.v τ10,V0,V0,V0,.mref 1,.mref 2],.map τ5,.map τ6],R:=Int×d3×d3×List R2×List τ7×Int×Int×Int×Y7×List τ4,out:=fun z=>((z.1,()),(z.2.1,z.2.2.1,z.2.2.2.1,z.2.2.2.2.1,z.2.2.2.2.2.1,z.2.2.2.2.2.2.1,z.2.2.2.2.2.2.2.1,(),(),()),z.2.2.2.2.2.2.2.2.1,z.2.2.2.2.2.2.2.2.2,()),f:=f}
abbrev e2Q:AF:=f3Z fun _ y=>let z:=y.1.2.2.2;E9 N y.1.1 y.1.2.1 y.1.2.2.1 z.1 z.2.1 z.2.2.1 z.2.2.2.1 y.2.1 y.2.2.1
theorem c3P:I6 39 (e2Q N):=
 N9 h0 F1 Tryz.func39 Tryz.call39 (e2Q N) (fun x y=>let z:=y.1.2.2.2;(x.1,y.1.1,y.1.2.1,y.1.2.2.1,z.1,z.2.1,z.2.2.1,z.2.2.2.1,y.2.1,y.2.2.1)) N
abbrev a9Z:=E3 [.box 0 0,.box 1 0,.v O1] [.cells [V1,V1,.v τ17,.v τ10,V0,V0,V0,.mref 2,.mref 3],.cells [.v τ41,.mref 4,.nilS],.map τ5,.map τ6,.map τ8] [.v τ18,V0] [.cells [V1,V1,.v τ17,.v τ10,V0,V0,V0,.mref 2,.mref 3],.cells [.v τ41,.mref 4,.nilS],.map τ5,.map τ6,.map τ8] (GValue×τb) fun z=>((z.1,z.2.1,()),(z.2.2.1,z.2.2.2.1,z.2.2.2.2.1,z.2.2.2.2.2.1,z.2.2.2.2.2.2.1,z.2.2.2.2.2.2.2.1,z.2.2.2.2.2.2.2.2.1,(),(),()),(z.2.2.2.2.2.2.2.2.2.1,(),(),()),z.2.2.2.2.2.2.2.2.2.2.1,z.2.2.2.2.2.2.2.2.2.2.2.1,z.2.2.2.2.2.2.2.2.2.2.2.2,())
end
end
end Go.Proofs.YtckdohagilcloaaGreatDoor
