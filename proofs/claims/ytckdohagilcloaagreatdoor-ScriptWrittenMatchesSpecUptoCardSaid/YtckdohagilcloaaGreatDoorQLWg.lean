/- % -/
import Derived.Test.YtckdohagilcloaaGreatDoorQLWe
import Derived.Test.YtckdohagilcloaaGreatDoorQLWq
import Derived.Test.YtckdohagilcloaaGreatDoorQLBl1
namespace Go.Proofs.YtckdohagilcloaaGreatDoor
set_option linter.unusedVariables false
set_option linter.unusedSimpArgs false
open Go Go.RowKit
section
variable{N:Nat}
theorem c2h{α:Type}{m:List (d3×α)}{k:d3}(h:k∉m.map (·.1))(x:α):a1V m k x=m ++ [(k,x)]:=by
 induction m with
 |nil=>rfl
 |cons p m ih=>
  obtain⟨j,y⟩:=p;rw[List.map_cons,List.mem_cons,not_or]at h;unfold a1V;rw[show(k==j)=false from beq_false_of_ne h.1];simp only[Bool.false_eq_true,if_false,List.cons_append];rw[ih h.2]
theorem c9T{α:Type}{m:List (d3×α)}{k:d3}(h:k∉m.map (·.1)):a0X m k=none:=by
 induction m with
 |nil=>rfl
 |cons p m ih=>
  obtain⟨j,y⟩:=p;rw[List.map_cons,List.mem_cons,not_or]at h;unfold a0X;rw[show(k==j)=false from beq_false_of_ne h.1];simp only[Bool.false_eq_true,if_false];exact ih h.2
theorem c4q{α:Type}{key:α->d3}{d:List α}(h:d.Pairwise fun a b=>key a<key b):(d.map key).Nodup:=by
 show List.Pairwise (·≠ ·) (d.map key);rw[List.pairwise_map];refine h.imp fun{a b} hab=>?_
 intro e;rw[e]at hab;exact Q8 _ hab
abbrev AV:Type:=Ag×GValue
abbrev RC2:Type:=Option (Int×d3×d3×List (d3×d3)×X1×Int×Int×Int×Option Unit×a6x×TGT×NMS)
def EvC.resC(C:EvC)(f s:Int):RC2:=some (f,C.g,C.x,C.lb,C.fs,s,C.a,C.den,C.up,C.L,C.T,C.M)
abbrev KCl:Type:=d3->d3->List (d3×d3)->X1->Int->Int->Int->Option Unit->a6x->TGT->NMS->List (d3×GValue)->RC2
theorem b6i{c:Nat}(zs:List AV)(hz:zs.length<=1000)(hn:(zs.map fun z=>z.1.1).Nodup)(hg:∀z∈zs,Evs c (l9 N N) z.1.2 z.2)(C:EvC)(K:KCl):∀(u f j s:Nat),j+u=zs.length->u<f->s<=50000->
  (∃s':Nat,s'<=50000/\s'<=s+c*u/\a7f N (zs.map (·.1)) (zs.length:Int) K f (j:Int) C.g C.x C.lb C.fs (s:Int) C.a C.den C.up C.L C.T C.M ((zs.take j).map fun z=>(z.1.1,z.2))=K C.g C.x C.lb C.fs (s':Int) C.a C.den C.up C.L C.T C.M (zs.map fun z=>(z.1.1,z.2)))\/
  (50000<s+c*u/\∃s':Int,a7f N (zs.map (·.1)) (zs.length:Int) K f (j:Int) C.g C.x C.lb C.fs (s:Int) C.a C.den C.up C.L C.T C.M ((zs.take j).map fun z=>(z.1.1,z.2))=C.resC 16 s')
 |0,f,j,s,hj,hf,hs=>by
  obtain⟨f,rfl⟩:∃q,f=q+1:=⟨f-1,by omega⟩;obtain rfl:j=zs.length:=by omega
  refine .inl ⟨s,hs,by omega,?_⟩;show a5U _ _ _ _ _ _ _ _ _ _ _ _ _ _ _ _ _ _=_;unfold a5U;rw[Q5,g9,List.take_length]
 |u+1,f,j,s,hj,hf,hs=>by
  obtain⟨f,rfl⟩:∃q,f=q+1:=⟨f-1,by omega⟩;have h:j<zs.length:=by omega
  have hnew:zs[j].1.1∉((zs.take j).map fun z:AV=>(z.1.1,z.2)).map (·.1):=by
   have h1:(zs.take (j+1)).map (fun z:AV=>z.1.1)=(zs.take j).map (fun z:AV=>z.1.1) ++ [zs[j].1.1]:=by rw[List.take_succ_eq_append_getElem h,List.map_append];rfl
   have h2:((zs.take (j+1)).map fun z:AV=>z.1.1).Nodup:=by
    rw[List.map_take];exact hn.sublist (List.take_sublist _ _)
   rw[h1,List.nodup_append]at h2;rw[List.map_map];exact fun hm=>h2.2.2 _ hm _ (List.mem_singleton.2 rfl) rfl
  have stp:∀X,X=a5U N (zs.map (·.1)) (zs.length:Int) K (a7f N (zs.map (·.1)) (zs.length:Int) K f) (j:Int) C.g C.x C.lb C.fs (s:Int) C.a C.den C.up C.L C.T C.M ((zs.take j).map fun z=>(z.1.1,z.2))->X=a7f N (zs.map (·.1)) (zs.length:Int) K (f+1) (j:Int) C.g C.x C.lb C.fs (s:Int) C.a C.den C.up C.L C.T C.M ((zs.take j).map fun z=>(z.1.1,z.2)):=fun X e=>e
  have hmul:c*(u+1)=c*u+c:=Nat.mul_succ c u;rcases hg _ (List.getElem_mem h) C s hs with⟨s1,h1,h3,h2⟩|⟨h3,s1,h2⟩
  ·have h2:l9 N N zs[j].1.2 C.g C.x C.lb C.fs (s:Int) C.a C.den C.up C.L C.T C.M=C.res zs[j].2 0 s1:=h2;have hT:a5U N (zs.map (·.1)) (zs.length:Int) K (a7f N (zs.map (·.1)) (zs.length:Int) K f) (j:Int) C.g C.x C.lb C.fs (s:Int) C.a C.den C.up C.L C.T C.M ((zs.take j).map fun z=>(z.1.1,z.2))=a7f N (zs.map (·.1)) (zs.length:Int) K f ((j+1:Nat):Int) C.g C.x C.lb C.fs (s1:Int) C.a C.den C.up C.L C.T C.M ((zs.take (j+1)).map fun z=>(z.1.1,z.2)):=by
    unfold a5U;rw[L4 h,d9,m7 _ (by simpa using h),c8];simp only[List.getElem_map,GExpr.eta,h2];unfold EvC.res;rw[c8];simp only[bne_self_eq_false,g9,GValue.eta];rw[c2h hnew,a0C (m:=j+1) (by omega) (by omega),List.take_succ_eq_append_getElem h,List.map_append];rfl
   rw[<-stp _ rfl,hT];rcases b6i zs hz hn hg C K u f (j+1) s1 (by omega) (by omega) h1 with⟨s',e1,e2,e3⟩|⟨e1,e2⟩
   ·exact .inl ⟨s',e1,by omega,e3⟩
   ·exact .inr ⟨by omega,e2⟩
  ·have h2:l9 N N zs[j].1.2 C.g C.x C.lb C.fs (s:Int) C.a C.den C.up C.L C.T C.M=C.res a97 16 s1:=h2;refine .inr ⟨by omega,s1,?_⟩;rw[<-stp _ rfl];unfold a5U;rw[L4 h,d9,m7 _ (by simpa using h),c8];simp only[List.getElem_map,GExpr.eta,h2];unfold EvC.res;rw[c8];exact c8Z.trans rfl
theorem c1R{α:Type}{key:α->d3}{d l:List α}(hl:l.length<4611686018427387904)(hd:d.Pairwise fun a b=>key a<key b)(hp:l.Perm d):b1N key l=some d:=by
 have hnd:(d.map key).Nodup:=c4q hd;have hn:(l.map key).Nodup:=(hp.map _).nodup_iff.2 hnd;unfold b1N;rw[if_pos ⟨hl,hn⟩];congr 1;exact(a9L hn hp.symm (hd.imp fun h1 h2=>Q8 _ (a0M h1 h2))).symm
abbrev RT9:Type:=Option (Int×d3×d3×List (d3×d3)×X1×Int×Int×Int×a6x×TGT)
def a3y(p:a2I):Bool:=!(a2t p)
theorem c1B(hN:z7<=N){K:List a2I->RT9}{r:Int×d3×d3×List (d3×d3)×X1×Int×Int×Int×a6x×TGT}:∀(d:Nat) (m:List a2I) (n:Nat) (w:List a2I),m.length=d->d<n->w.length+d<=1000->(∀p∈m,a3y p=true->a0B p.2=0)->(∀w':List a2I,w'.Perm (w++m.filter a3y)->K w'=some r)->c8g N K n m w=some r:=by
 intro d;induction d with
 |zero=>
  intro m n w hm hn hw _ h;obtain⟨n,rfl⟩:∃q,n=q+1:=⟨n-1,by omega⟩;obtain rfl:m=[]:=List.eq_nil_of_length_eq_zero hm;show b1n _ _ _ _ _=_;unfold b1n;rw[List.isEmpty_nil,d9];exact h w (by simp)
 |succ d ih=>
  intro m n w hm hn hw hv h;obtain⟨n,rfl⟩:∃q,n=q+1:=⟨n-1,by omega⟩;have hne:m ≠ []:=fun e=>by rw[e]at hm;cases hm
  show b1n _ _ _ _ _=_;unfold b1n;rw[show m.isEmpty=false by cases m with|nil=>exact absurd rfl hne|cons _ _=>rfl,g9];refine c6h hne fun i hi=>?_
  have hq:(m.eraseIdx i).length=d:=by rw[List.length_eraseIdx_of_lt hi];omega
  have hp:(m[i] :: m.eraseIdx i).Perm m:=a8G m i hi;have hf:=hp.filter a3y;have hv':∀p∈m.eraseIdx i,a3y p=true->a0B p.2=0:=fun p hp2=>hv p (hp.subset (List.mem_cons_of_mem _ hp2))
  rw[List.filter_cons]at hf;cases hb:a3y m[i]with
  |true=>
   rw[hb,if_pos rfl]at hf;have hb2:(m[i].1==a00)=false/\(m[i].1==a1L)=false:=by
    unfold a3y a2t at hb;simpa [a00,a1L]using hb
   have hown:R7 N N m[i].2=some m[i].2:=f5A hN (f0j (hv _ (List.getElem_mem hi) hb));rw[show(m[i].1==([110,97,109,101]:d3))=false from hb2.1,show(m[i].1==([107,105,110,100]:d3))=false from hb2.2];simp only[Bool.not_false,d9,GValue.eta,hown,c8];rw[f0f (show w.length<=50000 by omega),d9];refine ih _ n _ hq (by omega) (by simp;omega) hv' fun w' hw'=>h w' (hw'.trans ?_)
   rw[List.append_assoc];exact List.Perm.append_left w hf
  |false=>
   rw[hb,if_neg (by simp)]at hf;have hrec:=ih (m.eraseIdx i) n w hq (by omega) (by omega) hv' fun w' hw'=>h w' (hw'.trans (List.Perm.append_left w hf))
   have hb2:(m[i].1==a00)=true\/(m[i].1==a1L)=true:=by
    unfold a3y a2t at hb;rw[Bool.not_eq_false']at hb;exact Bool.or_eq_true_iff.1 hb
   by_cases hk:(m[i].1==a00)=true
   ·rw[show(m[i].1==([110,97,109,101]:d3))=true from hk];simp only[Bool.not_true,g9];exact hrec
   ·have hk2:=hb2.resolve_left hk;rw[show(m[i].1==([110,97,109,101]:d3))=false from Bool.eq_false_iff.2 hk,show(m[i].1==([107,105,110,100]:d3))=true from hk2];simp only[Bool.not_true,Bool.not_false,d9,g9];exact hrec
def a3r(t:y7):List (d3×GValue):=(a00,tV t.1) :: (a1L,tV t.2.1) :: t.2.2
theorem c0Z{t:y7}(h:RT t):(a3r t).filter a3y=t.2.2:=by
 unfold a3r;rw[List.filter_cons,List.filter_cons];have e2:a3y (a1L,tV t.2.1)=false:=by
  unfold a3y a2t;rfl
 have e1:a3y (a00,tV t.1)=false:=by
  unfold a3y a2t;rfl
 rw[e1,e2];simp only[Bool.false_eq_true,if_false];refine List.filter_eq_self.2 fun a ha=>?_
 obtain⟨f1,f2⟩:=h.free a ha;unfold a3y a2t;rw[show(a.1==([110,97,109,101]:d3))=false from beq_false_of_ne f1,show(a.1==([107,105,110,100]:d3))=false from beq_false_of_ne f2];rfl
theorem c9O(hN:z7<=N){t:y7}(h:RT t)(he:S4 t=0)(hf:Fit a1Q t){g x:d3}{lb:List (d3×d3)}{fs:X1}{s a den:Int}{L:a6x}{T:TGT}(hT:T.length<500)(hnew:t.1∉T.map (·.1)):
  H2 N (a3r t) g x lb fs s a den L T=some (0,g,x,lb,fs,s,a,den,L,T ++ [(t.1,t)]):=by
 have m1:a0X (a3r t) ([110,97,109,101]:d3)=some (tV t.1):=rfl;have m2:a0X (a3r t) ([107,105,110,100]:d3)=some (tV t.2.1):=rfl;have hc:L8 N (t.1,t.2.1,t.2.2)=some 0:=by
  have:=a6t hN t hf (by have:=h.name;omega);rw[he]at this;exact this
 unfold H2;rw[m1,m2];simp only[Option.isSome_some,Bool.not_true,g9,Option.getD_some,show(tV t.1).kind=1 from rfl,show(tV t.2.1).kind=1 from rfl,show(tV t.1).text=t.1 from rfl,show(tV t.2.1).text=t.2.1 from rfl,bne_self_eq_false];rw[c9T hnew];simp only[Option.isSome_none,g9];refine c1B hN (a3r t).length (a3r t) N [] rfl (by unfold a3r;have:=h.few;unfold z7 at hN;simp;omega) (by unfold a3r;have:=h.few;simp;omega) (fun p hp hk=>?_) fun w' hw'=>?_
 ·unfold a3r at hp;rcases List.mem_cons.1 hp with rfl|hp
  ·have e:a3y (a00,tV t.1)=false:=rfl;rw[e]at hk;cases hk
  rcases List.mem_cons.1 hp with rfl|hp
  ·have e:a3y (a1L,tV t.2.1)=false:=rfl;rw[e]at hk;cases hk
  exact a4c he p hp
 ·rw[List.nil_append,c0Z h]at hw';have hs:N6 () w'=some t.2.2:=by
   unfold N6;exact c1R (by rw[hw'.length_eq];have:=h.few;omega) h.asc hw'
  rw[hs,c8,hc,c8,bne_self_eq_false,g9,decide_eq_false (by omega),g9,c2h hnew]
abbrev RS:Type:=Option (Int×d3×d3×List (d3×d3)×X1×Int×Int×Int×Bool×Bool×Option Unit×a6x×TGT×List (d3×Bool)×NMS)
structure GT(t:y7):Prop where
 rt:RT t
 ok:S4 t=0
 fit:Fit a1Q t
theorem c4p{t:y7}(h:RT t):((a3r t).map (·.1)).Nodup:=by
 unfold a3r;rw[List.map_cons,List.map_cons,List.nodup_cons,List.nodup_cons];have ha:(t.2.2.map (·.1)).Nodup:=c4q h.asc;refine⟨fun hm=>?_,fun hm=>?_,ha⟩
 ·rcases List.mem_cons.1 hm with e|hm
  ·exact absurd (show a00=a1L from e) (by decide)
  ·obtain⟨a,ha,e⟩:=List.mem_map.1 hm;exact(h.free a ha).1 e
 ·obtain⟨a,ha,e⟩:=List.mem_map.1 hm;exact(h.free a ha).2 e
theorem e0C(hN:z7<=N){k:Nat}{t:y7}(hk:(t.2.2=[]/\2<=k)\/2000000<=k)(h:GT t)(C:EvC)(hd:C.den=0)(hT:C.T.length<500)(hnew:t.1∉C.T.map (·.1))(b:Int)(s:Nat)(hs:s<=50000):
  (∃s':Nat,s'<=50000/\s'<=s+k/\G9 N (stA t b) C.g C.x C.lb C.fs (s:Int) C.a C.den C.up C.L C.T C.M=some (0,C.g,C.x,C.lb,C.fs,(s':Int),C.a,C.den,C.up,C.L,C.T ++ [(t.1,t)],C.M))\/
  (50000<s+k/\∃s':Int,G9 N (stA t b) C.g C.x C.lb C.fs (s:Int) C.a C.den C.up C.L C.T C.M=C.resC 16 s'):=by
 have r:=h.rt;obtain⟨c,hc,hck⟩:∃c:Nat,(t.2.2=[]/\c=1\/c=60000)/\c*(2+t.2.2.length)<=k:=by
  rcases hk with⟨h1,h2⟩|h2
  ·exact⟨1,.inl ⟨h1,rfl⟩,by rw[h1];simpa using h2⟩
  ·have:=r.few;have h3:60000*(2+t.2.2.length)<=60000*32:=Nat.mul_le_mul_left _ (by omega);exact⟨60000,.inr rfl,by omega⟩
 have hz:∀z∈(([((a00,R1 t.1),tV t.1),((a1L,R1 t.2.1),tV t.2.1)]++t.2.2.map fun a=>(b2Q a,a.2)):List AV),Evs c (l9 N N) z.1.2 z.2:=fun z hz=>by
  have hc1:1<=c:=by rcases hc with⟨_,rfl⟩|rfl<;>omega
  rcases List.mem_append.1 hz with hz|hz
  ·simp only[List.mem_cons,List.mem_nil_iff,or_false]at hz;rcases hz with rfl|rfl
   ·exact(d3A hN (by have:=r.name;show t.1.length<=_;omega) r.text).up hc1
   ·exact(d3A hN (by have:=W0 r.kind;show t.2.1.length<=_;omega) (b6z r.kind)).up hc1
  ·obtain⟨a,ha,rfl⟩:=List.mem_map.1 hz;rcases hc with⟨hc,_⟩|rfl
   ·rw[hc]at ha;cases ha
   ·exact f5I hN (r.attrs a ha).2 (a4c h.ok a ha) ((h.fit.2.2.2 a ha).2)
 obtain⟨zs,hzs⟩:∃zs,zs=(([((a00,R1 t.1),tV t.1),((a1L,R1 t.2.1),tV t.2.1)]++t.2.2.map fun a=>(b2Q a,a.2)):List AV):=⟨_,rfl⟩;have e1:zs.map (·.1)=X2 t:=by rw[hzs];unfold X2;rw[List.map_append,List.map_map];rfl
 have e2:zs.map (fun z=>(z.1.1,z.2))=a3r t:=by
  rw[hzs];unfold a3r;rw[List.map_append,List.map_map];show _ :: _ :: _=_;congr 2;exact(List.map_congr_left fun _ _=>rfl).trans (List.map_id _)
 have e3:(zs.map fun z=>z.1.1)=(a3r t).map (·.1):=by rw[<-e2,List.map_map];rfl
 have e4:zs.length=(X2 t).length:=by rw[<-e1,List.length_map]
 rw[<-hzs]at hz;have hlk:c*zs.length<=k:=by
  have e:zs.length=2+t.2.2.length:=by rw[hzs];simp;omega
  rw[e];exact hck
 have hl:zs.length<=1000:=by rw[hzs];have:=r.few;simp;omega
 have key:=b6i (N:=N) zs hl (by rw[e3];exact c4p r) hz C (fun o0_0_0 o0_0_1 o0_0_2 o0_0_3 o0_0_4 o0_0_5 o0_0_6 o0_1_0 o0_m2 o0_m3 o0_m4 o0_m1034=>
     br (true)
      (k8 (H2 N o0_m1034 o0_0_0 o0_0_1 o0_0_2 o0_0_3 o0_0_4 o0_0_5 o0_0_6 o0_m2 o0_m3) fun t63=>
      some (t63.1,t63.2.1,t63.2.2.1,t63.2.2.2.1,t63.2.2.2.2.1,t63.2.2.2.2.2.1,t63.2.2.2.2.2.2.1,t63.2.2.2.2.2.2.2.1,o0_1_0,t63.2.2.2.2.2.2.2.2.1,t63.2.2.2.2.2.2.2.2.2,o0_m4))
      none) zs.length N 0 s (by omega) (by unfold z7 at hN;omega) hs
 rw[e1,e2,e4,List.take_zero,List.map_nil]at key;rw[e4]at hlk;have hcall:∀X,a7f N (X2 t) ((X2 t).length:Int) (fun o0_0_0 o0_0_1 o0_0_2 o0_0_3 o0_0_4 o0_0_5 o0_0_6 o0_1_0 o0_m2 o0_m3 o0_m4 o0_m1034=>
     br (true)
      (k8 (H2 N o0_m1034 o0_0_0 o0_0_1 o0_0_2 o0_0_3 o0_0_4 o0_0_5 o0_0_6 o0_m2 o0_m3) fun t63=>
      some (t63.1,t63.2.1,t63.2.2.1,t63.2.2.2.1,t63.2.2.2.2.1,t63.2.2.2.2.2.1,t63.2.2.2.2.2.2.1,t63.2.2.2.2.2.2.2.1,o0_1_0,t63.2.2.2.2.2.2.2.2.1,t63.2.2.2.2.2.2.2.2.2,o0_m4))
      none) N ((0:Nat):Int) C.g C.x C.lb C.fs (s:Int) C.a C.den C.up C.L C.T C.M []=X->G9 N (stA t b) C.g C.x C.lb C.fs (s:Int) C.a C.den C.up C.L C.T C.M=X:=fun X hX=>by
  unfold G9 stA;simp only[b8R,a4Z];rw[show(a0H==([116,97,114,103,101,116]:d3))=true by decide,d9,hd,decide_eq_false (by decide),g9];rw[hd]at hX;exact hX
 rcases key with⟨s',g1,g3,g2⟩|⟨g3,s',g2⟩
 ·refine .inl ⟨s',g1,by omega,hcall _ (g2.trans ?_)⟩;simp only[d9];rw[c9O hN r h.ok h.fit hT hnew,c8]
 ·exact .inr ⟨by omega,s',hcall _ g2⟩
end
section
variable{N:Nat}
theorem d4o:∀t:d3,(rpE t).length<=2*t.length
 |[]=>by simp[rpE]
 |c :: t=>by
  have ih:=d4o t;have e:rpE (c :: t)=rpF c++rpE t:=by unfold rpE;rw[List.flatMap_cons]
  have h1:=b2g c;have h2:(if a8a c=true then 1 else 0)<=1:=by split<;>omega
  rw[e,List.length_append,List.length_cons];omega
theorem b0w(t:d3):(rpQ t).length<=2*t.length+2:=by
 have:=d4o t;unfold rpQ;simp only[List.length_append,List.length_cons,List.length_nil];omega
theorem b2a{α:Type}(f:α->d3)(g:α->Nat)(c d:UInt8):∀(l:List α),(∀x∈l,(f x).length+2<=g x)->(Lib.join (l.map f) [c,d]).length<=(l.map g).sum
 |[],_=>by simp[Lib.join]
 |[x],h=>by
  have:=h x (by simp);rw[List.map_cons,List.map_nil,Lib.join_one,List.map_cons,List.map_nil,List.sum_cons,List.sum_nil];omega
 |x :: y :: r,h=>by
  have h1:=h x (by simp);have ih:=b2a f g c d (y :: r) fun z hz=>h z (List.mem_cons_of_mem _ hz)
  simp only[List.map_cons,List.sum_cons]at ih ⊢;rw[a8L,List.length_append,List.length_append];simp only[List.length_cons,List.length_nil];omega
end
section
variable{N:Nat}
theorem d3F{α:Type}(x:α):n8 [x] 0=some x:=rfl
theorem f0J(hN:z7<=N)(l:List a2I)(hl:l.length<=30)(hv:∀a∈l,RV a.2)(w0:List Ag)(h0:w0.length<=100)(K:List Ag->Option (d3×Int)):b4y N l (l.length:Int) K N 0 w0=K (w0++l.map b2Q):=by
 have hx:l.length<=maxLen:=by unfold maxLen;omega
 refine S9 hN (f:=fun n i w=>b4y N l (l.length:Int) K n i w) (T:=fun self i w=>a5G N l (l.length:Int) K self i w) (fun _ _ _=>rfl) l hx b2Q w0 (K:=K) (fun self i h w hw=>?_) (fun self w=>?_)
 ·show a5G _ _ _ _ _ _ _=_;unfold a5G;rw[L4 h,d9,m7 _ h,c8];simp only[GValue.eta,f6p hN (hv _ (List.getElem_mem h)),c8,GExpr.eta,e5R (show w.length<=50000 by omega),d9,Y5 hx h];rfl
 ·show a5G _ _ _ _ _ _ _=_;unfold a5G;rw[Q5,g9]
theorem f0A(hN:z7<=N)(l:List a2I)(hl:l.length<=30)(hv:∀a∈l,RV a.2)(w0:List Ag)(h0:w0.length<=100)(K:List Ag->Option (d3×Int)):b4P N l (l.length:Int) K N 0 w0=K (w0++l.map b2Q):=by
 have hx:l.length<=maxLen:=by unfold maxLen;omega
 refine S9 hN (f:=fun n i w=>b4P N l (l.length:Int) K n i w) (T:=fun self i w=>a5M N l (l.length:Int) K self i w) (fun _ _ _=>rfl) l hx b2Q w0 (K:=K) (fun self i h w hw=>?_) (fun self w=>?_)
 ·show a5M _ _ _ _ _ _ _=_;unfold a5M;rw[L4 h,d9,m7 _ h,c8];simp only[GValue.eta,f6l hN (hv _ (List.getElem_mem h)),c8,GExpr.eta,e5R (show w.length<=50000 by omega),d9,Y5 hx h];rfl
 ·show a5M _ _ _ _ _ _ _=_;unfold a5M;rw[Q5,g9]
theorem d4A(hN:z7<=N)(l:List y7)(hl:l.length<=500)(ht:∀t∈l,RT t)(K:List GStmt->Option (d3×Int)):b4w N l (l.length:Int) K N 0 []=K (l.map stT):=by
 have hx:l.length<=maxLen:=by unfold maxLen;omega
 have:=S9 hN (f:=fun n i w=>b4w N l (l.length:Int) K n i w) (T:=fun self i w=>a5F N l (l.length:Int) K self i w) (fun _ _ _=>rfl) l hx stT [] (K:=K) (fun self i h w hw=>?_) (fun self w=>?_)
 ·simpa using this
 ·show a5F _ _ _ _ _ _ _=_;have r:=ht _ (List.getElem_mem h);have hA:=fun(w0:List Ag) (h0:w0.length<=100) K=>f0J hN l[i].2.2 r.few (fun a ha=>(r.attrs a ha).2) w0 h0 K
  simp only[List.length_nil,Nat.zero_add]at hw;unfold a5F o6 y8;rw[L4 h,d9,m7 _ h,c8];simp only[c8,GExpr.eta,N7,K7];rw[hA _ (by simp)];simp only[e5S (show w.length<=50000 by omega),d9,Y5 hx h,F4,Q1,G3,O3,C6];rfl
 ·show a5F _ _ _ _ _ _ _=_;unfold a5F o6;rw[Q5,g9]
theorem d4d(hN:z7<=N)(l:List y7)(hl:l.length<=500)(ht:∀t∈l,RT t)(K:List GStmt->Option (d3×Int)):b4N N l (l.length:Int) K N 0 []=K (l.map stT):=by
 have hx:l.length<=maxLen:=by unfold maxLen;omega
 have:=S9 hN (f:=fun n i w=>b4N N l (l.length:Int) K n i w) (T:=fun self i w=>a5L N l (l.length:Int) K self i w) (fun _ _ _=>rfl) l hx stT [] (K:=K) (fun self i h w hw=>?_) (fun self w=>?_)
 ·simpa using this
 ·show a5L _ _ _ _ _ _ _=_;have r:=ht _ (List.getElem_mem h);have hA:=fun(w0:List Ag) (h0:w0.length<=100) K=>f0A hN l[i].2.2 r.few (fun a ha=>(r.attrs a ha).2) w0 h0 K
  have t1:∀s:d3,F3 N [s]=some [R1 s]:=fun s=>d4e hN [s] (by simp)
  simp only[List.length_nil,Nat.zero_add]at hw;unfold a5L P7 o9;rw[L4 h,d9,m7 _ h,c8];simp only[t1,c8,d3F,GExpr.eta,N7,K7];rw[hA _ (by simp)];simp only[e5S (show w.length<=50000 by omega),d9,Y5 hx h];rfl
 ·show a5L _ _ _ _ _ _ _=_;unfold a5L P7 o9;rw[Q5,g9]
theorem c6q{R:Type}(x:Option R):(k8 x fun t=>some t)=x:=by cases x<;>simp
theorem d4B(hN:z7<=N){p:O2}(hc:K8 N p=some 0)(hl:p.2.length<=500)(ht:∀t∈p.2,RT t):R8 N p=U2 N (H6 p):=by
 unfold R8;rw[hc,c8,bne_self_eq_false,g9,d4A hN p.2 hl ht];exact c6q _
theorem d4f(hN:z7<=N){p:O2}(hc:O5 N p=some 0)(hl:p.2.length<=500)(ht:∀t∈p.2,RT t):X5 N p=a5k N (H6 p):=by
 unfold X5;rw[hc,c8,bne_self_eq_false,g9,d4d hN p.2 hl ht];exact c6q _
theorem e1m{p:O2}(ht:∀t∈p.2,RT t):∀s∈H6 p,WS 1 0 s:=fun s hs=>by
 obtain⟨t,h,rfl⟩:=List.mem_map.1 hs;exact c9S (ht t h)
def a3E(c:UInt8)(new:d3)(b:UInt8):d3:=if b=c then new else [b]
theorem a9D(c:UInt8)(new:d3):∀s:d3,Lib.replaceK [c] new (Lib.count s [c]) s=s.flatMap (a3E c new)
 |[]=>by rw[Lib.count_one];rfl
 |b :: s=>by
  have ih:=a9D c new s;rw[List.flatMap_cons];by_cases hb:b=c
  ·subst hb;rw[Lib.count_cons_eq,Nat.add_comm,Lib.replaceK,Lib.index_one,a1G];simp only[if_true];show new++Lib.replaceK [b] new (Lib.count s [b]) s=_;rw[ih];simp[a3E]
  ·rw[Lib.count_cons_ne _ _ _ hb];have e0:a3E c new b=[b]:=if_neg hb;rw[e0,<-ih];cases hk:Lib.count s [c]with
   |zero=>simp[Lib.replaceK]
   |succ k=>
    rw[Lib.replaceK,Lib.replaceK,Lib.index_one,Lib.index_one,a1G,if_neg hb];have h0:=Lib.indexByte_ge s c;by_cases h1:Lib.indexByte s c = -1
    ·simp[h1]
    ·have h2:∃n:Nat,Lib.indexByte s c=n:=⟨(Lib.indexByte s c).toNat,by omega⟩;obtain⟨n,hn⟩:=h2;have e:((n:Int)+1).toNat=n+1:=by omega
     have e1:¬((n:Int) = -1):=by omega
     have e2:¬((n:Int)+1 = -1):=by omega
     simp[hn,e,e1,e2,Nat.add_right_comm]
theorem b3E{c:UInt8}{new:d3}(h:new.length=2)(s:d3):Lib.replaceAll s [c] new=s.flatMap (a3E c new):=by
 unfold Lib.replaceAll Lib.replace Lib.replaceNum;rw[if_neg (fun e=>by have:=eq_of_beq e;rw[<-this]at h;simp at h),if_pos (.inl (by decide))];exact a9D c new s
theorem c1G:∀s:d3,((s.flatMap (a3E 92 [92,92])).flatMap (a3E 34 [92,34])).flatMap (a3E 10 [92,110])=rpE s
 |[]=>rfl
 |b :: s=>by
  have ih:=c1G s;have e:rpE (b :: s)=rpF b++rpE s:=by unfold rpE;rw[List.flatMap_cons]
  rw[List.flatMap_cons,List.flatMap_append,List.flatMap_append,ih,e];congr 1;unfold rpF;by_cases h1:b=10
  ·subst h1;decide
  by_cases h2:b=34
  ·subst h2;decide
  by_cases h3:b=92
  ·subst h3;decide
  simp[a3E,h1,h2,h3]
theorem a9r{c:UInt8}{new:d3}(h:new.length=2):∀s:d3,(s.flatMap (a3E c new)).length<=2*s.length
 |[]=>by simp
 |b :: s=>by
  have:=a9r (c:=c) h s;rw[List.flatMap_cons,List.length_append,List.length_cons];have:(a3E c new b).length<=2:=by unfold a3E;split<;>simp[h]
  omega
theorem c6J{s:d3}(h:s.length<=1000):a1s N s=some (rpQ s):=by
 have l1:=a9r (c:=92) (new:=[92,92]) rfl s;have l2:=a9r (c:=34) (new:=[92,34]) rfl (s.flatMap (a3E 92 [92,92]));have l3:=a9r (c:=10) (new:=[92,110]) rfl ((s.flatMap (a3E 92 [92,92])).flatMap (a3E 34 [92,34]));have r:∀(c:UInt8) (new:d3),new.length=2->∀u:d3,u.length<=1000000->strings_ReplaceAll u [c] new=some (u.flatMap (a3E c new)):=fun c new hn u hu=>by
  unfold strings_ReplaceAll;rw[if_pos ⟨hu,Nat.le_refl 1,by omega⟩,b3E hn]
 unfold a1s;rw[r 92 _ rfl s (by omega),c8,r 34 _ rfl _ (by omega),c8,r 10 _ rfl _ (by omega),c8];rw[c1G]at l3 ⊢;rw[decide_eq_true (by simp;omega),d9,decide_eq_true (by simp;omega),d9];rfl
theorem a2r{n m:Nat}{i:Decidable (n+m<=9223372036854775807)}(h:n+m<=4000000000000000000):@decide _ i=true:=@decide_eq_true _ i (by omega)
theorem e3z{r:GExpr->Option d3}{k n:Int}{t:d3}{ks:List d3}{es:List GExpr}(h7:(k==7)=false)(h8:(k==8)=false){i:Nat}(h:i<es.length){s:d3}(hr:r es[i]=some s):a7v N r (.mk k t n ks es) (i:Int)=some s:=by
 unfold a7v W5;simp only[F4,Q1,G3,O3,C6,m7 _ h,c8,h7,h8,g9,hr]
theorem e3y(hN:z7<=N){r:GExpr->Option d3}{k n:Int}{t:d3}(K:List d3->Option d3):b0S N r ((([]:List GExpr).length:Nat):Int) k t n [] [] K N 0 []=K []:=by
 obtain⟨f,rfl,_⟩:=c0z hN;show a0k _ _ _ _ _ _ _ _ _ _ _ _=_;unfold a0k;rw[show decide ((0:Int)<((([]:List GExpr).length:Nat):Int))=false by simp,g9]
theorem rTx(hN:z7<=N)(r:GExpr->Option d3){s:d3}(h:s.length<=1000):E4 N r (R1 s)=some (rpQ s):=by
 unfold E4 R1;simp only[F4,Q1,G3,O3,C6];rw[e3y hN];simp only[show((1:Int)==1)=true by decide,d9,c6J h,c8]
theorem b6u{v:GValue}(h:RV0 v):(prE (vE0 v)).length<=2200000:=by
 rcases h with⟨t,h1,_,rfl⟩|⟨n,h1,rfl⟩|⟨l,h1,h2,rfl⟩
 ·rw[c16];unfold R1;rw[a8h];have:=b0w t;omega
 ·rw[c2a,c6F];have:Lib.itoa (n:Int)=Lib.decDigits n:=by unfold Lib.itoa;rw[if_neg (by omega)];simp
  rw[this];have:=b8L 8 n (by omega);omega
 ·rw[c2b,c6G,List.map_map];have a:=b2a (prE∘R1) (fun _=>2010) 44 32 l fun x hx=>by
   show(prE (R1 x)).length+2<=_;unfold R1;rw[a8h];have:=b0w x;have:=(h2 x hx).1;omega
  have b:=a9M (fun _:d3=>2010) 2010 l fun _ _=>Nat.le_refl _
  rw[List.length_append,List.length_append];simp only[List.length_cons,List.length_nil];have c:2010*l.length<=2010*1000:=Nat.mul_le_mul_left _ h1;omega
theorem d3R{v:GValue}(h:RV v):(prE (vE v)).length<=120000000:=by
 rcases h with h|⟨cs,h1,h2,h3,rfl⟩
 ·rw[b9C h];have:=b6u h;omega
 ·rw[c5l,c6H,a5Y];have e:((cs.map (·.1)).zip (cs.map fun c=>vE0 c.2)).map (fun z:d3×GExpr=>rpQ z.1 ++ [58,32]++prE z.2)=cs.map fun c=>rpQ c.1 ++ [58,32]++prE (vE0 c.2):=by
   rw[List.zip_map',List.map_map];rfl
  have a:=b2a (fun c:T8=>rpQ c.1 ++ [58,32]++prE (vE0 c.2)) (fun _=>2210000) 44 32 cs fun x hx=>by
   have:=b0w x.1;have:=(h3 x hx).1;have:=b6u (h3 x hx).2.2;rw[List.length_append,List.length_append];simp only[List.length_cons,List.length_nil];omega
  have b:=a9M (fun _:T8=>2210000) 2210000 cs fun _ _=>Nat.le_refl _
  have c:2210000*cs.length<=2210000*50:=Nat.mul_le_mul_left _ h2;rw[List.length_append,List.length_append,e];simp only[List.length_cons,List.length_nil];omega
end
section
variable{N:Nat}
theorem d4c(hN:z7<=N)(d:Nat){v:GValue}(h:RV0 v):s9 N (d+2) (vE0 v)=some (prE (vE0 v)):=by
 have hl:=b6u h;show E4 N (s9 N (d+1)) _=_;rcases h with⟨t,h1,_,rfl⟩|⟨n,h1,rfl⟩|⟨l,h1,h2,rfl⟩
 ·rw[c16,rTx hN _ h1];unfold R1;rw[a8h]
 ·rw[c2a,c6F];unfold E4;simp only[F4,Q1,G3,O3,C6];rw[e3y hN];unfold strconv_Itoa;simp only[show((2:Int)==1)=false by decide,show((2:Int)==2)=true by decide,d9,g9];rw[if_pos ⟨by omega,by omega⟩,c8]
 ·rw[c2b,c6G]at hl ⊢;have hx:(l.map R1).length<=maxLen:=by rw[List.length_map];unfold maxLen;omega
  unfold E4;simp only[F4,Q1,G3,O3,C6];have hL:=fun K=>S9 hN (f:=fun n i w=>b0S N (s9 N (d+1)) ((l.map R1).length:Int) 4 [] 0 [] (l.map R1) K n i w) (T:=fun self i w=>a0k N (s9 N (d+1)) ((l.map R1).length:Int) 4 [] 0 [] (l.map R1) K self i w) (fun _ _ _=>rfl) (l.map R1) hx prE [] (K:=K) (fun self i h w hw=>by
   show a0k _ _ _ _ _ _ _ _ _ _ _ _=_;have hi:i<l.length:=by simpa using h
   have e0:s9 N (d+1) (l.map R1)[i]=some (prE (l.map R1)[i]):=by
    rw[List.getElem_map];show E4 N (s9 N d) _=_;rw[rTx hN _ (h2 _ (List.getElem_mem hi)).1];unfold R1;rw[a8h]
   simp only[List.length_nil,Nat.zero_add]at hw;unfold a0k;rw[L4 h,d9,e3z (by decide) (by decide) h e0,c8,show((4:Int)==6)=false by decide,g9,b5U (by rw[List.length_map]at h;omega),d9,Y5 hx h]) (fun self w=>by
   show a0k _ _ _ _ _ _ _ _ _ _ _ _=_;unfold a0k;rw[Q5,g9])
  rw[List.length_append,List.length_append]at hl;simp only[List.length_cons,List.length_nil]at hl;refine(hL _).trans ?_;simp only[show((4:Int)==1)=false by decide,show((4:Int)==2)=false by decide,show((4:Int)==3)=false by decide,show((4:Int)==4)=true by decide,d9,g9,List.nil_append];rw[a3m (by omega) (by rw[List.length_map,List.length_map];omega),c8,a2r (by simp only[List.length_append,List.length_cons,List.length_nil];omega),d9,a2r (by simp only[List.length_append,List.length_cons,List.length_nil];omega),d9]
theorem f0B(hN:z7<=N){v:GValue}(h:RV v):s9 N N (vE v)=some (prE (vE v)):=by
 obtain⟨d,hd⟩:∃d,N=d+3:=⟨N-3,by unfold z7 at hN;omega⟩;have e:s9 N N (vE v)=E4 N (s9 N (d+2)) (vE v):=by
  conv=>lhs;arg 2;rw[hd]
  rfl
 have hl:=d3R h;rcases h with h|⟨cs,h1,h2,h3,rfl⟩
 ·rw[b9C h]
  conv=>lhs;arg 2;rw[hd]
  exact d4c hN (d+1) h
 ·rw[e];rw[c5l,c6H,a5Y]at hl ⊢;have ez:((cs.map (·.1)).zip (cs.map fun c=>vE0 c.2)).map (fun z:d3×GExpr=>rpQ z.1 ++ [58,32]++prE z.2)=cs.map fun c=>rpQ c.1 ++ [58,32]++prE (vE0 c.2):=by
   rw[List.zip_map',List.map_map];rfl
  rw[ez]at hl ⊢;have hx:cs.length<=maxLen:=by unfold maxLen;omega
  unfold E4;simp only[F4,Q1,G3,O3,C6];have hL:=fun K=>S9 hN (f:=fun n i w=>b0S N (s9 N (d+2)) ((cs.map fun c=>vE0 c.2).length:Int) 6 [] 0 (cs.map (·.1)) (cs.map fun c=>vE0 c.2) K n i w) (T:=fun self i w=>a0k N (s9 N (d+2)) ((cs.map fun c=>vE0 c.2).length:Int) 6 [] 0 (cs.map (·.1)) (cs.map fun c=>vE0 c.2) K self i w) (fun _ _ _=>rfl) cs hx (fun c=>rpQ c.1 ++ [58,32]++prE (vE0 c.2)) [] (K:=K) (fun self i h w hw=>by
   show a0k _ _ _ _ _ _ _ _ _ _ _ _=_;have hk:i<(cs.map fun c=>vE0 c.2).length:=by simpa using h
   have hq:i<(cs.map (·.1)).length:=by simpa using h
   have hc:=h3 _ (List.getElem_mem h);have e0:s9 N (d+2) (cs.map fun c=>vE0 c.2)[i]=some (prE (vE0 cs[i].2)):=by
    rw[List.getElem_map];exact d4c hN d hc.2.2
   have l0:=b6u hc.2.2;have l1:=b0w cs[i].1;simp only[List.length_nil,Nat.zero_add]at hw;unfold a0k;rw[L4 hk,d9,e3z (by decide) (by decide) hk e0,c8,show((6:Int)==6)=true by decide,d9,m7 _ hq,List.getElem_map,c8,c6J hc.1,c8];rw[a2r (by simp;omega),d9,a2r (by simp;omega),d9,b5U (by omega),d9,Y5 hx h]) (fun self w=>by
   show a0k _ _ _ _ _ _ _ _ _ _ _ _=_;unfold a0k;rw[List.length_map,Q5,g9])
  rw[List.length_append,List.length_append]at hl;simp only[List.length_cons,List.length_nil]at hl;refine(hL _).trans ?_;simp only[show((6:Int)==1)=false by decide,show((6:Int)==2)=false by decide,show((6:Int)==3)=false by decide,show((6:Int)==4)=false by decide,show((6:Int)==5)=false by decide,show((6:Int)==6)=true by decide,d9,g9,List.nil_append];rw[a3m (by omega) (by rw[List.length_map];omega),c8,a2r (by simp only[List.length_append,List.length_cons,List.length_nil];omega),d9,a2r (by simp only[List.length_append,List.length_cons,List.length_nil];omega),d9]
theorem c6N{s:d3}(h:s.length<=1000):J2 s=some (rpQ s):=by
 unfold J2;rw[if_pos (by omega)]
theorem sTx(r:GExpr->Option d3){s:d3}(h:s.length<=1000):H7 N r (R1 s)=some (rpQ s):=by
 unfold H7 R1;simp only[F4,Q1,show((1:Int)==1)=true by decide,d9,c6N h,c8]
theorem d4z(hN:z7<=N)(d:Nat){v:GValue}(h:RV0 v):w8 N (d+2) (vE0 v)=some (prE (vE0 v)):=by
 have hl:=b6u h;show H7 N (w8 N (d+1)) _=_;rcases h with⟨t,h1,_,rfl⟩|⟨n,h1,rfl⟩|⟨l,h1,h2,rfl⟩
 ·rw[c16,sTx _ h1];unfold R1;rw[a8h]
 ·rw[c2a,c6F];unfold H7;simp only[F4,G3];unfold strconv_Itoa;simp only[show((2:Int)==1)=false by decide,show((2:Int)==2)=true by decide,d9,g9];rw[if_pos ⟨by omega,by omega⟩,c8]
 ·rw[c2b,c6G]at hl ⊢;have hx:(l.map R1).length<=maxLen:=by rw[List.length_map];unfold maxLen;omega
  have hL:=fun K=>S9 hN (f:=fun n i w=>b96 N (w8 N (d+1)) (l.map R1) ((l.map R1).length:Int) K n i w) (T:=fun self i w=>a5R N (w8 N (d+1)) (l.map R1) ((l.map R1).length:Int) K self i w) (fun _ _ _=>rfl) (l.map R1) hx prE [] (K:=K) (fun self i h w hw=>by
   show a5R _ _ _ _ _ _ _ _=_;have hi:i<l.length:=by simpa using h
   have e0:w8 N (d+1) (l.map R1)[i]=some (prE (l.map R1)[i]):=by
    rw[List.getElem_map];show H7 N (w8 N d) _=_;rw[sTx _ (h2 _ (List.getElem_mem hi)).1];unfold R1;rw[a8h]
   simp only[List.length_nil,Nat.zero_add]at hw;unfold a5R;rw[L4 h,d9,m7 _ h,c8,GExpr.eta,e0,c8,b5U (by rw[List.length_map]at h;omega),d9,Y5 hx h]) (fun self w=>by
   show a5R _ _ _ _ _ _ _ _=_;unfold a5R;rw[Q5,g9])
  rw[List.length_append,List.length_append]at hl;simp only[List.length_cons,List.length_nil]at hl;unfold H7 a3e;simp only[F4,C6,show((4:Int)==1)=false by decide,show((4:Int)==2)=false by decide,show((4:Int)==3)=false by decide,show((4:Int)==4)=true by decide,d9,g9];rw[hL,List.nil_append,a3m (by omega) (by rw[List.length_map,List.length_map];omega),c8,c8,a2r (by simp only[List.length_append,List.length_cons,List.length_nil];omega),d9,a2r (by simp only[List.length_append,List.length_cons,List.length_nil];omega),d9]
theorem f0K(hN:z7<=N){v:GValue}(h:RV v):w8 N N (vE v)=some (prE (vE v)):=by
 obtain⟨d,hd⟩:∃d,N=d+3:=⟨N-3,by unfold z7 at hN;omega⟩;have e:w8 N N (vE v)=H7 N (w8 N (d+2)) (vE v):=by
  conv=>lhs;arg 2;rw[hd]
  rfl
 have hl:=d3R h;rcases h with h|⟨cs,h1,h2,h3,rfl⟩
 ·rw[b9C h]
  conv=>lhs;arg 2;rw[hd]
  exact d4z hN (d+1) h
 ·rw[e];rw[c5l,c6H,a5Y]at hl ⊢;have ez:((cs.map (·.1)).zip (cs.map fun c=>vE0 c.2)).map (fun z:d3×GExpr=>rpQ z.1 ++ [58,32]++prE z.2)=cs.map fun c=>rpQ c.1 ++ [58,32]++prE (vE0 c.2):=by
   rw[List.zip_map',List.map_map];rfl
  rw[ez]at hl ⊢;have hx:cs.length<=maxLen:=by unfold maxLen;omega
  have hL:=fun K=>S9 hN (f:=fun n i w=>b9V N (w8 N (d+2)) (.mk 6 [] 0 (cs.map (·.1)) (cs.map fun c=>vE0 c.2)) (cs.map (·.1)) ((cs.map (·.1)).length:Int) K n i w) (T:=fun self i w=>a5J N (w8 N (d+2)) (.mk 6 [] 0 (cs.map (·.1)) (cs.map fun c=>vE0 c.2)) (cs.map (·.1)) ((cs.map (·.1)).length:Int) K self i w) (fun _ _ _=>rfl) cs hx (fun c=>rpQ c.1 ++ [58,32]++prE (vE0 c.2)) [] (K:=K) (fun self i h w hw=>by
   show a5J _ _ _ _ _ _ _ _ _=_;have hk:i<(cs.map fun c=>vE0 c.2).length:=by simpa using h
   have hq:i<(cs.map (·.1)).length:=by simpa using h
   have hc:=h3 _ (List.getElem_mem h);have e0:w8 N (d+2) (vE0 cs[i].2)=some (prE (vE0 cs[i].2)):=d4z hN d hc.2.2;have l0:=b6u hc.2.2;have l1:=b0w cs[i].1;simp only[List.length_nil,Nat.zero_add]at hw;unfold a5J;simp only[C6];rw[L4 hq,d9,m7 _ hq,c8,m7 _ hk,c8,List.getElem_map,List.getElem_map,c6N hc.1,c8];rw[a2r (by simp;omega),d9,e0,c8,a2r (by simp;omega),d9,b5U (by omega),d9,Y5 hx h]) (fun self w=>by
   show a5J _ _ _ _ _ _ _ _ _=_;unfold a5J;rw[List.length_map,Q5,g9])
  rw[List.length_append,List.length_append]at hl;simp only[List.length_cons,List.length_nil]at hl;unfold H7;simp only[F4,Q1,G3,O3,C6,show((6:Int)==1)=false by decide,show((6:Int)==2)=false by decide,show((6:Int)==3)=false by decide,show((6:Int)==4)=false by decide,show((6:Int)==5)=false by decide,show((6:Int)==7)=false by decide,show((6:Int)==8)=false by decide,g9];refine(hL _).trans ?_;rw[List.nil_append,a3m (by omega) (by rw[List.length_map];omega),c8,a2r (by simp only[List.length_append,List.length_cons,List.length_nil];omega),d9,a2r (by simp only[List.length_append,List.length_cons,List.length_nil];omega),d9]
def RA(c:Ag):Prop:=c.1.length<=40/\(prE c.2).length<=120000000/\∀N,z7<=N->s9 N N c.2=some (prE c.2)/\w8 N N c.2=some (prE c.2)
theorem f0C(hN:z7<=N){s:d3}(h:s.length<=1000):s9 N N (R1 s)=some (prE (R1 s))/\w8 N N (R1 s)=some (prE (R1 s)):=by
 obtain⟨d,hd⟩:∃d,N=d+1:=⟨N-1,by unfold z7 at hN;omega⟩;have e:s9 N N (R1 s)=E4 N (s9 N d) (R1 s):=by
  conv=>lhs;arg 2;rw[hd]
  rfl
 have e':w8 N N (R1 s)=H7 N (w8 N d) (R1 s):=by
  conv=>lhs;arg 2;rw[hd]
  rfl
 rw[e,e',rTx hN _ h,sTx _ h];unfold R1;rw[a8h];exact⟨rfl,rfl⟩
theorem d4Q{s:d3}(h:s.length<=1000):(prE (R1 s)).length<=120000000:=by
 unfold R1;rw[a8h];have:=b0w s;omega
theorem b6I{t:y7}(h:RT t):(X2 t).length<=32/\∀c∈X2 t,RA c:=by
 refine⟨by unfold X2;have:=h.few;simp;omega,fun c hc=>?_⟩;unfold X2 at hc;rcases List.mem_append.1 hc with hc|hc
 ·simp only[List.mem_cons,List.mem_nil_iff,or_false]at hc;have h1:=h.name;have h2:=W0 h.kind;rcases hc with rfl|rfl
  ·exact⟨(by decide:a00.length<=40),d4Q (by omega),fun N hN=>f0C hN (by omega)⟩
  ·exact⟨(by decide:a1L.length<=40),d4Q (by omega),fun N hN=>f0C hN (by omega)⟩
 ·obtain⟨a,hb,rfl⟩:=List.mem_map.1 hc;exact⟨W0 (h.attrs a hb).1,d3R (h.attrs a hb).2,fun N hN=>⟨f0B hN (h.attrs a hb).2,f0K hN (h.attrs a hb).2⟩⟩
theorem c0w{l:List Ag}(h1:l.length<=32)(h2:∀c∈l,RA c):(Lib.join (l.map (a74 prE)) [44,32]).length<=4000000000:=by
 have a:=b2a (a74 prE) (fun _=>120000100) 44 32 l fun c hc=>by
  have:=(h2 c hc).1;have:=(h2 c hc).2.1;unfold a74;rw[List.length_append,List.length_append];simp only[List.length_cons,List.length_nil];omega
 have c:120000100*l.length<=120000100*32:=Nat.mul_le_mul_left _ h1;exact Nat.le_trans a (Nat.le_trans (a9M _ 120000100 l fun _ _=>Nat.le_refl _) (Nat.le_trans c (by decide)))
theorem c9y(hN:z7<=N)(r:List GStmt->Int->Option d3){l:List Ag}(h1:l.length<=32)(h2:∀c∈l,RA c)(K:List d3->Option d3):b4Z N r l (l.length:Int) K N 0 []=K (l.map (a74 prE)):=by
 have hx:l.length<=maxLen:=by unfold maxLen;omega
 have:=S9 hN (f:=fun n i w=>b4Z N r l (l.length:Int) K n i w) (T:=fun self i w=>a5Q N r l (l.length:Int) K self i w) (fun _ _ _=>rfl) l hx (a74 prE) [] (K:=K) (fun self i h w hw=>?_) (fun self w=>?_)
 ·simpa using this
 ·show a5Q _ _ _ _ _ _ _ _=_;obtain⟨a1,a2,a3⟩:=h2 _ (List.getElem_mem h);simp only[List.length_nil,Nat.zero_add]at hw;unfold a5Q;rw[L4 h,d9,m7 _ h,c8,a2r (by simp;omega),d9];simp only[GExpr.eta,(a3 N hN).1,c8];rw[a2r (by simp;omega),d9,b5U (by omega),d9,Y5 hx h];rfl
 ·show a5Q _ _ _ _ _ _ _ _=_;unfold a5Q;rw[Q5,g9]
theorem c9C(hN:z7<=N)(r:Int->List GStmt->List UInt8->Option (List UInt8)){l:List Ag}(h1:l.length<=32)(h2:∀c∈l,RA c)(K:List d3->Option (List UInt8)):c2K N r l (l.length:Int) K N 0 []=K (l.map (a74 prE)):=by
 have hx:l.length<=maxLen:=by unfold maxLen;omega
 have:=S9 hN (f:=fun n i w=>c2K N r l (l.length:Int) K n i w) (T:=fun self i w=>a8X N r l (l.length:Int) K self i w) (fun _ _ _=>rfl) l hx (a74 prE) [] (K:=K) (fun self i h w hw=>?_) (fun self w=>?_)
 ·simpa using this
 ·show a8X _ _ _ _ _ _ _ _=_;obtain⟨a1,a2,a3⟩:=h2 _ (List.getElem_mem h);simp only[List.length_nil,Nat.zero_add]at hw;unfold a8X;rw[L4 h,d9,m7 _ h,c8,a2r (by simp;omega),d9];simp only[GExpr.eta,(a3 N hN).2,c8];rw[a2r (by simp;omega),d9,b5U (by omega),d9,Y5 hx h];rfl
 ·show a8X _ _ _ _ _ _ _ _=_;unfold a8X;rw[Q5,g9]
theorem b3y(l:List y7):a1h (l.map stT) 0=(l.map fun t=>prS (stT t) 0).flatten:=by
 induction l with
 |nil=>rw[List.map_nil,a9A];rfl
 |cons t l ih=>rw[List.map_cons,b6G,ih];rfl
theorem e3w(t:y7):prS (stT t) 0=a0H ++ [40]++Lib.join ((X2 t).map (a74 prE)) [44,32] ++ [41,59,10]:=by
 unfold stT;rw[e3v];unfold lnS;simp
theorem f0E:strings_Repeat ([32,32]:d3) 0=some []:=by unfold strings_Repeat;rw[if_pos ⟨by decide,by decide,by decide⟩];rfl
structure LN(p:O2)(i:Nat)(h:i<(H6 p).length):Prop where
 lt:i<p.2.length
 eg:(H6 p)[i]=stT (p.2[i]'lt)
 few:(X2 (p.2[i]'lt)).length<=32
 ok:∀c∈X2 (p.2[i]'lt),RA c
 al:(Lib.join ((X2 (p.2[i]'lt)).map (a74 prE)) [44,32]).length<=4000000000
 pre:(a1h ((p.2.take i).map stT) 0).length<=4000000100*500
 next:a1h ((p.2.take (i+1)).map stT) 0=a1h ((p.2.take i).map stT) 0++(a0H ++ [40]++Lib.join ((X2 (p.2[i]'lt)).map (a74 prE)) [44,32] ++ [41,59,10])
theorem ln{p:O2}(hl:p.2.length<=500)(ht:∀t∈p.2,RT t)(i:Nat)(h:i<(H6 p).length):LN p i h:=by
 have hi:i<p.2.length:=by unfold H6 at h;rw[List.length_map]at h;exact h
 obtain⟨a1,a2⟩:=b6I (ht _ (List.getElem_mem hi));refine⟨hi,by simp[H6],a1,a2,c0w a1 a2,?_,?_⟩
 ·have ltr:∀t∈p.2,(prS (stT t) 0).length<=4000000100:=fun t h=>by
   obtain⟨a1,a2⟩:=b6I (ht t h);have:=c0w a1 a2;rw[e3w];rw[List.length_append,List.length_append,List.length_append];have e3:a0H.length=6:=rfl;simp only[List.length_cons,List.length_nil];omega
  rw[b3y,List.length_flatten,List.map_map];have:=a9M (List.length∘fun t=>prS (stT t) 0) 4000000100 (p.2.take i) fun t h=>ltr t (List.mem_of_mem_take h)
  have h2:(p.2.take i).length<=500:=by rw[List.length_take];omega
  exact Nat.le_trans this (Nat.mul_le_mul_left _ h2)
 ·rw[List.take_succ_eq_append_getElem hi,b3y,b3y,List.map_append,List.flatten_append,<-e3w];simp
theorem e57(hN:z7<=N){p:O2}(hl:p.2.length<=500)(ht:∀t∈p.2,RT t):X7 N N (H6 p) 0=some (a1h (H6 p) 0):=by
 obtain⟨d,hd⟩:∃d,N=d+1:=⟨N-1,by unfold z7 at hN;omega⟩;have e:X7 N N (H6 p) 0=a28 N (X7 N d) (H6 p) 0:=by
  conv=>lhs;arg 2;rw[hd]
  rfl
 rw[e];unfold a28;rw[f0E,c8];have hlen:(H6 p).length=p.2.length:=by unfold H6;rw[List.length_map]
 have hx:(H6 p).length<=maxLen:=by unfold maxLen;omega
 have key:=a5c (S:=d3) (R:=d3) (f:=fun n i s=>b93 N (X7 N d) 0 [] (H6 p) ((H6 p).length:Int) (fun o=>some o) n s i) (T:=fun self i s=>a5P N (X7 N d) 0 [] (H6 p) ((H6 p).length:Int) (fun o=>some o) (fun s i=>self i s) s i) (fun _ _ _=>rfl) hx (fun i=>a1h ((p.2.take i).map stT) 0) (r:=some (a1h (H6 p) 0)) (fun self i h hs=>?_) (fun self=>?_) hN
 ·simp only[List.take_zero,List.map_nil,a9A]at key;exact key
 ·obtain⟨hi,eg,a1,a2,al,hp,en⟩:=ln hl ht i h;rw[en]at hs;show a5P _ _ _ _ _ _ _ _ _ _=_;unfold a5P;rw[L4 h,d9,m7 _ h,c8,eg];simp only[show(stT p.2[i]).kind=2 from rfl,show(stT p.2[i]).name=a0H from rfl,show(stT p.2[i]).args=X2 p.2[i]from rfl,show((2:Int)==1)=false by decide,show((2:Int)==2)=true by decide,d9,g9];rw[c9y hN _ a1 a2];simp only[List.nil_append];have e3:a0H.length=6:=rfl;rw[a2r (by simp only[List.length_append,List.length_cons,List.length_nil];omega),d9,a2r (by simp only[List.length_append,List.length_cons,List.length_nil];omega),d9,a3m (by omega) (by rw[List.length_map];omega),c8,a2r (by simp only[List.length_append,List.length_cons,List.length_nil];omega),d9,a2r (by simp only[List.length_append,List.length_cons,List.length_nil];omega),d9,a2r (by simp only[List.length_append,List.length_cons,List.length_nil];omega),d9,Y5 hx h];exact hs
 ·show a5P _ _ _ _ _ _ _ _ _ _=_;unfold a5P;rw[Q5,g9,hlen,List.take_length];rfl
theorem e6h(hN:z7<=N){p:O2}(hl:p.2.length<=500)(ht:∀t∈p.2,RT t):u6 N N 0 (H6 p) []=some (a1h (H6 p) 0):=by
 obtain⟨d,hd⟩:∃d,N=d+1:=⟨N-1,by unfold z7 at hN;omega⟩;have e:u6 N N 0 (H6 p) []=I9 N (u6 N d) 0 (H6 p) []:=by
  conv=>lhs;arg 2;rw[hd]
  rfl
 rw[e];unfold I9;have hlen:(H6 p).length=p.2.length:=by unfold H6;rw[List.length_map]
 have hx:(H6 p).length<=maxLen:=by unfold maxLen;omega
 have key:=a5c (S:=d3) (R:=d3) (f:=fun n i s=>c2J N (u6 N d) 0 (H6 p) ((H6 p).length:Int) (fun o=>some o) n i s) (T:=fun self i s=>a7d N (u6 N d) 0 (H6 p) ((H6 p).length:Int) (fun o=>some o) self i s) (fun _ _ _=>rfl) hx (fun i=>a1h ((p.2.take i).map stT) 0) (r:=some (a1h (H6 p) 0)) (fun self i h hs=>?_) (fun self=>?_) hN
 ·simp only[List.take_zero,List.map_nil,a9A]at key;exact key
 ·obtain⟨hi,eg,a1,a2,al,hp,en⟩:=ln hl ht i h;rw[en]at hs;show a7d _ _ _ _ _ _ _ _ _=_;unfold a7d;rw[L4 h,d9,m7 _ h,c8,eg];simp only[show(stT p.2[i]).kind=2 from rfl,show(stT p.2[i]).name=a0H from rfl,show(stT p.2[i]).args=X2 p.2[i]from rfl,show((2:Int)==1)=false by decide,show((2:Int)==2)=true by decide,d9,g9];rw[c9C hN _ a1 a2];have e3:a0H.length=6:=rfl;unfold B6 Y9;rw[a2r (by simp only[List.length_append,List.length_cons,List.length_nil];omega),d9,a3m (by omega) (by rw[List.length_map];omega),c8,a2r (by simp only[List.length_append,List.length_cons,List.length_nil];omega),d9,a2r (by simp only[List.length_append,List.length_cons,List.length_nil];omega),d9,f0E,c8,a2r (by simp only[List.length_append,List.length_cons,List.length_nil];omega),d9,a2r (by simp only[List.length_append,List.length_cons,List.length_nil];omega),d9,if_pos (by simp only[List.length_append,List.length_cons,List.length_nil];omega),c8,c8,Y5 hx h];simpa using hs
 ·show a7d _ _ _ _ _ _ _ _ _=_;unfold a7d;rw[Q5,g9,hlen,List.take_length];rfl
theorem b8I(hN:z7<=N){p:O2}(hc:K8 N p=some 0)(hc2:O5 N p=some 0)(hl:p.2.length<=500)(ht:∀t∈p.2,RT t)(hb:M4 rbC a1r p<=1048576):
  ∃c:Int,t8 N (H6 p)=some c/\∃z:d3×Int,R8 N p=some z/\X5 N p=some z/\(z.2=0->c=0/\z.1=a1h (H6 p) 0/\(a1h (H6 p) 0).length<=50000):=by
 have hlen:(H6 p).length<=500:=by unfold H6;rw[List.length_map];exact hl
 have hok:∀s∈H6 p,SOk 50001 s:=fun s hs=>by
  obtain⟨t,h,rfl⟩:=List.mem_map.1 hs;exact(c9E (ht t h)).mono (by omega)
 obtain⟨c,g1,g2⟩:=e5K hN (H6 p) (by omega) hok;refine⟨c,g1,?_⟩;rw[d4B hN hc hl ht,d4f hN hc2 hl ht];unfold a5k U2;rw[g1,g2,c8,c8];by_cases h0:c=0
 ·rw[h0,bne_self_eq_false,g9,g9,e57 hN hl ht,e6h hN hl ht,c8];by_cases h5:(a1h (H6 p) 0).length>50000
  ·rw[decide_eq_true (by omega),d9];exact⟨([],2),rfl,rfl,fun h=>absurd h (by decide)⟩
  ·rw[decide_eq_false (by omega),g9];exact⟨_,rfl,rfl,fun _=>⟨rfl,rfl,by omega⟩⟩
 ·rw[show(c !=0)=true by simpa using h0,d9,d9];exact⟨([],c),rfl,rfl,fun h=>absurd h h0⟩
end
section
variable{N:Nat}
abbrev TA:Type:=y7×Int
def stZ(z:TA):GStmt:=stA z.1 z.2
abbrev f5y:Type:=List K6->Int->Int->List GStmt->Option (List GStmt×Int×Bool×List K6×Int×Int×Int×Bool×List GStmt)
theorem e6q(t:y7):tkS (stT t) ≠ []:=by
 unfold stT;rw[c6V];simp
theorem c0u(hN:z7<=N){K:f5y}:∀(l:List y7),(∀t∈l,RT t)->∀(ts:List K6) (e d:Int) (w:List GStmt) (f:Nat),ts.map a6p=a4q (l.map stT)->w.length+l.length<=50000->l.length<f->
  ∃zs:List TA,zs.map (·.1)=l/\c31 N K f ts e d w=K [] e d (w++zs.map stZ)
 |[],_,ts,e,d,w,f,ht,_,hf=>by
  rw[List.map_nil,b32]at ht;have:ts=[]:=List.map_eq_nil_iff.1 ht;subst this;obtain⟨f,rfl⟩:∃q,f=q+1:=⟨f-1,by simp at hf;omega⟩;refine⟨[],rfl,?_⟩;show a81 _ _ _ _ _ _ _=_;unfold a81 y9;rw[show decide ((([]:List K6).length:Int)>0)=false by decide,g9];simp
 |t :: l,hr,ts,e,d,w,f,ht,hl,hf=>by
  obtain⟨f,rfl⟩:∃q,f=q+1:=⟨f-1,by simp at hf;omega⟩;rw[List.map_cons,b0D]at ht;obtain⟨t1,t2,rfl,h1,h2⟩:=List.map_eq_append_iff.1 ht;obtain⟨a,ha⟩:=e6o hN (hr t (by simp)) t1 t2 e d h1;simp only[List.length_cons]at hl hf;obtain⟨zs,i1,i2⟩:=c0u hN (K:=K) l (fun t ht=>hr t (List.mem_cons_of_mem _ ht)) t2 e d (w ++ [stA t a]) f h2 (by simp;omega) (by omega);refine⟨(t,a) :: zs,by rw[List.map_cons,i1],?_⟩;have hpos:decide (((t1++t2).length:Int)>0)=true:=by
   have:t1 ≠ []:=fun e=>by rw[e]at h1;exact e6q t h1.symm
   have:=List.length_pos_iff.2 this;exact decide_eq_true (by rw[List.length_append];omega)
  show a81 _ _ _ _ _ _ _=_;unfold a81 y9;rw[hpos,d9];simp only[ha,c8,e5S (show w.length<=50000 by omega),c4I,d9,b3j,b3R,N7,K7];rw[i2];simp[stZ]
theorem f0c(zs:List TA):erL (zs.map stZ)=erL ((zs.map (·.1)).map stT):=by
 rw[a9m,a9m,List.map_map,List.map_map,List.map_map];exact List.map_congr_left fun z _=>e6n z.1 z.2
theorem e0X(hN:z7<=N){l:List y7}(hl:l.length<=500)(hr:∀t∈l,RT t){S:d3}(hS:LK S (a4q (l.map stT)))(hlen:S.length<=50000)(hc:t8 N (l.map stT)=some 0):
  ∃zs:List TA,zs.map (·.1)=l/\a3d N S=some (zs.map stZ,0,0):=by
 obtain⟨toks,t1,t2⟩:=hS.lx S.length (Nat.le_refl _);have hx:toks.length<=50000:=Nat.le_trans t1.len hlen;obtain⟨hok,f1⟩:=f0Y (N:=N) (by unfold z7 at hN;omega) S hlen t1 0 rfl (Nat.zero_le _);have f2:a2e N S=some (toks,0,0):=by
  unfold a2e;rw[decide_eq_false (show ¬(S.length:Int)>50000 by omega),g9];exact f1 N [] (by simpa using hx) (by unfold z7 at hN;omega)
 obtain⟨zs,z1,z2⟩:=c0u hN (K:=fun o0_0_0 o0_0_1 o0_0_2 o0_w950001=>some (o0_w950001,(0:Int),true,o0_0_0,o0_0_1,o0_0_2,(0:Int),true,o0_w950001)) l hr toks (S.length:Int) (-1) [] N t2 (by simp;omega) (by unfold z7 at hN;omega);refine⟨zs,z1,?_⟩;have aOk:K9 N toks (S.length:Int) (-1)=some (zs.map stZ,0,true,-1):=by
  unfold K9;have:L9 N toks (S.length:Int) (-1) 0 false=_:=z2;rw[this];rfl
 have c3:t8 N (zs.map stZ)=some 0:=by rw[<-c1J,f0c,z1,c1J,hc]
 unfold a3d;rw[f2,c8];simp only[bne_self_eq_false,g9,aOk,c8,Bool.not_true];rw[decide_eq_false (by decide),g9,c3,c8,bne_self_eq_false,g9]
theorem e1d(hN:z7<=N){k:Nat}{t:y7}(hk:(t.2.2=[]/\2<=k)\/2000000<=k)(h:GT t){g x:d3}{lb:List (d3×d3)}{fs:X1}{a:Int}{b:Bool}{up:Option Unit}{L:a6x}{T:TGT}{U:List (d3×Bool)}{M:NMS}(hT:T.length<500)(hnew:t.1∉T.map (·.1))(q:Int)(s:Nat)(hs:s<=50000):
  (∃s':Nat,s'<=50000/\s'<=s+k/\E6 N (stA t q) g x lb fs (s:Int) a 0 true b up L T U M=some (0,g,x,lb,fs,(s':Int),a,0,true,b,up,L,T ++ [(t.1,t)],U,M))\/
  (50000<s+k/\∃z:Int×d3×d3×List (d3×d3)×X1×Int×Int×Int×Bool×Bool×Option Unit×a6x×TGT×List (d3×Bool)×NMS,E6 N (stA t q) g x lb fs (s:Int) a 0 true b up L T U M=some z/\z.1=16):=by
 have hcall:=e0C hN hk h ⟨g,x,lb,fs,a,0,up,L,T,M⟩ rfl hT hnew q s hs;simp only at hcall;unfold E6;rcases hcall with⟨s',g1,g3,g2⟩|⟨g3,s',g2⟩
 ·refine .inl ⟨s',g1,g3,?_⟩;simp only[GStmt.eta2];simp only[show(stA t q).kind=2 from rfl,show((2:Int)==1)=false by decide,show((2:Int)==2)=true by decide,d9,g9];rw[g2,c8]
 ·refine .inr ⟨g3,?_⟩;simp only[GStmt.eta2];simp only[show(stA t q).kind=2 from rfl,show((2:Int)==1)=false by decide,show((2:Int)==2)=true by decide,d9,g9];rw[g2];unfold EvC.resC;rw[c8];exact⟨_,rfl,rfl⟩
abbrev f5z:Type:=d3->d3->List (d3×d3)->X1->Int->Int->Int->Bool->Bool->Option Unit->a6x->TGT->List (d3×Bool)->NMS->RS
def tgZ(zs:List TA):TGT:=zs.map fun z=>(z.1.1,z.1)
theorem c1H(hN:z7<=N){k:Nat}(zs:List TA)(hz:zs.length<=500)(hk:∀z∈zs,(z.1.2.2=[]/\2<=k)\/2000000<=k)(hg:∀z∈zs,GT z.1)(hn:(zs.map fun z=>z.1.1).Nodup){g x:d3}{lb:List (d3×d3)}{fs:X1}{b:Bool}{up:Option Unit}{L:a6x}{U:List (d3×Bool)}{M:NMS}(K:f5z):∀(u f j s:Nat) (a:Int),j+u=zs.length->u<f->s<=50000->
  (∃(s':Nat) (a':Int),s'<=50000/\s'<=s+(k+1)*u/\a7g N (zs.map stZ) (zs.length:Int) K f (j:Int) g x lb fs (s:Int) a 0 true b up L (tgZ (zs.take j)) U M=K g x lb fs (s':Int) a' 0 true b up L (tgZ zs) U M)\/
  (50000<s+(k+1)*u/\∃z,a7g N (zs.map stZ) (zs.length:Int) K f (j:Int) g x lb fs (s:Int) a 0 true b up L (tgZ (zs.take j)) U M=some z/\z.1=16)
 |0,f,j,s,a,hj,hf,hs=>by
  obtain⟨f,rfl⟩:∃q,f=q+1:=⟨f-1,by omega⟩;obtain rfl:j=zs.length:=by omega
  refine .inl ⟨s,a,hs,by omega,?_⟩;show a4s _ _ _ _ _ _ _ _ _ _ _ _ _ _ _ _ _ _ _ _=_;unfold a4s;rw[Q5,g9,List.take_length]
 |u+1,f,j,s,a,hj,hf,hs=>by
  obtain⟨f,rfl⟩:∃q,f=q+1:=⟨f-1,by omega⟩;have h:j<zs.length:=by omega
  have hT:(tgZ (zs.take j)).length<500:=by unfold tgZ;rw[List.length_map,List.length_take];omega
  have hnew:zs[j].1.1∉(tgZ (zs.take j)).map (·.1):=by
   have h1:(zs.take (j+1)).map (fun z:TA=>z.1.1)=(zs.take j).map (fun z:TA=>z.1.1) ++ [zs[j].1.1]:=by rw[List.take_succ_eq_append_getElem h,List.map_append];rfl
   have h2:((zs.take (j+1)).map fun z:TA=>z.1.1).Nodup:=by
    rw[List.map_take];exact hn.sublist (List.take_sublist _ _)
   rw[h1,List.nodup_append]at h2;unfold tgZ;rw[List.map_map];exact fun hm=>h2.2.2 _ hm _ (List.mem_singleton.2 rfl) rfl
  have stp:∀X,X=a4s N (zs.map stZ) (zs.length:Int) K (a7g N (zs.map stZ) (zs.length:Int) K f) (j:Int) g x lb fs (s:Int) a 0 true b up L (tgZ (zs.take j)) U M->X=a7g N (zs.map stZ) (zs.length:Int) K (f+1) (j:Int) g x lb fs (s:Int) a 0 true b up L (tgZ (zs.take j)) U M:=fun X e=>e
  have hmul:(k+1)*(u+1)=(k+1)*u+(k+1):=Nat.mul_succ (k+1) u;by_cases h5:s=50000
  ·subst h5;refine .inr ⟨by omega,?_⟩;rw[<-stp _ rfl];unfold a4s;rw[L4 h,d9,m7 _ (by simpa using h),c8,d9,d4J,c8];exact⟨_,c8Z,rfl⟩
  ·have eg:(zs.map stZ)[j]'(by simpa using h)=stA zs[j].1 zs[j].2:=by rw[List.getElem_map];rfl
   rcases e1d hN (hk _ (List.getElem_mem h)) (hg _ (List.getElem_mem h)) (g:=g) (x:=x) (lb:=lb) (fs:=fs) (a:=zs[j].2) (b:=b) (up:=up) (L:=L) (U:=U) (M:=M) hT hnew zs[j].2 (s+1) (by omega)with⟨s1,g1,g4,g2⟩|⟨g4,z,g2,g3⟩
   ·have hTT:a4s N (zs.map stZ) (zs.length:Int) K (a7g N (zs.map stZ) (zs.length:Int) K f) (j:Int) g x lb fs (s:Int) a 0 true b up L (tgZ (zs.take j)) U M=a7g N (zs.map stZ) (zs.length:Int) K f ((j+1:Nat):Int) g x lb fs (s1:Int) zs[j].2 0 true b up L (tgZ (zs.take (j+1))) U M:=by
     unfold a4s;rw[L4 h,d9,m7 _ (by simpa using h),c8,d9,eg];simp only[GStmt.eta2];simp only[show(stA zs[j].1 zs[j].2).at_=zs[j].2 from rfl];rw[b9s (by omega),c8];simp only[bne_self_eq_false,g9];rw[g2,c8];simp only[bne_self_eq_false,g9];rw[a0C (m:=j+1) (by omega) (by omega)];unfold tgZ;rw[List.take_succ_eq_append_getElem h,List.map_append];rfl
    rw[<-stp _ rfl,hTT];rcases c1H hN zs hz hk hg hn K u f (j+1) s1 zs[j].2 (by omega) (by omega) g1 with⟨s',a',e1,e2,e3⟩|⟨e1,e2⟩
    ·exact .inl ⟨s',a',e1,by omega,e3⟩
    ·exact .inr ⟨by omega,e2⟩
   ·refine .inr ⟨by omega,z,?_,g3⟩;rw[<-stp _ rfl];unfold a4s;rw[L4 h,d9,m7 _ (by simpa using h),c8,d9,eg];simp only[GStmt.eta2];simp only[show(stA zs[j].1 zs[j].2).at_=zs[j].2 from rfl];rw[b9s (by omega),c8];simp only[bne_self_eq_false,g9];rw[g2,c8,g3,show((16:Int) !=0)=true by decide,d9]
theorem b51{K:List y7->Option (O2×Int×Int)}{r:O2×Int×Int}:∀(d:Nat) (m:TGT) (n:Nat) (w:List y7),m.length=d->d<n->w.length+d<=1000->(∀w':List y7,w'.Perm (w++m.map (·.2))->K w'=some r)->c0b N K n m w=some r:=by
 intro d;induction d with
 |zero=>
  intro m n w hm hn hw h;obtain⟨n,rfl⟩:∃q,n=q+1:=⟨n-1,by omega⟩;obtain rfl:m=[]:=List.eq_nil_of_length_eq_zero hm;show a7T _ _ _ _ _=_;unfold a7T;rw[List.isEmpty_nil,d9];exact h w (by simp)
 |succ d ih=>
  intro m n w hm hn hw h;obtain⟨n,rfl⟩:∃q,n=q+1:=⟨n-1,by omega⟩;have hne:m ≠ []:=fun e=>by rw[e]at hm;cases hm
  show a7T _ _ _ _ _=_;unfold a7T;rw[show m.isEmpty=false by cases m with|nil=>exact absurd rfl hne|cons _ _=>rfl,g9];refine c6h hne fun i hi=>?_
  have hq:(m.eraseIdx i).length=d:=by rw[List.length_eraseIdx_of_lt hi];omega
  have hf:=(a8G m i hi).map (·.2);rw[List.map_cons]at hf;rw[show ∀z:y7,Zf (w.length + [z].length) (.pr .str (.pr .str (.sl (.pr .str (.rc .value)))))=true from fun _=>a58 (by decide) (by simp;omega),d9];refine ih _ n _ hq (by omega) (by simp;omega) fun w' hw'=>h w' (hw'.trans ?_)
  rw[List.append_assoc];exact List.Perm.append_left w hf
theorem c9G(hN:z7<=N){p S:d3}(hp:c1u p=true)(h1:p.length<=1048576):X9 N (p,S,([]:List (d3×d3)),([]:X1))=some 0:=by
 obtain⟨f,hf,_⟩:=c0z hN;have hF:Z0 N ([]:X1)=some 0:=by
  unfold Z0;rw[show decide ((([]:X1).length:Int)>1000)=false by decide,g9];have l0:∀(M:Nat) K,b9N M [] [] ((([]:X1).length:Nat):Int) K (f+1) 0 0 []=K 0 []:=fun M K=>by
   show b2p _ _ _ _ _ _ _ _ _=_;unfold b2p;rw[show decide ((0:Int)<((([]:X1).length:Nat):Int))=false by decide,g9]
  have l1:∀(M:Nat) m K,b4j M [] ((([]:X1).length:Nat):Int) m K (f+1) 0=K:=fun M m K=>by
   show a9Q _ _ _ _ _ _ _=_;unfold a9Q;rw[show decide ((0:Int)<((([]:X1).length:Nat):Int))=false by decide,g9]
  rw[<-hf]at l0 l1;rw[l0,l1,decide_eq_false (by decide),g9]
 have hL:∀K,b8r N ([]:List (d3×d3)) ((([]:List (d3×d3)).length:Nat):Int) [] K N 0=K:=fun K=>by
  have:∀(M:Nat),b8r M ([]:List (d3×d3)) ((([]:List (d3×d3)).length:Nat):Int) [] K (f+1) 0=K:=fun M=>by
   show c0k _ _ _ _ _ _ _=_;unfold c0k;rw[show decide ((0:Int)<((([]:List (d3×d3)).length:Nat):Int))=false by decide,g9]
  rw[<-hf]at this;exact this N
 unfold X9;simp only[b0g hN h1,c8,hF];rw[hL,show decide ((([]:List (d3×d3)).length:Int)>20)=false by decide,g9];unfold c1u at hp;cases hq:p==([]:d3)with
 |true=>simp
 |false=>
  rw[hq,Bool.false_or]at hp;rw[hp];simp
theorem d3B(hN:z7<=N){k:Nat}{p:O2}(hk:∀t∈p.2,(t.2.2=[]/\2<=k)\/2000000<=k)(hp:c1u p.1=true)(h1:p.1.length<=1048576)(hl:p.2.length<=500)(hg:∀t∈p.2,GT t)(hasc:p.2.Pairwise fun a b=>a.1<b.1){S:d3}(hS:LK S (a4q (H6 p)))(hlen:S.length<=50000)(hc:t8 N (H6 p)=some 0):
  a0r N (p.1,S,([]:List (d3×d3)),([]:X1))=some (p,0,0)\/50000<(k+1)*p.2.length/\∃z,a0r N (p.1,S,([]:List (d3×d3)),([]:X1))=some z/\z.2.2=16:=by
 obtain⟨zs,z1,z2⟩:=e0X hN hl (fun t ht=>(hg t ht).rt) hS hlen hc;have zl:zs.length<=500:=by rw[<-z1,List.length_map]at hl;exact hl
 have hn:(zs.map fun z=>z.1.1).Nodup:=by
  have e:(zs.map fun z:TA=>z.1.1)=(zs.map (·.1)).map (·.1):=by rw[List.map_map];rfl
  rw[e,z1];exact c4q hasc
 have hgz:∀z∈zs,GT z.1:=fun z hz=>hg z.1 (by rw[<-z1];exact List.mem_map_of_mem hz)
 have hkz:∀z∈zs,(z.1.2.2=[]/\2<=k)\/2000000<=k:=fun z hz=>hk z.1 (by rw[<-z1];exact List.mem_map_of_mem hz)
 have zlen:zs.length=p.2.length:=by rw[<-z1,List.length_map]
 have hrun:=c1H hN zs zl hkz hgz hn (g:=p.1) (x:=S) (lb:=[]) (fs:=[]) (b:=false) (up:=none) (L:=[]) (U:=[]) (M:=[]) (fun o0_0_0 o0_0_1 o0_0_2 o0_0_3 o0_0_4 o0_0_5 o0_0_6 o0_1_2 o0_1_3 o0_2_0 o0_m3 o0_m4 o0_m5 o0_m6=>
   some ((0:Int),o0_0_0,o0_0_1,o0_0_2,o0_0_3,o0_0_4,o0_0_5,o0_0_6,o0_1_2,o0_1_3,o0_2_0,o0_m3,o0_m4,o0_m5,o0_m6)) zs.length N 0 0 0 (by omega) (by unfold z7 at hN;omega) (by omega)
 have hre:Y1 N (zs.map stZ) p.1 S [] [] 0 0 0 true false none [] [] [] []=a7g N (zs.map stZ) (zs.length:Int) (fun o0_0_0 o0_0_1 o0_0_2 o0_0_3 o0_0_4 o0_0_5 o0_0_6 o0_1_2 o0_1_3 o0_2_0 o0_m3 o0_m4 o0_m5 o0_m6=>
   some ((0:Int),o0_0_0,o0_0_1,o0_0_2,o0_0_3,o0_0_4,o0_0_5,o0_0_6,o0_1_2,o0_1_3,o0_2_0,o0_m3,o0_m4,o0_m5,o0_m6)) N ((0:Nat):Int) p.1 S [] [] ((0:Nat):Int) 0 0 true false none [] (tgZ (zs.take 0)) [] []:=by
  unfold Y1;rw[List.length_map];rfl
 unfold a0r;rw[c9G hN hp h1,c8];simp only[bne_self_eq_false,g9,z2,c8,a1M,a2N];rw[hre];rcases hrun with⟨s',a',g1,g4,g2⟩|⟨g4,z,g2,g3⟩
 ·left;rw[g2,c8];simp only[bne_self_eq_false,g9];refine b51 (tgZ zs).length (tgZ zs) N [] rfl (by unfold tgZ;rw[List.length_map];unfold z7 at hN;omega) (by unfold tgZ;simp;omega) fun w' hw'=>?_
  have e:(tgZ zs).map (·.2)=p.2:=by unfold tgZ;rw[List.map_map,<-z1];rfl
  rw[List.nil_append,e]at hw';have hs:K4 () w'=some p.2:=by
   unfold K4;exact c1R (by rw[hw'.length_eq];omega) hasc hw'
  rw[hs,c8]
 ·refine .inr ⟨by rw[<-zlen];omega,?_⟩;rw[g2,c8,g3,show((16:Int) !=0)=true by decide,d9];exact⟨_,rfl,rfl⟩
end
end Go.Proofs.YtckdohagilcloaaGreatDoor
