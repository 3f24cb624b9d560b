/- % -/
import Derived.Test.YtolpmfhiegpohaaGreatDoorQLPrA
namespace Go.Proofs.YtolpmfhiegpohaaGreatDoor
set_option linter.unusedVariables false
set_option linter.unusedSimpArgs false
open Go Go.RowKit
section
variable{N:Nat}
theorem GPart.eta(g:GPart):GPart.mk g.kind g.text g.number g.keys g.at_ g.kids=g:=by cases g;rfl
theorem GExpr.eta(g:GExpr):Ze g=g:=by cases g;rfl
section
variable(k n a:Int)(t:d7)(ks:List d7)(gs:List GPart)
theorem b0J:(GPart.mk k t n ks a gs).kind=k:=rfl
theorem b6i:(GPart.mk k t n ks a gs).text=t:=rfl
theorem a9y:(GPart.mk k t n ks a gs).number=n:=rfl
theorem b6h:(GPart.mk k t n ks a gs).keys=ks:=rfl
theorem c2o:(GPart.mk k t n ks a gs).at_=a:=rfl
theorem b0I:(GPart.mk k t n ks a gs).kids=gs:=rfl
end
abbrev Rel:Type:=List (Int×Int)
def sh(x:Int)(m:Int×Int):Int×Int:=(m.1,m.2+x)
theorem b46(R:Rel)(x y:Int):(R.map (sh x)).map (sh y)=R.map (sh (x+y)):=by
 rw[List.map_map];congr 1;funext m;simp only[sh,Function.comp];congr 1;omega
def Pos(T:List (Int×Int)):Prop:=∀m∈T,0<=m.1
theorem Pos.app{T U:List (Int×Int)}(h:Pos T)(g:Pos U):Pos (T++U):=fun m hm=>by
 rcases List.mem_append.1 hm with hm|hm
 ·exact h m hm
 ·exact g m hm
theorem Pos.one{a x:Int}(h:0<=a):Pos [(a,x)]:=fun m hm=>by rw[List.mem_singleton.1 hm];exact h
theorem Pos.nil:Pos []:=fun m hm=>by simp at hm
def EOk:Nat->GExpr->Prop|0,_=>False|k+1,e=>(∃t:d7,t.length<=50000/\e = .mk 1 t 0 [] [])\/(∃n,e = .mk 2 [] n [] [])\/(∃t:d7,t.length<=50000/\A5 t=true/\e = .mk 3 t 0 [] [])\/(∃es:List GExpr,es.length<=50000/\e = .mk 4 [] 0 [] es/\∀c∈es,EOk k c)\/(∃a b,e = .mk 5 [] 0 [] [a,b]/\EOk k a/\EOk k b)\/(∃(ks:List d7) (es:List GExpr),ks.length=es.length/\0<es.length/\es.length<=50000/\(∀s∈ks,s.length<=50000)/\e = .mk 6 [] 0 ks es/\∀c∈es,EOk k c)\/(∃a b,e = .mk 7 [] 0 [] [a,b]/\EOk k a/\EOk k b)\/(∃a b,e = .mk 8 [] 0 [] [a,b]/\EOk k a/\EOk k b)
theorem EOk.succ:∀{k:Nat} {e:GExpr},EOk k e->EOk (k+1) e
 |0,_,h=>h.elim
 |k+1,e,h=>by
  rcases h with h|h|h|⟨es,h1,h2,h3⟩|⟨a,b,h1,h2,h3⟩|⟨ks,es,h0,hp,h1,h4,h2,h3⟩|⟨a,b,h1,h2,h3⟩|⟨a,b,h1,h2,h3⟩
  ·exact .inl h
  ·exact .inr (.inl h)
  ·exact .inr (.inr (.inl h))
  ·exact .inr (.inr (.inr (.inl ⟨es,h1,h2,fun c hc=>EOk.succ (h3 c hc)⟩)))
  ·exact .inr (.inr (.inr (.inr (.inl ⟨a,b,h1,EOk.succ h2,EOk.succ h3⟩))))
  ·exact .inr (.inr (.inr (.inr (.inr (.inl ⟨ks,es,h0,hp,h1,h4,h2,fun c hc=>EOk.succ (h3 c hc)⟩)))))
  ·exact .inr (.inr (.inr (.inr (.inr (.inr (.inl ⟨a,b,h1,EOk.succ h2,EOk.succ h3⟩))))))
  ·exact .inr (.inr (.inr (.inr (.inr (.inr (.inr ⟨a,b,h1,EOk.succ h2,EOk.succ h3⟩))))))
theorem EOk.mono{k m:Nat}{e:GExpr}(h:EOk k e)(hm:k<=m):EOk m e:=by
 obtain⟨d,rfl⟩:=Nat.exists_eq_add_of_le hm;induction d with
 |zero=>exact h
 |succ d ih=>exact EOk.succ (ih (by omega))
theorem d1N{d a x y:Int}(ha:0<=a)(h:x<=y):dp1 (dp1 d (a,x)) (a,y)=dp1 d (a,y):=by
 unfold dp1;simp only;split<;>split<;>(try split)<;>(try split)<;>omega
theorem a0M(k:Int)(t:d7)(n:Int)(l:List d7)(cs:List GExpr):GExpr.bulk (.mk k t n l cs)=t.length+(l.map fun q:d7=>q.length+1).sum+(cs.map GExpr.bulk).sum+6:=by
 rw[GExpr.bulk,a6T (fun c:GExpr=>GExpr.bulk c) cs];show 1+(t.length+1+(1+((l.map fun q:d7=>q.length+1).sum+1+((cs.map GExpr.bulk).sum+1))))+1=_;omega
theorem b6E{α:Type}(f:α->Nat)(q:Nat):∀(l:List α),(∀x∈l,f x<=q)->(l.map f).sum<=q*l.length
 |[],_=>by simp
 |a :: l,h=>by
  have:=h a (by simp);have:=b6E f q l fun x hx=>h x (List.mem_cons_of_mem _ hx)
  rw[List.map_cons,List.sum_cons,List.length_cons,Nat.mul_add];omega
structure GoodP(N:Nat)(g:GPart)(E:GExpr)(R:Rel)(k:Nat):Prop where
 at0:0<=g.at_
 hd:∃a tl,R=(g.at_,a) :: tl/\0<=a
 lo:∀m∈R,0<=m.2/\m.2<=(k:Int)/\0<=m.1
 len:R.length<=k
 ok:EOk k E
 bk:E.bulk<=60000*k
 made:∀n,k<n->∀x:Int,0<=x->x+k<=200000->∀l e d,x7 N n g x l e d=some (E,l,e,dp d (R.map (sh x)))
theorem GoodP.mono{g:GPart}{E:GExpr}{R:Rel}{k m:Nat}(h:GoodP N g E R k)(hm:k<=m):GoodP N g E R m:=
 ⟨h.at0,h.hd,fun z hz=>⟨(h.lo z hz).1,by have:=(h.lo z hz).2;omega⟩,by have:=h.len;omega,h.ok.mono hm,by have:=h.bk;omega,fun n hn x h0 hx l e d=>h.made n (by omega) x h0 (by omega) l e d⟩
theorem GoodP.dup{g:GPart}{E:GExpr}{R:Rel}{k:Nat}(h:GoodP N g E R k)(d x y:Int)(hy:x<=y)(T:Rel):dp (dp1 d (g.at_,x)) (R.map (sh y)++T)=dp d (R.map (sh y)++T):=by
 obtain⟨a,tl,h1,h2⟩:=h.hd;rw[h1];show dp (dp1 (dp1 d (g.at_,x)) (g.at_,a+y)) _=dp (dp1 d (g.at_,a+y)) _;rw[d1N h.at0 (by omega)]
abbrev PZ:Type:=GPart×GExpr×Rel
theorem b1J(hN:J0<=N){k n:Nat}(hk:k<n){c:Int}(h0:0<=c)(hc:c+k<=200000)(zs:List PZ)(hz:zs.length<=50000)(hg:∀z∈zs,GoodP N z.1 z.2.1 z.2.2 k)
  (K:List A6->Int->Int->List GExpr->Option (GExpr×List A6×Int×Int)) (l:List A6) (e:Int):∀(m f j:Nat) (d:Int),j+m=zs.length->m<f->
  b2R N (x7 N n) c (zs.map (·.1)) (zs.length:Int) K f (j:Int) l e d ((zs.take j).map (·.2.1))=K l e (dp d (((zs.drop j).map (·.2.2)).flatten.map (sh c))) (zs.map (·.2.1))
 |0,f,j,d,hj,hf=>by
  obtain⟨f,rfl⟩:∃q,f=q+1:=⟨f-1,by omega⟩;obtain rfl:j=zs.length:=by omega
  show a7l _ _ _ _ _ _ _ _ _ _ _ _=_;unfold a7l;rw[a1r,d9,List.drop_length,List.take_length];rfl
 |m+1,f,j,d,hj,hf=>by
  obtain⟨f,rfl⟩:∃q,f=q+1:=⟨f-1,by omega⟩;have h:j<zs.length:=by omega
  have ih:=b1J hN hk h0 hc zs hz hg K l e m f (j+1) (dp d (zs[j].2.2.map (sh c))) (by omega) (by omega);show a7l _ _ _ _ _ _ _ _ _ _ _ _=_;unfold a7l;have hm:=(hg _ (List.getElem_mem h)).made n hk c h0 hc l e d;rw[a0D h,d8,p6 _ (by simpa using h),d2];simp only[List.getElem_map,GPart.eta,hm,d2];rw[show Zf (((zs.take j).map (·.2.1)).length + [zs[j].2.1].length) (.rc .expr)=true from b0a (by decide) (by simp;omega),d8,a00 (m:=j+1) (by omega) (by omega)];rw[show(zs.take j).map (·.2.1) ++ [zs[j].2.1]=(zs.take (j+1)).map (·.2.1) by rw[List.take_succ_eq_append_getElem h,List.map_append];rfl];rw[ih,List.drop_eq_getElem_cons h];simp only[List.map_cons,List.flatten_cons,List.map_append,a16]
theorem d4a(hN:J0<=N){k n:Nat}(hk:k<n){c:Int}(h0:0<=c)(hc:c+k<=200000)(zs:List PZ)(hz:zs.length<=50000)(hg:∀z∈zs,GoodP N z.1 z.2.1 z.2.2 k)
  (K:List A6->Int->Int->List GExpr->Option (GExpr×List A6×Int×Int)) (l:List A6) (e d:Int):
  b2R N (x7 N n) c (zs.map (·.1)) ((zs.map (·.1)).length:Int) K N 0 l e d []=K l e (dp d ((zs.map (·.2.2)).flatten.map (sh c))) (zs.map (·.2.1)):=by
 have:=b1J hN hk h0 hc zs hz hg K l e zs.length N 0 d (by omega) (by unfold J0 at hN;omega);simpa using this
theorem a5E(hN:J0<=N){kind a:Int}{keys:List d7}(ha:0<=a)(h0:kind≠0)(h7:kind≠7){t:d7}{num:Int}{k m:Nat}(hm:k+1<=m)(zs:List PZ)(hz:zs.length<=50000)(hg:∀z∈zs,GoodP N z.1 z.2.1 z.2.2 k)
  (hl:(zs.map (·.2.2)).flatten.length+1<=m) (hok:EOk m (.mk kind t num keys (zs.map (·.2.1)))) (hbk:GExpr.bulk (.mk kind t num keys (zs.map (·.2.1)))<=60000*m):
  GoodP N (.mk kind t num keys a (zs.map (·.1))) (.mk kind t num keys (zs.map (·.2.1))) ((a,0) :: (zs.map (·.2.2)).flatten.map (sh 1)) m:=by
 refine⟨ha,⟨0,_,rfl,by omega⟩,fun z hz=>?_,by rw[List.length_cons,List.length_map];exact hl,hok,hbk,fun n hn x hx0 hx l e d=>?_⟩
 ·rcases List.mem_cons.1 hz with rfl|hz
  ·simp[ha]
  ·obtain⟨y,hy,rfl⟩:=List.mem_map.1 hz;obtain⟨r,hr,hy⟩:=List.mem_flatten.1 hy;obtain⟨q,hq,rfl⟩:=List.mem_map.1 hr;have:=(hg q hq).lo y hy;simp only[sh];omega
 ·obtain⟨n,rfl⟩:∃q,n=q+1:=⟨n-1,by omega⟩;show v7 N (x7 N n) _ _ _ _ _=_;unfold v7;simp only[c2o,b0J,b6i,a9y,b6h,b0I,a5L,d2];rw[show(kind==0)=false by simpa using h0,show(kind !=7)=true by simpa using h7,d9,d8,M7 (n:=x+1) (by omega) (by omega)];rw[d4a hN (k:=k) (by omega) (by omega) (by omega) zs hz hg];simp only[List.map_cons,b46];congr 4;show dp (dp1 d (a,x)) _=dp (dp1 d (a,0+x)) _;rw[Int.zero_add,Int.add_comm 1 x]
theorem a9m(hN:J0<=N){kind a:Int}(ha:0<=a)(h0:kind≠0)(h7:kind≠7){t:d7}{num:Int}{m:Nat}(hm:1<=m)(hok:EOk m (.mk kind t num [] []))(ht:t.length<=50000):
  GoodP N (.mk kind t num [] a []) (.mk kind t num [] []) [(a,0)] m:=
 a5E hN (keys:=[]) ha h0 h7 (k:=0) (by omega) [] (by simp) (by simp) (by simp;omega) hok (by rw[a0M];simp only[List.map_nil,List.sum_nil];omega)
theorem b91(hN:J0<=N){a:Int}(ha:0<=a){g:GPart}{E:GExpr}{R:Rel}{k m:Nat}(hm:k+1<=m)(hg:GoodP N g E R k):GoodP N (.mk 0 [] 0 [] a [g]) E ((a,0) :: R.map (sh 1)) m:=by
 refine⟨ha,⟨0,_,rfl,by omega⟩,fun z hz=>?_,by have:=hg.len;simp;omega,hg.ok.mono (by omega),by have:=hg.bk;omega,fun n hn x hx0 hx l e d=>?_⟩
 ·rcases List.mem_cons.1 hz with rfl|hz
  ·simp[ha]
  ·obtain⟨y,hy,rfl⟩:=List.mem_map.1 hz;have:=hg.lo y hy;simp only[sh];omega
 ·obtain⟨n,rfl⟩:∃q,n=q+1:=⟨n-1,by omega⟩;show v7 N (x7 N n) _ _ _ _ _=_;unfold v7;simp only[c2o,b0J,b0I,a5L,d2,show((0:Int)==0)=true by decide,d8,show m6 [g] 0=some g from rfl];rw[M7 (n:=x+1) (by omega) (by omega),hg.made n (by omega) (x+1) (by omega) (by omega)];simp only[d2,GExpr.eta,List.map_cons,b46];congr 4;show dp (dp1 d (a,x)) _=dp (dp1 d (a,0+x)) _;rw[Int.zero_add,Int.add_comm 1 x]
theorem b7z(hN:J0<=N){g1 g2:GPart}{E1 E2:GExpr}{R1 R2:Rel}{k1 k2 m:Nat}(hm:k1+k2+1<=m)(h1:k1+1<=m)(h2:k2+1<=m)(hg:GoodP N g1 E1 R1 k1)(hh:GoodP N g2 E2 R2 k2):
  GoodP N (.mk 8 [] 0 [] g1.at_ [g1,g2]) (.mk 8 [] 0 [] [E1,E2]) ((R1++R2).map (sh 1)) m/\GoodP N (.mk 7 [] 0 [] g1.at_ [g1,g2]) (.mk 7 [] 0 [] [E1,E2]) (R1++R2) m:=by
 have hz:∀z∈([(g1,E1,R1),(g2,E2,R2)]:List PZ),GoodP N z.1 z.2.1 z.2.2 (m-1):=by
  intro z hz;rcases List.mem_cons.1 hz with rfl|hz
  ·exact hg.mono (by omega)
  ·rw[List.mem_singleton.1 hz];exact hh.mono (by omega)
 obtain⟨a,tl,e1,ha⟩:=hg.hd;obtain⟨m,rfl⟩:∃q,m=q+1:=⟨m-1,by omega⟩;have L:=fun(n:Nat) (hn:m<n) c h0 hc K l e d=>d4a hN (k:=m) (n:=n) hn (c:=c) h0 hc [(g1,E1,R1),(g2,E2,R2)] (by simp) hz K l e d
 have hlo:∀z∈R1++R2,0<=z.2/\z.2<=(m:Int)/\0<=z.1:=fun z hz=>by
  rcases List.mem_append.1 hz with hz|hz
  ·have:=hg.lo z hz;omega
  ·have:=hh.lo z hz;omega
 simp only[List.map_cons,List.map_nil,List.flatten_cons,List.flatten_nil,List.append_nil]at L;have hbk:∀c:Int,GExpr.bulk (.mk c [] 0 [] [E1,E2])<=60000*(m+1):=fun c=>by
  have:=hg.bk;have:=hh.bk;rw[a0M];simp only[List.map_cons,List.map_nil,List.sum_cons,List.sum_nil,List.length_nil];omega
 refine⟨⟨hg.at0,⟨a+1,(tl++R2).map (sh 1),by rw[e1];rfl,by omega⟩,fun z hz=>?_,?_,?_,hbk _,fun n hn x hx0 hx l e d=>?_⟩,⟨hg.at0,⟨a,tl++R2,by rw[e1];rfl,ha⟩,fun z hz=>?_,?_,?_,hbk _,fun n hn x hx0 hx l e d=>?_⟩⟩
 ·obtain⟨y,hy,rfl⟩:=List.mem_map.1 hz;have:=hlo y hy;simp only[sh];omega
 ·have:=hg.len;have:=hh.len;simp;omega
 ·exact .inr (.inr (.inr (.inr (.inr (.inr (.inr ⟨E1,E2,rfl,hg.ok.mono (by omega),hh.ok.mono (by omega)⟩))))))
 ·obtain⟨n,rfl⟩:∃q,n=q+1:=⟨n-1,by omega⟩;show v7 N (x7 N n) _ _ _ _ _=_;unfold v7;simp only[c2o,b0J,b6i,a9y,b6h,b0I,a5L,d2,show((8:Int)==0)=false by decide,show((8:Int) !=7)=true by decide,d8,d9];rw[M7 (n:=x+1) (by omega) (by omega),L n (by omega) (x+1) (by omega) (by omega)];simp only[b46,List.map_append];rw[hg.dup d x (x+1) (by omega),Int.add_comm 1 x]
 ·have:=hlo z hz;omega
 ·have:=hg.len;have:=hh.len;simp;omega
 ·exact .inr (.inr (.inr (.inr (.inr (.inr (.inl ⟨E1,E2,rfl,hg.ok.mono (by omega),hh.ok.mono (by omega)⟩))))))
 ·obtain⟨n,rfl⟩:∃q,n=q+1:=⟨n-1,by omega⟩;show v7 N (x7 N n) _ _ _ _ _=_;unfold v7;simp only[c2o,b0J,b6i,a9y,b6h,b0I,a5L,d2,show((7:Int)==0)=false by decide,show((7:Int) !=7)=false by decide,d9];rw[L n (by omega) x (by omega) (by omega)];simp only[List.map_append];rw[hg.dup d x x (by omega)]
theorem b1Z(hN:J0<=N){r:Int->Int->Int->Bool->Int->List A6->Mk->Option (GExpr×Int×Int×Bool×Int×List A6×Mk)}{K:Mk->Option (GExpr×Int×Int×Bool×Int×List A6×Mk)}:
  ∀(R M:Mk) (f:Nat),(∀m∈R,0<=m.2/\m.2<=400000)->M.length+R.length<=900000->R.length<f->W6 N r K f (M.length:Int) (M++R)=K (M++R.map (sh 1))
 |[],M,f,hR,hl,hf=>by
  obtain⟨f,rfl⟩:∃q,f=q+1:=⟨f-1,by omega⟩;show J3 _ _ _ _ _ _=_;unfold J3;rw[List.append_nil,a1r,d9];simp
 |m :: R,M,f,hR,hl,hf=>by
  obtain⟨f,rfl⟩:∃q,f=q+1:=⟨f-1,by omega⟩;have ih:=b1Z hN (r:=r) (K:=K) R (M ++ [sh 1 m]) f (fun z hz=>hR z (List.mem_cons_of_mem _ hz)) (by simp at hl ⊢;omega) (by simp at hf;omega);have h:M.length<(M++m :: R).length:=by simp
  have hb:=hR m (List.mem_cons_self ..);show J3 _ _ _ _ _ _=_;unfold J3;rw[a0D h,d8,decide_eq_true (show(0:Int)<=(M.length:Int)/\(M.length:Int)<((M++m :: R).length:Int)from⟨by omega,by omega⟩),d8,p6 _ h];simp only[d8,d2,List.getElem_append_right (Nat.le_refl _),Nat.sub_self,List.getElem_cons_zero];rw[a00 (m:=M.length+1) (by omega) (by simp at hl;omega),M7 (n:=m.2+1) (by omega) (by omega)];have hs:G0 (M++m :: R) (M.length:Int) (m.1,m.2+1)=(M ++ [sh 1 m])++R:=by
   unfold G0 sh;simp
  rw[hs,show((M.length+1:Nat):Int)=((M ++ [sh 1 m]).length:Int) by simp,ih];simp
end
section
variable{N:Nat}
abbrev SX:Type:=List A6->Int->Int->Option (Except Int (GPart×List A6×Int×Int))
abbrev RO:Type:=Option (GExpr×Int×Int×Bool×Int×List A6×Mk)
abbrev RX:Type:=Int->Int->Int->Bool->Int->List A6->Mk->RO
abbrev zP:GPart:=GPart.mk (0:Int) ([]:d7) (0:Int) ([]:List d7) (0:Int) ([]:List GPart)
theorem b2e{α:Type}(l:List α)(z x:α):G0 (l ++ [z]) (l.length:Int) x=l ++ [x]:=by
 unfold G0;simp
theorem b1z{α:Type}(l:List α)(z:α):m6 (l ++ [z]) (l.length:Int)=some z:=by
 rw[b1A];simp
theorem b94{α:Type}(l:List α)(z:α):decide ((0:Int)<=(l.length:Int)/\(l.length:Int)<((l ++ [z]).length:Int))=true:=decide_eq_true ⟨by omega,by simp;omega⟩
theorem b6c{r:SX}{k n a:Int}{t:d7}{l l':List A6}{e d e' d':Int}{g:GPart}(h:r l e d=some (.ok (g,l',e',d'))):
  y9 N r k t n a l e d=some (.ok (k,t,n,a,l',e',d',[g])):=by
 unfold y9;simp only[h,m5,v8,o3,show Zf [zP].length (.rc .part)=true by decide,show decide ((0:Int)<=0/\(0:Int)<([zP].length:Int))=true by decide,d8,show m6 [zP] 0=some zP from rfl,d2,show G0 [zP] 0 g=[g]from rfl]
theorem b1S{r:SX}{k n a c:Int}{t:d7}{l:List A6}{e d:Int}(h:r l e d=some (.error c)):
  y9 N r k t n a l e d=some (.error c):=by
 unfold y9;simp only[h,j9,v8,o3]
theorem d12{r:SX}{k n a:Int}{t:d7}{ks:List d7}{l l':List A6}{e d e' d':Int}{g:GPart}(h:r l e d=some (.ok (g,l',e',d'))):
  D2 N r k t n a ks l e d=some (.ok (k,t,n,a,ks,l',e',d',[g])):=by
 unfold D2;simp only[h,m5,v8,o3,show Zf [zP].length (.rc .part)=true by decide,show decide ((0:Int)<=0/\(0:Int)<([zP].length:Int))=true by decide,d8,show m6 [zP] 0=some zP from rfl,d2,show G0 [zP] 0 g=[g]from rfl]
theorem c6s{r:SX}{k n a c:Int}{t:d7}{ks:List d7}{l:List A6}{e d:Int}(h:r l e d=some (.error c)):
  D2 N r k t n a ks l e d=some (.error c):=by
 unfold D2;simp only[h,j9,v8,o3]
theorem d7f{l:List GPart}(h:l.length<=50000):Zf (l.length + [zP].length) (.rc .part)=true:=b0a (by decide) (by simp;omega)
theorem c2l{r:SX}{k n a:Int}{t:d7}{ps:List GPart}{l l':List A6}{e d e' d':Int}{g:GPart}(hp:ps.length<=50000)(h:r l e d=some (.ok (g,l',e',d'))):
  D1 N r k t n a ps l e d=some (.ok (k,t,n,a,ps ++ [g],l',e',d')):=by
 unfold D1;simp only[h,m5,v8,o3,d7f hp,b94,d8,b1z,d2,b2e]
theorem b7P{r:SX}{k n a c:Int}{t:d7}{ps:List GPart}{l:List A6}{e d:Int}(h:r l e d=some (.error c)):
  D1 N r k t n a ps l e d=some (.error c):=by
 unfold D1;simp only[h,j9,v8,o3]
theorem d13{r:SX}{k n a:Int}{t:d7}{ks:List d7}{ps:List GPart}{l l':List A6}{e d e' d':Int}{g:GPart}(hp:ps.length<=50000)(h:r l e d=some (.ok (g,l',e',d'))):
  D3 N r k t n a ks ps l e d=some (.ok (k,t,n,a,ks,ps ++ [g],l',e',d')):=by
 unfold D3;simp only[h,m5,v8,o3,d7f hp,b94,d8,b1z,d2,b2e]
theorem c6t{r:SX}{k n a c:Int}{t:d7}{ks:List d7}{ps:List GPart}{l:List A6}{e d:Int}(h:r l e d=some (.error c)):
  D3 N r k t n a ks ps l e d=some (.error c):=by
 unfold D3;simp only[h,j9,v8,o3]
def c5v(N:Nat)(w:List A6)(e:Int)(S:SX)(R:RX)(i:Nat)(x:Int):Prop:=∀(M:Mk) (p d:Int),M.length<=i->(∃(j:Nat) (g:GPart) (E:GExpr) (T:Rel),i<j/\j<=w.length/\S (w.drop i) e d=some (.ok (g,w.drop j,e,d))/\R x (i:Int) e false p w M=some (E,(j:Int),e,false,p,w,M++T.map (sh x))/\GoodP N g E T (j-i))\/(∃c,S (w.drop i) e d=some (.error c)/\∃y a K,R x (i:Int) e false p w M=some (y,a,e,true,c,w,K))
structure Ctx(N:Nat)(w:List A6)(e:Int)(S:SX)(R:RX)(i0:Nat)(x:Int):Prop where
 hN:J0<=N
 wl:w.length<=50000
 wok:∀t∈w,a2C t
 e0:0<=e
 x0:0<=x
 xb:x+((w.length-i0:Nat):Int)<=150000
 sim:∀i,i0<i->i<=w.length->∀y:Int,0<=y->y+((w.length-i:Nat):Int)<=150000->c5v N w e S R i y
 bad:∀y a p M,R y a e true p w M=some (GExpr.mk (0:Int) ([]:d7) (0:Int) ([]:List d7) ([]:List GExpr),a,e,true,p,w,M)
theorem b5R{w:List A6}{e:Int}(hw:∀t∈w,a2C t)(he:0<=e)(i:Nat):0<=S9 w i e:=by
 by_cases h:i<w.length
 ·rw[b9A h];exact(hw _ (List.getElem_mem h)).1
 ·rw[b08 h];exact he
theorem a6X{l:List GExpr}{z:GExpr}(h:l.length<=50000):Zf (l.length + [z].length) (.rc .expr)=true:=b0a (by decide) (by simp;omega)
theorem a9j{l:List d7}{z:d7}(h:l.length<=50000):Zf (l.length + [z].length) .str=true:=b0a (by decide) (by simp;omega)
structure Zs(N:Nat)(zs:List PZ)(k:Nat):Prop where
 good:∀z∈zs,GoodP N z.1 z.2.1 z.2.2 k
 len:zs.length<=k
 rel:(zs.map (·.2.2)).flatten.length<=k
 bk:((zs.map (·.2.1)).map GExpr.bulk).sum+60000*zs.length<=60000*(k+1)
theorem Zs.snoc{zs:List PZ}{k j m:Nat}(h:Zs N zs k){z:PZ}(hz:GoodP N z.1 z.2.1 z.2.2 j)(hj:0<j)(hm:k+j+1<=m):Zs N (zs ++ [z]) m:=
 ⟨fun y hy=>by
  rcases List.mem_append.1 hy with hy|hy
  ·exact(h.good y hy).mono (by omega)
  ·rw[List.mem_singleton.1 hy];exact hz.mono (by omega),by have:=h.len;simp;omega,by
  have:=h.rel;have:=hz.len;rw[List.map_append,List.flatten_append,List.length_append];simp only[List.map_cons,List.map_nil,List.flatten_cons,List.flatten_nil,List.append_nil];omega,by
  have:=h.bk;have:=hz.bk;simp only[List.map_append,List.sum_append,List.length_append,List.map_cons,List.map_nil,List.sum_cons,List.sum_nil,List.length_cons,List.length_nil];omega⟩
theorem Zs.sum{zs:List PZ}{k:Nat}(h:Zs N zs k):((zs.map (·.2.1)).map GExpr.bulk).sum+6<=60000*(k+1):=by
 have:=h.bk;cases zs with
 |nil=>simp only[List.map_nil,List.sum_nil];omega
 |cons z zs=>simp only[List.length_cons]at this;omega
theorem Zs.mono{zs:List PZ}{k m:Nat}(h:Zs N zs k)(hm:k<=m):Zs N zs m:=
 ⟨fun y hy=>(h.good y hy).mono hm,by have:=h.len;omega,by have:=h.rel;omega,by have:=h.bk;omega⟩
theorem b4Q(zs:List PZ)(z:PZ)(M:Mk)(x:Int):(M++(zs.map (·.2.2)).flatten.map (sh x))++z.2.2.map (sh x)=M++((zs ++ [z]).map (·.2.2)).flatten.map (sh x):=by
 simp[List.map_append,List.flatten_append]
section
variable{w:List A6}{e x:Int}{S:SX}{R:RX}{i0:Nat}
theorem b4W(C:Ctx N w e S R i0 x){M0:Mk}(hM0:M0.length<=i0){p d k n a:Int}{t:d7}
  {K:List A6->Int->Int->Int->d7->Int->Int->List GPart->Option (Except Int (List A6×Int×Int×Int×d7×Int×Int×List GPart))} {k1:Int->Int->Bool->Int->List A6->Mk->List GExpr->RO}:
  ∀(m i f1 f2:Nat) (zs:List PZ),i+m=w.length->m<f1->m<f2->i0<i->zs ≠ []->Zs N zs (i-i0)->
  let SS:=b26 N S K f1 (w.drop i) e d k t n a (zs.map (·.1))
  let RR:=j8 (k9 N (4:Int) ([44]:d7) (i:Int) e false p w (M0++(zs.map (·.2.2)).flatten.map (sh (x+1)))) fun t112=>br (!t112.1)
   (k1 t112.2.1 t112.2.2.1 t112.2.2.2.1 t112.2.2.2.2.1 t112.2.2.2.2.2.1 t112.2.2.2.2.2.2 (zs.map (·.2.1)))
   (x6 N R x k1 f2 t112.2.1 t112.2.2.1 t112.2.2.2.1 t112.2.2.2.2.1 t112.2.2.2.2.2.1 t112.2.2.2.2.2.2 (zs.map (·.2.1)))
  (∃(j:Nat) (us:List PZ),i<=j/\j<=w.length/\Zs N us (j-i0)/\SS=K (w.drop j) e d k t n a (us.map (·.1))/\RR=k1 (j:Int) e false p w (M0++(us.map (·.2.2)).flatten.map (sh (x+1))) (us.map (·.2.1)))\/
  (∃c,SS=some (.error c)/\∃b L ys,RR=k1 b e true c w L ys)
 |m,i,f1,f2,zs,hm,h1,h2,hi,hne,hz=>by
  obtain⟨f1,rfl⟩:∃q,f1=q+1:=⟨f1-1,by omega⟩;obtain⟨f2,rfl⟩:∃q,f2=q+1:=⟨f2-1,by omega⟩;intro SS RR;have eS:SS=b27 N S K (b26 N S K f1) (w.drop i) e d k t n a (zs.map (·.1)):=rfl;unfold b27 at eS;cases hb:I9 w i 4 [44]with
  |false=>
   rw[O9 hb]at eS;simp only[d2,d9]at eS;have eR:RR=j8 _ _:=rfl;rw[o5 hb]at eR;simp only[d2,Bool.not_false,d8]at eR;exact .inl ⟨i,zs,by omega,by omega,hz,eS,eR⟩
  |true=>
   have hil:=G3 hb;rw[R4 hb]at eS;simp only[d2,d8]at eS;have eR:RR=j8 _ _:=rfl;rw[C8 C.wl hb]at eR;simp only[d2,Bool.not_true,d9]at eR;have eR2:RR=D5 N R x k1 (x6 N R x k1 f2) ((i+1:Nat):Int) e false p w (M0++(zs.map (·.2.2)).flatten.map (sh (x+1))) (zs.map (·.2.1)):=eR;unfold D5 at eR2;have hpos:decide (((zs.map (·.2.1)).length:Int)>0)=true:=decide_eq_true (by
    have:=List.length_pos_iff.2 hne;simp;omega)
   have hx1:IntKind.i64.wrap (x+1)=x+1:=M7 (by have:=C.x0;omega) (by have:=C.xb;omega);simp only[Bool.not_false,d8,hpos,hx1]at eR2;have hzl:=hz.len;have hwl:=C.wl;have hlz:(zs.map (·.2.1)).length<=50000:=by simp;omega
   rcases C.sim (i+1) (by omega) (by omega) (x+1) (by have:=C.x0;omega) (by have:=C.xb;omega) (M0++(zs.map (·.2.2)).flatten.map (sh (x+1))) p d (by have:=hz.rel;rw[List.length_append,List.length_map];omega)with⟨j,g,E,T,hj1,hj2,s1,r1,hg⟩|⟨c,s1,y,b,L,r1⟩
   ·rw[c2l (by simp;omega) s1]at eS;simp only[m5]at eS;rw[r1]at eR2;simp only[d2,GExpr.eta]at eR2;rw[a6X hlz,d8]at eR2;have hz':Zs N (zs ++ [(g,E,T)]) (j-i0):=hz.snoc (j:=j-(i+1)) hg (by omega) (by omega);have ih:=b4W C hM0 (p:=p) (d:=d) (k:=k) (n:=n) (a:=a) (t:=t) (K:=K) (k1:=k1) (w.length-j) j f1 f2 (zs ++ [(g,E,T)]) (by omega) (by omega) (by omega) (by omega) (by simp) hz';rw[<-b4Q zs (g,E,T)]at ih;simp only[List.map_append,List.map_cons,List.map_nil]at ih;rw[eS,eR2];rcases ih with⟨j',us,u1,u2,u3,u4,u5⟩|⟨c,u1,b,L,ys,u2⟩
    ·exact .inl ⟨j',us,by omega,u2,u3,u4,u5⟩
    ·exact .inr ⟨c,u1,b,L,ys,u2⟩
   ·rw[b7P s1]at eS;simp only[j9]at eS;rw[r1]at eR2;simp only[d2,GExpr.eta]at eR2;rw[a6X hlz,d8,N6]at eR2;simp only[d2,Bool.not_false,d8]at eR2;exact .inr ⟨c,eS,b,L,_,eR2⟩
 termination_by m=>m
theorem c36(C:Ctx N w e S R i0 x)(i:Nat)(hi:i0<i)(hl:i<=w.length)(M:Mk)(p d:Int)(hM:M.length<=i)(ks:List d7)(es:List GExpr)(ps:List GPart)(hk:ks.length<=50000)(he:es.length<=50000)(hp:ps.length<=50000)(k n a:Int)(t:d7)
  (k1 self:Int->Int->Bool->Int->List A6->Mk->List d7->List GExpr->RO):
  let RR:=o6 N R x k1 self (i:Int) e false p w M ks es
  (∃(j:Nat) (g:GPart) (E:GExpr) (T:Rel) (s:d7),s.length<=50000/\i+2<j/\j<=w.length/\L2 N S k t n a ks ps (w.drop i) e d=some (.ok (k,t,n,a,ks ++ [s],ps ++ [g],w.drop j,e,d))/\
   RR=(j8 (k9 N (4:Int) ([44]:d7) (j:Int) e false p w (M++T.map (sh (x+1)))) fun t112=>br (!t112.1)
    (k1 t112.2.1 t112.2.2.1 t112.2.2.2.1 t112.2.2.2.2.1 t112.2.2.2.2.2.1 t112.2.2.2.2.2.2 (ks ++ [s]) (es ++ [E]))
    (self t112.2.1 t112.2.2.1 t112.2.2.2.1 t112.2.2.2.2.1 t112.2.2.2.2.2.1 t112.2.2.2.2.2.2 (ks ++ [s]) (es ++ [E])))/\GoodP N g E T (j-(i+2)))\/
  (∃c,L2 N S k t n a ks ps (w.drop i) e d=some (.error c)/\∃b L ls ys,RR=k1 b e true c w L ls ys):=by
 intro RR;have hx1:IntKind.i64.wrap (x+1)=x+1:=M7 (by have:=C.x0;omega) (by have:=C.xb;omega);have eR:RR=o6 N R x k1 self (i:Int) e false p w M ks es:=rfl;unfold o6 at eR;unfold L2;rw[Bool.not_false,d8,hx1]at eR;cases ht:a2q w i with
 |none=>
  rw[c0y ht];simp only[j9,o3];rw[b6t ht,d2]at eR;simp only[E6,d2,C.bad]at eR;simp only[a9j hk,a6X he,v8,o3,d8,N6,d2,Bool.not_false]at eR;exact .inr ⟨_,rfl,_,_,_,_,eR⟩
 |some s=>
  have hti:=(a2O ht).1;have hs:s.length<=50000:=by
   obtain⟨hi,h1,rfl⟩:=a2O ht;exact(C.wok _ (List.getElem_mem hi)).2
  rw[b6H ht];simp only[m5,a9j hk,d8,v8];rw[a7Q C.wl ht,d2]at eR;cases hb:I9 w (i+1) 4 [58]with
  |false=>
   rw[W7 hb];simp only[j9,o3];simp only[Q6 hb,d2,C.bad]at eR;simp only[a9j hk,a6X he,v8,o3,d8,N6,d2,Bool.not_false]at eR;exact .inr ⟨_,rfl,_,_,_,_,eR⟩
  |true=>
   have hbi:=G3 hb;rw[W8 hb];simp only[m5];simp only[t6 C.wl hb,d2]at eR;rcases C.sim (i+2) (by omega) (by omega) (x+1) (by have:=C.x0;omega) (by have:=C.xb;omega) M p d (by omega)with⟨j,g,E,T,hj1,hj2,s1,r1,hg⟩|⟨c,s1,y,b,L,r1⟩
   ·rw[d13 hp s1];simp only[m5,o3];rw[r1,d2]at eR;simp only[GExpr.eta,a9j hk,a6X he,v8,o3,d8]at eR;exact .inl ⟨j,g,E,T,s,hs,by omega,hj2,rfl,eR,hg⟩
   ·rw[c6t s1];simp only[j9,o3];rw[r1,d2]at eR;simp only[GExpr.eta,a9j hk,a6X he,v8,o3,d8,N6,d2,Bool.not_false]at eR;exact .inr ⟨c,rfl,b,L,_,_,eR⟩
theorem b4G(C:Ctx N w e S R i0 x){M0:Mk}(hM0:M0.length<=i0){p d k n a:Int}{t:d7}
  {K:List A6->Int->Int->Int->d7->Int->Int->List d7->List GPart->Option (Except Int (List A6×Int×Int×Int×d7×Int×List d7×Int×List GPart))} {k1:Int->Int->Bool->Int->List A6->Mk->List d7->List GExpr->RO}:
  ∀(m i f1 f2:Nat) (zs:List PZ) (ks:List d7),i+m=w.length->m<f1->m<f2->i0<i->ks.length=zs.length->(∀s∈ks,s.length<=50000)->zs ≠ []->Zs N zs (i-i0)->
  let SS:=b3b N S K f1 (w.drop i) e d k t n a ks (zs.map (·.1))
  let RR:=j8 (k9 N (4:Int) ([44]:d7) (i:Int) e false p w (M0++(zs.map (·.2.2)).flatten.map (sh (x+1)))) fun t112=>br (!t112.1)
   (k1 t112.2.1 t112.2.2.1 t112.2.2.2.1 t112.2.2.2.2.1 t112.2.2.2.2.2.1 t112.2.2.2.2.2.2 ks (zs.map (·.2.1)))
   (s8 N R x k1 f2 t112.2.1 t112.2.2.1 t112.2.2.2.1 t112.2.2.2.2.1 t112.2.2.2.2.2.1 t112.2.2.2.2.2.2 ks (zs.map (·.2.1)))
  (∃(j:Nat) (us:List PZ) (ls:List d7),i<=j/\j<=w.length/\us ≠ []/\ls.length=us.length/\(∀s∈ls,s.length<=50000)/\Zs N us (j-i0)/\SS=K (w.drop j) e d k t n a ls (us.map (·.1))/\RR=k1 (j:Int) e false p w (M0++(us.map (·.2.2)).flatten.map (sh (x+1))) ls (us.map (·.2.1)))\/
  (∃c,SS=some (.error c)/\∃b L ls ys,RR=k1 b e true c w L ls ys)
 |m,i,f1,f2,zs,ks,hm,h1,h2,hi,hkl,hks,hne,hz=>by
  obtain⟨f1,rfl⟩:∃q,f1=q+1:=⟨f1-1,by omega⟩;obtain⟨f2,rfl⟩:∃q,f2=q+1:=⟨f2-1,by omega⟩;intro SS RR;have eS:SS=b3c N S K (b3b N S K f1) (w.drop i) e d k t n a ks (zs.map (·.1)):=rfl;unfold b3c at eS;cases hb:I9 w i 4 [44]with
  |false=>
   rw[O9 hb]at eS;simp only[d2,d9]at eS;have eR:RR=j8 _ _:=rfl;rw[o5 hb]at eR;simp only[d2,Bool.not_false,d8]at eR;exact .inl ⟨i,zs,ks,by omega,by omega,hne,hkl,hks,hz,eS,eR⟩
  |true=>
   have hil:=G3 hb;rw[R4 hb]at eS;simp only[d2,d8]at eS;have eR:RR=j8 _ _:=rfl;rw[C8 C.wl hb]at eR;simp only[d2,Bool.not_true,d9]at eR;have eR2:RR=o6 N R x k1 (s8 N R x k1 f2) ((i+1:Nat):Int) e false p w (M0++(zs.map (·.2.2)).flatten.map (sh (x+1))) ks (zs.map (·.2.1)):=eR;have hx1:IntKind.i64.wrap (x+1)=x+1:=M7 (by have:=C.x0;omega) (by have:=C.xb;omega);have hzl:=hz.len;have hwl:=C.wl;have hlz:(zs.map (·.2.1)).length<=50000:=by simp;omega
   have hlk:ks.length<=50000:=by omega
   have step:=c36 C (i+1) (by omega) (by omega) (M0++(zs.map (·.2.2)).flatten.map (sh (x+1))) p d (by have:=hz.rel;rw[List.length_append,List.length_map];omega) ks (zs.map (·.2.1)) (zs.map (·.1)) hlk hlz (by simp;omega) k n a t k1 (s8 N R x k1 f2);rcases step with⟨j,g,E,T,s,hs,hj1,hj2,s1,r1,hg⟩|⟨c,s1,b,L,ls,ys,r1⟩
   ·rw[s1]at eS;simp only[m5]at eS;rw[r1]at eR2;have hz':Zs N (zs ++ [(g,E,T)]) (j-i0):=hz.snoc (j:=j-(i+1)) (hg.mono (by omega)) (by omega) (by omega);have ih:=b4G C hM0 (p:=p) (d:=d) (k:=k) (n:=n) (a:=a) (t:=t) (K:=K) (k1:=k1) (w.length-j) j f1 f2 (zs ++ [(g,E,T)]) (ks ++ [s]) (by omega) (by omega) (by omega) (by omega) (by simp;omega) (fun u hu=>by
     rcases List.mem_append.1 hu with hu|hu
     ·exact hks u hu
     ·rw[List.mem_singleton.1 hu];exact hs) (by simp) hz'
    rw[<-b4Q zs (g,E,T)]at ih;simp only[List.map_append,List.map_cons,List.map_nil]at ih;rw[eS,eR2];rcases ih with⟨j',us,ls,u1,u2,u3,u4,u5,u6,u7,u8⟩|⟨c,u1,b,L,ls,ys,u2⟩
    ·exact .inl ⟨j',us,ls,by omega,u2,u3,u4,u5,u6,u7,u8⟩
    ·exact .inr ⟨c,u1,b,L,ls,ys,u2⟩
   ·rw[s1]at eS;simp only[j9]at eS;exact .inr ⟨c,eS,b,L,ls,ys,by rw[eR2,r1]⟩
 termination_by m=>m
end
end
section
variable{N:Nat}
theorem Ctx.next{w:List A6}{e x:Int}{S:SX}{R:RX}{i0:Nat}(C:Ctx N w e S R i0 x){i1:Nat}(h:i0<=i1):Ctx N w e S R i1 x:=
 ⟨C.hN,C.wl,C.wok,C.e0,C.x0,by have:=C.xb;omega,fun i h1 h2 y h3 h4=>C.sim i (by omega) h2 y h3 h4,C.bad⟩
theorem a7J(M:Mk)(a x:Int)(T:Rel):M++List.map (sh x) ((a,0) :: T.map (sh 1))=(M ++ [(a,x)])++T.map (sh (x+1)):=by
 rw[List.map_cons,b46,Int.add_comm 1 x];simp[sh]
theorem Zs.one{z:PZ}{k:Nat}(h:GoodP N z.1 z.2.1 z.2.2 k)(hk:0<k):Zs N [z] k:=
 ⟨fun y hy=>by rw[List.mem_singleton.1 hy];exact h,by simp;omega,by have:=h.len;simpa using this,by have:=h.bk;simp only[List.map_cons,List.map_nil,List.sum_cons,List.sum_nil,List.length_cons,List.length_nil];omega⟩
theorem a3y(hN:J0<=N):∃f,N=f+1/\100000<f:=⟨N-1,by unfold J0 at hN;omega,by unfold J0 at hN;omega⟩
section
variable{w:List A6}{e x:Int}{S:SX}{R:RX}{i0:Nat}
theorem b9J(C:Ctx N w e S R i0 x)(i:Nat)(hi:i0<i)(hl:i<=w.length)(M:Mk)(p d:Int)(hM:M.length<=i)(k n a:Int)(t:d7)
  (k1 self:Int->Int->Bool->Int->List A6->Mk->List d7->List GExpr->RO):
  let RR:=o6 N R x k1 self (i:Int) e false p w M [] []
  (∃(j:Nat) (g:GPart) (E:GExpr) (T:Rel) (s:d7),s.length<=50000/\i+2<j/\j<=w.length/\K4 N S k t n a (w.drop i) e d=some (.ok (k,t,n,a,w.drop j,e,d,[s],[g]))/\
   RR=(j8 (k9 N (4:Int) ([44]:d7) (j:Int) e false p w (M++T.map (sh (x+1)))) fun t112=>br (!t112.1)
    (k1 t112.2.1 t112.2.2.1 t112.2.2.2.1 t112.2.2.2.2.1 t112.2.2.2.2.2.1 t112.2.2.2.2.2.2 [s] [E])
    (self t112.2.1 t112.2.2.1 t112.2.2.2.1 t112.2.2.2.2.1 t112.2.2.2.2.2.1 t112.2.2.2.2.2.2 [s] [E]))/\GoodP N g E T (j-(i+2)))\/
  (∃c,K4 N S k t n a (w.drop i) e d=some (.error c)/\∃b L ls ys,RR=k1 b e true c w L ls ys):=by
 intro RR;have hx1:IntKind.i64.wrap (x+1)=x+1:=M7 (by have:=C.x0;omega) (by have:=C.xb;omega);have eR:RR=o6 N R x k1 self (i:Int) e false p w M [] []:=rfl;unfold o6 at eR;unfold K4;rw[Bool.not_false,d8,hx1]at eR;cases ht:a2q w i with
 |none=>
  rw[c0y ht];simp only[j9,o3];rw[b6t ht,d2]at eR;simp only[E6,d2,C.bad]at eR;simp only[a9j (l:=[]) (show([]:List d7).length<=50000 by simp),a6X (l:=[]) (show([]:List GExpr).length<=50000 by simp),v8,o3,d8,N6,d2,Bool.not_false]at eR;exact .inr ⟨_,rfl,_,_,_,_,eR⟩
 |some s=>
  have hti:=(a2O ht).1;have hs:s.length<=50000:=by
   obtain⟨hi,h1,rfl⟩:=a2O ht;exact(C.wok _ (List.getElem_mem hi)).2
  rw[b6H ht];simp only[m5,show ∀q:d7,Zf [q].length .str=true from fun q=>by simp[Ty.sz],d8,v8];rw[a7Q C.wl ht,d2]at eR;cases hb:I9 w (i+1) 4 [58]with
  |false=>
   rw[W7 hb];simp only[j9,o3];simp only[Q6 hb,d2,C.bad]at eR;simp only[a9j (l:=[]) (show([]:List d7).length<=50000 by simp),a6X (l:=[]) (show([]:List GExpr).length<=50000 by simp),v8,o3,d8,N6,d2,Bool.not_false]at eR;exact .inr ⟨_,rfl,_,_,_,_,eR⟩
  |true=>
   have hbi:=G3 hb;rw[W8 hb];simp only[m5];simp only[t6 C.wl hb,d2]at eR;rcases C.sim (i+2) (by omega) (by omega) (x+1) (by have:=C.x0;omega) (by have:=C.xb;omega) M p d (by omega)with⟨j,g,E,T,hj1,hj2,s1,r1,hg⟩|⟨c,s1,y,b,L,r1⟩
   ·rw[d12 s1];simp only[m5,o3];rw[r1,d2]at eR;simp only[GExpr.eta,a9j (l:=[]) (show([]:List d7).length<=50000 by simp),a6X (l:=[]) (show([]:List GExpr).length<=50000 by simp),v8,o3,d8]at eR;exact .inl ⟨j,g,E,T,s,hs,by omega,hj2,rfl,eR,hg⟩
   ·rw[c6s s1];simp only[j9,o3];rw[r1,d2]at eR;simp only[GExpr.eta,a9j (l:=[]) (show([]:List d7).length<=50000 by simp),a6X (l:=[]) (show([]:List GExpr).length<=50000 by simp),v8,o3,d8,N6,d2,Bool.not_false]at eR;exact .inr ⟨c,rfl,b,L,_,_,eR⟩
theorem b7Q{f:Nat}(hf:N=f+1){R:RX}{x:Int}{k1:Int->Int->Bool->Int->List A6->Mk->List GExpr->RO}{a e p:Int}{b:Bool}{w:List A6}{M:Mk}{ys:List GExpr}:
  x6 N R x k1 N a e b p w M ys=D5 N R x k1 (x6 N R x k1 f) a e b p w M ys:=by
 subst hf;rfl
theorem a4C{f:Nat}(hf:N=f+1){R:RX}{x:Int}{k1:Int->Int->Bool->Int->List A6->Mk->List d7->List GExpr->RO}{a e p:Int}{b:Bool}{w:List A6}{M:Mk}{ks:List d7}{ys:List GExpr}:
  s8 N R x k1 N a e b p w M ks ys=o6 N R x k1 (s8 N R x k1 f) a e b p w M ks ys:=by
 subst hf;rfl
theorem c6k(C:Ctx N w e S R i0 x)(hi:i0+1<=w.length){M0:Mk}(hM0:M0.length<=i0+1){p d a:Int}:
  let SS:=H8 N S ([93]:d7) true (w.drop (i0+1)) e d (4:Int) ([]:d7) (0:Int) a
  let RR:=x6 N R x (fun o0_0_1 o0_0_2 o0_0_3 o0_0_4 o0_w1 o0_w2 o0_w900001=>
         j8 (k6 N ([93]:d7) o0_0_1 o0_0_2 o0_0_3 o0_0_4 o0_w1 o0_w2) fun t115=>
         some (GExpr.mk (4:Int) ([]:d7) (0:Int) ([]:List d7) o0_w900001,t115)) N ((i0+1:Nat):Int) e false p w M0 ([]:List GExpr)
  (∃(j:Nat) (us:List PZ),i0+1<j/\j<=w.length/\Zs N us (j-(i0+1))/\SS=some (.ok (w.drop j,e,d,(4:Int),([]:d7),(0:Int),a,us.map (·.1)))/\
   RR=some (GExpr.mk (4:Int) ([]:d7) (0:Int) ([]:List d7) (us.map (·.2.1)),(j:Int),e,false,p,w,M0++(us.map (·.2.2)).flatten.map (sh (x+1))))\/
  (∃c,SS=some (.error c)/\∃y b K,RR=some (y,b,e,true,c,w,K)):=by
 intro SS RR;obtain⟨f,hf,hf2⟩:=a3y C.hN;have hwl:=C.wl;have eR:RR=x6 N R x _ N ((i0+1:Nat):Int) e false p w M0 []:=rfl;have eS:SS=H8 N S ([93]:d7) true (w.drop (i0+1)) e d (4:Int) ([]:d7) (0:Int) a:=rfl;unfold H8 at eS;rw[d8]at eS;have hx1:IntKind.i64.wrap (x+1)=x+1:=M7 (by have:=C.x0;omega) (by have:=C.xb;omega);have eR2:=eR;rw[b7Q hf]at eR2;unfold D5 at eR2;simp only[Bool.not_false,d8,show decide (((([]:List GExpr).length:Nat):Int)>0)=false by decide,d9,S5,d2,hx1]at eR2;cases hb:I9 w (i0+1) 4 [93]with
 |true=>
  have hbl:=G3 hb;rw[R4 hb]at eS;simp only[d2,d8]at eS;rw[hb]at eR2;simp only[Bool.not_true,d9,t6 C.wl hb,d2]at eR2;exact .inl ⟨i0+1+1,[],by omega,by omega,⟨by simp,by simp,by simp,by simp⟩,eS,by rw[eR2];simp⟩
 |false=>
  rw[O9 hb]at eS;simp only[d2,d9]at eS;rw[hb]at eR2;simp only[Bool.not_false,d8]at eR2;rcases C.sim (i0+1) (by omega) hi (x+1) (by have:=C.x0;omega) (by have:=C.xb;omega) M0 p d hM0 with⟨j,g,E,T,hj1,hj2,s1,r1,hg⟩|⟨c,s1,y,b,L,r1⟩
  ·rw[b6c s1]at eS;simp only[m5]at eS;rw[r1]at eR2;simp only[d2,GExpr.eta]at eR2;rw[a6X (l:=[]) (by simp),d8]at eR2;have lp:=b4W (C.next (i1:=i0+1) (by omega)) hM0 (p:=p) (d:=d) (k:=4) (n:=0) (a:=a) (t:=[])
    (K:=fun o0_0_0 o0_0_1 o0_0_2 o0_1_0 o0_1_1 o0_1_2 o0_1_5 o0_w101500=>
     l8 (j7 N ([93]:d7) o0_0_0 o0_0_1 o0_0_2) fun t22=>
     some (.ok (t22.1,t22.2.1,t22.2.2,o0_1_0,o0_1_1,o0_1_2,o0_1_5,o0_w101500)))
    (k1:=fun o0_0_1 o0_0_2 o0_0_3 o0_0_4 o0_w1 o0_w2 o0_w900001=>
     j8 (k6 N ([93]:d7) o0_0_1 o0_0_2 o0_0_3 o0_0_4 o0_w1 o0_w2) fun t115=>
     some (GExpr.mk (4:Int) ([]:d7) (0:Int) ([]:List d7) o0_w900001,t115))
    (w.length-j) j N f [(g,E,T)] (by omega) (by omega) (by omega) (by omega) (by simp) (Zs.one hg (by omega))
   simp only[List.map_cons,List.map_nil,List.flatten_cons,List.flatten_nil,List.append_nil]at lp;simp only[List.nil_append]at eR2;rw[eS,eR2];rcases lp with⟨j',us,u1,u2,u3,u4,u5⟩|⟨c,u1,b,L,ys,u2⟩
   ·rw[u4,u5];cases hs:I9 w j' 4 [93]with
    |true=>
     have hsl:=G3 hs;rw[W8 hs,t6 C.wl hs];simp only[m5,d2];exact .inl ⟨j'+1,us,by omega,by omega,u3.mono (by omega),rfl,rfl⟩
    |false=>
     rw[W7 hs,Q6 hs];simp only[j9,d2];exact .inr ⟨_,rfl,_,_,_,rfl⟩
   ·rw[u1,u2,E6,d2];exact .inr ⟨_,rfl,_,_,_,rfl⟩
  ·rw[b1S s1]at eS;simp only[j9]at eS;rw[r1]at eR2;simp only[d2,GExpr.eta]at eR2;rw[a6X (l:=[]) (by simp),d8,N6]at eR2;simp only[d2,Bool.not_false,d8,E6]at eR2;exact .inr ⟨c,eS,_,_,_,eR2⟩
theorem b9M(C:Ctx N w e S R i0 x)(hi:i0+1<=w.length){M0:Mk}(hM0:M0.length<=i0+1){p d a:Int}:
  let SS:=l8 (j7 N ([123]:d7) (w.drop (i0+1)) e d) fun t94=>l8 (K5 N S ([125]:d7) false t94.1 t94.2.1 t94.2.2 (6:Int) ([]:d7) (0:Int) a) fun t97=>
   some (.ok (GPart.mk t97.2.2.2.1 t97.2.2.2.2.1 t97.2.2.2.2.2.1 t97.2.2.2.2.2.2.1 t97.2.2.2.2.2.2.2.1 t97.2.2.2.2.2.2.2.2,t97.1,t97.2.1,t97.2.2.1))
  let RR:=Q2 N R x ((i0+1:Nat):Int) e false p w M0
  (∃(j:Nat) (us:List PZ) (ls:List d7),i0+1<j/\j<=w.length/\us ≠ []/\ls.length=us.length/\(∀s∈ls,s.length<=50000)/\Zs N us (j-(i0+1))/\SS=some (.ok (GPart.mk 6 [] 0 ls a (us.map (·.1)),w.drop j,e,d))/\
   RR=some (GExpr.mk (6:Int) ([]:d7) (0:Int) ls (us.map (·.2.1)),(j:Int),e,false,p,w,M0++(us.map (·.2.2)).flatten.map (sh (x+1))))\/
  (∃c,SS=some (.error c)/\∃y b K,RR=some (y,b,e,true,c,w,K)):=by
 intro SS RR;obtain⟨f,hf,hf2⟩:=a3y C.hN;have hwl:=C.wl;have eR:RR=Q2 N R x ((i0+1:Nat):Int) e false p w M0:=rfl;have eS:SS=l8 _ _:=rfl;unfold Q2 at eR;cases hb:I9 w (i0+1) 4 [123]with
 |false=>
  rw[W7 hb,j9]at eS;rw[Q6 hb,d2,a4C hf]at eR;unfold o6 at eR;simp only[Bool.not_true,d9,E6,d2]at eR;exact .inr ⟨_,eS,_,_,_,eR⟩
 |true=>
  have hbl:=G3 hb;rw[W8 hb]at eS;simp only[m5]at eS;rw[t6 C.wl hb,d2]at eR;simp only at eR;have eR2:=eR;rw[a4C hf]at eR2;unfold K5 at eS;rw[d9]at eS;rcases b9J (C.next (i1:=i0+1) (by omega)) (i0+2) (by omega) (by omega) M0 p d (by omega) 6 0 a [] _ _ with⟨j,g,E,T,s,hs,hj1,hj2,s1,r1,hg⟩|⟨c,s1,b,L,ls,ys,r1⟩
  ·rw[s1]at eS;simp only[m5]at eS;rw[r1]at eR2;have lp:=b4G (C.next (i1:=i0+1) (by omega)) hM0 (p:=p) (d:=d) (k:=6) (n:=0) (a:=a) (t:=[])
    (K:=fun o0_0_0 o0_0_1 o0_0_2 o0_1_0 o0_1_1 o0_1_2 o0_1_5 o0_w101500 o0_w101501=>
     l8 (j7 N ([125]:d7) o0_0_0 o0_0_1 o0_0_2) fun t22=>
     some (.ok (t22.1,t22.2.1,t22.2.2,o0_1_0,o0_1_1,o0_1_2,o0_w101500,o0_1_5,o0_w101501)))
    (k1:=fun o0_0_1 o0_0_2 o0_0_3 o0_0_4 o0_w1 o0_w2 o0_w900001 o0_w900002=>
     j8 (k6 N ([125]:d7) o0_0_1 o0_0_2 o0_0_3 o0_0_4 o0_w1 o0_w2) fun t40=>
     some (GExpr.mk (6:Int) ([]:d7) (0:Int) o0_w900001 o0_w900002,t40))
    (w.length-j) j N f [(g,E,T)] [s] (by omega) (by omega) (by omega) (by omega) rfl (fun u hu=>by rw[List.mem_singleton.1 hu];exact hs) (by simp) ((Zs.one hg (by omega)).mono (by omega))
   simp only[List.map_cons,List.map_nil,List.flatten_cons,List.flatten_nil,List.append_nil]at lp;rw[eS,eR2];rcases lp with⟨j',us,ls,u1,u2,u3,u4,u5,u6,u7,u8⟩|⟨c,u1,b,L,ls,ys,u2⟩
   ·rw[u7,u8];cases hs:I9 w j' 4 [125]with
    |true=>
     have hsl:=G3 hs;rw[W8 hs,t6 C.wl hs];simp only[m5,d2];exact .inl ⟨j'+1,us,ls,by omega,by omega,u3,u4,u5,u6.mono (by omega),rfl,rfl⟩
    |false=>
     rw[W7 hs,Q6 hs];simp only[j9,d2];exact .inr ⟨_,rfl,_,_,_,rfl⟩
   ·rw[u1,u2,E6,d2];exact .inr ⟨_,by simp only[j9],_,_,_,rfl⟩
  ·rw[s1]at eS;simp only[j9]at eS;rw[r1,E6,d2]at eR2;exact .inr ⟨c,eS,_,_,_,eR2⟩
theorem c2m(C:Ctx N w e S R i0 x)(hi0:i0<=w.length):c5v N w e (N8 N S) (s7 N R) i0 x:=by
 intro M p d hM;have hwl:=C.wl;have hx0:=C.x0;have hxb:=C.xb;have hx1:IntKind.i64.wrap (x+1)=x+1:=M7 (by omega) (by omega);have ha:=b5R C.wok C.e0 i0;obtain⟨SS,eS⟩:∃s,s=N8 N S (w.drop i0) e d:=⟨_,rfl⟩;obtain⟨RR,eR⟩:∃s,s=s7 N R x (i0:Int) e false p w M:=⟨_,rfl⟩;rw[<-eS,<-eR];unfold N8 at eS;unfold s7 at eR;rw[d9,a1u (by omega),d2]at eR;rw[b6w,d2]at eS;simp only[hx1]at eR;simp only at eS;by_cases hi:i0<w.length
 case neg=>
  rw[b0C hi,d8,a2l,j9]at eS;rw[decide_eq_true (show(i0:Int)>=(w.length:Int) by omega),d8,a7N,d2]at eR;exact .inr ⟨_,eS,_,_,_,eR⟩
 rw[a5K hi,d9,b1C hi,d2]at eS;rw[decide_eq_false (show ¬(i0:Int)>=(w.length:Int) by omega),d9,p6 _ hi,d2]at eR;have lenT:=(C.wok _ (List.getElem_mem hi)).2;by_cases h2:w[i0].1=2
 ·have ht:a2q w i0=some w[i0].2.1:=by
   unfold a2q;rw[List.getElem?_eq_getElem hi];simp[h2]
  rw[h2]at eS eR;rw[show((2:Int)==2)=true by decide,d8,b6H ht,m5]at eS;rw[show((2:Int)==2)=true by decide,d8,b1P C.wl hi]at eR;exact .inl ⟨i0+1,_,_,[(S9 w i0 e,0)],by omega,by omega,eS,by rw[eR];simp[sh],a9m C.hN ha (by decide) (by decide) (by omega) (by rw[show i0+1-i0=0+1 by omega];exact .inl ⟨_,lenT,rfl⟩) lenT⟩
 rw[show(w[i0].1==2)=false by simpa using h2,d9]at eS eR;by_cases h3:w[i0].1=3
 ·rw[h3]at eS eR;rw[show((3:Int)==3)=true by decide,d8,c2e hi,d2]at eS;rw[show((3:Int)==3)=true by decide,d8,b1P C.wl hi]at eR;exact .inl ⟨i0+1,_,_,[(S9 w i0 e,0)],by omega,by omega,eS,by rw[eR];simp[sh],a9m C.hN ha (by decide) (by decide) (by omega) (by rw[show i0+1-i0=0+1 by omega];exact .inr (.inl ⟨_,rfl⟩)) (by simp)⟩
 rw[show(w[i0].1==3)=false by simpa using h3,d9]at eS eR;have hM1:(M ++ [(S9 w i0 e,x)]).length<=i0+1:=by simp;omega
 cases b1:I9 w i0 4 [40]with
 |true=>
  rw[R4 b1]at eS;rw[C8 C.wl b1]at eR;simp only[d2,d8]at eS eR;rcases C.sim (i0+1) (by omega) (by omega) (x+1) (by omega) (by omega) (M ++ [(S9 w i0 e,x)]) p d hM1 with⟨j,g,E,T,hj1,hj2,s1,r1,hg⟩|⟨c,s1,y,b,L,r1⟩
  ·rw[b6c s1]at eS;rw[r1]at eR;simp only[m5,d2]at eS eR;cases hs:I9 w j 4 [41]with
   |true=>
    have hsl:=G3 hs;rw[W8 hs,m5]at eS;rw[t6 C.wl hs,d2,GExpr.eta]at eR;exact .inl ⟨j+1,_,_,(S9 w i0 e,0) :: T.map (sh 1),by omega,by omega,eS,by rw[eR,a7J],b91 C.hN ha (by omega) hg⟩
   |false=>
    rw[W7 hs,j9]at eS;rw[Q6 hs,d2]at eR;exact .inr ⟨_,eS,_,_,_,eR⟩
  ·rw[b1S s1,j9]at eS;rw[r1,d2,E6,d2]at eR;exact .inr ⟨_,eS,_,_,_,eR⟩
 |false=>
 rw[O9 b1]at eS;rw[o5 b1]at eR;simp only[d2,d9]at eS eR;cases b2:I9 w i0 4 [91]with
 |true=>
  rw[R4 b2]at eS;rw[C8 C.wl b2]at eR;simp only[d2,d8]at eS eR;rcases c6k C (by omega) hM1 (p:=p) (d:=d) (a:=S9 w i0 e)with⟨j,us,hj1,hj2,hz,s1,r1⟩|⟨c,s1,y,b,L,r1⟩
  ·rw[s1,m5]at eS;rw[r1]at eR;have hzl:=hz.len;refine .inl ⟨j,_,_,(S9 w i0 e,0) :: (us.map (·.2.2)).flatten.map (sh 1),by omega,by omega,eS,by rw[eR,a7J],a5E C.hN (kind:=4) (keys:=[]) (t:=[]) (num:=0) ha (by decide) (by decide) (k:=j-(i0+1)) (by omega) us (by omega) hz.good (by have:=hz.rel;omega) ?_ (by have:=hz.sum;rw[a0M];simp only[List.map_nil,List.sum_nil,List.length_nil];omega)⟩;rw[show j-i0=(j-(i0+1))+1 by omega];exact .inr (.inr (.inr (.inl ⟨_,by simp;omega,rfl,fun c hc=>by obtain⟨z,hz1,rfl⟩:=List.mem_map.1 hc;exact(hz.good z hz1).ok⟩)))
  ·rw[s1,j9]at eS;rw[r1]at eR;exact .inr ⟨_,eS,_,_,_,eR⟩
 |false=>
 rw[O9 b2]at eS;rw[o5 b2]at eR;simp only[d2,d9]at eS eR;cases b3:I9 w i0 1 [102,105,108,101,115]with
 |true=>
  rw[R4 b3]at eS;rw[C8 C.wl b3]at eR;simp only[d2,d8]at eS eR;cases c1:I9 w (i0+1) 4 [40]with
  |false=>
   rw[W7 c1,j9]at eS;rw[Q6 c1]at eR;simp only[d2,C.bad,E6]at eR;exact .inr ⟨_,eS,_,_,_,eR⟩
  |true=>
  have l1:=G3 c1;rw[W8 c1,m5]at eS;rw[t6 C.wl c1,d2]at eR;simp only at eS eR;rcases C.sim (i0+2) (by omega) (by omega) (x+1) (by omega) (by omega) (M ++ [(S9 w i0 e,x)]) p d (by omega)with⟨j,g,E,T,hj1,hj2,s1,r1,hg⟩|⟨c,s1,y,b,L,r1⟩
  case inr=>
   rw[b1S s1,j9]at eS;rw[r1]at eR;simp only[d2,E6,C.bad]at eR;exact .inr ⟨_,eS,_,_,_,eR⟩
  rw[b6c s1,m5]at eS;rw[r1,d2]at eR;simp only at eS eR;cases c2:I9 w j 4 [44]with
  |false=>
   rw[W7 c2,j9]at eS;rw[Q6 c2]at eR;simp only[d2,C.bad,E6]at eR;exact .inr ⟨_,eS,_,_,_,eR⟩
  |true=>
  have l2:=G3 c2;rw[W8 c2,m5]at eS;rw[t6 C.wl c2,d2]at eR;simp only at eS eR;have hTl:=hg.len;rcases C.sim (j+1) (by omega) (by omega) (x+1) (by omega) (by omega) ((M ++ [(S9 w i0 e,x)])++T.map (sh (x+1))) p d (by simp at hM1 ⊢;omega)with⟨j2,g2,E2,T2,hj3,hj4,s2,r2,hg2⟩|⟨c,s2,y,b,L,r2⟩
  case inr=>
   rw[b7P s2,j9]at eS;rw[r2]at eR;simp only[d2,E6,C.bad]at eR;exact .inr ⟨_,eS,_,_,_,eR⟩
  rw[c2l (by simp) s2,m5]at eS;rw[r2,d2]at eR;simp only at eS eR;cases c3:I9 w j2 4 [41]with
  |false=>
   rw[W7 c3,j9]at eS;rw[Q6 c3]at eR;simp only[d2]at eR;exact .inr ⟨_,eS,_,_,_,eR⟩
  |true=>
  have l3:=G3 c3;rw[W8 c3,m5]at eS;rw[t6 C.wl c3,d2]at eR;simp only[GExpr.eta,List.cons_append,List.nil_append]at eS eR;have hz:Zs N [(g,E,T),(g2,E2,T2)] (j2-i0-1):=(Zs.one hg (by omega)).snoc (z:=(g2,E2,T2)) hg2 (by omega) (by omega);have gm:=a5E C.hN (a:=S9 w i0 e) (keys:=[]) (t:=[]) (num:=0) ha (show(5:Int)≠0 by decide) (by decide) (k:=j2-i0-1) (m:=j2+1-i0) (by omega) _ (by simp) hz.good (by have:=hz.rel;omega) (by
   rw[show j2+1-i0=(j2-i0)+1 by omega];exact .inr (.inr (.inr (.inr (.inl ⟨E,E2,rfl,hg.ok.mono (by omega),hg2.ok.mono (by omega)⟩))))) (by
   have:=hz.bk;rw[a0M];simp only[List.map_cons,List.map_nil,List.sum_cons,List.sum_nil,List.length_cons,List.length_nil]at this ⊢;omega)
  refine .inl ⟨j2+1,_,_,_,by omega,by omega,eS,?_,gm⟩;rw[eR,a7J];simp
 |false=>
 rw[O9 b3]at eS;rw[o5 b3]at eR;simp only[d2,d9]at eS eR;cases b4:I9 w i0 1 [99,104,111,111,115,101]with
 |true=>
  rw[R4 b4]at eS;rw[C8 C.wl b4]at eR;simp only[d2,d8]at eS eR;rcases b9M C (by omega) hM1 (p:=p) (d:=d) (a:=S9 w i0 e)with⟨j,us,ls,hj1,hj2,hne,hll,hls,hz,s1,r1⟩|⟨c,s1,y,b,L,r1⟩
  ·rw[s1]at eS;rw[r1,d2]at eR;simp only[GExpr.eta]at eR;have hzl:=hz.len;have hpos:=List.length_pos_iff.2 hne;refine .inl ⟨j,_,_,(S9 w i0 e,0) :: (us.map (·.2.2)).flatten.map (sh 1),by omega,by omega,eS,by rw[eR,a7J],a5E C.hN (kind:=6) (keys:=ls) (t:=[]) (num:=0) ha (by decide) (by decide) (k:=j-(i0+1)) (by omega) us (by omega) hz.good (by have:=hz.rel;omega) ?_ (by have:=hz.bk;have:=b6E (fun q:d7=>q.length+1) 50001 ls (fun q hq=>by have:=hls q hq;omega);rw[a0M];simp only[List.length_nil];omega)⟩;rw[show j-i0=(j-(i0+1))+1 by omega];exact .inr (.inr (.inr (.inr (.inr (.inl ⟨ls,_,by simp;omega,by simp;omega,by simp;omega,hls,rfl,fun c hc=>by obtain⟨z,hz1,rfl⟩:=List.mem_map.1 hc;exact(hz.good z hz1).ok⟩)))))
  ·rw[s1]at eS;rw[r1,d2]at eR;exact .inr ⟨_,eS,_,_,_,eR⟩
 |false=>
 rw[O9 b4]at eS;rw[o5 b4]at eR;simp only[d2,d9]at eS eR;cases hn:Q1 w i0 with
 |none=>
  rw[a3K C.hN C.wok hn,j9]at eS;rw[a2M C.hN C.wok hn,d2]at eR;exact .inr ⟨_,eS,_,_,_,eR⟩
 |some s=>
  rw[a65 C.hN C.wok hn,m5]at eS;rw[a0o C.hN C.wl C.wok hn,d2]at eR;obtain⟨_,q1,q2,q3⟩:=S1 hn;subst q3;exact .inl ⟨i0+1,_,_,[(S9 w i0 e,0)],by omega,by omega,eS,by rw[eR];simp[sh],a9m C.hN ha (by decide) (by decide) (by omega) (by rw[show i0+1-i0=0+1 by omega];exact .inr (.inr (.inl ⟨_,lenT,q2,rfl⟩))) lenT⟩
end
end
section
variable{N:Nat}
section
variable{w:List A6}{e x:Int}{S:SX}{R:RX}{i0:Nat}
theorem c2D{f:Nat}(hf:0<f){k0:Int->Int->Bool->Int->List A6->Mk->Int->d7->Int->List d7->List GExpr->RO}{a p:Int}{M:Mk}{k n:Int}{t:d7}{ks:List d7}{ys:List GExpr}:
  B4 N R x k0 f a e true p w M k t n ks ys=k0 a e true p w M k t n ks ys:=by
 obtain⟨f,rfl⟩:∃q,f=q+1:=⟨f-1,by omega⟩;show F3 _ _ _ _ _ _ _ _ _ _ _ _ _ _ _ _=_;unfold F3;rw[N6,d2];simp only[d9]
theorem b8r(C:Ctx N w e S R i0 x){M0:Mk}(hM0:M0.length<=i0){p d a:Int}
  {K:List A6->Int->Int->Int->d7->Int->List d7->Unit->List GPart->Option (Except Int (GPart×List A6×Int×Int))} {k0:Int->Int->Bool->Int->List A6->Mk->Int->d7->Int->List d7->List GExpr->RO}:
  ∀(m i f1 f2:Nat) (g:GPart) (E:GExpr) (T:Rel),i+m=w.length->m<f1->m<f2->i0<i->g.at_=a->GoodP N g E T (i-i0)->
  let SS:=b5B N S a K f1 (w.drop i) e d g.kind g.text g.number g.keys () g.kids
  let RR:=B4 N R x k0 f2 (i:Int) e false p w (M0++T.map (sh x)) E.kind E.text E.number E.keys E.kids
  (∃(j:Nat) (g':GPart) (E':GExpr) (T':Rel),i<=j/\j<=w.length/\g'.at_=a/\GoodP N g' E' T' (j-i0)/\SS=K (w.drop j) e d g'.kind g'.text g'.number g'.keys () g'.kids/\RR=k0 (j:Int) e false p w (M0++T'.map (sh x)) E'.kind E'.text E'.number E'.keys E'.kids)\/
  (∃c,SS=some (.error c)/\∃b L k t n ks es,RR=k0 b e true c w L k t n ks es)
 |m,i,f1,f2,g,E,T,hm,h1,h2,hi,hga,hg=>by
  obtain⟨f1,rfl⟩:∃q,f1=q+1:=⟨f1-1,by omega⟩;obtain⟨f2,rfl⟩:∃q,f2=q+1:=⟨f2-1,by omega⟩;intro SS RR;have hwl:=C.wl;have eS:SS=b3C N S a K (b5B N S a K f1) (w.drop i) e d g.kind g.text g.number g.keys () g.kids:=rfl;have eR:RR=F3 N R x k0 (B4 N R x k0 f2) (i:Int) e false p w (M0++T.map (sh x)) E.kind E.text E.number E.keys E.kids:=rfl;unfold b3C at eS;unfold F3 at eR;cases hb:I9 w i 4 [43]with
  |false=>
   rw[O9 hb]at eS;rw[o5 hb]at eR;simp only[d2,d9]at eS eR;exact .inl ⟨i,g,E,T,by omega,by omega,hga,hg,eS,eR⟩
  |true=>
   have hil:=G3 hb;rw[R4 hb]at eS;rw[C8 C.wl hb]at eR;simp only[d2,d8]at eS eR;rcases c2m (C.next (i1:=i+1) (by omega)) (by omega) (M0++T.map (sh x)) p d (by have:=hg.len;rw[List.length_append,List.length_map];omega)with⟨j,g2,E2,T2,hj1,hj2,s1,r1,hg2⟩|⟨c,s1,y,b,L,r1⟩
   ·rw[s1,m5]at eS;rw[r1,d2]at eR;simp only[GPart.eta,GExpr.eta]at eS eR;rw[<-hga,GPart.eta]at eS;have hg3:=(b7z C.hN (m:=j-i0) (by omega) (by omega) (by omega) hg hg2).2;have ih:=b8r C hM0 (p:=p) (d:=d) (a:=g.at_) (K:=K) (k0:=k0) (w.length-j) j f1 f2 (.mk 7 [] 0 [] g.at_ [g,g2]) (.mk 7 [] 0 [] [E,E2]) (T++T2) (by omega) (by omega) (by omega) (by omega) rfl hg3;simp only[List.map_append]at ih;rw[<-List.append_assoc]at ih;rw[eS,eR];rcases ih with⟨j',g',E',T',u1,u2,u3,u4,u5,u6⟩|⟨c,u1,b,L,k,t,n,ks,es,u2⟩
    ·exact .inl ⟨j',g',E',T',by omega,u2,by rw[<-hga];exact u3,u4,u5,u6⟩
    ·exact .inr ⟨c,u1,b,L,k,t,n,ks,es,u2⟩
   ·rw[s1,j9]at eS;rw[r1,d2,c2D (by omega)]at eR;exact .inr ⟨c,eS,b,L,_,_,_,_,_,eR⟩
 termination_by m=>m
theorem c2F(C:Ctx N w e S R i0 x)(hi0:i0<=w.length):c5v N w e (J9 N S) (K9 N R) i0 x:=by
 intro M p d hM;have hwl:=C.wl;obtain⟨f,hf,hf2⟩:=a3y C.hN;obtain⟨SS,eS⟩:∃s,s=J9 N S (w.drop i0) e d:=⟨_,rfl⟩;obtain⟨RR,eR⟩:∃s,s=K9 N R x (i0:Int) e false p w M:=⟨_,rfl⟩;rw[<-eS,<-eR];unfold J9 at eS;unfold K9 at eR;rcases c2m C hi0 M p d hM with⟨j,g,E,T,hj1,hj2,s1,r1,hg⟩|⟨c,s1,y,b,L,r1⟩
 ·rw[s1,m5]at eS;rw[r1,d2]at eR;have lp:=b8r C hM (p:=p) (d:=d) (a:=g.at_)
   (K:=fun o0_0_0 o0_0_1 o0_0_2 o0_1003_0 o0_1003_1 o0_1003_2 o0_1003_3 _ o0_1003_6=>
    some (.ok (GPart.mk o0_1003_0 o0_1003_1 o0_1003_2 o0_1003_3 g.at_ o0_1003_6,o0_0_0,o0_0_1,o0_0_2)))
   (k0:=fun o0_0_1 o0_0_2 o0_0_3 o0_0_4 o0_w1 o0_w2 o0_1005_0 o0_1005_1 o0_1005_2 o0_1005_3 o0_1005_4=>
    some (GExpr.mk o0_1005_0 o0_1005_1 o0_1005_2 o0_1005_3 o0_1005_4,o0_0_1,o0_0_2,o0_0_3,o0_0_4,o0_w1,o0_w2))
   (w.length-j) j N N g E T (by omega) (by omega) (by omega) (by omega) rfl hg
  simp only at eS eR;rw[eS,eR];rcases lp with⟨j',g',E',T',u1,u2,u3,u4,u5,u6⟩|⟨c,u1,b,L,k,t,n,ks,es,u2⟩
  ·rw[u5,u6];simp only[<-u3,GPart.eta,GExpr.eta];exact .inl ⟨j',g',E',T',by omega,u2,rfl,rfl,u4⟩
  ·rw[u1,u2];exact .inr ⟨c,rfl,_,_,_,rfl⟩
 ·rw[s1,j9]at eS;rw[r1,d2,c2D (by omega)]at eR;exact .inr ⟨c,eS,_,_,_,eR⟩
theorem Ctx.up(C:Ctx N w e S R i0 x){i1:Nat}(h:i0<i1)(hl:i1<=w.length):Ctx N w e S R i1 (x+1):=
 ⟨C.hN,C.wl,C.wok,C.e0,by have:=C.x0;omega,by have:=C.xb;omega,fun i h1 h2 y h3 h4=>C.sim i (by omega) h2 y h3 h4,C.bad⟩
theorem c54(C:Ctx N w e S R i0 x)(hi0:i0<=w.length):c5v N w e (N1 N S) (G4 N R) i0 x:=by
 intro M p d hM;have hwl:=C.wl;have hx0:=C.x0;have hxb:=C.xb;have hx1:IntKind.i64.wrap (x+1)=x+1:=M7 (by omega) (by omega);obtain⟨SS,eS⟩:∃s,s=N1 N S (w.drop i0) e d:=⟨_,rfl⟩;obtain⟨RR,eR⟩:∃s,s=G4 N R x (i0:Int) e false p w M:=⟨_,rfl⟩;rw[<-eS,<-eR];unfold N1 at eS;unfold G4 at eR;rw[d9]at eR;rcases c2F C hi0 M p d hM with⟨j,g,E,T,hj1,hj2,s1,r1,hg⟩|⟨c,s1,y,b,L,r1⟩
 case inr=>
  rw[s1,j9]at eS;rw[r1,d2,N6,d2]at eR;simp only[Bool.not_false,d8]at eR;exact .inr ⟨c,eS,_,_,_,eR⟩
 rw[s1,m5]at eS;rw[r1,d2]at eR;simp only[GPart.eta,GExpr.eta]at eS eR;cases hb:I9 w j 4 [61,61]with
 |false=>
  rw[O9 hb]at eS;rw[o5 hb]at eR;simp only[d2,Bool.not_false,d8]at eS eR;exact .inl ⟨j,g,E,T,hj1,hj2,eS,eR,hg⟩
 |true=>
  have hbl:=G3 hb;have hTl:=hg.len;rw[R4 hb]at eS;rw[C8 C.wl hb]at eR;simp only[d2,Bool.not_true,d9,hx1]at eS eR;rw[b1Z C.hN (T.map (sh x)) M N (fun m hm=>by
   obtain⟨y,hy,rfl⟩:=List.mem_map.1 hm;have:=hg.lo y hy;simp only[sh];omega) (by rw[List.length_map];omega) (by rw[List.length_map];have:=C.hN;unfold J0 at this;omega),b46]at eR
  rcases c2F (C.up (i1:=j+1) (by omega) (by omega)) (by omega) (M++T.map (sh (x+1))) p d (by rw[List.length_append,List.length_map];omega)with⟨j2,g2,E2,T2,hj3,hj4,s2,r2,hg2⟩|⟨c,s2,y,b,L,r2⟩
  ·rw[s2,m5]at eS;rw[r2,d2]at eR;have hg3:=(b7z C.hN (m:=j2-i0) (by omega) (by omega) (by omega) hg hg2).1;refine .inl ⟨j2,_,_,_,by omega,hj4,eS,?_,hg3⟩;rw[eR,b46,List.map_append,List.append_assoc,Int.add_comm 1 x]
  ·rw[s2,j9]at eS;rw[r2,d2]at eR;exact .inr ⟨c,eS,_,_,_,eR⟩
end
theorem a4J{w:List A6}{n:Nat}(hn:0<n)(y a e p:Int)(M:Mk):w8 N n y a e true p w M=some (GExpr.mk (0:Int) ([]:d7) (0:Int) ([]:List d7) ([]:List GExpr),a,e,true,p,w,M):=by
 obtain⟨n,rfl⟩:∃q,n=q+1:=⟨n-1,by omega⟩;show G4 N (w8 N n) y a e true p w M=_;unfold G4;rw[d8]
theorem b7u(hN:J0<=N){w:List A6}{e:Int}(hl:w.length<=50000)(hw:∀t∈w,a2C t)(he:0<=e):∀(n i:Nat) (x:Int),i<=w.length->w.length-i+1<n->0<=x->x+((w.length-i:Nat):Int)<=150000->
  c5v N w e (L5 N n) (w8 N n) i x
 |0,i,x,hi,hn,_,_=>absurd hn (by omega)
 |n+1,i,x,hi,hn,h0,hx=>
  c54 ⟨hN,hl,hw,he,h0,hx,fun i' h1 h2 y h3 h4=>b7u hN hl hw he n i' y h2 (by omega) h3 h4,fun y a p M=>a4J (by omega) y a e p M⟩ hi
theorem a5V(hN:J0<=N){w:List A6}{e:Int}(hl:w.length<=50000)(hw:∀t∈w,a2C t)(he:0<=e){i:Nat}(hi:i<=w.length){x:Int}(h0:0<=x)(hx:x<=60000)(M:Mk)(p d:Int)(hM:M.length<=i):
  (∃(j:Nat) (E:GExpr) (T:Mk),i<j/\j<=w.length/\T.length<=j-i/\Pos T/\(EOk (j-i) E/\E.bulk<=60000*(j-i))/\A3 N x (w.drop i) e d=some (.ok (E,w.drop j,e,dp d T))/\w8 N N (x+1) (i:Int) e false p w M=some (E,(j:Int),e,false,p,w,M++T))\/
  (∃c,A3 N x (w.drop i) e d=some (.error c)/\∃y a K,w8 N N (x+1) (i:Int) e false p w M=some (y,a,e,true,c,w,K)):=by
 have hb:1000000<N:=by unfold J0 at hN;omega
 rcases b7u hN hl hw he N i (x+1) hi (by omega) (by omega) (by omega) M p d hM with⟨j,g,E,T,hj1,hj2,s1,r1,hg⟩|⟨c,s1,y,a,K,r1⟩
 ·refine .inl ⟨j,E,T.map (sh (x+1)),hj1,hj2,by have:=hg.len;simpa using this,fun m hm=>by obtain⟨y,hy,rfl⟩:=List.mem_map.1 hm;exact(hg.lo y hy).2.2,⟨hg.ok,hg.bk⟩,?_,r1⟩;unfold A3;rw[s1,m5];simp only;rw[M7 (n:=x+1) (by omega) (by omega),hg.made N (by omega) (x+1) (by omega) (by omega),d2,GExpr.eta]
 ·refine .inr ⟨c,?_,y,a,K,r1⟩;unfold A3;rw[s1,j9]
end
end Go.Proofs.YtolpmfhiegpohaaGreatDoor
