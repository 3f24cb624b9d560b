/- Law 48, third part: one expression in both parsers. -/
import Derived.Test.YtolpmfhiegpohaaGreatDoorQLPa2
namespace Go.Proofs.YtolpmfhiegpohaaGreatDoor
set_option linter.unusedVariables false
set_option linter.unusedSimpArgs false
open Go Go.RowKit
section
variable{N:Nat}
abbrev SX:Type:=List A4->Int->Int->Option (Except Int (GPart×List A4×Int×Int))
abbrev RO:Type:=Option (GExpr×Int×Int×Bool×Int×List A4×Mk)
abbrev RX:Type:=Int->Int->Int->Bool->Int->List A4->Mk->RO
abbrev zP:GPart:=GPart.mk (0:Int) ([]:c8) (0:Int) ([]:List c8) (0:Int) ([]:List GPart)
theorem b4i{α:Type}(l:List α)(z x:α):B8 (l ++ [z]) (l.length:Int) x=l ++ [x]:=by
 unfold B8;simp
theorem b3P{α:Type}(l:List α)(z:α):l6 (l ++ [z]) (l.length:Int)=some z:=by
 rw[b3Q];simp
theorem c2L{α:Type}(l:List α)(z:α):decide ((0:Int)<=(l.length:Int)/\(l.length:Int)<((l ++ [z]).length:Int))=true:=decide_eq_true ⟨by omega,by simp;omega⟩
theorem b8R{r:SX}{k n a:Int}{t:c8}{l l':List A4}{e d e' d':Int}{g:GPart}(h:r l e d=some (.ok (g,(l',(e',d'))))):
  v6 N r k t n a l e d=some (.ok (k,(t,(n,(a,(l',(e',(d',[g])))))))):=by
 unfold v6
 simp only[h,l8,x7,o7,show decide ([zP].length*(24*Ty.sz (.rc .part))<=140737488355328)=true by decide,show decide ((0:Int)<=0/\(0:Int)<([zP].length:Int))=true by decide,d4,show l6 [zP] 0=some zP from rfl,b9,show B8 [zP] 0 g=[g]from rfl]
theorem b36{r:SX}{k n a c:Int}{t:c8}{l:List A4}{e d:Int}(h:r l e d=some (.error c)):
  v6 N r k t n a l e d=some (.error c):=by
 unfold v6
 simp only[h,i7,x7,o7]
theorem d59{r:SX}{k n a:Int}{t:c8}{ks:List c8}{l l':List A4}{e d e' d':Int}{g:GPart}(h:r l e d=some (.ok (g,(l',(e',d'))))):
  z7 N r k t n a ks l e d=some (.ok (k,(t,(n,(a,(ks,(l',(e',(d',[g]))))))))):=by
 unfold z7
 simp only[h,l8,x7,o7,show decide ([zP].length*(24*Ty.sz (.rc .part))<=140737488355328)=true by decide,show decide ((0:Int)<=0/\(0:Int)<([zP].length:Int))=true by decide,d4,show l6 [zP] 0=some zP from rfl,b9,show B8 [zP] 0 g=[g]from rfl]
theorem c9L{r:SX}{k n a c:Int}{t:c8}{ks:List c8}{l:List A4}{e d:Int}(h:r l e d=some (.error c)):
  z7 N r k t n a ks l e d=some (.error c):=by
 unfold z7
 simp only[h,i7,x7,o7]
theorem e1K{l:List GPart}(h:l.length<=50000):decide ((l.length + [zP].length)*(24*Ty.sz (.rc .part))<=140737488355328)=true:=b2r (by decide) (by simp;omega)
theorem c5f{r:SX}{k n a:Int}{t:c8}{ps:List GPart}{l l':List A4}{e d e' d':Int}{g:GPart}(hp:ps.length<=50000)(h:r l e d=some (.ok (g,(l',(e',d'))))):
  z6 N r k t n a ps l e d=some (.ok (k,(t,(n,(a,(ps ++ [g],(l',(e',d')))))))):=by
 unfold z6
 simp only[h,l8,x7,o7,e1K hp,c2L,d4,b3P,b9,b4i]
theorem b99{r:SX}{k n a c:Int}{t:c8}{ps:List GPart}{l:List A4}{e d:Int}(h:r l e d=some (.error c)):
  z6 N r k t n a ps l e d=some (.error c):=by
 unfold z6
 simp only[h,i7,x7,o7]
theorem d6a{r:SX}{k n a:Int}{t:c8}{ks:List c8}{ps:List GPart}{l l':List A4}{e d e' d':Int}{g:GPart}(hp:ps.length<=50000)(h:r l e d=some (.ok (g,(l',(e',d'))))):
  z8 N r k t n a ks ps l e d=some (.ok (k,(t,(n,(a,(ks,(ps ++ [g],(l',(e',d'))))))))):=by
 unfold z8
 simp only[h,l8,x7,o7,e1K hp,c2L,d4,b3P,b9,b4i]
theorem c9M{r:SX}{k n a c:Int}{t:c8}{ks:List c8}{ps:List GPart}{l:List A4}{e d:Int}(h:r l e d=some (.error c)):
  z8 N r k t n a ks ps l e d=some (.error c):=by
 unfold z8
 simp only[h,i7,x7,o7]
def c8T(N:Nat)(w:List A4)(e:Int)(S:SX)(R:RX)(i:Nat)(x:Int):Prop:=∀(M:Mk) (p d:Int),M.length<=i->(∃(j:Nat) (g:GPart) (E:GExpr) (T:Rel),i<j/\j<=w.length/\S (w.drop i) e d=some (.ok (g,(w.drop j,(e,d))))/\R x (i:Int) e false p w M=some (E,((j:Int),(e,(false,(p,(w,M++T.map (sh x)))))))/\GoodP N g E T (j-i))\/(∃c,S (w.drop i) e d=some (.error c)/\∃y a K,R x (i:Int) e false p w M=some (y,(a,(e,(true,(c,(w,K)))))))
structure Ctx(N:Nat)(w:List A4)(e:Int)(S:SX)(R:RX)(i0:Nat)(x:Int):Prop where
 hN:L7<=N
 wl:w.length<=50000
 wok:∀t∈w,a2h t
 e0:0<=e
 x0:0<=x
 xb:x+((w.length-i0:Nat):Int)<=150000
 sim:∀i,i0<i->i<=w.length->∀y:Int,0<=y->y+((w.length-i:Nat):Int)<=150000->c8T N w e S R i y
 bad:∀y a p M,R y a e true p w M=some (GExpr.mk (0:Int) ([]:c8) (0:Int) ([]:List c8) ([]:List GExpr),(a,(e,(true,(p,(w,M))))))
theorem c41{w:List A4}{e:Int}(hw:∀t∈w,a2h t)(he:0<=e)(i:Nat):0<=atS w i e:=by
 by_cases h:i<w.length
 ·rw[c2l h];exact(hw _ (List.getElem_mem h)).1
 ·rw[b3p h];exact he
theorem b2Q{l:List GExpr}{z:GExpr}(h:l.length<=50000):decide ((l.length + [z].length)*(24*Ty.sz (.rc .expr))<=140737488355328)=true:=b2r (by decide) (by simp;omega)
theorem b0O{l:List c8}{z:c8}(h:l.length<=50000):decide ((l.length + [z].length)*(24*Ty.sz .str)<=140737488355328)=true:=b2r (by decide) (by simp;omega)
structure Zs(N:Nat)(zs:List PZ)(k:Nat):Prop where
 good:∀z∈zs,GoodP N z.1 z.2.1 z.2.2 k
 len:zs.length<=k
 rel:(zs.map (·.2.2)).flatten.length<=k
theorem Zs.snoc{zs:List PZ}{k j m:Nat}(h:Zs N zs k){z:PZ}(hz:GoodP N z.1 z.2.1 z.2.2 j)(hj:0<j)(hm:k+j<=m):Zs N (zs ++ [z]) m:=
 ⟨fun y hy=>by
  rcases List.mem_append.1 hy with hy|hy
  ·exact(h.good y hy).mono (by omega)
  ·rw[List.mem_singleton.1 hy];exact hz.mono (by omega),by have:=h.len;simp;omega,by
  have:=h.rel;have:=hz.len
  rw[List.map_append,List.flatten_append,List.length_append]
  simp only[List.map_cons,List.map_nil,List.flatten_cons,List.flatten_nil,List.append_nil]
  omega⟩
theorem Zs.mono{zs:List PZ}{k m:Nat}(h:Zs N zs k)(hm:k<=m):Zs N zs m:=
 ⟨fun y hy=>(h.good y hy).mono hm,by have:=h.len;omega,by have:=h.rel;omega⟩
theorem b7q(zs:List PZ)(z:PZ)(M:Mk)(x:Int):(M++(zs.map (·.2.2)).flatten.map (sh x))++z.2.2.map (sh x)=M++((zs ++ [z]).map (·.2.2)).flatten.map (sh x):=by
 simp[List.map_append,List.flatten_append]
section
variable{w:List A4}{e x:Int}{S:SX}{R:RX}{i0:Nat}
theorem b7v(C:Ctx N w e S R i0 x){M0:Mk}(hM0:M0.length<=i0){p d k n a:Int}{t:c8}
  {K:List A4->Int->Int->Int->c8->Int->Int->List GPart->Option (Except Int (List A4×Int×Int×Int×c8×Int×Int×List GPart))} {k1:Int->Int->Bool->Int->List A4->Mk->List GExpr->RO}:
  ∀(m i f1 f2:Nat) (zs:List PZ),i+m=w.length->m<f1->m<f2->i0<i->zs ≠ []->Zs N zs (i-i0)->
  let SS:=e7Q N S K f1 (w.drop i) e d k t n a (zs.map (·.1))
  let RR:=f5 (j5 N (4:Int) ([44]:c8) (i:Int) e false p w (M0++(zs.map (·.2.2)).flatten.map (sh (x+1)))) fun t112=>br (!t112.1)
   (k1 t112.2.1 t112.2.2.1 t112.2.2.2.1 t112.2.2.2.2.1 t112.2.2.2.2.2.1 t112.2.2.2.2.2.2 (zs.map (·.2.1)))
   (a9c N R x k1 f2 t112.2.1 t112.2.2.1 t112.2.2.2.1 t112.2.2.2.2.1 t112.2.2.2.2.2.1 t112.2.2.2.2.2.2 (zs.map (·.2.1)))
  (∃(j:Nat) (us:List PZ),i<=j/\j<=w.length/\Zs N us (j-i0)/\SS=K (w.drop j) e d k t n a (us.map (·.1))/\RR=k1 (j:Int) e false p w (M0++(us.map (·.2.2)).flatten.map (sh (x+1))) (us.map (·.2.1)))\/
  (∃c,SS=some (.error c)/\∃b L ys,RR=k1 b e true c w L ys)
 |m,i,f1,f2,zs,hm,h1,h2,hi,hne,hz=>by
  obtain⟨f1,rfl⟩:∃q,f1=q+1:=⟨f1-1,by omega⟩
  obtain⟨f2,rfl⟩:∃q,f2=q+1:=⟨f2-1,by omega⟩
  intro SS RR
  have eS:SS=e7R N S K (e7Q N S K f1) (w.drop i) e d k t n a (zs.map (·.1)):=rfl
  unfold e7R at eS
  cases hb:V8 w i 4 [44]with
  |false=>
   rw[L4 hb]at eS
   simp only[b9,d6]at eS
   have eR:RR=f5 _ _:=rfl
   rw[L2 hb]at eR
   simp only[b9,Bool.not_false,d4]at eR
   exact .inl ⟨i,zs,by omega,by omega,hz,eS,eR⟩
  |true=>
   have hil:=B9 hb
   rw[N3 hb]at eS
   simp only[b9,d4]at eS
   have eR:RR=f5 _ _:=rfl
   rw[O1 C.wl hb]at eR
   simp only[b9,Bool.not_true,d6]at eR
   have eR2:RR=b2O N R x k1 (a9c N R x k1 f2) ((i+1:Nat):Int) e false p w (M0++(zs.map (·.2.2)).flatten.map (sh (x+1))) (zs.map (·.2.1)):=eR
   unfold b2O at eR2
   have hpos:decide (((zs.map (·.2.1)).length:Int)>0)=true:=decide_eq_true (by
    have:=List.length_pos_iff.2 hne
    simp;omega)
   have hx1:IntKind.i64.wrap (x+1)=x+1:=D8 (by have:=C.x0;omega) (by have:=C.xb;omega)
   simp only[Bool.not_false,d4,hpos,hx1]at eR2
   have hzl:=hz.len
   have hwl:=C.wl
   have hlz:(zs.map (·.2.1)).length<=50000:=by simp;omega
   rcases C.sim (i+1) (by omega) (by omega) (x+1) (by have:=C.x0;omega) (by have:=C.xb;omega) (M0++(zs.map (·.2.2)).flatten.map (sh (x+1))) p d (by have:=hz.rel;rw[List.length_append,List.length_map];omega)with⟨j,g,E,T,hj1,hj2,s1,r1,hg⟩|⟨c,s1,y,b,L,r1⟩
   ·rw[c5f (by simp;omega) s1]at eS
    simp only[l8]at eS
    rw[r1]at eR2
    simp only[b9,GExpr.eta]at eR2
    rw[b2Q hlz,d4]at eR2
    have hz':Zs N (zs ++ [(g,(E,T))]) (j-i0):=hz.snoc (j:=j-(i+1)) hg (by omega) (by omega)
    have ih:=b7v C hM0 (p:=p) (d:=d) (k:=k) (n:=n) (a:=a) (t:=t) (K:=K) (k1:=k1) (w.length-j) j f1 f2 (zs ++ [(g,(E,T))]) (by omega) (by omega) (by omega) (by omega) (by simp) hz'
    rw[<-b7q zs (g,(E,T))]at ih
    simp only[List.map_append,List.map_cons,List.map_nil]at ih
    rw[eS,eR2]
    rcases ih with⟨j',us,u1,u2,u3,u4,u5⟩|⟨c,u1,b,L,ys,u2⟩
    ·exact .inl ⟨j',us,by omega,u2,u3,u4,u5⟩
    ·exact .inr ⟨c,u1,b,L,ys,u2⟩
   ·rw[b99 s1]at eS
    simp only[i7]at eS
    rw[r1]at eR2
    simp only[b9,GExpr.eta]at eR2
    rw[b2Q hlz,d4,J6]at eR2
    simp only[b9,Bool.not_false,d4]at eR2
    exact .inr ⟨c,eS,b,L,_,eR2⟩
 termination_by m=>m
theorem c6O(C:Ctx N w e S R i0 x)(i:Nat)(hi:i0<i)(hl:i<=w.length)(M:Mk)(p d:Int)(hM:M.length<=i)(ks:List c8)(es:List GExpr)(ps:List GPart)(hk:ks.length<=50000)(he:es.length<=50000)(hp:ps.length<=50000)(k n a:Int)(t:c8)
  (k1 self:Int->Int->Bool->Int->List A4->Mk->List c8->List GExpr->RO):
  let RR:=V3 N R x k1 self (i:Int) e false p w M ks es
  (∃(j:Nat) (g:GPart) (E:GExpr) (T:Rel) (s:c8),s.length<=50000/\i+2<j/\j<=w.length/\H6 N S k t n a ks ps (w.drop i) e d=some (.ok (k,(t,(n,(a,(ks ++ [s],(ps ++ [g],(w.drop j,(e,d)))))))))/\
   RR=(f5 (j5 N (4:Int) ([44]:c8) (j:Int) e false p w (M++T.map (sh (x+1)))) fun t112=>br (!t112.1)
    (k1 t112.2.1 t112.2.2.1 t112.2.2.2.1 t112.2.2.2.2.1 t112.2.2.2.2.2.1 t112.2.2.2.2.2.2 (ks ++ [s]) (es ++ [E]))
    (self t112.2.1 t112.2.2.1 t112.2.2.2.1 t112.2.2.2.2.1 t112.2.2.2.2.2.1 t112.2.2.2.2.2.2 (ks ++ [s]) (es ++ [E])))/\GoodP N g E T (j-(i+2)))\/
  (∃c,H6 N S k t n a ks ps (w.drop i) e d=some (.error c)/\∃b L ls ys,RR=k1 b e true c w L ls ys):=by
 intro RR
 have hx1:IntKind.i64.wrap (x+1)=x+1:=D8 (by have:=C.x0;omega) (by have:=C.xb;omega)
 have eR:RR=V3 N R x k1 self (i:Int) e false p w M ks es:=rfl
 unfold V3 at eR
 unfold H6
 rw[Bool.not_false,d4,hx1]at eR
 cases ht:a2V w i with
 |none=>
  rw[c28 ht]
  simp only[i7,o7]
  rw[b8Z ht,b9]at eR
  simp only[A7,b9,C.bad]at eR
  simp only[b0O hk,b2Q he,x7,o7,d4,J6,b9,Bool.not_false]at eR
  exact .inr ⟨_,rfl,_,_,_,_,eR⟩
 |some s=>
  have hti:=(a2q ht).1
  have hs:s.length<=50000:=by
   obtain⟨hi,h1,rfl⟩:=a2q ht
   exact(C.wok _ (List.getElem_mem hi)).2
  rw[b89 ht]
  simp only[l8,b0O hk,d4,x7]
  rw[b80 C.wl ht,b9]at eR
  cases hb:V8 w (i+1) 4 [58]with
  |false=>
   rw[S0 hb]
   simp only[i7,o7]
   simp only[N0 hb,b9,C.bad]at eR
   simp only[b0O hk,b2Q he,x7,o7,d4,J6,b9,Bool.not_false]at eR
   exact .inr ⟨_,rfl,_,_,_,_,eR⟩
  |true=>
   have hbi:=B9 hb
   rw[S1 hb]
   simp only[l8]
   simp only[H4 C.wl hb,b9]at eR
   rcases C.sim (i+2) (by omega) (by omega) (x+1) (by have:=C.x0;omega) (by have:=C.xb;omega) M p d (by omega)with⟨j,g,E,T,hj1,hj2,s1,r1,hg⟩|⟨c,s1,y,b,L,r1⟩
   ·rw[d6a hp s1]
    simp only[l8,o7]
    rw[r1,b9]at eR
    simp only[GExpr.eta,b0O hk,b2Q he,x7,o7,d4]at eR
    exact .inl ⟨j,g,E,T,s,hs,by omega,hj2,rfl,eR,hg⟩
   ·rw[c9M s1]
    simp only[i7,o7]
    rw[r1,b9]at eR
    simp only[GExpr.eta,b0O hk,b2Q he,x7,o7,d4,J6,b9,Bool.not_false]at eR
    exact .inr ⟨c,rfl,b,L,_,_,eR⟩
theorem b7j(C:Ctx N w e S R i0 x){M0:Mk}(hM0:M0.length<=i0){p d k n a:Int}{t:c8}
  {K:List A4->Int->Int->Int->c8->Int->Int->List c8->List GPart->Option (Except Int (List A4×Int×Int×Int×c8×Int×List c8×Int×List GPart))} {k1:Int->Int->Bool->Int->List A4->Mk->List c8->List GExpr->RO}:
  ∀(m i f1 f2:Nat) (zs:List PZ) (ks:List c8),i+m=w.length->m<f1->m<f2->i0<i->ks.length=zs.length->(∀s∈ks,s.length<=50000)->zs ≠ []->Zs N zs (i-i0)->
  let SS:=b8m N S K f1 (w.drop i) e d k t n a ks (zs.map (·.1))
  let RR:=f5 (j5 N (4:Int) ([44]:c8) (i:Int) e false p w (M0++(zs.map (·.2.2)).flatten.map (sh (x+1)))) fun t112=>br (!t112.1)
   (k1 t112.2.1 t112.2.2.1 t112.2.2.2.1 t112.2.2.2.2.1 t112.2.2.2.2.2.1 t112.2.2.2.2.2.2 ks (zs.map (·.2.1)))
   (a2r N R x k1 f2 t112.2.1 t112.2.2.1 t112.2.2.2.1 t112.2.2.2.2.1 t112.2.2.2.2.2.1 t112.2.2.2.2.2.2 ks (zs.map (·.2.1)))
  (∃(j:Nat) (us:List PZ) (ls:List c8),i<=j/\j<=w.length/\us ≠ []/\ls.length=us.length/\(∀s∈ls,s.length<=50000)/\Zs N us (j-i0)/\SS=K (w.drop j) e d k t n a ls (us.map (·.1))/\RR=k1 (j:Int) e false p w (M0++(us.map (·.2.2)).flatten.map (sh (x+1))) ls (us.map (·.2.1)))\/
  (∃c,SS=some (.error c)/\∃b L ls ys,RR=k1 b e true c w L ls ys)
 |m,i,f1,f2,zs,ks,hm,h1,h2,hi,hkl,hks,hne,hz=>by
  obtain⟨f1,rfl⟩:∃q,f1=q+1:=⟨f1-1,by omega⟩
  obtain⟨f2,rfl⟩:∃q,f2=q+1:=⟨f2-1,by omega⟩
  intro SS RR
  have eS:SS=b5A N S K (b8m N S K f1) (w.drop i) e d k t n a ks (zs.map (·.1)):=rfl
  unfold b5A at eS
  cases hb:V8 w i 4 [44]with
  |false=>
   rw[L4 hb]at eS
   simp only[b9,d6]at eS
   have eR:RR=f5 _ _:=rfl
   rw[L2 hb]at eR
   simp only[b9,Bool.not_false,d4]at eR
   exact .inl ⟨i,zs,ks,by omega,by omega,hne,hkl,hks,hz,eS,eR⟩
  |true=>
   have hil:=B9 hb
   rw[N3 hb]at eS
   simp only[b9,d4]at eS
   have eR:RR=f5 _ _:=rfl
   rw[O1 C.wl hb]at eR
   simp only[b9,Bool.not_true,d6]at eR
   have eR2:RR=V3 N R x k1 (a2r N R x k1 f2) ((i+1:Nat):Int) e false p w (M0++(zs.map (·.2.2)).flatten.map (sh (x+1))) ks (zs.map (·.2.1)):=eR
   have hx1:IntKind.i64.wrap (x+1)=x+1:=D8 (by have:=C.x0;omega) (by have:=C.xb;omega)
   have hzl:=hz.len
   have hwl:=C.wl
   have hlz:(zs.map (·.2.1)).length<=50000:=by simp;omega
   have hlk:ks.length<=50000:=by omega
   have step:=c6O C (i+1) (by omega) (by omega) (M0++(zs.map (·.2.2)).flatten.map (sh (x+1))) p d (by have:=hz.rel;rw[List.length_append,List.length_map];omega) ks (zs.map (·.2.1)) (zs.map (·.1)) hlk hlz (by simp;omega) k n a t k1 (a2r N R x k1 f2)
   rcases step with⟨j,g,E,T,s,hs,hj1,hj2,s1,r1,hg⟩|⟨c,s1,b,L,ls,ys,r1⟩
   ·rw[s1]at eS
    simp only[l8]at eS
    rw[r1]at eR2
    have hz':Zs N (zs ++ [(g,(E,T))]) (j-i0):=hz.snoc (j:=j-(i+1)) (hg.mono (by omega)) (by omega) (by omega)
    have ih:=b7j C hM0 (p:=p) (d:=d) (k:=k) (n:=n) (a:=a) (t:=t) (K:=K) (k1:=k1) (w.length-j) j f1 f2 (zs ++ [(g,(E,T))]) (ks ++ [s]) (by omega) (by omega) (by omega) (by omega) (by simp;omega) (fun u hu=>by
     rcases List.mem_append.1 hu with hu|hu
     ·exact hks u hu
     ·rw[List.mem_singleton.1 hu];exact hs) (by simp) hz'
    rw[<-b7q zs (g,(E,T))]at ih
    simp only[List.map_append,List.map_cons,List.map_nil]at ih
    rw[eS,eR2]
    rcases ih with⟨j',us,ls,u1,u2,u3,u4,u5,u6,u7,u8⟩|⟨c,u1,b,L,ls,ys,u2⟩
    ·exact .inl ⟨j',us,ls,by omega,u2,u3,u4,u5,u6,u7,u8⟩
    ·exact .inr ⟨c,u1,b,L,ls,ys,u2⟩
   ·rw[s1]at eS
    simp only[i7]at eS
    exact .inr ⟨c,eS,b,L,ls,ys,by rw[eR2,r1]⟩
 termination_by m=>m
end
end
section
variable{N:Nat}
theorem Ctx.next{w:List A4}{e x:Int}{S:SX}{R:RX}{i0:Nat}(C:Ctx N w e S R i0 x){i1:Nat}(h:i0<=i1):Ctx N w e S R i1 x:=
 ⟨C.hN,C.wl,C.wok,C.e0,C.x0,by have:=C.xb;omega,fun i h1 h2 y h3 h4=>C.sim i (by omega) h2 y h3 h4,C.bad⟩
theorem a82(M:Mk)(a x:Int)(T:Rel):M++List.map (sh x) ((a,0) :: T.map (sh 1))=(M ++ [(a,x)])++T.map (sh (x+1)):=by
 rw[List.map_cons,b7I,Int.add_comm 1 x]
 simp[sh]
theorem Zs.one{z:PZ}{k:Nat}(h:GoodP N z.1 z.2.1 z.2.2 k)(hk:0<k):Zs N [z] k:=
 ⟨fun y hy=>by rw[List.mem_singleton.1 hy];exact h,by simp;omega,by have:=h.len;simpa using this⟩
theorem a7Y(hN:L7<=N):∃f,N=f+1/\100000<f:=⟨N-1,by unfold L7 at hN;omega,by unfold L7 at hN;omega⟩
section
variable{w:List A4}{e x:Int}{S:SX}{R:RX}{i0:Nat}
theorem c2t(C:Ctx N w e S R i0 x)(i:Nat)(hi:i0<i)(hl:i<=w.length)(M:Mk)(p d:Int)(hM:M.length<=i)(k n a:Int)(t:c8)
  (k1 self:Int->Int->Bool->Int->List A4->Mk->List c8->List GExpr->RO):
  let RR:=V3 N R x k1 self (i:Int) e false p w M [] []
  (∃(j:Nat) (g:GPart) (E:GExpr) (T:Rel) (s:c8),s.length<=50000/\i+2<j/\j<=w.length/\G9 N S k t n a (w.drop i) e d=some (.ok (k,(t,(n,(a,(w.drop j,(e,(d,([s],[g])))))))))/\
   RR=(f5 (j5 N (4:Int) ([44]:c8) (j:Int) e false p w (M++T.map (sh (x+1)))) fun t112=>br (!t112.1)
    (k1 t112.2.1 t112.2.2.1 t112.2.2.2.1 t112.2.2.2.2.1 t112.2.2.2.2.2.1 t112.2.2.2.2.2.2 [s] [E])
    (self t112.2.1 t112.2.2.1 t112.2.2.2.1 t112.2.2.2.2.1 t112.2.2.2.2.2.1 t112.2.2.2.2.2.2 [s] [E]))/\GoodP N g E T (j-(i+2)))\/
  (∃c,G9 N S k t n a (w.drop i) e d=some (.error c)/\∃b L ls ys,RR=k1 b e true c w L ls ys):=by
 intro RR
 have hx1:IntKind.i64.wrap (x+1)=x+1:=D8 (by have:=C.x0;omega) (by have:=C.xb;omega)
 have eR:RR=V3 N R x k1 self (i:Int) e false p w M [] []:=rfl
 unfold V3 at eR
 unfold G9
 rw[Bool.not_false,d4,hx1]at eR
 cases ht:a2V w i with
 |none=>
  rw[c28 ht]
  simp only[i7,o7]
  rw[b8Z ht,b9]at eR
  simp only[A7,b9,C.bad]at eR
  simp only[b0O (l:=[]) (show([]:List c8).length<=50000 by simp),b2Q (l:=[]) (show([]:List GExpr).length<=50000 by simp),x7,o7,d4,J6,b9,Bool.not_false]at eR
  exact .inr ⟨_,rfl,_,_,_,_,eR⟩
 |some s=>
  have hti:=(a2q ht).1
  have hs:s.length<=50000:=by
   obtain⟨hi,h1,rfl⟩:=a2q ht
   exact(C.wok _ (List.getElem_mem hi)).2
  rw[b89 ht]
  simp only[l8,show ∀q:c8,decide ([q].length*(24*Ty.sz .str)<=140737488355328)=true from fun q=>by simp[Ty.sz],d4,x7]
  rw[b80 C.wl ht,b9]at eR
  cases hb:V8 w (i+1) 4 [58]with
  |false=>
   rw[S0 hb]
   simp only[i7,o7]
   simp only[N0 hb,b9,C.bad]at eR
   simp only[b0O (l:=[]) (show([]:List c8).length<=50000 by simp),b2Q (l:=[]) (show([]:List GExpr).length<=50000 by simp),x7,o7,d4,J6,b9,Bool.not_false]at eR
   exact .inr ⟨_,rfl,_,_,_,_,eR⟩
  |true=>
   have hbi:=B9 hb
   rw[S1 hb]
   simp only[l8]
   simp only[H4 C.wl hb,b9]at eR
   rcases C.sim (i+2) (by omega) (by omega) (x+1) (by have:=C.x0;omega) (by have:=C.xb;omega) M p d (by omega)with⟨j,g,E,T,hj1,hj2,s1,r1,hg⟩|⟨c,s1,y,b,L,r1⟩
   ·rw[d59 s1]
    simp only[l8,o7]
    rw[r1,b9]at eR
    simp only[GExpr.eta,b0O (l:=[]) (show([]:List c8).length<=50000 by simp),b2Q (l:=[]) (show([]:List GExpr).length<=50000 by simp),x7,o7,d4]at eR
    exact .inl ⟨j,g,E,T,s,hs,by omega,hj2,rfl,eR,hg⟩
   ·rw[c9L s1]
    simp only[i7,o7]
    rw[r1,b9]at eR
    simp only[GExpr.eta,b0O (l:=[]) (show([]:List c8).length<=50000 by simp),b2Q (l:=[]) (show([]:List GExpr).length<=50000 by simp),x7,o7,d4,J6,b9,Bool.not_false]at eR
    exact .inr ⟨c,rfl,b,L,_,_,eR⟩
theorem c0a{f:Nat}(hf:N=f+1){R:RX}{x:Int}{k1:Int->Int->Bool->Int->List A4->Mk->List GExpr->RO}{a e p:Int}{b:Bool}{w:List A4}{M:Mk}{ys:List GExpr}:
  a9c N R x k1 N a e b p w M ys=b2O N R x k1 (a9c N R x k1 f) a e b p w M ys:=by
 subst hf;rfl
theorem a4O{f:Nat}(hf:N=f+1){R:RX}{x:Int}{k1:Int->Int->Bool->Int->List A4->Mk->List c8->List GExpr->RO}{a e p:Int}{b:Bool}{w:List A4}{M:Mk}{ks:List c8}{ys:List GExpr}:
  a2r N R x k1 N a e b p w M ks ys=V3 N R x k1 (a2r N R x k1 f) a e b p w M ks ys:=by
 subst hf;rfl
theorem c9G(C:Ctx N w e S R i0 x)(hi:i0+1<=w.length){M0:Mk}(hM0:M0.length<=i0+1){p d a:Int}:
  let SS:=D5 N S ([93]:c8) true (w.drop (i0+1)) e d (4:Int) ([]:c8) (0:Int) a
  let RR:=a9c N R x (fun o0_0_1 o0_0_2 o0_0_3 o0_0_4 o0_w1 o0_w2 o0_w900001=>
         f5 (j7 N ([93]:c8) o0_0_1 o0_0_2 o0_0_3 o0_0_4 o0_w1 o0_w2) fun t115=>
         some (GExpr.mk (4:Int) ([]:c8) (0:Int) ([]:List c8) o0_w900001,t115)) N ((i0+1:Nat):Int) e false p w M0 ([]:List GExpr)
  (∃(j:Nat) (us:List PZ),i0+1<j/\j<=w.length/\Zs N us (j-(i0+1))/\SS=some (.ok (w.drop j,(e,(d,((4:Int),(([]:c8),((0:Int),(a,us.map (·.1)))))))))/\
   RR=some (GExpr.mk (4:Int) ([]:c8) (0:Int) ([]:List c8) (us.map (·.2.1)),((j:Int),(e,(false,(p,(w,M0++(us.map (·.2.2)).flatten.map (sh (x+1)))))))))\/
  (∃c,SS=some (.error c)/\∃y b K,RR=some (y,(b,(e,(true,(c,(w,K))))))):=by
 intro SS RR
 obtain⟨f,hf,hf2⟩:=a7Y C.hN
 have hwl:=C.wl
 have eR:RR=a9c N R x _ N ((i0+1:Nat):Int) e false p w M0 []:=rfl
 have eS:SS=D5 N S ([93]:c8) true (w.drop (i0+1)) e d (4:Int) ([]:c8) (0:Int) a:=rfl
 unfold D5 at eS
 rw[d4]at eS
 have hx1:IntKind.i64.wrap (x+1)=x+1:=D8 (by have:=C.x0;omega) (by have:=C.xb;omega)
 have eR2:=eR
 rw[c0a hf]at eR2
 unfold b2O at eR2
 simp only[Bool.not_false,d4,show decide (((([]:List GExpr).length:Nat):Int)>0)=false by decide,d6,a3x,b9,hx1]at eR2
 cases hb:V8 w (i0+1) 4 [93]with
 |true=>
  have hbl:=B9 hb
  rw[N3 hb]at eS
  simp only[b9,d4]at eS
  rw[hb]at eR2
  simp only[Bool.not_true,d6,H4 C.wl hb,b9]at eR2
  exact .inl ⟨i0+1+1,[],by omega,by omega,⟨by simp,by simp,by simp⟩,eS,by rw[eR2];simp⟩
 |false=>
  rw[L4 hb]at eS
  simp only[b9,d6]at eS
  rw[hb]at eR2
  simp only[Bool.not_false,d4]at eR2
  rcases C.sim (i0+1) (by omega) hi (x+1) (by have:=C.x0;omega) (by have:=C.xb;omega) M0 p d hM0 with⟨j,g,E,T,hj1,hj2,s1,r1,hg⟩|⟨c,s1,y,b,L,r1⟩
  ·rw[b8R s1]at eS
   simp only[l8]at eS
   rw[r1]at eR2
   simp only[b9,GExpr.eta]at eR2
   rw[b2Q (l:=[]) (by simp),d4]at eR2
   have lp:=b7v (C.next (i1:=i0+1) (by omega)) hM0 (p:=p) (d:=d) (k:=4) (n:=0) (a:=a) (t:=[])
    (K:=fun o0_0_0 o0_0_1 o0_0_2 o0_1_0 o0_1_1 o0_1_2 o0_1_5 o0_w101500=>
     l7 (g8 N ([93]:c8) o0_0_0 o0_0_1 o0_0_2) fun t22=>
     some (.ok (t22.1,(t22.2.1,(t22.2.2,(o0_1_0,(o0_1_1,(o0_1_2,(o0_1_5,o0_w101500)))))))))
    (k1:=fun o0_0_1 o0_0_2 o0_0_3 o0_0_4 o0_w1 o0_w2 o0_w900001=>
     f5 (j7 N ([93]:c8) o0_0_1 o0_0_2 o0_0_3 o0_0_4 o0_w1 o0_w2) fun t115=>
     some (GExpr.mk (4:Int) ([]:c8) (0:Int) ([]:List c8) o0_w900001,t115))
    (w.length-j) j N f [(g,(E,T))] (by omega) (by omega) (by omega) (by omega) (by simp) (Zs.one hg (by omega))
   simp only[List.map_cons,List.map_nil,List.flatten_cons,List.flatten_nil,List.append_nil]at lp
   simp only[List.nil_append]at eR2
   rw[eS,eR2]
   rcases lp with⟨j',us,u1,u2,u3,u4,u5⟩|⟨c,u1,b,L,ys,u2⟩
   ·rw[u4,u5]
    cases hs:V8 w j' 4 [93]with
    |true=>
     have hsl:=B9 hs
     rw[S1 hs,H4 C.wl hs]
     simp only[l8,b9]
     exact .inl ⟨j'+1,us,by omega,by omega,u3.mono (by omega),rfl,rfl⟩
    |false=>
     rw[S0 hs,N0 hs]
     simp only[i7,b9]
     exact .inr ⟨_,rfl,_,_,_,rfl⟩
   ·rw[u1,u2,A7,b9]
    exact .inr ⟨_,rfl,_,_,_,rfl⟩
  ·rw[b36 s1]at eS
   simp only[i7]at eS
   rw[r1]at eR2
   simp only[b9,GExpr.eta]at eR2
   rw[b2Q (l:=[]) (by simp),d4,J6]at eR2
   simp only[b9,Bool.not_false,d4,A7]at eR2
   exact .inr ⟨c,eS,_,_,_,eR2⟩
theorem c2v(C:Ctx N w e S R i0 x)(hi:i0+1<=w.length){M0:Mk}(hM0:M0.length<=i0+1){p d a:Int}:
  let SS:=l7 (g8 N ([123]:c8) (w.drop (i0+1)) e d) fun t94=>l7 (H0 N S ([125]:c8) false t94.1 t94.2.1 t94.2.2 (6:Int) ([]:c8) (0:Int) a) fun t97=>
   some (.ok (GPart.mk t97.2.2.2.1 t97.2.2.2.2.1 t97.2.2.2.2.2.1 t97.2.2.2.2.2.2.1 t97.2.2.2.2.2.2.2.1 t97.2.2.2.2.2.2.2.2,(t97.1,(t97.2.1,t97.2.2.1))))
  let RR:=H8 N R x ((i0+1:Nat):Int) e false p w M0
  (∃(j:Nat) (us:List PZ) (ls:List c8),i0+1<j/\j<=w.length/\us ≠ []/\ls.length=us.length/\(∀s∈ls,s.length<=50000)/\Zs N us (j-(i0+1))/\SS=some (.ok (GPart.mk 6 [] 0 ls a (us.map (·.1)),(w.drop j,(e,d))))/\
   RR=some (GExpr.mk (6:Int) ([]:c8) (0:Int) ls (us.map (·.2.1)),((j:Int),(e,(false,(p,(w,M0++(us.map (·.2.2)).flatten.map (sh (x+1)))))))))\/
  (∃c,SS=some (.error c)/\∃y b K,RR=some (y,(b,(e,(true,(c,(w,K))))))):=by
 intro SS RR
 obtain⟨f,hf,hf2⟩:=a7Y C.hN
 have hwl:=C.wl
 have eR:RR=H8 N R x ((i0+1:Nat):Int) e false p w M0:=rfl
 have eS:SS=l7 _ _:=rfl
 unfold H8 at eR
 cases hb:V8 w (i0+1) 4 [123]with
 |false=>
  rw[S0 hb,i7]at eS
  rw[N0 hb,b9,a4O hf]at eR
  unfold V3 at eR
  simp only[Bool.not_true,d6,A7,b9]at eR
  exact .inr ⟨_,eS,_,_,_,eR⟩
 |true=>
  have hbl:=B9 hb
  rw[S1 hb]at eS
  simp only[l8]at eS
  rw[H4 C.wl hb,b9]at eR
  simp only at eR
  have eR2:=eR
  rw[a4O hf]at eR2
  unfold H0 at eS
  rw[d6]at eS
  rcases c2t (C.next (i1:=i0+1) (by omega)) (i0+2) (by omega) (by omega) M0 p d (by omega) 6 0 a [] _ _ with⟨j,g,E,T,s,hs,hj1,hj2,s1,r1,hg⟩|⟨c,s1,b,L,ls,ys,r1⟩
  ·rw[s1]at eS
   simp only[l8]at eS
   rw[r1]at eR2
   have lp:=b7j (C.next (i1:=i0+1) (by omega)) hM0 (p:=p) (d:=d) (k:=6) (n:=0) (a:=a) (t:=[])
    (K:=fun o0_0_0 o0_0_1 o0_0_2 o0_1_0 o0_1_1 o0_1_2 o0_1_5 o0_w101500 o0_w101501=>
     l7 (g8 N ([125]:c8) o0_0_0 o0_0_1 o0_0_2) fun t22=>
     some (.ok (t22.1,(t22.2.1,(t22.2.2,(o0_1_0,(o0_1_1,(o0_1_2,(o0_w101500,(o0_1_5,o0_w101501))))))))))
    (k1:=fun o0_0_1 o0_0_2 o0_0_3 o0_0_4 o0_w1 o0_w2 o0_w900001 o0_w900002=>
     f5 (j7 N ([125]:c8) o0_0_1 o0_0_2 o0_0_3 o0_0_4 o0_w1 o0_w2) fun t40=>
     some (GExpr.mk (6:Int) ([]:c8) (0:Int) o0_w900001 o0_w900002,t40))
    (w.length-j) j N f [(g,(E,T))] [s] (by omega) (by omega) (by omega) (by omega) rfl (fun u hu=>by rw[List.mem_singleton.1 hu];exact hs) (by simp) ((Zs.one hg (by omega)).mono (by omega))
   simp only[List.map_cons,List.map_nil,List.flatten_cons,List.flatten_nil,List.append_nil]at lp
   rw[eS,eR2]
   rcases lp with⟨j',us,ls,u1,u2,u3,u4,u5,u6,u7,u8⟩|⟨c,u1,b,L,ls,ys,u2⟩
   ·rw[u7,u8]
    cases hs:V8 w j' 4 [125]with
    |true=>
     have hsl:=B9 hs
     rw[S1 hs,H4 C.wl hs]
     simp only[l8,b9]
     exact .inl ⟨j'+1,us,ls,by omega,by omega,u3,u4,u5,u6.mono (by omega),rfl,rfl⟩
    |false=>
     rw[S0 hs,N0 hs]
     simp only[i7,b9]
     exact .inr ⟨_,rfl,_,_,_,rfl⟩
   ·rw[u1,u2,A7,b9]
    exact .inr ⟨_,by simp only[i7],_,_,_,rfl⟩
  ·rw[s1]at eS
   simp only[i7]at eS
   rw[r1,A7,b9]at eR2
   exact .inr ⟨c,eS,_,_,_,eR2⟩
theorem c5g(C:Ctx N w e S R i0 x)(hi0:i0<=w.length):c8T N w e (J8 N S) (K4 N R) i0 x:=by
 intro M p d hM
 have hwl:=C.wl
 have hx0:=C.x0
 have hxb:=C.xb
 have hx1:IntKind.i64.wrap (x+1)=x+1:=D8 (by omega) (by omega)
 have ha:=c41 C.wok C.e0 i0
 obtain⟨SS,eS⟩:∃s,s=J8 N S (w.drop i0) e d:=⟨_,rfl⟩
 obtain⟨RR,eR⟩:∃s,s=K4 N R x (i0:Int) e false p w M:=⟨_,rfl⟩
 rw[<-eS,<-eR]
 unfold J8 at eS
 unfold K4 at eR
 rw[d6,c91 (by omega),b9]at eR
 rw[b82,b9]at eS
 simp only[hx1]at eR
 simp only at eS
 by_cases hi:i0<w.length
 case neg=>
  rw[b21 hi,d4,a1V,i7]at eS
  rw[decide_eq_true (show(i0:Int)>=(w.length:Int) by omega),d4,a5P,b9]at eR
  exact .inr ⟨_,eS,_,_,_,eR⟩
 rw[a5J hi,d6,b3S hi,b9]at eS
 rw[decide_eq_false (show ¬(i0:Int)>=(w.length:Int) by omega),d6,o9 _ hi,b9]at eR
 have lenT:=(C.wok _ (List.getElem_mem hi)).2
 by_cases h2:w[i0].1=2
 ·have ht:a2V w i0=some w[i0].2.1:=by
   unfold a2V;rw[List.getElem?_eq_getElem hi];simp[h2]
  rw[h2]at eS eR
  rw[show((2:Int)==2)=true by decide,d4,b89 ht,l8]at eS
  rw[show((2:Int)==2)=true by decide,d4,b96 C.wl hi]at eR
  exact .inl ⟨i0+1,_,_,[(atS w i0 e,0)],by omega,by omega,eS,by rw[eR];simp[sh],b0R C.hN ha (by decide) (by decide) (by omega) (by rw[show i0+1-i0=0+1 by omega];exact .inl ⟨_,lenT,rfl⟩)⟩
 rw[show(w[i0].1==2)=false by simpa using h2,d6]at eS eR
 by_cases h3:w[i0].1=3
 ·rw[h3]at eS eR
  rw[show((3:Int)==3)=true by decide,d4,c5b hi,b9]at eS
  rw[show((3:Int)==3)=true by decide,d4,b96 C.wl hi]at eR
  exact .inl ⟨i0+1,_,_,[(atS w i0 e,0)],by omega,by omega,eS,by rw[eR];simp[sh],b0R C.hN ha (by decide) (by decide) (by omega) (by rw[show i0+1-i0=0+1 by omega];exact .inr (.inl ⟨_,rfl⟩))⟩
 rw[show(w[i0].1==3)=false by simpa using h3,d6]at eS eR
 have hM1:(M ++ [(atS w i0 e,x)]).length<=i0+1:=by simp;omega
 cases b1:V8 w i0 4 [40]with
 |true=>
  rw[N3 b1]at eS
  rw[O1 C.wl b1]at eR
  simp only[b9,d4]at eS eR
  rcases C.sim (i0+1) (by omega) (by omega) (x+1) (by omega) (by omega) (M ++ [(atS w i0 e,x)]) p d hM1 with⟨j,g,E,T,hj1,hj2,s1,r1,hg⟩|⟨c,s1,y,b,L,r1⟩
  ·rw[b8R s1]at eS
   rw[r1]at eR
   simp only[l8,b9]at eS eR
   cases hs:V8 w j 4 [41]with
   |true=>
    have hsl:=B9 hs
    rw[S1 hs,l8]at eS
    rw[H4 C.wl hs,b9,GExpr.eta]at eR
    exact .inl ⟨j+1,_,_,(atS w i0 e,0) :: T.map (sh 1),by omega,by omega,eS,by rw[eR,a82],c2I C.hN ha (by omega) hg⟩
   |false=>
    rw[S0 hs,i7]at eS
    rw[N0 hs,b9]at eR
    exact .inr ⟨_,eS,_,_,_,eR⟩
  ·rw[b36 s1,i7]at eS
   rw[r1,b9,A7,b9]at eR
   exact .inr ⟨_,eS,_,_,_,eR⟩
 |false=>
 rw[L4 b1]at eS
 rw[L2 b1]at eR
 simp only[b9,d6]at eS eR
 cases b2:V8 w i0 4 [91]with
 |true=>
  rw[N3 b2]at eS
  rw[O1 C.wl b2]at eR
  simp only[b9,d4]at eS eR
  rcases c9G C (by omega) hM1 (p:=p) (d:=d) (a:=atS w i0 e)with⟨j,us,hj1,hj2,hz,s1,r1⟩|⟨c,s1,y,b,L,r1⟩
  ·rw[s1,l8]at eS
   rw[r1]at eR
   have hzl:=hz.len
   refine .inl ⟨j,_,_,(atS w i0 e,0) :: (us.map (·.2.2)).flatten.map (sh 1),by omega,by omega,eS,by rw[eR,a82],a5H C.hN (kind:=4) (keys:=[]) (t:=[]) (num:=0) ha (by decide) (by decide) (k:=j-(i0+1)) (by omega) us (by omega) hz.good (by have:=hz.rel;omega) ?_⟩
   rw[show j-i0=(j-(i0+1))+1 by omega]
   exact .inr (.inr (.inr (.inl ⟨_,by simp;omega,rfl,fun c hc=>by obtain⟨z,hz1,rfl⟩:=List.mem_map.1 hc;exact(hz.good z hz1).ok⟩)))
  ·rw[s1,i7]at eS
   rw[r1]at eR
   exact .inr ⟨_,eS,_,_,_,eR⟩
 |false=>
 rw[L4 b2]at eS
 rw[L2 b2]at eR
 simp only[b9,d6]at eS eR
 cases b3:V8 w i0 1 [102,105,108,101,115]with
 |true=>
  rw[N3 b3]at eS
  rw[O1 C.wl b3]at eR
  simp only[b9,d4]at eS eR
  cases c1:V8 w (i0+1) 4 [40]with
  |false=>
   rw[S0 c1,i7]at eS
   rw[N0 c1]at eR
   simp only[b9,C.bad,A7]at eR
   exact .inr ⟨_,eS,_,_,_,eR⟩
  |true=>
  have l1:=B9 c1
  rw[S1 c1,l8]at eS
  rw[H4 C.wl c1,b9]at eR
  simp only at eS eR
  rcases C.sim (i0+2) (by omega) (by omega) (x+1) (by omega) (by omega) (M ++ [(atS w i0 e,x)]) p d (by omega)with⟨j,g,E,T,hj1,hj2,s1,r1,hg⟩|⟨c,s1,y,b,L,r1⟩
  case inr=>
   rw[b36 s1,i7]at eS
   rw[r1]at eR
   simp only[b9,A7,C.bad]at eR
   exact .inr ⟨_,eS,_,_,_,eR⟩
  rw[b8R s1,l8]at eS
  rw[r1,b9]at eR
  simp only at eS eR
  cases c2:V8 w j 4 [44]with
  |false=>
   rw[S0 c2,i7]at eS
   rw[N0 c2]at eR
   simp only[b9,C.bad,A7]at eR
   exact .inr ⟨_,eS,_,_,_,eR⟩
  |true=>
  have l2:=B9 c2
  rw[S1 c2,l8]at eS
  rw[H4 C.wl c2,b9]at eR
  simp only at eS eR
  have hTl:=hg.len
  rcases C.sim (j+1) (by omega) (by omega) (x+1) (by omega) (by omega) ((M ++ [(atS w i0 e,x)])++T.map (sh (x+1))) p d (by simp at hM1 ⊢;omega)with⟨j2,g2,E2,T2,hj3,hj4,s2,r2,hg2⟩|⟨c,s2,y,b,L,r2⟩
  case inr=>
   rw[b99 s2,i7]at eS
   rw[r2]at eR
   simp only[b9,A7,C.bad]at eR
   exact .inr ⟨_,eS,_,_,_,eR⟩
  rw[c5f (by simp) s2,l8]at eS
  rw[r2,b9]at eR
  simp only at eS eR
  cases c3:V8 w j2 4 [41]with
  |false=>
   rw[S0 c3,i7]at eS
   rw[N0 c3]at eR
   simp only[b9]at eR
   exact .inr ⟨_,eS,_,_,_,eR⟩
  |true=>
  have l3:=B9 c3
  rw[S1 c3,l8]at eS
  rw[H4 C.wl c3,b9]at eR
  simp only[GExpr.eta,List.cons_append,List.nil_append]at eS eR
  have hz:Zs N [(g,(E,T)),(g2,(E2,T2))] (j2-i0-1):=(Zs.one hg (by omega)).snoc (z:=(g2,(E2,T2))) hg2 (by omega) (by omega)
  have gm:=a5H C.hN (a:=atS w i0 e) (keys:=[]) (t:=[]) (num:=0) ha (show(5:Int)≠0 by decide) (by decide) (k:=j2-i0-1) (m:=j2+1-i0) (by omega) _ (by simp) hz.good (by have:=hz.rel;omega) (by
   rw[show j2+1-i0=(j2-i0)+1 by omega]
   exact .inr (.inr (.inr (.inr (.inl ⟨E,E2,rfl,hg.ok.mono (by omega),hg2.ok.mono (by omega)⟩)))))
  refine .inl ⟨j2+1,_,_,_,by omega,by omega,eS,?_,gm⟩
  rw[eR,a82]
  simp
 |false=>
 rw[L4 b3]at eS
 rw[L2 b3]at eR
 simp only[b9,d6]at eS eR
 cases b4:V8 w i0 1 [99,104,111,111,115,101]with
 |true=>
  rw[N3 b4]at eS
  rw[O1 C.wl b4]at eR
  simp only[b9,d4]at eS eR
  rcases c2v C (by omega) hM1 (p:=p) (d:=d) (a:=atS w i0 e)with⟨j,us,ls,hj1,hj2,hne,hll,hls,hz,s1,r1⟩|⟨c,s1,y,b,L,r1⟩
  ·rw[s1]at eS
   rw[r1,b9]at eR
   simp only[GExpr.eta]at eR
   have hzl:=hz.len
   have hpos:=List.length_pos_iff.2 hne
   refine .inl ⟨j,_,_,(atS w i0 e,0) :: (us.map (·.2.2)).flatten.map (sh 1),by omega,by omega,eS,by rw[eR,a82],a5H C.hN (kind:=6) (keys:=ls) (t:=[]) (num:=0) ha (by decide) (by decide) (k:=j-(i0+1)) (by omega) us (by omega) hz.good (by have:=hz.rel;omega) ?_⟩
   rw[show j-i0=(j-(i0+1))+1 by omega]
   exact .inr (.inr (.inr (.inr (.inr (.inl ⟨ls,_,by simp;omega,by simp;omega,by simp;omega,hls,rfl,fun c hc=>by obtain⟨z,hz1,rfl⟩:=List.mem_map.1 hc;exact(hz.good z hz1).ok⟩)))))
  ·rw[s1]at eS
   rw[r1,b9]at eR
   exact .inr ⟨_,eS,_,_,_,eR⟩
 |false=>
 rw[L4 b4]at eS
 rw[L2 b4]at eR
 simp only[b9,d6]at eS eR
 cases hn:P1 w i0 with
 |none=>
  rw[a3q C.hN C.wok hn,i7]at eS
  rw[a2p C.hN C.wok hn,b9]at eR
  exact .inr ⟨_,eS,_,_,_,eR⟩
 |some s=>
  rw[a77 C.hN C.wok hn,l8]at eS
  rw[a5Q C.hN C.wl C.wok hn,b9]at eR
  obtain⟨_,q1,q2,q3⟩:=Q5 hn
  subst q3
  exact .inl ⟨i0+1,_,_,[(atS w i0 e,0)],by omega,by omega,eS,by rw[eR];simp[sh],b0R C.hN ha (by decide) (by decide) (by omega) (by rw[show i0+1-i0=0+1 by omega];exact .inr (.inr (.inl ⟨_,lenT,q2,rfl⟩)))⟩
end
end
section
variable{N:Nat}
section
variable{w:List A4}{e x:Int}{S:SX}{R:RX}{i0:Nat}
theorem c5o{f:Nat}(hf:0<f){k0:Int->Int->Bool->Int->List A4->Mk->Int->c8->Int->List c8->List GExpr->RO}{a p:Int}{M:Mk}{k n:Int}{t:c8}{ks:List c8}{ys:List GExpr}:
  c16 N R x k0 f a e true p w M k t n ks ys=k0 a e true p w M k t n ks ys:=by
 obtain⟨f,rfl⟩:∃q,f=q+1:=⟨f-1,by omega⟩
 show b2P _ _ _ _ _ _ _ _ _ _ _ _ _ _ _ _=_
 unfold b2P
 rw[J6,b9]
 simp only[d6]
theorem c0o(C:Ctx N w e S R i0 x){M0:Mk}(hM0:M0.length<=i0){p d a:Int}
  {K:List A4->Int->Int->Int->c8->Int->List c8->Unit->List GPart->Option (Except Int (GPart×List A4×Int×Int))} {k0:Int->Int->Bool->Int->List A4->Mk->Int->c8->Int->List c8->List GExpr->RO}:
  ∀(m i f1 f2:Nat) (g:GPart) (E:GExpr) (T:Rel),i+m=w.length->m<f1->m<f2->i0<i->g.at_=a->GoodP N g E T (i-i0)->
  let SS:=e8Q N S a K f1 (w.drop i) e d g.kind g.text g.number g.keys () g.kids
  let RR:=c16 N R x k0 f2 (i:Int) e false p w (M0++T.map (sh x)) E.kind E.text E.number E.keys E.kids
  (∃(j:Nat) (g':GPart) (E':GExpr) (T':Rel),i<=j/\j<=w.length/\g'.at_=a/\GoodP N g' E' T' (j-i0)/\SS=K (w.drop j) e d g'.kind g'.text g'.number g'.keys () g'.kids/\RR=k0 (j:Int) e false p w (M0++T'.map (sh x)) E'.kind E'.text E'.number E'.keys E'.kids)\/
  (∃c,SS=some (.error c)/\∃b L k t n ks es,RR=k0 b e true c w L k t n ks es)
 |m,i,f1,f2,g,E,T,hm,h1,h2,hi,hga,hg=>by
  obtain⟨f1,rfl⟩:∃q,f1=q+1:=⟨f1-1,by omega⟩
  obtain⟨f2,rfl⟩:∃q,f2=q+1:=⟨f2-1,by omega⟩
  intro SS RR
  have hwl:=C.wl
  have eS:SS=e74 N S a K (e8Q N S a K f1) (w.drop i) e d g.kind g.text g.number g.keys () g.kids:=rfl
  have eR:RR=b2P N R x k0 (c16 N R x k0 f2) (i:Int) e false p w (M0++T.map (sh x)) E.kind E.text E.number E.keys E.kids:=rfl
  unfold e74 at eS
  unfold b2P at eR
  cases hb:V8 w i 4 [43]with
  |false=>
   rw[L4 hb]at eS
   rw[L2 hb]at eR
   simp only[b9,d6]at eS eR
   exact .inl ⟨i,g,E,T,by omega,by omega,hga,hg,eS,eR⟩
  |true=>
   have hil:=B9 hb
   rw[N3 hb]at eS
   rw[O1 C.wl hb]at eR
   simp only[b9,d4]at eS eR
   rcases c5g (C.next (i1:=i+1) (by omega)) (by omega) (M0++T.map (sh x)) p d (by have:=hg.len;rw[List.length_append,List.length_map];omega)with⟨j,g2,E2,T2,hj1,hj2,s1,r1,hg2⟩|⟨c,s1,y,b,L,r1⟩
   ·rw[s1,l8]at eS
    rw[r1,b9]at eR
    simp only[GPart.eta,GExpr.eta]at eS eR
    rw[<-hga,GPart.eta]at eS
    have hg3:=(b9S C.hN (m:=j-i0) (by omega) (by omega) (by omega) hg hg2).2
    have ih:=c0o C hM0 (p:=p) (d:=d) (a:=g.at_) (K:=K) (k0:=k0) (w.length-j) j f1 f2 (.mk 7 [] 0 [] g.at_ [g,g2]) (.mk 7 [] 0 [] [E,E2]) (T++T2) (by omega) (by omega) (by omega) (by omega) rfl hg3
    simp only[List.map_append]at ih
    rw[<-List.append_assoc]at ih
    rw[eS,eR]
    rcases ih with⟨j',g',E',T',u1,u2,u3,u4,u5,u6⟩|⟨c,u1,b,L,k,t,n,ks,es,u2⟩
    ·exact .inl ⟨j',g',E',T',by omega,u2,by rw[<-hga];exact u3,u4,u5,u6⟩
    ·exact .inr ⟨c,u1,b,L,k,t,n,ks,es,u2⟩
   ·rw[s1,i7]at eS
    rw[r1,b9,c5o (by omega)]at eR
    exact .inr ⟨c,eS,b,L,_,_,_,_,_,eR⟩
 termination_by m=>m
theorem c5p(C:Ctx N w e S R i0 x)(hi0:i0<=w.length):c8T N w e (G2 N S) (K5 N R) i0 x:=by
 intro M p d hM
 have hwl:=C.wl
 obtain⟨f,hf,hf2⟩:=a7Y C.hN
 obtain⟨SS,eS⟩:∃s,s=G2 N S (w.drop i0) e d:=⟨_,rfl⟩
 obtain⟨RR,eR⟩:∃s,s=K5 N R x (i0:Int) e false p w M:=⟨_,rfl⟩
 rw[<-eS,<-eR]
 unfold G2 at eS
 unfold K5 at eR
 rcases c5g C hi0 M p d hM with⟨j,g,E,T,hj1,hj2,s1,r1,hg⟩|⟨c,s1,y,b,L,r1⟩
 ·rw[s1,l8]at eS
  rw[r1,b9]at eR
  have lp:=c0o C hM (p:=p) (d:=d) (a:=g.at_)
   (K:=fun o0_0_0 o0_0_1 o0_0_2 o0_1003_0 o0_1003_1 o0_1003_2 o0_1003_3 _ o0_1003_6=>
    some (.ok (GPart.mk o0_1003_0 o0_1003_1 o0_1003_2 o0_1003_3 g.at_ o0_1003_6,(o0_0_0,(o0_0_1,o0_0_2)))))
   (k0:=fun o0_0_1 o0_0_2 o0_0_3 o0_0_4 o0_w1 o0_w2 o0_1005_0 o0_1005_1 o0_1005_2 o0_1005_3 o0_1005_4=>
    some (GExpr.mk o0_1005_0 o0_1005_1 o0_1005_2 o0_1005_3 o0_1005_4,(o0_0_1,(o0_0_2,(o0_0_3,(o0_0_4,(o0_w1,o0_w2)))))))
   (w.length-j) j N N g E T (by omega) (by omega) (by omega) (by omega) rfl hg
  simp only at eS eR
  rw[eS,eR]
  rcases lp with⟨j',g',E',T',u1,u2,u3,u4,u5,u6⟩|⟨c,u1,b,L,k,t,n,ks,es,u2⟩
  ·rw[u5,u6]
   simp only[<-u3,GPart.eta,GExpr.eta]
   exact .inl ⟨j',g',E',T',by omega,u2,rfl,rfl,u4⟩
  ·rw[u1,u2]
   exact .inr ⟨c,rfl,_,_,_,rfl⟩
 ·rw[s1,i7]at eS
  rw[r1,b9,c5o (by omega)]at eR
  exact .inr ⟨c,eS,_,_,_,eR⟩
theorem Ctx.up(C:Ctx N w e S R i0 x){i1:Nat}(h:i0<i1)(hl:i1<=w.length):Ctx N w e S R i1 (x+1):=
 ⟨C.hN,C.wl,C.wok,C.e0,by have:=C.x0;omega,by have:=C.xb;omega,fun i h1 h2 y h3 h4=>C.sim i (by omega) h2 y h3 h4,C.bad⟩
theorem c9q(C:Ctx N w e S R i0 x)(hi0:i0<=w.length):c8T N w e (J2 N S) (C0 N R) i0 x:=by
 intro M p d hM
 have hwl:=C.wl
 have hx0:=C.x0
 have hxb:=C.xb
 have hx1:IntKind.i64.wrap (x+1)=x+1:=D8 (by omega) (by omega)
 obtain⟨SS,eS⟩:∃s,s=J2 N S (w.drop i0) e d:=⟨_,rfl⟩
 obtain⟨RR,eR⟩:∃s,s=C0 N R x (i0:Int) e false p w M:=⟨_,rfl⟩
 rw[<-eS,<-eR]
 unfold J2 at eS
 unfold C0 at eR
 rw[d6]at eR
 rcases c5p C hi0 M p d hM with⟨j,g,E,T,hj1,hj2,s1,r1,hg⟩|⟨c,s1,y,b,L,r1⟩
 case inr=>
  rw[s1,i7]at eS
  rw[r1,b9,J6,b9]at eR
  simp only[Bool.not_false,d4]at eR
  exact .inr ⟨c,eS,_,_,_,eR⟩
 rw[s1,l8]at eS
 rw[r1,b9]at eR
 simp only[GPart.eta,GExpr.eta]at eS eR
 cases hb:V8 w j 4 [61,61]with
 |false=>
  rw[L4 hb]at eS
  rw[L2 hb]at eR
  simp only[b9,Bool.not_false,d4]at eS eR
  exact .inl ⟨j,g,E,T,hj1,hj2,eS,eR,hg⟩
 |true=>
  have hbl:=B9 hb
  have hTl:=hg.len
  rw[N3 hb]at eS
  rw[O1 C.wl hb]at eR
  simp only[b9,Bool.not_true,d6,hx1]at eS eR
  rw[c0f C.hN (T.map (sh x)) M N (fun m hm=>by
   obtain⟨y,hy,rfl⟩:=List.mem_map.1 hm
   have:=hg.lo y hy
   simp only[sh];omega) (by rw[List.length_map];omega) (by rw[List.length_map];have:=C.hN;unfold L7 at this;omega),b7I]at eR
  rcases c5p (C.up (i1:=j+1) (by omega) (by omega)) (by omega) (M++T.map (sh (x+1))) p d (by rw[List.length_append,List.length_map];omega)with⟨j2,g2,E2,T2,hj3,hj4,s2,r2,hg2⟩|⟨c,s2,y,b,L,r2⟩
  ·rw[s2,l8]at eS
   rw[r2,b9]at eR
   have hg3:=(b9S C.hN (m:=j2-i0) (by omega) (by omega) (by omega) hg hg2).1
   refine .inl ⟨j2,_,_,_,by omega,hj4,eS,?_,hg3⟩
   rw[eR,b7I,List.map_append,List.append_assoc,Int.add_comm 1 x]
  ·rw[s2,i7]at eS
   rw[r2,b9]at eR
   exact .inr ⟨c,eS,_,_,_,eR⟩
end
theorem a4S{w:List A4}{n:Nat}(hn:0<n)(y a e p:Int)(M:Mk):r7 N n y a e true p w M=some (GExpr.mk (0:Int) ([]:c8) (0:Int) ([]:List c8) ([]:List GExpr),(a,(e,(true,(p,(w,M)))))):=by
 obtain⟨n,rfl⟩:∃q,n=q+1:=⟨n-1,by omega⟩
 show C0 N (r7 N n) y a e true p w M=_
 unfold C0
 rw[d4]
theorem b9M(hN:L7<=N){w:List A4}{e:Int}(hl:w.length<=50000)(hw:∀t∈w,a2h t)(he:0<=e):∀(n i:Nat) (x:Int),i<=w.length->w.length-i+1<n->0<=x->x+((w.length-i:Nat):Int)<=150000->
  c8T N w e (I2 N n) (r7 N n) i x
 |0,i,x,hi,hn,_,_=>absurd hn (by omega)
 |n+1,i,x,hi,hn,h0,hx=>
  c9q ⟨hN,hl,hw,he,h0,hx,fun i' h1 h2 y h3 h4=>b9M hN hl hw he n i' y h2 (by omega) h3 h4,fun y a p M=>a4S (by omega) y a e p M⟩ hi
theorem a5U(hN:L7<=N){w:List A4}{e:Int}(hl:w.length<=50000)(hw:∀t∈w,a2h t)(he:0<=e){i:Nat}(hi:i<=w.length){x:Int}(h0:0<=x)(hx:x<=60000)(M:Mk)(p d:Int)(hM:M.length<=i):
  (∃(j:Nat) (E:GExpr) (T:Mk),i<j/\j<=w.length/\T.length<=j-i/\Pos T/\EOk (j-i) E/\v7 N x (w.drop i) e d=some (.ok (E,(w.drop j,(e,dp d T))))/\r7 N N (x+1) (i:Int) e false p w M=some (E,((j:Int),(e,(false,(p,(w,M++T)))))))\/
  (∃c,v7 N x (w.drop i) e d=some (.error c)/\∃y a K,r7 N N (x+1) (i:Int) e false p w M=some (y,(a,(e,(true,(c,(w,K))))))):=by
 have hb:1000000<N:=by unfold L7 at hN;omega
 rcases b9M hN hl hw he N i (x+1) hi (by omega) (by omega) (by omega) M p d hM with⟨j,g,E,T,hj1,hj2,s1,r1,hg⟩|⟨c,s1,y,a,K,r1⟩
 ·refine .inl ⟨j,E,T.map (sh (x+1)),hj1,hj2,by have:=hg.len;simpa using this,fun m hm=>by obtain⟨y,hy,rfl⟩:=List.mem_map.1 hm;exact(hg.lo y hy).2.2,hg.ok,?_,r1⟩
  unfold v7
  rw[s1,l8]
  simp only
  rw[D8 (n:=x+1) (by omega) (by omega),hg.made N (by omega) (x+1) (by omega) (by omega),b9,GExpr.eta]
 ·refine .inr ⟨c,?_,y,a,K,r1⟩
  unfold v7
  rw[s1,i7]
end
noncomputable section
variable{N:Nat}
structure Wc(N:Nat)(w:List A4)(e:Int):Prop where
 hN:L7<=N
 wl:w.length<=50000
 wok:∀t∈w,a2h t
 e0:0<=e
abbrev KP:Type:=Int->Int->Bool->Int->List A4->Mk->List c8->Option (Int×Int×Bool×Int×List A4×Mk×List c8)
section
variable{w:List A4}{e:Int}
theorem d9n(V:Wc N w e){i:Nat}{q:c8}(h:P1 w i=some q){k n m a d:Int}{t tx s:c8}:
  x9 N k t tx n s m a (w.drop i) e d=some (.ok (k,(t,(tx,(n,(s,(m,(a,(w.drop (i+1),(e,(d,[q]))))))))))):=by
 unfold x9
 simp only[a77 V.hN V.wok h,l8,x7,o7,show decide ([q].length*(24*Ty.sz .str)<=140737488355328)=true by simp[Ty.sz],d4]
theorem d9m(V:Wc N w e){i:Nat}(h:P1 w i=none){k n m a d:Int}{t tx s:c8}:
  x9 N k t tx n s m a (w.drop i) e d=some (.error (atS w i e)):=by
 unfold x9
 simp only[a3q V.hN V.wok h,i7,x7,o7]
theorem d9p(V:Wc N w e){i:Nat}{q:c8}(h:P1 w i=some q){k n m a d:Int}{t tx s:c8}{ks:List c8}(hk:ks.length<=50000):
  y7 N k t tx n s m a ks (w.drop i) e d=some (.ok (k,(t,(tx,(n,(s,(m,(a,(ks ++ [q],(w.drop (i+1),(e,d))))))))))):=by
 unfold y7
 simp only[a77 V.hN V.wok h,l8,x7,o7,b0O hk,d4]
theorem d9o(V:Wc N w e){i:Nat}(h:P1 w i=none){k n m a d:Int}{t tx s:c8}{ks:List c8}:
  y7 N k t tx n s m a ks (w.drop i) e d=some (.error (atS w i e)):=by
 unfold y7
 simp only[a3q V.hN V.wok h,i7,x7,o7]
def c66(N:Nat)(k0 self:KP)(a e:Int)(b:Bool)(p:Int)(w:List A4)(M:Mk)(ks:List c8):Option (Int×Int×Bool×Int×List A4×Mk×List c8):=f5 (r8 N a e b p w M) fun t23=>br (decide ((ks.length + [t23.1].length)*(24*Ty.sz .str)<=140737488355328)) (f5 (j5 N (4:Int) ([44]:c8) t23.2.1 t23.2.2.1 t23.2.2.2.1 t23.2.2.2.2.1 t23.2.2.2.2.2.1 t23.2.2.2.2.2.2) fun t29=>br (!t29.1) (k0 t29.2.1 t29.2.2.1 t29.2.2.2.1 t29.2.2.2.2.1 t29.2.2.2.2.2.1 t29.2.2.2.2.2.2 (ks ++ [t23.1])) (self t29.2.1 t29.2.2.1 t29.2.2.2.1 t29.2.2.2.2.1 t29.2.2.2.2.2.1 t29.2.2.2.2.2.2 (ks ++ [t23.1]))) none
theorem a84(k0 self:KP)(a e:Int)(b:Bool)(p:Int)(w:List A4)(M:Mk)(ks:List c8):b2h N k0 self a e b p w M ks =
  br (!b) (br (decide ((ks.length:Int)>(0:Int))) (c66 N k0 self a e b p w M ks) (f5 (y5 N (w,(a,(e,(b,p)))) (4:Int) ([41]:c8)) fun t18=>br (!t18) (c66 N k0 self a e b p w M ks) (k0 a e b p w M ks))) (k0 a e b p w M ks):=rfl
theorem c9P(V:Wc N w e){i:Nat}{q:c8}(h:P1 w i=some q){k0 self:KP}{p:Int}{M:Mk}{ks:List c8}(hk:ks.length<=50000):c66 N k0 self (i:Int) e false p w M ks =
  (f5 (j5 N (4:Int) ([44]:c8) ((i+1:Nat):Int) e false p w M) fun t29=>br (!t29.1)
   (k0 t29.2.1 t29.2.2.1 t29.2.2.2.1 t29.2.2.2.2.1 t29.2.2.2.2.2.1 t29.2.2.2.2.2.2 (ks ++ [q]))
   (self t29.2.1 t29.2.2.1 t29.2.2.2.1 t29.2.2.2.2.1 t29.2.2.2.2.2.1 t29.2.2.2.2.2.2 (ks ++ [q]))):=by
 unfold c66
 rw[a5Q V.hN V.wl V.wok h,b9]
 simp only[b0O hk,d4]
theorem c9O(V:Wc N w e){i:Nat}(h:P1 w i=none){k0 self:KP}{p:Int}{M:Mk}{ks:List c8}(hk:ks.length<=50000):c66 N k0 self (i:Int) e false p w M ks=k0 (i:Int) e true (atS w i e) w M (ks ++ [[]]):=by
 unfold c66
 rw[a2p V.hN V.wok h,b9]
 simp only[b0O hk,d4,J6,b9,Bool.not_false]
theorem c9R{α:Type}{l:List α}(h:l ≠ []):decide ((l.length:Int)>0)=true:=decide_eq_true (by have:=List.length_pos_iff.2 h;omega)
theorem c0b(V:Wc N w e){M:Mk}{p d k n m a:Int}{t tx s:c8}
  {K:List A4->Int->Int->Int->c8->c8->Int->c8->Int->Int->List c8->Option (Except Int (List A4×Int×Int×Int×c8×c8×List c8×Int×c8×Int×Int))} {k0:KP}:
  ∀(u i f1 f2:Nat) (ks:List c8),i+u=w.length->u<f1->u<f2->ks ≠ []->ks.length<=i->(∀q∈ks,E6 q=true)->
  let SS:=e70 N K f1 (w.drop i) e d k t tx n s m a ks
  let RR:=f5 (j5 N (4:Int) ([44]:c8) (i:Int) e false p w M) fun t29=>br (!t29.1)
   (k0 t29.2.1 t29.2.2.1 t29.2.2.2.1 t29.2.2.2.2.1 t29.2.2.2.2.2.1 t29.2.2.2.2.2.2 ks)
   (a0T N k0 f2 t29.2.1 t29.2.2.1 t29.2.2.2.1 t29.2.2.2.2.1 t29.2.2.2.2.2.1 t29.2.2.2.2.2.2 ks)
  (∃(j:Nat) (ls:List c8),i<=j/\j<=w.length/\ls.length<=j/\(∀q∈ls,E6 q=true)/\SS=K (w.drop j) e d k t tx n s m a ls/\RR=k0 (j:Int) e false p w M ls)\/
  (∃c,SS=some (.error c)/\∃b ys,RR=k0 b e true c w M ys)
 |u,i,f1,f2,ks,hu,h1,h2,hne,hkl,hks=>by
  obtain⟨f1,rfl⟩:∃q,f1=q+1:=⟨f1-1,by omega⟩
  obtain⟨f2,rfl⟩:∃q,f2=q+1:=⟨f2-1,by omega⟩
  intro SS RR
  have hwl:=V.wl
  have eS:SS=e71 N K (e70 N K f1) (w.drop i) e d k t tx n s m a ks:=rfl
  unfold e71 at eS
  have eR:RR=f5 _ _:=rfl
  cases hb:V8 w i 4 [44]with
  |false=>
   rw[L4 hb]at eS
   rw[L2 hb]at eR
   simp only[b9,d6,Bool.not_false,d4]at eS eR
   exact .inl ⟨i,ks,by omega,by omega,hkl,hks,eS,eR⟩
  |true=>
   have hil:=B9 hb
   rw[N3 hb]at eS
   rw[O1 V.wl hb]at eR
   simp only[b9,d4,Bool.not_true,d6]at eS eR
   have eR2:RR=b2h N k0 (a0T N k0 f2) ((i+1:Nat):Int) e false p w M ks:=eR
   rw[a84,Bool.not_false,d4,c9R hne,d4]at eR2
   cases hq:P1 w (i+1)with
   |none=>
    rw[d9o V hq,i7]at eS
    rw[c9O V hq (by omega)]at eR2
    exact .inr ⟨_,eS,_,_,eR2⟩
   |some q=>
    have hql:=(Q5 hq).1
    rw[d9p V hq (by omega),l8]at eS
    rw[c9P V hq (by omega)]at eR2
    have hqn:E6 q=true:=by obtain⟨_,_,h,rfl⟩:=Q5 hq;exact h
    have ih:=c0b V (M:=M) (p:=p) (d:=d) (k:=k) (n:=n) (m:=m) (a:=a) (t:=t) (tx:=tx) (s:=s) (K:=K) (k0:=k0) (w.length-(i+2)) (i+2) f1 f2 (ks ++ [q]) (by omega) (by omega) (by omega) (by simp) (by simp;omega) (fun y hy=>by
     rcases List.mem_append.1 hy with hy|hy
     ·exact hks y hy
     ·rw[List.mem_singleton.1 hy];exact hqn)
    rw[eS,eR2]
    rcases ih with⟨j,ls,u1,u2,u3,u4,u5,u6⟩|⟨c,u1,b,ys,u2⟩
    ·exact .inl ⟨j,ls,by omega,u2,u3,u4,u5,u6⟩
    ·exact .inr ⟨c,u1,b,ys,u2⟩
 termination_by u=>u
theorem a42{f:Nat}(hf:N=f+1){k0:KP}{a e p:Int}{b:Bool}{w:List A4}{M:Mk}{ks:List c8}:a0T N k0 N a e b p w M ks=b2h N k0 (a0T N k0 f) a e b p w M ks:=by
 subst hf;rfl
theorem d6b(V:Wc N w e){M:Mk}{p d k n m a:Int}{t tx s:c8}{i:Nat}(hi:i<=w.length):
  let SS:=J9 N ([41]:c8) true (w.drop i) e d k t tx n s m a
  let RR:=a0T N (fun o0_0_1 o0_0_2 o0_0_3 o0_0_4 o0_w1 o0_w2 o0_w1003=>
   f5 (j7 N ([41]:c8) o0_0_1 o0_0_2 o0_0_3 o0_0_4 o0_w1 o0_w2) fun t32=>
   some (t32.1,(t32.2.1,(t32.2.2.1,(t32.2.2.2.1,(t32.2.2.2.2.1,(t32.2.2.2.2.2,o0_w1003))))))) N (i:Int) e false p w M ([]:List c8)
  (∃(j:Nat) (ls:List c8),i<j/\j<=w.length/\ls.length<=j/\(∀q∈ls,E6 q=true)/\SS=some (.ok (w.drop j,(e,(d,(k,(t,(tx,(ls,(n,(s,(m,a)))))))))))/\RR=some ((j:Int),(e,(false,(p,(w,(M,ls)))))))\/
  (∃c,SS=some (.error c)/\∃b ys,RR=some (b,(e,(true,(c,(w,(M,ys))))))):=by
 intro SS RR
 obtain⟨f,hf,hf2⟩:=a7Y V.hN
 have hwl:=V.wl
 have eS:SS=J9 N ([41]:c8) true (w.drop i) e d k t tx n s m a:=rfl
 have eR:RR=a0T N _ N (i:Int) e false p w M []:=rfl
 unfold J9 at eS
 rw[d4]at eS
 rw[a42 hf,a84,Bool.not_false,d4,show decide (((([]:List c8).length:Nat):Int)>0)=false by decide,d6,a3x,b9]at eR
 cases hb:V8 w i 4 [41]with
 |true=>
  have hbl:=B9 hb
  rw[N3 hb]at eS
  rw[hb]at eR
  simp only[b9,d4,Bool.not_true,d6,H4 V.wl hb]at eS eR
  exact .inl ⟨i+1,[],by omega,by omega,by simp,by simp,eS,eR⟩
 |false=>
  rw[L4 hb]at eS
  rw[hb]at eR
  simp only[b9,d6,Bool.not_false,d4]at eS eR
  cases hq:P1 w i with
  |none=>
   rw[d9m V hq,i7]at eS
   rw[c9O V hq (by simp),A7,b9]at eR
   exact .inr ⟨_,eS,_,_,eR⟩
  |some q=>
   have hql:=(Q5 hq).1
   have hqn:E6 q=true:=by obtain⟨_,_,h,rfl⟩:=Q5 hq;exact h
   rw[d9n V hq,l8]at eS
   rw[c9P V hq (by simp),List.nil_append]at eR
   have lp:=c0b V (M:=M) (p:=p) (d:=d) (k:=k) (n:=n) (m:=m) (a:=a) (t:=t) (tx:=tx) (s:=s)
    (K:=fun o0_0_0 o0_0_1 o0_0_2 o0_1_0 o0_1_1 o0_1_2 o0_1_5 o0_1_6 o0_1_7 o0_1_12 o0_w101500=>
     l7 (g8 N ([41]:c8) o0_0_0 o0_0_1 o0_0_2) fun t22=>
     some (.ok (t22.1,(t22.2.1,(t22.2.2,(o0_1_0,(o0_1_1,(o0_1_2,(o0_w101500,(o0_1_5,(o0_1_6,(o0_1_7,o0_1_12))))))))))))
    (k0:=fun o0_0_1 o0_0_2 o0_0_3 o0_0_4 o0_w1 o0_w2 o0_w1003=>
     f5 (j7 N ([41]:c8) o0_0_1 o0_0_2 o0_0_3 o0_0_4 o0_w1 o0_w2) fun t32=>
     some (t32.1,(t32.2.1,(t32.2.2.1,(t32.2.2.2.1,(t32.2.2.2.2.1,(t32.2.2.2.2.2,o0_w1003)))))))
    (w.length-(i+1)) (i+1) N f [q] (by omega) (by omega) (by omega) (by simp) (by simp) (fun y hy=>by rw[List.mem_singleton.1 hy];exact hqn)
   rw[eS,eR]
   rcases lp with⟨j,ls,u1,u2,u3,u4,u5,u6⟩|⟨c,u1,b,ys,u2⟩
   ·rw[u5,u6]
    cases hs:V8 w j 4 [41]with
    |true=>
     have hsl:=B9 hs
     rw[S1 hs,H4 V.wl hs,l8,b9]
     exact .inl ⟨j+1,ls,by omega,by omega,by omega,u4,rfl,rfl⟩
    |false=>
     rw[S0 hs,N0 hs,i7,b9]
     exact .inr ⟨_,rfl,_,_,rfl⟩
   ·rw[u1,u2,A7,b9]
    exact .inr ⟨_,rfl,_,_,rfl⟩
abbrev Ag:Type:=c8×GExpr
abbrev KA:Type:=Int->Int->Bool->Int->List A4->Mk->List Ag->Option (Int×Int×Bool×Int×List A4×Mk×List Ag)
noncomputable def c8Z(N:Nat)(x:Int)(k0 self:KA)(a e:Int)(b:Bool)(p:Int)(w:List A4)(M:Mk)(ag:List Ag):Option (Int×Int×Bool×Int×List A4×Mk×List Ag):=f5 (r8 N a e b p w M) fun t25=>f5 (j7 N ([61]:c8) t25.2.1 t25.2.2.1 t25.2.2.2.1 t25.2.2.2.2.1 t25.2.2.2.2.2.1 t25.2.2.2.2.2.2) fun t28=>f5 (r7 N N x t28.1 t28.2.1 t28.2.2.1 t28.2.2.2.1 t28.2.2.2.2.1 t28.2.2.2.2.2) fun t31=>br (decide ((ag.length + [(t25.1,GExpr.mk t31.1.kind t31.1.text t31.1.number t31.1.keys t31.1.kids)].length)*(24*Ty.sz (.pr .str (.rc .expr)))<=140737488355328)) (f5 (j5 N (4:Int) ([44]:c8) t31.2.1 t31.2.2.1 t31.2.2.2.1 t31.2.2.2.2.1 t31.2.2.2.2.2.1 t31.2.2.2.2.2.2) fun t38=>br (!t38.1) (k0 t38.2.1 t38.2.2.1 t38.2.2.2.1 t38.2.2.2.2.1 t38.2.2.2.2.2.1 t38.2.2.2.2.2.2 (ag ++ [(t25.1,GExpr.mk t31.1.kind t31.1.text t31.1.number t31.1.keys t31.1.kids)])) (self t38.2.1 t38.2.2.1 t38.2.2.2.1 t38.2.2.2.2.1 t38.2.2.2.2.2.1 t38.2.2.2.2.2.2 (ag ++ [(t25.1,GExpr.mk t31.1.kind t31.1.text t31.1.number t31.1.keys t31.1.kids)]))) none
theorem c81(x:Int)(k0 self:KA)(a e:Int)(b:Bool)(p:Int)(w:List A4)(M:Mk)(ag:List Ag):b6G N x k0 self a e b p w M ag =
  br (!b) (br (decide ((ag.length:Int)>(0:Int))) (c8Z N x k0 self a e b p w M ag) (f5 (y5 N (w,(a,(e,(b,p)))) (4:Int) ([41]:c8)) fun t20=>br (!t20) (c8Z N x k0 self a e b p w M ag) (k0 a e b p w M ag))) (k0 a e b p w M ag):=rfl
theorem d5T{l:List Ag}{z:Ag}(h:l.length<=50000):decide ((l.length + [z].length)*(24*Ty.sz (.pr .str (.rc .expr)))<=140737488355328)=true:=b2r (by decide) (by simp;omega)
theorem b9s(V:Wc N w e){i:Nat}(hi:i<=w.length){x:Int}(h0:0<=x)(hx:x<=60000)(M:Mk)(p d:Int)(hM:M.length<=i){k n m a:Int}{t tx s:c8}(k0 self:KA)(ag:List Ag)(hag:ag.length<=50000):
  (∃(j:Nat) (q:c8) (E:GExpr) (T:Mk),i+2<j/\j<=w.length/\T.length<=j-(i+2)/\Pos T/\E6 q=true/\EOk 60000 E/\
   D1 N x (w.drop i) e d k t tx n s m a=some (.ok (x,(w.drop j,(e,(dp d T,(k,(t,(tx,(n,(s,(m,(a,[(q,E)]))))))))))))/\
   E3 N x (w.drop i) e d k t tx n s m a ag=some (.ok (x,(w.drop j,(e,(dp d T,(k,(t,(tx,(n,(s,(m,(a,ag ++ [(q,E)]))))))))))))/\
   c8Z N (x+1) k0 self (i:Int) e false p w M ag=(f5 (j5 N (4:Int) ([44]:c8) (j:Int) e false p w (M++T)) fun t38=>br (!t38.1)
    (k0 t38.2.1 t38.2.2.1 t38.2.2.2.1 t38.2.2.2.2.1 t38.2.2.2.2.2.1 t38.2.2.2.2.2.2 (ag ++ [(q,E)]))
    (self t38.2.1 t38.2.2.1 t38.2.2.2.1 t38.2.2.2.2.1 t38.2.2.2.2.2.1 t38.2.2.2.2.2.2 (ag ++ [(q,E)]))))\/
  (∃c,D1 N x (w.drop i) e d k t tx n s m a=some (.error c)/\E3 N x (w.drop i) e d k t tx n s m a ag=some (.error c)/\∃b L ys,c8Z N (x+1) k0 self (i:Int) e false p w M ag=k0 b e true c w L ys):=by
 have hN:=V.hN
 have hpos:0<N:=by unfold L7 at hN;omega
 unfold D1 E3 c8Z
 cases hq:P1 w i with
 |none=>
  simp only[a3q V.hN V.wok hq,i7,a2p V.hN V.wok hq,b9,A7,a4S hpos,d5T hag,d4,J6,Bool.not_false]
  exact .inr ⟨_,rfl,rfl,_,_,_,rfl⟩
 |some q=>
  have hql:=(Q5 hq).1
  have hqn:E6 q=true:=by obtain⟨_,_,h,rfl⟩:=Q5 hq;exact h
  simp only[a77 V.hN V.wok hq,l8,a5Q V.hN V.wl V.wok hq,b9]
  cases hb:V8 w (i+1) 4 [61]with
  |false=>
   simp only[S0 hb,i7,N0 hb,b9,a4S hpos,d5T hag,d4,J6,Bool.not_false]
   exact .inr ⟨_,rfl,rfl,_,_,_,rfl⟩
  |true=>
   have hbl:=B9 hb
   simp only[S1 hb,l8,H4 V.wl hb,b9]
   rcases a5U V.hN V.wl V.wok V.e0 (i:=i+1+1) (by omega) h0 hx M p d (by omega)with⟨j,E,T,hj1,hj2,hT,hTp,hE,s1,r1⟩|⟨c,s1,y,b,L,r1⟩
   ·have hwl:=V.wl
    simp only[s1,l8,r1,b9,GExpr.eta,d5T hag,d4,x7,o7,show decide ([(q,E)].length*(24*Ty.sz (.pr .str (.rc .expr)))<=140737488355328)=true from b2r (by decide) (by simp)]
    exact .inl ⟨j,q,E,T,by omega,hj2,by omega,hTp,hqn,hE.mono (by omega),rfl,rfl,rfl⟩
   ·simp only[s1,i7,r1,b9,d5T hag,d4,J6,Bool.not_false]
    exact .inr ⟨_,rfl,rfl,_,_,_,rfl⟩
theorem b9r(V:Wc N w e){i0:Nat}{x:Int}(h0:0<=x)(hx:x<=60000){M0:Mk}(hM0:M0.length<=i0){p d k n m a:Int}{t tx s:c8}
  {K:List A4->Int->Int->Int->Int->c8->c8->Int->c8->Int->Int->List Ag->Option (Except Int (List A4×Int×Int×Int×Int×c8×c8×List Ag×Int×c8×Int×Int))} {k0:KA}:
  ∀(u i f1 f2:Nat) (ag:List Ag) (T:Mk),i+u=w.length->u<f1->u<f2->i0<=i->ag ≠ []->ag.length<=i->T.length<=i-i0->Pos T->(∀q∈ag,E6 q.1=true/\EOk 60000 q.2)->
  let SS:=e7U N K f1 (w.drop i) e (dp d T) x k t tx n s m a ag
  let RR:=f5 (j5 N (4:Int) ([44]:c8) (i:Int) e false p w (M0++T)) fun t38=>br (!t38.1)
   (k0 t38.2.1 t38.2.2.1 t38.2.2.2.1 t38.2.2.2.2.1 t38.2.2.2.2.2.1 t38.2.2.2.2.2.2 ag)
   (a1P N (x+1) k0 f2 t38.2.1 t38.2.2.1 t38.2.2.2.1 t38.2.2.2.2.1 t38.2.2.2.2.2.1 t38.2.2.2.2.2.2 ag)
  (∃(j:Nat) (ls:List Ag) (T':Mk),i<=j/\j<=w.length/\ls.length<=j/\T'.length<=j-i0/\Pos T'/\(∀q∈ls,E6 q.1=true/\EOk 60000 q.2)/\SS=K (w.drop j) e (dp d T') x k t tx n s m a ls/\RR=k0 (j:Int) e false p w (M0++T') ls)\/
  (∃c,SS=some (.error c)/\∃b L ys,RR=k0 b e true c w L ys)
 |u,i,f1,f2,ag,T,hu,h1,h2,hi0,hne,hal,hT,hTp,hag=>by
  obtain⟨f1,rfl⟩:∃q,f1=q+1:=⟨f1-1,by omega⟩
  obtain⟨f2,rfl⟩:∃q,f2=q+1:=⟨f2-1,by omega⟩
  intro SS RR
  have hwl:=V.wl
  have eS:SS=e7V N K (e7U N K f1) (w.drop i) e (dp d T) x k t tx n s m a ag:=rfl
  unfold e7V at eS
  have eR:RR=f5 _ _:=rfl
  cases hb:V8 w i 4 [44]with
  |false=>
   rw[L4 hb]at eS
   rw[L2 hb]at eR
   simp only[b9,d6,Bool.not_false,d4]at eS eR
   exact .inl ⟨i,ag,T,by omega,by omega,hal,hT,hTp,hag,eS,eR⟩
  |true=>
   have hil:=B9 hb
   rw[N3 hb]at eS
   rw[O1 V.wl hb]at eR
   simp only[b9,d4,Bool.not_true,d6]at eS eR
   have eR2:RR=b6G N (x+1) k0 (a1P N (x+1) k0 f2) ((i+1:Nat):Int) e false p w (M0++T) ag:=eR
   rw[c81,Bool.not_false,d4,c9R hne,d4]at eR2
   rcases b9s V (i:=i+1) (by omega) h0 hx (M0++T) p (dp d T) (by rw[List.length_append];omega) (k:=k) (n:=n) (m:=m) (a:=a) (t:=t) (tx:=tx) (s:=s) k0 (a1P N (x+1) k0 f2) ag (by omega)with⟨j,q,E,T2,hj1,hj2,hT2,hTp2,hqn,hE,_,s1,r1⟩|⟨c,_,s1,b,L,ys,r1⟩
   ·rw[s1,l8]at eS
    rw[r1]at eR2
    simp only at eS
    rw[<-a1M]at eS
    rw[List.append_assoc]at eR2
    have ih:=b9r V h0 hx hM0 (p:=p) (d:=d) (k:=k) (n:=n) (m:=m) (a:=a) (t:=t) (tx:=tx) (s:=s) (K:=K) (k0:=k0) (w.length-j) j f1 f2 (ag ++ [(q,E)]) (T++T2) (by omega) (by omega) (by omega) (by omega) (by simp) (by simp;omega) (by rw[List.length_append];omega) (hTp.app hTp2) (fun y hy=>by
     rcases List.mem_append.1 hy with hy|hy
     ·exact hag y hy
     ·rw[List.mem_singleton.1 hy];exact⟨hqn,hE⟩)
    rw[eS,eR2]
    rcases ih with⟨j',ls,T',u1,u2,u3,u4,u4p,u5,u6,u7⟩|⟨c,u1,b,L,ys,u2⟩
    ·exact .inl ⟨j',ls,T',by omega,u2,u3,u4,u4p,u5,u6,u7⟩
    ·exact .inr ⟨c,u1,b,L,ys,u2⟩
   ·rw[s1,i7]at eS
    rw[r1]at eR2
    exact .inr ⟨c,eS,b,L,ys,eR2⟩
 termination_by u=>u
theorem c6K{f:Nat}(hf:N=f+1){x:Int}{k0:KA}{a e p:Int}{b:Bool}{w:List A4}{M:Mk}{ag:List Ag}:a1P N x k0 N a e b p w M ag=b6G N x k0 (a1P N x k0 f) a e b p w M ag:=by
 subst hf;rfl
theorem d5M(V:Wc N w e){x:Int}(h0:0<=x)(hx:x<=60000){M:Mk}{p d k n m a:Int}{t tx s:c8}{i:Nat}(hi:i<=w.length)(hM:M.length<=i):
  let SS:=H1 N ([41]:c8) true (w.drop i) e d x k t tx n s m a
  let RR:=a1P N (x+1) (fun o0_0_1 o0_0_2 o0_0_3 o0_0_4 o0_w1 o0_w2 o0_w1005=>
   f5 (j7 N ([41]:c8) o0_0_1 o0_0_2 o0_0_3 o0_0_4 o0_w1 o0_w2) fun t41=>
   some (t41.1,(t41.2.1,(t41.2.2.1,(t41.2.2.2.1,(t41.2.2.2.2.1,(t41.2.2.2.2.2,o0_w1005))))))) N (i:Int) e false p w M ([]:List Ag)
  (∃(j:Nat) (ls:List Ag) (T:Mk),i<j/\j<=w.length/\ls.length<=j/\T.length<=j-i/\Pos T/\(∀q∈ls,E6 q.1=true/\EOk 60000 q.2)/\SS=some (.ok (w.drop j,(e,(dp d T,(x,(k,(t,(tx,(ls,(n,(s,(m,a))))))))))))/\RR=some ((j:Int),(e,(false,(p,(w,(M++T,ls)))))))\/
  (∃c,SS=some (.error c)/\∃b L ys,RR=some (b,(e,(true,(c,(w,(L,ys))))))):=by
 intro SS RR
 obtain⟨f,hf,hf2⟩:=a7Y V.hN
 have hwl:=V.wl
 have eS:SS=H1 N ([41]:c8) true (w.drop i) e d x k t tx n s m a:=rfl
 have eR:RR=a1P N (x+1) _ N (i:Int) e false p w M []:=rfl
 unfold H1 at eS
 rw[d4]at eS
 rw[c6K hf,c81,Bool.not_false,d4,show decide (((([]:List Ag).length:Nat):Int)>0)=false by decide,d6,a3x,b9]at eR
 cases hb:V8 w i 4 [41]with
 |true=>
  have hbl:=B9 hb
  rw[N3 hb]at eS
  rw[hb]at eR
  simp only[b9,d4,Bool.not_true,d6,H4 V.wl hb]at eS eR
  exact .inl ⟨i+1,[],[],by omega,by omega,by simp,by simp,Pos.nil,by simp,eS,by rw[eR,List.append_nil]⟩
 |false=>
  rw[L4 hb]at eS
  rw[hb]at eR
  simp only[b9,d6,Bool.not_false,d4]at eS eR
  rcases b9s V (i:=i) hi h0 hx M p d hM (k:=k) (n:=n) (m:=m) (a:=a) (t:=t) (tx:=tx) (s:=s) _ _ [] (by simp)with⟨j,q,E,T2,hj1,hj2,hT2,hTp2,hqn,hE,s1,_,r1⟩|⟨c,s1,_,b,L,ys,r1⟩
  ·rw[s1,l8]at eS
   rw[r1,List.nil_append]at eR
   have lp:=b9r V h0 hx (i0:=i) hM (p:=p) (d:=d) (k:=k) (n:=n) (m:=m) (a:=a) (t:=t) (tx:=tx) (s:=s)
    (K:=fun o0_0_0 o0_0_1 o0_0_2 o0_2_0 o0_4_0 o0_4_1 o0_4_2 o0_4_5 o0_4_6 o0_4_7 o0_4_12 o0_w101500=>
     l7 (g8 N ([41]:c8) o0_0_0 o0_0_1 o0_0_2) fun t22=>
     some (.ok (t22.1,(t22.2.1,(t22.2.2,(o0_2_0,(o0_4_0,(o0_4_1,(o0_4_2,(o0_w101500,(o0_4_5,(o0_4_6,(o0_4_7,o0_4_12)))))))))))))
    (k0:=fun o0_0_1 o0_0_2 o0_0_3 o0_0_4 o0_w1 o0_w2 o0_w1005=>
     f5 (j7 N ([41]:c8) o0_0_1 o0_0_2 o0_0_3 o0_0_4 o0_w1 o0_w2) fun t41=>
     some (t41.1,(t41.2.1,(t41.2.2.1,(t41.2.2.2.1,(t41.2.2.2.2.1,(t41.2.2.2.2.2,o0_w1005)))))))
    (w.length-j) j N f [(q,E)] T2 (by omega) (by omega) (by omega) (by omega) (by simp) (by simp;omega) (by omega) hTp2 (fun y hy=>by rw[List.mem_singleton.1 hy];exact⟨hqn,hE⟩)
   rw[eS,eR]
   rcases lp with⟨j',ls,T',u1,u2,u3,u4,u4p,u5,u6,u7⟩|⟨c,u1,b,L,ys,u2⟩
   ·rw[u6,u7]
    cases hs:V8 w j' 4 [41]with
    |true=>
     have hsl:=B9 hs
     rw[S1 hs,H4 V.wl hs,l8,b9]
     exact .inl ⟨j'+1,ls,T',by omega,by omega,by omega,by omega,u4p,u5,rfl,rfl⟩
    |false=>
     rw[S0 hs,N0 hs,i7,b9]
     exact .inr ⟨_,rfl,_,_,_,rfl⟩
   ·rw[u1,u2,A7,b9]
    exact .inr ⟨_,rfl,_,_,_,rfl⟩
  ·rw[s1,i7]at eS
   rw[r1,A7,b9]at eR
   exact .inr ⟨_,eS,_,_,_,eR⟩
end
end
end Go.Proofs.YtolpmfhiegpohaaGreatDoor
