/- Law 39, second part: with something between the tokens they are the same ones. -/
import Derived.Test.YtolpmfhiegpohaaGreatDoorQLBl1
import Derived.Test.YtolpmfhiegpohaaGreatDoorQEndU
namespace Go.Proofs.YtolpmfhiegpohaaGreatDoor
set_option linter.unusedVariables false
set_option linter.unusedSimpArgs false
set_option maxRecDepth 100000
open Go Go.RowKit
section
def e1q:Bool->c8->Option Bool|b,[]=>some b|true,c :: r=>e1q (c !=10) r|false,c :: r=>if c=32 then e1q false r else if c=9 then e1q false r else if c=10 then e1q false r else if c=13 then e1q false r else if c=35 then e1q true r else none
def e7d(c:UInt8):Prop:=c=32\/c=9\/c=10\/c=13\/c=35
theorem e0p:∀(x:c8) (st b:Bool) (y:c8),e1q st x=some b->b98 st (x++y)=b98 b y
 |[],st,b,y,h=>by
  cases st<;>(rw[e1q]at h;cases h;rfl)
 |c :: x,true,b,y,h=>by
  rw[e1q]at h
  rw[List.cons_append,b98,e0p x _ b y h]
 |c :: x,false,b,y,h=>by
  rw[e1q]at h
  rw[List.cons_append,b98]
  split at h
  ·rw[if_pos (by assumption)];exact e0p x _ b y h
  rw[if_neg (by assumption)]
  split at h
  ·rw[if_pos (by assumption)];exact e0p x _ b y h
  rw[if_neg (by assumption)]
  split at h
  ·rw[if_pos (by assumption)];exact e0p x _ b y h
  rw[if_neg (by assumption)]
  split at h
  ·rw[if_pos (by assumption)];exact e0p x _ b y h
  rw[if_neg (by assumption)]
  split at h
  ·rw[if_pos (by assumption)];exact e0p x _ b y h
  ·cases h
theorem e2O:∀(u:c8) (st:Bool),∃(x:c8) (b:Bool),u=x++b98 st u/\e1q st x=some b/\(∀c r,b98 st u=c :: r->b=false/\¬e7d c)
 |[],st=>⟨[],st,by cases st<;>rfl,by cases st<;>rfl,by intro c r h;cases st<;>cases h⟩
 |c :: r,true=>by
  obtain⟨x,b,h1,h2,h3⟩:=e2O r (c !=10)
  refine⟨c :: x,b,?_,?_,?_⟩
  ·rw[b98,List.cons_append,<-h1]
  ·rw[e1q];exact h2
  ·rw[b98];exact h3
 |c :: r,false=>by
  have go:∀st',b98 false (c :: r)=b98 st' r->(∀x,e1q false (c :: x)=e1q st' x)->∃(x:c8) (b:Bool),c :: r=x++b98 false (c :: r)/\e1q false x=some b/\(∀c' r',b98 false (c :: r)=c' :: r'->b=false/\¬e7d c'):=by
   intro st' e1 e2
   obtain⟨x,b,h1,h2,h3⟩:=e2O r st'
   refine⟨c :: x,b,?_,?_,?_⟩
   ·rw[e1,List.cons_append,<-h1]
   ·rw[e2];exact h2
   ·rw[e1];exact h3
  by_cases h32:c=32
  ·exact go false (by rw[b98,if_pos h32]) (fun x=>by rw[e1q,if_pos h32])
  by_cases h9:c=9
  ·exact go false (by rw[b98,if_neg h32,if_pos h9]) (fun x=>by rw[e1q,if_neg h32,if_pos h9])
  by_cases h10:c=10
  ·exact go false (by rw[b98,if_neg h32,if_neg h9,if_pos h10]) (fun x=>by rw[e1q,if_neg h32,if_neg h9,if_pos h10])
  by_cases h13:c=13
  ·exact go false (by rw[b98,if_neg h32,if_neg h9,if_neg h10,if_pos h13]) (fun x=>by rw[e1q,if_neg h32,if_neg h9,if_neg h10,if_pos h13])
  by_cases h35:c=35
  ·exact go true (by rw[b98,if_neg h32,if_neg h9,if_neg h10,if_neg h13,if_pos h35]) (fun x=>by rw[e1q,if_neg h32,if_neg h9,if_neg h10,if_neg h13,if_pos h35])
  have e:b98 false (c :: r)=c :: r:=by rw[b98,if_neg h32,if_neg h9,if_neg h10,if_neg h13,if_neg h35]
  refine⟨[],false,by rw[e];rfl,rfl,?_⟩
  intro c' r' h
  rw[e]at h
  obtain⟨rfl,_⟩:=List.cons.inj h
  refine⟨rfl,?_⟩
  rintro(h|h|h|h|h)
  ·exact h32 h
  ·exact h9 h
  ·exact h10 h
  ·exact h13 h
  ·exact h35 h
theorem f1B{c:UInt8}{r:c8}(h:¬e7d c):b98 false (c :: r)=c :: r:=by
 unfold e7d at h
 rw[b98,if_neg (fun e=>h (.inl e)),if_neg (fun e=>h (.inr (.inl e))),if_neg (fun e=>h (.inr (.inr (.inl e)))),if_neg (fun e=>h (.inr (.inr (.inr (.inl e))))),if_neg (fun e=>h (.inr (.inr (.inr (.inr e)))))]
theorem e9j{c:UInt8}{r:c8}{b:Bool}(h:e1q false (c :: r)=some b):e7d c:=by
 rw[e1q]at h
 unfold e7d
 split at h
 ·exact .inl (by assumption)
 split at h
 ·exact .inr (.inl (by assumption))
 split at h
 ·exact .inr (.inr (.inl (by assumption)))
 split at h
 ·exact .inr (.inr (.inr (.inl (by assumption))))
 split at h
 ·exact .inr (.inr (.inr (.inr (by assumption))))
 ·cases h
def f1o(r:c8):Prop:=∀c y,r=c :: y->e7d c
theorem e9C(p:UInt8->Bool)(hp:∀c,e7d c->p c=false):∀(b r:c8),(∀c∈b,p c=true)->f1o r->(b++r).takeWhile p=b/\(b++r).dropWhile p=r
 |[],[],_,_=>⟨rfl,rfl⟩
 |[],c :: r,_,h=>by
  have:=hp c (h c r rfl)
  simp[List.takeWhile_cons,List.dropWhile_cons,this]
 |a :: b,r,h1,h2=>by
  have:=e9C p hp b r (fun c hc=>h1 c (by simp[hc])) h2
  have ha:=h1 a (by simp)
  rw[List.cons_append,List.takeWhile_cons,List.dropWhile_cons,if_pos ha,if_pos ha,this.1,this.2]
  exact⟨rfl,rfl⟩
theorem f1w(c:UInt8)(h:e7d c):Z5 c=false:=by
 rcases h with h|h|h|h|h<;>subst h<;>decide
theorem f3y(c:UInt8)(h:e7d c):X8 c=false:=by
 rcases h with h|h|h|h|h<;>subst h<;>decide
theorem f0t(r acc:c8):c6F (34 :: r) acc=some (acc,r):=by
 cases r with
 |nil=>simp[c6F]
 |cons e r=>simp[c6F]
theorem f0s{c:UInt8}(h1:c≠34)(h2:¬c<32)(h3:¬c>126)(h4:c≠92)(r acc:c8):c6F (c :: r) acc=c6F r (acc ++ [c]):=by
 cases r with
 |nil=>simp[c6F,h1]
 |cons e r=>rw[c6F,if_neg h1,if_neg h2,if_neg h3,if_neg h4]
theorem e7g(e:UInt8)(r acc:c8):c6F (92 :: e :: r) acc=if e=34 then c6F r (acc ++ [34])else if e=92 then c6F r (acc ++ [92])else if e=110 then c6F r (acc ++ [10])else none:=by
 rw[c6F,if_neg (by decide),if_neg (by decide),if_neg (by decide),if_pos rfl]
theorem e1B:∀(n:Nat) (u acc t r:c8),u.length<=n->c6F u acc=some (t,r)->∃b,u=b++r/\∀r',c6F (b++r') acc=some (t,r')
 |n,[],acc,t,r,_,h=>by cases h
 |0,c :: u,acc,t,r,hn,h=>by simp at hn
 |n+1,c :: u,acc,t,r,hn,h=>by
  by_cases h34:c=34
  ·subst h34
   rw[f0t]at h
   cases h
   exact⟨[34],rfl,fun r'=>f0t r' _⟩
  by_cases h92:c=92
  ·subst h92
   match u,hn,h with
   |[],_,h=>cases h
   |e :: u,hn,h=>
    rw[e7g]at h
    have hn':u.length<=n:=by simp at hn;omega
    by_cases g1:e=34
    ·rw[if_pos g1]at h
     obtain⟨b,h1,h2⟩:=e1B n u _ t r hn' h
     exact⟨92 :: e :: b,by rw[h1];rfl,fun r'=>by show c6F (92 :: e :: (b++r')) acc=_;rw[e7g,if_pos g1,h2]⟩
    rw[if_neg g1]at h
    by_cases g2:e=92
    ·rw[if_pos g2]at h
     obtain⟨b,h1,h2⟩:=e1B n u _ t r hn' h
     exact⟨92 :: e :: b,by rw[h1];rfl,fun r'=>by show c6F (92 :: e :: (b++r')) acc=_;rw[e7g,if_neg g1,if_pos g2,h2]⟩
    rw[if_neg g2]at h
    by_cases g3:e=110
    ·rw[if_pos g3]at h
     obtain⟨b,h1,h2⟩:=e1B n u _ t r hn' h
     exact⟨92 :: e :: b,by rw[h1];rfl,fun r'=>by show c6F (92 :: e :: (b++r')) acc=_;rw[e7g,if_neg g1,if_neg g2,if_pos g3,h2]⟩
    rw[if_neg g3]at h
    cases h
  by_cases hlo:c<32
  ·exfalso
   match u,h with
   |[],h=>simp[c6F,h34]at h
   |e :: u,h=>rw[c6F,if_neg h34,if_pos hlo]at h;cases h
  by_cases hhi:c>126
  ·exfalso
   match u,h with
   |[],h=>simp[c6F,h34]at h
   |e :: u,h=>rw[c6F,if_neg h34,if_neg hlo,if_pos hhi]at h;cases h
  rw[f0s h34 hlo hhi h92]at h
  obtain⟨b,h1,h2⟩:=e1B n u _ t r (by simp at hn;omega) h
  exact⟨c :: b,by rw[h1];rfl,fun r'=>by show c6F (c :: (b++r')) acc=_;rw[f0s h34 hlo hhi h92,h2]⟩
theorem e7y{u t r:c8}{k n:Int}(h:e64 u=some (k,t,n,r)):∃b,u=b++r/\b ≠ []/\∀r',f1o r'->e64 (b++r')=some (k,t,n,r'):=by
 cases u with
 |nil=>cases h
 |cons c u=>
  rw[e64]at h
  by_cases hsm:(decide (c>=97)&&decide (c<=122))=true
  ·rw[if_pos hsm]at h
   split at h
   ·cases h
   ·rename_i h40
    simp only[Option.some.injEq,Prod.mk.injEq]at h
    obtain⟨rfl,rfl,rfl,rfl⟩:=h
    have hn:Z5 c=true:=by unfold Z5;rw[hsm];rfl
    have e:(c :: u).takeWhile Z5=c :: u.takeWhile Z5:=by rw[List.takeWhile_cons,if_pos hn]
    refine⟨(c :: u).takeWhile Z5,(List.takeWhile_append_dropWhile).symm,by rw[e];simp,fun r' hr=>?_⟩
    have ht:=e9C Z5 f1w ((c :: u).takeWhile Z5) r' (d0b Z5 _) hr
    rw[e]at ht h40 ⊢
    rw[List.cons_append]at ht ⊢
    rw[e64,if_pos hsm,ht.1,ht.2,if_neg h40]
  rw[if_neg hsm]at h
  by_cases hdg:X8 c=true
  ·rw[if_pos hdg]at h
   split at h
   ·cases h
   rename_i h9
   split at h
   ·cases h
   rename_i h48
   simp only[Option.some.injEq,Prod.mk.injEq]at h
   obtain⟨rfl,rfl,rfl,rfl⟩:=h
   have e:(c :: u).takeWhile X8=c :: u.takeWhile X8:=by rw[List.takeWhile_cons,if_pos hdg]
   refine⟨(c :: u).takeWhile X8,(List.takeWhile_append_dropWhile).symm,by rw[e];simp,fun r' hr=>?_⟩
   have ht:=e9C X8 f3y ((c :: u).takeWhile X8) r' (d0b X8 _) hr
   rw[e]at ht h9 h48 ⊢
   rw[List.cons_append]at ht ⊢
   rw[e64,if_neg hsm,if_pos hdg,ht.1,ht.2,if_neg h9,if_neg h48]
  rw[if_neg hdg]at h
  by_cases h34:c=34
  ·rw[if_pos h34]at h
   cases hx:c6F u []with
   |none=>rw[hx]at h;cases h
   |some z=>
    rw[hx]at h
    simp only[Option.map_some,Option.some.injEq,Prod.mk.injEq]at h
    obtain⟨rfl,rfl,rfl,rfl⟩:=h
    obtain⟨b,h1,h2⟩:=e1B u.length u [] z.1 z.2 (Nat.le_refl _) hx
    refine⟨c :: b,by rw[List.cons_append,<-h1],by simp,fun r' hr=>?_⟩
    rw[List.cons_append,e64,if_neg hsm,if_neg hdg,if_pos h34,h2];rfl
  rw[if_neg h34]at h
  by_cases hs:f1A c=true
  ·rw[if_pos hs]at h
   split at h
   ·rename_i h61
    simp only[Option.some.injEq,Prod.mk.injEq]at h
    obtain⟨rfl,rfl,rfl,rfl⟩:=h
    obtain⟨h61,hh⟩:=h61
    cases u with
    |nil=>cases hh
    |cons e u=>
     obtain rfl:e=61:=by simpa using hh
     refine⟨[c,61],rfl,by simp,fun r' hr=>?_⟩
     rw[List.cons_append,e64,if_neg hsm,if_neg hdg,if_neg h34,if_pos hs,if_pos ⟨h61,rfl⟩];rfl
   ·simp only[Option.some.injEq,Prod.mk.injEq]at h
    obtain⟨rfl,rfl,rfl,rfl⟩:=h
    refine⟨[c],rfl,by simp,fun r' hr=>?_⟩
    have:¬(c=61/\r'.head? = some 61):=by
     rintro⟨_,hh⟩
     cases r' with
     |nil=>cases hh
     |cons e y=>
      obtain rfl:e=61:=by simpa using hh
      have:=hr _ _ rfl
      revert this;unfold e7d;decide
    rw[List.cons_append,List.nil_append,e64,if_neg hsm,if_neg hdg,if_neg h34,if_pos hs,if_neg this]
  ·rw[if_neg hs]at h;cases h
theorem LX.congr{L:Nat}{u u':c8}{l:List A4}(e:b98 false u=b98 false u')(h:LX L u l):LX L u' l:=by
 cases h with
 |nil h1=>exact .nil (e▸h1)
 |cons h1 h2 h3 h4=>exact .cons (e▸h1) h2 h3 h4
theorem LX.nil_inv{L:Nat}{u:c8}{l:List A4}(h:LX L u l)(e:b98 false u=[]):l=[]:=by
 cases h with
 |nil _=>rfl
 |cons h1 h2 h3 h4=>rw[e]at h1;subst h1;cases h2
def e5T(t:A4):Int×c8×Int:=(t.1,t.2.1,t.2.2.1)
def d6j(B s:c8):List A4->c8 | []=>[] | [t]=>B++s.drop t.2.2.2.toNat|t :: t2 :: l=>B++((s.take t2.2.2.2.toNat).drop t.2.2.2.toNat++d6j B s (t2 :: l))
theorem e9k{B s:c8}(hB:e1q false B=some false)(hB0:B ≠ []){L':Nat}{u:c8}{l:List A4}(h:LX s.length u l):∀(p:c8),s=p++u->∀m,LX L' (d6j B s l) m->l.map e5T=m.map e5T:=by
 induction h with
 |nil h1=>
  intro p hp m hm
  rw[hm.nil_inv rfl]
 |@cons u v r t k n l h1 h2 h3 h4 ih=>
  intro p hp m hm
  obtain⟨y,by',q1,q2,q3⟩:=e2O u false
  rw[h1]at q1 q3
  obtain⟨b,e1,e2,e3⟩:=e7y h2
  obtain⟨c0,b0,rfl⟩:=List.exists_cons_of_ne_nil e2
  have hc0:¬e7d c0:=(q3 c0 (b0++r) e1).2
  obtain⟨x,bx,x1,x2,x3⟩:=e2O r false
  have hW:∃W2,d6j B s ((k,t,n,((s.length-v.length:Nat):Int)) :: l)=B++((c0 :: b0)++(x++W2))/\f1o (x++W2)/\b98 false (x++W2)=b98 false W2/\d6j B s l=W2:=by
   have hpos:s.length-v.length=(p++y).length:=by rw[hp,q1];simp;omega
   have hsv:s=(p++y)++v:=by rw[hp,q1,List.append_assoc]
   have ends:∀W2,(x=[]->f1o W2)->f1o (x++W2):=by
    intro W2 hw c z hz
    cases x with
    |nil=>exact hw rfl c z hz
    |cons a x=>obtain⟨rfl,_⟩:=List.cons.inj hz;exact e9j x2
   cases h4 with
   |nil g1=>
    refine⟨[],?_,ends [] (fun _ c z h=>by cases h),?_,rfl⟩
    ·rw[g1,List.append_nil]at x1
     rw[List.append_nil,<-x1,<-e1]
     show B++s.drop _=_
     rw[Int.toNat_natCast,hpos]
     conv=>lhs;rw[hsv]
     rw[List.drop_left]
    ·rw[e0p x false bx [] x2];cases bx<;>rfl
   |@cons _ v2 r2 t2 k2 n2 l2 g1 g2 g3 g4=>
    rw[g1]at x1 x3
    have hv2:∃c z,v2=c :: z:=by
     cases v2 with
     |nil=>cases g2
     |cons c z=>exact⟨c,z,rfl⟩
    obtain⟨c2,z2,hcz⟩:=hv2
    obtain rfl:bx=false:=(x3 c2 z2 hcz).1
    refine⟨d6j B s ((k2,t2,n2,((s.length-v2.length:Nat):Int)) :: l2),?_,ends _ (fun _ c z h=>?_),e0p x false false _ x2,rfl⟩
    ·show B++((s.take _).drop _++_)=_
     rw[Int.toNat_natCast,Int.toNat_natCast,hpos]
     have hs2:s=(p++y)++((c0 :: b0)++(x++v2)):=by rw[<-x1,<-e1];exact hsv
     have hl2:s.length-v2.length=((p++y)++((c0 :: b0)++x)).length:=by
      conv=>lhs;rw[hs2]
      simp;omega
     have:(s.take (s.length-v2.length)).drop (p++y).length=(c0 :: b0)++x:=by
      rw[hl2]
      have hs3:s=((p++y)++((c0 :: b0)++x))++v2:=by rw[hs2];simp
      conv=>lhs;rw[hs3]
      rw[List.take_left,List.drop_left]
     rw[this];simp
    ·obtain⟨bb,bs,hbs⟩:=List.exists_cons_of_ne_nil hB0
     have hb:=hB
     rw[hbs]at hb
     have:∃z',d6j B s ((k2,t2,n2,((s.length-v2.length:Nat):Int)) :: l2)=bb :: z':=by
      cases l2 with
      |nil=>exact⟨_,by show B++_=_;rw[hbs];rfl⟩
      |cons t3 l3=>exact⟨_,by show B++_=_;rw[hbs];rfl⟩
     obtain⟨z',hz'⟩:=this
     rw[hz']at h
     obtain⟨rfl,_⟩:=List.cons.inj h
     exact e9j hb
  obtain⟨W2,w1,w2,w3,w4⟩:=hW
  rw[w1]at hm
  have hk:b98 false (B++(c0 :: b0++(x++W2)))=c0 :: b0++(x++W2):=by
   rw[e0p B false false _ hB]
   exact f1B hc0
  cases hm with
  |nil g1=>rw[hk]at g1;cases g1
  |@cons _ v' r' t' k' n' m' g1 g2 g3 g4=>
   rw[hk]at g1
   subst g1
   rw[e3 _ w2]at g2
   simp only[Option.some.injEq,Prod.mk.injEq]at g2
   obtain⟨rfl,rfl,rfl,rfl⟩:=g2
   have hm':=LX.congr w3 g4
   rw[<-w4]at hm'
   have:=ih (p++y++(c0 :: b0)) (by rw[hp,q1,e1];simp) m' hm'
   show _ :: l.map e5T=_ :: m'.map e5T
   rw[this];rfl
end
noncomputable section
variable{N:Nat}
theorem e4Q(s:GStmt):(erS s).kind=s.kind:=by cases s;rw[e4b];rfl
theorem e7r(s:GStmt):(erS s).name=s.name:=by cases s;rw[e4b];rfl
theorem e9c(s:GStmt):(erS s).text=s.text:=by cases s;rw[e4b];rfl
theorem e3X(s:GStmt):(erS s).params=s.params:=by cases s;rw[e4b];rfl
theorem e38(s:GStmt):(erS s).args=s.args:=by cases s;rw[e4b];rfl
theorem e6d(s:GStmt):(erS s).expr=s.expr:=by cases s;rw[e4b];rfl
theorem e6c(s:GStmt):(erS s).body=erL s.body:=by cases s;rw[e4b];rfl
theorem e7f(s:GStmt):(erS s).els=erL s.els:=by cases s;rw[e4b];rfl
theorem e7n{r:List GStmt->Option Int}(hr:∀l,r (erL l)=r l)(l:List GStmt)(c:Int)(k:ρ22):∀(n:Nat) (s i:Int),c42 N r (erL l) c k n s i=c42 N r l c k n s i
 |0,_,_=>rfl
 |n+1,s,i=>by
  have ih:=e7n hr l c k n
  show a4B _ _ _ _ _ _ _ _=a4B _ _ _ _ _ _ _ _
  unfold a4B
  simp only[e86,b0G,hr,ih,e4Q,e38,e6d,e6c,e7f]
theorem f0m:∀(d:Nat) (l:List GStmt),M5 N d (erL l)=M5 N d l
 |0,_=>rfl
 |d+1,l=>by
  show a3t _ _ _=a3t _ _ _
  unfold a3t
  rw[e7n (f0m d),e5o]
theorem e85(s:GStmt):X3 N (erS s)=X3 N s:=by
 unfold X3
 simp only[e4Q,e7r,e3X,e38]
theorem e9e(s:GStmt):a1S N (erS s)=a1S N s:=by
 unfold a1S
 simp only[e4Q,e7r,e9c,e3X,e38,e6d,e6c,e7f,e5o]
theorem f07(s:GStmt):a1s N (erS s)=a1s N s:=by
 unfold a1s
 simp only[e3X,e38]
theorem e5U{r:GStmt->Int->Option Int}(hr:∀s x,r (erS s) x=r s x)(x:Int)(l:List GStmt)(c:Int)(k:Option Int):∀(n:Nat) (i:Int),d5A N r x (erL l) c k n i=d5A N r x l c k n i
 |0,_=>rfl
 |n+1,i=>by
  have ih:=e5U hr x l c k n
  show a2c _ _ _ _ _ _ _ _=a2c _ _ _ _ _ _ _ _
  unfold a2c
  simp only[e86,b0G,GStmt.eta2,hr,ih]
theorem e7m{r:GStmt->Int->Option Int}(hr:∀s x,r (erS s) x=r s x)(l:List GStmt)(x:Int):E0 N r (erL l) x=E0 N r l x:=by
 unfold E0
 rw[e5U hr,e5o]
theorem e62{r:GStmt->Int->Option Int}(hr:∀s x,r (erS s) x=r s x)(s:GStmt)(x:Int):y9 N r (erS s) x=y9 N r s x:=by
 unfold y9
 simp only[GStmt.eta2]
 simp only[GExpr.eta,e85,e9e,f07,e7m hr,e4Q,e3X,e38,e6d,e6c,e7f]
theorem e33:∀(d:Nat) (s:GStmt) (x:Int),D4 N d (erS s) x=D4 N d s x
 |0,_,_=>rfl
 |d+1,s,x=>e62 (e33 d) s x
theorem e7j(l:List GStmt):J4 N (erL l)=J4 N l:=by
 unfold J4
 simp only[f0m,e7m (e33 N)]
abbrev PR:Type:=Int×Int×List GStmt
def eR(t:PR):PR:=(z0 t.1,(t.2.1,erL t.2.2))
theorem e7k(c:Int)(M:List (Int×Int))(gs:List GStmt):∀(n:Nat) (i:Int),
  c9m N c (eM M) (f5 (J4 N gs) fun t=>br (t !=(0:Int)) (some ((0:Int),(t,([]:List GStmt)))) (some ((0:Int),((0:Int),erL gs)))) n i =
  (c9m N c M (f5 (J4 N gs) fun t=>br (t !=(0:Int)) (some ((0:Int),(t,([]:List GStmt)))) (some ((0:Int),((0:Int),gs)))) n i).map eR
 |0,_=>rfl
 |n+1,i=>by
  have ih:=e7k c M gs n
  show c7n _ _ _ _ _ _=(c7n _ _ _ _ _ _).map _
  unfold c7n
  simp only[ih,e7o,f1s,eMk,b0G,b6H,c7m,Option.map_some,Option.map_none,eR,e6b,show z0 0=0 from rfl]
  rfl
noncomputable def e5W(N:Nat)(e p:Int)(w:List A4):Option PR:=f5 (P5 N (0:Int) (0:Int) e false p w) fun t29=>br (decide (t29.1<(t29.2.2.2.2.1.length:Int))) (f5 (q8 N t29.1 t29.2.1 t29.2.2.1 t29.2.2.2.1 t29.2.2.2.2.1 t29.2.2.2.2.2.2) fun t41=>br (t41.2.2.1) (some (t41.2.2.2.1,((10:Int),([]:List GStmt)))) (c9m N (t41.2.2.2.2.2.length:Int) t41.2.2.2.2.2 (f5 (J4 N t29.2.2.2.2.2.1) fun t66=>br (t66 !=(0:Int)) (some ((0:Int),(t66,([]:List GStmt)))) (some ((0:Int),((0:Int),t29.2.2.2.2.2.1)))) N (0:Int))) (br (t29.2.2.1) (some (t29.2.2.2.1,((10:Int),([]:List GStmt)))) (c9m N (t29.2.2.2.2.2.2.length:Int) t29.2.2.2.2.2.2 (f5 (J4 N t29.2.2.2.2.2.1) fun t66_1=>br (t66_1 !=(0:Int)) (some ((0:Int),(t66_1,([]:List GStmt)))) (some ((0:Int),((0:Int),t29.2.2.2.2.2.1)))) N (0:Int)))
theorem e59{s:c8}{a:Int}{x:List A4}(h:a03 N s=some (a,(0,x))):Y3 N s=e5W N s.length 0 x:=by
 unfold Y3 e5W
 rw[h,b9]
 simp only[show((0:Int) !=0)=false by decide,d6]
theorem e9i(e p:Int)(w:List A4):e5W N (z0 e) (z0 p) (eT w)=(e5W N e p w).map eR:=by
 unfold e5W
 simp only[f08,e63,e7j,e4M,e7o,e7k,b0G,b6H,c7m,Option.map_some,Option.map_none,eQ,eS,eR,e6b]
def kK(q:Int×c8×Int):A4:=(q.1,(q.2.1,(q.2.2,0)))
theorem f1t(w:List A4):eT w=(w.map e5T).map kK:=by
 unfold eT
 rw[List.map_map]
 rfl
theorem e9z{s s':c8}{a a' p p' f f':Int}{x x':List A4}{G G':List GStmt}(h:a03 N s=some (a,(0,x)))(h':a03 N s'=some (a',(0,x')))(hk:x.map e5T=x'.map e5T)
  (hp:Y3 N s=some (p,(f,G))) (hp':Y3 N s'=some (p',(f',G'))):f=f'/\erL G=erL G':=by
 rw[e59 h]at hp
 rw[e59 h']at hp'
 have e1:=e9i (N:=N) s.length 0 x
 have e2:=e9i (N:=N) s'.length 0 x'
 rw[hp]at e1
 rw[hp',f1t,<-hk,<-f1t]at e2
 have:e5W N (z0 s.length) (z0 0) (eT x)=e5W N (z0 s'.length) (z0 0) (eT x):=rfl
 rw[e1,e2]at this
 simp only[Option.map_some,eR,Option.some.injEq,Prod.mk.injEq]at this
 exact this.2
theorem e7l{R:List GStmt->List GStmt->Bool->Option Bool}(hr:∀a b,R (erL a) (erL b) false=R a b false)(a b:List GStmt)(c:Int)(k:Option Bool):∀(n:Nat) (i:Int),b5F N R (erL b) false (erL a) c k n i=b5F N R b false a c k n i
 |0,_=>rfl
 |n+1,i=>by
  have ih:=e7l hr a b c k n
  show b5G _ _ _ _ _ _ _ _ _=b5G _ _ _ _ _ _ _ _ _
  unfold b5G
  simp only[e86,b0G,hr,ih,e4Q,e7r,e9c,e3X,e38,e6d,e6c,e7f,d6]
theorem f1q{R:List GStmt->List GStmt->Bool->Option Bool}(hr:∀a b,R (erL a) (erL b) false=R a b false)(a b:List GStmt):E7 N R (erL a) (erL b) false=E7 N R a b false:=by
 unfold E7
 simp only[e7l hr,e5o]
theorem e84:∀(d:Nat) (a b:List GStmt),H7 N d (erL a) (erL b) false=H7 N d a b false
 |0,_,_=>rfl
 |d+1,a,b=>f1q (e84 d) a b
theorem e7w(hN:L7<=N){k:Nat}{RR:List GStmt->List GStmt->Bool->Option Bool}(hB:∀l:List GStmt,l.length<=50000->(∀c∈l,SOk k c)->RR l l false=some true){Gs:List GStmt}(hl:Gs.length<=50000)(hG:∀G∈Gs,SOk (k+1) G):∀(u f j:Nat),j+u=Gs.length->u<f->
  b5F N RR Gs false Gs (Gs.length:Int) (some true) f (j:Int)=some true
 |0,f,j,hj,hf=>by
  obtain⟨f,rfl⟩:∃q,f=q+1:=⟨f-1,by omega⟩
  obtain rfl:j=Gs.length:=by omega
  show b5G _ _ _ _ _ _ _ _ _=_
  unfold b5G
  rw[a1f,d6]
 |u+1,f,j,hj,hf=>by
  obtain⟨f,rfl⟩:∃q,f=q+1:=⟨f-1,by omega⟩
  have hlt:j<Gs.length:=by omega
  have ih:=e7w hN hB hl hG u f (j+1) (by omega) (by omega)
  have hS:=hG _ (List.getElem_mem hlt)
  have P:=hS.parts
  have e1:I6 N N Gs[j].expr Gs[j].expr=some true:=by
   rcases P.expr with⟨_,h⟩|⟨_,h⟩
   ·exact b09 hN 60000 _ h N (by unfold L7 at hN;omega)
   ·rw[h];exact c7b hN (by unfold L7 at hN;omega)
  have ha:=fun K=>b7E hN (RR:=RR) P.args.1 P.args.2 K Gs[j].args.length N 0 (by omega) (by have:=P.args.1;unfold L7 at hN;omega)
  simp only[Int.natCast_zero]at ha
  show b5G _ _ _ _ _ _ _ _ _=_
  unfold b5G
  rw[a0Z hlt,d4,o9 _ hlt]
  simp only[b9,bne_self_eq_false,d6,beq_self_eq_true,Bool.not_true,b7a hN Gs[j].params Gs[j].params (by have:=hS.params;unfold maxLen;omega) (by have:=hS.params;unfold maxLen;omega),decide_true,d4,GExpr.eta,e1,hB _ P.body.1 P.body.2,hB _ P.els.1 P.els.2,ha,O4 (n:=(j:Int)+1) (m:=j+1) (by omega) (by omega),ih]
theorem e7x(hN:L7<=N):∀(k n:Nat),k<n->∀Gs:List GStmt,Gs.length<=50000->(∀G∈Gs,SOk k G)->H7 N n Gs Gs false=some true
 |k,0,h,_,_,_=>absurd h (by omega)
 |0,n+1,h,Gs,hl,hG=>by
  have:Gs=[]:=List.eq_nil_iff_forall_not_mem.2 fun G hg=>hG G hg
  subst this
  show E7 N _ _ _ _=_
  obtain⟨f,rfl,_⟩:=a7Y hN
  unfold E7
  simp only[bne_self_eq_false,d6]
  show b5G (f+1) _ _ _ _ _ _ _ _=_
  simp[b5G]
 |k+1,n+1,h,Gs,hl,hG=>by
  show E7 N _ _ _ _=_
  have:=e7w hN (RR:=H7 N n) (fun l h1 h2=>e7x hN k n (by omega) l h1 h2) hl hG Gs.length N 0 (by omega) (by unfold L7 at hN;omega)
  unfold E7
  simp only[bne_self_eq_false,d6]
  exact this
theorem f3B(hN:L7<=N){G G':List GStmt}(hl:G.length<=50000)(hG:∀g∈G,SOk 50001 g)(h:erL G=erL G'):H7 N N G G' false=some true:=by
 rw[<-e84,<-h,e84]
 exact e7x hN 50001 N (by unfold L7 at hN;omega) G hl hG
end
noncomputable section
noncomputable section
def e57(_N:Nat)(x0:c8)(x1:List τ0)(x2:c8)(c11:List τ0)(c12:Int)(k0:c8->Option c8)(self:c8->Int->Option c8)(s7:c8)(s13:Int):Option c8:=br (decide (s13<c12)) (f5 (l6 c11 s13) fun t16=>br (decide ((IntKind.i64.wrap (s13+(1:Int)))<(x1.length:Int))) (f5 (l6 x1 (IntKind.i64.wrap (s13+(1:Int)))) fun t28=>f5 (slc x0 t16.2.2.2 t28.2.2.2) fun t37=>br (decide (x2.length+t37.length<=9223372036854775807)) (br (decide (s7.length+(x2++t37).length<=9223372036854775807)) (self (s7++(x2++t37)) (IntKind.i64.wrap (s13+(1:Int)))) none) none) (f5 (slc x0 t16.2.2.2 (x0.length:Int)) fun t37_1=>br (decide (x2.length+t37_1.length<=9223372036854775807)) (br (decide (s7.length+(x2++t37_1).length<=9223372036854775807)) (self (s7++(x2++t37_1)) (IntKind.i64.wrap (s13+(1:Int)))) none) none)) (k0 s7)
def e81(N:Nat)(x0:c8)(x1:List τ0)(x2:c8)(c11:List τ0)(c12:Int)(k0:c8->Option c8):Nat->c8->Int->Option c8|0,_,_=>none|n+1,s7,s13=>e57 N x0 x1 x2 c11 c12 k0 (e81 N x0 x1 x2 c11 c12 k0 n) s7 s13
def e1z(N:Nat)(x0:c8)(x1:List τ0)(x2:c8):Option c8:=e81 N x0 x1 x2 x1 (x1.length:Int) (fun o0_7=>some o0_7) N ([]:c8) (0:Int)
abbrev e3L:=P4 [.v .str,.v (.sl τ1),.v .str] [] [.v .str] [] (c8) fun z=>((z,()),())
abbrev d7Z(N:Nat):AF:=e3L fun x _=>e1z N x.1 x.2.1 x.2.2.1
abbrev f3m:SV [.v .str]->BV []->c8:=fun x _=>x.1
def f4K(_N:Nat):FuncId->Option Tmp->Option AF:=fun f _=>O5 [] f
theorem f3l(N:Nat):I8 (f4K N):=fun _ _ _ h=>o6 h G7
def f1j:Nat->Hint:=fun i=>
 match i with
 |0=>⟨[],[0,1,2,7,11,12,13],[],[7],[],[]⟩
 |_=>o3
abbrev e8z(N:Nat):Env:=S9 f1j (f4K N) FF FF
noncomputable abbrev e82:Code:=V7 (m9 Tryz.f9) [true,true,false,true,false,false]
abbrev f0g(N:Nat):=A8 (e8z N) Tryz.f9 (d7Z N) f3m
abbrev e6W:List (Nat×Sl):=[(0,.v .str),(1,.v (.sl τ1)),(2,.v .str),(7,.v .str),(11,.v (.sl τ1)),(12,.v τ2),(13,.v τ2)]
abbrev e6V:List (Nat×Sb):=[]
def e8m(x0:c8)(x1:List τ0)(x2:c8)(c11:List τ0)(c12:Int)(s7:c8)(s13:Int):St:=⟨42,[(0,.v .str x0),(1,.v (.sl τ1) x1),(2,.v .str x2),(7,.v .str s7),(11,.v (.sl τ1) c11),(12,.v τ2 c12),(13,.v τ2 s13)],[]⟩
def e5Q(_x0:c8)(_x1:List τ0)(_x2:c8)(_c11:List τ0)(_c12:Int)(o0_7:c8):St:=⟨42,[(7,.v .str o0_7)],[]⟩
def f4q(N:Nat)(x0:c8)(x1:List τ0)(x2:c8)(c11:List τ0)(c12:Int)(s7:c8)(s13:Int)(k:Ex->St->Option c8):Option c8:=e81 N x0 x1 x2 c11 c12 (fun o0_7=>k (.exit 0) (e5Q x0 x1 x2 c11 c12 o0_7)) N s7 s13
abbrev f05(N:Nat):FV e6W->HV e6V->(Ex->St->Option c8)->Option c8:=fun x _ k=>f4q N x.1 x.2.1 x.2.2.1 x.2.2.2.2.1 x.2.2.2.2.2.1 x.2.2.2.1 x.2.2.2.2.2.2.1 k
def e8n(N:Nat):Nat->Code->St->(Ex->St->Option c8)->Option c8:=fun i c=>
 match i with
 |0=>(LPc 42 e6W e6V (f05 N) (fun st k=>iter (f1j 0) (V4 (e8z N) N c 0) N st k))
 |i=>fun st k=>iter (f1j i) (V4 (e8z N) N c i) N st k
theorem f0f(N:Nat)(x0:c8)(x1:List τ0)(x2:c8)(c11:List τ0)(c12:Int)(KX:Nat->St->Option c8)(I:St->Option c8)(s7:c8)(s13:Int):
  a0b (e8n N) (e8z N) e82 0 (e8m x0 x1 x2 c11 c12 s7 s13) (p6 (f1j 0) I KX (f0g N))=e57 N x0 x1 x2 c11 c12 (fun o0_7=>KX 0 (e5Q x0 x1 x2 c11 c12 o0_7)) (fun s7 s13=>I (e8m x0 x1 x2 c11 c12 s7 s13)) s7 s13:=by kernel_rfl
theorem f3k(N:Nat):∀x y k,(∀st,k .ret st=(f0g N) st)->iter (f1j 0) (V4 (e8z N) N e82 0) N ⟨42,Y7 e6W x,Y8 e6V y⟩ k=f05 N x y k:=fun x _ k hk=>
 j9 (S:=(c8)×(Int)×Unit) (f1j 0) _ (a0b (e8n N) (e8z N) e82 0) (f0g N) (k9 _ _ N _ e82 0 (show LoopsOk (e8n N) (e8z N) N (f0g N) []from trivial)) (fun s=>e8m x.1 x.2.1 x.2.2.1 x.2.2.2.2.1 x.2.2.2.2.2.1 s.1 s.2.1) k hk
  (fun self s=>e57 N x.1 x.2.1 x.2.2.1 x.2.2.2.2.1 x.2.2.2.2.2.1 (fun o0_7=>k (.exit 0) (e5Q x.1 x.2.1 x.2.2.1 x.2.2.2.2.1 x.2.2.2.2.2.1 o0_7)) (fun s7 s13=>self (s7,s13,())) s.1 s.2.1) (fun n s=>e81 N x.1 x.2.1 x.2.2.1 x.2.2.2.2.1 x.2.2.2.2.2.1 (fun o0_7=>k (.exit 0) (e5Q x.1 x.2.1 x.2.2.1 x.2.2.2.2.1 x.2.2.2.2.2.1 o0_7)) n s.1 s.2.1) (fun _=>rfl) (fun _ _=>rfl)
  (fun I s=>f0f N x.1 x.2.1 x.2.2.1 x.2.2.2.2.1 x.2.2.2.2.2.1 (fun j=>k (.exit j)) I s.1 s.2.1) N (x.2.2.2.1,x.2.2.2.2.2.2.1,())
theorem f5r(N:Nat):F7 (e8n N) (e8z N) N (f0g N) 0 e82:=fun st k hk=>p8 42 e6W e6V _ _ (f0g N) (f3k N) _ st k hk (rfl)
theorem f4r(N:Nat)(x:SV [.v .str,.v (.sl τ1),.v .str])(y:BV []):F5 (e8z N) Tryz.f9 (d7Z N) f3m (e8n N) x y=e1z N x.1 x.2.1 x.2.2.1:=by kernel_rfl
theorem b6s(N:Nat):P7 9 (d7Z N):=
 a1X (f3l N) Tryz.func9 rfl Tryz.call9 (d7Z N) f3m (fun _ _=>rfl) N (e8n N) (show LoopsOk (e8n N) (e8z N) N (f0g N) [(0,e82)]from⟨f5r N,trivial⟩) (f4r N)
def e6F(_N:Nat)(x0:c8)(x1:UInt8)(k0:Option Int)(self:ρ22)(s5:Int):Option Int:=br (decide (s5>=(0:Int))) (f5 (l6 x0 s5) fun t15=>br (t15==x1) (some s5) (self (IntKind.i64.wrap (s5-(1:Int))))) (k0)
def f2I(N:Nat)(x0:c8)(x1:UInt8)(k0:Option Int):Nat->Int->Option Int|0,_=>none|n+1,s5=>e6F N x0 x1 k0 (f2I N x0 x1 k0 n) s5
def c2a(N:Nat)(x0:c8)(x1:UInt8):Option Int:=f2I N x0 x1 (some (-1:Int)) N (IntKind.i64.wrap ((x0.length:Int)-(1:Int)))
abbrev e5p:=P4 [.v .str,.v .u8] [] [.v τ2] [] (Int) fun z=>((z,()),())
abbrev z6g(N:Nat):AF:=e5p fun x _=>c2a N x.1 x.2.1
abbrev f5h:SV [.v τ2]->BV []->Int:=fun x _=>x.1
def e0U(_N:Nat):FuncId->Option Tmp->Option AF:=fun f _=>O5 [] f
theorem d7I(N:Nat):I8 (e0U N):=fun _ _ _ h=>o6 h G7
def z6h:Nat->Hint:=fun i=>
 match i with
 |0=>⟨[],[0,1,5],[],[],[],[]⟩
 |_=>o3
abbrev z6E(N:Nat):Env:=S9 z6h (e0U N) FF FF
noncomputable abbrev f1f:Code:=V7 (m9 Tryz.f46) [true,false,true,false,false]
abbrev z6R(N:Nat):=A8 (z6E N) Tryz.f46 (z6g N) f5h
abbrev e7i:List (Nat×Sl):=[(0,.v .str),(1,.v .u8),(5,.v τ2)]
abbrev e7h:List (Nat×Sb):=[]
def e88(x0:c8)(x1:UInt8)(s5:Int):St:=⟨19,[(0,.v .str x0),(1,.v .u8 x1),(5,.v τ2 s5)],[]⟩
def e6G(_x0:c8)(_x1:UInt8):St:=⟨19,[],[]⟩
def f5e(N:Nat)(x0:c8)(x1:UInt8)(s5:Int)(k:Ex->St->Option Int):Option Int:=f2I N x0 x1 (k (.exit 0) (e6G x0 x1)) N s5
abbrev f2J(N:Nat):FV e7i->HV e7h->(Ex->St->Option Int)->Option Int:=fun x _ k=>f5e N x.1 x.2.1 x.2.2.1 k
def e9Z(N:Nat):Nat->Code->St->(Ex->St->Option Int)->Option Int:=fun i c=>
 match i with
 |0=>(LPc 19 e7i e7h (f2J N) (fun st k=>iter (z6h 0) (V4 (z6E N) N c 0) N st k))
 |i=>fun st k=>iter (z6h i) (V4 (z6E N) N c i) N st k
theorem f1e(N:Nat)(x0:c8)(x1:UInt8)(KX:Nat->St->Option Int)(I:St->Option Int)(s5:Int):
  a0b (e9Z N) (z6E N) f1f 0 (e88 x0 x1 s5) (p6 (z6h 0) I KX (z6R N))=e6F N x0 x1 (KX 0 (e6G x0 x1)) (fun s5=>I (e88 x0 x1 s5)) s5:=by kernel_rfl
theorem f30(N:Nat):∀x y k,(∀st,k .ret st=(z6R N) st)->iter (z6h 0) (V4 (z6E N) N f1f 0) N ⟨19,Y7 e7i x,Y8 e7h y⟩ k=f2J N x y k:=fun x _ k hk=>
 j9 (S:=(Int)×Unit) (z6h 0) _ (a0b (e9Z N) (z6E N) f1f 0) (z6R N) (k9 _ _ N _ f1f 0 (show LoopsOk (e9Z N) (z6E N) N (z6R N) []from trivial)) (fun s=>e88 x.1 x.2.1 s.1) k hk
  (fun self s=>e6F N x.1 x.2.1 (k (.exit 0) (e6G x.1 x.2.1)) (fun s5=>self (s5,())) s.1) (fun n s=>f2I N x.1 x.2.1 (k (.exit 0) (e6G x.1 x.2.1)) n s.1) (fun _=>rfl) (fun _ _=>rfl)
  (fun I s=>f1e N x.1 x.2.1 (fun j=>k (.exit j)) I s.1) N (x.2.2.1,())
theorem f5X(N:Nat):F7 (e9Z N) (z6E N) N (z6R N) 0 f1f:=fun st k hk=>p8 19 e7i e7h _ _ (z6R N) (f30 N) _ st k hk (rfl)
theorem f5g(N:Nat)(x:SV [.v .str,.v .u8])(y:BV []):F5 (z6E N) Tryz.f46 (z6g N) f5h (e9Z N) x y=c2a N x.1 x.2.1:=by kernel_rfl
theorem d7J(N:Nat):P7 46 (z6g N):=
 a1X (d7I N) Tryz.func46 rfl Tryz.call46 (z6g N) f5h (fun _ _=>rfl) N (e9Z N) (show LoopsOk (e9Z N) (z6E N) N (z6R N) [(0,f1f)]from⟨f5X N,trivial⟩) (f5g N)
def c13(N:Nat)(x0:c8)(x1:UInt8):Option Int:=f5 (c2a N x0 x1) fun t7=>some t7
abbrev e2u:=P4 [.v .str,.v .u8] [] [.v τ2] [] (Int) fun z=>((z,()),())
abbrev e0l(N:Nat):AF:=e2u fun x _=>c13 N x.1 x.2.1
theorem d19(N:Nat):P7 20 (e0l N):=
 V5 h0 [(46,z6g N)] (v8 (d7J N) G7) Tryz.func20 rfl Tryz.call20 (e0l N) (fun x _=>x.1) (fun _ _=>rfl) N (fun _ _=>by kernel_rfl) rfl
def c9J(N:Nat)(x0:c8):Option Bool:=br (!(x0==([]:c8))) (f5 (a1H N x0 (0:Int)) fun t7=>br (t7==(x0.length:Int)) (f5 (c13 N x0 (35:UInt8)) fun t14=>br (decide (t14<(0:Int))) (some true) (f5 (c13 N x0 (10:UInt8)) fun t18=>f5 (c13 N x0 (35:UInt8)) fun t20=>some (decide (t18>t20)))) (some false)) (some false)
abbrev e3u:=P4 [.v .str] [] [.v .bool] [] (Bool) fun z=>((z,()),())
abbrev e0X(N:Nat):AF:=e3u fun x _=>c9J N x.1
theorem d4u(N:Nat):P7 10 (e0X N):=
 V5 h0 [(19,d73 N),(20,e0l N)] (v8 (c1X N) (v8 (d19 N) G7)) Tryz.func10 rfl Tryz.call10 (e0X N) (fun x _=>x.1) (fun _ _=>rfl) N (fun _ _=>by kernel_rfl) rfl
def e52(_N:Nat)(x0:List τ0)(x1:List τ0)(c12:Int)(k0:Option Bool)(self:ρ21)(s13:Int):Option Bool:=br (decide (s13<c12)) (f5 (l6 x0 s13) fun t18=>f5 (l6 x1 s13) fun t23=>br (t18.1 !=t23.1) (some false) (f5 (l6 x0 s13) fun t30=>f5 (l6 x1 s13) fun t35=>br (!(t30.2.1==t35.2.1)) (some false) (f5 (l6 x0 s13) fun t43=>f5 (l6 x1 s13) fun t48=>br (t43.2.2.1 !=t48.2.2.1) (some false) (self (IntKind.i64.wrap (s13+(1:Int))))))) (k0)
def e9q(N:Nat)(x0:List τ0)(x1:List τ0)(c12:Int)(k0:Option Bool):Nat->Int->Option Bool|0,_=>none|n+1,s13=>e52 N x0 x1 c12 k0 (e9q N x0 x1 c12 k0 n) s13
def d8j(N:Nat)(x0:List τ0)(x1:List τ0):Option Bool:=br ((x0.length:Int) !=(x1.length:Int)) (some false) (e9q N x0 x1 (x0.length:Int) (some true) N (0:Int))
abbrev e3q:=P4 [.v (.sl τ1),.v (.sl τ1)] [] [.v .bool] [] (Bool) fun z=>((z,()),())
abbrev e0V(N:Nat):AF:=e3q fun x _=>d8j N x.1 x.2.1
abbrev f2M:SV [.v .bool]->BV []->Bool:=fun x _=>x.1
def f4H(_N:Nat):FuncId->Option Tmp->Option AF:=fun f _=>O5 [] f
theorem f2L(N:Nat):I8 (f4H N):=fun _ _ _ h=>o6 h G7
def f1g:Nat->Hint:=fun i=>
 match i with
 |0=>⟨[],[0,1,12,13],[],[],[],[]⟩
 |_=>o3
abbrev e8u(N:Nat):Env:=S9 f1g (f4H N) FF FF
noncomputable abbrev e8S:Code:=V7 (m9 Tryz.f11) [true,true,false,true,false,false]
abbrev e91(N:Nat):=A8 (e8u N) Tryz.f11 (e0V N) f2M
abbrev e6I:List (Nat×Sl):=[(0,.v (.sl τ1)),(1,.v (.sl τ1)),(12,.v τ2),(13,.v τ2)]
abbrev e6H:List (Nat×Sb):=[]
def e77(x0:List τ0)(x1:List τ0)(c12:Int)(s13:Int):St:=⟨54,[(0,.v (.sl τ1) x0),(1,.v (.sl τ1) x1),(12,.v τ2 c12),(13,.v τ2 s13)],[]⟩
def e5K(_x0:List τ0)(_x1:List τ0)(_c12:Int):St:=⟨54,[],[]⟩
def f4a(N:Nat)(x0:List τ0)(x1:List τ0)(c12:Int)(s13:Int)(k:Ex->St->Option Bool):Option Bool:=e9q N x0 x1 c12 (k (.exit 0) (e5K x0 x1 c12)) N s13
abbrev f0X(N:Nat):FV e6I->HV e6H->(Ex->St->Option Bool)->Option Bool:=fun x _ k=>f4a N x.1 x.2.1 x.2.2.1 x.2.2.2.1 k
def e78(N:Nat):Nat->Code->St->(Ex->St->Option Bool)->Option Bool:=fun i c=>
 match i with
 |0=>(LPc 54 e6I e6H (f0X N) (fun st k=>iter (f1g 0) (V4 (e8u N) N c 0) N st k))
 |i=>fun st k=>iter (f1g i) (V4 (e8u N) N c i) N st k
theorem e90(N:Nat)(x0:List τ0)(x1:List τ0)(c12:Int)(KX:Nat->St->Option Bool)(I:St->Option Bool)(s13:Int):
  a0b (e78 N) (e8u N) e8S 0 (e77 x0 x1 c12 s13) (p6 (f1g 0) I KX (e91 N))=e52 N x0 x1 c12 (KX 0 (e5K x0 x1 c12)) (fun s13=>I (e77 x0 x1 c12 s13)) s13:=by kernel_rfl
theorem f2K(N:Nat):∀x y k,(∀st,k .ret st=(e91 N) st)->iter (f1g 0) (V4 (e8u N) N e8S 0) N ⟨54,Y7 e6I x,Y8 e6H y⟩ k=f0X N x y k:=fun x _ k hk=>
 j9 (S:=(Int)×Unit) (f1g 0) _ (a0b (e78 N) (e8u N) e8S 0) (e91 N) (k9 _ _ N _ e8S 0 (show LoopsOk (e78 N) (e8u N) N (e91 N) []from trivial)) (fun s=>e77 x.1 x.2.1 x.2.2.1 s.1) k hk
  (fun self s=>e52 N x.1 x.2.1 x.2.2.1 (k (.exit 0) (e5K x.1 x.2.1 x.2.2.1)) (fun s13=>self (s13,())) s.1) (fun n s=>e9q N x.1 x.2.1 x.2.2.1 (k (.exit 0) (e5K x.1 x.2.1 x.2.2.1)) n s.1) (fun _=>rfl) (fun _ _=>rfl)
  (fun I s=>e90 N x.1 x.2.1 x.2.2.1 (fun j=>k (.exit j)) I s.1) N (x.2.2.2.1,())
theorem f5j(N:Nat):F7 (e78 N) (e8u N) N (e91 N) 0 e8S:=fun st k hk=>p8 54 e6I e6H _ _ (e91 N) (f2K N) _ st k hk (rfl)
theorem f4b(N:Nat)(x:SV [.v (.sl τ1),.v (.sl τ1)])(y:BV []):F5 (e8u N) Tryz.f11 (e0V N) f2M (e78 N) x y=d8j N x.1 x.2.1:=by kernel_rfl
theorem d4o(N:Nat):P7 11 (e0V N):=
 a1X (f2L N) Tryz.func11 rfl Tryz.call11 (e0V N) f2M (fun _ _=>rfl) N (e78 N) (show LoopsOk (e78 N) (e8u N) N (e91 N) [(0,e8S)]from⟨f5j N,trivial⟩) (f4b N)
def c8N(N:Nat)(x0:c8)(x1:c8):Option Bool:=f5 (R9 N x0) fun t19=>br (t19.2.2 !=(0:Int)) (br ((t19.1.length:Int)==(0:Int)) (f5 (a3n) fun t29=>some t29) (some false)) (f5 (e1z N x0 t19.1 x1) fun t34=>f5 (R9 N t34) fun t37=>f5 (c9J N x1) fun t42=>br (t42) (br (t37.2.2==(0:Int)) (f5 (d8j N t19.1 t37.1) fun t50=>br (!t50) (some false) (f5 (O7 N x0) fun t55=>f5 (O7 N t34) fun t61=>f5 (c9J N x1) fun t66=>br (!t66) (f5 (a3n) fun t83=>some t83) (br (t37.2.2 !=(0:Int)) (f5 (a3n) fun t83_1=>some t83_1) (br (t55.2.2==t61.2.2) (f5 (H7 N N t55.1 t61.1 false) fun t79=>br (t79) (f5 (a3n) fun t83_2=>some t83_2) (some false)) (some false))))) (f5 (O7 N x0) fun t55_3=>f5 (O7 N t34) fun t61_4=>f5 (c9J N x1) fun t66_5=>br (!t66_5) (f5 (a3n) fun t83_6=>some t83_6) (br (t37.2.2 !=(0:Int)) (f5 (a3n) fun t83_7=>some t83_7) (br (t55_3.2.2==t61_4.2.2) (f5 (H7 N N t55_3.1 t61_4.1 false) fun t79_8=>br (t79_8) (f5 (a3n) fun t83_9=>some t83_9) (some false)) (some false))))) (f5 (O7 N x0) fun t55_10=>f5 (O7 N t34) fun t61_11=>f5 (c9J N x1) fun t66_12=>br (!t66_12) (f5 (a3n) fun t83_13=>some t83_13) (br (t37.2.2 !=(0:Int)) (f5 (a3n) fun t83_14=>some t83_14) (br (t55_10.2.2==t61_11.2.2) (f5 (H7 N N t55_10.1 t61_11.1 false) fun t79_15=>br (t79_15) (f5 (a3n) fun t83_16=>some t83_16) (some false)) (some false)))))
abbrev e5i:=P4 [.v .str,.v .str] [] [.v .bool] [] (Bool) fun z=>((z,()),())
abbrev z5g(N:Nat):AF:=e5i fun x _=>c8N N x.1 x.2.1
theorem d7G(N:Nat):P7 3 (z5g N):=
 V5 h0 [(7,c1R N),(8,b6P fun _ _=>a3n),(9,d7Z N),(10,e0X N),(11,e0V N),(12,a4A fun x _=>O7 N x.1),(13,e3l fun x _=>H7 N N x.1 x.2.1 x.2.2.1)] (v8 (a28 N) (v8 (b0U) (v8 (b6s N) (v8 (d4u N) (v8 (d4o N) (v8 (b0r N) (v8 (b0g N N) G7))))))) Tryz.func3 rfl Tryz.call3 (z5g N) (fun x _=>x.1) (fun _ _=>rfl) N (fun _ _=>by kernel_rfl) rfl
end
end
section
variable{N:Nat}
def PosL(s:c8):List A4->Prop | []=>True | [t]=>∃n:Nat,t.2.2.2=(n:Int)/\n<=s.length|t :: t2 :: l=>(∃n m:Nat,t.2.2.2=(n:Int)/\t2.2.2.2=(m:Int)/\n<=m/\m<=s.length)/\PosL s (t2 :: l)
theorem LX.pos{s u:c8}{l:List A4}(h:LX s.length u l):PosL s l:=by
 induction h with
 |nil h1=>exact trivial
 |@cons u v r t k n l h1 h2 h3 h4 ih=>
  cases h4 with
  |nil g1=>exact⟨_,rfl,by omega⟩
  |@cons _ v2 r2 t2 k2 n2 l2 g1 g2 g3 g4=>
   obtain⟨x,b,x1,_,_⟩:=e2O r false
   obtain⟨c,e1,_,_⟩:=e7y h2
   have h5:v2.length<=v.length:=by
    rw[e1,List.length_append]
    have:=congrArg List.length x1
    rw[g1,List.length_append]at this
    omega
   exact⟨⟨_,_,rfl,rfl,by omega,by omega⟩,ih⟩
theorem f0r(s:c8){n m:Nat}(h1:n<=m)(h2:m<=s.length):slc s (n:Int) (m:Int)=some ((s.take m).drop n):=a2y s h1 h2
theorem PosL.tail{s:c8}{t:A4}{l:List A4}(h:PosL s (t :: l)):PosL s l:=by
 cases l with
 |nil=>exact trivial
 |cons t2 l=>exact h.2
theorem e69{s B:c8}(hs:s.length<=50000)(hB:B.length<=140737488355328)(x:List A4)(hx:x.length<=50000):∀(d i n:Nat) (acc:c8),i+d=x.length->d<n->PosL s (x.drop i)->acc.length<=i*140737488405328->
  e81 N s x B x (x.length:Int) (fun o=>some o) n acc (i:Int)=some (acc++d6j B s (x.drop i))
 |0,i,n,acc,hi,hn,hp,ha=>by
  obtain⟨n,rfl⟩:∃q,n=q+1:=⟨n-1,by omega⟩
  obtain rfl:i=x.length:=by omega
  show e57 _ _ _ _ _ _ _ _ _ _=_
  unfold e57
  rw[a1f,d6,List.drop_length]
  simp[d6j]
 |d+1,i,n,acc,hi,hn,hp,ha=>by
  obtain⟨n,rfl⟩:∃q,n=q+1:=⟨n-1,by omega⟩
  have hlt:i<x.length:=by omega
  show e57 _ _ _ _ _ _ _ _ _ _=_
  unfold e57
  have hd:x.drop i=x[i] :: x.drop (i+1):=List.drop_eq_getElem_cons hlt
  rw[hd]at hp
  rw[a0Z hlt,d4,o9 _ hlt,b9,O4 (n:=(i:Int)+1) (m:=i+1) (by omega) (by omega)]
  have go:∀p:c8,p.length<=50000->d6j B s (x.drop i)=B++(p++d6j B s (x.drop (i+1)))->
    (br (decide (B.length+p.length<=9223372036854775807)) (br (decide (acc.length+(B++p).length<=9223372036854775807)) (e81 N s x B x (x.length:Int) (fun o=>some o) n (acc++(B++p)) ((i+1:Nat):Int)) none) none)=some (acc++d6j B s (x.drop i)):=by
   intro p hpl he
   have hl:(B++p).length<=140737488405328:=by rw[List.length_append];omega
   rw[decide_eq_true (show B.length+p.length<=9223372036854775807 by omega),d4,decide_eq_true (show acc.length+(B++p).length<=9223372036854775807 by omega),d4,
    e69 hs hB x hx d (i+1) n _ (by omega) (by omega) hp.tail (by rw[List.length_append];omega),he]
   simp
  by_cases h1:i+1<x.length
  ·have hd1:x.drop (i+1)=x[i+1] :: x.drop (i+2):=List.drop_eq_getElem_cons h1
   rw[hd1]at hp
   obtain⟨⟨a,b,ea,eb,hab,hb⟩,_⟩:=hp
   rw[a0Z h1,d4,o9 _ h1,b9,ea,eb,f0r s hab hb,b9]
   refine go _ ?_ ?_
   ·rw[List.length_drop,List.length_take];omega
   ·rw[hd,hd1]
    show B++((s.take x[i+1].2.2.2.toNat).drop x[i].2.2.2.toNat++_)=_
    rw[ea,eb,Int.toNat_natCast,Int.toNat_natCast]
  ·have h2:x.drop (i+1)=[]:=by rw[List.drop_eq_nil_iff];omega
   rw[h2]at hp
   obtain⟨a,ea,ha1⟩:=hp
   rw[decide_eq_false (show ¬((i+1:Nat):Int)<(x.length:Int) by omega),d6,ea,f0r s ha1 (Nat.le_refl _),b9]
   refine go _ ?_ ?_
   ·rw[List.length_drop,List.length_take];omega
   ·rw[hd,h2]
    show B++s.drop x[i].2.2.2.toNat=_
    rw[ea,Int.toNat_natCast,List.take_length]
    simp[d6j]
theorem e9A(hN:L7<=N){s B:c8}(hs:s.length<=50000)(hB:B.length<=140737488355328){x:List A4}(hx:x.length<=50000)(hp:PosL s x):e1z N s x B=some (d6j B s x):=by
 have:=e69 (N:=N) hs hB x hx x.length 0 N [] (by omega) (by unfold L7 at hN;omega) hp (by simp)
 unfold e1z
 simpa using this
theorem e8E(s:c8)(hs:s.length<=140737488355328)(c:UInt8):∀(d n:Nat),d<=s.length->d<n->(∀j (hj:j<s.length),d<=j->s[j]≠c)->
  ∃r:Int,f2I N s c (some (-1:Int)) n ((d:Int)-1)=some r/\(r = -1\/∃k:Nat,∃hk:k<s.length,r=(k:Int)/\s[k]=c)/\∀j (hj:j<s.length),r<(j:Int)->s[j]≠c
 |0,n,hd,hn,hf=>by
  obtain⟨n,rfl⟩:∃q,n=q+1:=⟨n-1,by omega⟩
  refine⟨-1,?_,.inl rfl,fun j hj _=>hf j hj (by omega)⟩
  show e6F _ _ _ _ _ _=_
  unfold e6F
  rw[show decide (((0:Nat):Int)-1>=0)=false by decide,d6]
 |d+1,n,hd,hn,hf=>by
  obtain⟨n,rfl⟩:∃q,n=q+1:=⟨n-1,by omega⟩
  have e:(((d+1:Nat):Int)-1)=(d:Int):=by omega
  have hlt:d<s.length:=by omega
  rw[e]
  by_cases hc:s[d]=c
  ·refine⟨(d:Int),?_,.inr ⟨d,hlt,rfl,hc⟩,fun j hj h=>hf j hj (by omega)⟩
   show e6F _ _ _ _ _ _=_
   unfold e6F
   rw[decide_eq_true (show(d:Int)>=0 by omega),d4,o9 s hlt,b9,hc]
   simp
  ·obtain⟨r,h1,h2,h3⟩:=e8E s hs c d n (by omega) (by omega) (fun j hj h=>by
    by_cases hjd:j=d
    ·subst hjd;exact hc
    ·exact hf j hj (by omega))
   refine⟨r,?_,h2,h3⟩
   show e6F _ _ _ _ _ _=_
   unfold e6F
   rw[decide_eq_true (show(d:Int)>=0 by omega),d4,o9 s hlt,b9,U3 hc,d6,D8 (by omega) (by omega)]
   exact h1
theorem e9f(hN:L7<=N)(s:c8)(hs:s.length<=140737488355328)(c:UInt8):∃r:Int,c13 N s c=some r/\(r = -1\/∃k:Nat,∃hk:k<s.length,r=(k:Int)/\s[k]=c)/\∀j (hj:j<s.length),r<(j:Int)->s[j]≠c:=by
 obtain⟨r,h1,h2,h3⟩:=e8E (N:=N) s hs c s.length N (Nat.le_refl _) (by unfold L7 at hN;omega) (fun j hj h=>by omega)
 refine⟨r,?_,h2,h3⟩
 unfold c13 c2a
 rw[D8 (by omega) (by omega),h1,b9]
theorem e4S:∀(B:c8) (st:Bool),e1q st B=some true->(st=true/\(10:UInt8)∉B)\/∃x y,B=x++35 :: y/\(10:UInt8)∉y
 |[],st,h=>by
  left
  cases st
  ·cases h
  ·exact⟨rfl,by simp⟩
 |c :: B,true,h=>by
  rw[e1q]at h
  by_cases hc:c=10
  ·subst hc
   rcases e4S B _ h with⟨h1,_⟩|⟨x,y,h1,h2⟩
   ·cases h1
   ·exact .inr ⟨10 :: x,y,by rw[h1];rfl,h2⟩
  ·rcases e4S B _ h with⟨_,h1⟩|⟨x,y,h1,h2⟩
   ·refine .inl ⟨rfl,?_⟩
    intro hm
    rcases List.mem_cons.1 hm with e|e
    ·exact hc e.symm
    ·exact h1 e
   ·exact .inr ⟨c :: x,y,by rw[h1];rfl,h2⟩
 |c :: B,false,h=>by
  have go:e1q false B=some true->∃x y,c :: B=x++35 :: y/\(10:UInt8)∉y:=by
   intro h
   rcases e4S B _ h with⟨h1,_⟩|⟨x,y,h1,h2⟩
   ·cases h1
   ·exact⟨c :: x,y,by rw[h1];rfl,h2⟩
  right
  rw[e1q]at h
  split at h
  ·exact go h
  split at h
  ·exact go h
  split at h
  ·exact go h
  split at h
  ·exact go h
  split at h
  ·rename_i hc
   subst hc
   rcases e4S B _ h with⟨_,h1⟩|⟨x,y,h1,h2⟩
   ·exact⟨[],B,rfl,h1⟩
   ·exact⟨35 :: x,y,by rw[h1];rfl,h2⟩
  ·cases h
theorem e9a(hN:L7<=N)(B:c8)(hB:B.length<=140737488355328):∃b,c9J N B=some b/\(b=true->B ≠ []/\e1q false B=some false):=by
 unfold c9J
 by_cases h0:B=[]
 ·subst h0
  exact⟨false,by simp,fun h=>by cases h⟩
 ·have e0:(B==([]:c8))=false:=by rw[beq_eq_false_iff_ne];exact h0
  rw[e0]
  obtain⟨j,k1,k2,k3,k4⟩:=e4Z (N:=N) B (by omega) B.length 0 N (by omega) (by unfold L7 at hN;omega)
  have hsk:a1H N B 0=some (j:Int):=k4
  obtain⟨r1,a1,a2,a3⟩:=e9f hN B hB 35
  obtain⟨r2,b1,b2,b3⟩:=e9f hN B hB 10
  simp only[Bool.not_false,d4,hsk,b9,a1,b1]
  by_cases hj:j=B.length
  ·subst hj
   rw[beq_self_eq_true,d4]
   have hrun:(r1<0\/r2>r1)->e1q false B=some false:=by
    intro hr
    obtain⟨x,b,x1,x2,_⟩:=e2O B false
    have:b98 false B=[]:=by
     rw[List.drop_length]at k3;simpa using k3.symm
    rw[this,List.append_nil]at x1
    rw[<-x1]at x2
    cases b with
    |false=>exact x2
    |true=>
     exfalso
     rcases e4S B _ x2 with⟨h,_⟩|⟨p,y,e,hy⟩
     ·cases h
     ·have hp:p.length<B.length:=by rw[e];simp
      have h35:B[p.length]=35:=by simp[e]
      have hge:(p.length:Int)<=r1:=by
       apply Classical.byContradiction
       intro hn
       exact a3 p.length hp (by omega) h35
      rcases hr with hr|hr
      ·omega
      ·rcases b2 with b2|⟨k,hk,ek,hk10⟩
       ·omega
       ·have hkp:p.length<k:=by omega
        apply hy
        have:B[k]=(35 :: y)[k-p.length]'(by have:=congrArg List.length e;simp at this ⊢;omega):=by
         simp only[e]
         rw[List.getElem_append_right (by omega)]
        rw[List.getElem_cons,dif_neg (by omega)]at this
        rw[<-hk10,this]
        exact List.getElem_mem _
   by_cases h1:r1<0
   ·rw[decide_eq_true h1,d4]
    exact⟨true,rfl,fun _=>⟨h0,hrun (.inl h1)⟩⟩
   ·rw[decide_eq_false h1,d6]
    refine⟨_,rfl,fun h=>⟨h0,hrun (.inr (by simpa using h))⟩⟩
  ·have:(((j:Nat):Int)==(B.length:Int))=false:=by rw[beq_eq_false_iff_ne];omega
   rw[this,d6]
   exact⟨false,rfl,fun h=>by cases h⟩
theorem e7v(x m:List A4)(hx:x.length<=50000)(hk:x.map e5T=m.map e5T):∀(d i n:Nat),i+d=x.length->d<n->e9q N x m (x.length:Int) (some true) n (i:Int)=some true
 |0,i,n,hi,hn=>by
  obtain⟨n,rfl⟩:∃q,n=q+1:=⟨n-1,by omega⟩
  obtain rfl:i=x.length:=by omega
  show e52 _ _ _ _ _ _ _=_
  unfold e52
  rw[a1f,d6]
 |d+1,i,n,hi,hn=>by
  obtain⟨n,rfl⟩:∃q,n=q+1:=⟨n-1,by omega⟩
  have hlt:i<x.length:=by omega
  have hl:x.length=m.length:=by simpa using congrArg List.length hk
  have hm:i<m.length:=by omega
  have e:e5T x[i]=e5T m[i]:=by
   have h1:(x.map e5T)[i]'(by simpa using hlt)=(m.map e5T)[i]'(by simpa using hm):=by simp only[hk]
   simpa using h1
  unfold e5T at e
  simp only[Prod.mk.injEq]at e
  have ih:=e7v x m hx hk d (i+1) n (by omega) (by omega)
  show e52 _ _ _ _ _ _ _=_
  unfold e52
  rw[a0Z hlt,d4]
  simp only[o9 x hlt,o9 m hm,b9,e.1,e.2.1,e.2.2,bne_self_eq_false,beq_self_eq_true,Bool.not_true,d6,O4 (n:=(i:Int)+1) (m:=i+1) (by omega) (by omega),ih]
theorem f09(hN:L7<=N){x m:List A4}(hx:x.length<=50000)(hk:x.map e5T=m.map e5T):d8j N x m=some true:=by
 have hl:x.length=m.length:=by simpa using congrArg List.length hk
 unfold d8j
 have:=e7v (N:=N) x m hx hk x.length 0 N (by omega) (by unfold L7 at hN;omega)
 rw[hl]at this ⊢
 rw[bne_self_eq_false,d6]
 exact this
theorem e1y(s B:c8)(_:Fit .str s)(_:Fit .str B)(hb:d5z rbC .str s+d5z rbC .str B<=1048576):∃N,c8N N s B=some true:=by
 refine⟨L7,?_⟩
 have hN:L7<=L7:=Nat.le_refl _
 have hN6:60000<=L7:=by unfold L7;omega
 have hB':B.length<=140737488355328:=by
  simp only[d5z]at hb
  omega
 obtain⟨x,a,f,hx,_,t1,t2⟩:=c0s (N:=L7) hN6 s
 have haw:a3n=some true:=rfl
 unfold c8N
 rw[t1,b9]
 by_cases hf:f=0
 ·subst hf
  obtain⟨hs,hL⟩:=e7z hN6 t2
  have hW:=e9A hN hs hB' hx hL.pos
  obtain⟨m,a',g,hm,_,u1,u2⟩:=c0s (N:=L7) hN6 (d6j B s x)
  obtain⟨b,v1,v2⟩:=e9a hN B hB'
  obtain⟨G,p,q,hG1,hG2,p1,p2⟩:=c20 hN s (fun Gs hl hG=>d89 hN Gs hl hG)
  obtain⟨G',p',q',_,_,p1',p2'⟩:=c20 hN (d6j B s x) (fun Gs hl hG=>d89 hN Gs hl hG)
  simp only[show((0:Int) !=0)=false by decide,d6,hW,b9,u1,v1,p1,p1',haw]
  cases b with
  |false=>simp only[d6,Bool.not_false,d4]
  |true=>
   obtain⟨hb0,hb⟩:=v2 rfl
   by_cases hg:g=0
   ·subst hg
    have hk:=e9k hb hb0 hL [] rfl m (e7z hN6 u2).2
    obtain⟨e1,e2⟩:=e9z t2 u2 hk p2 p2'
    subst e1
    simp only[d4,beq_self_eq_true,f09 hN hx hk,b9,Bool.not_true,d6,show((0:Int) !=0)=false by decide,f3B hN hG1 hG2 e2]
   ·have h1:(g==0)=false:=by rw[beq_eq_false_iff_ne];exact hg
    have h2:(g !=0)=true:=by rw[bne,h1];rfl
    simp only[d4,h1,h2,d6,Bool.not_true]
 ·have hx0:x=[]:=(e9B hN6 t2).resolve_left hf
  subst hx0
  have h2:(f !=0)=true:=by simpa using hf
  simp only[h2,d4,List.length_nil,haw,b9]
  simp
end
end Go.Proofs.YtolpmfhiegpohaaGreatDoor
