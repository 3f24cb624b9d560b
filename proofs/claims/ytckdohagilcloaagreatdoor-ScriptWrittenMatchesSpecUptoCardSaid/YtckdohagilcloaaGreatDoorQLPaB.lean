/- % -/
import Derived.Test.YtckdohagilcloaaGreatDoorQLBl1
import Derived.Test.YtckdohagilcloaaGreatDoorQShelfS
import Derived.Test.YtckdohagilcloaaGreatDoorQWeT
import Derived.Test.YtckdohagilcloaaGreatDoorQWeF10
import Derived.Lib.ItoaNum
import Derived.Test.YtckdohagilcloaaGreatDoorQBmSt
namespace Go.Proofs.YtckdohagilcloaaGreatDoor
set_option linter.unusedVariables false
set_option linter.unusedSimpArgs false
open Go Go.RowKit
section
def d3f(c:UInt8):Prop:=c=32\/c=9\/c=10\/c=13\/c=35
def e9U(r:d3):Prop:=∀c y,r=c :: y->d3f c
theorem c5h(p:UInt8->Bool)(hp:∀c,d3f c->p c=false):∀(b r:d3),(∀c∈b,p c=true)->e9U r->(b++r).takeWhile p=b/\(b++r).dropWhile p=r
 |[],[],_,_=>⟨rfl,rfl⟩
 |[],c :: r,_,h=>by
  have:=hp c (h c r rfl);simp[List.takeWhile_cons,List.dropWhile_cons,this]
 |a :: b,r,h1,h2=>by
  have:=c5h p hp b r (fun c hc=>h1 c (by simp[hc])) h2;have ha:=h1 a (by simp);rw[List.cons_append,List.takeWhile_cons,List.dropWhile_cons,if_pos ha,if_pos ha,this.1,this.2];exact⟨rfl,rfl⟩
theorem d3X(c:UInt8)(h:d3f c):O4 c=false:=by
 rcases h with h|h|h|h|h<;>subst h<;>decide
theorem e0H(c:UInt8)(h:d3f c):V9 c=false:=by
 rcases h with h|h|h|h|h<;>subst h<;>decide
theorem b9x(r acc:d3):D0 (34 :: r) acc=some (acc,r):=by
 cases r with
 |nil=>simp[D0]
 |cons e r=>simp[D0]
theorem b9w{c:UInt8}(h1:c≠34)(h2:¬c<32)(h3:¬c>126)(h4:c≠92)(r acc:d3):D0 (c :: r) acc=D0 r (acc ++ [c]):=by
 cases r with
 |nil=>simp[D0,h1]
 |cons e r=>rw[D0,if_neg h1,if_neg h2,if_neg h3,if_neg h4]
theorem a5v(e:UInt8)(r acc:d3):D0 (92 :: e :: r) acc=if e=34 then D0 r (acc ++ [34])else if e=92 then D0 r (acc ++ [92])else if e=110 then D0 r (acc ++ [10])else none:=by
 rw[D0,if_neg (by decide),if_neg (by decide),if_neg (by decide),if_pos rfl]
theorem a2A:∀(n:Nat) (u acc t r:d3),u.length<=n->D0 u acc=some (t,r)->∃b,u=b++r/\∀r',D0 (b++r') acc=some (t,r')
 |n,[],acc,t,r,_,h=>by cases h
 |0,c :: u,acc,t,r,hn,h=>by simp at hn
 |n+1,c :: u,acc,t,r,hn,h=>by
  by_cases h34:c=34
  ·subst h34;rw[b9x]at h;cases h;exact⟨[34],rfl,fun r'=>b9x r' _⟩
  by_cases h92:c=92
  ·subst h92
   match u,hn,h with
   |[],_,h=>cases h
   |e :: u,hn,h=>
    rw[a5v]at h;have hn':u.length<=n:=by simp at hn;omega
    by_cases g1:e=34
    ·rw[if_pos g1]at h;obtain⟨b,h1,h2⟩:=a2A n u _ t r hn' h;exact⟨92 :: e :: b,by rw[h1];rfl,fun r'=>by show D0 (92 :: e :: (b++r')) acc=_;rw[a5v,if_pos g1,h2]⟩
    rw[if_neg g1]at h;by_cases g2:e=92
    ·rw[if_pos g2]at h;obtain⟨b,h1,h2⟩:=a2A n u _ t r hn' h;exact⟨92 :: e :: b,by rw[h1];rfl,fun r'=>by show D0 (92 :: e :: (b++r')) acc=_;rw[a5v,if_neg g1,if_pos g2,h2]⟩
    rw[if_neg g2]at h;by_cases g3:e=110
    ·rw[if_pos g3]at h;obtain⟨b,h1,h2⟩:=a2A n u _ t r hn' h;exact⟨92 :: e :: b,by rw[h1];rfl,fun r'=>by show D0 (92 :: e :: (b++r')) acc=_;rw[a5v,if_neg g1,if_neg g2,if_pos g3,h2]⟩
    rw[if_neg g3]at h;cases h
  by_cases hlo:c<32
  ·exfalso
   match u,h with
   |[],h=>simp[D0,h34]at h
   |e :: u,h=>rw[D0,if_neg h34,if_pos hlo]at h;cases h
  by_cases hhi:c>126
  ·exfalso
   match u,h with
   |[],h=>simp[D0,h34]at h
   |e :: u,h=>rw[D0,if_neg h34,if_neg hlo,if_pos hhi]at h;cases h
  rw[b9w h34 hlo hhi h92]at h;obtain⟨b,h1,h2⟩:=a2A n u _ t r (by simp at hn;omega) h;exact⟨c :: b,by rw[h1];rfl,fun r'=>by show D0 (c :: (b++r')) acc=_;rw[b9w h34 hlo hhi h92,h2]⟩
theorem b33{u t r:d3}{k n:Int}(h:a1R u=some (k,t,n,r)):∃b,u=b++r/\b ≠ []/\∀r',e9U r'->a1R (b++r')=some (k,t,n,r'):=by
 cases u with
 |nil=>cases h
 |cons c u=>
  rw[a1R]at h;by_cases hsm:(decide (c>=97)&&decide (c<=122))=true
  ·rw[if_pos hsm]at h;split at h
   ·cases h
   ·rename_i h40;simp only[Option.some.injEq,Prod.mk.injEq]at h;obtain⟨rfl,rfl,rfl,rfl⟩:=h;have hn:O4 c=true:=by unfold O4;rw[hsm];rfl
    have e:(c :: u).takeWhile O4=c :: u.takeWhile O4:=by rw[List.takeWhile_cons,if_pos hn]
    refine⟨(c :: u).takeWhile O4,(List.takeWhile_append_dropWhile).symm,by rw[e];simp,fun r' hr=>?_⟩;have ht:=c5h O4 d3X ((c :: u).takeWhile O4) r' (b9z O4 _) hr;rw[e]at ht h40 ⊢;rw[List.cons_append]at ht ⊢;rw[a1R,if_pos hsm,ht.1,ht.2,if_neg h40]
  rw[if_neg hsm]at h;by_cases hdg:V9 c=true
  ·rw[if_pos hdg]at h;split at h
   ·cases h
   rename_i h9;split at h
   ·cases h
   rename_i h48;simp only[Option.some.injEq,Prod.mk.injEq]at h;obtain⟨rfl,rfl,rfl,rfl⟩:=h;have e:(c :: u).takeWhile V9=c :: u.takeWhile V9:=by rw[List.takeWhile_cons,if_pos hdg]
   refine⟨(c :: u).takeWhile V9,(List.takeWhile_append_dropWhile).symm,by rw[e];simp,fun r' hr=>?_⟩;have ht:=c5h V9 e0H ((c :: u).takeWhile V9) r' (b9z V9 _) hr;rw[e]at ht h9 h48 ⊢;rw[List.cons_append]at ht ⊢;rw[a1R,if_neg hsm,if_pos hdg,ht.1,ht.2,if_neg h9,if_neg h48]
  rw[if_neg hdg]at h;by_cases h34:c=34
  ·rw[if_pos h34]at h;cases hx:D0 u []with
   |none=>rw[hx]at h;cases h
   |some z=>
    rw[hx]at h;simp only[Option.map_some,Option.some.injEq,Prod.mk.injEq]at h;obtain⟨rfl,rfl,rfl,rfl⟩:=h;obtain⟨b,h1,h2⟩:=a2A u.length u [] z.1 z.2 (Nat.le_refl _) hx;refine⟨c :: b,by rw[List.cons_append,<-h1],by simp,fun r' hr=>?_⟩;rw[List.cons_append,a1R,if_neg hsm,if_neg hdg,if_pos h34,h2];rfl
  rw[if_neg h34]at h;by_cases hs:c1M c=true
  ·rw[if_pos hs]at h;split at h
   ·rename_i h61;simp only[Option.some.injEq,Prod.mk.injEq]at h;obtain⟨rfl,rfl,rfl,rfl⟩:=h;obtain⟨h61,hh⟩:=h61;cases u with
    |nil=>cases hh
    |cons e u=>
     obtain rfl:e=61:=by simpa using hh
     refine⟨[c,61],rfl,by simp,fun r' hr=>?_⟩;rw[List.cons_append,a1R,if_neg hsm,if_neg hdg,if_neg h34,if_pos hs,if_pos ⟨h61,rfl⟩];rfl
   ·simp only[Option.some.injEq,Prod.mk.injEq]at h;obtain⟨rfl,rfl,rfl,rfl⟩:=h;refine⟨[c],rfl,by simp,fun r' hr=>?_⟩;have:¬(c=61/\r'.head? = some 61):=by
     rintro⟨_,hh⟩;cases r' with
     |nil=>cases hh
     |cons e y=>
      obtain rfl:e=61:=by simpa using hh
      have:=hr _ _ rfl;revert this;unfold d3f;decide
    rw[List.cons_append,List.nil_append,a1R,if_neg hsm,if_neg hdg,if_neg h34,if_pos hs,if_neg this]
  ·rw[if_neg hs]at h;cases h
theorem LX.congr{L:Nat}{u u':d3}{l:List K6}(e:S0 false u=S0 false u')(h:LX L u l):LX L u' l:=by
 cases h with
 |nil h1=>exact .nil (e▸h1)
 |cons h1 h2 h3 h4=>exact .cons (e▸h1) h2 h3 h4
def a6p(t:K6):Int×d3×Int:=(t.1,t.2.1,t.2.2.1)
end
section
def K5(c:UInt8):d3->List d3
 |[]=>[[]]
 |b :: s=>if b=c then [] :: K5 c s else match K5 c s with
  |x :: xs=>(b :: x) :: xs
  |[]=>[[b]]
theorem b0A(c:UInt8)(s:d3):K5 c s ≠ []:=by
 cases s with
 |nil=>simp[K5]
 |cons b s=>unfold K5;split;simp;split<;>simp
theorem a1G(b c:UInt8)(s:d3):Lib.indexByte (b :: s) c=if b=c then 0 else if Lib.indexByte s c = -1 then -1 else Lib.indexByte s c+1:=by
 have h:=Lib.indexByte_ge s c;rw[Lib.indexByte];by_cases hb:b=c
 ·simp[hb]
 ·simp only[beq_iff_eq,hb,if_false]
theorem b3S(c:UInt8):∀(s:d3),Lib.splitK [c] 0 (Lib.count s [c]) s=K5 c s
 |[]=>by simp[Lib.count_one,Lib.splitK,K5]
 |b :: s=>by
  have ih:=b3S c s;by_cases hb:b=c
  ·subst hb;rw[Lib.count_cons_eq,Nat.add_comm,Lib.splitK,Lib.index_one,a1G];simp only[if_true];show(_ :: Lib.splitK [b] 0 (Lib.count s [b]) s)=_;rw[ih];simp[K5]
  ·rw[Lib.count_cons_ne _ _ _ hb];unfold K5;rw[if_neg hb,<-ih];cases hk:Lib.count s [c]with
   |zero=>simp[Lib.splitK]
   |succ k=>
    rw[Lib.splitK,Lib.splitK,Lib.index_one,Lib.index_one,a1G,if_neg hb];have h0:=Lib.indexByte_ge s c;by_cases h1:Lib.indexByte s c = -1
    ·simp[h1]
    ·have h2:∃n:Nat,Lib.indexByte s c=n:=⟨(Lib.indexByte s c).toNat,by omega⟩;obtain⟨n,hn⟩:=h2;have e:((n:Int)+1).toNat=n+1:=by omega
     have e1:¬((n:Int) = -1):=by omega
     have e2:¬((n:Int)+1 = -1):=by omega
     simp[hn,e,e1,e2,Nat.add_right_comm]
theorem c5e(s:d3)(c:UInt8):a8T s [c]=K5 c s:=by
 unfold a8T;have:=Lib.splitB_data ⟨[c].toArray⟩ 0 (Lib.countB ⟨s.toArray⟩ ⟨[c].toArray⟩) ⟨s.toArray⟩;rw[this];exact b3S c s
theorem a8S(c:UInt8):∀s:d3,(K5 c s).length=s.count c+1
 |[]=>rfl
 |b :: s=>by
  have ih:=a8S c s;unfold K5;by_cases hb:b=c
  ·rw[if_pos hb];simp[hb,ih]
  ·rw[if_neg hb,List.count_cons_of_ne hb,<-ih];have:=b0A c s;cases h:K5 c s with
   |nil=>exact absurd h this
   |cons=>rfl
theorem a1P(s:d3)(c:UInt8)(h:s.length<4294967281):strings_Split s [c]=some (K5 c s):=by
 have hc:s.count c<=s.length:=List.count_le_length;unfold strings_Split;rw[c5e,a8S];refine if_pos ⟨h,by simp,?_,by omega⟩;show _=Lib.count s [c]+1;rw[Lib.count_one]
theorem c5d(c:UInt8)(s:d3):∀x∈K5 c s,c∉x/\x.length<=s.length:=by
 induction s with
 |nil=>intro x hx;simp[K5]at hx;subst hx;simp
 |cons b s ih=>
  intro x hx;unfold K5 at hx;by_cases hb:b=c
  ·rw[if_pos hb]at hx;rcases List.mem_cons.1 hx with rfl|hx
   ·simp
   ·have:=ih x hx;exact⟨this.1,by simp;omega⟩
  ·rw[if_neg hb]at hx;cases h:K5 c s with
   |nil=>exact absurd h (b0A c s)
   |cons y ys=>
    rw[h]at hx ih;rcases List.mem_cons.1 hx with rfl|hx
    ·have:=ih y (by simp);refine⟨fun hm=>?_,by simp;omega⟩;rcases List.mem_cons.1 hm with e|hm
     ·exact hb e.symm
     ·exact this.1 hm
    ·have:=ih x (List.mem_cons_of_mem _ hx);exact⟨this.1,by simp;omega⟩
end
section
variable{N:Nat}
theorem a11{α:Type}(p:α->Bool)(k:Bool):∀(xs:List α) (j:Nat),N0 (fun _ x r=>if(!p x)=true then false else r) k xs j=(xs.all p&&k)
 |[],_=>by simp[N0]
 |x :: xs,j=>by
  show(if(!p x)=true then false else N0 _ _ xs (j+1))=_;rw[a11 p k xs (j+1),List.all_cons];cases h:p x<;>simp
theorem c0C{R:Type}(n:Int)(x y:Option R):br (n !=0) x y=if n≠0 then x else y:=by
 by_cases h:n=0
 ·subst h;simp
 ·rw[show(n !=0)=true by simp[h],d9,if_pos h]
theorem b13(hN:z7<=N)(xs:List d3)(hx:xs.length<=maxLen)(x:d3):K3 N xs x=some (a9u (x == ·) xs):=by
 unfold K3;refine A8 (fun _ _=>rfl) xs hx (fun self i h r hr=>?_) (fun self=>?_) hN
 ·simp only[c0c,m7 xs h,u5 hx h,hr,c8];rw[I1 h,d9,B9]
 ·simp[c0c]
theorem Y3(hN:z7<=N)(xs:List d3)(hx:xs.length<=maxLen)(x:d3):s4 N xs x=some (xs.any (x == ·)):=by
 unfold s4;rw[b13 hN xs hx,c8,a0p]
def a2O(c:UInt8):Bool:=decide (c>=97)&&decide (c<=122)
def a8F(c:UInt8):Bool:=decide (c>=48)&&decide (c<=57)
def nmB(c:UInt8):Bool:=a2O c||(a8F c||c==95)
theorem b6D(c:UInt8):J8 N c=some (a2O c):=by
 unfold J8 a2O;cases decide (c>=97)<;>simp
theorem c9p(c:UInt8):J7 N c=some (a8F c):=by
 unfold J7 a8F;cases decide (c>=48)<;>simp
def b5V:List d3:=[[109,97,99,114,111],[102,111,114],[105,110],[105,102],[101,108,115,101],[117,115,101],[102,105,108,101,115],[99,104,111,111,115,101]]
def B7(s:d3):Bool:=match s with
 |[]=>false
 |b :: _=>decide (s.length<=40)&&(a2O b&&(s.all nmB && !(b5V.any (s == ·))))
theorem G4(hN:z7<=N)(s:d3)(hs:s.length<=maxLen):Q6 N s=some (B7 s):=by
 unfold Q6;cases s with
 |nil=>simp[B7]
 |cons b x=>
  have h1:¬(((b :: x).length:Int)<1):=by simp;omega
  rw[a4V h1,a4D,List.getElem?_cons_zero,c8,b6D,c8];have hL:b9U N (b :: x) ((b :: x).length:Int) (k8 (a1O N) fun t42=>k8 (s4 N t42 (b :: x)) fun t44=>some (!t44)) N 0=some ((b :: x).all nmB && !(b5V.any ((b :: x) == ·))):=by
   have hk:(k8 (a1O N) fun t42=>k8 (s4 N t42 (b :: x)) fun t44=>some (!t44))=some (!(b5V.any ((b :: x) == ·))):=by
    unfold a1O;rw[c8,Y3 hN _ (by decide),c8];rfl
   rw[hk,<-a11 nmB _ _ 0];refine A8 (fun _ _=>rfl) (b :: x) hs (fun self i h r hr=>?_) (fun self=>?_) hN
   ·simp only[b2u,m7 _ h,u5 hs h,hr,c8,b6D,c9p];rw[I1 h,d9];unfold nmB;generalize (b :: x)[i]=c;cases h1:a2O c<;>cases h2:a8F c<;>cases h3:(c==95)<;>simp[bne,h3]
   ·simp only[b2u,P6,g9]
  rw[hL];show _=some (decide ((b :: x).length<=40)&&(a2O b&&((b :: x).all nmB && !(b5V.any ((b :: x) == ·)))));generalize ((b :: x).all nmB && !(b5V.any ((b :: x) == ·)))=q;by_cases h40:(b :: x).length<=40
  ·rw[a4V (by omega),decide_eq_true h40];cases a2O b<;>simp
  ·rw[a1d (by omega),decide_eq_false h40];rfl
theorem b3n(c:UInt8):a09 N c=some (nmB c):=by
 unfold a09 nmB a2O a8F;simp only[B9];generalize decide (c>=97)=a1;generalize decide (c<=122)=a2;generalize decide (c>=48)=a3;generalize decide (c<=57)=a4;generalize (c==95)=a5;cases a1<;>cases a2<;>cases a3<;>cases a4<;>cases a5<;>rfl
theorem e0N:strings_Split ([109,97,99,114,111,32,102,111,114,32,105,110,32,105,102,32,101,108,115,101,32,117,115,101,32,102,105,108,101,115,32,99,104,111,111,115,101]:d3) ([32]:d3)=some b5V:=by
 rw[a1P _ _ (by decide)];have:K5 32 ([109,97,99,114,111,32,102,111,114,32,105,110,32,105,102,32,101,108,115,101,32,117,115,101,32,102,105,108,101,115,32,99,104,111,111,115,101]:d3)=b5V:=by decide +kernel
 rw[this]
theorem S1(n a b:Int):T2 N n a b=some (decide (a<=n)&&decide (n<=b)):=by
 unfold T2;cases decide (a<=n)<;>simp
theorem a1Y(hN:z7<=N)(s:d3)(hs:s.length<=maxLen):T0 N s=some (B7 s):=by
 unfold T0;rw[S1,c8];cases s with
 |nil=>simp[B7]
 |cons b x=>
  have h1:decide ((1:Int)<=((b :: x).length:Int))=true:=decide_eq_true (by simp;omega);rw[h1,Bool.true_and,a4D,List.getElem?_cons_zero,c8,c8];have hL:b99 N (b :: x) ((b :: x).length:Int) (k8 (strings_Split ([109,97,99,114,111,32,102,111,114,32,105,110,32,105,102,32,101,108,115,101,32,117,115,101,32,102,105,108,101,115,32,99,104,111,111,115,101]:d3) ([32]:d3)) fun t29=>k8 (s4 N t29 (b :: x)) fun t31=>some (!t31)) N 0=some ((b :: x).all nmB && !(b5V.any ((b :: x) == ·))):=by
   rw[e0N,c8,Y3 hN _ (by decide),c8,<-a11 nmB _ _ 0];refine A8 (fun _ _=>rfl) (b :: x) hs (fun self i h r hr=>?_) (fun self=>?_) hN
   ·simp only[b2A,m7 _ h,u5 hs h,hr,c8,b3n];rw[I1 h,d9,B9]
   ·simp only[b2A,P6,g9]
  rw[hL];show _=some (decide ((b :: x).length<=40)&&(a2O b&&((b :: x).all nmB && !(b5V.any ((b :: x) == ·)))));generalize ((b :: x).all nmB && !(b5V.any ((b :: x) == ·)))=q;have hs1:decide (b<97) = !decide (b>=97):=by
   by_cases h:b<97
   ·rw[decide_eq_true h,decide_eq_false (UInt8.not_le.2 h)];rfl
   ·rw[decide_eq_false h,decide_eq_true (UInt8.not_lt.1 h)];rfl
  have hs2:decide (b>122) = !decide (b<=122):=by
   by_cases h:b<=122
   ·rw[decide_eq_true h,decide_eq_false (UInt8.not_lt.2 h)];rfl
   ·rw[decide_eq_false h,decide_eq_true (UInt8.not_le.1 h)];rfl
  rw[hs1,hs2];unfold a2O;by_cases h40:(b :: x).length<=40
  ·rw[decide_eq_true (by omega:((b :: x).length:Int)<=40),decide_eq_true h40];cases decide (b>=97)<;>cases decide (b<=122)<;>simp
  ·rw[decide_eq_false (by omega:¬((b :: x).length:Int)<=40),decide_eq_false h40];simp
def y0(b:UInt8):Bool:=b==10||(!decide (b<32) && !decide (b>126))
theorem Q9(hN:z7<=N)(s:d3)(hs:s.length<=maxLen):J1 N s=some (s.all y0):=by
 unfold J1;rw[show s.all y0=(s.all y0&&true) by simp,<-a11 y0 true s 0];refine A8 (fun _ _=>rfl) s hs (fun self i h r hr=>?_) (fun self=>?_) hN
 ·simp only[b2v,m7 s h,u5 hs h,hr,c8];rw[I1 h,d9];unfold y0;cases h1:(s[i]==(10:UInt8))<;>cases h2:decide (s[i]<(32:UInt8))<;>cases h3:decide (s[i]>(126:UInt8))<;>simp[h1,bne]
 ·simp only[b2v,P6,g9]
theorem U1(hN:z7<=N)(s:d3)(hs:s.length<=maxLen):N3 N s=some (s.all y0):=by
 unfold N3;rw[show s.all y0=(s.all y0&&true) by simp,<-a11 y0 true s 0];refine A8 (fun _ _=>rfl) s hs (fun self i h r hr=>?_) (fun self=>?_) hN
 ·simp only[b2B,m7 s h,u5 hs h,hr,c8];rw[I1 h,d9];unfold y0;cases h1:(s[i]==(10:UInt8))<;>cases h2:decide (s[i]<(32:UInt8))<;>cases h3:decide (s[i]>(126:UInt8))<;>simp[h1,bne]
 ·simp only[b2B,P6,g9]
theorem a6w(a b:List d3)(ha:a.length<=maxLen)(he:a.length=b.length):∀(m n i:Nat),i+m=a.length->m<n->c7P N a b (a.length:Int) (some true) n (i:Int)=some (decide (a.drop i=b.drop i))
 |0,n,i,hi,hn=>by
  obtain⟨n,rfl⟩:∃j,n=j+1:=⟨n-1,by omega⟩;have:i=a.length:=by omega
  subst this;show b1f _ _ _ _ _ _ _=_;simp only[b1f,P6,g9,List.drop_length];rw[he,List.drop_length];simp
 |m+1,n,i,hi,hn=>by
  obtain⟨n,rfl⟩:∃j,n=j+1:=⟨n-1,by omega⟩;have h:i<a.length:=by omega
  have hb:i<b.length:=by omega
  have ih:=a6w a b ha he m n (i+1) (by omega) (by omega);show b1f _ _ _ _ _ _ _=_;simp only[b1f,m7 a h,m7 b hb,u5 ha h,ih,c8];rw[I1 h,d9,List.drop_eq_getElem_cons h,List.drop_eq_getElem_cons hb];by_cases hq:a[i]=b[i]
  ·rw[show(a[i]==b[i])=true from beq_iff_eq.2 hq];simp only[List.cons.injEq,hq,true_and,Bool.not_true,g9]
  ·rw[show(a[i]==b[i])=false from beq_false_of_ne hq];simp only[List.cons.injEq,hq,false_and,Bool.not_false,d9,decide_false]
theorem b58(hN:z7<=N)(a b:List d3)(ha:a.length<=maxLen)(hb:b.length<=maxLen):K0 N a b=some (decide (a=b)):=by
 unfold K0;by_cases he:a.length=b.length
 ·have:=a6w (N:=N) a b ha he a.length N 0 (by omega) (by unfold maxLen at ha;unfold z7 at hN;omega);rw[show((0:Nat):Int)=0 from rfl,List.drop_zero,List.drop_zero]at this;rw[this];simp[he]
 ·have hne:a≠b:=fun e=>he (by rw[e])
  simp only[decide_eq_false hne];have:((a.length:Int) !=(b.length:Int))=true:=by simp;omega
  simp[this]
theorem a8y(l:List d3)(h:l.length<=1000000):G1 N l=some l:=by
 unfold G1;have e:Zf (([]:List d3).length+l.length) .str=true:=decide_eq_true (by show(0+l.length)*(24*1)<=_;omega);rw[e,d9];cases l with
 |nil=>simp
 |cons a l=>simp
abbrev Mk:Type:=List (Int×Int)
theorem a58{n s:Nat}(hs:s<=100)(h:n<=1000000):decide (n*(24*s)<=140737488355328)=true:=by
 have h1:n*(24*s)<=1000000*(24*100):=Nat.mul_le_mul h (Nat.mul_le_mul_left 24 hs);exact decide_eq_true (by omega)
end
section
abbrev Key:Type:=Int×d3×Int
inductive LK:d3->List Key->Prop
 |nil {u:d3}:S0 false u=[]->LK u []
 |cons {u v r t:d3} {k n:Int} {l:List Key}:S0 false u=v->a1R v=some (k,t,n,r)->LK r l->LK u ((k,t,n) :: l)
theorem a6T:∀(u:d3) (b:Bool),(S0 b u).length<=u.length
 |[],b=>by cases b<;>simp[S0]
 |c :: r,true=>by rw[S0];have:=a6T r (c !=10);simp;omega
 |c :: r,false=>by
  have h1:=a6T r false;have h2:=a6T r true;rw[S0]
  repeat' split
  all_goals simp only[List.length_cons]at *;omega
theorem e1h{u t r:d3}{k n:Int}(h:a1R u=some (k,t,n,r)):r.length<=u.length:=by
 obtain⟨b,e,_,_⟩:=b33 h;rw[e,List.length_append];omega
theorem LK.lx{u:d3}{ks:List Key}(h:LK u ks):∀L,u.length<=L->∃l,LX L u l/\l.map a6p=ks:=by
 induction h with
 |nil h=>exact fun L _=>⟨[],.nil h,rfl⟩
 |@cons u v r t k n l h1 h2 _ ih=>
  intro L hL;have h3:v.length<=L:=by rw[<-h1];exact Nat.le_trans (a6T u false) hL
  obtain⟨l',g1,g2⟩:=ih L (Nat.le_trans (e1h h2) h3);exact⟨_,.cons h1 h2 h3 g1,by rw[List.map_cons,g2];rfl⟩
theorem LK.congr{u u':d3}{l:List Key}(e:S0 false u'=S0 false u)(h:LK u l):LK u' l:=by
 cases h with
 |nil h=>exact .nil (e.trans h)
 |cons h1 h2 h3=>exact .cons (e.trans h1) h2 h3
def bdB(c:UInt8):Bool:=!O4 c&&c !=61
def PcE(r:d3):Prop:=∀c y,r=c :: y->bdB c=true
def BdH:d3->Bool | []=>false|c :: _=>bdB c
theorem PcE.of{b:d3}(h:BdH b=true)(r:d3):PcE (b++r):=by
 cases b with
 |nil=>cases h
 |cons c b=>intro c' y e;cases e;exact h
def PcA(b:d3)(ks:List Key):Prop:=∀r l,PcE r->LK r l->LK (b++r) (ks++l)
def PcB(b:d3)(ks:List Key):Prop:=∀r l,LK r l->LK (b++r) (ks++l)
section
variable{a b:d3}{ks js:List Key}
theorem PcB.lx(h:PcB a ks):PcA a ks:=fun r l _ hl=>h r l hl
theorem PcB.app(h:PcB a ks)(g:PcB b js):PcB (a++b) (ks++js):=fun r l hl=>by rw[List.append_assoc,List.append_assoc];exact h _ _ (g _ _ hl)
theorem PcB.app'(h:PcB a ks)(g:PcA b js):PcA (a++b) (ks++js):=fun r l hb hl=>by rw[List.append_assoc,List.append_assoc];exact h _ _ (g _ _ hb hl)
theorem PcA.app1(h:PcA a ks)(g:PcB b js)(hb:BdH b=true):PcB (a++b) (ks++js):=fun r l hl=>by rw[List.append_assoc,List.append_assoc];exact h _ _ (PcE.of hb r) (g _ _ hl)
theorem PcA.app(h:PcA a ks)(g:PcA b js)(hb:BdH b=true):PcA (a++b) (ks++js):=fun r l hr hl=>by rw[List.append_assoc,List.append_assoc];exact h _ _ (PcE.of hb r) (g _ _ hr hl)
theorem PcB.nil:PcB [] []:=fun _ _ h=>h
end
theorem c1i{c:UInt8}(h:c=32\/c=10):PcB [c] []:=fun r l hl=>by
 refine LK.congr ?_ hl;rcases h with rfl|rfl<;>simp[S0]
theorem a1p:PcB [32] []:=c1i (.inl rfl)
theorem f0p:PcB [10] []:=c1i (.inr rfl)
theorem d3U:∀n,PcB (List.replicate n 32) []
 |0=>PcB.nil
 |n+1=>PcB.app (a:=[32]) (ks:=[]) a1p (d3U n)
theorem a7y{c:UInt8}{r:d3}(h:(c !=32&&c !=9&&c !=10&&c !=13&&c !=35)=true):S0 false (c :: r)=c :: r:=by
 simp only[Bool.and_eq_true,bne_iff_ne]at h;rw[S0,if_neg h.1.1.1.1,if_neg h.1.1.1.2,if_neg h.1.1.2,if_neg h.1.2,if_neg h.2]
def a2y(c:UInt8):Bool:=!(decide (c>=97)&&decide (c<=122)) && !V9 c&&c !=34&&c1M c&&c !=61&&(c !=32&&c !=9&&c !=10&&c !=13&&c !=35)
theorem I7{c:UInt8}(h:a2y c=true):PcB [c] [(4,[c],0)]:=fun r l hl=>by
 unfold a2y at h;obtain⟨h,h6⟩:=Bool.and_eq_true_iff.1 h;obtain⟨h,h5⟩:=Bool.and_eq_true_iff.1 h;obtain⟨h,h4⟩:=Bool.and_eq_true_iff.1 h;obtain⟨h,h3⟩:=Bool.and_eq_true_iff.1 h;obtain⟨h1,h2⟩:=Bool.and_eq_true_iff.1 h;refine .cons (a7y h6) ?_ hl;rw[Bool.not_eq_true']at h1 h2;rw[bne_iff_ne]at h3 h5;show a1R (c :: r)=_;rw[a1R,if_neg (by rw[h1];decide),if_neg (by rw[h2];decide),if_neg h3,if_pos h4,if_neg (fun e=>h5 e.1)]
theorem e0T:PcB [61,61] [(4,[61,61],0)]:=fun r l hl=>by
 refine .cons (a7y (by decide)) ?_ hl;show a1R (61 :: 61 :: r)=_;rw[a1R,if_neg (by decide),if_neg (by decide),if_neg (by decide),if_pos (by decide),if_pos ⟨rfl,rfl⟩];rfl
theorem e3u:PcA [61] [(4,[61],0)]:=fun r l hb hl=>by
 refine .cons (a7y (by decide)) ?_ hl;show a1R (61 :: r)=_;rw[a1R,if_neg (by decide),if_neg (by decide),if_neg (by decide),if_pos (by decide),if_neg (fun e=>?_)];obtain⟨_,e⟩:=e;cases r with
 |nil=>cases e
 |cons c r=>
  have h1:c=61:=by simpa using e
  have h2:=hb c r rfl;rw[h1]at h2;exact absurd h2 (by decide)
theorem b9A(p:UInt8->Bool):∀(b r:d3),(∀c∈b,p c=true)->(∀c y,r=c :: y->p c=false)->(b++r).takeWhile p=b/\(b++r).dropWhile p=r
 |[],[],_,_=>⟨rfl,rfl⟩
 |[],c :: r,_,h=>by simp[List.takeWhile_cons,List.dropWhile_cons,h c r rfl]
 |a :: b,r,h1,h2=>by
  have:=b9A p b r (fun c hc=>h1 c (by simp[hc])) h2;have ha:=h1 a (by simp);rw[List.cons_append,List.takeWhile_cons,List.dropWhile_cons,if_pos ha,if_pos ha,this.1,this.2];exact⟨rfl,rfl⟩
theorem d4E{c:UInt8}(h:(decide (c>=97)&&decide (c<=122))=true):(c !=32&&c !=9&&c !=10&&c !=13&&c !=35)=true:=by
 simp only[Bool.and_eq_true,decide_eq_true_eq,bne_iff_ne]at h ⊢;refine⟨⟨⟨⟨?_,?_⟩,?_⟩,?_⟩,?_⟩<;>(rintro rfl;exact absurd h.1 (by decide))
def c62(q:d3):Bool:=(match q with | []=>false|c :: _=>decide (c>=97)&&decide (c<=122))&&q.all O4&&decide (q.length<=40)
theorem a2Y{q:d3}(h:c62 q=true):PcA q [(1,q,0)]:=fun r l hb hl=>by
 cases q with
 |nil=>cases h
 |cons c q=>
  unfold c62 at h;obtain⟨h,h3⟩:=Bool.and_eq_true_iff.1 h;obtain⟨h1,h2⟩:=Bool.and_eq_true_iff.1 h;have h1:(decide (c>=97)&&decide (c<=122))=true:=h1;have ht:=b9A O4 (c :: q) r (fun x hx=>List.all_eq_true.1 h2 x hx) (fun x y e=>by
   have:=hb x y e;unfold bdB at this;simp only[Bool.and_eq_true,Bool.not_eq_true']at this;exact this.1)
  have h3:=of_decide_eq_true h3;refine .cons (a7y (d4E h1)) ?_ hl;have e:c :: q++r=c :: (q++r):=rfl;rw[<-e]at *;show a1R (c :: (q++r))=_;rw[a1R,if_pos h1];have e1:(c :: (q++r)).takeWhile O4=c :: q:=ht.1;have e2:(c :: (q++r)).dropWhile O4=r:=ht.2;rw[e1,e2,if_neg (by omega)]
theorem e5O{c:UInt8}(h:V9 c=true):(c !=32&&c !=9&&c !=10&&c !=13&&c !=35)=true/\¬(decide (c>=97)&&decide (c<=122))=true:=by
 unfold V9 at h;simp only[Bool.and_eq_true,decide_eq_true_eq,bne_iff_ne]at h ⊢;refine⟨⟨⟨⟨⟨?_,?_⟩,?_⟩,?_⟩,?_⟩,fun hc=>?_⟩
 ·rintro rfl;exact absurd h.1 (by decide)
 ·rintro rfl;exact absurd h.1 (by decide)
 ·rintro rfl;exact absurd h.1 (by decide)
 ·rintro rfl;exact absurd h.1 (by decide)
 ·rintro rfl;exact absurd h.1 (by decide)
 ·have h1:=UInt8.le_iff_toNat_le.1 h.2;have h2:=UInt8.le_iff_toNat_le.1 hc.1;simp at h1 h2;omega
theorem e0G:∀(n:Nat),(∀c∈Lib.decDigits n,V9 c=true)/\Lib.decDigits n ≠ []/\(∀acc,c4T acc (Lib.decDigits n)=acc*10 ^ (Lib.decDigits n).length+n)/\((Lib.decDigits n).head? = some 48->n=0):=by
 intro n;induction n using Nat.strongRecOn with
 |_ n ih=>
  have dg:∀d:Nat,d<10->V9 (UInt8.ofNat (48+d))=true/\(UInt8.ofNat (48+d)).toNat=48+d:=by
   intro d hd;have:d=0\/d=1\/d=2\/d=3\/d=4\/d=5\/d=6\/d=7\/d=8\/d=9:=by omega
   rcases this with rfl|rfl|rfl|rfl|rfl|rfl|rfl|rfl|rfl|rfl<;>decide
  by_cases h:n<10
  ·rw[Lib.decDigits_one h];obtain⟨h1,h2⟩:=dg n h;refine⟨fun c hc=>by rw[List.mem_singleton.1 hc];exact h1,by simp,fun acc=>?_,fun e=>?_⟩
   ·simp only[c4T,List.foldl_cons,List.foldl_nil,h2,List.length_cons,List.length_nil];omega
   ·have:UInt8.ofNat (48+n)=48:=by simpa using e
    rw[this]at h2;have h3:(48:UInt8).toNat=48:=by decide
    omega
  ·rw[Lib.decDigits,dif_neg h];obtain⟨i1,i2,i3,i4⟩:=ih (n / 10) (by omega);obtain⟨h1,h2⟩:=dg (n % 10) (by omega);refine⟨fun c hc=>?_,by simp,fun acc=>?_,fun e=>?_⟩
   ·rcases List.mem_append.1 hc with hc|hc
    ·exact i1 c hc
    ·rw[List.mem_singleton.1 hc];exact h1
   ·have:=i3 acc;unfold c4T at this ⊢;rw[List.foldl_append,this];simp only[List.foldl_cons,List.foldl_nil,h2,List.length_append,List.length_cons,List.length_nil,Nat.zero_add,Nat.pow_add,Nat.pow_one];rw[show 48+n % 10-48=n % 10 by omega,Nat.add_mul,Nat.mul_assoc];omega
   ·have:=i4 (by
     cases hd:Lib.decDigits (n / 10)with
     |nil=>exact absurd hd i2
     |cons c t=>rw[hd]at e;simpa using e)
    omega
theorem b8L:∀(k n:Nat),n<10 ^ (k+1)->(Lib.decDigits n).length<=k+1
 |0,n,h=>by rw[Lib.decDigits_one (by omega)];simp
 |k+1,n,h=>by
  by_cases h10:n<10
  ·rw[Lib.decDigits_one h10];simp
  ·rw[Lib.decDigits,dif_neg h10,List.length_append];have:=b8L k (n / 10) (by rw[Nat.pow_succ]at h;omega);simp;omega
theorem e5X{n:Nat}(h:n<=999999999):PcA (Lib.decDigits n) [(3,[],(n:Int))]:=fun r l hb hl=>by
 obtain⟨h1,h2,h3,h4⟩:=e0G n;have h5:=b8L 8 n (by omega);generalize hq:Lib.decDigits n=q at *;cases q with
 |nil=>exact absurd rfl h2
 |cons c q=>
  have hc:=h1 c (by simp);obtain⟨g1,g2⟩:=e5O hc;have ht:=b9A V9 (c :: q) r h1 (fun x y e=>by
   have:=hb x y e;unfold bdB O4 at this;simp only[Bool.and_eq_true,Bool.not_eq_true',Bool.or_eq_false_iff]at this;exact this.1.2.1)
  refine .cons (a7y g1) ?_ hl;show a1R (c :: (q++r))=_;have e1:(c :: (q++r)).takeWhile V9=c :: q:=ht.1;have e2:(c :: (q++r)).dropWhile V9=r:=ht.2;rw[a1R,if_neg g2,if_pos hc,e1,e2,if_neg (by omega),if_neg,h3 0]
  ·simp
  ·rintro⟨rfl,hl2⟩;have hn:=h4 rfl;subst hn;rw[Lib.decDigits_one (by omega)]at hq;cases hq;simp at hl2
theorem b6Y:∀(t r acc:d3),t.all y0=true->D0 (rpE t++34 :: r) acc=some (acc++t,r)
 |[],r,acc,_=>by simp[rpE,b9x]
 |c :: t,r,acc,h=>by
  rw[List.all_cons,Bool.and_eq_true_iff]at h;obtain⟨h1,h2⟩:=h;have e:rpE (c :: t)++34 :: r=rpF c++(rpE t++34 :: r):=by unfold rpE;rw[List.flatMap_cons,List.append_assoc]
  have ih:=fun acc=>b6Y t r acc h2
  rw[e];unfold rpF;by_cases g1:c=92
  ·subst g1;simp only[if_pos];show D0 (92 :: 92 :: (rpE t++34 :: r)) acc=_;rw[a5v,if_neg (by decide),if_pos rfl,ih];simp
  by_cases g2:c=34
  ·subst g2;show D0 (92 :: 34 :: (rpE t++34 :: r)) acc=_;rw[a5v,if_pos rfl,ih];simp
  by_cases g3:c=10
  ·subst g3;show D0 (92 :: 110 :: (rpE t++34 :: r)) acc=_;rw[a5v,if_neg (by decide),if_neg (by decide),if_pos rfl,ih];simp
  simp only[if_neg g1,if_neg g2,if_neg g3];have hb:¬c<32/\¬c>126:=by
   unfold y0 at h1;simp only[Bool.or_eq_true,beq_iff_eq,Bool.and_eq_true,Bool.not_eq_true',decide_eq_false_iff_not]at h1;rcases h1 with h1|h1
   ·exact absurd h1 g3
   ·exact h1
  show D0 (c :: (rpE t++34 :: r)) acc=_;rw[b9w g2 hb.1 hb.2 g1,ih];simp
theorem b80{t:d3}(h:t.all y0=true):PcB (rpQ t) [(2,t,0)]:=fun r l hl=>by
 refine .cons (a7y (c:=34) (by decide)) ?_ hl;show a1R (34 :: (rpE t ++ [34]++r))=_;rw[a1R,if_neg (by decide),if_neg (by decide),if_pos rfl,List.append_assoc];show(D0 (rpE t++34 :: r) []).map _=_;rw[b6Y t r [] h];rfl
end
section
variable{N:Nat}
theorem GPart.eta(g:GPart):GPart.mk g.kind g.text g.number g.keys g.at_ g.kids=g:=by cases g;rfl
theorem GExpr.eta(g:GExpr):Ze g=g:=by cases g;rfl
section
variable(k n a:Int)(t:d3)(ks:List d3)(gs:List GPart)
theorem b9c:(GPart.mk k t n ks a gs).kind=k:=rfl
theorem b9d:(GPart.mk k t n ks a gs).text=t:=rfl
theorem b0s:(GPart.mk k t n ks a gs).number=n:=rfl
theorem b9a:(GPart.mk k t n ks a gs).keys=ks:=rfl
theorem d35:(GPart.mk k t n ks a gs).at_=a:=rfl
theorem b9b:(GPart.mk k t n ks a gs).kids=gs:=rfl
end
def EOk:Nat->GExpr->Prop|0,_=>False|k+1,e=>(∃t:d3,t.length<=50000/\e = .mk 1 t 0 [] [])\/(∃n,e = .mk 2 [] n [] [])\/(∃t:d3,t.length<=50000/\B7 t=true/\e = .mk 3 t 0 [] [])\/(∃es:List GExpr,es.length<=50000/\e = .mk 4 [] 0 [] es/\∀c∈es,EOk k c)\/(∃a b,e = .mk 5 [] 0 [] [a,b]/\EOk k a/\EOk k b)\/(∃(ks:List d3) (es:List GExpr),ks.length=es.length/\0<es.length/\es.length<=50000/\(∀s∈ks,s.length<=50000)/\e = .mk 6 [] 0 ks es/\∀c∈es,EOk k c)\/(∃a b,e = .mk 7 [] 0 [] [a,b]/\EOk k a/\EOk k b)\/(∃a b,e = .mk 8 [] 0 [] [a,b]/\EOk k a/\EOk k b)
theorem EOk.succ:∀{k:Nat} {e:GExpr},EOk k e->EOk (k+1) e
 |0,_,h=>h.elim
 |k+1,e,h=>by
  rcases h with h|h|h|⟨es,h1,h2,h3⟩|⟨a,b,h1,h2,h3⟩|⟨ks,es,h0,hp,h1,h4,h2,h3⟩|⟨a,b,h1,h2,h3⟩|⟨a,b,h1,h2,h3⟩
  ·exact .inl h
  ·exact .inr (.inl h)
  ·exact .inr (.inr (.inl h))
  ·exact .inr (.inr (.inr (.inl ⟨es,h1,h2,fun c hc=>EOk.succ (h3 c hc)⟩)))
  ·exact .inr (.inr (.inr (.inr (.inl ⟨a,b,h1,EOk.succ h2,EOk.succ h3⟩))))
  ·exact .inr (.inr (.inr (.inr (.inr (.inl ⟨ks,es,h0,hp,h1,h4,h2,fun c hc=>EOk.succ (h3 c hc)⟩)))))
  ·exact .inr (.inr (.inr (.inr (.inr (.inr (.inl ⟨a,b,h1,EOk.succ h2,EOk.succ h3⟩))))))
  ·exact .inr (.inr (.inr (.inr (.inr (.inr (.inr ⟨a,b,h1,EOk.succ h2,EOk.succ h3⟩))))))
theorem EOk.mono{k m:Nat}{e:GExpr}(h:EOk k e)(hm:k<=m):EOk m e:=by
 obtain⟨d,rfl⟩:=Nat.exists_eq_add_of_le hm;induction d with
 |zero=>exact h
 |succ d ih=>exact EOk.succ (ih (by omega))
theorem a9M{α:Type}(f:α->Nat)(q:Nat):∀(l:List α),(∀x∈l,f x<=q)->(l.map f).sum<=q*l.length
 |[],_=>by simp
 |a :: l,h=>by
  have:=h a (by simp);have:=a9M f q l fun x hx=>h x (List.mem_cons_of_mem _ hx)
  rw[List.map_cons,List.sum_cons,List.length_cons,Nat.mul_add];omega
end
section
variable{N:Nat}
abbrev SX:Type:=List K6->Int->Int->Option (Except Int (GPart×List K6×Int×Int))
abbrev RO:Type:=Option (GExpr×Int×Int×Bool×Int×List K6×Mk)
abbrev RX:Type:=Int->Int->Int->Bool->Int->List K6->Mk->RO
abbrev zP:GPart:=GPart.mk (0:Int) ([]:d3) (0:Int) ([]:List d3) (0:Int) ([]:List GPart)
theorem b3R{α:Type}(l:List α)(z x:α):a3F (l ++ [z]) (l.length:Int) x=l ++ [x]:=by
 unfold a3F;simp
theorem b3j{α:Type}(l:List α)(z:α):n8 (l ++ [z]) (l.length:Int)=some z:=by
 rw[b3k];simp
theorem c4I{α:Type}(l:List α)(z:α):decide ((0:Int)<=(l.length:Int)/\(l.length:Int)<((l ++ [z]).length:Int))=true:=decide_eq_true ⟨by omega,by simp;omega⟩
theorem f0g{l:List GPart}(h:l.length<=50000):Zf (l.length + [zP].length) (.rc .part)=true:=a58 (by decide) (by simp;omega)
theorem f5K{l:List GExpr}{z:GExpr}(h:l.length<=50000):Zf (l.length + [z].length) (.rc .expr)=true:=a58 (by decide) (by simp;omega)
theorem f5L{l:List d3}{z:d3}(h:l.length<=50000):Zf (l.length + [z].length) .str=true:=a58 (by decide) (by simp;omega)
section
variable{w:List K6}{e x:Int}{S:SX}{R:RX}{i0:Nat}
end
end
section
variable{N:Nat}
theorem c0z(hN:z7<=N):∃f,N=f+1/\100000<f:=⟨N-1,by unfold z7 at hN;omega,by unfold z7 at hN;omega⟩
section
variable{w:List K6}{e x:Int}{S:SX}{R:RX}{i0:Nat}
end
end
section
variable{N:Nat}
section
variable{w:List K6}{e x:Int}{S:SX}{R:RX}{i0:Nat}
end
end
section
variable{N:Nat}
section
variable{w:List K6}{e:Int}
abbrev Ag:Type:=d3×GExpr
theorem e5R{l:List Ag}{z:Ag}(h:l.length<=50000):Zf (l.length + [z].length) (.pr .str (.rc .expr))=true:=a58 (by decide) (by simp;omega)
end
end
section
variable{N:Nat}
theorem W0{s:d3}(h:B7 s=true):s.length<=40:=by
 unfold B7 at h;cases s with
 |nil=>cases h
 |cons b x=>
  simp only[Bool.and_eq_true,decide_eq_true_eq]at h;exact h.1
abbrev zE:GExpr:=GExpr.mk (0:Int) ([]:d3) (0:Int) ([]:List d3) ([]:List GExpr)
theorem GStmt.eta2(s:GStmt):GStmt.mk s.kind s.name s.text s.params s.args (Ze s.expr) s.body s.els s.at_=s:=by
 cases s with
 |mk _ _ _ _ _ x _ _ _=>cases x;rfl
def SOk:Nat->GStmt->Prop|0,_=>False|k+1,s=>(∃q E a,B7 q=true/\EOk 60000 E/\s = .mk 1 q [] [] [] E [] [] a)\/(∃q ag a,B7 q=true/\ag.length<=50000/\(∀c∈ag,B7 c.1=true/\EOk 60000 c.2)/\s = .mk 2 q [] [] ag zE [] [] a)\/(∃q ps b a,B7 q=true/\ps.length<=50000/\(∀c∈ps,B7 c=true)/\b.length<=50000/\(∀c∈b,SOk k c)/\s = .mk 3 q [] ps [] zE b [] a)\/(∃q E b a,B7 q=true/\EOk 60000 E/\b.length<=50000/\(∀c∈b,SOk k c)/\s = .mk 4 q [] [] [] E b [] a)\/(∃E b l a,EOk 60000 E/\b.length<=50000/\(∀c∈b,SOk k c)/\l.length<=50000/\(∀c∈l,SOk k c)/\s = .mk 5 [] [] [] [] E b l a)\/(∃(t:d3) (a:Int),t.length<=50000/\s = .mk 6 [] t [] [] zE [] [] a)
theorem SOk.succ:∀{k:Nat} {s:GStmt},SOk k s->SOk (k+1) s
 |0,_,h=>h.elim
 |k+1,s,h=>by
  rcases h with h|h|⟨q,ps,b,a,h1,h2,h3,h4,h5,h6⟩|⟨q,E,b,a,h1,h2,h3,h4,h5⟩|⟨E,b,l,a,h1,h2,h3,h4,h5,h6⟩|h
  ·exact .inl h
  ·exact .inr (.inl h)
  ·exact .inr (.inr (.inl ⟨q,ps,b,a,h1,h2,h3,h4,fun c hc=>SOk.succ (h5 c hc),h6⟩))
  ·exact .inr (.inr (.inr (.inl ⟨q,E,b,a,h1,h2,h3,fun c hc=>SOk.succ (h4 c hc),h5⟩)))
  ·exact .inr (.inr (.inr (.inr (.inl ⟨E,b,l,a,h1,h2,fun c hc=>SOk.succ (h3 c hc),h4,fun c hc=>SOk.succ (h5 c hc),h6⟩))))
  ·exact .inr (.inr (.inr (.inr (.inr h))))
theorem SOk.mono{k m:Nat}{s:GStmt}(h:SOk k s)(hm:k<=m):SOk m s:=by
 obtain⟨d,rfl⟩:=Nat.exists_eq_add_of_le hm;induction d with
 |zero=>exact h
 |succ d ih=>exact SOk.succ (ih (by omega))
abbrev SSt:Type:=Int->List K6->Int->Int->Option (Except Int (GStmt×List K6×Int×Int))
abbrev RBt:Type:=Int->Int->Int->Bool->Int->List K6->Mk->Option (List GStmt×Int×Int×Bool×Int×List K6×Mk)
theorem e5S{l:List GStmt}{z:GStmt}(h:l.length<=50000):Zf (l.length + [z].length) (.rc .stmt)=true:=a58 (by decide) (by simp;omega)
section
variable{w:List K6}{e x:Int}{S:SSt}{B:RBt}{i0:Nat}
end
end
section
variable{N:Nat}
section
variable{w:List K6}{e x:Int}{S:SSt}{B:RBt}{i0:Nat}
end
end
section
variable{N:Nat}
section
variable{w:List K6}{e:Int}
end
end
section
theorem c5c(xs:List d3)(hn:xs.Nodup):(xs.mergeSort a3w).Pairwise (·< ·):=by
 have h1:=List.pairwise_mergeSort (le:=a3w) (fun a b c h1 h2=>by
  simp only[a3w,decide_eq_true_eq]at *;exact List.le_trans h1 h2) (fun a b=>by
  simp only[a3w,Bool.or_eq_true,decide_eq_true_eq];exact List.le_total _ _) xs
 have h2:(xs.mergeSort a3w).Nodup:=(List.mergeSort_perm xs a3w).nodup_iff.2 hn;refine(List.Pairwise.and h1 h2).imp fun{a b} ⟨hle,hne⟩=>?_
 simp only[a3w,decide_eq_true_eq]at hle;rcases List.le_iff_lt_or_eq.1 hle with h|h
 ·exact h
 ·exact absurd h hne
theorem e0v{α:Type}(key:α->d3){a b:List α}(ha:a.Pairwise fun x y=>key x<key y)(hb:b.Pairwise fun x y=>key x<key y)(h:∀n,n∈a↔n∈b):a=b:=by
 have nd:∀c:List α,(c.Pairwise fun x y=>key x<key y)->c.Nodup:=fun c hc=>hc.imp fun{x y} h e=>by subst e;exact Q8 _ h
 exact a6L (fun x y h1 h2=>Q8 _ (a0M h1 h2)) a b ((List.perm_ext_iff_of_nodup (nd a ha) (nd b hb)).2 h) ha hb
theorem e1e:∀{a b:List d3},a.Pairwise (·< ·)->b.Pairwise (·< ·)->(∀n,n∈a↔n∈b)->a=b:=fun{a b} ha hb h=>e0v id ha hb h
def c1L(m:List (d3×Bool))(l:List d3):List (d3×Bool):=l.foldl (fun m n=>a1V m n true) m
theorem c9l(m:List (d3×Bool))(n:d3)(b:Bool):((m.map (·.1)).Nodup->((a1V m n b).map (·.1)).Nodup)/\∀x,x∈(a1V m n b).map (·.1)↔x∈m.map (·.1)\/x=n:=by
 induction m with
 |nil=>exact⟨fun _=>by simp[a1V],fun x=>by simp[a1V]⟩
 |cons p m ih=>
  obtain⟨k,v⟩:=p;unfold a1V;by_cases h:n=k
  ·subst h;simp only[beq_self_eq_true,if_true];exact⟨fun h=>h,fun x=>⟨.inl,fun h=>h.elim id fun e=>by rw[e];simp⟩⟩
  ·have hb:(n==k)=false:=by simpa using h
   simp only[hb,Bool.false_eq_true,if_false,List.map_cons];refine⟨fun hn=>?_,fun x=>?_⟩
   ·rw[List.nodup_cons]at hn ⊢;refine⟨fun hm=>?_,ih.1 hn.2⟩;rcases(ih.2 k).1 hm with h1|h1
    ·exact hn.1 h1
    ·exact h h1.symm
   ·rw[List.mem_cons,List.mem_cons,ih.2];exact or_assoc.symm
theorem b0z:∀(l:List d3) (m:List (d3×Bool)),((m.map (·.1)).Nodup->((c1L m l).map (·.1)).Nodup)/\∀x,x∈(c1L m l).map (·.1)↔x∈m.map (·.1)\/x∈l
 |[],m=>⟨fun h=>h,fun x=>by simp[c1L]⟩
 |n :: l,m=>by
  have h1:=c9l m n true;have h2:=b0z l (a1V m n true);show((m.map (·.1)).Nodup->((c1L (a1V m n true) l).map (·.1)).Nodup)/\∀x,x∈(c1L (a1V m n true) l).map (·.1)↔_;refine⟨fun h=>h2.1 (h1.1 h),fun x=>?_⟩;rw[h2.2,h1.2,List.mem_cons,or_assoc]
theorem d4D(l:List d3)(m:List (d3×Bool)):(c1L m l).length<=m.length+l.length:=by
 induction l generalizing m with
 |nil=>exact Nat.le_refl _
 |cons n l ih=>
  have h1:∀m:List (d3×Bool),(a1V m n true).length<=m.length+1:=fun m=>by
   induction m with
   |nil=>exact Nat.le_refl _
   |cons p m ih=>
    obtain⟨k,v⟩:=p;unfold a1V;split
    ·simp
    ·simp only[List.length_cons];omega
  have h2:=ih (a1V m n true);have h3:=h1 m;show(c1L (a1V m n true) l).length<=_;rw[List.length_cons];omega
def a6g(l:List d3):List d3:=((c1L [] l).map (·.1)).mergeSort a3w
theorem b6T(l:List d3):(a6g l).Pairwise (·< ·):=c5c _ ((b0z l []).1 List.nodup_nil)
theorem b0o(l:List d3)(x:d3):x∈a6g l↔x∈l:=by
 unfold a6g;rw[List.mem_mergeSort,(b0z l []).2];simp
theorem a9h(d:Array d3)(hd:∀i j (hi:i<d.size) (hj:j<d.size),i<j->d[i]!<=d[j]!):∀m,m<=d.size->(Lib.compactUpTo d m).Pairwise (·< ·)/\∀x,x∈Lib.compactUpTo d m ↔ ∃j,j<m/\d[j]! = x
 |0,_=>by
  have:Lib.compactUpTo d 0=[]:=by simp[Lib.compactUpTo]
  rw[this];exact⟨List.Pairwise.nil,fun x=>⟨fun h=>(by cases h),fun⟨j,hj,_⟩=>absurd hj (Nat.not_lt_zero _)⟩⟩
 |m+1,hm=>by
  obtain⟨h1,h2⟩:=a9h d hd m (by omega);rw[Lib.compactUpTo_succ];have key:∀x,(∃j,j<m+1/\d[j]! = x)↔(∃j,j<m/\d[j]! = x)\/d[m]! = x:=fun x=>by
   constructor
   ·rintro⟨j,hj,e⟩;rcases Nat.lt_or_ge j m with h|h
    ·exact .inl ⟨j,h,e⟩
    ·obtain rfl:j=m:=by omega
     exact .inr e
   ·rintro(⟨j,hj,e⟩|e)
    ·exact⟨j,by omega,e⟩
    ·exact⟨m,by omega,e⟩
  cases hk:Lib.keeps d m with
  |true=>
   rw[if_pos rfl];refine⟨List.pairwise_append.2 ⟨h1,List.pairwise_singleton _ _,fun a ha b hb=>?_⟩,fun x=>?_⟩
   ·rw[List.mem_singleton.1 hb];obtain⟨j,hj,rfl⟩:=(h2 a).1 ha;have hne:d[m]! ≠ d[m-1]!:=fun e=>by
     rw[Lib.keeps_neg (by omega) e]at hk;cases hk
    have hlt:d[m-1]! < d[m]!:=by
     rcases List.le_iff_lt_or_eq.1 (hd (m-1) m (by omega) (by omega) (by omega))with h|h
     ·exact h
     ·exact absurd h.symm hne
    rcases Nat.lt_or_ge j (m-1)with h|h
    ·have h3:d[j]!<=d[m-1]!:=hd j (m-1) (by omega) (by omega) h;rcases List.le_iff_lt_or_eq.1 h3 with h4|h4
     ·exact List.lt_trans h4 hlt
     ·rw[h4];exact hlt
    ·obtain rfl:j=m-1:=by omega
     exact hlt
   ·rw[List.mem_append,h2,key,List.mem_singleton];exact⟨fun h=>h.imp id Eq.symm,fun h=>h.imp id Eq.symm⟩
  |false=>
   rw[if_neg (by simp),List.append_nil];refine⟨h1,fun x=>?_⟩;rw[h2,key];constructor
   ·exact .inl
   ·rintro(h|e)
    ·exact h
    ·have h0:m≠0:=fun h0=>by
      subst h0;rw[Lib.keeps_lt_one d 0 (by omega)]at hk;cases hk
     have he:d[m]! = d[m-1]!:=Classical.byContradiction fun hne=>by
      rw[Lib.keeps_pos hne]at hk;cases hk
     exact⟨m-1,by omega,he▸e⟩
theorem c4A(zs:List d3)(h:zs.Pairwise (·<=·)):(Lib.compact zs).Pairwise (·< ·)/\∀x,x∈Lib.compact zs↔x∈zs:=by
 have hg:∀j (hj:j<zs.length),zs.toArray[j]! = zs[j]:=fun j hj=>by rw[getElem!_pos zs.toArray j (by simpa using hj)];simp
 have hsz:zs.toArray.size=zs.length:=by simp
 have:=a9h zs.toArray (fun i j hi hj hij=>by
  rw[hsz]at hi hj;rw[hg i hi,hg j hj];exact List.pairwise_iff_getElem.1 h i j hi hj hij) zs.length (by rw[hsz];exact Nat.le_refl _)
 refine⟨this.1,fun x=>(this.2 x).trans ⟨?_,fun hx=>?_⟩⟩
 ·rintro⟨j,hj,e⟩;rw[<-e,hg j hj];exact List.getElem_mem hj
 ·obtain⟨j,hj,e⟩:=List.getElem_of_mem hx;exact⟨j,hj,(hg j hj).trans e⟩
theorem c5b(xs:List d3):(xs.mergeSort a3w).Pairwise (·<=·):=by
 have:=List.pairwise_mergeSort (le:=a3w) (fun a b c h1 h2=>by
  simp only[a3w,decide_eq_true_eq]at *;exact List.le_trans h1 h2) (fun a b=>by
  simp only[a3w,Bool.or_eq_true,decide_eq_true_eq];exact List.le_total _ _) xs
 exact this.imp fun h=>by simpa [a3w]using h
theorem a9g(l:List d3):Lib.compact (l.mergeSort a3w)=a6g l:=by
 obtain⟨h1,h2⟩:=c4A _ (c5b l);exact e1e h1 (b6T l) fun x=>by rw[h2,List.mem_mergeSort,b0o]
end
section
variable{N:Nat}
theorem b0r:∀(a l:List d3),a.Nodup->(∀x∈a,x∈l)->a.length<=l.length
 |[],l,_,_=>Nat.zero_le _
 |x :: a,l,h,hs=>by
  have hx:=hs x (List.mem_cons_self ..);rw[List.nodup_cons]at h;have:=b0r a (l.erase x) h.2 fun y hy=>by
   have hne:y≠x:=fun e=>h.1 (e▸hy)
   exact(List.mem_erase_of_ne hne).2 (hs y (List.mem_cons_of_mem _ hy))
  rw[List.length_erase_of_mem hx]at this;have hp:0<l.length:=List.length_pos_of_mem hx;simp only[List.length_cons];omega
theorem b6n:∀(l:List d3),¬l.Nodup->∃x,x∈l.erase x/\x∈l
 |[],h=>absurd List.nodup_nil h
 |b :: l,h=>by
  by_cases hb:b∈l
  ·exact⟨b,by simpa using hb,by simp⟩
  ·have hl:¬l.Nodup:=fun h2=>h (List.nodup_cons.2 ⟨hb,h2⟩)
   obtain⟨x,h1,h2⟩:=b6n l hl;refine⟨x,?_,List.mem_cons_of_mem _ h2⟩;rw[List.erase_cons];split
   ·exact h2
   ·exact List.mem_cons_of_mem _ h1
theorem c9F(l:List d3):decide (((a6g l).length:Int)<(l.length:Int)) = !decide l.Nodup:=by
 have hnd:(a6g l).Nodup:=(b6T l).imp fun{x y} h e=>by subst e;exact Q8 _ h
 by_cases h:l.Nodup
 ·have:=b0r l (a6g l) h fun x hx=>(b0o l x).2 hx
  rw[decide_eq_true h,decide_eq_false (by omega)];rfl
 ·obtain⟨x,h1,h2⟩:=b6n l h;have:=b0r (a6g l) (l.erase x) hnd fun y hy=>by
   have hy:=(b0o l y).1 hy;by_cases e:y=x
   ·rw[e];exact h1
   ·exact(List.mem_erase_of_ne e).2 hy
  rw[List.length_erase_of_mem h2]at this;have hp:0<l.length:=List.length_pos_of_mem h2;rw[decide_eq_false h,decide_eq_true (by omega)];rfl
theorem a1S(l:List d3)(h:l.length<=1000000):a0L N l=some (!decide l.Nodup):=by
 unfold a0L Q2 a0u a0b W7;rw[c8,if_pos (by omega)];simp only[c8];unfold w6;rw[if_pos (by omega)];simp only[c8];rw[a8y _ (by rw[List.length_mergeSort];exact h)];unfold q8;simp only[c8,a9g,List.length_mergeSort,c9F]
theorem c4O(hN:z7<=N)(G:GStmt)(h:G.args.length<=50000):H8 N G=some (G.args.map (·.1)):=by
 unfold H8;have go:∀(m f j:Nat),j+m=G.args.length->m<f->b4D N G.args (G.args.length:Int) (fun o=>some o) f (j:Int) ((G.args.take j).map (·.1))=some (G.args.map (·.1)):=by
  intro m;induction m with
  |zero=>
   intro f j hj hf;obtain⟨f,rfl⟩:∃q,f=q+1:=⟨f-1,by omega⟩;obtain rfl:j=G.args.length:=by omega
   show a2j _ _ _ _ _ _ _=_;unfold a2j;rw[Q5,g9,List.take_length]
  |succ m ih=>
   intro f j hj hf;obtain⟨f,rfl⟩:∃q,f=q+1:=⟨f-1,by omega⟩;have hl:j<G.args.length:=by omega
   show a2j _ _ _ _ _ _ _=_;unfold a2j;rw[L4 hl,d9,m7 _ hl,c8,f5L (by simp;omega),d9,a0C (m:=j+1) (by omega) (by omega)];rw[show(G.args.take j).map (·.1) ++ [G.args[j].1]=(G.args.take (j+1)).map (·.1) by rw[List.take_succ_eq_append_getElem hl,List.map_append];rfl];exact ih f (j+1) (by omega) (by omega)
 have:=go G.args.length N 0 (by omega) (by unfold z7 at hN;omega);simpa using this
theorem b0d(hN:z7<=N)(l:List d3)(h:l.length<=50000)(hl:∀q∈l,q.length<=50000):u7 N l ()=some (l.any fun q=>!B7 q):=by
 unfold u7 G5;have hx:l.length<=maxLen:=by unfold maxLen;omega
 have:d9F N l (l.length:Int) (some (-1)) N 0=some (a9u (fun q=>!B7 q) l):=by
  refine A8 (fun _ _=>rfl) l hx (fun self i h r hr=>?_) (fun self=>?_) hN
  ·have hi:=hl _ (List.getElem_mem h);unfold b8t C8;simp only[m7 l h,u5 hx h,hr,c8,G4 hN _ (show l[i].length<=maxLen by unfold maxLen;omega)];rw[I1 h,d9,B9]
  ·simp[b8t]
 rw[this,c8,a0p]
theorem b0e(hN:z7<=N)(l:List d3)(h:l.length<=50000)(hl:∀q∈l,q.length<=50000):v8 N l ()=some (l.any fun q=>!q.all y0):=by
 unfold v8 F6;have hx:l.length<=maxLen:=by unfold maxLen;omega
 have:d8G N l (l.length:Int) (some (-1)) N 0=some (a9u (fun q=>!q.all y0) l):=by
  refine A8 (fun _ _=>rfl) l hx (fun self i h r hr=>?_) (fun self=>?_) hN
  ·have hi:=hl _ (List.getElem_mem h);unfold b8h O6;simp only[m7 l h,u5 hx h,hr,c8,Q9 hN _ (show l[i].length<=maxLen by unfold maxLen;omega)];rw[I1 h,d9,B9]
  ·simp[b8h]
 rw[this,c8,a0p]
theorem c0S{R:Type}(v k:R)(l:List d3):∀(xs:List d3) (j:Nat),l.drop j=xs->N0 (fun i x r=>if(l.take i).any (x == ·)=true then v else r) k xs j=if(∀i (h:i<l.length),j<=i->l[i]∉l.take i)then k else v
 |[],j,h=>by
  have hj:l.length<=j:=by simpa using h
  rw[if_pos fun i h1 h2=>absurd h1 (by omega)];rfl
 |x :: xs,j,h=>by
  have hj:j<l.length:=by
   apply Classical.byContradiction;intro hn;rw[List.drop_eq_nil_of_le (by omega)]at h;cases h
  rw[List.drop_eq_getElem_cons hj]at h;obtain⟨rfl,h2⟩:=List.cons.inj h;show(if(l.take j).any (l[j] == ·)=true then v else N0 _ k xs (j+1))=_;rw[c0S v k l xs (j+1) h2];by_cases hm:l[j]∈l.take j
  ·rw[if_pos (by rw[List.any_eq_true];exact⟨_,hm,by simp⟩),if_neg fun h=>h j hj (Nat.le_refl _) hm]
  ·rw[if_neg (by rw[List.any_eq_true];rintro⟨y,hy,e⟩;rw[beq_iff_eq]at e;exact hm (e▸hy))];have:(∀i (h:i<l.length),j+1<=i->l[i]∉l.take i)↔(∀i (h:i<l.length),j<=i->l[i]∉l.take i):=by
    refine⟨fun hh i h1 h2=>?_,fun hh i h1 h2=>hh i h1 (by omega)⟩;by_cases e:i=j
    ·subst e;exact hm
    ·exact hh i h1 (by omega)
   simp only[this]
theorem c4S(l:List d3):(∀i (h:i<l.length),0<=i->l[i]∉l.take i)↔l.Nodup:=by
 rw[List.nodup_iff_pairwise_ne,List.pairwise_iff_getElem];refine⟨fun h i j hi hj hij e=>h j hj (by omega) ?_,fun h i hi _ hm=>?_⟩
 ·rw[<-e];exact List.mem_take_iff_getElem.2 ⟨i,by omega,rfl⟩
 ·obtain⟨j,hj,e⟩:=List.mem_take_iff_getElem.1 hm;exact h j i (by omega) hi (by omega) e
theorem b8M{R:Type}(v k:R)(l:List d3):N0 (fun i x r=>if(l.take i).any (x == ·)=true then v else r) k l 0=if l.Nodup then k else v:=by
 rw[c0S v k l l 0 rfl];simp only[c4S]
end
section
variable{N:Nat}
section
variable(k n:Int)(t:d3)(ks:List d3)(gs:List GExpr)
theorem F4:(GExpr.mk k t n ks gs).kind=k:=rfl
theorem Q1:(GExpr.mk k t n ks gs).text=t:=rfl
theorem G3:(GExpr.mk k t n ks gs).number=n:=rfl
theorem O3:(GExpr.mk k t n ks gs).keys=ks:=rfl
theorem C6:(GExpr.mk k t n ks gs).kids=gs:=rfl
end
def brk(k q i:Int):Bool:=(k==7&&(q==8||(q==7&&i==1)))||(k==8&&q==8)
theorem e5V{k n:Int}{t:d3}{ks:List d3}{es:List GExpr}{j:Nat}(h:j<es.length):O7 N (GExpr.mk k t n ks es) (j:Int)=some (brk k es[j].kind (j:Int))/\W5 N (GExpr.mk k t n ks es) (j:Int)=some (brk k es[j].kind (j:Int)):=by
 unfold O7 W5 brk;simp only[F4,C6,m7 _ h,c8];generalize (es[j].kind==8)=b1;generalize (es[j].kind==7)=b2;generalize ((j:Int)==1)=b3;generalize (k==7)=b4;generalize (k==8)=b5;cases b1<;>cases b2<;>cases b3<;>cases b4<;>cases b5<;>simp
abbrev Ck:Type:=GExpr->Int->Option Int
theorem b6s{S R:Ck}{k n x:Int}{t:d3}{ks:List d3}{es:List GExpr}(hl:es.length<=50000)(hx:0<=x)(hx2:x<30)(hc:∀c∈es,∀y,0<=y->∃v,S c y=some v/\R c y=some v):∀(u f1 f2 j:Nat),j+u=es.length->u<f1->u<f2->
  ∃v,a8w N S x es (es.length:Int) k t n ks es (some 0) f1 (j:Int)=some v/\a3L N R (if k=7 then x else x+1) es (es.length:Int) k t n ks es (some 0) f2 (j:Int)=some v
 |0,f1,f2,j,hj,h1,h2=>by
  obtain⟨f1,rfl⟩:∃q,f1=q+1:=⟨f1-1,by omega⟩;obtain⟨f2,rfl⟩:∃q,f2=q+1:=⟨f2-1,by omega⟩;obtain rfl:j=es.length:=by omega
  refine⟨0,?_,?_⟩
  ·show a5V _ _ _ _ _ _ _ _ _ _ _ _ _=_;unfold a5V;rw[Q5,g9]
  ·show a4g _ _ _ _ _ _ _ _ _ _ _ _ _=_;unfold a4g;rw[Q5,g9]
 |u+1,f1,f2,j,hj,h1,h2=>by
  obtain⟨f1,rfl⟩:∃q,f1=q+1:=⟨f1-1,by omega⟩;obtain⟨f2,rfl⟩:∃q,f2=q+1:=⟨f2-1,by omega⟩;have h:j<es.length:=by omega
  obtain⟨v,ih1,ih2⟩:=b6s (n:=n) (t:=t) (ks:=ks) (k:=k) hl hx hx2 hc u f1 f2 (j+1) (by omega) (by omega) (by omega);obtain⟨e1,e2⟩:=e5V (N:=N) (k:=k) (n:=n) (t:=t) (ks:=ks) h;have hw:∀y:Int,0<=y->y<40->IntKind.i64.wrap (y+1)=y+1:=fun y h0 h1=>M8 (by omega) (by omega)
  have eS:a8w N S x es (es.length:Int) k t n ks es (some 0) (f1+1) (j:Int)=a5V N S x es (es.length:Int) k t n ks es (some 0) (a8w N S x es (es.length:Int) k t n ks es (some 0) f1) (j:Int):=rfl;have eR:a3L N R (if k=7 then x else x+1) es (es.length:Int) k t n ks es (some 0) (f2+1) (j:Int)=a4g N R (if k=7 then x else x+1) es (es.length:Int) k t n ks es (some 0) (a3L N R (if k=7 then x else x+1) es (es.length:Int) k t n ks es (some 0) f2) (j:Int):=rfl;rw[eS,eR];unfold a5V a4g;rw[L4 h,d9,d9,m7 _ h];simp only[c8,e1,e2,GExpr.eta,a0C (n:=(j:Int)+1) (m:=j+1) (by omega) (by omega),ih1,ih2,hw x hx (by omega),hw (x+1) (by omega) (by omega)];have fin:∀y,0<=y->∃v',(k8 (S es[j] y) fun t37=>br (t37 !=0) (some t37) (some v))=some v'/\(k8 (R es[j] y) fun t71=>br (t71 !=0) (some t71) (some v))=some v':=fun y hy=>by
   obtain⟨q,q1,q2⟩:=hc _ (List.getElem_mem h) y hy;rw[q1,q2,c8];cases (q !=0)
   ·exact⟨v,g9 ..,g9 ..⟩
   ·exact⟨q,d9 ..,d9 ..⟩
  by_cases h7:k=7
  ·rw[if_pos h7,show(k !=7)=false by simpa using h7,g9,hw x hx (by omega)];cases brk k es[j].kind (j:Int)with
   |true=>simp only[d9];exact fin _ (by omega)
   |false=>simp only[g9];exact fin _ (by omega)
  ·rw[if_neg h7,show(k !=7)=true by simpa using h7,d9,hw (x+1) (by omega) (by omega)];cases brk k es[j].kind (j:Int)with
   |true=>simp only[d9];exact fin _ (by omega)
   |false=>simp only[g9];exact fin _ (by omega)
theorem c1d(hN:z7<=N){S R:Ck}{k n x:Int}{t:d3}{ks:List d3}{es:List GExpr}(hl:es.length<=50000)(hx:0<=x)(hx2:x<30)(hc:∀c∈es,∀y,0<=y->∃v,S c y=some v/\R c y=some v):
  ∃v,a8w N S x es (es.length:Int) k t n ks es (some 0) N 0=some v/\a3L N R (if k=7 then x else x+1) es (es.length:Int) k t n ks es (some 0) N 0=some v:=
 b6s hl hx hx2 hc es.length N N 0 (by omega) (by unfold z7 at hN;omega) (by unfold z7 at hN;omega)
theorem d3M(hN:z7<=N)(l:List d3)(hl:l.length<=50000)(hls:∀q∈l,q.length<=50000)(k:Bool):a8Z N l (l.length:Int) (some k) N 0=some (l.all (fun q=>q.all y0)&&k):=by
 have hx:l.length<=maxLen:=by unfold maxLen;omega
 rw[<-a11 (fun q=>q.all y0) k l 0];refine A8 (fun _ _=>rfl) l hx (fun self i h r hr=>?_) (fun self=>?_) hN
 ·have hi:=hls _ (List.getElem_mem h);unfold b2w;simp only[m7 l h,u5 hx h,hr,c8,U1 hN _ (show l[i].length<=maxLen by unfold maxLen;omega)];rw[I1 h,d9,B9]
 ·simp[b2w]
theorem d3L(hN:z7<=N){R:Ck}(l:List d3)(hl:l.length<=50000)(k:Int):a8V N R l (l.length:Int) l (some k) N 0=some (if l.Nodup then k else 7):=by
 have hx:l.length<=maxLen:=by unfold maxLen;omega
 rw[<-b8M 7 k l];refine A8 (fun _ _=>rfl) l hx (fun self i h r hr=>?_) (fun self=>?_) hN
 ·unfold b2o;simp only[m7 l h,u5 hx h,hr,c8,a6V l (Nat.le_of_lt h),Y3 hN (l.take i) (by rw[List.length_take];omega)];rw[I1 h,d9,B9]
 ·simp[b2o]
theorem a8z(hN:z7<=N){x:Int}{R:Ck}{t:d3}(ht:t.length<=50000)(n:Int):
  (∃v,n4 N (.mk 1 t 0 [] []) x=some v/\s5 N R (.mk 1 t 0 [] []) x=some v)/\
  (∃v,n4 N (.mk 2 [] n [] []) x=some v/\s5 N R (.mk 2 [] n [] []) x=some v)/\
  (B7 t=true->∃v,n4 N (.mk 3 t 0 [] []) x=some v/\s5 N R (.mk 3 t 0 [] []) x=some v):=by
 have h1:=Q9 hN t (show t.length<=maxLen by unfold maxLen;omega);have h2:=U1 hN t (show t.length<=maxLen by unfold maxLen;omega);have h3:=Q9 hN [] (show([]:d3).length<=maxLen by simp);have h4:=U1 hN [] (show([]:d3).length<=maxLen by simp);have n1:=G4 hN t (show t.length<=maxLen by unfold maxLen;omega);have n2:=a1Y hN t (show t.length<=maxLen by unfold maxLen;omega);have k1:=b0e hN [] (by simp) (by simp);have k2:∀k,a8Z N [] 0 (some k) N 0=some k:=fun k=>d3M hN [] (by simp) (by simp) k
 have k3:∀k,a8V N R [] 0 [] (some k) N 0=some k:=fun k=>by simpa using d3L hN (R:=R) [] (by simp) k
 have k4:∀y k t n ks,a3L N R y [] 0 k t n ks [] (some 0) N 0=some 0:=fun y k t n ks=>by
  obtain⟨f,rfl,_⟩:=c0z hN;show a4g _ _ _ _ _ _ _ _ _ _ _ _ _=_;simp[a4g]
 have k5:=a1S (N:=N) [] (by simp);refine⟨?_,?_,fun hn=>?_⟩
 ·unfold n4 o8 s5 X6;simp only[F4,Q1,G3,O3,C6];by_cases hx:x>=30
  ·simp[decide_eq_true hx]
  ·simp[decide_eq_false hx,h1,h2,k1,k2,k3,k4,k5];cases t.all y0<;>cases t<;>simp[k2,k3,k4,S1]
 ·unfold n4 o8 s5 X6;simp only[F4,Q1,G3,O3,C6];by_cases hx:x>=30
  ·simp[decide_eq_true hx]
  ·simp[decide_eq_false hx,h3,h4,k1,k2,k3,k4,k5,S1];by_cases n0:n=0
   ·subst n0;simp[k2,k3,k4]
   ·have nn:(n !=0)=true:=by simpa using n0
    by_cases n9:0<=n/\n<=999999999
    ·have e1:¬n<0:=by omega
     have e2:¬999999999<n:=by omega
     simp[nn,n9.1,n9.2,e1,e2,k2,k3,k4]
    ·by_cases e1:n<0
     ·have e3:¬0<=n:=by omega
      simp[nn,e1,e3,k2,k3,k4]
     ·have e2:999999999<n:=by omega
      have e3:¬n<=999999999:=by omega
      simp[nn,e1,e2,e3,k2,k3,k4]
 ·unfold n4 o8 s5 X6;simp only[F4,Q1,G3,O3,C6];by_cases hx:x>=30
  ·simp[decide_eq_true hx]
  ·simp[decide_eq_false hx,h1,h2,n1,n2,hn,k1,k2,k3,k4,k5,S1];cases t.all y0<;>cases t<;>simp[k2,k3,k4,S1]
theorem c4m(hN:z7<=N){x:Int}{R:Ck}{k:Int}(hk:k=4\/k=5\/k=7\/k=8)(es:List GExpr)(h2:k≠4->es.length=2){v:Int}
  (hv:a3L N R (if k=7 then x else x+1) es (es.length:Int) k [] 0 [] es (some 0) N 0=some v) (h0:0<=x):
  n4 N (.mk k [] 0 [] es) x=some (if x>=30 then 2 else 0)/\s5 N R (.mk k [] 0 [] es) x=some (if x>=30 then 2 else v):=by
 have h3:=Q9 hN [] (show([]:d3).length<=maxLen by simp);have h4:=U1 hN [] (show([]:d3).length<=maxLen by simp);have k1:=b0e hN [] (by simp) (by simp);have k2:∀k,a8Z N [] 0 (some k) N 0=some k:=fun k=>d3M hN [] (by simp) (by simp) k
 have k3:∀k,a8V N R [] 0 [] (some k) N 0=some k:=fun k=>by simpa using d3L hN (R:=R) [] (by simp) k
 have k5:=a1S (N:=N) [] (by simp);unfold n4 o8 s5 X6;simp only[F4,Q1,G3,O3,C6];by_cases hx:x>=30
 ·rcases hk with rfl|rfl|rfl|rfl<;>simp[decide_eq_true hx,hx]
 ·have hw:IntKind.i64.wrap (x+1)=x+1:=M8 (by omega) (by omega);rcases hk with rfl|rfl|rfl|rfl
  ·simp at hv;simp[decide_eq_false hx,hx,h3,h4,k1,k2,k3,k5,S1,hw,hv]
  ·have:=h2 (by decide);simp[this]at hv;simp[decide_eq_false hx,hx,h3,h4,k1,k2,k3,k5,S1,hw,hv,this]
  ·have:=h2 (by decide);simp[this]at hv;simp[decide_eq_false hx,hx,h3,h4,k1,k2,k3,k5,S1,hw,hv,this]
  ·have:=h2 (by decide);simp[this]at hv;simp[decide_eq_false hx,hx,h3,h4,k1,k2,k3,k5,S1,hw,hv,this]
theorem c4l(hN:z7<=N){x:Int}{R:Ck}(ks:List d3)(es:List GExpr)(hl:ks.length=es.length)(hp:0<es.length)(he:es.length<=50000)(hks:∀q∈ks,q.length<=50000){v:Int}
  (hv:a3L N R (x+1) es (es.length:Int) 6 [] 0 ks es (some 0) N 0=some v) (h0:0<=x):
  let al:Int:=if x>=30 then 2 else if(ks.all fun q=>q.all y0)=true then(if ks.Nodup then 0 else 7)else 3
  n4 N (.mk 6 [] 0 ks es) x=some al/\s5 N R (.mk 6 [] 0 ks es) x=some (if al=0 then v else al):=by
 intro al;have h3:=Q9 hN [] (show([]:d3).length<=maxLen by simp);have h4:=U1 hN [] (show([]:d3).length<=maxLen by simp);have k1:=b0e hN ks (by omega) hks;have k2:∀k,a8Z N ks (ks.length:Int) (some k) N 0=some (ks.all (fun q=>q.all y0)&&k):=fun k=>d3M hN ks (by omega) hks k
 have k3:∀k,a8V N R ks (ks.length:Int) ks (some k) N 0=some (if ks.Nodup then k else 7):=fun k=>d3L hN (R:=R) ks (by omega) k
 have k5:=a1S (N:=N) ks (by omega);have e1:((es.length:Int) !=(es.length:Int))=false:=bne_self_eq_false _;have e2:((es.length:Int)==0)=false:=by rw[beq_eq_false_iff_ne];omega
 have e3:decide ((es.length:Int)>0)=true:=decide_eq_true (by omega);have e4:((es.length:Int)==(es.length:Int))=true:=beq_self_eq_true _;have any_all:(ks.any fun q=>!q.all y0) = !(ks.all fun q=>q.all y0):=by
  rw[List.all_eq_not_any_not];simp
 unfold n4 o8 s5 X6;simp only[F4,Q1,G3,O3,C6];by_cases hx:x>=30
 ·have hal:al=2:=if_pos hx;rw[hal];simp[decide_eq_true hx]
 ·have hw:IntKind.i64.wrap (x+1)=x+1:=M8 (by omega) (by omega);have hal:al=if(ks.all fun q=>q.all y0)=true then(if ks.Nodup then 0 else 7)else 3:=if_neg hx
  rw[hal];rw[hl]at k2 k3;simp only[decide_eq_false hx,g9,hl,h3,h4,k1,any_all,k2,k5,S1,hw,hv,k3,c8,e1,e2,e3,e4,show((6:Int)==1)=false by decide,show((6:Int)==2)=false by decide,show((6:Int)==3)=false by decide,show((6:Int)==4)=false by decide,show((6:Int)==5)=false by decide,show((6:Int)==6)=true by decide,show((6:Int)==7)=false by decide,show((6:Int)==8)=false by decide,show((6:Int) !=1)=true by decide,show((6:Int) !=2)=true by decide,show((6:Int) !=3)=true by decide,show((6:Int) !=6)=false by decide,show((0:Int) !=0)=false by decide,show decide ((6:Int)<1)=false by decide,show decide ((6:Int)>8)=false by decide,d9,List.all_nil,Bool.not_true,Bool.not_false,show(([]:d3)==[])=true by decide];cases (ks.all fun q=>q.all y0)with
  |false=>simp
  |true=>
   by_cases hd:ks.Nodup<;>simp[hd]
theorem c8T{x:Int}{R:Ck}{k:Int}(hk:k=4\/k=5\/k=7\/k=8)(es:List GExpr)(hx:x>=30):n4 N (.mk k [] 0 [] es) x=some 2/\s5 N R (.mk k [] 0 [] es) x=some 2:=by
 unfold n4 o8 s5;simp only[F4];rcases hk with rfl|rfl|rfl|rfl<;>simp[decide_eq_true hx]
theorem c4k{x:Int}{R:Ck}(ks:List d3)(es:List GExpr)(hx:x>=30):n4 N (.mk 6 [] 0 ks es) x=some 2/\s5 N R (.mk 6 [] 0 ks es) x=some 2:=by
 unfold n4 o8 s5;simp only[F4];simp[decide_eq_true hx]
theorem d3N(hN:z7<=N){S:Ck}{x k n:Int}{t:d3}{ks:List d3}:a8w N S x [] ((([]:List GExpr).length:Nat):Int) k t n ks [] (some 0) N 0=some 0:=by
 obtain⟨f,rfl,_⟩:=c0z hN;show a5V _ _ _ _ _ _ _ _ _ _ _ _ _=_;simp[a5V]
theorem b3u{S:Ck}{e:GExpr}{x al v:Int}(h:n4 N e x=some al)(hv:al=0->a8w N S x e.kids (e.kids.length:Int) e.kind e.text e.number e.keys e.kids (some 0) N 0=some v):D7 N S e x=some (if al=0 then v else al):=by
 unfold D7;rw[GExpr.eta,h,c8];by_cases ha:al=0
 ·rw[if_pos ha,hv ha,ha];simp
 ·rw[if_neg ha,show(al !=0)=true by simpa using ha,d9]
theorem a8D(hN:z7<=N):∀(k:Nat) (e:GExpr),EOk k e->∀(n:Nat),k<=n->∀x:Int,0<=x->∃v,A7 N n e x=some v/\A9 N n e x=some v
 |0,e,h,_,_,_,_=>h.elim
 |k+1,e,h,n,hn,x,hx=>by
  obtain⟨n,rfl⟩:∃q,n=q+1:=⟨n-1,by omega⟩;have kd:∀es:List GExpr,(∀c∈es,EOk k c)->∀c∈es,∀y:Int,0<=y->∃v,A7 N n c y=some v/\A9 N n c y=some v:=fun es hes c hc y hy=>a8D hN k c (hes c hc) n (by omega) y hy
  show ∃v,D7 N (A7 N n) e x=some v/\s5 N (A9 N n) e x=some v;have leaf:(∃v,n4 N e x=some v/\s5 N (A9 N n) e x=some v)->e.kids=[]->∃v,D7 N (A7 N n) e x=some v/\s5 N (A9 N n) e x=some v:=fun⟨v,h1,h2⟩ h3=>by
   refine⟨v,?_,h2⟩;rw[b3u (v:=0) h1 (fun _=>by rw[h3];exact d3N hN)];by_cases hv:v=0
   ·rw[if_pos hv,hv]
   ·rw[if_neg hv]
  have node:∀(q:Int) (es:List GExpr),(q=4\/q=5\/q=7\/q=8)->(q≠4->es.length=2)->es.length<=50000->e = .mk q [] 0 [] es->(∀c∈es,EOk k c)->∃v,D7 N (A7 N n) e x=some v/\s5 N (A9 N n) e x=some v:=fun q es hq h2 hl he hc=>by
   subst he;by_cases hx30:x>=30
   ·obtain⟨v1,v2⟩:=c8T (N:=N) (R:=A9 N n) hq es hx30;rw[b3u (v:=0) v1 (fun h=>absurd h (by decide)),v2];exact⟨2,rfl,rfl⟩
   ·obtain⟨v,s1,r1⟩:=c1d hN (k:=q) (n:=0) (t:=[]) (ks:=[]) hl hx (by omega) (kd es hc);obtain⟨v1,v2⟩:=c4m hN hq es h2 r1 hx;rw[if_neg hx30]at v1 v2;exact⟨v,by rw[b3u v1 (fun _=>s1)];simp,v2⟩
  have two:∀a b:GExpr,EOk k a->EOk k b->∀c ∈ [a,b],EOk k c:=fun a b ha hb c hc=>by
   rcases List.mem_cons.1 hc with rfl|hc
   ·exact ha
   ·rw[List.mem_singleton.1 hc];exact hb
  rcases h with⟨t,h1,rfl⟩|⟨m,rfl⟩|⟨t,h1,h2,rfl⟩|⟨es,h1,h2,h3⟩|⟨a,b,h1,h2,h3⟩|⟨ks,es,h0,hp,h1,h4,rfl,h3⟩|⟨a,b,h1,h2,h3⟩|⟨a,b,h1,h2,h3⟩
  ·exact leaf (a8z hN h1 0).1 rfl
  ·exact leaf (a8z hN (t:=[]) (by simp) m).2.1 rfl
  ·exact leaf ((a8z hN h1 0).2.2 h2) rfl
  ·exact node 4 es (.inl rfl) (fun h=>absurd rfl h) h1 h2 h3
  ·exact node 5 [a,b] (.inr (.inl rfl)) (fun _=>rfl) (by simp) h1 (two a b h2 h3)
  ·by_cases hx30:x>=30
   ·obtain⟨v1,v2⟩:=c4k (N:=N) (R:=A9 N n) ks es hx30;rw[b3u (v:=0) v1 (fun h=>absurd h (by decide)),v2];exact⟨2,rfl,rfl⟩
   ·obtain⟨v,s1,r1⟩:=c1d hN (k:=6) (n:=0) (t:=[]) (ks:=ks) h1 hx (by omega) (kd es h3);obtain⟨v1,v2⟩:=c4l hN ks es h0 hp h1 h4 (by simpa using r1) hx;exact⟨_,b3u v1 (fun _=>s1),v2⟩
  ·exact node 7 [a,b] (.inr (.inr (.inl rfl))) (fun _=>rfl) (by simp) h1 (two a b h2 h3)
  ·exact node 8 [a,b] (.inr (.inr (.inr rfl))) (fun _=>rfl) (by simp) h1 (two a b h2 h3)
end
end Go.Proofs.YtckdohagilcloaaGreatDoor
