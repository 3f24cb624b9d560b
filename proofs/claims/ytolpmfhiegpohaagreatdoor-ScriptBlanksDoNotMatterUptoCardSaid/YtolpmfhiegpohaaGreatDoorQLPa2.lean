/- Texts into tokens, in the program and in its reference (law 47), in plain Lean. -/
import Derived.Test.YtolpmfhiegpohaaGreatDoorQEndU
import Derived.Test.YtolpmfhiegpohaaGreatDoorQSrt
import Derived.Test.YtolpmfhiegpohaaGreatDoorQBmSw
namespace Go.Proofs.YtolpmfhiegpohaaGreatDoor
set_option linter.unusedVariables false
set_option linter.unusedSimpArgs false
open Go Go.RowKit
section
theorem O4{n:Int}{m:Nat}(h:n=(m:Int))(hm:m<=1000000):IntKind.i64.wrap n=(m:Int):=by
 rw[h,D8 (by omega) (by omega)]
theorem U3{a b:UInt8}(h:a≠b):(a==b)=false:=by
 rw[d9A]
 exact decide_eq_false fun e=>h (UInt8.toNat_inj.1 e)
theorem a2y{α:Type}(xs:List α){i j:Nat}(h1:i<=j)(h2:j<=xs.length):slc xs (i:Int) (j:Int)=some ((xs.take j).drop i):=by
 unfold slc
 rw[if_pos ⟨by omega,by omega,by omega⟩]
 rfl
theorem b85{α:Type}(xs:List α){i:Nat}(h1:i<=xs.length):slc xs (i:Int) (xs.length:Int)=some (xs.drop i):=by
 rw[a2y xs h1 (Nat.le_refl _),List.take_length]
theorem b3T(b c:UInt8)(s:c8):Lib.indexByte (b :: s) c=if b=c then 0 else if Lib.indexByte s c = -1 then -1 else Lib.indexByte s c+1:=by
 rw[Lib.indexByte]
 by_cases h:b=c<;>simp[h]
theorem c9x(c:UInt8):∀l:c8,Lib.indexByte l c<(l.length:Int)
 |[]=>by simp[Lib.indexByte]
 |b :: l=>by
  have:=c9x c l
  rw[b3T]
  split
  ·simp
  ·split
   ·simp;omega
   ·simp;omega
theorem c6L(c:UInt8):decide (Lib.indexByte [32,9,10,13] c>=0)=((c==32)||((c==9)||((c==10)||(c==13)))):=by
 simp only[b3T,Lib.indexByte]
 by_cases h1:c=32
 ·subst h1;decide
 by_cases h2:c=9
 ·subst h2;decide
 by_cases h3:c=10
 ·subst h3;decide
 by_cases h4:c=13
 ·subst h4;decide
 simp[h1,h2,h3,h4,Ne.symm h1,Ne.symm h2,Ne.symm h3,Ne.symm h4]
abbrev A4:Type:=Int×c8×Int×Int
def a2h(t:A4):Prop:=0<=t.2.2.2/\t.2.1.length<=50000
theorem a5R{N:Nat}(s:c8)(hs:s.length<=50000)(w:List A4):∀(d i n m:Nat),i+d=s.length->d<n->d<m->
  ∃j:Nat,i<=j/\j<=s.length/\b5g N s w (fun o=>some (s,(o,w))) n (i:Int)=some (s,((j:Int),w))/\e5V N s (fun o=>some o) m (i:Int)=some (j:Int):=by
 intro d
 induction d using Nat.strongRecOn with
 |_ d ih=>
  intro i n m hd hn hm
  obtain⟨n,rfl⟩:∃q,n=q+1:=⟨n-1,by omega⟩
  obtain⟨m,rfl⟩:∃q,m=q+1:=⟨m-1,by omega⟩
  show ∃j:Nat,_/\_/\a8E N s w _ (b5g N s w _ n) (i:Int)=_/\e58 N s _ (e5V N s _ m) (i:Int)=_
  unfold a8E e58
  by_cases hi:i<s.length
  ·rw[P9 hi,d4,d4,o9 s hi]
   simp only[b9]
   have next:∃j:Nat,i<=j/\j<=s.length/\b5g N s w (fun o=>some (s,(o,w))) n (IntKind.i64.wrap ((i:Int)+1))=some (s,((j:Int),w))/\e5V N s (fun o=>some o) m (IntKind.i64.wrap ((i:Int)+1))=some (j:Int):=by
    rw[O4 (m:=i+1) (by omega) (by omega)]
    obtain⟨j,h1,h2,h3,h4⟩:=ih (d-1) (by omega) (i+1) n m (by omega) (by omega) (by omega)
    exact⟨j,by omega,h2,h3,h4⟩
   unfold strings_IndexByte
   simp only[b9,c6L]
   by_cases h32:s[i]=32
   ·simpa [h32]using next
   by_cases h9:s[i]=9
   ·simpa [h9]using next
   by_cases h10:s[i]=10
   ·simpa [h10]using next
   by_cases h13:s[i]=13
   ·simpa [h13]using next
   by_cases h35:s[i]=35
   ·simp only[h35,b85 s (Nat.le_of_lt hi),b9]
    have e:Lib.indexByte (s.drop i) 10=Lib.indexByte (s.drop i) 10:=rfl
    have hlt:=c9x 10 (s.drop i)
    rw[List.length_drop]at hlt
    by_cases hneg:Lib.indexByte (s.drop i) 10<0
    ·refine⟨s.length,by omega,Nat.le_refl _,?_,?_⟩
     ·simp only[show((35:UInt8)==32)=false by decide,show((35:UInt8)==9)=false by decide,show((35:UInt8)==10)=false by decide,show((35:UInt8)==13)=false by decide,show((35:UInt8)==35)=true by decide,d4,d6]
      rw[decide_eq_true hneg,d4,O4 (n:=(s.length:Int)-(i:Int)) (m:=s.length-i) (by omega) (by omega),O4 (m:=s.length) (by omega) (by omega)]
      obtain⟨n,rfl⟩:∃q,n=q+1:=⟨n-1,by omega⟩
      show a8E N s w _ _ _=_
      unfold a8E
      rw[a0Y,d6]
     ·simp only[show((35:UInt8)==35)=true by decide,d4]
      rw[decide_eq_true hneg,d4]
    ·have hpos:Lib.indexByte (s.drop i) 10≠0:=by
      rw[List.drop_eq_getElem_cons hi,b3T,if_neg h10]
      split
      ·omega
      ·have:=Lib.indexByte_ge (s.drop (i+1)) 10;omega
     obtain⟨q,hq⟩:∃q:Nat,Lib.indexByte (s.drop i) 10=(q:Int):=⟨(Lib.indexByte (s.drop i) 10).toNat,by omega⟩
     obtain⟨j,h1,h2,h3,h4⟩:=ih (d-q) (by omega) (i+q) n m (by omega) (by omega) (by omega)
     refine⟨j,by omega,h2,?_,?_⟩
     ·simp only[show((35:UInt8)==32)=false by decide,show((35:UInt8)==9)=false by decide,show((35:UInt8)==10)=false by decide,show((35:UInt8)==13)=false by decide,show((35:UInt8)==35)=true by decide,d4,d6]
      rw[decide_eq_false hneg,d6,hq,O4 (m:=i+q) (by omega) (by omega),h3]
     ·simp only[show((35:UInt8)==35)=true by decide,d4]
      rw[decide_eq_false hneg,d6,hq,O4 (m:=i+q) (by omega) (by omega),h4]
   ·refine⟨i,Nat.le_refl _,by omega,?_,?_⟩
    ·simp only[U3 h32,U3 h9,U3 h10,U3 h13,U3 h35,d6]
    ·simp only[U3 h32,U3 h9,U3 h10,U3 h13,U3 h35,d6,Bool.or_false]
  ·obtain rfl:i=s.length:=by omega
   rw[a0Y,d6,d6]
   exact⟨s.length,Nat.le_refl _,Nat.le_refl _,rfl,rfl⟩
theorem b28{R:Type}(p:UInt8->Bool)(s:c8)(hs:s.length<=50000){k:Int->Option R}{f:Nat->Int->Option R}
  (hstep:∀n (i:Nat) (hi:i<s.length),f (n+1) (i:Int)=if p s[i]=true then f n (IntKind.i64.wrap ((i:Int)+1))else k (i:Int)) (hend:∀n,f (n+1) (s.length:Int)=k (s.length:Int)):
  ∀(d i n:Nat),i+d=s.length->d<n->f n (i:Int)=k ((i+((s.drop i).takeWhile p).length:Nat):Int):=by
 intro d
 induction d with
 |zero=>
  intro i n hd hn
  obtain⟨n,rfl⟩:∃q,n=q+1:=⟨n-1,by omega⟩
  obtain rfl:i=s.length:=by omega
  rw[hend,List.drop_length];rfl
 |succ d ih=>
  intro i n hd hn
  obtain⟨n,rfl⟩:∃q,n=q+1:=⟨n-1,by omega⟩
  have hi:i<s.length:=by omega
  rw[hstep n i hi,List.drop_eq_getElem_cons hi,List.takeWhile_cons]
  split
  ·rw[O4 (m:=i+1) (by omega) (by omega),ih (i+1) n (by omega) (by omega)]
   congr 1
   simp only[List.length_cons]
   omega
  ·simp
def Z5(c:UInt8):Bool:=(decide (c>=97)&&decide (c<=122))||((decide (c>=48)&&decide (c<=57))||(c==95))
def X8(c:UInt8):Bool:=decide (c>=48)&&decide (c<=57)
theorem b3W(N:Nat)(c:UInt8):G1 N c=some (decide (c>=97)&&decide (c<=122)):=by
 unfold G1
 cases decide (c>=97)<;>simp
theorem a73(N:Nat)(c:UInt8):G0 N c=some (X8 c):=by
 unfold G0 X8
 cases decide (c>=48)<;>simp
theorem b2v(N:Nat)(c:UInt8):U6 N c=some (X8 c):=by
 unfold U6 X8
 cases decide (c>=48)<;>simp
theorem d58(N:Nat)(c:UInt8):Q7 N c=some (Z5 c):=by
 unfold Q7
 rw[b3W,b9,a73,b9]
 unfold Z5 X8
 cases (decide (c>=97)&&decide (c<=122))<;>cases (decide (c>=48)&&decide (c<=57))<;>simp
theorem b6N(N:Nat)(c:UInt8):K3 N c=some (Z5 c):=by
 unfold K3 Z5
 cases decide (c>=97)<;>cases decide (c<=122)<;>cases decide (c>=48)<;>cases decide (c<=57)<;>simp
theorem c5u(p:UInt8->Bool)(s:c8){i:Nat}(hi:i<=s.length):i+((s.drop i).takeWhile p).length<=s.length:=by
 have:=(List.takeWhile_sublist (l:=s.drop i) p).length_le
 rw[List.length_drop]at this
 omega
theorem d0b(p:UInt8->Bool):∀(l:c8),∀b∈l.takeWhile p,p b=true
 |[],b,h=>by cases h
 |a :: l,b,h=>by
  rw[List.takeWhile_cons]at h
  split at h
  ·rename_i hp
   rcases List.mem_cons.1 h with rfl|h
   ·exact hp
   ·exact d0b p l b h
  ·cases h
theorem a9a(p:UInt8->Bool)(s:c8){i:Nat}(hi:i<=s.length):(s.take (i+((s.drop i).takeWhile p).length)).drop i=(s.drop i).takeWhile p:=by
 rw[List.drop_take,Nat.add_sub_cancel_left]
 have h:∀l:c8,l.take (l.takeWhile p).length=l.takeWhile p:=by
  intro l
  induction l with
  |nil=>rfl
  |cons a l ih=>
   rw[List.takeWhile_cons]
   split
   ·rw[List.length_cons,List.take_succ_cons,ih]
   ·rfl
 exact h _
theorem d9t{N:Nat}(hN:60000<=N)(s:c8)(hs:s.length<=50000){k:Int->Option (c8×c8×Int×List A4)}{i:Nat}(hi:i<=s.length):
  e8M N s k N (i:Int)=k ((i+((s.drop i).takeWhile Z5).length:Nat):Int):=by
 refine b28 Z5 s hs (f:=e8M N s k) (fun n j hj=>?_) (fun n=>?_) (s.length-i) i N (by omega) (by omega)
 ·show e50 _ _ _ _ _=_
  unfold e50
  rw[P9 hj,d4,o9 s hj,b9,d58,b9,a5E]
 ·show e50 _ _ _ _ _=_
  unfold e50
  rw[a0Y,d6]
theorem c95{N:Nat}(hN:60000<=N)(s:c8)(hs:s.length<=50000)(w:List A4){i:Nat}(hi:i<=s.length):
  K9 N () s (i:Int) w=some ((s.drop i).takeWhile Z5,(s,(((i+((s.drop i).takeWhile Z5).length:Nat):Int),w))):=by
 unfold K9
 rw[d9t hN s hs hi,a2y s (Nat.le_add_right _ _) (c5u Z5 s hi),b9,a9a Z5 s hi]
theorem d9u{N:Nat}(hN:60000<=N)(s:c8)(hs:s.length<=50000){k:Int->Option (c8×c8×Int×List A4)}{i:Nat}(hi:i<=s.length):
  b2I N s k N (i:Int)=k ((i+((s.drop i).takeWhile X8).length:Nat):Int):=by
 refine b28 X8 s hs (f:=b2I N s k) (fun n j hj=>?_) (fun n=>?_) (s.length-i) i N (by omega) (by omega)
 ·show a8I _ _ _ _ _=_
  unfold a8I
  rw[P9 hj,d4,o9 s hj,b9,a73,b9,a5E]
 ·show a8I _ _ _ _ _=_
  unfold a8I
  rw[a0Y,d6]
theorem c96{N:Nat}(hN:60000<=N)(s:c8)(hs:s.length<=50000)(w:List A4){i:Nat}(hi:i<=s.length):
  L0 N () s (i:Int) w=some ((s.drop i).takeWhile X8,(s,(((i+((s.drop i).takeWhile X8).length:Nat):Int),w))):=by
 unfold L0
 rw[d9u hN s hs hi,a2y s (Nat.le_add_right _ _) (c5u X8 s hi),b9,a9a X8 s hi]
theorem d6h{N:Nat}(hN:60000<=N)(s:c8)(hs:s.length<=50000){k:Int->Option (A4×Int×Int)}{i:Nat}(hi:i<=s.length):
  e1w N s k N (i:Int)=k ((i+((s.drop i).takeWhile Z5).length:Nat):Int):=by
 refine b28 Z5 s hs (f:=e1w N s k) (fun n j hj=>?_) (fun n=>?_) (s.length-i) i N (by omega) (by omega)
 ·show d8T _ _ _ _ _=_
  unfold d8T
  rw[P9 hj,d4,o9 s hj,b9,b6N,b9,a5E]
 ·show d8T _ _ _ _ _=_
  unfold d8T
  rw[a0Y,d6]
theorem d6i{N:Nat}(hN:60000<=N)(s:c8)(hs:s.length<=50000){k:Int->Option (A4×Int×Int)}{i:Nat}(hi:i<=s.length):
  e1m N s k N (i:Int)=k ((i+((s.drop i).takeWhile X8).length:Nat):Int):=by
 refine b28 X8 s hs (f:=e1m N s k) (fun n j hj=>?_) (fun n=>?_) (s.length-i) i N (by omega) (by omega)
 ·show d9w _ _ _ _ _=_
  unfold d9w
  rw[P9 hj,d4,o9 s hj,b9,b2v,b9,a5E]
 ·show d9w _ _ _ _ _=_
  unfold d9w
  rw[a0Y,d6]
def d9l(acc:Nat)(l:c8):Nat:=l.foldl (fun a b=>a*10+(b.toNat-48)) acc
theorem c48:∀(l:c8) (acc:Nat),(∀b∈l,X8 b=true)->Lib.decFrom acc l=some (d9l acc l)
 |[],acc,_=>rfl
 |b :: l,acc,h=>by
  have hb:=h b (by simp)
  unfold X8 at hb
  simp only[Bool.and_eq_true,decide_eq_true_eq,ge_iff_le,UInt8.le_iff_toNat_le]at hb
  have h1:(48:UInt8).toNat=48:=rfl
  have h2:(57:UInt8).toNat=57:=rfl
  rw[Lib.decFrom,Lib.digitVal,if_pos (by omega)]
  exact c48 l _ fun c hc=>h c (by simp[hc])
theorem c9K{N:Nat}{k:Int->Option (Int×c8×Int×Int×c8×Int×Int×List A4)}(c:c8)(hc:c.length<=9)(hd:∀b∈c,X8 b=true):∀(d i n acc:Nat),i+d=c.length->d<n->acc<10 ^ i->
  e8J N c (c.length:Int) k n (i:Int) (acc:Int)=k (d9l acc (c.drop i):Int):=by
 intro d
 induction d with
 |zero=>
  intro i n acc h hn ha
  obtain⟨n,rfl⟩:∃q,n=q+1:=⟨n-1,by omega⟩
  obtain rfl:i=c.length:=by omega
  show e5Y _ _ _ _ _ _ _=_
  unfold e5Y
  rw[a0Y,d6,List.drop_length];rfl
 |succ d ih=>
  intro i n acc h hn ha
  obtain⟨n,rfl⟩:∃q,n=q+1:=⟨n-1,by omega⟩
  have hi:i<c.length:=by omega
  have hb:=hd c[i] (List.getElem_mem hi)
  unfold X8 at hb
  simp only[Bool.and_eq_true,decide_eq_true_eq,ge_iff_le,UInt8.le_iff_toNat_le]at hb
  have h1:(48:UInt8).toNat=48:=rfl
  have h2:(57:UInt8).toNat=57:=rfl
  have hp:10 ^ i<=10 ^ 8:=Nat.pow_le_pow_right (by omega) (by omega)
  have hp9:(10:Nat) ^ 8=100000000:=by decide
  have hsub:(c[i]-48).toNat=c[i].toNat-48:=by
   rw[UInt8.toNat_sub_of_le _ _ (by rw[UInt8.le_iff_toNat_le];omega)];rfl
  show e5Y _ _ _ _ _ _ _=_
  unfold e5Y
  rw[P9 hi,d4,o9 c hi,b9]
  rw[O4 (n:=(i:Int)+1) (m:=i+1) (by omega) (by omega),hsub,D8 (n:=((c[i].toNat-48:Nat):Int)) (by omega) (by omega),D8 (n:=(10:Int)*(acc:Int)) (by omega) (by omega),D8 (by omega) (by omega)]
  rw[show(10:Int)*(acc:Int)+((c[i].toNat-48:Nat):Int)=((acc*10+(c[i].toNat-48):Nat):Int) by omega]
  rw[ih (i+1) n _ (by omega) (by omega) (by rw[Nat.pow_succ];omega),List.drop_eq_getElem_cons hi]
  rfl
theorem c7k{N:Nat}(s:c8)(hs:s.length<=50000)(w:List A4)(at0:Int):∀(d i n m:Nat) (acc:c8),i+d=s.length->d<n->d<m->acc.length<=i->
  (∃(txt:c8) (j:Nat),i<j/\j<=s.length/\txt.length<=s.length/\e7c N s w (fun o=>some (([]:c8),(false,(s,(o,w))))) n (i:Int) acc=some (txt,(true,(s,((j:Int),w))))/\b0F N s 2 0 at0 (fun t=>some ((2,(t,(0,at0))),(0,10))) m (i:Int) acc=some ((2,(txt,(0,at0))),((j:Int),0)))\/
  ((∃txt p,e7c N s w (fun o=>some (([]:c8),(false,(s,(o,w))))) n (i:Int) acc=some (txt,(false,(s,(p,w)))))/\∃t e,b0F N s 2 0 at0 (fun t=>some ((2,(t,(0,at0))),(0,10))) m (i:Int) acc=some (t,(e,10))):=by
 intro d
 induction d using Nat.strongRecOn with
 |_ d ih=>
  intro i n m acc hd hn hm ha
  obtain⟨n,rfl⟩:∃q,n=q+1:=⟨n-1,by omega⟩
  obtain⟨m,rfl⟩:∃q,m=q+1:=⟨m-1,by omega⟩
  show(∃(txt:c8) (j:Nat),_/\_/\_/\e66 N s w _ (e7c N s w _ n) (i:Int) acc=_/\c19 N s 2 0 at0 _ (b0F N s 2 0 at0 _ m) (i:Int) acc=_)\/((∃txt p,e66 N s w _ (e7c N s w _ n) (i:Int) acc=_)/\∃t e,c19 N s 2 0 at0 _ (b0F N s 2 0 at0 _ m) (i:Int) acc=_)
  unfold e66 c19
  by_cases hi:i<s.length
  ·simp only[P9 hi,d4,o9 s hi,b9,O4 (n:=(i:Int)+1) (m:=i+1) (by omega) (by omega)]
   by_cases h34:s[i]=34
   ·left
    refine⟨acc,i+1,by omega,by omega,by omega,?_,?_⟩<;>simp[h34]
   simp only[U3 h34,d6]
   by_cases h92:s[i]=92
   ·simp only[h92,show decide ((92:UInt8)<32)=false by decide,show decide ((92:UInt8)>126)=false by decide,show((92:UInt8)==92)=true by decide,show((92:UInt8) !=92)=false by decide,d4,d6]
    by_cases hi1:i+1<s.length
    ·have hne:(((i+1:Nat):Int)==(s.length:Int))=false:=by
      rw[beq_eq_false_iff_ne];omega
     simp only[hne,d6,P9 hi1,d4,o9 s hi1,b9,O4 (n:=((i+1:Nat):Int)+1) (m:=i+2) (by omega) (by omega)]
     have hsl:slc s ((i+1:Nat):Int) ((i+2:Nat):Int)=some [s[i+1]]:=by
      rw[a2y s (by omega) (by omega),List.drop_take,show i+2-(i+1)=1 by omega,List.drop_eq_getElem_cons hi1];rfl
     have hb:∀c:UInt8,decide ((acc.length + [c].length)*(24*Ty.sz .u8)<=140737488355328)=true:=fun c=>decide_eq_true (by simp[Ty.sz];omega)
     have hb2:∀c:UInt8,decide (acc.length + [c].length<=9223372036854775807)=true:=fun c=>decide_eq_true (by simp;omega)
     have next:∀c:UInt8,_:=fun c=>ih (d-2) (by omega) (i+2) n m (acc ++ [c]) (by omega) (by omega) (by omega) (by simp;omega)
     simp only[hsl,b9,hb,hb2,d4]
     by_cases g34:s[i+1]=34
     ·have nx:=next 34
      simp only[g34,show((34:UInt8)==34)=true by decide,d4]
      rcases nx with⟨txt,j,h1,h2,h3,h4⟩|h
      ·exact .inl ⟨txt,j,by omega,h2,h3,h4⟩
      ·exact .inr h
     simp only[U3 g34,d6]
     by_cases g92:s[i+1]=92
     ·have nx:=next 92
      simp only[g92,show((92:UInt8)==92)=true by decide,d4]
      rcases nx with⟨txt,j,h1,h2,h3,h4⟩|h
      ·exact .inl ⟨txt,j,by omega,h2,h3,h4⟩
      ·exact .inr h
     simp only[U3 g92,d6]
     by_cases g110:s[i+1]=110
     ·have nx:=next 10
      simp only[g110,show((110:UInt8)==110)=true by decide,d4]
      rcases nx with⟨txt,j,h1,h2,h3,h4⟩|h
      ·exact .inl ⟨txt,j,by omega,h2,h3,h4⟩
      ·exact .inr h
     simp only[U3 g110,d6]
     exact .inr ⟨⟨_,_,rfl⟩,_,_,rfl⟩
    ·have he:i+1=s.length:=by omega
     simp only[he,beq_self_eq_true,d4,a0Y,d6]
     exact .inr ⟨⟨_,_,rfl⟩,_,_,rfl⟩
   have hne92:(s[i] !=92)=true:=by rw[bne,U3 h92];rfl
   simp only[U3 h92,hne92,d6,d4]
   by_cases hlo:s[i]<32
   ·simp only[decide_eq_true hlo,d4]
    exact .inr ⟨⟨_,_,rfl⟩,_,_,rfl⟩
   by_cases hhi:s[i]>126
   ·simp only[decide_eq_false hlo,decide_eq_true hhi,d4,d6]
    exact .inr ⟨⟨_,_,rfl⟩,_,_,rfl⟩
   simp only[decide_eq_false hlo,decide_eq_false hhi,d6]
   have hsl:slc s (i:Int) ((i+1:Nat):Int)=some [s[i]]:=by
    rw[a2y s (by omega) (by omega),List.drop_take,show i+1-i=1 by omega,List.drop_eq_getElem_cons hi];rfl
   rw[hsl,b9,decide_eq_true (show(acc.length + [s[i]].length)*(24*Ty.sz .u8)<=140737488355328 by simp[Ty.sz];omega),decide_eq_true (show acc.length + [s[i]].length<=9223372036854775807 by simp;omega),d4,d4]
   rcases ih (d-1) (by omega) (i+1) n m (acc ++ [s[i]]) (by omega) (by omega) (by omega) (by simp;omega)with⟨txt,j,h1,h2,h3,h4⟩|h
   ·exact .inl ⟨txt,j,by omega,h2,h3,h4⟩
   ·exact .inr h
  ·obtain rfl:i=s.length:=by omega
   simp only[a0Y,d6]
   exact .inr ⟨⟨_,_,rfl⟩,_,_,rfl⟩
theorem c82{c:c8}(hc:c.length<=9)(h0:c ≠ [])(hd:∀b∈c,X8 b=true):strconv_Atoi c=some (d9l 0 c:Int):=by
 unfold strconv_Atoi
 rw[if_pos (by omega)]
 obtain⟨b,r,rfl⟩:=List.exists_cons_of_ne_nil h0
 have hb:=hd b (by simp)
 unfold X8 at hb
 simp only[Bool.and_eq_true,decide_eq_true_eq,ge_iff_le,UInt8.le_iff_toNat_le]at hb
 have h1:(48:UInt8).toNat=48:=rfl
 have n45:(b==45)=false:=U3 fun e=>by subst e;revert hb;decide
 have n43:(b==43)=false:=U3 fun e=>by subst e;revert hb;decide
 unfold Lib.atoi
 simp only[n45,n43,Bool.false_eq_true,if_false]
 rw[Lib.decNat,List.isEmpty_cons]
 simp only[Bool.false_eq_true,if_false]
 rw[c48 _ 0 hd]
 rfl
theorem c69(N:Nat)(l:c8):S6 N l [61,61]=some (l.take 2==[61,61]):=by
 unfold S6 S3
 match l with
 |[]=>simp
 |[a]=>
  simp
 |a :: b :: r=>
  rw[decide_eq_true (show(((a :: b :: r:c8).length:Nat):Int)>=((([61,61]:c8).length:Nat):Int) by simp;omega),d4]
  rw[show(0:Int)=((0:Nat):Int)from rfl,a2y _ (by simp) (by simp),b9,b9]
  rfl
theorem c0r{N:Nat}(hN:60000<=N)(s:c8)(hs:s.length<=50000)(w:List A4){i:Nat}(hi:i<s.length):
  (∃(t:A4) (j:Nat),i<j/\j<=s.length/\M7 N s (i:Int) w=some (t,(0,(s,((j:Int),w))))/\a0N N s (i:Int)=some (t,((j:Int),0))/\a2h t)\/
  (∃(t:A4) (e:Int) (q:c8×Int×List A4) (t':A4) (x:Int),e≠0/\t.2.2.2=(i:Int)/\M7 N s (i:Int) w=some (t,(e,q))/\a0N N s (i:Int)=some (t',(x,e))):=by
 unfold M7 a0N
 simp only[o9 s hi,b9,b3W,a73,b2v]
 by_cases hsm:(decide (s[i]>=97)&&decide (s[i]<=122))=true
 ·have hsm':=hsm
  simp only[Bool.and_eq_true]at hsm
  simp only[hsm.1,hsm.2,Bool.and_self,d4,c95 hN s hs w (Nat.le_of_lt hi),b9,d6h hN s hs (Nat.le_of_lt hi)]
  have hle:=c5u Z5 s (Nat.le_of_lt hi)
  have hpos:0<((s.drop i).takeWhile Z5).length:=by
   rw[List.drop_eq_getElem_cons hi,List.takeWhile_cons,if_pos (by unfold Z5;rw[hsm'];rfl)]
   simp
  rw[a2y s (Nat.le_add_right _ _) hle,b9,a9a Z5 s (Nat.le_of_lt hi),O4 (n:=((i+((s.drop i).takeWhile Z5).length:Nat):Int)-(i:Int)) (m:=((s.drop i).takeWhile Z5).length) (by omega) (by omega)]
  by_cases hg:((((s.drop i).takeWhile Z5).length:Nat):Int)>40
  ·simp only[decide_eq_true hg,d4]
   exact .inr ⟨_,2,_,_,_,by decide,rfl,rfl,rfl⟩
  ·simp only[decide_eq_false hg,d6]
   exact .inl ⟨_,i+((s.drop i).takeWhile Z5).length,by omega,hle,rfl,rfl,by refine⟨?_,?_⟩<;>(try simp)<;>(try omega)⟩
 have hsm':(decide (s[i]>=97)&&decide (s[i]<=122))=false:=by simpa using hsm
 have hcomm:∀(X Y:Option (A4×Int×Int)),br (decide (s[i]>=97)) (br (decide (s[i]<=122)) X Y) Y=Y:=by
  intro X Y
  rcases Bool.and_eq_false_iff.1 hsm' with h|h<;>rw[h]
  ·rw[d6]
  ·cases decide (s[i]>=97)<;>simp
 simp only[hsm',d6,hcomm]
 by_cases hdg:X8 s[i]=true
 ·simp only[hdg,d4]
  unfold N1
  rw[c96 hN s hs w (Nat.le_of_lt hi),d6i hN s hs (Nat.le_of_lt hi)]
  simp only[b9]
  have hle:=c5u X8 s (Nat.le_of_lt hi)
  rw[a2y s (Nat.le_add_right _ _) hle,b9,a9a X8 s (Nat.le_of_lt hi),O4 (n:=((i+((s.drop i).takeWhile X8).length:Nat):Int)-(i:Int)) (m:=((s.drop i).takeWhile X8).length) (by omega) (by omega)]
  have hc0:(s.drop i).takeWhile X8=s[i] :: (s.drop (i+1)).takeWhile X8:=by
   rw[List.drop_eq_getElem_cons hi,List.takeWhile_cons,if_pos hdg]
  have hall:∀b∈(s.drop i).takeWhile X8,X8 b=true:=d0b X8 _
  generalize hc:(s.drop i).takeWhile X8=c at *
  have hpos:0<c.length:=by rw[hc0];simp
  have g0:l6 c 0=some s[i]:=by rw[hc0];rfl
  simp only[g0,b9]
  by_cases h9:(c.length:Int)>9
  ·rw[decide_eq_true h9,decide_eq_true (show(c.length:Int)>1 by omega)]
   simp only[d4]
   by_cases h48:s[i]=48
   ·simp only[h48,show((48:UInt8)==48)=true by decide,d4,b9]
    exact .inr ⟨_,10,_,_,_,by decide,rfl,rfl,rfl⟩
   ·simp only[U3 h48,d6,b9]
    exact .inr ⟨_,2,_,_,_,by decide,rfl,rfl,rfl⟩
  ·rw[decide_eq_false h9]
   simp only[d6,c82 (by omega) (by intro e;rw[e]at hpos;simp at hpos) hall,b9]
   have hl:=fun k=>c9K (N:=N) (k:=k) c (by omega) hall c.length 0 N 0 (by omega) (by omega) (by simp)
   simp only[List.drop_zero,show((0:Nat):Int)=0 from rfl]at hl
   simp only[hl]
   by_cases h1:(c.length:Int)>1
   ·simp only[decide_eq_true h1,d4]
    by_cases h48:s[i]=48
    ·simp only[h48,show((48:UInt8)==48)=true by decide,d4,b9]
     exact .inr ⟨_,10,_,_,_,by decide,rfl,rfl,rfl⟩
    ·simp only[U3 h48,d6,b9]
     exact .inl ⟨_,i+c.length,by omega,hle,rfl,rfl,by refine⟨?_,?_⟩<;>(try simp)<;>(try omega)⟩
   ·simp only[decide_eq_false h1,d6,b9]
    refine .inl ⟨_,i+c.length,by omega,hle,rfl,?_,by refine⟨?_,?_⟩<;>(try simp)<;>(try omega)⟩
    cases (s[i]==48)<;>simp
 have hdg':X8 s[i]=false:=by simpa using hdg
 simp only[hdg',d6]
 by_cases h34:s[i]=34
 ·simp only[h34,show((34:UInt8)==34)=true by decide,d4]
  unfold P6 T4
  rw[O4 (n:=(i:Int)+1) (m:=i+1) (by omega) (by omega)]
  rcases c7k (N:=N) s hs w (i:Int) (s.length-(i+1)) (i+1) N N [] (by omega) (by omega) (by omega) (by simp)with⟨txt,j,h1,h2,h5,h3,h4⟩|⟨⟨txt,p,h3⟩,t,e,h4⟩
  ·simp only[h3,h4,b9,Bool.not_true,d6]
   exact .inl ⟨_,j,by omega,h2,rfl,rfl,by refine⟨?_,?_⟩<;>(try simp)<;>(try omega)⟩
  ·simp only[h3,h4,b9,Bool.not_false,d4]
   exact .inr ⟨_,10,_,_,_,by decide,rfl,rfl,rfl⟩
 simp only[U3 h34,d6]
 unfold strings_IndexByte
 simp only[b9]
 by_cases hsg:Lib.indexByte [61,43,40,41,91,93,123,125,44,58,59] s[i]>=0
 ·simp only[decide_eq_true hsg,d4,b85 s (Nat.le_of_lt hi),b9,c69,O4 (n:=(i:Int)+1) (m:=i+1) (by omega) (by omega)]
  rw[a2y s (i:=i) (j:=i+1) (by omega) (by omega)]
  simp only[b9]
  by_cases hi1:i+1<s.length
  ·have ht2:(s.drop i).take 2=[s[i],s[i+1]]:=by
    rw[List.drop_eq_getElem_cons hi,List.drop_eq_getElem_cons hi1];rfl
   rw[ht2,P9 hi1,d4,o9 s hi1,b9]
   simp only[O4 (n:=(i:Int)+2) (m:=i+2) (by omega) (by omega),O4 (n:=((i+1:Nat):Int)+1) (m:=i+2) (by omega) (by omega)]
   rw[a2y s (i:=i) (j:=i+2) (by omega) (by omega)]
   simp only[b9]
   by_cases h61:s[i]=61
   ·by_cases g61:s[i+1]=61
    ·simp only[h61,g61,show((61:UInt8)==61)=true by decide,show(([61,61]:c8)==[61,61])=true by decide,d4]
     exact .inl ⟨_,i+2,by omega,by omega,rfl,rfl,by refine⟨?_,?_⟩<;>(try simp)<;>(try omega)⟩
    ·have:(([61,s[i+1]]:c8)==([61,61]:c8))=false:=by
      rw[beq_eq_false_iff_ne];intro e;exact g61 (by simpa using(List.cons.inj (List.cons.inj e).2).1)
     simp only[this,h61,U3 g61,show((61:UInt8)==61)=true by decide,d4,d6]
     exact .inl ⟨_,i+1,by omega,by omega,rfl,rfl,by refine⟨?_,?_⟩<;>(try simp)<;>(try omega)⟩
   ·have:([s[i],s[i+1]]==([61,61]:c8))=false:=by
     rw[beq_eq_false_iff_ne];intro e;exact h61 (List.cons.inj e).1
    simp only[this,U3 h61,d6]
    exact .inl ⟨_,i+1,by omega,by omega,rfl,rfl,by refine⟨?_,?_⟩<;>(try simp)<;>(try omega)⟩
  ·have he:i+1=s.length:=by omega
   have ht2:(s.drop i).take 2=[s[i]]:=by
    rw[List.drop_eq_getElem_cons hi,he,List.drop_length];rfl
   rw[ht2,show(([s[i]]:c8)==[61,61])=false by rw[beq_eq_false_iff_ne];intro e;simp at e]
   rw[decide_eq_false (show ¬((i+1:Nat):Int)<(s.length:Int) by omega)]
   simp only[d6]
   refine .inl ⟨_,i+1,by omega,by omega,rfl,?_,by refine⟨?_,?_⟩<;>(try simp)<;>(try omega)⟩
   cases (s[i]==61)<;>simp
 ·simp only[decide_eq_false hsg,d6]
  exact .inr ⟨_,10,_,_,_,by decide,rfl,rfl,rfl⟩
theorem c7l{N:Nat}(hN:60000<=N)(s:c8)(hs:s.length<=50000):∀(d i n m j:Nat) (out:List A4),i+d=s.length->d<n->d<m->out.length<=50000->(∀t∈out,a2h t)->i<=j->j<=s.length->
  (∀w:List A4,D9 N s (i:Int) w=some (s,((j:Int),w)))->
  ∃(x:List A4) (a f:Int),x.length<=50000/\(∀t∈x,a2h t)/\e8X N s n s (i:Int) out=some (x,(a,f))/\c8M N s (fun o=>some (0,(0,o))) m (j:Int) out=some (a,(f,x)):=by
 intro d
 induction d using Nat.strongRecOn with
 |_ d ih=>
  intro i n m j out hd hn hm ho hok hij hj hb
  obtain⟨n,rfl⟩:∃q,n=q+1:=⟨n-1,by omega⟩
  obtain⟨m,rfl⟩:∃q,m=q+1:=⟨m-1,by omega⟩
  show ∃(x:List A4) (a f:Int),_/\_/\e8e N s (e8X N s n) s (i:Int) out=_/\c8O N s _ (c8M N s _ m) (j:Int) out=_
  unfold e8e c8O
  simp only[hb,b9,x7]
  by_cases hjl:j<s.length
  ·have hne:((j:Int)==(s.length:Int))=false:=by rw[beq_eq_false_iff_ne];omega
   simp only[hne,d6,P9 hjl,d4]
   by_cases hfull:(out.length:Int)=50000
   ·have h1:((out.length:Int)==50000)=true:=by rw[hfull];rfl
    rcases c0r hN s hs out hjl with⟨t,q,_,_,_,h4,_⟩|⟨t,e,q,t',x,_,_,_,h4⟩
    ·rw[h4,h1]
     simp only[b9,d4,decide_eq_true (show(out.length:Int)>=50000 by omega)]
     exact⟨_,_,_,by simp,by simp,rfl,rfl⟩
    ·rw[h4,h1]
     simp only[b9,d4,decide_eq_true (show(out.length:Int)>=50000 by omega)]
     exact⟨_,_,_,by simp,by simp,rfl,rfl⟩
   ·have h1:((out.length:Int)==50000)=false:=by rw[beq_eq_false_iff_ne];exact hfull
    have h2:decide ((out.length:Int)>=50000)=false:=decide_eq_false (by omega)
    simp only[h1,h2,d6]
    rcases c0r hN s hs out hjl with⟨t,q,g1,g2,g3,g4,g5⟩|⟨t,e,q,t',x,g1,g2,g3,g4⟩
    ·rw[g3,g4]
     simp only[b9,show((0:Int) !=0)=false by decide,d6]
     have hmem:decide ((out.length + [t].length)*(24*Ty.sz (.pr (.int .i64) (.pr .str (.pr (.int .i64) (.int .i64)))))<=140737488355328)=true:=decide_eq_true (by simp[Ty.sz];omega)
     simp only[hmem,d4]
     obtain⟨j',k1,k2,k3,k4⟩:=a5R (N:=N) s hs [] (s.length-q) q N N (by omega) (by omega) (by omega)
     have hb':∀w:List A4,D9 N s (q:Int) w=some (s,((j':Int),w)):=fun w=>by
      obtain⟨j2,_,_,k3',k4'⟩:=a5R (N:=N) s hs w (s.length-q) q N N (by omega) (by omega) (by omega)
      have:(j2:Int)=(j':Int):=Option.some.inj (k4'.symm.trans k4)
      rw[this]at k3'
      exact k3'
     have hsk:a1H N s (q:Int)=some (j':Int):=k4
     rw[hsk,b9]
     exact ih (s.length-q) (by omega) q n m j' (out ++ [t]) (by omega) (by omega) (by omega) (by simp;omega) (by intro u hu;rcases List.mem_append.1 hu with h|h;exact hok u h;rw[List.mem_singleton.1 h];exact g5) (by omega) k2 hb'
    ·rw[g3,g4]
     have h0:(e !=0)=true:=by simpa using g1
     simp only[b9,h0,d4,g2]
     exact⟨_,_,_,by simp,by simp,rfl,rfl⟩
  ·obtain rfl:j=s.length:=by omega
   simp only[beq_self_eq_true,d4,a0Y,d6]
   exact⟨_,_,_,ho,hok,rfl,rfl⟩
theorem c0s{N:Nat}(hN:60000<=N)(s:c8):∃(x:List A4) (a f:Int),x.length<=50000/\(∀t∈x,a2h t)/\R9 N s=some (x,(a,f))/\a03 N s=some (a,(f,x)):=by
 unfold R9 a03
 by_cases hs:(s.length:Int)>50000
 ·simp only[decide_eq_true hs,d4]
  exact⟨_,_,_,by simp,by simp,rfl,rfl⟩
 ·simp only[decide_eq_false hs,d6]
  have hs':s.length<=50000:=by omega
  obtain⟨j,k1,k2,k3,k4⟩:=a5R (N:=N) s hs' [] s.length 0 N N (by omega) (by omega) (by omega)
  have hb:∀w:List A4,D9 N s ((0:Nat):Int) w=some (s,((j:Int),w)):=fun w=>by
   obtain⟨j2,_,_,k3',k4'⟩:=a5R (N:=N) s hs' w s.length 0 N N (by omega) (by omega) (by omega)
   have:(j2:Int)=(j:Int):=Option.some.inj (k4'.symm.trans k4)
   rw[this]at k3'
   exact k3'
  have hsk:a1H N s 0=some (j:Int):=k4
  rw[hsk,b9]
  exact c7l hN s hs' s.length 0 N N j [] (by omega) (by omega) (by omega) (by simp) (by simp) (by omega) k2 hb
end
section
def Y5(c:UInt8):c8->List c8
 |[]=>[[]]
 |b :: s=>if b=c then [] :: Y5 c s else match Y5 c s with
  |x :: xs=>(b :: x) :: xs
  |[]=>[[b]]
theorem c7f(c:UInt8)(s:c8):Y5 c s ≠ []:=by
 cases s with
 |nil=>simp[Y5]
 |cons b s=>unfold Y5;split;simp;split<;>simp
theorem a4V(b c:UInt8)(s:c8):Lib.indexByte (b :: s) c=if b=c then 0 else if Lib.indexByte s c = -1 then -1 else Lib.indexByte s c+1:=by
 have h:=Lib.indexByte_ge s c
 rw[Lib.indexByte]
 by_cases hb:b=c
 ·simp[hb]
 ·simp only[beq_iff_eq,hb,if_false]
theorem b4n(c:UInt8):∀(s:c8),Lib.splitK [c] 0 (Lib.count s [c]) s=Y5 c s
 |[]=>by simp[Lib.count_one,Lib.splitK,Y5]
 |b :: s=>by
  have ih:=b4n c s
  by_cases hb:b=c
  ·subst hb
   rw[Lib.count_cons_eq,Nat.add_comm,Lib.splitK,Lib.index_one,a4V]
   simp only[if_true]
   show(_ :: Lib.splitK [b] 0 (Lib.count s [b]) s)=_
   rw[ih]
   simp[Y5]
  ·rw[Lib.count_cons_ne _ _ _ hb]
   unfold Y5
   rw[if_neg hb,<-ih]
   cases hk:Lib.count s [c]with
   |zero=>simp[Lib.splitK]
   |succ k=>
    rw[Lib.splitK,Lib.splitK,Lib.index_one,Lib.index_one,a4V,if_neg hb]
    have h0:=Lib.indexByte_ge s c
    by_cases h1:Lib.indexByte s c = -1
    ·simp[h1]
    ·have h2:∃n:Nat,Lib.indexByte s c=n:=⟨(Lib.indexByte s c).toNat,by omega⟩
     obtain⟨n,hn⟩:=h2
     have e:((n:Int)+1).toNat=n+1:=by omega
     have e1:¬((n:Int) = -1):=by omega
     have e2:¬((n:Int)+1 = -1):=by omega
     simp[hn,e,e1,e2,Nat.add_right_comm]
theorem c26(s:c8)(c:UInt8):a8d s [c]=Y5 c s:=by
 unfold a8d
 have:=Lib.splitB_data ⟨[c].toArray⟩ 0 (Lib.countB ⟨s.toArray⟩ ⟨[c].toArray⟩) ⟨s.toArray⟩
 rw[this]
 exact b4n c s
theorem b4l(c:UInt8):∀s:c8,(Y5 c s).length=s.count c+1
 |[]=>rfl
 |b :: s=>by
  have ih:=b4l c s
  unfold Y5
  by_cases hb:b=c
  ·rw[if_pos hb];simp[hb,ih]
  ·rw[if_neg hb,List.count_cons_of_ne hb,<-ih]
   have:=c7f c s
   cases h:Y5 c s with
   |nil=>exact absurd h this
   |cons=>rfl
theorem a89(s:c8)(c:UInt8)(h:s.length<4294967281):strings_Split s [c]=some (Y5 c s):=by
 have hc:s.count c<=s.length:=List.count_le_length
 unfold strings_Split
 rw[c26,b4l]
 refine if_pos ⟨h,by simp,?_,by omega⟩
 show _=Lib.count s [c]+1
 rw[Lib.count_one]
end
section
variable{N:Nat}
theorem a0D{α:Type}(p:α->Bool)(k:Bool):∀(xs:List α) (j:Nat),a2v (fun _ x r=>if(!p x)=true then false else r) k xs j=(xs.all p&&k)
 |[],_=>by simp[a2v]
 |x :: xs,j=>by
  show(if(!p x)=true then false else a2v _ _ xs (j+1))=_
  rw[a0D p k xs (j+1),List.all_cons]
  cases h:p x<;>simp
theorem b2S(hN:L7<=N)(xs:List c8)(hx:xs.length<=maxLen)(x:c8):C3 N xs x=some (c2J (x == ·) xs):=by
 unfold C3
 refine N6 (fun _ _=>rfl) xs hx (fun self i h r hr=>?_) (fun self=>?_) hN
 ·simp only[e7A,o9 xs h,I5 hx h,hr,b9]
  rw[P9 h,d4,a1J]
 ·simp[e7A]
theorem Q8(hN:L7<=N)(xs:List c8)(hx:xs.length<=maxLen)(x:c8):m8 N xs x=some (xs.any (x == ·)):=by
 unfold m8
 rw[b2S hN xs hx,b9,a4U]
def a2z(c:UInt8):Bool:=decide (c>=97)&&decide (c<=122)
def b3H(c:UInt8):Bool:=decide (c>=48)&&decide (c<=57)
def nmB(c:UInt8):Bool:=a2z c||(b3H c||c==95)
theorem b7C(c:UInt8):G1 N c=some (a2z c):=by
 unfold G1 a2z
 cases decide (c>=97)<;>simp
theorem c65(c:UInt8):G0 N c=some (b3H c):=by
 unfold G0 b3H
 cases decide (c>=48)<;>simp
def b6O:List c8:=[[109,97,99,114,111],[102,111,114],[105,110],[105,102],[101,108,115,101],[117,115,101],[102,105,108,101,115],[99,104,111,111,115,101]]
def E6(s:c8):Bool:=match s with
 |[]=>false
 |b :: _=>decide (s.length<=40)&&(a2z b&&(s.all nmB && !(b6O.any (s == ·))))
theorem Q0(hN:L7<=N)(s:c8)(hs:s.length<=maxLen):A9 N s=some (E6 s):=by
 unfold A9
 cases s with
 |nil=>simp[E6]
 |cons b x=>
  have h1:¬(((b :: x).length:Int)<1):=by simp;omega
  rw[c86 h1,b0Q,List.getElem?_cons_zero,b9,b7C,b9]
  have hL:a5w N (b :: x) ((b :: x).length:Int) (f5 (a0m N) fun t42=>f5 (m8 N t42 (b :: x)) fun t44=>some (!t44)) N 0=some ((b :: x).all nmB && !(b6O.any ((b :: x) == ·))):=by
   have hk:(f5 (a0m N) fun t42=>f5 (m8 N t42 (b :: x)) fun t44=>some (!t44))=some (!(b6O.any ((b :: x) == ·))):=by
    unfold a0m
    rw[b9,Q8 hN _ (by decide),b9];rfl
   rw[hk,<-a0D nmB _ _ 0]
   refine N6 (fun _ _=>rfl) (b :: x) hs (fun self i h r hr=>?_) (fun self=>?_) hN
   ·simp only[b2e,o9 _ h,I5 hs h,hr,b9,b7C,c65]
    rw[P9 h,d4]
    unfold nmB
    generalize (b :: x)[i]=c
    cases h1:a2z c<;>cases h2:b3H c<;>cases h3:(c==95)<;>simp[bne,h3]
   ·simp only[b2e,a0Y,d6]
  rw[hL]
  show _=some (decide ((b :: x).length<=40)&&(a2z b&&((b :: x).all nmB && !(b6O.any ((b :: x) == ·)))))
  generalize ((b :: x).all nmB && !(b6O.any ((b :: x) == ·)))=q
  by_cases h40:(b :: x).length<=40
  ·rw[c86 (by omega),decide_eq_true h40]
   cases a2z b<;>simp
  ·rw[d88 (by omega),decide_eq_false h40];rfl
theorem b3V(c:UInt8):K3 N c=some (nmB c):=by
 unfold K3 nmB a2z b3H
 simp only[a1J]
 generalize decide (c>=97)=a1
 generalize decide (c<=122)=a2
 generalize decide (c>=48)=a3
 generalize decide (c<=57)=a4
 generalize (c==95)=a5
 cases a1<;>cases a2<;>cases a3<;>cases a4<;>cases a5<;>rfl
theorem d52:strings_Split ([109,97,99,114,111,32,102,111,114,32,105,110,32,105,102,32,101,108,115,101,32,117,115,101,32,102,105,108,101,115,32,99,104,111,111,115,101]:c8) ([32]:c8)=some b6O:=by
 rw[a89 _ _ (by decide)]
 have:Y5 32 ([109,97,99,114,111,32,102,111,114,32,105,110,32,105,102,32,101,108,115,101,32,117,115,101,32,102,105,108,101,115,32,99,104,111,111,115,101]:c8)=b6O:=by decide +kernel
 rw[this]
theorem O9(n a b:Int):Z6 N n a b=some (decide (a<=n)&&decide (n<=b)):=by
 unfold Z6
 cases decide (a<=n)<;>simp
theorem a0z(hN:L7<=N)(s:c8)(hs:s.length<=maxLen):N7 N s=some (E6 s):=by
 unfold N7
 rw[O9,b9]
 cases s with
 |nil=>simp[E6]
 |cons b x=>
  have h1:decide ((1:Int)<=((b :: x).length:Int))=true:=decide_eq_true (by simp;omega)
  rw[h1,Bool.true_and,b0Q,List.getElem?_cons_zero,b9,b9]
  have hL:e30 N (b :: x) ((b :: x).length:Int) (f5 (strings_Split ([109,97,99,114,111,32,102,111,114,32,105,110,32,105,102,32,101,108,115,101,32,117,115,101,32,102,105,108,101,115,32,99,104,111,111,115,101]:c8) ([32]:c8)) fun t29=>f5 (m8 N t29 (b :: x)) fun t31=>some (!t31)) N 0=some ((b :: x).all nmB && !(b6O.any ((b :: x) == ·))):=by
   rw[d52,b9,Q8 hN _ (by decide),b9,<-a0D nmB _ _ 0]
   refine N6 (fun _ _=>rfl) (b :: x) hs (fun self i h r hr=>?_) (fun self=>?_) hN
   ·simp only[e1C,o9 _ h,I5 hs h,hr,b9,b3V]
    rw[P9 h,d4,a1J]
   ·simp only[e1C,a0Y,d6]
  rw[hL]
  show _=some (decide ((b :: x).length<=40)&&(a2z b&&((b :: x).all nmB && !(b6O.any ((b :: x) == ·)))))
  generalize ((b :: x).all nmB && !(b6O.any ((b :: x) == ·)))=q
  have hs1:decide (b<97) = !decide (b>=97):=by
   by_cases h:b<97
   ·rw[decide_eq_true h,decide_eq_false (UInt8.not_le.2 h)];rfl
   ·rw[decide_eq_false h,decide_eq_true (UInt8.not_lt.1 h)];rfl
  have hs2:decide (b>122) = !decide (b<=122):=by
   by_cases h:b<=122
   ·rw[decide_eq_true h,decide_eq_false (UInt8.not_lt.2 h)];rfl
   ·rw[decide_eq_false h,decide_eq_true (UInt8.not_le.1 h)];rfl
  rw[hs1,hs2]
  unfold a2z
  by_cases h40:(b :: x).length<=40
  ·rw[decide_eq_true (by omega:((b :: x).length:Int)<=40),decide_eq_true h40]
   cases decide (b>=97)<;>cases decide (b<=122)<;>simp
  ·rw[decide_eq_false (by omega:¬((b :: x).length:Int)<=40),decide_eq_false h40];simp
def T8(b:UInt8):Bool:=b==10||(!decide (b<32) && !decide (b>126))
theorem a0H(hN:L7<=N)(s:c8)(hs:s.length<=maxLen):x5 N s=some (s.all T8):=by
 unfold x5
 rw[show s.all T8=(s.all T8&&true) by simp,<-a0D T8 true s 0]
 refine N6 (fun _ _=>rfl) s hs (fun self i h r hr=>?_) (fun self=>?_) hN
 ·simp only[e8h,o9 s h,I5 hs h,hr,b9]
  rw[P9 h,d4]
  unfold T8
  cases h1:(s[i]==(10:UInt8))<;>cases h2:decide (s[i]<(32:UInt8))<;>cases h3:decide (s[i]>(126:UInt8))<;>simp[h1,bne]
 ·simp only[e8h,a0Y,d6]
theorem Y1(hN:L7<=N)(s:c8)(hs:s.length<=maxLen):N9 N s=some (s.all T8):=by
 unfold N9
 rw[show s.all T8=(s.all T8&&true) by simp,<-a0D T8 true s 0]
 refine N6 (fun _ _=>rfl) s hs (fun self i h r hr=>?_) (fun self=>?_) hN
 ·simp only[e1M,o9 s h,I5 hs h,hr,b9]
  rw[P9 h,d4]
  unfold T8
  cases h1:(s[i]==(10:UInt8))<;>cases h2:decide (s[i]<(32:UInt8))<;>cases h3:decide (s[i]>(126:UInt8))<;>simp[h1,bne]
 ·simp only[e1M,a0Y,d6]
theorem a4I(a b:List c8)(ha:a.length<=maxLen)(he:a.length=b.length):∀(m n i:Nat),i+m=a.length->m<n->d8b N a b (a.length:Int) (some true) n (i:Int)=some (decide (a.drop i=b.drop i))
 |0,n,i,hi,hn=>by
  obtain⟨n,rfl⟩:∃j,n=j+1:=⟨n-1,by omega⟩
  have:i=a.length:=by omega
  subst this
  show e8q _ _ _ _ _ _ _=_
  simp only[e8q,a0Y,d6,List.drop_length]
  rw[he,List.drop_length];simp
 |m+1,n,i,hi,hn=>by
  obtain⟨n,rfl⟩:∃j,n=j+1:=⟨n-1,by omega⟩
  have h:i<a.length:=by omega
  have hb:i<b.length:=by omega
  have ih:=a4I a b ha he m n (i+1) (by omega) (by omega)
  show e8q _ _ _ _ _ _ _=_
  simp only[e8q,o9 a h,o9 b hb,I5 ha h,ih,b9]
  rw[P9 h,d4,List.drop_eq_getElem_cons h,List.drop_eq_getElem_cons hb]
  by_cases hq:a[i]=b[i]
  ·rw[show(a[i]==b[i])=true from beq_iff_eq.2 hq]
   simp only[List.cons.injEq,hq,true_and,Bool.not_true,d6]
  ·rw[show(a[i]==b[i])=false from beq_false_of_ne hq]
   simp only[List.cons.injEq,hq,false_and,Bool.not_false,d4,decide_false]
theorem b7a(hN:L7<=N)(a b:List c8)(ha:a.length<=maxLen)(hb:b.length<=maxLen):A3 N a b=some (decide (a=b)):=by
 unfold A3
 by_cases he:a.length=b.length
 ·have:=a4I (N:=N) a b ha he a.length N 0 (by omega) (by unfold maxLen at ha;unfold L7 at hN;omega)
  rw[show((0:Nat):Int)=0 from rfl,List.drop_zero,List.drop_zero]at this
  rw[this];simp[he]
 ·have hne:a≠b:=fun e=>he (by rw[e])
  simp only[decide_eq_false hne]
  have:((a.length:Int) !=(b.length:Int))=true:=by simp;omega
  simp[this]
theorem c2c(l:List c8)(h:l.length<=1000000):j8 N l=some l:=by
 unfold j8
 have e:decide ((([]:List c8).length+l.length)*(24*Ty.sz .str)<=140737488355328)=true:=decide_eq_true (by show(0+l.length)*(24*1)<=_;omega)
 rw[e,d4]
 cases l with
 |nil=>simp
 |cons a l=>simp
def V8(w:List A4)(i:Nat)(k:Int)(s:c8):Bool:=match w[i]? with
 |some t=>t.1==k&&t.2.1==s
 |none=>false
def atS(w:List A4)(i:Nat)(e:Int):Int:=match w[i]? with
 |some t=>t.2.2.2
 |none=>e
def P1(w:List A4)(i:Nat):Option c8:=match w[i]? with
 |some t=>if(t.1==1&&E6 t.2.1)=true then some t.2.1 else none
 |none=>none
def a2V(w:List A4)(i:Nat):Option c8:=match w[i]? with
 |some t=>if(t.1==2)=true then some t.2.1 else none
 |none=>none
theorem b3S{w:List A4}{i:Nat}(h:i<w.length):l6 (w.drop i) 0=some w[i]:=by
 rw[b0Q,List.getElem?_drop];simp[h]
theorem c9F{w:List A4}{i:Nat}(h:i<w.length):decide (((w.drop i).length:Int)>0)=true:=decide_eq_true (by simp;omega)
theorem c9E{w:List A4}{i:Nat}(h:¬i<w.length):decide (((w.drop i).length:Int)>0)=false:=decide_eq_false (by simp;omega)
theorem a5J{w:List A4}{i:Nat}(h:i<w.length):(((w.drop i).length:Int)==0)=false:=by rw[beq_eq_false_iff_ne];simp;omega
theorem b21{w:List A4}{i:Nat}(h:¬i<w.length):(((w.drop i).length:Int)==0)=true:=by rw[beq_iff_eq];simp;omega
theorem B9{w:List A4}{i:Nat}{k:Int}{s:c8}(h:V8 w i k s=true):i<w.length:=by
 unfold V8 at h
 cases hw:w[i]? with
 |none=>rw[hw]at h;cases h
 |some t=>exact(List.getElem?_eq_some_iff.1 hw).1
theorem b3U{w:List A4}{i:Nat}{k:Int}{s:c8}(h:i<w.length):V8 w i k s=(w[i].1==k&&w[i].2.1==s):=by
 unfold V8;rw[List.getElem?_eq_getElem h]
theorem c2N{w:List A4}{i:Nat}{k:Int}{s:c8}(h:¬i<w.length):V8 w i k s=false:=by
 unfold V8;rw[List.getElem?_eq_none (by omega)]
theorem c2l{w:List A4}{i:Nat}{e:Int}(h:i<w.length):atS w i e=w[i].2.2.2:=by
 unfold atS;rw[List.getElem?_eq_getElem h]
theorem b3p{w:List A4}{i:Nat}{e:Int}(h:¬i<w.length):atS w i e=e:=by
 unfold atS;rw[List.getElem?_eq_none (by omega)]
theorem c5b{w:List A4}{i:Nat}(h:i<w.length):slc (w.drop i) 1 ((w.drop i).length:Int)=some (w.drop (i+1)):=by
 have:=b85 (w.drop i) (i:=1) (by simp;omega)
 rw[List.drop_drop]at this
 exact this
theorem c94(w:List A4)(i:Nat)(k:Int)(s:c8)(e d:Int):U9 N k s (w.drop i) e d=some (V8 w i k s,(w.drop i,(e,d))):=by
 unfold U9
 by_cases h:i<w.length
 ·rw[c9F h,d4,b3S h,b9,b3U h]
  cases w[i].1==k<;>simp
 ·rw[c9E h,d6,c2N h]
theorem N3{w:List A4}{i:Nat}{k:Int}{s:c8}{e d:Int}(h:V8 w i k s=true):j6 N k s (w.drop i) e d=some (true,(w.drop (i+1),(e,d))):=by
 unfold j6
 rw[c94,h];simp only[b9,Bool.not_true,d6,c5b (B9 h)]
theorem L4{w:List A4}{i:Nat}{k:Int}{s:c8}{e d:Int}(h:V8 w i k s=false):j6 N k s (w.drop i) e d=some (false,(w.drop i,(e,d))):=by
 unfold j6
 rw[c94,h];simp only[b9,Bool.not_false,d4]
theorem b82(w:List A4)(i:Nat)(e d:Int):L8 N (w.drop i) e d=some (atS w i e,(w.drop i,(e,d))):=by
 unfold L8
 by_cases h:i<w.length
 ·rw[a5J h,d6,b3S h,b9,c2l h]
 ·rw[b21 h,d4,b3p h]
theorem a1V(w:List A4)(i:Nat)(e d:Int):o8 N (w.drop i) e d=some (.error (atS w i e)):=by
 unfold o8
 rw[b82]
theorem S1{w:List A4}{i:Nat}{s:c8}{e d:Int}(h:V8 w i 4 s=true):g8 N s (w.drop i) e d=some (.ok (w.drop (i+1),(e,d))):=by
 unfold g8
 rw[N3 h];simp only[b9,Bool.not_true,d6]
theorem S0{w:List A4}{i:Nat}{s:c8}{e d:Int}(h:V8 w i 4 s=false):g8 N s (w.drop i) e d=some (.error (atS w i e)):=by
 unfold g8
 rw[L4 h];simp only[b9,Bool.not_false,d4,a1V,i7]
theorem d9D{w:List A4}{i:Nat}{s:c8}{e d:Int}(h:V8 w i 1 s=true):I3 N s (w.drop i) e d=some (.ok (w.drop (i+1),(e,d))):=by
 unfold I3
 rw[N3 h];simp only[b9,Bool.not_true,d6]
theorem d9C{w:List A4}{i:Nat}{s:c8}{e d:Int}(h:V8 w i 1 s=false):I3 N s (w.drop i) e d=some (.error (atS w i e)):=by
 unfold I3
 rw[L4 h];simp only[b9,Bool.not_false,d4,a1V,i7]
theorem Q5{w:List A4}{i:Nat}{s:c8}(h:P1 w i=some s):∃hi:i<w.length,w[i].1=1/\E6 w[i].2.1=true/\w[i].2.1=s:=by
 unfold P1 at h
 cases hw:w[i]? with
 |none=>rw[hw]at h;cases h
 |some t=>
  obtain⟨hi,rfl⟩:=List.getElem?_eq_some_iff.1 hw
  rw[hw]at h
  simp only[Option.ite_none_right_eq_some,Bool.and_eq_true,beq_iff_eq,Option.some.injEq]at h
  exact⟨hi,h.1.1,h.1.2,h.2⟩
theorem a2q{w:List A4}{i:Nat}{s:c8}(h:a2V w i=some s):∃hi:i<w.length,w[i].1=2/\w[i].2.1=s:=by
 unfold a2V at h
 cases hw:w[i]? with
 |none=>rw[hw]at h;cases h
 |some t=>
  obtain⟨hi,rfl⟩:=List.getElem?_eq_some_iff.1 hw
  rw[hw]at h
  simp only[Option.ite_none_right_eq_some,beq_iff_eq,Option.some.injEq]at h
  exact⟨hi,h.1,h.2⟩
theorem b9a{w:List A4}(hw:∀t∈w,a2h t){i:Nat}(h:i<w.length):w[i].2.1.length<=maxLen:=by
 have:=(hw _ (List.getElem_mem h)).2
 unfold maxLen;omega
theorem a77(hN:L7<=N){w:List A4}(hw:∀t∈w,a2h t){i:Nat}{s:c8}{e d:Int}(h:P1 w i=some s):l9 N (w.drop i) e d=some (.ok (s,(w.drop (i+1),(e,d)))):=by
 obtain⟨hi,h1,h2,rfl⟩:=Q5 h
 unfold l9
 rw[a5J hi,d6,b3S hi,b9,h1]
 simp only[b9,Q0 hN _ (b9a hw hi),h2,c5b hi,Bool.not_true,d6,show((1:Int) !=1)=false by decide]
theorem a3q(hN:L7<=N){w:List A4}(hw:∀t∈w,a2h t){i:Nat}{e d:Int}(h:P1 w i=none):l9 N (w.drop i) e d=some (.error (atS w i e)):=by
 unfold l9
 by_cases hi:i<w.length
 ·rw[a5J hi,d6,b3S hi,b9]
  unfold P1 at h
  rw[List.getElem?_eq_getElem hi]at h
  simp only[b9,Q0 hN _ (b9a hw hi),a1V,i7]
  by_cases h1:w[i].1=1
  ·have h2:E6 w[i].2.1=false:=by simpa [h1]using h
   simp only[h1,h2,Bool.not_false,d4,d6,show((1:Int) !=1)=false by decide]
  ·rw[show(w[i].1 !=1)=true by simpa using h1,d4]
 ·rw[b21 hi,d4,a1V,i7]
theorem b89{w:List A4}{i:Nat}{s:c8}{e d:Int}(h:a2V w i=some s):p9 N (w.drop i) e d=some (.ok (s,(w.drop (i+1),(e,d)))):=by
 obtain⟨hi,h1,h3⟩:=a2q h
 unfold p9
 rw[a5J hi,d6,b3S hi,b9,h1]
 simp only[b9,c5b hi,h3,d6,show((2:Int) !=2)=false by decide]
theorem c28{w:List A4}{i:Nat}{e d:Int}(h:a2V w i=none):p9 N (w.drop i) e d=some (.error (atS w i e)):=by
 unfold p9
 by_cases hi:i<w.length
 ·rw[a5J hi,d6,b3S hi,b9]
  unfold a2V at h
  rw[List.getElem?_eq_getElem hi]at h
  simp only[a1V,i7]
  have h1:w[i].1≠2:=by simpa using h
  rw[show(w[i].1 !=2)=true by simpa using h1,d4]
 ·rw[b21 hi,d4,a1V,i7]
abbrev Mk:Type:=List (Int×Int)
theorem a3x(w:List A4)(i:Nat)(k:Int)(s:c8)(e p:Int):y5 N (w,((i:Int),(e,(false,p)))) k s=some (V8 w i k s):=by
 unfold y5
 simp only[Bool.not_false,d4]
 by_cases h:i<w.length
 ·rw[P9 h,d4,o9 _ h,b9,b3U h]
  cases w[i].1==k<;>simp
 ·rw[decide_eq_false (show ¬(i:Int)<(w.length:Int) by omega),d6,c2N h]
theorem c5k(w:List A4)(a:Int)(k:Int)(s:c8)(e p:Int):y5 N (w,(a,(e,(true,p)))) k s=some false:=by
 unfold y5
 simp only[Bool.not_true,d6]
theorem b2Z(w:List A4)(i:Nat)(e p:Int)(b:Bool):H9 N (w,((i:Int),(e,(b,p))))=some (atS w i e):=by
 unfold H9
 simp only
 by_cases h:i<w.length
 ·rw[P9 h,d4,o9 _ h,b9,c2l h]
 ·rw[decide_eq_false (show ¬(i:Int)<(w.length:Int) by omega),d6,b3p h]
theorem b96{w:List A4}(hl:w.length<=50000){i:Nat}(h:i<w.length):IntKind.i64.wrap ((i:Int)+1)=((i+1:Nat):Int):=O4 (by omega) (by omega)
theorem O1{w:List A4}(hl:w.length<=50000){i:Nat}{k:Int}{s:c8}{e p:Int}{M:Mk}(h:V8 w i k s=true):j5 N k s (i:Int) e false p w M=some (true,(((i+1:Nat):Int),(e,(false,(p,(w,M)))))):=by
 unfold j5
 rw[a3x,h];simp only[b9,d4,b96 hl (B9 h)]
theorem L2{w:List A4}{i:Nat}{k:Int}{s:c8}{e p:Int}{M:Mk}(h:V8 w i k s=false):j5 N k s (i:Int) e false p w M=some (false,((i:Int),(e,(false,(p,(w,M)))))):=by
 unfold j5
 rw[a3x,h];simp only[b9,d6]
theorem J6{w:List A4}{a:Int}{k:Int}{s:c8}{e p:Int}{M:Mk}:j5 N k s a e true p w M=some (false,(a,(e,(true,(p,(w,M)))))):=by
 unfold j5
 rw[c5k];simp only[b9,d6]
theorem a5P{w:List A4}{i:Nat}{e p:Int}{M:Mk}:q8 N (i:Int) e false p w M=some ((i:Int),(e,(true,(atS w i e,(w,M))))):=by
 unfold q8
 simp only[Bool.not_false,d4,b2Z,b9]
theorem a86{w:List A4}{a:Int}{e p:Int}{M:Mk}:q8 N a e true p w M=some (a,(e,(true,(p,(w,M))))):=by
 unfold q8
 simp only[Bool.not_true,d6]
theorem c5n{w:List A4}(hl:w.length<=50000){i:Nat}{k:Int}{s:c8}{e p:Int}{M:Mk}(h:V8 w i k s=true):C9 N k s (i:Int) e false p w M=some (((i+1:Nat):Int),(e,(false,(p,(w,M))))):=by
 unfold C9
 rw[O1 hl h];simp only[b9,Bool.not_true,d6]
theorem c5m{w:List A4}{i:Nat}{k:Int}{s:c8}{e p:Int}{M:Mk}(h:V8 w i k s=false):C9 N k s (i:Int) e false p w M=some ((i:Int),(e,(true,(atS w i e,(w,M))))):=by
 unfold C9
 rw[L2 h];simp only[b9,Bool.not_false,d4,a5P]
theorem c5l{w:List A4}{a:Int}{k:Int}{s:c8}{e p:Int}{M:Mk}:C9 N k s a e true p w M=some (a,(e,(true,(p,(w,M))))):=by
 unfold C9
 rw[J6];simp only[b9,Bool.not_false,d4,a86]
theorem H4{w:List A4}(hl:w.length<=50000){i:Nat}{s:c8}{e p:Int}{M:Mk}(h:V8 w i 4 s=true):j7 N s (i:Int) e false p w M=some (((i+1:Nat):Int),(e,(false,(p,(w,M))))):=by
 unfold j7
 rw[c5n hl h,b9]
theorem N0{w:List A4}{i:Nat}{s:c8}{e p:Int}{M:Mk}(h:V8 w i 4 s=false):j7 N s (i:Int) e false p w M=some ((i:Int),(e,(true,(atS w i e,(w,M))))):=by
 unfold j7
 rw[c5m h,b9]
theorem A7{w:List A4}{a:Int}{s:c8}{e p:Int}{M:Mk}:j7 N s a e true p w M=some (a,(e,(true,(p,(w,M))))):=by
 unfold j7
 rw[c5l,b9]
theorem d8q{w:List A4}(hl:w.length<=50000){i:Nat}(h:i<w.length):l6 w (IntKind.i64.wrap (((i+1:Nat):Int)-1))=some w[i]:=by
 rw[c7r (by omega),show((i+1:Nat):Int)-1=(i:Int) by omega,o9 _ h]
theorem a5Q(hN:L7<=N){w:List A4}(hl:w.length<=50000)(hw:∀t∈w,a2h t){i:Nat}{s:c8}{e p:Int}{M:Mk}(h:P1 w i=some s):r8 N (i:Int) e false p w M=some (s,(((i+1:Nat):Int),(e,(false,(p,(w,M)))))):=by
 obtain⟨hi,h1,h2,rfl⟩:=Q5 h
 unfold r8
 rw[decide_eq_false (show ¬(i:Int)>=(w.length:Int) by omega)]
 simp only[d6,o9 _ hi,b9,h1,a0z hN _ (b9a hw hi),h2,Bool.not_true,b96 hl hi,d8q hl hi,show((1:Int) !=1)=false by decide]
theorem a2p(hN:L7<=N){w:List A4}(hw:∀t∈w,a2h t){i:Nat}{e p:Int}{M:Mk}(h:P1 w i=none):r8 N (i:Int) e false p w M=some (([]:c8),((i:Int),(e,(true,(atS w i e,(w,M)))))):=by
 unfold r8
 simp only[d6,a5P,b9]
 by_cases hi:i<w.length
 ·rw[decide_eq_false (show ¬(i:Int)>=(w.length:Int) by omega)]
  unfold P1 at h
  rw[List.getElem?_eq_getElem hi]at h
  simp only[d6,o9 _ hi,b9,a0z hN _ (b9a hw hi)]
  by_cases h1:w[i].1=1
  ·have h2:E6 w[i].2.1=false:=by simpa [h1]using h
   simp only[h1,h2,Bool.not_false,d4,d6,show((1:Int) !=1)=false by decide]
  ·rw[show(w[i].1 !=1)=true by simpa using h1,d4]
 ·rw[decide_eq_true (show(i:Int)>=(w.length:Int) by omega),d4]
theorem b80{w:List A4}(hl:w.length<=50000){i:Nat}{s:c8}{e p:Int}{M:Mk}(h:a2V w i=some s):I1 N (i:Int) e false p w M=some (s,(((i+1:Nat):Int),(e,(false,(p,(w,M)))))):=by
 obtain⟨hi,h1,h3⟩:=a2q h
 unfold I1
 rw[decide_eq_false (show ¬(i:Int)>=(w.length:Int) by omega)]
 simp only[d6,o9 _ hi,b9,h1,b96 hl hi,d8q hl hi,h3,show((2:Int) !=2)=false by decide]
theorem b8Z{w:List A4}{i:Nat}{e p:Int}{M:Mk}(h:a2V w i=none):I1 N (i:Int) e false p w M=some (([]:c8),((i:Int),(e,(true,(atS w i e,(w,M)))))):=by
 unfold I1
 simp only[d6,a5P,b9]
 by_cases hi:i<w.length
 ·rw[decide_eq_false (show ¬(i:Int)>=(w.length:Int) by omega)]
  unfold a2V at h
  rw[List.getElem?_eq_getElem hi]at h
  simp only[d6,o9 _ hi,b9]
  have h1:w[i].1≠2:=by simpa using h
  rw[show(w[i].1 !=2)=true by simpa using h1,d4]
 ·rw[decide_eq_true (show(i:Int)>=(w.length:Int) by omega),d4]
theorem b2r{n s:Nat}(hs:s<=100)(h:n<=1000000):decide (n*(24*s)<=140737488355328)=true:=by
 have h1:n*(24*s)<=1000000*(24*100):=Nat.mul_le_mul h (Nat.mul_le_mul_left 24 hs)
 exact decide_eq_true (by omega)
theorem c91{w:List A4}{i:Nat}{x e p:Int}{b:Bool}{M:Mk}(hM:M.length<=200000):M6 N x (i:Int) e b p w M=some ((i:Int),(e,(b,(p,(w,M ++ [(atS w i e,x)]))))):=by
 unfold M6
 simp only[b2Z,b9,x7,o7,b2r (s:=Ty.sz (.pr (.int .i64) (.int .i64))) (by decide) (show M.length + [(atS w i e,x)].length<=1000000 by simp;omega),d4]
def dp1(d:Int)(m:Int×Int):Int:=if m.2>=30 then(if d<0 then m.1 else d)else d
def dp(d:Int)(M:Mk):Int:=M.foldl dp1 d
theorem a1M(d:Int)(M K:Mk):dp d (M++K)=dp (dp d M) K:=by unfold dp;rw[List.foldl_append]
theorem a5K(a x:Int)(l:List A4)(e d:Int):M8 N a x l e d=some (l,(e,dp1 d (a,x))):=by
 unfold M8 dp1
 by_cases h:x>=30
 ·rw[decide_eq_true h,d4]
  by_cases h2:d<0
  ·rw[decide_eq_true h2,d4,if_pos h,if_pos h2]
  ·rw[decide_eq_false h2,d6,if_pos h,if_neg h2]
 ·rw[decide_eq_false h,d6,if_neg h]
end
section
variable{N:Nat}
theorem GPart.eta(g:GPart):GPart.mk g.kind g.text g.number g.keys g.at_ g.kids=g:=by cases g;rfl
theorem GExpr.eta(g:GExpr):GExpr.mk g.kind g.text g.number g.keys g.kids=g:=by cases g;rfl
section
variable(k n a:Int)(t:c8)(ks:List c8)(gs:List GPart)
theorem b24:(GPart.mk k t n ks a gs).kind=k:=rfl
theorem b8V:(GPart.mk k t n ks a gs).text=t:=rfl
theorem b05:(GPart.mk k t n ks a gs).number=n:=rfl
theorem b8U:(GPart.mk k t n ks a gs).keys=ks:=rfl
theorem c5h:(GPart.mk k t n ks a gs).at_=a:=rfl
theorem b23:(GPart.mk k t n ks a gs).kids=gs:=rfl
end
abbrev Rel:Type:=List (Int×Int)
def sh(x:Int)(m:Int×Int):Int×Int:=(m.1,m.2+x)
theorem b7I(R:Rel)(x y:Int):(R.map (sh x)).map (sh y)=R.map (sh (x+y)):=by
 rw[List.map_map]
 congr 1
 funext m
 simp only[sh,Function.comp]
 congr 1
 omega
def Pos(T:List (Int×Int)):Prop:=∀m∈T,0<=m.1
theorem Pos.app{T U:List (Int×Int)}(h:Pos T)(g:Pos U):Pos (T++U):=fun m hm=>by
 rcases List.mem_append.1 hm with hm|hm
 ·exact h m hm
 ·exact g m hm
theorem Pos.one{a x:Int}(h:0<=a):Pos [(a,x)]:=fun m hm=>by rw[List.mem_singleton.1 hm];exact h
theorem Pos.nil:Pos []:=fun m hm=>by simp at hm
def EOk:Nat->GExpr->Prop|0,_=>False|k+1,e=>(∃t:c8,t.length<=50000/\e = .mk 1 t 0 [] [])\/(∃n,e = .mk 2 [] n [] [])\/(∃t:c8,t.length<=50000/\E6 t=true/\e = .mk 3 t 0 [] [])\/(∃es:List GExpr,es.length<=50000/\e = .mk 4 [] 0 [] es/\∀c∈es,EOk k c)\/(∃a b,e = .mk 5 [] 0 [] [a,b]/\EOk k a/\EOk k b)\/(∃(ks:List c8) (es:List GExpr),ks.length=es.length/\0<es.length/\es.length<=50000/\(∀s∈ks,s.length<=50000)/\e = .mk 6 [] 0 ks es/\∀c∈es,EOk k c)\/(∃a b,e = .mk 7 [] 0 [] [a,b]/\EOk k a/\EOk k b)\/(∃a b,e = .mk 8 [] 0 [] [a,b]/\EOk k a/\EOk k b)
theorem EOk.succ:∀{k:Nat} {e:GExpr},EOk k e->EOk (k+1) e
 |0,_,h=>h.elim
 |k+1,e,h=>by
  rcases h with h|h|h|⟨es,h1,h2,h3⟩|⟨a,b,h1,h2,h3⟩|⟨ks,es,h0,hp,h1,h4,h2,h3⟩|⟨a,b,h1,h2,h3⟩|⟨a,b,h1,h2,h3⟩
  ·exact .inl h
  ·exact .inr (.inl h)
  ·exact .inr (.inr (.inl h))
  ·exact .inr (.inr (.inr (.inl ⟨es,h1,h2,fun c hc=>EOk.succ (h3 c hc)⟩)))
  ·exact .inr (.inr (.inr (.inr (.inl ⟨a,b,h1,EOk.succ h2,EOk.succ h3⟩))))
  ·exact .inr (.inr (.inr (.inr (.inr (.inl ⟨ks,es,h0,hp,h1,h4,h2,fun c hc=>EOk.succ (h3 c hc)⟩)))))
  ·exact .inr (.inr (.inr (.inr (.inr (.inr (.inl ⟨a,b,h1,EOk.succ h2,EOk.succ h3⟩))))))
  ·exact .inr (.inr (.inr (.inr (.inr (.inr (.inr ⟨a,b,h1,EOk.succ h2,EOk.succ h3⟩))))))
theorem EOk.mono{k m:Nat}{e:GExpr}(h:EOk k e)(hm:k<=m):EOk m e:=by
 obtain⟨d,rfl⟩:=Nat.exists_eq_add_of_le hm
 induction d with
 |zero=>exact h
 |succ d ih=>exact EOk.succ (ih (by omega))
theorem d5Q{d a x y:Int}(ha:0<=a)(h:x<=y):dp1 (dp1 d (a,x)) (a,y)=dp1 d (a,y):=by
 unfold dp1
 simp only
 split<;>split<;>(try split)<;>(try split)<;>omega
structure GoodP(N:Nat)(g:GPart)(E:GExpr)(R:Rel)(k:Nat):Prop where
 at0:0<=g.at_
 hd:∃a tl,R=(g.at_,a) :: tl/\0<=a
 lo:∀m∈R,0<=m.2/\m.2<=(k:Int)/\0<=m.1
 len:R.length<=k
 ok:EOk k E
 made:∀n,k<n->∀x:Int,0<=x->x+k<=200000->∀l e d,s8 N n g x l e d=some (E,(l,(e,dp d (R.map (sh x)))))
theorem GoodP.mono{g:GPart}{E:GExpr}{R:Rel}{k m:Nat}(h:GoodP N g E R k)(hm:k<=m):GoodP N g E R m:=
 ⟨h.at0,h.hd,fun z hz=>⟨(h.lo z hz).1,by have:=(h.lo z hz).2;omega⟩,by have:=h.len;omega,h.ok.mono hm,fun n hn x h0 hx l e d=>h.made n (by omega) x h0 (by omega) l e d⟩
theorem GoodP.dup{g:GPart}{E:GExpr}{R:Rel}{k:Nat}(h:GoodP N g E R k)(d x y:Int)(hy:x<=y)(T:Rel):dp (dp1 d (g.at_,x)) (R.map (sh y)++T)=dp d (R.map (sh y)++T):=by
 obtain⟨a,tl,h1,h2⟩:=h.hd
 rw[h1]
 show dp (dp1 (dp1 d (g.at_,x)) (g.at_,a+y)) _=dp (dp1 d (g.at_,a+y)) _
 rw[d5Q h.at0 (by omega)]
abbrev PZ:Type:=GPart×GExpr×Rel
theorem b3Z(hN:L7<=N){k n:Nat}(hk:k<n){c:Int}(h0:0<=c)(hc:c+k<=200000)(zs:List PZ)(hz:zs.length<=50000)(hg:∀z∈zs,GoodP N z.1 z.2.1 z.2.2 k)
  (K:List A4->Int->Int->List GExpr->Option (GExpr×List A4×Int×Int)) (l:List A4) (e:Int):∀(m f j:Nat) (d:Int),j+m=zs.length->m<f->
  e7I N (s8 N n) c (zs.map (·.1)) (zs.length:Int) K f (j:Int) l e d ((zs.take j).map (·.2.1))=K l e (dp d (((zs.drop j).map (·.2.2)).flatten.map (sh c))) (zs.map (·.2.1))
 |0,f,j,d,hj,hf=>by
  obtain⟨f,rfl⟩:∃q,f=q+1:=⟨f-1,by omega⟩
  obtain rfl:j=zs.length:=by omega
  show e5Z _ _ _ _ _ _ _ _ _ _ _ _=_
  unfold e5Z
  rw[a1f,d6,List.drop_length,List.take_length]
  rfl
 |m+1,f,j,d,hj,hf=>by
  obtain⟨f,rfl⟩:∃q,f=q+1:=⟨f-1,by omega⟩
  have h:j<zs.length:=by omega
  have ih:=b3Z hN hk h0 hc zs hz hg K l e m f (j+1) (dp d (zs[j].2.2.map (sh c))) (by omega) (by omega)
  show e5Z _ _ _ _ _ _ _ _ _ _ _ _=_
  unfold e5Z
  have hm:=(hg _ (List.getElem_mem h)).made n hk c h0 hc l e d
  rw[a0Z h,d4,o9 _ (by simpa using h),b9]
  simp only[List.getElem_map,GPart.eta,hm,b9]
  rw[b2r (s:=Ty.sz (.rc .expr)) (by decide) (show((zs.take j).map (·.2.1)).length + [zs[j].2.1].length<=1000000 by simp;omega),d4,O4 (m:=j+1) (by omega) (by omega)]
  rw[show(zs.take j).map (·.2.1) ++ [zs[j].2.1]=(zs.take (j+1)).map (·.2.1) by rw[List.take_succ_eq_append_getElem h,List.map_append];rfl]
  rw[ih,List.drop_eq_getElem_cons h]
  simp only[List.map_cons,List.flatten_cons,List.map_append,a1M]
theorem d8o(hN:L7<=N){k n:Nat}(hk:k<n){c:Int}(h0:0<=c)(hc:c+k<=200000)(zs:List PZ)(hz:zs.length<=50000)(hg:∀z∈zs,GoodP N z.1 z.2.1 z.2.2 k)
  (K:List A4->Int->Int->List GExpr->Option (GExpr×List A4×Int×Int)) (l:List A4) (e d:Int):
  e7I N (s8 N n) c (zs.map (·.1)) ((zs.map (·.1)).length:Int) K N 0 l e d []=K l e (dp d ((zs.map (·.2.2)).flatten.map (sh c))) (zs.map (·.2.1)):=by
 have:=b3Z hN hk h0 hc zs hz hg K l e zs.length N 0 d (by omega) (by unfold L7 at hN;omega)
 simpa using this
theorem a5H(hN:L7<=N){kind a:Int}{keys:List c8}(ha:0<=a)(h0:kind≠0)(h7:kind≠7){t:c8}{num:Int}{k m:Nat}(hm:k+1<=m)(zs:List PZ)(hz:zs.length<=50000)(hg:∀z∈zs,GoodP N z.1 z.2.1 z.2.2 k)
  (hl:(zs.map (·.2.2)).flatten.length+1<=m) (hok:EOk m (.mk kind t num keys (zs.map (·.2.1)))):
  GoodP N (.mk kind t num keys a (zs.map (·.1))) (.mk kind t num keys (zs.map (·.2.1))) ((a,0) :: (zs.map (·.2.2)).flatten.map (sh 1)) m:=by
 refine⟨ha,⟨0,_,rfl,by omega⟩,fun z hz=>?_,by rw[List.length_cons,List.length_map];exact hl,hok,fun n hn x hx0 hx l e d=>?_⟩
 ·rcases List.mem_cons.1 hz with rfl|hz
  ·simp[ha]
  ·obtain⟨y,hy,rfl⟩:=List.mem_map.1 hz
   obtain⟨r,hr,hy⟩:=List.mem_flatten.1 hy
   obtain⟨q,hq,rfl⟩:=List.mem_map.1 hr
   have:=(hg q hq).lo y hy
   simp only[sh];omega
 ·obtain⟨n,rfl⟩:∃q,n=q+1:=⟨n-1,by omega⟩
  show s4 N (s8 N n) _ _ _ _ _=_
  unfold s4
  simp only[c5h,b24,b8V,b05,b8U,b23,a5K,b9]
  rw[show(kind==0)=false by simpa using h0,show(kind !=7)=true by simpa using h7,d6,d4,D8 (n:=x+1) (by omega) (by omega)]
  rw[d8o hN (k:=k) (by omega) (by omega) (by omega) zs hz hg]
  simp only[List.map_cons,b7I]
  congr 4
  show dp (dp1 d (a,x)) _=dp (dp1 d (a,0+x)) _
  rw[Int.zero_add,Int.add_comm 1 x]
theorem b0R(hN:L7<=N){kind a:Int}(ha:0<=a)(h0:kind≠0)(h7:kind≠7){t:c8}{num:Int}{m:Nat}(hm:1<=m)(hok:EOk m (.mk kind t num [] [])):
  GoodP N (.mk kind t num [] a []) (.mk kind t num [] []) [(a,0)] m:=
 a5H hN (keys:=[]) ha h0 h7 (k:=0) (by omega) [] (by simp) (by simp) (by simp;omega) hok
theorem c2I(hN:L7<=N){a:Int}(ha:0<=a){g:GPart}{E:GExpr}{R:Rel}{k m:Nat}(hm:k+1<=m)(hg:GoodP N g E R k):GoodP N (.mk 0 [] 0 [] a [g]) E ((a,0) :: R.map (sh 1)) m:=by
 refine⟨ha,⟨0,_,rfl,by omega⟩,fun z hz=>?_,by have:=hg.len;simp;omega,hg.ok.mono (by omega),fun n hn x hx0 hx l e d=>?_⟩
 ·rcases List.mem_cons.1 hz with rfl|hz
  ·simp[ha]
  ·obtain⟨y,hy,rfl⟩:=List.mem_map.1 hz
   have:=hg.lo y hy
   simp only[sh];omega
 ·obtain⟨n,rfl⟩:∃q,n=q+1:=⟨n-1,by omega⟩
  show s4 N (s8 N n) _ _ _ _ _=_
  unfold s4
  simp only[c5h,b24,b23,a5K,b9,show((0:Int)==0)=true by decide,d4,show l6 [g] 0=some g from rfl]
  rw[D8 (n:=x+1) (by omega) (by omega),hg.made n (by omega) (x+1) (by omega) (by omega)]
  simp only[b9,GExpr.eta,List.map_cons,b7I]
  congr 4
  show dp (dp1 d (a,x)) _=dp (dp1 d (a,0+x)) _
  rw[Int.zero_add,Int.add_comm 1 x]
theorem b9S(hN:L7<=N){g1 g2:GPart}{E1 E2:GExpr}{R1 R2:Rel}{k1 k2 m:Nat}(hm:k1+k2<=m)(h1:k1+1<=m)(h2:k2+1<=m)(hg:GoodP N g1 E1 R1 k1)(hh:GoodP N g2 E2 R2 k2):
  GoodP N (.mk 8 [] 0 [] g1.at_ [g1,g2]) (.mk 8 [] 0 [] [E1,E2]) ((R1++R2).map (sh 1)) m/\GoodP N (.mk 7 [] 0 [] g1.at_ [g1,g2]) (.mk 7 [] 0 [] [E1,E2]) (R1++R2) m:=by
 have hz:∀z∈([(g1,(E1,R1)),(g2,(E2,R2))]:List PZ),GoodP N z.1 z.2.1 z.2.2 (m-1):=by
  intro z hz
  rcases List.mem_cons.1 hz with rfl|hz
  ·exact hg.mono (by omega)
  ·rw[List.mem_singleton.1 hz];exact hh.mono (by omega)
 obtain⟨a,tl,e1,ha⟩:=hg.hd
 obtain⟨m,rfl⟩:∃q,m=q+1:=⟨m-1,by omega⟩
 have L:=fun(n:Nat) (hn:m<n) c h0 hc K l e d=>d8o hN (k:=m) (n:=n) hn (c:=c) h0 hc [(g1,(E1,R1)),(g2,(E2,R2))] (by simp) hz K l e d
 have hlo:∀z∈R1++R2,0<=z.2/\z.2<=(m:Int)/\0<=z.1:=fun z hz=>by
  rcases List.mem_append.1 hz with hz|hz
  ·have:=hg.lo z hz;omega
  ·have:=hh.lo z hz;omega
 simp only[List.map_cons,List.map_nil,List.flatten_cons,List.flatten_nil,List.append_nil]at L
 refine⟨⟨hg.at0,⟨a+1,(tl++R2).map (sh 1),by rw[e1];rfl,by omega⟩,fun z hz=>?_,?_,?_,fun n hn x hx0 hx l e d=>?_⟩,⟨hg.at0,⟨a,tl++R2,by rw[e1];rfl,ha⟩,fun z hz=>?_,?_,?_,fun n hn x hx0 hx l e d=>?_⟩⟩
 ·obtain⟨y,hy,rfl⟩:=List.mem_map.1 hz
  have:=hlo y hy
  simp only[sh];omega
 ·have:=hg.len;have:=hh.len;simp;omega
 ·exact .inr (.inr (.inr (.inr (.inr (.inr (.inr ⟨E1,E2,rfl,hg.ok.mono (by omega),hh.ok.mono (by omega)⟩))))))
 ·obtain⟨n,rfl⟩:∃q,n=q+1:=⟨n-1,by omega⟩
  show s4 N (s8 N n) _ _ _ _ _=_
  unfold s4
  simp only[c5h,b24,b8V,b05,b8U,b23,a5K,b9,show((8:Int)==0)=false by decide,show((8:Int) !=7)=true by decide,d4,d6]
  rw[D8 (n:=x+1) (by omega) (by omega),L n (by omega) (x+1) (by omega) (by omega)]
  simp only[b7I,List.map_append]
  rw[hg.dup d x (x+1) (by omega),Int.add_comm 1 x]
 ·have:=hlo z hz;omega
 ·have:=hg.len;have:=hh.len;simp;omega
 ·exact .inr (.inr (.inr (.inr (.inr (.inr (.inl ⟨E1,E2,rfl,hg.ok.mono (by omega),hh.ok.mono (by omega)⟩))))))
 ·obtain⟨n,rfl⟩:∃q,n=q+1:=⟨n-1,by omega⟩
  show s4 N (s8 N n) _ _ _ _ _=_
  unfold s4
  simp only[c5h,b24,b8V,b05,b8U,b23,a5K,b9,show((7:Int)==0)=false by decide,show((7:Int) !=7)=false by decide,d6]
  rw[L n (by omega) x (by omega) (by omega)]
  simp only[List.map_append]
  rw[hg.dup d x x (by omega)]
theorem c0f(hN:L7<=N){r:Int->Int->Int->Bool->Int->List A4->Mk->Option (GExpr×Int×Int×Bool×Int×List A4×Mk)}{K:Mk->Option (GExpr×Int×Int×Bool×Int×List A4×Mk)}:
  ∀(R M:Mk) (f:Nat),(∀m∈R,0<=m.2/\m.2<=400000)->M.length+R.length<=900000->R.length<f->c49 N r K f (M.length:Int) (M++R)=K (M++R.map (sh 1))
 |[],M,f,hR,hl,hf=>by
  obtain⟨f,rfl⟩:∃q,f=q+1:=⟨f-1,by omega⟩
  show a7T _ _ _ _ _ _=_
  unfold a7T
  rw[List.append_nil,a1f,d6]
  simp
 |m :: R,M,f,hR,hl,hf=>by
  obtain⟨f,rfl⟩:∃q,f=q+1:=⟨f-1,by omega⟩
  have ih:=c0f hN (r:=r) (K:=K) R (M ++ [sh 1 m]) f (fun z hz=>hR z (List.mem_cons_of_mem _ hz)) (by simp at hl ⊢;omega) (by simp at hf;omega)
  have h:M.length<(M++m :: R).length:=by simp
  have hb:=hR m (List.mem_cons_self ..)
  show a7T _ _ _ _ _ _=_
  unfold a7T
  rw[a0Z h,d4,decide_eq_true (show(0:Int)<=(M.length:Int)/\(M.length:Int)<((M++m :: R).length:Int)from⟨by omega,by omega⟩),d4,o9 _ h]
  simp only[d4,b9,List.getElem_append_right (Nat.le_refl _),Nat.sub_self,List.getElem_cons_zero]
  rw[O4 (m:=M.length+1) (by omega) (by simp at hl;omega),D8 (n:=m.2+1) (by omega) (by omega)]
  have hs:B8 (M++m :: R) (M.length:Int) (m.1,m.2+1)=(M ++ [sh 1 m])++R:=by
   unfold B8 sh
   simp
  rw[hs,show((M.length+1:Nat):Int)=((M ++ [sh 1 m]).length:Int) by simp,ih]
  simp
end
end Go.Proofs.YtolpmfhiegpohaaGreatDoor
