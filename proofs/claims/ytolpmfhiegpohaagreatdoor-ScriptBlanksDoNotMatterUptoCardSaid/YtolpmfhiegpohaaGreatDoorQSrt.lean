/- More on loops over a list, without fuel. No program in sight. -/
import Derived.Test.YtolpmfhiegpohaaGreatDoorQFor
import Derived.Test.YtolpmfhiegpohaaGreatDoorQBmX
namespace Go.Proofs.YtolpmfhiegpohaaGreatDoor
set_option linter.unusedVariables false
set_option linter.unusedSimpArgs false
open Go Go.RowKit
section
theorem d88{R:Type}{p:Prop}[Decidable p]{x y:Option R}(h:p):br (decide p) x y=x:=by rw[decide_eq_true h,d4]
theorem c86{R:Type}{p:Prop}[Decidable p]{x y:Option R}(h:¬p):br (decide p) x y=y:=by rw[decide_eq_false h,d6]
theorem a0Z{i m:Nat}(h:i<m):decide ((i:Int)<(m:Int))=true:=decide_eq_true (by omega)
theorem a1f{m:Nat}:decide ((m:Int)<(m:Int))=false:=decide_eq_false (by omega)
end
section
open Go
theorem b2y{α:Type}{R:α->α->Prop}(hirr:∀a b,R a b->R b a->False):∀(l1 l2:List α),l1.Perm l2->l1.Pairwise R->l2.Pairwise R->l1=l2
 |[],l2,h,_,_=>(List.nil_perm.1 h).symm
 |a :: l1,[],h,_,_=>by have:=h.length_eq;simp at this
 |a :: l1,b :: l2,h,h1,h2=>by
  have hab:a=b:=by
   apply Classical.byContradiction
   intro hne
   have ha:a∈b :: l2:=h.subset (List.mem_cons_self ..)
   have hb:b∈a :: l1:=h.symm.subset (List.mem_cons_self ..)
   rcases List.mem_cons.1 ha with e|ha
   ·exact hne e
   ·rcases List.mem_cons.1 hb with e|hb
    ·exact hne e.symm
    ·exact hirr a b ((List.pairwise_cons.1 h1).1 b hb) ((List.pairwise_cons.1 h2).1 a ha)
  subst hab
  rw[b2y hirr l1 l2 (List.Perm.cons_inv h) (List.pairwise_cons.1 h1).2 (List.pairwise_cons.1 h2).2]
theorem a2B(a:c8):¬a<a:=List.lt_irrefl a
theorem b88{a b c:c8}(h1:a<b)(h2:b<c):a<c:=List.lt_trans h1 h2
end
end Go.Proofs.YtolpmfhiegpohaaGreatDoor
