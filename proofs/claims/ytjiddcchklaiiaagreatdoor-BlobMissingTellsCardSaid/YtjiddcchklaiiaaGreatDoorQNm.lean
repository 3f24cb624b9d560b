/- The printed stable sort of nodes, plainly: the merge. -/
import Derived.Test.YtjiddcchklaiiaaGreatDoorQLStC
import Derived.WalkSpells
import Derived.Deep.RegionHeld3
import Derived.Deep.DrawnRows
import Derived.IntWalk
import Derived.Handy
import Derived.Deep.DeepCutAuto
import Derived.Deep.DeepMust
import Derived.Test.YtjiddcchklaiiaaGreatDoorQTsT
namespace Go.Proofs.YtjiddcchklaiiaaGreatDoor
set_option linter.unusedVariables false
set_option linter.unusedSimpArgs false
open Go Go.RowKit
theorem lt_of_leN_lt {x y z : NodeD} (h : leN x y) (h2 : y.1 < z.1) : x.1 < z.1 := Decidable.byContradiction fun h3 => absurd (List.le_trans (List.not_lt.1 h3) (List.not_lt.1 h)) (List.not_le.2 h2)
theorem lt_of_lt_leN {x y z : NodeD} (h : x.1 < y.1) (h2 : leN y z) : x.1 < z.1 := Decidable.byContradiction fun h3 => absurd (List.le_trans (List.not_lt.1 h2) (List.not_lt.1 h3)) (List.not_le.2 h)
theorem leN_refl (x : NodeD) : leN x x := str_lt_irrefl _
def symK2 (r : Int → Int → Int → Unit → LN → Option LN) (mid e b : Int) (u : LN) : Option LN := br (decide (mid < e)) (br (decide (e < b)) (bnd (r mid e b () u) fun t => some t) (some u)) (some u)
def symK1 (r : Int → Int → Int → Unit → LN → Option LN) (a c mid e b : Int) (u : LN) : Option LN := br (decide (a < c)) (br (decide (c < mid)) (bnd (r a c mid () u) fun t => symK2 r mid e b t) (symK2 r mid e b u)) (symK2 r mid e b u)
noncomputable def symK0 (N : Nat) (r : Int → Int → Int → Unit → LN → Option LN) (a m mid b c e : Int) (w : LN) : Option LN := br (decide (c < m)) (br (decide (m < e)) (bnd (slices_rotateCmpFunc_blob_node N c m e () w) fun t => symK1 r a c mid e b t) (symK1 r a c mid e b w)) (symK1 r a c mid e b w)
abbrev midI (a b : Int) : Int := IntKind.i64.wrap (shrI .u64 (IntKind.u64.wrap (IntKind.i64.wrap (a + b))) (1 : Int))
theorem sym_body (N : Nat) (r : Int → Int → Int → Unit → LN → Option LN) (a m b : Int) (w : LN) : slices_symMergeCmpFunc_blob_node_b N r a m b () w =
   br ((IntKind.i64.wrap (m - a)) == (1 : Int))
     (z2L0 N r a w (fun o => z2L1 N r o (fun t => some t) N a w) N m b)
     (br ((IntKind.i64.wrap (b - m)) == (1 : Int))
       (z2L2 N r m w (fun o => z2L3 N r o (fun t => some t) N m w) N a m)
       (br (decide (0 ≤ (1 : Int)))
         (br (decide (m > midI a b))
           (z2L4 N r (IntKind.i64.wrap ((IntKind.i64.wrap (midI a b + m)) - (1 : Int))) w (fun o => symK0 N r a m (midI a b) b o (IntKind.i64.wrap ((IntKind.i64.wrap (midI a b + m)) - o)) w) N (IntKind.i64.wrap ((IntKind.i64.wrap (midI a b + m)) - b)) (midI a b))
           (z2L4 N r (IntKind.i64.wrap ((IntKind.i64.wrap (midI a b + m)) - (1 : Int))) w (fun o => symK0 N r a m (midI a b) b o (IntKind.i64.wrap ((IntKind.i64.wrap (midI a b + m)) - o)) w) N a m))
         none)) := rfl
def SymOk (r : Int → Int → Int → Unit → LN → Option LN) (d : Nat) : Prop := ∀ (P A B Z : LN) (a m b : Nat), P.length = a → P.length + A.length = m → P.length + A.length + B.length = b → 0 < A.length → 0 < B.length → A.length + B.length ≤ d → SortedN A → SortedN B →
 (P ++ (A ++ (B ++ Z))).length ≤ 1000000 → ∃ T, T.Perm (A ++ B) ∧ SortedN T ∧ r a m b () (P ++ (A ++ (B ++ Z))) = some (P ++ (T ++ Z))
theorem symK2_ok {r : Int → Int → Int → Unit → LN → Option LN} {d : Nat} (hr : SymOk r d) (P A B Z : LN) (mid e b : Nat) (h1 : P.length = mid) (h2 : P.length + A.length = e) (h3 : P.length + A.length + B.length = b) (h4 : A.length + B.length ≤ d) (h5 : SortedN A) (h6 : SortedN B) (h7 : (P ++ (A ++ (B ++ Z))).length ≤ 1000000) :
   ∃ T, T.Perm (A ++ B) ∧ SortedN T ∧ symK2 r mid e b (P ++ (A ++ (B ++ Z))) = some (P ++ (T ++ Z)) := by
 unfold symK2
 by_cases hA : A = []
 · subst hA
   simp only [List.length_nil, Nat.add_zero] at h2
   exact ⟨B, List.Perm.refl _, h6, by rw [decide_eq_false (by omega), br_false]; rfl⟩
 · have hA' := List.length_pos_iff.2 hA
   rw [decide_eq_true (by omega), br_true]
   by_cases hB : B = []
   · subst hB
     simp only [List.length_nil, Nat.add_zero] at h3
     exact ⟨A, by simp, h5, by rw [decide_eq_false (by omega), br_false]; rfl⟩
   · have hB' := List.length_pos_iff.2 hB
     obtain ⟨T, t1, t2, t3⟩ := hr P A B Z mid e b h1 h2 h3 hA' hB' h4 h5 h6 h7
     exact ⟨T, t1, t2, by rw [decide_eq_true (by omega), br_true, t3, bnd_some]⟩
theorem symK1_ok {r : Int → Int → Int → Unit → LN → Option LN} {d : Nat} (hr : SymOk r d) (P A1 B1 A2 B2 Z : LN) (a c mid e b : Nat) (h0 : P.length = a) (h1 : a + A1.length = c) (h2 : c + B1.length = mid) (h3 : mid + A2.length = e) (h4 : e + B2.length = b) (h5 : A1.length + B1.length ≤ d) (h6 : A2.length + B2.length ≤ d)
   (s1 : SortedN A1) (s2 : SortedN B1) (s3 : SortedN A2) (s4 : SortedN B2) (h7 : (P ++ (A1 ++ (B1 ++ (A2 ++ (B2 ++ Z))))).length ≤ 1000000) :
   ∃ T1 T2, T1.Perm (A1 ++ B1) ∧ SortedN T1 ∧ T2.Perm (A2 ++ B2) ∧ SortedN T2 ∧ symK1 r a c mid e b (P ++ (A1 ++ (B1 ++ (A2 ++ (B2 ++ Z))))) = some (P ++ (T1 ++ (T2 ++ Z))) := by
 have two : ∀ T1 : LN, T1.length = A1.length + B1.length → ∃ T2, T2.Perm (A2 ++ B2) ∧ SortedN T2 ∧ symK2 r mid e b (P ++ (T1 ++ (A2 ++ (B2 ++ Z)))) = some (P ++ (T1 ++ (T2 ++ Z))) := fun T1 hl => by
   obtain ⟨T2, u1, u2, u3⟩ := symK2_ok hr (P ++ T1) A2 B2 Z mid e b (by rw [List.length_append]; omega) (by rw [List.length_append]; omega) (by rw [List.length_append]; omega) h6 s3 s4 (by simp only [List.length_append] at h7 ⊢; omega)
   exact ⟨T2, u1, u2, by simpa using u3⟩
 unfold symK1
 by_cases hA : A1 = []
 · subst hA
   simp only [List.length_nil, Nat.add_zero] at h1
   rw [decide_eq_false (by omega), br_false]
   obtain ⟨T2, u1, u2, u3⟩ := two B1 (by simp)
   exact ⟨B1, T2, List.Perm.refl _, s2, u1, u2, by simpa using u3⟩
 · have hA' := List.length_pos_iff.2 hA
   rw [decide_eq_true (by omega), br_true]
   by_cases hB : B1 = []
   · subst hB
     simp only [List.length_nil, Nat.add_zero] at h2
     rw [decide_eq_false (by omega), br_false]
     obtain ⟨T2, u1, u2, u3⟩ := two A1 (by simp)
     exact ⟨A1, T2, by simp, s1, u1, u2, by simpa using u3⟩
   · have hB' := List.length_pos_iff.2 hB
     obtain ⟨T1, t1, t2, t3⟩ := hr P A1 B1 (A2 ++ (B2 ++ Z)) a c mid h0 (by omega) (by omega) hA' hB' h5 s1 s2 h7
     obtain ⟨T2, u1, u2, u3⟩ := two T1 (by rw [t1.length_eq, List.length_append])
     exact ⟨T1, T2, t1, t2, u1, u2, by rw [decide_eq_true (by omega), br_true, t3, bnd_some, u3]⟩
theorem symK0_ok {N : Nat} (hN : 1000000 < N) {r : Int → Int → Int → Unit → LN → Option LN} {d : Nat} (hr : SymOk r d) (P A1 A2 B1 B2 Z : LN) (a c m mid e b : Nat) (h0 : P.length = a) (h1 : a + A1.length = c) (h2 : c + A2.length = m) (h3 : m + B1.length = e) (h4 : e + B2.length = b) (hm : c + B1.length = mid)
   (h5 : A1.length + B1.length ≤ d) (h6 : A2.length + B2.length ≤ d) (s1 : SortedN (A1 ++ A2)) (s2 : SortedN (B1 ++ B2)) (x1 : ∀ u ∈ A1, ∀ v ∈ B2, leN u v) (x2 : ∀ u ∈ B1, ∀ v ∈ A2, leN u v) (h7 : (P ++ ((A1 ++ A2) ++ ((B1 ++ B2) ++ Z))).length ≤ 1000000) :
   ∃ T, T.Perm ((A1 ++ A2) ++ (B1 ++ B2)) ∧ SortedN T ∧ symK0 N r a m mid b c e (P ++ ((A1 ++ A2) ++ ((B1 ++ B2) ++ Z))) = some (P ++ (T ++ Z)) := by
 simp only [List.length_append] at h7
 have p1 := List.pairwise_append.1 s1
 have p2 := List.pairwise_append.1 s2
 obtain ⟨T1, T2, t1, t2, u1, u2, hk⟩ := symK1_ok hr P A1 B1 A2 B2 Z a c mid e b h0 h1 hm (by omega) h4 h5 h6 p1.1 p2.1 p1.2.1 p2.2.1 (by simp only [List.length_append]; omega)
 refine ⟨T1 ++ T2, ?_, ?_, ?_⟩
 · refine (t1.append u1).trans ?_
   rw [List.append_assoc, List.append_assoc]
   refine List.Perm.append_left A1 ?_
   rw [← List.append_assoc, ← List.append_assoc]
   exact List.Perm.append_right B2 List.perm_append_comm
 · refine List.pairwise_append.2 ⟨t2, u2, fun x hx y hy => ?_⟩
   have hx' := List.mem_append.1 (t1.mem_iff.1 hx)
   have hy' := List.mem_append.1 (u1.mem_iff.1 hy)
   rcases hx' with hx' | hx' <;> rcases hy' with hy' | hy'
   · exact p1.2.2 x hx' y hy'
   · exact x1 x hx' y hy'
   · exact x2 x hx' y hy'
   · exact p2.2.2 x hx' y hy'
 · have hk' : symK1 r a c mid e b (P ++ (A1 ++ (B1 ++ (A2 ++ (B2 ++ Z))))) = some (P ++ (T1 ++ T2 ++ Z)) := by rw [hk]; simp
   unfold symK0
   by_cases hA : A2 = []
   · subst hA
     simp only [List.length_nil, Nat.add_zero] at h2
     rw [decide_eq_false (by omega), br_false, ← hk']
     simp
   · have hA' := List.length_pos_iff.2 hA
     rw [decide_eq_true (by omega), br_true]
     by_cases hB : B1 = []
     · subst hB
       simp only [List.length_nil, Nat.add_zero] at h3
       rw [decide_eq_false (by omega), br_false, ← hk']
       simp
     · have hB' := List.length_pos_iff.2 hB
       have hrot := rotate_eq hN (P ++ A1) A2 B1 (B2 ++ Z) c m e (by rw [List.length_append]; omega) (by rw [List.length_append]; omega) (by rw [List.length_append]; omega) hA' hB' (by rw [List.length_append]; omega)
       have e1 : P ++ (A1 ++ A2 ++ (B1 ++ B2 ++ Z)) = P ++ A1 ++ (A2 ++ (B1 ++ (B2 ++ Z))) := by simp
       have e2 : P ++ A1 ++ (B1 ++ (A2 ++ (B2 ++ Z))) = P ++ (A1 ++ (B1 ++ (A2 ++ (B2 ++ Z)))) := by simp
       rw [decide_eq_true (by omega), br_true, e1, hrot, bnd_some, e2, hk']
theorem mid_at (P A R : LN) (i : Nat) (h1 : P.length ≤ i) (h3 : i < P.length + A.length) : (P ++ (A ++ R))[i]'(by simp; omega) = A[i - P.length]'(by omega) := by
 have hi : i - P.length < A.length := by omega
 rw [List.getElem_append_right h1, List.getElem_append_left hi]
theorem srt_at (P A R : LN) (hA : SortedN A) : ∀ (i j : Nat) (h1 : P.length ≤ i) (h2 : i ≤ j) (h3 : j < P.length + A.length), leN ((P ++ (A ++ R))[i]'(by simp; omega)) ((P ++ (A ++ R))[j]'(by simp; omega)) := fun i j h1 h2 h3 => by
 rw [mid_at P A R i h1 (by omega), mid_at P A R j (by omega) h3]
 by_cases h : i = j
 · subst h; exact leN_refl _
 · exact List.pairwise_iff_getElem.1 hA _ _ _ _ (by omega)
theorem split_at (A : LN) (k : Nat) (h : k ≤ A.length) : ∃ A1 A2, A = A1 ++ A2 ∧ A1.length = k := ⟨A.take k, A.drop k, (List.take_append_drop _ _).symm, by rw [List.length_take]; omega⟩
set_option maxHeartbeats 8000000 in
theorem sym_ok {N : Nat} (hN : 1000000 < N) : ∀ d, SymOk (slices_symMergeCmpFunc_blob_node N d) d
 | 0 => fun P A B Z a m b h1 h2 h3 h4 h5 h6 => by omega
 | d + 1 => fun P A B Z a m b h1 h2 h3 h4 h5 h6 sA sB hl => by
   have ih := sym_ok hN d
   show ∃ T, T.Perm (A ++ B) ∧ SortedN T ∧ slices_symMergeCmpFunc_blob_node_b N (slices_symMergeCmpFunc_blob_node N d) a m b () (P ++ (A ++ (B ++ Z))) = _
   rw [sym_body]
   obtain ⟨w, hw⟩ : ∃ w, P ++ (A ++ (B ++ Z)) = w := ⟨_, rfl⟩
   have hwl : w.length = P.length + A.length + B.length + Z.length := by rw [← hw]; simp only [List.length_append]; omega
   have hl' : w.length ≤ 1000000 := by rw [← hw]; exact hl
   have hw2 : (P ++ A) ++ (B ++ Z) = w := by rw [← hw]; simp
   have oA : ∀ (i j : Nat) (h1 : a ≤ i) (h2 : i ≤ j) (h3 : j < m), leN (w[i]'(by omega)) (w[j]'(by omega)) := fun i j q1 q2 q3 => by
     subst hw
     exact srt_at P A (B ++ Z) sA i j (by omega) q2 (by omega)
   have oB : ∀ (i j : Nat) (h1 : m ≤ i) (h2 : i ≤ j) (h3 : j < b), leN (w[i]'(by omega)) (w[j]'(by omega)) := fun i j q1 q2 q3 => by
     subst hw2
     exact srt_at (P ++ A) B Z sB i j (by rw [List.length_append]; omega) q2 (by rw [List.length_append]; omega)
   rw [hw, w64 ((m : Int) - a) (by omega) (by omega), w64 ((b : Int) - m) (by omega) (by omega)]
   by_cases ca : A.length = 1
   · rw [show ((m : Int) - a == 1) = true by rw [beq_iff_eq]; omega, br_true]
     obtain ⟨c, k1, k2, k3, k4, k5⟩ := srch0 (N := N) (r := slices_symMergeCmpFunc_blob_node N d) (w := w) a m b (by omega) (by omega) hl' (by omega) hN (fun i j q1 q2 q3 q4 => by
       rw [ltAt_eq (by omega) (by omega)] at q4 ⊢
       exact decide_eq_true (lt_of_leN_lt (oB i j q1 q2 q3) (of_decide_eq_true q4)))
     rw [k3]
     obtain ⟨x, rfl⟩ := List.length_eq_one_iff.1 ca
     obtain ⟨B1, B2, rfl, hb1⟩ := split_at B (c - m) (by omega)
     simp only [List.length_append, List.length_singleton] at h2 h3 hwl
     have e1 : w = P ++ x :: (B1 ++ (B2 ++ Z)) := by rw [← hw]; simp
     have hf := fwd (N := N) (r := slices_symMergeCmpFunc_blob_node N d) (fun t => some t) x (B2 ++ Z) (c : Int) B1 P N (a : Int) (by omega) (by omega) (by omega) (by omega)
     rw [← e1] at hf
     rw [hf]
     have hx : w[a]'(by omega) = x := by subst hw; rw [mid_at P [x] _ a (by omega) (by simp; omega)]; simp [h1]
     have p2 := List.pairwise_append.1 sB
     refine ⟨B1 ++ x :: B2, ?_, ?_, by simp⟩
     · exact List.perm_middle
     · refine List.pairwise_append.2 ⟨p2.1, List.Pairwise.cons (fun z hz => ?_) p2.2.1, fun u hu y hy => ?_⟩
       · obtain ⟨i, hi, rfl⟩ := List.getElem_of_mem hz
         have q := k5 (c + i) (by omega) (by omega)
         rw [ltAt_eq (by omega) (by omega), hx] at q
         have e : w[c + i]'(by omega) = B2[i] := by
           have : w = (P ++ [x] ++ B1) ++ (B2 ++ Z) := by rw [e1]; simp
           subst this
           rw [mid_at (P ++ [x] ++ B1) B2 Z (c + i) (by simp; omega) (by simp; omega)]
           congr 1
           simp; omega
         rw [e] at q
         exact of_decide_eq_false q
       · rcases List.mem_cons.1 hy with rfl | hy
         · obtain ⟨i, hi, rfl⟩ := List.getElem_of_mem hu
           have q := k4 (m + i) (by omega) (by omega)
           rw [ltAt_eq (by omega) (by omega), hx] at q
           have e : w[m + i]'(by omega) = B1[i] := by
             have : w = (P ++ [y]) ++ (B1 ++ (B2 ++ Z)) := by rw [e1]; simp
             subst this
             rw [mid_at (P ++ [y]) B1 (B2 ++ Z) (m + i) (by simp; omega) (by simp; omega)]
             congr 1
             simp; omega
           rw [e] at q
           exact leN_of_lt (of_decide_eq_true q)
         · exact p2.2.2 u hu y hy
   · rw [show ((m : Int) - a == 1) = false by rw [beq_eq_false_iff_ne]; omega, br_false]
     by_cases cb : B.length = 1
     · rw [show ((b : Int) - m == 1) = true by rw [beq_iff_eq]; omega, br_true]
       obtain ⟨c, k1, k2, k3, k4, k5⟩ := srch2 (N := N) (r := slices_symMergeCmpFunc_blob_node N d) (w := w) m a m (by omega) (by omega) hl' (by omega) hN (fun i j q1 q2 q3 q4 => by
         rw [ltAt_eq (by omega) (by omega)] at q4 ⊢
         simp only [Bool.not_eq_true', decide_eq_false_iff_not] at q4 ⊢
         exact fun q5 => q4 (lt_of_lt_leN q5 (oA i j q1 q2 q3)))
       rw [k3]
       obtain ⟨y, rfl⟩ := List.length_eq_one_iff.1 cb
       obtain ⟨A1, A2, rfl, ha1⟩ := split_at A (c - a) (by omega)
       simp only [List.length_append, List.length_singleton] at h2 h3 hwl
       have e1 : w = (P ++ A1) ++ (A2 ++ y :: Z) := by rw [← hw]; simp
       have hf := bwd (N := N) (r := slices_symMergeCmpFunc_blob_node N d) (fun t => some t) y (P ++ A1) (c : Int) (by rw [List.length_append]; omega) A2.length A2 Z N (m : Int) rfl (by rw [List.length_append]; omega) (by omega) (by rw [List.length_append]; omega)
       rw [← e1] at hf
       rw [hf]
       have hy : w[m]'(by omega) = y := by
         have : w = (P ++ A1 ++ A2) ++ ([y] ++ Z) := by rw [e1]; simp
         subst this
         rw [mid_at (P ++ A1 ++ A2) [y] Z m (by simp; omega) (by simp; omega)]
         simp
       have p2 := List.pairwise_append.1 sA
       have q4 : ∀ u ∈ A1, leN u y := fun u hu => by
         obtain ⟨i, hi, rfl⟩ := List.getElem_of_mem hu
         have q := k4 (a + i) (by omega) (by omega)
         rw [ltAt_eq (by omega) (by omega), hy] at q
         have e : w[a + i]'(by omega) = A1[i] := by
           have : w = P ++ (A1 ++ (A2 ++ y :: Z)) := by rw [e1]; simp
           subst this
           rw [mid_at P A1 (A2 ++ y :: Z) (a + i) (by omega) (by omega)]
           congr 1
           omega
         rw [e] at q
         simpa [leN] using q
       have q5 : ∀ u ∈ A2, y.1 < u.1 := fun u hu => by
         obtain ⟨i, hi, rfl⟩ := List.getElem_of_mem hu
         have q := k5 (c + i) (by omega) (by omega)
         rw [ltAt_eq (by omega) (by omega), hy] at q
         have e : w[c + i]'(by omega) = A2[i] := by
           subst e1
           rw [mid_at (P ++ A1) A2 (y :: Z) (c + i) (by simp; omega) (by simp; omega)]
           congr 1
           simp; omega
         rw [e] at q
         simpa using q
       refine ⟨A1 ++ y :: A2, ?_, ?_, by simp⟩
       · rw [List.append_assoc]
         exact List.Perm.append_left A1 (List.perm_append_comm (l₁ := [y]) (l₂ := A2))
       · refine List.pairwise_append.2 ⟨p2.1, List.Pairwise.cons (fun z hz => leN_of_lt (q5 z hz)) p2.2.1, fun u hu z hz => ?_⟩
         rcases List.mem_cons.1 hz with rfl | hz
         · exact q4 u hu
         · exact p2.2.2 u hu z hz
     · rw [show ((b : Int) - m == 1) = false by rw [beq_eq_false_iff_ne]; omega, br_false, decide_eq_true (by decide), br_true]
       obtain ⟨mid, hmid⟩ : ∃ mid, (a + b) / 2 = mid := ⟨_, rfl⟩
       have hmi : midI a b = (mid : Int) := by rw [← hmid]; exact mid_eq a b (by omega)
       have es : IntKind.i64.wrap ((mid : Int) + m) = ((mid + m : Nat) : Int) := by rw [w64 _ (by omega) (by omega)]; omega
       have ep : IntKind.i64.wrap (((mid + m : Nat) : Int) - 1) = ((mid + m - 1 : Nat) : Int) := by rw [w64 _ (by omega) (by omega)]; omega
       rw [hmi, es, ep]
       have fin : ∀ lo hi c : Nat, a ≤ lo → lo ≤ c → c ≤ hi → hi ≤ m → hi ≤ mid → mid + m - b ≤ lo → (lo = a ∨ lo = mid + m - b) → (hi = m ∨ hi = mid) → (∀ i, lo ≤ i → i < c → (!ltAt w (mid + m - 1 - i) i) = true) → (∀ i, c ≤ i → i < hi → (!ltAt w (mid + m - 1 - i) i) = false) →
           ∃ T, T.Perm (A ++ B) ∧ SortedN T ∧ symK0 N (slices_symMergeCmpFunc_blob_node N d) a m mid b c (IntKind.i64.wrap (((mid + m : Nat) : Int) - c)) w = some (P ++ (T ++ Z)) := fun lo hi c q1 q2 q3 q4 q5 q6 q7 q8 q9 q10 => by
         have ee : IntKind.i64.wrap (((mid + m : Nat) : Int) - c) = ((mid + m - c : Nat) : Int) := by rw [w64 _ (by omega) (by omega)]; omega
         rw [ee]
         obtain ⟨A1, A2, rfl, ha1⟩ := split_at A (c - a) (by omega)
         obtain ⟨B1, B2, rfl, hb1⟩ := split_at B (mid - c) (by omega)
         simp only [List.length_append] at h2 h3 hwl ca cb h4 h5 h6
         have aA1 : ∀ (i : Nat) (hi : i < A1.length), w[a + i]'(by omega) = A1[i] := fun i hi => by
           have : w = P ++ (A1 ++ (A2 ++ (B1 ++ (B2 ++ Z)))) := by rw [← hw]; simp
           subst this
           rw [mid_at P A1 _ (a + i) (by omega) (by omega)]
           congr 1; omega
         have aA2 : ∀ (i : Nat) (hi : i < A2.length), w[c + i]'(by omega) = A2[i] := fun i hi => by
           have : w = (P ++ A1) ++ (A2 ++ (B1 ++ (B2 ++ Z))) := by rw [← hw]; simp
           subst this
           rw [mid_at (P ++ A1) A2 _ (c + i) (by simp; omega) (by simp; omega)]
           congr 1; simp; omega
         have aB1 : ∀ (i : Nat) (hi : i < B1.length), w[m + i]'(by omega) = B1[i] := fun i hi => by
           have : w = (P ++ A1 ++ A2) ++ (B1 ++ (B2 ++ Z)) := by rw [← hw]; simp
           subst this
           rw [mid_at (P ++ A1 ++ A2) B1 _ (m + i) (by simp; omega) (by simp; omega)]
           congr 1; simp; omega
         have aB2 : ∀ (i : Nat) (hi : i < B2.length), w[mid + m - c + i]'(by omega) = B2[i] := fun i hi => by
           have : w = (P ++ A1 ++ A2 ++ B1) ++ (B2 ++ Z) := by rw [← hw]; simp
           subst this
           rw [mid_at (P ++ A1 ++ A2 ++ B1) B2 _ (mid + m - c + i) (by simp; omega) (by simp; omega)]
           congr 1; simp; omega
         have x1 : ∀ u ∈ A1, ∀ v ∈ B2, leN u v := fun u hu v hv => by
           obtain ⟨i, hi', rfl⟩ := List.getElem_of_mem hu
           obtain ⟨j, hj', rfl⟩ := List.getElem_of_mem hv
           have hlc : lo < c := by omega
           rw [← aA1 i hi', ← aB2 j hj']
           have q := q9 (c - 1) (by omega) (by omega)
           rw [show mid + m - 1 - (c - 1) = mid + m - c by omega, ltAt_eq (by omega) (by omega)] at q
           have q' : leN (w[c - 1]'(by omega)) (w[mid + m - c]'(by omega)) := by simpa [leN] using q
           exact leN_trans (oA (a + i) (c - 1) (by omega) (by omega) (by omega)) (leN_trans q' (oB (mid + m - c) _ (by omega) (by omega) (by omega)))
         have x2 : ∀ u ∈ B1, ∀ v ∈ A2, leN u v := fun u hu v hv => by
           obtain ⟨i, hi', rfl⟩ := List.getElem_of_mem hu
           obtain ⟨j, hj', rfl⟩ := List.getElem_of_mem hv
           have hlc : c < hi := by omega
           rw [← aB1 i hi', ← aA2 j hj']
           have q := q10 c (by omega) (by omega)
           rw [ltAt_eq (by omega) (by omega)] at q
           have q' : (w[mid + m - 1 - c]'(by omega)).1 < (w[c]'(by omega)).1 := by simpa using q
           exact leN_of_lt (lt_of_leN_lt (oB (m + i) (mid + m - 1 - c) (by omega) (by omega) (by omega)) (lt_of_lt_leN q' (oA c _ (by omega) (by omega) (by omega))))
         have := symK0_ok hN ih P A1 A2 B1 B2 Z a c m mid (mid + m - c) b h1 (by omega) (by omega) (by omega) (by omega) (by omega) (by omega) (by omega) sA sB x1 x2 hl
         rw [hw] at this
         exact this
       by_cases cm : m > mid
       · rw [decide_eq_true (by omega), br_true]
         have el : IntKind.i64.wrap (((mid + m : Nat) : Int) - b) = ((mid + m - b : Nat) : Int) := by rw [w64 _ (by omega) (by omega)]; omega
         rw [el]
         obtain ⟨c, k1, k2, k3, k4, k5⟩ := srch4 (N := N) (r := slices_symMergeCmpFunc_blob_node N d) (w := w) (mid + m - 1) (mid + m - b) mid (by omega) (by omega) (by omega) hl' (by omega) (by omega) hN (fun i j q1 q2 q3 q4 => by
           rw [ltAt_eq (by omega) (by omega)] at q4 ⊢
           simp only [Bool.not_eq_true', decide_eq_false_iff_not] at q4 ⊢
           exact fun q5 => q4 (lt_of_lt_leN (lt_of_leN_lt (oB (mid + m - 1 - j) (mid + m - 1 - i) (by omega) (by omega) (by omega)) q5) (oA i j (by omega) q2 (by omega))))
         rw [k3]
         exact fin (mid + m - b) mid c (by omega) k1 k2 (by omega) (Nat.le_refl _) (Nat.le_refl _) (.inr rfl) (.inr rfl) k4 k5
       · rw [decide_eq_false (by omega), br_false]
         obtain ⟨c, k1, k2, k3, k4, k5⟩ := srch4 (N := N) (r := slices_symMergeCmpFunc_blob_node N d) (w := w) (mid + m - 1) a m (by omega) (by omega) (by omega) hl' (by omega) (by omega) hN (fun i j q1 q2 q3 q4 => by
           rw [ltAt_eq (by omega) (by omega)] at q4 ⊢
           simp only [Bool.not_eq_true', decide_eq_false_iff_not] at q4 ⊢
           exact fun q5 => q4 (lt_of_lt_leN (lt_of_leN_lt (oB (mid + m - 1 - j) (mid + m - 1 - i) (by omega) (by omega) (by omega)) q5) (oA i j (by omega) q2 (by omega))))
         rw [k3]
         exact fin a m c (Nat.le_refl _) k1 k2 (Nat.le_refl _) (by omega) (by omega) (.inl rfl) (.inl rfl) k4 k5
end Go.Proofs.YtjiddcchklaiiaaGreatDoor


/- The printed stable sort of nodes, plainly: blocks are put in order, then merged. -/
namespace Go.Proofs.YtjiddcchklaiiaaGreatDoor
set_option linter.unusedVariables false
set_option linter.unusedSimpArgs false
open Go Go.RowKit
inductive Blks (k : Nat) : LN → Prop
 | last (T : LN) : T.length ≤ k → SortedN T → Blks k T
 | cons (T w : LN) : T.length = k → SortedN T → Blks k w → Blks k (T ++ w)
theorem blks_one {k : Nat} {w : LN} (h : Blks k w) (hl : w.length ≤ k) : SortedN w := by
 cases h with
 | last T h1 h2 => exact h2
 | cons T w h1 h2 h3 =>
   rw [List.length_append] at hl
   have : w = [] := List.eq_nil_of_length_eq_zero (by omega)
   rw [this, List.append_nil]; exact h2
theorem blks_first {k : Nat} {w : LN} (h : Blks k w) (hl : k ≤ w.length) : ∃ T v, w = T ++ v ∧ T.length = k ∧ SortedN T ∧ Blks k v := by
 cases h with
 | last T h1 h2 => exact ⟨w, [], by simp, by omega, h2, .last [] (Nat.zero_le _) List.Pairwise.nil⟩
 | cons T w h1 h2 h3 => exact ⟨T, w, rfl, h1, h2, h3⟩
section
variable {N : Nat}
theorem stL0 (hN : 1000000 < N) (n : Int) (K : LN → Option LN) : ∀ (f : Nat) (X P : LN) (fuel : Nat) (a : Int), X.length ≤ f → (P.length : Int) = a → ((P.length + X.length : Nat) : Int) = n → X.length < fuel → P.length + X.length ≤ 1000000 →
   ∃ X', X'.Perm X ∧ Blks 20 X' ∧ z7L0 N n () 20 (fun o w => bnd (slices_insertionSortCmpFunc_blob_node N o n () w) fun t => K t) fuel a (a + 20) (P ++ X) = K (P ++ X')
 | f, X, P, fuel + 1, a, hf, h1, h2, h3, h4 => by
   rw [z7L0]
   unfold z7L0T
   by_cases hb : a + 20 ≤ n
   · rw [decide_eq_true hb, br_true]
     obtain ⟨X1, X2, rfl, hx1⟩ := split_at X 20 (by omega)
     rw [List.length_append] at hf h2 h3 h4
     obtain ⟨T, t1, t2, t3⟩ := insertion_eq hN P X1 X2 a (a + 20) h1 (by omega) (by omega)
     have hl := t1.length_eq
     rw [t3, bnd_some, w64 (a + 20 + 20) (by omega) (by omega)]
     cases f with
     | zero => omega
     | succ f =>
       obtain ⟨X', u1, u2, u3⟩ := stL0 hN n K f X2 (P ++ T) fuel (a + 20) (by omega) (by rw [List.length_append]; omega) (by rw [List.length_append]; omega) (by omega) (by rw [List.length_append]; omega)
       refine ⟨T ++ X', t1.append u1, .cons T X' (by omega) t2 u2, ?_⟩
       rw [← List.append_assoc, u3, List.append_assoc]
   · rw [decide_eq_false hb, br_false]
     obtain ⟨T, t1, t2, t3⟩ := insertion_eq hN P X [] a n h1 h2 (by simp; omega)
     simp only [List.append_nil] at t3
     have hl := t1.length_eq
     exact ⟨T, t1, .last T (by omega) t2, by simp only []; rw [t3, bnd_some]⟩
theorem stL2 (hN : 1000000 < N) (n : Int) (k : Nat) (hk : 0 < k) (hk2 : k ≤ 1000000) (K : LN → Option LN) : ∀ (f : Nat) (X P : LN) (fuel : Nat) (a : Int), X.length ≤ f → (P.length : Int) = a → ((P.length + X.length : Nat) : Int) = n → X.length < fuel → P.length + X.length ≤ 1000000 → Blks k X →
   ∃ X', X'.Perm X ∧ Blks (2 * k) X' ∧ z7L2 N n () k (fun o w => br (decide (IntKind.i64.wrap (o + k) < n)) (bnd (slices_symMergeCmpFunc_blob_node N N o (IntKind.i64.wrap (o + k)) n () w) fun t => K t) (K w)) fuel a (a + 2 * k) (P ++ X) = K (P ++ X')
 | f, X, P, fuel + 1, a, hf, h1, h2, h3, h4, hB => by
   rw [z7L2]
   unfold z7L2T
   rw [w64 (a + k) (by omega) (by omega)]
   by_cases hb : a + 2 * k ≤ n
   · rw [decide_eq_true hb, br_true]
     obtain ⟨T1, v, rfl, hT1, sT1, hv⟩ := blks_first hB (by omega)
     rw [List.length_append] at hf h2 h3 h4
     obtain ⟨T2, X2, rfl, hT2, sT2, hX2⟩ := blks_first hv (by omega)
     rw [List.length_append] at hf h2 h3 h4
     obtain ⟨T, t1, t2, t3⟩ := sym_ok (N := N) hN N P T1 T2 X2 P.length (P.length + k) (P.length + 2 * k) rfl (by omega) (by omega) (by omega) (by omega) (by omega) sT1 sT2 (by simp only [List.length_append]; omega)
     have hl := t1.length_eq
     rw [List.length_append] at hl
     have e1 : a = ((P.length : Nat) : Int) := h1.symm
     have e2 : a + (k : Int) = ((P.length + k : Nat) : Int) := by omega
     have e3 : a + 2 * (k : Int) = ((P.length + 2 * k : Nat) : Int) := by omega
     rw [w64 (2 * (k : Int)) (by omega) (by omega), w64 (a + 2 * (k : Int) + 2 * (k : Int)) (by omega) (by omega)]
     have t3' : slices_symMergeCmpFunc_blob_node N N a (a + k) (a + 2 * k) () (P ++ (T1 ++ (T2 ++ X2))) = some (P ++ (T ++ X2)) := by rw [e3, e2, e1]; exact t3
     rw [t3', bnd_some]
     cases f with
     | zero => omega
     | succ f =>
       obtain ⟨X', u1, u2, u3⟩ := stL2 hN n k hk hk2 K f X2 (P ++ T) fuel (a + 2 * k) (by omega) (by rw [List.length_append]; omega) (by rw [List.length_append]; omega) (by omega) (by rw [List.length_append]; omega) hX2
       refine ⟨T ++ X', ?_, .cons T X' (by omega) t2 u2, ?_⟩
       · rw [← List.append_assoc]; exact t1.append u1
       · rw [← List.append_assoc, u3, List.append_assoc]
   · rw [decide_eq_false hb, br_false]
     simp only []
     rw [w64 (a + k) (by omega) (by omega)]
     by_cases hm : a + k < n
     · rw [decide_eq_true hm, br_true]
       obtain ⟨T1, v, rfl, hT1, sT1, hv⟩ := blks_first hB (by omega)
       rw [List.length_append] at hf h2 h3 h4
       have sv := blks_one hv (by omega)
       obtain ⟨T, t1, t2, t3⟩ := sym_ok (N := N) hN N P T1 v [] P.length (P.length + k) (P.length + T1.length + v.length) rfl (by omega) rfl (by omega) (by omega) (by omega) sT1 sv (by simp only [List.length_append, List.length_nil]; omega)
       simp only [List.append_nil] at t3
       have hl := t1.length_eq
       rw [List.length_append] at hl
       have e1 : a = ((P.length : Nat) : Int) := h1.symm
       have e2 : a + (k : Int) = ((P.length + k : Nat) : Int) := by omega
       have e3 : n = ((P.length + T1.length + v.length : Nat) : Int) := by omega
       have t3' : slices_symMergeCmpFunc_blob_node N N a (a + k) n () (P ++ (T1 ++ v)) = some (P ++ T) := by rw [e3, e2, e1]; exact t3
       exact ⟨T, t1, .last T (by omega) t2, by rw [t3', bnd_some]⟩
     · rw [decide_eq_false hm, br_false]
       exact ⟨X, List.Perm.refl _, .last X (by omega) (blks_one hB (by omega)), rfl⟩
theorem stL1 (hN : 1000000 < N) (n : Int) : ∀ (f : Nat) (w : LN) (k : Nat) (fuel : Nat), w.length - k ≤ f → 0 < k → k ≤ 2000000 → (w.length : Int) = n → w.length - k < fuel → w.length ≤ 1000000 → Blks k w →
   ∃ T, T.Perm w ∧ SortedN T ∧ z7L1 N n () (fun t => some t) fuel k w = some T
 | f, w, k, fuel + 1, hf, hk, hk2, h1, h2, h3, hB => by
   rw [z7L1]
   unfold z7L1T
   by_cases hb : (k : Int) < n
   · rw [decide_eq_true hb, br_true, w64 (2 * (k : Int)) (by omega) (by omega), w64 ((k : Int) * 2) (by omega) (by omega)]
     obtain ⟨X', t1, t2, t3⟩ := stL2 hN n k hk (by omega) (fun t => z7L1 N n () (fun t => some t) fuel ((k : Int) * 2) t) w.length w [] N 0 (Nat.le_refl _) rfl (by simp; omega) (by omega) (by simp; omega) hB
     simp only [List.nil_append, Int.zero_add] at t3
     rw [t3]
     have hl := t1.length_eq
     cases f with
     | zero => omega
     | succ f =>
       obtain ⟨T, u1, u2, u3⟩ := stL1 hN n f X' (2 * k) fuel (by omega) (by omega) (by omega) (by omega) (by omega) (by omega) t2
       refine ⟨T, u1.trans t1, u2, ?_⟩
       rw [← u3]
       congr 1
       omega
   · rw [decide_eq_false hb, br_false]
     exact ⟨w, List.Perm.refl _, blks_one hB (by omega), rfl⟩
theorem stable_ok (hN : 1000000 < N) (w : LN) (hl : w.length ≤ 1000000) : ∃ T, T.Perm w ∧ SortedN T ∧ slices_SortStableFunc_blob_node N () w = some T := by
 unfold slices_SortStableFunc_blob_node slices_stableCmpFunc_blob_node
 obtain ⟨X', t1, t2, t3⟩ := stL0 hN (w.length : Int) (fun t => z7L1 N (w.length : Int) () (fun t => some t) N 20 t) w.length w [] N 0 (Nat.le_refl _) rfl (by simp) (by omega) (by simp; omega)
 simp only [List.nil_append, Int.zero_add] at t3
 have hl2 := t1.length_eq
 obtain ⟨T, u1, u2, u3⟩ := stL1 hN (w.length : Int) X'.length X' 20 N (by omega) (by omega) (by omega) (by omega) (by omega) (by omega) t2
 refine ⟨T, u1.trans t1, u2, ?_⟩
 have e : z7L1 N (w.length : Int) () (fun t => some t) N 20 X' = some T := u3
 rw [t3, e, bnd_some]
end
end Go.Proofs.YtjiddcchklaiiaaGreatDoor


/- blob.nodes, by hand: what stands in a directory, in the order of the paths, then by the stable sort of slices. -/
namespace Go.Proofs.YtjiddcchklaiiaaGreatDoor
set_option linter.unusedVariables false
set_option linter.unusedSimpArgs false
open Go Go.RowKit
set_option maxRecDepth 100000
def nodeStep (ns : List NodeD) (x : FileD) : List NodeD :=
 let c := Lib.cut x.1 [47]
 if c.2.2 = false then ns ++ [(c.1, some x, [])]
 else match ns.getLast? with
   | some nd => if nd.1 = c.1 ∧ nd.2.1 = none then ns.dropLast ++ [(nd.1, none, nd.2.2 ++ [(c.2.1, x.2)])] else ns ++ [(c.1, none, [(c.2.1, x.2)])]
   | none => ns ++ [(c.1, none, [(c.2.1, x.2)])]
noncomputable def blob_nodes (l : List FileD) : Option (List NodeD) :=
 if l.length ≤ 1000000 ∧ ∀ x ∈ l, x.1.length < 4294967281 then slices_SortStableFunc_blob_node 2000000 () (l.foldl nodeStep []) else none
def Small (ns : List NodeD) (k : Nat) : Prop := ns.length ≤ k ∧ ∀ nd ∈ ns, nd.2.2.length ≤ k
theorem small_step {ns : List NodeD} {k : Nat} (h : Small ns k) (x : FileD) : Small (nodeStep ns x) (k + 1) := by
 have hone : ∀ nd : NodeD, nd.2.2.length ≤ 1 → Small (ns ++ [nd]) (k + 1) := fun nd hnd => by
   refine ⟨by rw [List.length_append]; have := h.1; simp; omega, fun y hy => ?_⟩
   rcases List.mem_append.1 hy with hy | hy
   · have := h.2 y hy; omega
   · rw [List.mem_singleton.1 hy]; omega
 unfold nodeStep
 simp only []
 split
 · exact hone _ (by simp)
 · split
   · rename_i nd hl
     split
     · obtain ⟨ms, rfl⟩ := List.getLast?_eq_some_iff.1 hl
       rw [List.dropLast_concat]
       have h1 := h.1
       rw [List.length_append] at h1
       refine ⟨by rw [List.length_append]; simp at h1 ⊢; omega, fun y hy => ?_⟩
       rcases List.mem_append.1 hy with hy | hy
       · have := h.2 y (List.mem_append_left _ hy); omega
       · rw [List.mem_singleton.1 hy]
         have := h.2 nd (List.mem_append_right _ (List.mem_singleton.2 rfl))
         simp; omega
     · exact hone _ (by simp)
   · exact hone _ (by simp)
theorem small_take (l : List FileD) : ∀ j, j ≤ l.length → Small ((l.take j).foldl nodeStep []) j
 | 0, _ => ⟨by simp, fun _ h => by simp at h⟩
 | j + 1, h => by
   rw [List.take_succ_eq_append_getElem h, List.foldl_append]
   exact small_step (small_take l j (by omega)) _
theorem nd_info : (Tryz.prog.info? 81).map (fun i => (i.zero, i.size, i.bytes)) = some (some (.agg #[.string ⟨#[]⟩, .pointer none, .slice none 0 0]), 3, 48) := by kernel_rfl
theorem file_info : (Tryz.prog.info? 62).map (fun i => (i.zero, i.size, i.bytes)) = some (some (.agg #[.string ⟨#[]⟩, .bool false, .slice none 0 0]), 3, 48) := by kernel_rfl
theorem files_at {M : Nat → Nat → Prop} {w : World} {l : List FileD} {v : Value} (h : RepV M w (.sl fT) l v) : ∃ A c, v = .slice A l.length c ∧ l.length ≤ c ∧ ∀ i (h : i < l.length), ∃ b o u, A = some ⟨b, o, none⟩ ∧
   w.cell? ⟨b, o + i * 3, none⟩ = some (.string ⟨l[i].1.toArray⟩) ∧ w.cell? ⟨b, o + i * 3 + 1, none⟩ = some (.bool l[i].2.1) ∧ w.cell? ⟨b, o + i * 3 + 2, none⟩ = some u ∧ RepC M w (.sl .u8) l[i].2.2 [u] ∧
   RepC M w (.np fT) (some l[i]) [.pointer (some ⟨b, o + i * 3, none⟩)] := by
 obtain ⟨A, c, h1, h2, h3, h4⟩ := RepV.plain (t := .sl fT) rfl h
 injection h1 with h1
 refine ⟨A, c, h1, h2, fun i hi => ?_⟩
 obtain ⟨b, o, rfl⟩ : ∃ b o, A = some ⟨b, o, none⟩ := by
   obtain ⟨ad, es, e1, hr, hp⟩ := h4 0 (by omega)
   obtain ⟨c1, c2, rfl, hr1, -⟩ := id hr
   obtain rfl : c1 = [.string ⟨(l[0]'(by omega)).1.toArray⟩] := hr1
   have h0 := (hp 0 _ rfl).1
   obtain ⟨b, o, sp⟩ := ad
   cases sp with
   | none => exact ⟨b, o, e1⟩
   | some s =>
     have : w.cell? (⟨b, o, some s⟩ : Addr) = none := by
       unfold World.cell?
       split <;> rfl
     rw [Nat.zero_mul, show ((Addr.add ⟨b, o, some s⟩ 0).add 0) = ⟨b, o, some s⟩ from rfl, this] at h0
     cases h0
 obtain ⟨ad, es, e1, hr, hp⟩ := h4 i hi
 obtain rfl := Option.some.inj e1
 obtain ⟨c1, c2, rfl, hr1, c3, c4, rfl, hr2, hr3⟩ := id hr
 obtain rfl : c1 = [.string ⟨l[i].1.toArray⟩] := hr1
 obtain rfl : c3 = [.bool l[i].2.1] := hr2
 have hl := RepC.len _ _ _ hr3
 match c4, hl with
 | [u], _ =>
   have h0 := (hp 0 _ rfl).1
   have h1 := (hp 1 _ rfl).1
   have h2 := (hp 2 _ rfl).1
   have ea : ∀ k, ((⟨b, o, none⟩ : Addr).add k) = ⟨b, o + k, none⟩ := fun k => Addr.add_box b o k
   have e3 : fT.sz = 3 := rfl
   rw [add_of_add, ea, e3] at h0 h1 h2
   exact ⟨b, o, u, rfl, h0, h1, h2, hr3, ⟨b, o + i * 3, none⟩, _, rfl, hr, by rw [← ea, ← e3]; exact hp⟩
theorem own_zero {w : World} {base : Nat} {e : TypeId} {size : Nat} {v : Value} {n : Nat} {xs : List Value} (h : w.ownsRow base e size v n xs) : w.ownsRow 0 e size v n xs := by
 refine ⟨h.1, ?_⟩
 rcases h.2 with h2 | ⟨g, cap, cur, h1, -, h3⟩
 · exact .inl h2
 · exact .inr ⟨g, cap, cur, h1, Nat.zero_le _, h3⟩
theorem sort_calls {M : Nat → Nat → Prop} {w0 w : World} {V : Value} {cs : List Value} {ns zs : List NodeD} (N : Nat) (hG : GW w0) (hM : ∀ b o, M b o → b < w0.heap.size) (hC : NdC 81 M w0 w V cs ns)
   (hz : slices_SortStableFunc_blob_node N () ns = some zs) :
   Calls Tryz.prog 54 #[V, .func (.func 55) #[] #[]] w fun e w' => e = .returned (.tuple #[]) ∧ Ext w0 w' ∧ RepV M w' (.sl ndT) zs V := by
 obtain ⟨A, c, hV, -⟩ := Row.of_own' hC.own
 have hsz := GW_size hG
 have hlow : ∀ b, V.ownBlock = some b → w0.heap.size ≤ b ∧ b < w.heap.size := fun b hb => hC.own.lt b hb
 obtain ⟨g, hg⟩ : ∃ g : Gh, g = fun r => if r = 0 then some ⟨V.ownBlock, 0, V⟩ else none := ⟨_, rfl⟩
 have hg0 : g 0 = some ⟨V.ownBlock, 0, V⟩ := by rw [hg]; rfl
 have hgo : ∀ r gx, g r = some gx → r = 0 ∧ gx = ⟨V.ownBlock, 0, V⟩ := fun r gx hr => by
   rw [hg] at hr
   by_cases h0 : r = 0
   · subst h0; simp at hr; exact ⟨rfl, hr.symm⟩
   · simp [h0] at hr
 have hX : ∀ b, Xof g b → V.ownBlock = some b := fun b ⟨r, gx, hr, hb⟩ => by obtain ⟨_, rfl⟩ := hgo r gx hr; exact hb
 have hF : Frag B0G (M2 M V nilV) w g [.row 0, .v (.clo 55 .un)] [.row 81 ndT true] ((), (), ()) (ns, ()) [V, .func (.func 55) #[] #[]] := {
   args := ⟨⟨_, A, _, c, hg0, rfl, hV⟩, ⟨_, ⟨#[], rfl, rfl⟩, rfl⟩, trivial⟩
   res := fun r blk hr => by
     cases r with
     | zero =>
       obtain rfl : Blk.row 81 ndT true ns = blk := Option.some.inj hr
       exact ⟨_, hg0, by decide, cs, own_zero hC.own, rfl, rfl, hC.els⟩
     | succ r => cases hr
   dom := fun r gx hr => by obtain ⟨rfl, _⟩ := hgo r gx hr; exact Nat.zero_lt_one
   inj := fun r r' x x' b h1 h2 _ _ => by obtain ⟨rfl, _⟩ := hgo r x h1; obtain ⟨rfl, _⟩ := hgo r' x' h2; rfl
   low := fun r x b h1 h2 => by obtain ⟨_, rfl⟩ := hgo r x h1; have := hlow b h2; exact ⟨by omega, this.2⟩
   chg := fun r x b o h1 h2 => by obtain ⟨_, rfl⟩ := hgo r x h1; exact ⟨fun _ => Nat.zero_le _, fun _ => .inr (.inl h2)⟩
   mlt := fun b o hm => by
     rcases hm with h | h | h
     · exact Nat.lt_of_lt_of_le (hM b o h) hC.ext.size
     · exact (hlow b h).2
     · cases h
   row := fun r x b h1 h2 h0 => by obtain ⟨_, rfl⟩ := hgo r x h1; exact absurd h0 (Nat.lt_irrefl 0) }
 have hG' : GW w := GW_stable w0 w (fun _ => False) hG (ExtX.of_ext hC.ext) (fun _ h => h.elim)
 refine ((z5sound N).2 (M2 M V nilV) w g _ ((), (), ()) (ns, ()) zs hG' (by have := hC.ext.size; omega) hF hz).mono fun e w' hp => ?_
 obtain ⟨vs', g', he, hE, hS, hF', hpin, hnew⟩ := hp
 have hvs : vs' = [] := by
   cases vs' with
   | nil => rfl
   | cons a l => exact (hF'.args : All2 _ [] (a :: l)).elim
 subst hvs
 obtain ⟨gx, hgx, _, cs', hown, _, _, hels⟩ := hF'.res 0 (.row 81 ndT true zs) rfl
 rw [hpin 0 _ hg0 (.inr ⟨rfl, rfl⟩)] at hgx
 obtain rfl := Option.some.inj hgx
 have hE0 : Ext w0 w' := ⟨hE.os.trans hC.ext.os, hE.tape.trans hC.ext.tape, hE.output.trans hC.ext.output, Nat.le_trans hC.ext.size hE.size, fun k hk =>
   (hE.block k (Nat.lt_of_lt_of_le hk hC.ext.size) fun hx => by have := (hlow k (hX k hx)).1; omega).trans (hC.ext.block k hk)⟩
 have hMM : ∀ b o, M b o → Mafter (M2 M V nilV) g g' b o := fun b o h => .inl ⟨.inl h, fun hx => by have := (hlow b (hX b hx)).1; have := hM b o h; omega⟩
 have hs : Step (Mafter (M2 M V nilV) g g') w' M w' := ⟨fun ad u hu hm => ⟨hu, fun h => hm (hMM _ _ h)⟩, fun b es c hb hm => ⟨hb, fun h => hm (hMM _ _ h)⟩⟩
 refine ⟨he, hE0, RepC.toV rfl (RepC.of_own (t := ndT) (by decide) hown (fun b o hb _ hm => ?_) (Els.mono (t := ndT) (xs := zs) (cs := cs') hs hels))⟩
 have := (hlow b hb).1
 have := hM b o hm
 omega
set_option maxHeartbeats 1600000 in
theorem nodes_walk (M : Nat → Nat → Prop) (w : World) (v : Value) (l : List FileD) (zs : List NodeD) (hG : GW w) (hM : ∀ b o, M b o → b < w.heap.size) (hv : RepV M w (.sl fT) l v) (hz : blob_nodes l = some zs) :
   Calls Tryz.prog 32 #[v] w fun e w' => ∃ v', e = .returned v' ∧ Ext w w' ∧ RepV M w' (.sl ndT) zs v' := by
 unfold blob_nodes at hz
 split at hz
 case isFalse => cases hz
 rename_i hb
 obtain ⟨hb1, hb2⟩ := hb
 obtain ⟨A, c, rfl, hlc, hat⟩ := files_at hv
 obtain ⟨m, hm⟩ := hG.len
 obtain ⟨i0, hi0, hz0, hz1, hz2⟩ := info_parts nd_info
 obtain ⟨j0, hj0, hy0, hy1, hy2⟩ := info_parts file_info
 have hnp : ∀ (ad : Addr) (w : World), (binOp .neq 79 (.pointer (some ad)) (.pointer none)).run Tryz.prog w = .ok (.bool true) w := fun _ _ => by kernel_rfl
 have hnn : ∀ (w : World), (binOp .neq 79 (.pointer none) (.pointer none)).run Tryz.prog w = .ok (.bool false) w := fun _ => by kernel_rfl
 go_enter Tryz.func32, Tryz.ntmps32
 go_wp2
 go_loopw [3, 11] (fun out i wr => ∃ (j : Nat) (cs : List Value), j ≤ l.length ∧ i = .int .i64 (j : Int) ∧ Ext w wr ∧ (((l.take j).foldl nodeStep [] = [] ∧ out = nilV) ∨ 
   ∃ FV fcs p ms nm fo fs, (l.take j).foldl nodeStep [] = ms ++ [(nm, fo, fs)] ∧ NdO 81 62 M w wr out FV cs fcs p ms nm fo fs)) (fun _ i _ => l.length - (intOf i).toNat)
 case atStart => exact ⟨0, [], Nat.zero_le _, rfl, Ext.refl _, .inl ⟨rfl, rfl⟩⟩
 case round =>
   obtain ⟨j, cs, hj, rfl, hE, hst⟩ := hrel
   by_cases hlt : j < l.length
   · have hltI : (j : Int) < (l.length : Int) := by omega
     obtain ⟨b, o, u, rfl, k0, k1, k2, hu, hptr⟩ := hat j hlt
     obtain ⟨Au, cu, hue, -⟩ := id hu
     injection hue with hue
     obtain ⟨nu, hnu⟩ : ∃ nu, l[j].2.2.length = nu := ⟨_, rfl⟩
     rw [hnu] at hue
     subst hue
     have k0' := hE.cell k0
     have k1' := hE.cell k1
     have k2' := hE.cell k2
     have hm' := hE.cell hm
     have hs1 := hb2 l[j] (List.getElem_mem hlt)
     obtain ⟨⟨nm, rs, d⟩, hcut⟩ : ∃ q, Lib.cut l[j].1 [47] = q := ⟨_, rfl⟩
     have hfold : (l.take (j + 1)).foldl nodeStep [] = nodeStep ((l.take j).foldl nodeStep []) l[j] := by
       rw [List.take_succ_eq_append_getElem hlt, List.foldl_append]; rfl
     have HE := Lib.hid hE
     have HM := Lib.hid hM
     have HZ := Lib.hid hz
     have HB := Lib.hid hb2
     have HA := Lib.hid hat
     have HV := Lib.hid hv
     clear hE hM hz hb2 hat hv
     obtain ⟨ns, hns⟩ : ∃ ns, (l.take j).foldl nodeStep [] = ns := ⟨_, rfl⟩
     rw [hns] at hst hfold
     have hsm : Small ns j := by rw [← hns]; exact small_take l j (Nat.le_of_lt hlt)
     have HN := Lib.hid hns
     clear hns
     cases d with
     | false =>
       obtain ⟨cs, hC⟩ : ∃ cs, NdC 81 M w wr u3 cs ns := by
         rcases hst with ⟨rfl, rfl⟩ | ⟨FV, fcs, p, ms, nm', fo, fs, rfl, hO⟩
         · exact ⟨[], (NdC.start w).up HE.out⟩
         · exact ⟨_, hO.close HM.out⟩
       have hstep : nodeStep ns l[j] = ns ++ [(nm, some l[j], [])] := by unfold nodeStep; rw [hcut]; rfl
       have hn1 : ns.length + 1 ≤ maxLen := by have := hsm.1; unfold maxLen; omega
       have hn2 : (ns.length + 1) * 48 ≤ 140737488355328 := by have := hsm.1; omega
       have hbs : w.heap.size ≤ wr.heap.size + 1 := by have := HE.out.size; omega
       have HS := Lib.hid hst
       clear hst
       go_wp2_with (first | (go_at_call 49; refine (Tryz.strings_Cut ⟨l[j].1.toArray⟩ ⟨#[47]⟩ m _ hs1 hm').mono ?_; rintro e w' ⟨rfl, q, rfl⟩) | (at_builtin; go_must (refine wpList_append_lies _ rfl _ _ _ rfl w.heap.size 81 i0 _ 3 48 Tryz.underlying76 hi0 hz0 hz1 hz2 rfl (by omega) u3 ns.length cs rfl (own_ext hC.own (((Ext.refl wr).drewN q).alloc _)) ⟨wr.heap.size, 0, none⟩ 1 1 [.string ⟨nm.toArray⟩, .pointer (some ⟨b, o + j * 3, none⟩), .slice none 0 0] rfl rfl (World.news_of_block (heap_alloc_new (wr.drewN q) _)) (by simp [Value.oneCell']) (by omega) hn1 hn2 (by simpa using hbs) (wr.heap.size + 1) (by simp) ?_); intro g cap w1 hown1 hgrow hat hlt1))
       go_roundw
       case rel =>
         have hCu := hC.up (((Ext.refl wr).drewN q).alloc (.cells #[.string ⟨nm.toArray⟩, .pointer (some ⟨b, o + j * 3, none⟩), .slice none 0 0] 81))
         have hO := hCu.push (nm := nm) (p := .pointer (some ⟨b, o + j * 3, none⟩)) (fo := some l[j]) (FT := 62) hgrow rfl (hat.imp id fun h => by rw [h]; simp) hown1 hptr
         exact ⟨j + 1, _, hlt, rfl, hO.ext, .inr ⟨_, _, _, _, _, _, _, hfold.trans hstep, hO⟩⟩
       case measure => simp [intOf]; omega
     | true =>
       obtain ⟨A3, c3, rfl⟩ : ∃ A c, u3 = .slice A ns.length c := by
         rcases hst with ⟨rfl, rfl⟩ | ⟨FV, fcs, p, ms, nm', fo, fs, rfl, hO⟩
         · exact ⟨none, 0, rfl⟩
         · obtain ⟨A, c, h, -⟩ := Row.of_own' (hO.close HM.out).own
           exact ⟨A, c, h⟩
       have hsm1 := hsm.1
       have HS := Lib.hid hst
       clear hst
       go_upto_region 9 with (go_at_call 49; refine (Tryz.strings_Cut ⟨l[j].1.toArray⟩ ⟨#[47]⟩ m _ hs1 hm').mono ?_; rintro e w' ⟨rfl, q, rfl⟩)
       go_cut [3, 8, 55] (fun o k t wc => o = .slice A3 ns.length c3 ∧ k = .int .i64 ((ns.length : Int) - 1) ∧ wc = wr.drewN q ∧ ((t = .bool true ∧ nodeStep ns l[j] = ns ++ [(nm, none, [(rs, l[j].2)])]) ∨
         (t = .bool false ∧ ∃ FV fcs ms fs, ns = ms ++ [(nm, none, fs)] ∧ NdO 81 62 M w wr (.slice A3 ns.length c3) FV cs fcs (.pointer none) ms nm none fs)))
       case first =>
         rcases HS.out with ⟨rfl, e3⟩ | ⟨FV, fcs, p, ms, nm', fo, fs, hms, hO⟩
         · clear HS
           injection e3 with e3 e4 e5
           subst e3
           have hstep : nodeStep [] l[j] = [(nm, none, [(rs, l[j].2)])] := by unfold nodeStep; rw [hcut]; rfl
           go_wp2_with fail
           go_meet
           case rel => exact ⟨rfl, rfl, rfl, .inl ⟨rfl, hstep⟩⟩
         · clear HS
           have hlen : ns.length = ms.length + 1 := by rw [hms, List.length_append]; rfl
           have hk : ((ms.length + 1 : Nat) : Int) - 1 = (ms.length : Int) := by omega
           obtain ⟨gV, cV, hform, hgV0, hgV1⟩ := hO.own.form (by omega)
           have hown := hO.own
           rw [hform] at hown
           have hl0 := hO.len
           have q0 : wr.cell? ⟨gV, ms.length * 3, none⟩ = some (.string ⟨nm'.toArray⟩) := (hown.cellAt _ (by omega)).trans (by rw [List.getElem?_append_right (by omega), hl0, Nat.sub_self]; rfl)
           have q1 : wr.cell? ⟨gV, ms.length * 3 + 1, none⟩ = some p := (hown.cellAt _ (by omega)).trans (by rw [List.getElem?_append_right (by omega), hl0, Nat.add_sub_cancel_left]; rfl)
           have HO := Lib.hid hO
           have HW := Lib.hid hown
           have hfm := Lib.hid hform
           have hneg : ¬ ((ms.length : Int) < 0) := by omega
           have hms1 : (ms.length : Int) < ((ms.length + 1 : Nat) : Int) := by omega
           clear hO hown
           rw [hlen] at hform hsm1
           rw [hlen, hform, hk]
           have hpp := HO.out.ptr
           have hstN : nodeStep ns l[j] = if nm' = nm ∧ fo = none then ms ++ [(nm, none, fs ++ [(rs, l[j].2)])] else ns ++ [(nm, none, [(rs, l[j].2)])] := by
             unfold nodeStep
             rw [hcut, hms, List.getLast?_concat, List.dropLast_concat]
             simp only [Bool.true_eq_false, if_false]
             by_cases h1 : nm' = nm ∧ fo = none
             · rw [if_pos h1, if_pos h1, h1.1]
             · rw [if_neg h1, if_neg h1]
           by_cases hnm : nm' = nm
           · subst hnm
             cases fo with
             | none =>
               obtain rfl : p = .pointer none := by injection hpp
               have hO := HO.out
               rw [hlen] at hO
               rw [if_pos ⟨rfl, rfl⟩] at hstN
               have HT := Lib.hid hstN
               clear hstN
               go_wp2_with fail
               go_meet
               case rel => exact ⟨by rw [hlen], by rw [hlen, hk], rfl, .inr ⟨rfl, FV, fcs, ms, fs, hms, by rw [hlen]; exact hO⟩⟩
             | some y =>
               obtain ⟨ad, es, hpe, -⟩ := hpp
               obtain rfl : p = .pointer (some ad) := by injection hpe
               have hnp' := hnp ad
               rw [if_neg (by simp)] at hstN
               have HT := Lib.hid hstN
               clear hstN
               go_wp2_with fail
               go_meet
               case rel => exact ⟨by rw [hlen], by rw [hlen, hk], rfl, .inl ⟨rfl, HT.out⟩⟩
           · have hnb : (nm' == nm) = false := by simpa using hnm
             rw [if_neg (fun h => hnm h.1)] at hstN
             have HT := Lib.hid hstN
             clear hstN hpp
             go_wp2_with fail
             go_meet
             case rel => exact ⟨by rw [hlen], by rw [hlen, hk], rfl, .inl ⟨rfl, HT.out⟩⟩
       case rest =>
         obtain ⟨rfl, rfl, rfl, hc⟩ := hcut
         go_upto_if 55 with fail
         go_cut [3, 8] (fun o k wc => ∃ (FV : Value) (cs fcs : List Value) (ms : List NodeD) (fs : List FileD), k = .int .i64 (ms.length : Int) ∧ nodeStep ns l[j] = ms ++ [(nm, none, fs ++ [(rs, l[j].2)])] ∧ fs.length ≤ j ∧
           NdO 81 62 M w wc o FV cs fcs (.pointer none) ms nm none fs)
         case first =>
           rcases hc with ⟨rfl, hst2⟩ | ⟨rfl, FV, fcs, ms, fs, hms, hO⟩
           · obtain ⟨cs2, hC⟩ : ∃ cs, NdC 81 M w wr (.slice A3 ns.length c3) cs ns := by
               rcases HS.out with ⟨h1, h2⟩ | ⟨FV, fcs, p, ms, nm', fo, fs, hms, hO⟩
               · rw [h2, h1]; exact ⟨[], (NdC.start w).up HE.out⟩
               · rw [hms] at hO ⊢; exact ⟨_, hO.close HM.out⟩
             have hn1 : ns.length + 1 ≤ maxLen := by unfold maxLen; omega
             have hn2 : (ns.length + 1) * 48 ≤ 140737488355328 := by omega
             have hbs : w.heap.size ≤ wr.heap.size + 1 := by have := HE.out.size; omega
             obtain ⟨v3, hv3⟩ : ∃ v, v = Value.slice A3 ns.length c3 := ⟨_, rfl⟩
             rw [← hv3] at hC ⊢
             have HV3 := Lib.hid hv3
             have HT := Lib.hid hst2
             clear hst2 hv3
             go_wp2_with (at_builtin; go_must (refine wpList_append_lies _ rfl _ _ _ rfl w.heap.size 81 i0 _ 3 48 Tryz.underlying76 hi0 hz0 hz1 hz2 rfl (by omega) v3 ns.length cs2 rfl (own_ext hC.own (((Ext.refl wr).drewN q).alloc _)) ⟨wr.heap.size, 0, none⟩ 1 1 [.string ⟨nm.toArray⟩, .pointer none, .slice none 0 0] rfl rfl (World.news_of_block (heap_alloc_new (wr.drewN q) _)) (by simp [Value.oneCell']) (by omega) hn1 hn2 (by simpa using hbs) (wr.heap.size + 1) (by simp) ?_); intro g cap w1 hown1 hgrow hat hlt1)
             go_meet
             case rel =>
               have hCu := hC.up (((Ext.refl wr).drewN q).alloc (.cells #[.string ⟨nm.toArray⟩, .pointer none, .slice none 0 0] 81))
               have hO := hCu.push (nm := nm) (p := .pointer none) (fo := none) (FT := 62) hgrow rfl (hat.imp id fun h => by rw [h]; simp) hown1 rfl
               exact ⟨_, _, _, ns, [], by simp, HT.out, Nat.zero_le _, hO⟩
           · go_wp2_with fail
             go_meet
             case rel =>
               have hk : ((ns.length : Int) - 1) = (ms.length : Int) := by rw [hms, List.length_append]; simp
               refine ⟨FV, cs, fcs, ms, fs, by rw [hk], ?_, hsm.2 (nm, none, fs) (by rw [hms]; simp), hO.up ((Ext.refl wr).drewN q)⟩
               unfold nodeStep
               rw [hcut, hms, List.getLast?_concat, List.dropLast_concat]
               simp
         case rest =>
           obtain ⟨FV, cs3, fcs, ms, fs, rfl, hstp, hfl, hO⟩ := hcut
           obtain ⟨gV, cV, rfl, hgV0, hgV1⟩ := hO.own.form (by omega)
           have hl0 := hO.len
           have q2 : wc.cell? ⟨gV, ms.length * 3 + 2, none⟩ = some FV := (hO.own.cellAt _ (by omega)).trans (by rw [List.getElem?_append_right (by omega), hl0, Nat.add_sub_cancel_left]; rfl)
           have f2 : wc.frozen? ⟨gV, ms.length * 3 + 2, none⟩ = false := hO.own.frozenAt _
           have hc2 : ∀ x, (wc.alloc x).cell? ⟨gV, ms.length * 3 + 2, none⟩ = some FV := fun x => ((Ext.refl wc).alloc x).cell q2
           have bne : b ≠ gV := fun e => by have h2 := World.block_lt_of_cell? w _ k1; simp only at h2; omega
           have hlg : ∀ x, gV < ((wc.alloc x).drew).heap.size := fun x => Nat.lt_of_lt_of_le hgV1 (((Ext.refl wc).alloc x).drew).size
           have hfz : ∀ x, ((wc.alloc x).drew).frozen? ⟨gV, ms.length * 3 + 2, none⟩ = false := fun x => (own_ext hO.own (((Ext.refl wc).alloc x).drew)).frozenAt _
           have k1'' := hO.ext.cell k1
           have k2'' := hO.ext.cell k2
           have ag : FV.ownBlock ≠ some gV := hO.ne gV rfl
           have ab : FV.ownBlock ≠ some b := fun e => by have h1 := (hO.fown.lt b e).1; have h2 := World.block_lt_of_cell? w _ k1; simp only at h2; omega
           have lb := World.block_lt_of_cell? wc _ k1''
           have hi0' : (0 : Int) ≤ (j : Int) := Int.natCast_nonneg _
           have hk0' : (0 : Int) ≤ (ms.length : Int) := Int.natCast_nonneg _
           have hk1' : (ms.length : Int) < ((ms.length + 1 : Nat) : Int) := by omega
           have hk2' : (ms.length : Int) < (ms.length : Int) + 1 := by omega
           have hn1 : fs.length + 1 ≤ maxLen := by unfold maxLen; omega
           have hn2 : (fs.length + 1) * 48 ≤ 140737488355328 := by omega
           have hbs : w.heap.size ≤ wc.heap.size + 1 := by have := hO.ext.size; omega
           have HO := Lib.hid hO
           have HS3 := Lib.hid hstp
           clear hO hstp
           go_wp2_with fail
           go_region_law
             ((refine step_append_lies _ (by rfl) _ _ _ (by rfl) w.heap.size 62 j0 _ 3 48 Tryz.underlying22 hj0 hy0 hy1 hy2 rfl (by omega) FV fs.length fcs (by rfl) (own_ext HO.out.fown (((Ext.refl wc).alloc _).drew)) ⟨wc.heap.size, 0, none⟩ 1 1 [.string ⟨rs.toArray⟩, .bool l[j].2.1, .slice Au nu cu] (by rfl) (by rfl) (World.news_of_block (heap_alloc_new wc _)) (by simp [Value.oneCell']) (by omega) hn1 hn2 (by simp; omega) (wc.heap.size + 1) (by simp) ?_; intro g cap w1 hown1 hgrow hat hlt1; have hf1 : w1.frozen? ⟨gV, ms.length * 3 + 2, none⟩ = false := (hgrow.frozen_far ⟨gV, ms.length * 3 + 2, none⟩ (hlg _) (Ne.symm ag)).trans (hfz _); have hq1 : w1.cell? ⟨gV, ms.length * 3 + 2, none⟩ = some FV := (hgrow.cell_far ⟨gV, ms.length * 3 + 2, none⟩ (hlg _) (Ne.symm ag)).trans (hc2 _)))
           all_goals
             have hO2 := (HO.out.up (((Ext.refl wc).alloc (.cells #[.string ⟨rs.toArray⟩, .bool l[j].2.1, .slice Au nu cu] 62)).drew)).more (x := (rs, l[j].2)) hgrow rfl rfl (hat.imp id fun h => by rw [h]; simp) hown1 ⟨[_], [_, _], rfl, rfl, [_], [_], rfl, rfl, hu⟩
             have hst2 : (l.take (j + 1)).foldl nodeStep [] = _ := hfold.trans HS3.out
             have HF := Lib.hid hO2
             have HG := Lib.hid hst2
             clear hst2 hO2 hown1 hgrow hat hq1 hf1 hfz hc2 hlg
             go_wp2_with fail
             go_roundw
             case rel => exact ⟨j + 1, _, hlt, rfl, HF.out.ext, .inr ⟨_, _, _, _, _, _, _, HG.out, HF.out⟩⟩
             case measure => simp [intOf]; omega
   · obtain rfl : j = l.length := by omega
     rw [List.take_of_length_le (Nat.le_refl _)] at hst
     obtain ⟨cs, hC⟩ : ∃ cs, NdC 81 M w wr u3 cs (l.foldl nodeStep []) := by
       rcases hst with ⟨h1, rfl⟩ | ⟨FV, fcs, p, ms, nm', fo, fs, h1, hO⟩
       · rw [h1]; exact ⟨[], (NdC.start w).up hE⟩
       · rw [h1]; exact ⟨_, hO.close hM⟩
     have hS := sort_calls 2000000 hG hM hC hz
     have HS := Lib.hid hS
     clear hst hC hz hv hat hb2 hM hE hS
     go_wp2_with fail
     refine HS.out.mono ?_
     rintro e w' ⟨rfl, hE', hR⟩
     go_wp2_with fail
     go_ret
     exact ⟨_, rfl, hE', hR⟩
theorem z53sound : Sound Tryz.prog GW B0G 32 ⟨[.v (.sl fT)], [], [.v (.sl ndT)], [], List NodeD, fun z => ((z, ()), ()), fun x _ => blob_nodes x.1⟩ := by
 refine Sound.ofExt Tryz.call32 fun M w vs x z hG hM hA hz => ?_
 obtain ⟨l, u⟩ := x
 match vs, hA with
 | [v], hA =>
   obtain ⟨h1, _⟩ := hA
   refine (nodes_walk M w v l z hG hM h1 hz).mono fun e w' hp => ?_
   obtain ⟨v', rfl, hE, hR⟩ := hp
   exact ⟨[v'], rfl, hE, hR, trivial⟩
end Go.Proofs.YtjiddcchklaiiaaGreatDoor


/- ref1.names, by hand: those that stand directly in a directory, by name, and how many files each has. -/
namespace Go.Proofs.YtjiddcchklaiiaaGreatDoor
set_option linter.unusedVariables false
set_option linter.unusedSimpArgs false
open Go Go.RowKit
set_option maxRecDepth 100000
def posN (ns : List Str) (nm : Str) : Nat := (ns.takeWhile fun s => Op.bytesLess s nm).length
def nameStep (p : List Str × List Int) (x : FileD) : List Str × List Int :=
 let nm := (Lib.cut x.1 [47]).1
 let k := posN p.1 nm
 if p.1[k]? = some nm then (p.1, p.2.set k (p.2.getD k 0 + 1)) else (p.1.take k ++ [nm] ++ p.1.drop k, p.2.take k ++ [1] ++ p.2.drop k)
def ref1_names (l : List FileD) : Option (List Str × List Int) :=
 if l.length ≤ 1000000 ∧ ∀ x ∈ l, x.1.length < 4294967281 then some (l.foldl nameStep ([], [])) else none
abbrev sC (l : List Str) : List Value := l.map fun s => .string ⟨s.toArray⟩
abbrev iC (l : List Int) : List Value := l.map fun i => .int .i64 i
theorem et_str : ElemT Tryz.prog 31 9 1 16 := ElemT.mk_ Tryz.underlying31 (z := .string ⟨#[]⟩) (by kernel_rfl) rfl (by decide) (by decide)
theorem et_int2 : ElemT Tryz.prog 87 3 1 8 := ElemT.mk_ Tryz.underlying87 (z := .int .i64 0) (by kernel_rfl) rfl (by decide) (by decide)
theorem sC1 (l : List Str) : ∀ u ∈ sC l, u.oneCell' = true := fun u hu => by obtain ⟨s, _, rfl⟩ := List.mem_map.1 hu; rfl
theorem iC1 (l : List Int) : ∀ u ∈ iC l, u.oneCell' = true := fun u hu => by obtain ⟨s, _, rfl⟩ := List.mem_map.1 hu; rfl
theorem own_mono {w : World} {base base' : Nat} {e : TypeId} {size : Nat} {v : Value} {n : Nat} {xs : List Value} (h : w.ownsRow base e size v n xs) (hb : base' ≤ base) : w.ownsRow base' e size v n xs := by
 refine ⟨h.1, ?_⟩
 rcases h.2 with h2 | ⟨g, cap, cur, h1, hg, h3⟩
 · exact .inl h2
 · exact .inr ⟨g, cap, cur, h1, Nat.le_trans hb hg, h3⟩
theorem step_app {P : Program} {w0 w : World} {ops : Array Oper} {o : Oper} {a : Act} {K : Act → World → Prop} {Q : Exit → Act → World → Prop} {E : Prop} (hgd : o.guard = none) {s x : Operand}
   {t e : TypeId} {size bytes : Nat} (hT : ElemT P t e size bytes)
   (ho : o.op = .call { callee := .builtin .append, args := #[s, x], argTypes := #[t, t] })
   {v : Value} {n : Nat} {xs : List Value} (hown : w.ownsRow w0.heap.size e size v n xs) (hE : Ext w0 w) (hs : a.eval s = v)
   {A : Option Addr} {m c : Nat} {news : List Value} (hr : Row w A news) (hx : a.eval x = .slice A m c) (hl : news.length = m * size) (h1 : ∀ u ∈ news, u.oneCell' = true) (hb : (n + m) * bytes ≤ 140737488355328)
   (h : ∀ v' w', w'.ownsRow w0.heap.size e size v' (n + m) (xs ++ news) → Ext w0 w' → w.grownBy w' v.ownBlock → K (a.put o.dst v') w') :
   if Region.wanted o (yielded ops a.tmps) = true then Oper.wp P o a w K Q else E := by
 have hw : Region.wanted o (yielded ops a.tmps) = true := by simp [Region.wanted, hgd]
 rw [if_pos hw]
 obtain ⟨v', w', hrun, h2, h3, h4, h5, h6⟩ := run_app (P := P) t o.type e size bytes hT v n xs hown hE A m c news hl hr h1 hb
 unfold Oper.wp execOp
 simp only [ho, resolve, invoke, builtin, Sem.run_bind, Sem.run_pure, Result.andThen_ok, List.map_toArray, List.map_cons, List.map_nil, hs, hx, hrun]
 exact h v' w' h2 h3 h4
theorem own_apart {w : World} {b1 b2 : Nat} {e1 e2 : TypeId} {s1 s2 : Nat} {v1 v2 : Value} {n1 n2 : Nat} {x1 x2 : List Value} (h1 : w.ownsRow b1 e1 s1 v1 n1 x1) (h2 : w.ownsRow b2 e2 s2 v2 n2 x2) (he : e1 ≠ e2) : v1.ownBlock = none ∨ v1.ownBlock ≠ v2.ownBlock := by
 rcases h1.2 with ⟨rfl, _⟩ | ⟨g1, c1, u1, rfl, _, k1, _⟩
 · exact .inl rfl
 · refine .inr fun e => ?_
   rcases h2.2 with ⟨rfl, _⟩ | ⟨g2, c2, u2, rfl, _, k2, _⟩
   · cases e
   · simp only [Value.ownBlock, Option.some.injEq] at e
     subst e
     rw [k1] at k2
     simp only [Option.some.injEq, Obj.cells.injEq] at k2
     exact he k2.2.1
structure NmI (w0 w : World) (out many : Value) (p : List Str × List Int) : Prop where
 ext : Ext w0 w
 own : w.ownsRow w0.heap.size 9 1 out p.1.length (sC p.1)
 mown : w.ownsRow w0.heap.size 3 1 many p.1.length (iC p.2)
 nil : p.1.length = 0 → out = nilV ∧ many = nilV
theorem NmI.up {w0 w w' : World} {out many : Value} {p : List Str × List Int} (h : NmI w0 w out many p) (hE : Ext w w') : NmI w0 w' out many p := ⟨h.ext.trans hE, own_ext h.own hE, own_ext h.mown hE, h.nil⟩
theorem NmI.len {w0 w : World} {out many : Value} {p : List Str × List Int} (h : NmI w0 w out many p) : p.2.length = p.1.length := by
 have := h.mown.1
 rw [List.length_map] at this
 omega
theorem NmI.bump {w0 w : World} {out : Value} {g n c : Nat} {p : List Str × List Int} (h : NmI w0 w out (.slice (some ⟨g, 0, none⟩) n c) p) (k : Nat) (y : Int) (hp : 0 < p.1.length) : NmI w0 (w.setCell ⟨g, k, none⟩ (.int .i64 y)) out (.slice (some ⟨g, 0, none⟩) n c) (p.1, p.2.set k y) := by
 have hn : n = p.1.length := by
   rcases h.mown.2 with ⟨e, h0⟩ | ⟨g', cap, cur, e, _⟩
   · omega
   · injection e
 subst hn
 obtain ⟨h1, h2⟩ := h.mown.stored k (.int .i64 y)
 refine ⟨h.ext.grown h2 fun k' hk => ?_, h.own.kept h2 ?_, ?_, fun h0 => by simp only [] at h0; omega⟩
 · injection hk with hk; subst hk; exact (h.mown.lt _ rfl).1
 · rcases own_apart h.own h.mown (by decide) with h3 | h3
   · exact .inl h3
   · exact .inr h3
 · simp only [iC, List.map_set]; exact h1
theorem Row.cut {w : World} {g c n : Nat} {base : Nat} {e : TypeId} {cs : List Value} (h : w.ownsRow base e 1 (.slice (some ⟨g, 0, none⟩) n c) n cs) (k : Nat) : Row w (some ⟨g, k, none⟩) (cs.drop k) := fun _ => by
 refine ⟨_, rfl, fun j u hu => ?_⟩
 rw [List.getElem?_drop] at hu
 rw [Addr.add_box]
 have hlt : k + j < n * 1 := by
   rcases Nat.lt_or_ge (k + j) (n * 1) with h' | h'
   · exact h'
   · rw [List.getElem?_eq_none (by rw [h.1]; exact h')] at hu; cases hu
 exact (h.cellAt _ hlt).trans hu
theorem Row.cut0 {w : World} {g c n : Nat} {base : Nat} {e : TypeId} {cs : List Value} (h : w.ownsRow base e 1 (.slice (some ⟨g, 0, none⟩) n c) n cs) (k : Nat) : Row w (some ⟨g, 0, none⟩) (cs.take k) := fun _ => by
 refine ⟨_, rfl, fun j u hu => ?_⟩
 rw [List.getElem?_take] at hu
 split at hu
 · rw [Addr.add_box, Nat.zero_add]
   have hlt : j < n * 1 := by
     rcases Nat.lt_or_ge j (n * 1) with h' | h'
     · exact h'
     · rw [List.getElem?_eq_none (by rw [h.1]; exact h')] at hu; cases hu
   exact (h.cellAt _ hlt).trans hu
 · cases hu
def NmB (p : List Str × List Int) (j : Nat) : Prop := p.1.length ≤ j ∧ p.2.length = p.1.length ∧ ∀ x ∈ p.2, 0 ≤ x ∧ x ≤ j
theorem posN_spec (nm : Str) : ∀ ns : List Str, (∀ i (h : i < ns.length), i < posN ns nm → Op.bytesLess ns[i] nm = true) ∧ posN ns nm ≤ ns.length ∧ ∀ h : posN ns nm < ns.length, Op.bytesLess ns[posN ns nm] nm = false
 | [] => ⟨fun _ h => absurd h (Nat.not_lt_zero _), Nat.le_refl _, fun h => absurd h (Nat.not_lt_zero _)⟩
 | s :: ns => by
   obtain ⟨h1, h2, h3⟩ := posN_spec nm ns
   by_cases hs : Op.bytesLess s nm = true
   · have e : posN (s :: ns) nm = posN ns nm + 1 := by unfold posN; simp [hs]
     refine ⟨fun i hi hl => ?_, by rw [e]; simp; omega, fun h => ?_⟩
     · cases i with
       | zero => exact hs
       | succ i => exact h1 i (by simpa using hi) (by omega)
     · have h' : posN ns nm < ns.length := by rw [e] at h; simp at h; omega
       have := h3 h'
       simp only [e, List.getElem_cons_succ]
       exact this
   · have e : posN (s :: ns) nm = 0 := by unfold posN; simp [hs]
     refine ⟨fun i hi hl => by omega, by omega, fun h => ?_⟩
     simp only [e, List.getElem_cons_zero]
     simpa using hs
theorem posN_le (ns : List Str) (nm : Str) : posN ns nm ≤ ns.length := (posN_spec nm ns).2.1
theorem nmB_step {p : List Str × List Int} {j : Nat} (h : NmB p j) (x : FileD) : NmB (nameStep p x) (j + 1) := by
 obtain ⟨h1, h2, h3⟩ := h
 have hk := posN_le p.1 (Lib.cut x.1 [47]).1
 unfold nameStep
 simp only []
 split
 · rename_i he
   have hlt : posN p.1 (Lib.cut x.1 [47]).1 < p.2.length := by rw [h2]; exact (List.getElem?_eq_some_iff.1 he).1
   refine ⟨by simp only []; omega, by simp only [List.length_set]; exact h2, fun y hy => ?_⟩
   simp only [] at hy
   rcases List.mem_or_eq_of_mem_set hy with hy | rfl
   · have := h3 y hy; omega
   · rw [List.getD_eq_getElem?_getD, List.getElem?_eq_getElem hlt, Option.getD_some]
     have := h3 _ (List.getElem_mem hlt); omega
 · refine ⟨by simp; omega, by simp; omega, fun y hy => ?_⟩
   simp only [List.mem_append, List.mem_singleton] at hy
   rcases hy with (hy | rfl) | hy
   · have := h3 y (List.mem_of_mem_take hy); omega
   · omega
   · have := h3 y (List.mem_of_mem_drop hy); omega
theorem nmB_take (l : List FileD) : ∀ j, j ≤ l.length → NmB ((l.take j).foldl nameStep ([], [])) j
 | 0, _ => ⟨by simp, by simp, fun _ h => by simp at h⟩
 | j + 1, h => by
   rw [List.take_succ_eq_append_getElem h, List.foldl_append]
   exact nmB_step (nmB_take l j (by omega)) _
theorem paths_at {M : Nat → Nat → Prop} {w : World} {l : List FileD} {v : Value} (h : RepV M w (.sl fT) l v) : ∃ A c, v = .slice A l.length c ∧ l.length ≤ c ∧ ∀ i (h : i < l.length), ∃ b o, A = some ⟨b, o, none⟩ ∧
   w.cell? ⟨b, o + i * 3, none⟩ = some (.string ⟨l[i].1.toArray⟩) := by
 obtain ⟨A, c, h1, h2, h3, h4⟩ := RepV.plain (t := .sl fT) rfl h
 injection h1 with h1
 refine ⟨A, c, h1, h2, fun i hi => ?_⟩
 obtain ⟨b, o, rfl⟩ : ∃ b o, A = some ⟨b, o, none⟩ := by
   obtain ⟨ad, es, e1, hr, hp⟩ := h4 0 (by omega)
   obtain ⟨c1, c2, rfl, hr1, -⟩ := id hr
   obtain rfl : c1 = [.string ⟨(l[0]'(by omega)).1.toArray⟩] := hr1
   have h0 := (hp 0 _ rfl).1
   obtain ⟨b, o, sp⟩ := ad
   cases sp with
   | none => exact ⟨b, o, e1⟩
   | some s =>
     have : w.cell? (⟨b, o, some s⟩ : Addr) = none := by
       unfold World.cell?
       split <;> rfl
     rw [Nat.zero_mul, show ((Addr.add ⟨b, o, some s⟩ 0).add 0) = ⟨b, o, some s⟩ from rfl, this] at h0
     cases h0
 obtain ⟨ad, es, e1, hr, hp⟩ := h4 i hi
 obtain rfl := Option.some.inj e1
 obtain ⟨c1, c2, rfl, hr1, -⟩ := id hr
 obtain rfl : c1 = [.string ⟨l[i].1.toArray⟩] := hr1
 have h0 := (hp 0 _ rfl).1
 rw [add_of_add, Addr.add_box] at h0
 exact ⟨b, o, rfl, h0⟩
set_option maxHeartbeats 1600000 in
theorem names_walk (M : Nat → Nat → Prop) (w : World) (v : Value) (l : List FileD) (zs : List Str × List Int) (hG : GW w) (hv : RepV M w (.sl fT) l v) (hz : ref1_names l = some zs) :
   Calls Tryz.prog 41 #[v] w fun e w' => ∃ o m, e = .returned (.tuple #[o, m]) ∧ NmI w w' o m zs := by
 unfold ref1_names at hz
 split at hz
 case isFalse => cases hz
 rename_i hb
 obtain ⟨hb1, hb2⟩ := hb
 obtain rfl := Option.some.inj hz
 obtain ⟨A, c, rfl, hlc, hat⟩ := paths_at hv
 obtain ⟨m, hm⟩ := hG.len
 clear hv hz
 go_enter Tryz.func41, Tryz.ntmps41
 go_wp2
 go_loopw [4, 5, 6] (fun out many i wr => ∃ (j : Nat), j ≤ l.length ∧ i = .int .i64 (j : Int) ∧ NmI w wr out many ((l.take j).foldl nameStep ([], []))) (fun _ _ i _ => l.length - (intOf i).toNat)
 case atStart => exact ⟨0, Nat.zero_le _, rfl, Ext.refl _, World.ownsRow_nil _ _ _ _, World.ownsRow_nil _ _ _ _, fun _ => ⟨rfl, rfl⟩⟩
 case round =>
   obtain ⟨j, hj, rfl, hI⟩ := hrel
   have hB := nmB_take l j hj
   obtain ⟨p, hp⟩ : ∃ p, (l.take j).foldl nameStep ([], []) = p := ⟨_, rfl⟩
   rw [hp] at hI hB
   by_cases hlt : j < l.length
   · have hltI : (j : Int) < (l.length : Int) := by omega
     obtain ⟨b, o, rfl, k0⟩ := hat j hlt
     have k0' := hI.ext.cell k0
     have hm' := hI.ext.cell hm
     have hs1 := hb2 l[j] (List.getElem_mem hlt)
     obtain ⟨⟨nm, rs, d⟩, hcutE⟩ : ∃ q, Lib.cut l[j].1 [47] = q := ⟨_, rfl⟩
     have hfold : (l.take (j + 1)).foldl nameStep ([], []) = nameStep p l[j] := by
       rw [List.take_succ_eq_append_getElem hlt, List.foldl_append, hp]; rfl
     obtain ⟨ns, ks⟩ := p
     obtain ⟨A3, c3, hA3, hc3, hc3m, -⟩ := Row.of_own' hI.own
     obtain ⟨A4, c4, hA4, hc4, hc4m, -⟩ := Row.of_own' hI.mown
     obtain rfl : u4 = .slice A3 ns.length c3 := hA3
     obtain rfl : u5 = .slice A4 ns.length c4 := hA4
     have hBl := hB.1
     have HI := Lib.hid hI
     have HB := Lib.hid hb2
     have HA := Lib.hid hat
     have HBB := Lib.hid hB
     clear hI hb2 hat hp hB
     go_upto_block 2 with (go_at_call 49; refine (Tryz.strings_Cut ⟨l[j].1.toArray⟩ ⟨#[47]⟩ m _ hs1 hm').mono ?_; rintro e w' ⟨rfl, q, rfl⟩)
     obtain ⟨hp1, hp2, hp3⟩ := posN_spec nm ns
     have HP1 := Lib.hid hp1
     have HP3 := Lib.hid hp3
     clear hp1 hp3
     go_cut [10] (fun k wx => k = .int .i64 (posN ns nm : Int) ∧ wx = wr.drewN q)
     case first =>
       go_wp2_with fail
       go_loopw [10] (fun k wx => ∃ i : Nat, i ≤ posN ns nm ∧ k = .int .i64 (i : Int) ∧ wx = wr.drewN q) (fun k _ => ns.length - (intOf k).toNat)
       case atStart => exact ⟨0, Nat.zero_le _, rfl, rfl⟩
       case round =>
         obtain ⟨i, hi, rfl, rfl⟩ := hrel
         by_cases hin : i < ns.length
         · obtain ⟨g3, c3', hform, hg30, hg31⟩ := HI.out.own.form (by show 0 < ns.length; omega)
           have hown := HI.out.own
           rw [hform] at hown
           have ki : wr.cell? ⟨g3, i, none⟩ = some (.string ⟨ns[i].toArray⟩) := (hown.cellAt i (by show i < ns.length * 1; omega)).trans (by simp [sC, hin])
           have hinI : (i : Int) < (ns.length : Int) := by omega
           injection hform with hf1 hf2 hf3
           subst hf1; subst hf3
           by_cases hlt2 : i < posN ns nm
           · have hless := HP1.out i hin hlt2
             have hO := Lib.hid hown
             clear hown
             go_wp2_with fail
             go_roundw
             case rel => exact ⟨i + 1, hlt2, rfl, trivial⟩
             case measure => simp [intOf]; omega
           · obtain rfl : i = posN ns nm := by omega
             have hless := HP3.out hin
             have hO := Lib.hid hown
             clear hown
             go_wp2_with fail
             go_meet
             case rel => exact ⟨rfl, rfl⟩
         · obtain rfl : i = posN ns nm := by omega
           have hinI : ¬ (posN ns nm : Int) < (ns.length : Int) := by omega
           go_wp2_with fail
           go_meet
           case rel => exact ⟨rfl, rfl⟩
     case rest =>
       obtain ⟨rfl, rfl⟩ := ‹_ ∧ _›
       go_upto_region 10 with fail
       go_cut [54] (fun t wx => t = .bool (decide (ns[posN ns nm]? = some nm)) ∧ wx = wr.drewN q)
       case first =>
         by_cases hin : posN ns nm < ns.length
         · obtain ⟨g3, c3', hform, hg30, hg31⟩ := HI.out.own.form (by show 0 < ns.length; omega)
           have hown := HI.out.own
           rw [hform] at hown
           have ki : wr.cell? ⟨g3, posN ns nm, none⟩ = some (.string ⟨ns[posN ns nm].toArray⟩) := (hown.cellAt _ (by show posN ns nm < ns.length * 1; omega)).trans (by simp [sC, hin])
           have hinI : (posN ns nm : Int) < (ns.length : Int) := by omega
           injection hform with hf1 hf2 hf3
           subst hf1; subst hf3
           have hO := Lib.hid hown
           clear hown
           have hgt : ns[posN ns nm]? = some ns[posN ns nm] := List.getElem?_eq_getElem hin
           by_cases hf : ns[posN ns nm] = nm
           · have hfb : (ns[posN ns nm] == nm) = true := by simpa using hf
             rw [hf] at ki
             have HF := Lib.hid (show decide (ns[posN ns nm]? = some nm) = true by rw [hgt, hf]; simp)
             clear hf hgt
             go_wp2_with fail
             go_meet
             case rel => exact ⟨by rw [HF.out], rfl⟩
           · have hfb : (ns[posN ns nm] == nm) = false := by simpa using hf
             have HF := Lib.hid (show decide (ns[posN ns nm]? = some nm) = false by rw [hgt]; simpa using hf)
             clear hf hgt
             go_wp2_with fail
             go_meet
             case rel => exact ⟨by rw [HF.out], rfl⟩
         · have hinI : ¬ (posN ns nm : Int) < (ns.length : Int) := by omega
           go_wp2_with fail
           go_meet
           case rel => exact ⟨by rw [List.getElem?_eq_none (by omega)]; rfl, rfl⟩
       case rest =>
         obtain ⟨rfl, rfl⟩ := ‹_ ∧ _›
         by_cases hfnd : ns[posN ns nm]? = some nm
         · rw [decide_eq_true hfnd]
           have hin : posN ns nm < ns.length := (List.getElem?_eq_some_iff.1 hfnd).1
           have hks : ks.length = ns.length := HBB.out.2.1
           obtain ⟨g4, c4', hform, hg30, hg31⟩ := HI.out.mown.form (by show 0 < ns.length; omega)
           have hown := HI.out.mown
           rw [hform] at hown
           have hx := HBB.out.2.2 (ks[posN ns nm]'(by omega)) (List.getElem_mem _)
           obtain ⟨x, hxe⟩ : ∃ x, ks[posN ns nm]'(by omega) = x := ⟨_, rfl⟩
           rw [hxe] at hx
           have ki : wr.cell? ⟨g4, posN ns nm, none⟩ = some (.int .i64 x) := (hown.cellAt _ (by show posN ns nm < ns.length * 1; omega)).trans (by simp [iC, hks, hin, hxe])
           have fi : wr.frozen? ⟨g4, posN ns nm, none⟩ = false := hown.frozenAt _
           have hinI : (posN ns nm : Int) < (ns.length : Int) := by omega
           obtain ⟨hx0, hx1⟩ := hx
           have hx2 : x < 1000000 := by omega
           injection hform with hf1 _ hf3
           subst hf1; subst hf3
           have hO := Lib.hid hown
           have hstep : nameStep (ns, ks) l[j] = (ns, ks.set (posN ns nm) (x + 1)) := by
             unfold nameStep
             rw [hcutE]
             simp only []
             rw [if_pos hfnd, List.getD_eq_getElem?_getD, List.getElem?_eq_getElem (by omega), hxe]
             rfl
           have HT := Lib.hid hstep
           clear hown hstep hxe hfnd
           go_wp2_with fail
           go_roundw
           case rel => exact ⟨j + 1, hlt, rfl, by rw [hfold, HT.out]; exact (HI.out.up ((Ext.refl wr).drewN q)).bump _ _ (by show 0 < ns.length; omega)⟩
           case measure => simp [intOf]; omega
         · rw [decide_eq_false hfnd]
           have hstep : nameStep (ns, ks) l[j] = (ns.take (posN ns nm) ++ [nm] ++ ns.drop (posN ns nm), ks.take (posN ns nm) ++ [1] ++ ks.drop (posN ns nm)) := by
             unfold nameStep
             rw [hcutE]
             simp only []
             rw [if_neg hfnd]
           have HT := Lib.hid hstep
           clear hstep hfnd
           have hI2 := HI.out.up ((Ext.refl wr).drewN q)
           generalize hwq : wr.drewN q = wq at hI2 ⊢
           have hkn := posN_le ns nm
           have hks : ks.length = ns.length := HBB.out.2.1
           obtain ⟨kk, hkk⟩ : ∃ kk, posN ns nm = kk := ⟨_, rfl⟩
           rw [hkk] at HT hkn ⊢
           by_cases hn0 : ns.length = 0
           · obtain ⟨hnil1, hnil2⟩ := hI2.nil hn0
             injection hnil1 with hf1 _ hf3
             injection hnil2 with hf4 _ hf5
             subst hf1; subst hf3; subst hf4; subst hf5
             obtain rfl : ns = [] := List.eq_nil_of_length_eq_zero hn0
             obtain rfl : ks = [] := List.eq_nil_of_length_eq_zero hks
             obtain rfl : kk = 0 := by simpa using hkn
             have HI2 := Lib.hid hI2
             clear hI2
             go_upto_region 14 with fail
             go_region_held3 (fun w' => True) (trivial) (fail)
             have o1' : wq.drew.ownsRow wq.heap.size 9 1 nilV 0 (sC (([] : List Str).take 0)) := World.ownsRow_nil _ _ _ _
             have o2' : wq.drew.ownsRow wq.heap.size 3 1 nilV 0 (iC (([] : List Int).take 0)) := World.ownsRow_nil _ _ _ _
             have e2 : Ext wq wq.drew := (Ext.refl wq).drew
             have zb1 : 1 * 16 ≤ 140737488355328 := by omega
             have zb2 : 1 * 8 ≤ 140737488355328 := by omega
             go_upto_region 16 with (first
               | (at_builtin; refine wp_app1 (w0 := wq) rfl et_str rfl o1' e2 rfl (cs := #[.string ⟨nm.toArray⟩]) rfl rfl rfl zb1 ?_; intro v3 w3 o3 e3 g3' _ _)
               | (at_builtin; refine wp_app1 (w0 := wq) rfl et_int2 rfl (o2'.kept g3' (own_apart o2' o1' (by decide))) e3 rfl (cs := #[.int .i64 1]) rfl rfl rfl zb2 ?_; intro v4 w4 o4 e4 g4' _ _))
             have hb3 := o2'.kept g3' (own_apart o2' o1' (by decide))
             have o3' := o3.kept g4' (own_apart o3 hb3 (by decide))
             have R3 : Row wq none ((sC []).drop 0) := fun h => absurd rfl h
             have R4 : Row wq none ((iC []).drop 0) := fun h => absurd rfl h
             clear o1' o2' hb3 o3 g3' g4' e2 e3
             go_region_held3 (fun w' => True) (trivial) (first
               | (refine step_app (w0 := wq) (by rfl) et_str (by rfl) o3'.drew e4.drew (by rfl) (R3.ext e4.drew) (by rfl) (by simp [sC]) (fun u hu => sC1 [] u (List.mem_of_mem_drop hu)) (by omega) ?_; intro v5 w5 o5 e5 g5)
               | (refine step_app (w0 := wq) (by rfl) et_int2 (by rfl) (o4.drew.kept g5 (own_apart o4 o3' (by decide))) e5 (by rfl) (R4.ext e5) (by rfl) (by simp [iC]) (fun u hu => iC1 [] u (List.mem_of_mem_drop hu)) (by omega) ?_; intro v6 w6 o6 e6 g6))
             have o4' := o4.drew.kept g5 (own_apart o4 o3' (by decide))
             have o5' := o5.kept g6 (own_apart o5 o4' (by decide))
             have hN : NmI w w6 v5 v6 (([] : List Str).take 0 ++ [nm] ++ ([] : List Str).drop 0, ([] : List Int).take 0 ++ [1] ++ ([] : List Int).drop 0) := by
               have hl : (([] : List Str).take 0 ++ [nm] ++ ([] : List Str).drop 0).length = 0 + 1 + (([] : List Str).length - 0) := by simp
               refine ⟨HI2.out.ext.trans e6, own_mono ?_ HI2.out.ext.size, own_mono ?_ HI2.out.ext.size, fun h => by simp only [] at h; omega⟩
               · simp only [hl]
                 simpa [sC, List.map_take, List.map_drop] using o5'
               · simp only [hl]
                 simpa [iC, List.map_take, List.map_drop] using o6
             have HN := Lib.hid hN
             clear o4' o5' hN o5 o6 o3' o4 g5 g6 e4 e5 e6 R3 R4
             go_wp2_with fail
             go_roundw
             case rel => exact ⟨j + 1, hlt, rfl, by rw [hfold, HT.out]; exact HN.out⟩
             case measure => simp [intOf]; omega
           · obtain ⟨g3, c3', hform, hg30, hg31⟩ := hI2.own.form (by show 0 < ns.length; omega)
             obtain ⟨g4, c4', hform2, hg40, hg41⟩ := hI2.mown.form (by show 0 < ns.length; omega)
             injection hform with hf1 _ hf3
             injection hform2 with hf4 _ hf5
             subst hf1; subst hf3; subst hf4; subst hf5
             have z0 : (0 : Int) ≤ (kk : Int) := Int.natCast_nonneg _
             have z1 : (kk : Int) ≤ (c3 : Int) := by omega
             have z2 : (kk : Int) ≤ (c4 : Int) := by omega
             have z3 : (kk : Int) ≤ (ns.length : Int) := by omega
             have R1 := Row.cut0 hI2.own kk
             have R2 := Row.cut0 hI2.mown kk
             have HI2 := Lib.hid hI2
             clear hI2
             go_upto_region 14 with fail
             go_region_held3 (fun w' => True) (trivial) (first
               | (refine step_app (w0 := wq) (by rfl) et_str (by rfl) (World.ownsRow_nil _ _ _ _) ((Ext.refl wq).drew) (by rfl) R1 (by rfl) (by simp [sC]; omega) (fun u hu => sC1 ns u (List.mem_of_mem_take hu)) (by omega) ?_; intro v1 w1 o1 e1 g1)
               | (refine step_app (w0 := wq) (by rfl) et_int2 (by rfl) (World.ownsRow_nil _ _ _ _) e1 (by rfl) (R2.ext e1) (by rfl) (by simp [iC]; omega) (fun u hu => iC1 ks u (List.mem_of_mem_take hu)) (by omega) ?_; intro v2 w2 o2 e2 g2))
             have o1' : w2.ownsRow wq.heap.size 9 1 v1 kk (sC (ns.take kk)) := by
               have h := o1.kept g2 (by cases h : v1.ownBlock <;> simp [Value.ownBlock])
               rw [Nat.zero_add, List.nil_append] at h
               simpa [sC, List.map_take] using h
             have o2' : w2.ownsRow wq.heap.size 3 1 v2 kk (iC (ks.take kk)) := by
               rw [Nat.zero_add, List.nil_append] at o2
               simpa [iC, List.map_take] using o2
             clear o1 o2 g1 g2 e1 R1 R2
             have zb1 : (kk + 1) * 16 ≤ 140737488355328 := by omega
             have zb2 : (kk + 1) * 8 ≤ 140737488355328 := by omega
             go_upto_region 16 with (first
               | (at_builtin; refine wp_app1 (w0 := wq) rfl et_str rfl o1' e2 rfl (cs := #[.string ⟨nm.toArray⟩]) rfl rfl rfl zb1 ?_; intro v3 w3 o3 e3 g3' _ _)
               | (at_builtin; refine wp_app1 (w0 := wq) rfl et_int2 rfl (o2'.kept g3' (own_apart o2' o1' (by decide))) e3 rfl (cs := #[.int .i64 1]) rfl rfl rfl zb2 ?_; intro v4 w4 o4 e4 g4' _ _))
             have hb3 := o2'.kept g3' (own_apart o2' o1' (by decide))
             have o3' := o3.kept g4' (own_apart o3 hb3 (by decide))
             have R3 : Row wq (if c3 = kk then some ⟨g3, 0, none⟩ else some ⟨g3, kk, none⟩) ((sC ns).drop kk) := by
               by_cases h : c3 = kk
               · have : (sC ns).drop kk = [] := List.drop_eq_nil_of_le (by simp [sC]; omega)
                 rw [this]; exact fun h => absurd rfl h
               · rw [if_neg h]; exact Row.cut HI2.out.own kk
             have R4 : Row wq (if c4 = kk then some ⟨g4, 0, none⟩ else some ⟨g4, kk, none⟩) ((iC ks).drop kk) := by
               by_cases h : c4 = kk
               · have : (iC ks).drop kk = [] := List.drop_eq_nil_of_le (by simp [iC]; omega)
                 rw [this]; exact fun h => absurd rfl h
               · rw [if_neg h]; exact Row.cut HI2.out.mown kk
             have hkt : (ns.length - kk) + (kk + 1) = ns.length + 1 := by omega
             clear o1' o2' hb3 o3 g3' g4' e2 e3
             go_region_held3 (fun w' => True) (trivial) (first
               | (refine step_app (w0 := wq) (by rfl) et_str (by rfl) o3'.drew e4.drew (by rfl) (R3.ext e4.drew) (by rfl) (by simp [sC]) (fun u hu => sC1 ns u (List.mem_of_mem_drop hu)) (by omega) ?_; intro v5 w5 o5 e5 g5)
               | (refine step_app (w0 := wq) (by rfl) et_int2 (by rfl) (o4.drew.kept g5 (own_apart o4 o3' (by decide))) e5 (by rfl) (R4.ext e5) (by rfl) (by simp [iC]; omega) (fun u hu => iC1 ks u (List.mem_of_mem_drop hu)) (by omega) ?_; intro v6 w6 o6 e6 g6))
             have o4' := o4.drew.kept g5 (own_apart o4 o3' (by decide))
             have o5' := o5.kept g6 (own_apart o5 o4' (by decide))
             have hN : NmI w w6 v5 v6 (ns.take kk ++ [nm] ++ ns.drop kk, ks.take kk ++ [1] ++ ks.drop kk) := by
               have hl : (ns.take kk ++ [nm] ++ ns.drop kk).length = kk + 1 + (ns.length - kk) := by simp; omega
               refine ⟨HI2.out.ext.trans e6, own_mono ?_ HI2.out.ext.size, own_mono ?_ HI2.out.ext.size, fun h => by simp only [] at h; omega⟩
               · simp only [hl]
                 simpa [sC, List.map_take, List.map_drop] using o5'
               · simp only [hl]
                 simpa [iC, List.map_take, List.map_drop] using o6
             have HN := Lib.hid hN
             clear o4' o5' hN o5 o6 o3' o4 g5 g6 e4 e5 e6 R3 R4
             go_wp2_with fail
             go_roundw
             case rel => exact ⟨j + 1, hlt, rfl, by rw [hfold, HT.out]; exact HN.out⟩
             case measure => simp [intOf]; omega
   · obtain rfl : j = l.length := by omega
     rw [List.take_of_length_le (Nat.le_refl _)] at hp
     have hI' := Lib.hid hI
     clear hI hB hb2 hat
     go_wp2_with fail
     go_ret2
     exact ⟨u4, u5, rfl, by rw [hp]; exact hI'.out⟩
theorem z56sound : Sound Tryz.prog GW B0G 41 ⟨[.v (.sl fT)], [], [.v (.sl .str), .v (.sl (.int .i64))], [], List Str × List Int, fun z => ((z.1, z.2, ()), ()), fun x _ => ref1_names x.1⟩ := by
 refine Sound.ofExt Tryz.call41 fun M w vs x z hG hM hA hz => ?_
 obtain ⟨l, u⟩ := x
 match vs, hA with
 | [v], hA =>
   obtain ⟨h1, _⟩ := hA
   refine (names_walk M w v l z hG h1 hz).mono fun e w' hp => ?_
   obtain ⟨o, m, rfl, hI⟩ := hp
   have hlow : ∀ {e : TypeId} {v : Value} {n : Nat} {cs : List Value}, w'.ownsRow w.heap.size e 1 v n cs → ∀ b o, v.ownBlock = some b → ¬ M b o := fun h b o hb hm => by
     have := (h.lt b hb).1; have := hM b o hm; omega
   refine ⟨[o, m], rfl, hI.ext, RepC.toV rfl (RepC.of_own (t := .str) (by decide) hI.own (fun b o hb _ => hlow hI.own b o hb) fun i hi => ?_), RepC.toV rfl (RepC.of_own (t := .int .i64) (xs := z.2) (cs := iC z.2) (by decide) (by rw [hI.len]; exact hI.mown) (fun b o hb _ => hlow hI.mown b o hb) fun i hi => ?_), trivial⟩
   · show ((sC z.1).drop (i * 1)).take 1 = _
     rw [Nat.mul_one, sC, ← List.map_drop, List.drop_eq_getElem_cons hi]
     rfl
   · show ((iC z.2).drop (i * 1)).take 1 = _
     rw [Nat.mul_one, iC, ← List.map_drop, List.drop_eq_getElem_cons hi]
     rfl
end Go.Proofs.YtjiddcchklaiiaaGreatDoor

