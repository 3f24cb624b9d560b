/- The trees, plainly: the objects that both writers gather. -/
import Derived.Test.YtjiddcchklaiiaaGreatDoorQLTrH
import Derived.Test.YtjiddcchklaiiaaGreatDoorQTsR
import Derived.Test.YtjiddcchklaiiaaGreatDoorQBmOb
import Derived.Test.YtjiddcchklaiiaaGreatDoorQBmSo
namespace Go.Proofs.YtjiddcchklaiiaaGreatDoor
set_option linter.unusedVariables false
set_option linter.unusedSimpArgs false
open Go Go.RowKit
abbrev ObjD : Type := Str × List UInt8
def insO (d : Str) (b : List UInt8) : List ObjD → List ObjD
 | [] => [(d, b)]
 | x :: w => if x.1 < d then x :: insO d b w else if x.1 = d then x :: w else (d, b) :: x :: w
noncomputable def putM (N : Nat) (m : List ObjD) (b : List UInt8) : List ObjD := if (mget m (dg N b)).isSome = true then m else mset m (dg N b) b
noncomputable def putW (N : Nat) (w : List ObjD) (b : List UInt8) : List ObjD := insO (dg N b) b w
structure SameO (m w : List ObjD) : Prop where
 perm : w.Perm m
 asc : w.Pairwise fun a b => a.1 < b.1
theorem mget_isSome {k : Str} : ∀ {m : List ObjD}, (mget m k).isSome = true ↔ ∃ x ∈ m, x.1 = k
 | [] => by simp [mget]
 | (j, x) :: m => by
   rw [mget]
   by_cases h : k = j
   · subst h
     simp
   · have h2 : (k == j) = false := by simpa using h
     rw [h2]
     simp only [Bool.false_eq_true, if_false]
     rw [mget_isSome (m := m)]
     constructor
     · rintro ⟨y, hy, e⟩; exact ⟨y, List.mem_cons_of_mem _ hy, e⟩
     · rintro ⟨y, hy, e⟩
       rcases List.mem_cons.1 hy with rfl | hy
       · exact absurd e.symm h
       · exact ⟨y, hy, e⟩
theorem mset_fresh {k : Str} {b : List UInt8} : ∀ {m : List ObjD}, (mget m k).isSome = false → mset m k b = m ++ [(k, b)]
 | [], _ => rfl
 | (j, x) :: m, h => by
   rw [mget] at h
   rw [mset]
   cases h2 : k == j with
   | true => rw [h2] at h; simp at h
   | false =>
     rw [h2] at h
     simp only [Bool.false_eq_true, if_false] at h ⊢
     rw [mset_fresh h]
     rfl
theorem insO_there {d : Str} {b : List UInt8} : ∀ {w : List ObjD}, w.Pairwise (fun a b => a.1 < b.1) → (∃ x ∈ w, x.1 = d) → insO d b w = w
 | [], _, ⟨x, hx, _⟩ => absurd hx List.not_mem_nil
 | x :: w, h, ⟨y, hy, e⟩ => by
   obtain ⟨h1, h2⟩ := List.pairwise_cons.1 h
   rw [insO]
   by_cases hlt : x.1 < d
   · rw [if_pos hlt]
     rcases List.mem_cons.1 hy with rfl | hy
     · rw [e] at hlt; exact absurd hlt (str_lt_irrefl _)
     · rw [insO_there h2 ⟨y, hy, e⟩]
   · rw [if_neg hlt]
     rcases List.mem_cons.1 hy with rfl | hy
     · rw [if_pos e]
     · have := h1 y hy
       rw [e] at this
       exact absurd this hlt
theorem insO_new {d : Str} {b : List UInt8} : ∀ {w : List ObjD}, w.Pairwise (fun a b => a.1 < b.1) → (∀ x ∈ w, x.1 ≠ d) → (insO d b w).Perm ((d, b) :: w) ∧ (insO d b w).Pairwise fun a b => a.1 < b.1
 | [], _, _ => ⟨List.Perm.refl _, List.pairwise_singleton _ _⟩
 | x :: w, h, hn => by
   obtain ⟨h1, h2⟩ := List.pairwise_cons.1 h
   have hx := hn x List.mem_cons_self
   rw [insO]
   by_cases hlt : x.1 < d
   · rw [if_pos hlt]
     obtain ⟨p, q⟩ := insO_new (b := b) h2 fun y hy => hn y (List.mem_cons_of_mem _ hy)
     refine ⟨(p.cons x).trans (List.Perm.swap _ _ _), List.pairwise_cons.2 ⟨fun y hy => ?_, q⟩⟩
     rcases List.mem_cons.1 (p.mem_iff.1 hy) with rfl | hy
     · exact hlt
     · exact h1 y hy
   · rw [if_neg hlt, if_neg hx]
     have hg := str_gt hlt hx
     refine ⟨List.Perm.refl _, List.pairwise_cons.2 ⟨fun y hy => ?_, h⟩⟩
     rcases List.mem_cons.1 hy with rfl | hy
     · exact hg
     · exact str_lt_trans hg (h1 y hy)
theorem insO_len (d : Str) (b : List UInt8) : ∀ w : List ObjD, (insO d b w).length ≤ w.length + 1
 | [] => Nat.le_refl _
 | x :: w => by
   have := insO_len d b w
   rw [insO]
   split
   · rw [List.length_cons, List.length_cons]; omega
   · split
     · omega
     · rw [List.length_cons]; omega
theorem SameO.put {N : Nat} {m w : List ObjD} (h : SameO m w) (b : List UInt8) : SameO (putM N m b) (putW N w b) := by
 unfold putM putW
 by_cases hs : (mget m (dg N b)).isSome = true
 · rw [if_pos hs]
   obtain ⟨x, hx, e⟩ := mget_isSome.1 hs
   rw [insO_there h.asc ⟨x, h.perm.mem_iff.2 hx, e⟩]
   exact h
 · rw [if_neg hs, mset_fresh (by simpa using hs)]
   obtain ⟨p, q⟩ := insO_new (d := dg N b) (b := b) h.asc fun x hx e => hs (mget_isSome.2 ⟨x, h.perm.mem_iff.1 hx, e⟩)
   exact ⟨p.trans ((h.perm.cons _).trans (List.perm_append_singleton _ _).symm), q⟩
theorem SameO.puts {N : Nat} : ∀ (c : List (List UInt8)) {m w : List ObjD}, SameO m w → SameO (c.foldl (putM N) m) (c.foldl (putW N) w)
 | [], _, _, h => h
 | b :: c, _, _, h => SameO.puts c (h.put b)
theorem puts_len {N : Nat} : ∀ (c : List (List UInt8)) (w : List ObjD), (c.foldl (putW N) w).length ≤ w.length + c.length
 | [], w => Nat.le_refl _
 | b :: c, w => by
   have h1 := puts_len (N := N) c (putW N w b)
   have h2 := insO_len (dg N b) b w
   rw [List.foldl_cons, List.length_cons]
   unfold putW at h1 ⊢
   omega
theorem slc_left {α : Type} (P R : List α) : slc (P ++ R) 0 (P.length : Int) = some P := by
 unfold slc
 rw [if_pos ⟨Int.le_refl _, by omega, by rw [List.length_append]; omega⟩]
 simp
theorem slc_right {α : Type} (P R : List α) : slc (P ++ R) (P.length : Int) ((P ++ R).length : Int) = some R := by
 unfold slc
 rw [if_pos ⟨by omega, by rw [List.length_append]; omega, by omega⟩, Int.toNat_natCast, Int.toNat_natCast, List.take_length, List.drop_left]
theorem put2_loop {N : Nat} {d : Str} {b : List UInt8} {W : List ObjD} {K : Int → Option (List ObjD)}
   (hK1 : ∀ P x R, W = P ++ x :: R → ¬ x.1 < d → K (P.length : Int) = some (if x.1 = d then W else P ++ (d, b) :: x :: R)) (hK2 : K (W.length : Int) = some (W ++ [(d, b)])) :
   ∀ (R P : List ObjD) (fuel : Nat), W = P ++ R → W.length ≤ 1000000 → R.length < fuel → ref1_writer_put_2_L0 N d W K fuel (P.length : Int) = some (P ++ insO d b R)
 | [], P, f + 1, hW, hl, _ => by
   rw [ref1_writer_put_2_L0]
   unfold ref1_writer_put_2_L0T
   rw [List.append_nil] at hW
   rw [← hW, decide_eq_false (by omega), br_false, hK2]
   rfl
 | x :: R, P, f + 1, hW, hl, hf => by
   have ih := put2_loop (N := N) hK1 hK2 R (P ++ [x]) f (by rw [hW]; simp) hl (by rw [List.length_cons] at hf; omega)
   have hlw : W.length = P.length + R.length + 1 := by rw [hW, List.length_append, List.length_cons]; omega
   have hge : geti W (P.length : Int) = some x := by rw [hW]; exact geti_app _ _ _
   rw [ref1_writer_put_2_L0]
   unfold ref1_writer_put_2_L0T
   rw [decide_eq_true (by omega), br_true, hge, bnd_some, bytesLess_lt, insO]
   by_cases hlt : x.1 < d
   · rw [decide_eq_true hlt, br_true, if_pos hlt, w64 _ (by omega) (by omega)]
     rw [List.length_append, List.length_singleton, Int.natCast_add, List.append_assoc] at ih
     exact ih
   · rw [decide_eq_false hlt, br_false, if_neg hlt, hK1 P x R hW hlt]
     by_cases he : x.1 = d
     · rw [if_pos he, if_pos he, hW]
     · rw [if_neg he, if_neg he]
theorem put2_ok {N : Nat} (hN : big ≤ N) (d : Str) {b : List UInt8} (hb : b.length ≤ 1000000) {W : List ObjD} (hW : W.length ≤ 1000000) : ref1_writer_put_2 N d b W = some (insO d b W) := by
 have hbig : big = 18446744073709551616 := rfl
 unfold ref1_writer_put_2
 have hz : Ty.sz .u8 = 1 := rfl
 have hz2 : Ty.sz (.pr .str (.sl .u8)) = 2 := rfl
 show ref1_writer_put_2_L0 N d W _ N ((([] : List ObjD).length : Nat) : Int) = some ([] ++ insO d b W)
 refine put2_loop ?h1 ?h2 W [] N rfl hW (by omega)
 case h1 =>
   rintro P x R rfl hlt
   rw [List.length_append, List.length_cons] at hW
   rw [decide_eq_true (by rw [List.length_append, List.length_cons]; omega), br_true, geti_app, bnd_some]
   by_cases he : x.1 = d
   · rw [if_pos he, show (x.1 == d) = true by simpa using he, br_true]
   · rw [if_neg he, show (x.1 == d) = false by simpa using he, br_false, hz, hz2, decide_eq_true (by omega), br_true, slc_left, bnd_some, decide_eq_true (by simp only [List.length_append, List.length_nil]; omega), br_true,
       decide_eq_true (by simp only [List.length_append, List.length_cons, List.length_nil]; omega), br_true, slc_right, bnd_some, decide_eq_true (by simp only [List.length_append, List.length_cons, List.length_nil]; omega), br_true]
     simp
 case h2 =>
   have e1 : slc W (0 : Int) (W.length : Int) = some W := by have := slc_left W []; rwa [List.append_nil] at this
   have e2 : slc W (W.length : Int) (W.length : Int) = some [] := by have := slc_right W []; rwa [List.append_nil] at this
   rw [decide_eq_false (by omega), br_false, hz, hz2, decide_eq_true (by omega), br_true, e1, bnd_some, decide_eq_true (by simp only [List.length_append, List.length_nil]; omega), br_true,
     decide_eq_true (by simp only [List.length_append, List.length_cons, List.length_nil]; omega), br_true, e2, bnd_some, decide_eq_true (by simp only [List.length_append, List.length_cons, List.length_nil]; omega), br_true]
   simp
theorem put_first {N : Nat} (hN : big ≤ N) (d : Str) {b : List UInt8} (hb : b.length ≤ 1000000) : ref1_writer_put N d b = ref1_writer_put_2 N d b [] := by
 have e : ∀ (K : Int → Option (List ObjD)) f i, ref1_writer_put_L0 N d K f i = ref1_writer_put_2_L0 N d [] K f i := by
   intro K f
   induction f with
   | zero => exact fun _ => rfl
   | succ f ih =>
     intro i
     have : ref1_writer_put_L0 N d K f = ref1_writer_put_2_L0 N d [] K f := funext ih
     rw [ref1_writer_put_L0, ref1_writer_put_2_L0, this]
     rfl
 unfold ref1_writer_put ref1_writer_put_2
 rw [e]
 rfl
theorem clone_ok {N : Nat} {b : List UInt8} (hb : b.length ≤ 1000000) : slices_Clone_byte_byte N b = some b := by
 unfold slices_Clone_byte_byte
 have hz : Ty.sz .u8 = 1 := rfl
 cases b with
 | nil =>
   rw [List.isEmpty_nil, br_true, hz, decide_eq_true (by decide), br_true]
   simp
 | cons c b =>
   rw [List.isEmpty_cons, br_false, hz, decide_eq_true (by simp only [List.length_nil]; omega), br_true]
   rfl
theorem putB_ok {N : Nat} (hN : big ≤ N) {b : List UInt8} (hb : b.length ≤ 1000000) (m : List ObjD) : blob_writer_put N b m = some (dg N b, putM N m b) := by
 unfold blob_writer_put putM
 rw [(digs hN (by omega)).blob, bnd_some]
 cases h : (mget m (dg N b)).isSome with
 | true => rw [Bool.not_true, br_false, if_pos rfl]
 | false => rw [Bool.not_false, br_true, clone_ok hb, bnd_some, if_neg (by decide)]
end Go.Proofs.YtjiddcchklaiiaaGreatDoor


/- The trees, plainly: both writers gather the same contents. -/
namespace Go.Proofs.YtjiddcchklaiiaaGreatDoor
set_option linter.unusedVariables false
set_option linter.unusedSimpArgs false
open Go Go.RowKit
def wgt (nd : NodeD) : Nat := match nd.2.1 with
 | some _ => 1
 | none => nd.2.2.length
theorem wgt_step (ns : List NodeD) (x : FileD) : ((nodeStep ns x).map wgt).sum = (ns.map wgt).sum + 1 := by
 unfold nodeStep
 dsimp only
 split
 · simp [wgt]
 · split
   · rename_i nd h
     have hns : ns = ns.dropLast ++ [nd] := by
       obtain ⟨hne, e⟩ := List.getLast?_eq_some_iff.1 h
       rw [e]; simp
     split
     · rename_i hc
       have e : (ns.map wgt).sum = (ns.dropLast.map wgt).sum + nd.2.2.length := by
         rw [hns]; simp [wgt, hc.2]
       rw [e]
       simp [wgt]
       omega
     · simp [wgt]
   · simp [wgt]
theorem wgt_fold : ∀ (l : List FileD) (ns : List NodeD), ((l.foldl nodeStep ns).map wgt).sum = (ns.map wgt).sum + l.length
 | [], ns => rfl
 | x :: l, ns => by rw [List.foldl_cons, wgt_fold l, wgt_step, List.length_cons]; omega
theorem wgt_all {d : Nat} {l : List FileD} (h : Tame d l) : ((nodesL l).map wgt).sum = l.length := by
 have h1 := ((tn_perm h.tn).map wgt).sum_nat
 rw [h1, wgt_fold]
 simp
def contN (c : List FileD → List (List UInt8)) (nd : NodeD) : List (List UInt8) := match nd.2.1 with
 | some x => [x.2.2]
 | none => c nd.2.2
noncomputable def cont (N : Nat) : Nat → List FileD → List (List UInt8)
 | 0, _ => [[]]
 | d + 1, l => txt N (d + 1) l :: (nodesL l).flatMap (contN (cont N d))
theorem flat_wgt {c : Nat} {f : NodeD → List (List UInt8)} : ∀ {T : List NodeD}, (∀ nd ∈ T, (f nd).length ≤ wgt nd * c) → (T.flatMap f).length ≤ (T.map wgt).sum * c
 | [], _ => by simp
 | nd :: T, h => by
   have h1 := h nd List.mem_cons_self
   have h2 := flat_wgt (T := T) fun x hx => h x (List.mem_cons_of_mem _ hx)
   rw [List.flatMap_cons, List.length_append, List.map_cons, List.sum_cons, Nat.add_mul]
   omega
theorem node_cases {d : Nat} {l : List FileD} (h : Tame (d + 1) l) {nd : NodeD} (hnd : nd ∈ nodesL l) : (∃ x ∈ l, nd.2.1 = some x ∧ x.1 = nd.1) ∨ (nd.2.1 = none ∧ nd.2.2 = within nd.1 l ∧ nd.2.2 ≠ [] ∧ Tame d nd.2.2) := by
 obtain ⟨_, ⟨x, hx, e1, e⟩ | ⟨hw, e⟩⟩ := h.tn.ok nd hnd
 · exact .inl ⟨x, hx, by rw [e], e1⟩
 · refine .inr ?_
   have e2 : nd.2.2 = within nd.1 l := by rw [e]
   rw [e2]
   exact ⟨by rw [e], rfl, hw, h.within _⟩
theorem cont_len {N : Nat} : ∀ (d : Nat) (l : List FileD), Tame d l → (cont N d l).length ≤ 1 + l.length * d
 | 0, l, _ => by simp [cont]
 | d + 1, l, h => by
   rw [cont, List.length_cons]
   have := flat_wgt (c := d + 1) (f := contN (cont N d)) (T := nodesL l) fun nd hnd => by
     rcases node_cases h hnd with ⟨x, _, e, _⟩ | ⟨e, _, hne, ht⟩
     · unfold contN wgt
       rw [e]
       simp
     · unfold contN wgt
       rw [e]
       have h1 := cont_len (N := N) d _ ht
       have h2 : 1 ≤ nd.2.2.length := List.length_pos_iff.2 hne
       dsimp only
       rw [Nat.mul_succ]
       omega
   rw [wgt_all h] at this
   omega
theorem dir_loop {N : Nat} (hN : big ≤ N) {r : List FileD → List ObjD → Option (Str × List ObjD)} {c : List FileD → List (List UInt8)} (k : List ObjD → Option (Str × List ObjD)) :
   ∀ (R P : List NodeD) (m : List ObjD) (fuel : Nat), (∀ nd ∈ R, (∃ x, nd.2.1 = some x ∧ x.2.2.length ≤ 100000) ∨ (nd.2.1 = none ∧ ∀ m, ∃ z, r nd.2.2 m = some (z, (c nd.2.2).foldl (putM N) m))) → P.length + R.length ≤ 1000000 → R.length < fuel →
     z20L0 N r (P ++ R) ((P ++ R).length : Int) k fuel (P.length : Int) m = k ((R.flatMap (contN c)).foldl (putM N) m)
 | [], P, m, f + 1, _, _, _ => by
   rw [z20L0]
   unfold z20L0T
   rw [decide_eq_false (by simp), br_false]
   rfl
 | nd :: R, P, m, f + 1, hR, h1, h3 => by
   have ih := fun m' => dir_loop hN (r := r) (c := c) k R (P ++ [nd]) m' f (fun x hx => hR x (List.mem_cons_of_mem _ hx)) (by simp at h1 ⊢; omega) (by simp at h3; omega)
   rw [List.length_cons] at h1 h3
   have hpl : (P ++ [nd]).length = P.length + 1 := by rw [List.length_append, List.length_singleton]
   rw [List.append_assoc, List.singleton_append, hpl] at ih
   rw [z20L0]
   unfold z20L0T
   have hnext : IntKind.i64.wrap ((P.length : Int) + 1) = ((P.length + 1 : Nat) : Int) := by rw [w64 _ (by omega) (by omega)]; omega
   rw [decide_eq_true (by rw [List.length_append, List.length_cons]; omega), br_true, geti_app, bnd_some, hnext, List.flatMap_cons, List.foldl_append]
   rcases hR nd List.mem_cons_self with ⟨x, e, hb⟩ | ⟨e, hr⟩
   · rw [e, Option.isNone_some, Bool.not_false, br_true, bnd_some, putB_ok hN (by omega), bnd_some, ih]
     unfold contN
     rw [e]
     rfl
   · obtain ⟨z, hz⟩ := hr m
     rw [e, Option.isNone_none, Bool.not_true, br_false, hz, bnd_some, ih]
     unfold contN
     rw [e]
theorem dir_ok {N : Nat} (hN : big ≤ N) : ∀ (d : Nat) (l : List FileD), Tame d l → ∀ f, d < f → ∀ m, blob_writer_dir N f l m = some (dg N (txt N d l), (cont N d l).foldl (putM N) m)
 | 0, l, h, f + 1, _, m => by
   have hb : big = 18446744073709551616 := rfl
   have ht := text_ok hN 0 l h N (by omega)
   have htn := h.tn
   obtain rfl := h.zero
   have hl := dir_loop hN (r := blob_writer_dir N f) (c := cont N 0) (fun o => some (dg N (txt N 0 []), o)) [] [] (putM N m []) N (fun nd hnd => absurd hnd List.not_mem_nil) (by simp) (by simp; omega)
   show blob_writer_dir_b N (blob_writer_dir N f) [] m = _
   unfold blob_writer_dir_b
   rw [htn.nodes, bnd_some, ht.blob, bnd_some, putB_ok hN (by have := ht.len; omega), bnd_some, nodesL_nil]
   exact hl
 | d + 1, l, h, f + 1, hf, m => by
   have hb : big = 18446744073709551616 := rfl
   have hdp := h.deep
   have ht := text_ok hN (d + 1) l h N (by omega)
   have hlen := tn_len h.tn
   have h1 := h.len
   have hl := dir_loop hN (r := blob_writer_dir N f) (c := cont N d) (fun o => some (dg N (txt N (d + 1) l), o)) (nodesL l) [] (putM N m (txt N (d + 1) l)) N (fun nd hnd => by
     rcases node_cases h hnd with ⟨x, hx, e, _⟩ | ⟨e, _, _, ht⟩
     · exact .inl ⟨x, e, h.byt x hx⟩
     · exact .inr ⟨e, fun m => ⟨_, dir_ok hN d _ ht f (by omega) m⟩⟩) (by simp; omega) (by omega)
   show blob_writer_dir_b N (blob_writer_dir N f) l m = _
   unfold blob_writer_dir_b
   rw [h.tn.nodes, bnd_some, ht.blob, bnd_some, putB_ok hN (by have := ht.len; omega), bnd_some]
   exact hl
theorem write_loop {N : Nat} (hN : big ≤ N) {r : List FileD → List ObjD → Option (List ObjD)} {c : List FileD → List (List UInt8)} {l : List FileD} (k : List ObjD → Option (List ObjD)) :
   ∀ (R P : List NodeD) (w : List ObjD) (fuel : Nat), (∀ nd ∈ R, (∃ x, nd.2.1 = some x ∧ x.2.2.length ≤ 100000 ∧ ref1_below N l nd.1 = some (false, [x])) ∨
       (nd.2.1 = none ∧ ref1_below N l nd.1 = some (true, nd.2.2) ∧ ∀ w, w.length + (c nd.2.2).length ≤ 1000000 → r nd.2.2 w = some ((c nd.2.2).foldl (putW N) w))) →
     P.length + R.length ≤ 1000000 → w.length + (R.flatMap (contN c)).length ≤ 1000000 → R.length < fuel →
     ref1_writer_write_2_b_L0 N r l ((P ++ R).map fun nd => nd.1) k fuel (P.length : Int) w = k ((R.flatMap (contN c)).foldl (putW N) w)
 | [], P, w, f + 1, _, _, _, _ => by
   rw [ref1_writer_write_2_b_L0]
   unfold ref1_writer_write_2_b_L0T
   rw [decide_eq_false (by simp), br_false]
   rfl
 | nd :: R, P, w, f + 1, hR, h1, h2, h3 => by
   rw [List.flatMap_cons, List.length_append] at h2
   have ih := fun w' hw' => write_loop hN (r := r) (c := c) (l := l) k R (P ++ [nd]) w' f (fun x hx => hR x (List.mem_cons_of_mem _ hx)) (by simp at h1 ⊢; omega) hw' (by simp at h3; omega)
   rw [List.length_cons] at h1 h3
   have hpl : (P ++ [nd]).length = P.length + 1 := by rw [List.length_append, List.length_singleton]
   rw [List.append_assoc, List.singleton_append, hpl] at ih
   rw [ref1_writer_write_2_b_L0]
   unfold ref1_writer_write_2_b_L0T
   have hnext : IntKind.i64.wrap ((P.length : Int) + 1) = ((P.length + 1 : Nat) : Int) := by rw [w64 _ (by omega) (by omega)]; omega
   have hge : geti ((P ++ nd :: R).map fun nd => nd.1) (P.length : Int) = some nd.1 := by
     rw [List.map_append, List.map_cons]
     exact geti_at _ _ _ _ (by rw [List.length_map])
   rw [decide_eq_true (by rw [List.length_map, List.length_append, List.length_cons]; omega), br_true, hge, bnd_some, hnext, List.flatMap_cons, List.foldl_append]
   rcases hR nd List.mem_cons_self with ⟨x, e, hb, hbe⟩ | ⟨e, hbe, hr⟩
   · have h0 : geti [x] (0 : Int) = some x := rfl
     have ec : contN c nd = [x.2.2] := by unfold contN; rw [e]
     rw [ec] at h2 ⊢
     rw [List.length_singleton] at h2
     have hwl := insO_len (dg N x.2.2) x.2.2 w
     rw [hbe, bnd_some, br_false, h0, bnd_some, bnd_some, (digs hN (by omega)).ref, bnd_some, put2_ok hN _ (by omega) (by omega), bnd_some, ih _ (by omega)]
     rfl
   · have ec : contN c nd = c nd.2.2 := by unfold contN; rw [e]
     rw [ec] at h2 ⊢
     have hwl := puts_len (N := N) (c nd.2.2) w
     rw [hbe, bnd_some, br_true, hr w (by omega), bnd_some, ih _ (by omega)]
theorem write_ok {N : Nat} (hN : big ≤ N) : ∀ (d : Nat) (l : List FileD), Tame d l → ∀ f, d < f → ∀ w : List ObjD, w.length + (cont N d l).length ≤ 1000000 → ref1_writer_write_2 N f l w = some ((cont N d l).foldl (putW N) w)
 | 0, l, h, f + 1, _, w, hw => by
   have hb : big = 18446744073709551616 := rfl
   have ht := text_ok hN 0 l h N (by omega)
   obtain ⟨ks, hks⟩ := h.tn.names
   obtain rfl := h.zero
   have hwl := insO_len (dg N []) [] w
   rw [cont, List.length_singleton] at hw
   have hl := write_loop hN (r := ref1_writer_write_2 N f) (c := cont N 0) (l := []) (fun o => some o) [] [] (putW N w []) N (fun nd hnd => absurd hnd List.not_mem_nil) (by simp) (by simp [putW]; omega) (by simp; omega)
   show ref1_writer_write_2_b N (ref1_writer_write_2 N f) [] w = _
   unfold ref1_writer_write_2_b
   rw [ht.ref, bnd_some, txt, decide_eq_true (by decide), br_true, (digs hN (by simp)).ref, bnd_some, br_true, put2_ok hN _ (by simp) (by omega), bnd_some, hks, bnd_some, nodesL_nil]
   exact hl
 | d + 1, l, h, f + 1, hf, w, hw => by
   have hb : big = 18446744073709551616 := rfl
   have hdp := h.deep
   have ht := text_ok hN (d + 1) l h N (by omega)
   have htl := ht.len
   have hlen := tn_len h.tn
   have h1 := h.len
   obtain ⟨ks, hks⟩ := h.tn.names
   have hwl := insO_len (dg N (txt N (d + 1) l)) (txt N (d + 1) l) w
   rw [cont, List.length_cons] at hw
   have hl := write_loop hN (r := ref1_writer_write_2 N f) (c := cont N d) (l := l) (fun o => some o) (nodesL l) [] (putW N w (txt N (d + 1) l)) N (fun nd hnd => by
     have hok := h.tn.ok nd hnd
     have hnl := name_len h hok
     rcases below_ok (N := N) (by omega) h.good (by omega) hok (by omega) with ⟨x, hx, e, _, hbe⟩ | ⟨e, _, hbe⟩
     · exact .inl ⟨x, by rw [e], h.byt x hx, hbe⟩
     · have e2 : nd.2.2 = within nd.1 l := by rw [e]
       rw [← e2] at hbe
       refine .inr ⟨by rw [e], hbe, fun w hw => ?_⟩
       rw [e2] at hw ⊢
       exact write_ok hN d _ (h.within _) f (by omega) w hw) (by simp; omega) (by unfold putW; omega) (by omega)
   show ref1_writer_write_2_b N (ref1_writer_write_2 N f) l w = _
   unfold ref1_writer_write_2_b
   rw [ht.ref, bnd_some, decide_eq_true (by omega), br_true, (digs hN (by omega)).ref, bnd_some, br_true, put2_ok hN _ (by omega) (by omega), bnd_some, hks, bnd_some]
   exact hl
theorem write_top {N : Nat} (hN : big ≤ N) {l : List FileD} (hl : Tame 201 l) : ref1_writer_write N l = some ((cont N 201 l).foldl (putW N) []) := by
 have hb : big = 18446744073709551616 := rfl
 have e : ∀ (c : List Str) (K : List ObjD → Option (List ObjD)) f i w, ref1_writer_write_L0 N l c K f i w = ref1_writer_write_2_b_L0 N (ref1_writer_write_2 N N) l c K f i w := by
   intro c K f
   induction f with
   | zero => exact fun _ _ => rfl
   | succ f ih =>
     intro i w
     have : ref1_writer_write_L0 N l c K f = ref1_writer_write_2_b_L0 N (ref1_writer_write_2 N N) l c K f := funext fun i => funext fun w => ih i w
     rw [ref1_writer_write_L0, ref1_writer_write_2_b_L0, this]
     rfl
 have h1 := hl.len
 have hc := cont_len (N := N) 201 l hl
 have key := write_ok hN 201 l hl (N + 1) (by omega) [] (by rw [List.length_nil]; omega)
 rw [← key]
 have ht := text_ok hN 201 l hl N (by omega)
 have htl := ht.len
 show _ = ref1_writer_write_2_b N (ref1_writer_write_2 N N) l []
 unfold ref1_writer_write ref1_writer_write_2_b
 rw [ht.ref, bnd_some, bnd_some, decide_eq_true (by omega), br_true, br_true, (digs hN (by omega)).ref, bnd_some, bnd_some, br_true, br_true, put_first hN _ (by omega)]
 simp only [e]
end Go.Proofs.YtjiddcchklaiiaaGreatDoor


/- The law of trees: CheckFiles and TreeOf are the same. -/
namespace Go.Proofs.YtjiddcchklaiiaaGreatDoor
set_option linter.unusedVariables false
set_option linter.unusedSimpArgs false
open Go Go.RowKit
theorem erase_permO {α : Type} : ∀ (l : List α) (i : Nat) (hi : i < l.length), (l[i] :: l.eraseIdx i).Perm l
 | [], i, hi => absurd hi (Nat.not_lt_zero _)
 | a :: l, 0, hi => List.Perm.refl _
 | a :: l, i + 1, hi => by
   have := erase_permO l i (by simpa using hi)
   exact (List.Perm.swap _ _ _).trans (List.Perm.cons a this)
theorem range_objs {N : Nat} {k : List ObjD → Option (Str × Int × List ObjD)} {r : Str × Int × List ObjD} : ∀ (d : Nat) (m : List ObjD) (n : Nat) (w : List ObjD), m.length = d → d < n → w.length + d ≤ 1000000 → (∀ w' : List ObjD, w'.Perm (w ++ m) → k w' = some r) → z46L0 N k n w m = some r := by
 intro d
 induction d with
 | zero =>
   intro m n w hm hn hw h
   obtain ⟨n, rfl⟩ : ∃ q, n = q + 1 := ⟨n - 1, by omega⟩
   obtain rfl : m = [] := List.eq_nil_of_length_eq_zero hm
   show z46L0T _ _ _ _ _ = _
   unfold z46L0T
   rw [List.isEmpty_nil, br_true]
   exact h w (by simp)
 | succ d ih =>
   intro m n w hm hn hw h
   obtain ⟨n, rfl⟩ : ∃ q, n = q + 1 := ⟨n - 1, by omega⟩
   have hne : m ≠ [] := fun e => by rw [e] at hm; cases hm
   show z46L0T _ _ _ _ _ = _
   unfold z46L0T
   rw [show m.isEmpty = false by cases m with | nil => exact absurd rfl hne | cons _ _ => rfl, br_false]
   refine allC_of hne fun i hi => ?_
   have hq : (m.eraseIdx i).length = d := by rw [List.length_eraseIdx_of_lt hi]; omega
   have hp : (m[i] :: m.eraseIdx i).Perm m := erase_permO m i hi
   rw [decide_eq_true (by rw [List.length_singleton, show Ty.sz (.pr .str (.sl .u8)) = 2 from rfl]; omega), br_true]
   refine ih _ n _ hq (by omega) (by simp; omega) fun w' hw' => h w' (hw'.trans ?_)
   rw [List.append_assoc]
   exact List.Perm.append_left w hp
theorem tame_of {l : List FileD} (h : FilesOk l) : Tame 201 l where
 good := good_of h
 len := h.len
 path := fun x hx => by have := pathB_len (h.ok.path x hx); omega
 deep := Nat.le_refl _
 byt := fun x hx => h.ok.few x hx
noncomputable def objsL (N : Nat) (l : List FileD) : List ObjD := (cont N 201 l).foldl (putW N) []
noncomputable def treeS (N : Nat) (l : List FileD) : Str × List ObjD × Int := if filesS l = 0 then (if (objsL N l).length ≤ 4000 then (dg N (txt N 201 l), objsL N l, 0) else ([], [], 2)) else ([], [], filesS l)
theorem treeOf_ok {N : Nat} (hN : big ≤ N) (l : List FileD) : blob_TreeOf N l = some ((treeS N l).1, (treeS N l).2.2, (treeS N l).2.1) ∧ ref1_TreeOf N l = some (treeS N l) := by
 have hb : big = 18446744073709551616 := rfl
 unfold blob_TreeOf ref1_TreeOf treeS
 rw [blob_CheckFiles_eq hN, ref_CheckFiles_eq hN, bnd_some, bnd_some]
 by_cases hf : filesS l = 0
 · rw [if_pos hf, hf]
   have ht := tame_of ((files_iff l).1 hf)
   have hs : SameO ((cont N 201 l).foldl (putM N) []) (objsL N l) := SameO.puts _ ⟨List.Perm.refl _, List.Pairwise.nil⟩
   have hsl := hs.perm.length_eq
   have hcl := cont_len (N := N) 201 l ht
   have h1 := ht.len
   have hml := puts_len (N := N) (cont N 201 l) []
   have hml2 : (objsL N l).length ≤ 202000 := by
     unfold objsL
     rw [List.length_nil] at hml
     omega
   rw [show ((0 : Int) != 0) = false from rfl, br_false, br_false, dir_ok hN 201 l ht N (by omega), write_top hN ht, bnd_some, bnd_some]
   show br (decide ((((cont N 201 l).foldl (putM N) []).length : Int) > 4000)) _ _ = _ ∧ br (decide (((objsL N l).length : Int) > 4000)) _ _ = _
   rw [← hsl]
   by_cases hmany : (objsL N l).length ≤ 4000
   · rw [if_pos hmany, decide_eq_false (by omega), br_false, br_false]
     have htx := text_ok hN 201 l ht N (by omega)
     have htl := htx.len
     constructor
     · dsimp only
       refine range_objs _ _ N [] rfl (by omega) (by rw [List.length_nil]; omega) fun w' hw' => ?_
       rw [List.nil_append] at hw'
       have hp : (objsL N l).Perm w' := hs.perm.trans hw'.symm
       have hnd : ((objsL N l).map fun p : ObjD => p.1).Nodup := by
         unfold List.Nodup
         rw [List.pairwise_map]
         exact hs.asc.imp fun {a b} h e => by rw [e] at h; exact str_lt_irrefl _ h
       have hnd2 : (w'.map fun p : ObjD => p.1).Nodup := (hp.map _).nodup_iff.1 hnd
       have hso := sort_uniqueK (key := fun p : ObjD => p.1) hnd2 hp (hs.asc.imp fun {a b} h h2 => str_lt_irrefl _ (str_lt_trans h h2))
       have hwl := hp.length_eq
       unfold slices_SortFunc_object sortK
       rw [if_pos ⟨by omega, hnd2⟩, bnd_some, ← hso]
     · unfold ref1_RootOf
       rw [htx.ref, bnd_some, decide_eq_true (by omega), br_true, (digs hN (by omega)).ref, bnd_some, bnd_some]
       rfl
   · rw [if_neg hmany, decide_eq_true (by omega), br_true, br_true]
     exact ⟨rfl, rfl⟩
 · rw [if_neg hf, show (filesS l != 0) = true by simpa using hf, br_true, br_true]
   exact ⟨rfl, rfl⟩
theorem awake_nT (n : Nat) : law1_awake (n + 40) = some true := by kernel_rfl
theorem awake_okT {N : Nat} (hN : big ≤ N) : law1_awake N = some true := by
 have hb : (18446744073709551616 : Nat) ≤ N := hN
 obtain ⟨n, rfl⟩ : ∃ n, N = n + 40 := ⟨N - 40, by omega⟩
 exact awake_nT n
end Go.Proofs.YtjiddcchklaiiaaGreatDoor


/- The trees, read again, plainly: what is found among objects in order. -/
namespace Go.Proofs.YtjiddcchklaiiaaGreatDoor
set_option linter.unusedVariables false
set_option linter.unusedSimpArgs false
open Go Go.RowKit
def lookO (w : List ObjD) (d : Str) : Option (List UInt8) := (w.find? fun x => x.1 == d).map fun x => x.2
abbrev AscO (w : List ObjD) : Prop := w.Pairwise fun a b => a.1 < b.1
theorem asc_key {w : List ObjD} (ha : AscO w) {x y : ObjD} (hx : x ∈ w) (hy : y ∈ w) (h : x.1 = y.1) : x = y := by
 obtain ⟨i, hi, rfl⟩ := List.getElem_of_mem hx
 obtain ⟨j, hj, rfl⟩ := List.getElem_of_mem hy
 rcases Nat.lt_trichotomy i j with h' | h' | h'
 · have := List.pairwise_iff_getElem.1 ha i j hi hj h'
   rw [h] at this; exact absurd this (str_lt_irrefl _)
 · subst h'; rfl
 · have := List.pairwise_iff_getElem.1 ha j i hj hi h'
   rw [h] at this; exact absurd this (str_lt_irrefl _)
theorem lookO_mem {w : List ObjD} {d : Str} {b : List UInt8} (h : lookO w d = some b) : (d, b) ∈ w := by
 unfold lookO at h
 cases hf : w.find? fun x => x.1 == d with
 | none => rw [hf] at h; cases h
 | some x =>
   rw [hf] at h
   have h1 := List.mem_of_find?_eq_some hf
   have h2 : x.1 = d := by simpa using List.find?_some hf
   obtain ⟨x1, x2⟩ := x
   cases h
   cases h2
   exact h1
theorem lookO_of {w : List ObjD} (ha : AscO w) {d : Str} {b : List UInt8} (h : (d, b) ∈ w) : lookO w d = some b := by
 cases hl : lookO w d with
 | some c => rw [Prod.mk.inj (asc_key ha (lookO_mem hl) h rfl) |>.2]
 | none =>
   unfold lookO at hl
   rw [Option.map_eq_none_iff, List.find?_eq_none] at hl
   have := hl _ h
   simp at this
theorem lookO_none {w : List ObjD} {d : Str} : lookO w d = none ↔ ∀ x ∈ w, x.1 ≠ d := by
 unfold lookO
 rw [Option.map_eq_none_iff, List.find?_eq_none]
 simp
theorem compare_lt (a b : Str) : decide (Lib.compareBytes a b < 0) = decide (a < b) := by
 rw [compare_cf, bytesLess_lt]
 by_cases h : a < b
 · simp [h]
 · rw [decide_eq_false h]
   by_cases h2 : a = b <;> simp [h2]
theorem compare_eq (a b : Str) : (Lib.compareBytes a b == 0) = decide (a = b) := by
 rw [compare_cf, bytesLess_lt]
 by_cases h : a < b
 · have hne : a ≠ b := fun e => by rw [e] at h; exact str_lt_irrefl _ h
   simp [h, hne]
 · rw [decide_eq_false h]
   by_cases h2 : a = b <;> simp [h2]
theorem midU {a b : Nat} (ha : a ≤ 1000000) (hb : b ≤ 1000000) : IntKind.i64.wrap (shrI .u64 (IntKind.u64.wrap (IntKind.i64.wrap ((a : Int) + (b : Int)))) 1) = (((a + b) / 2 : Nat) : Int) := by
 rw [w64 ((a : Int) + (b : Int)) (by omega) (by omega), IntWalk.u64_in ((a : Int) + (b : Int)) (by omega)]
 have e : shrI .u64 ((a : Int) + (b : Int)) 1 = (((a + b) / 2 : Nat) : Int) := by
   unfold shrI
   have e : (2 : Int) ^ (min (1 : Int).toNat IntKind.u64.bits) = ((2 : Nat) : Int) := by decide
   rw [e, Int.fdiv_eq_ediv_of_nonneg _ (by omega)]
   omega
 rw [e, w64 _ (by omega) (by omega)]
theorem find_ok {N : Nat} (hN : big ≤ N) {l : List ObjD} (hl : l.length ≤ 1000000) (ha : AscO l) (p : Str) : blob_Find N l p = some (match lookO l p with | some b => (b, true) | none => ([], false)) := by
 have hb : (18446744073709551616 : Nat) ≤ N := hN
 let lt : Nat → Bool := fun j => match l[j]? with | some x => decide (x.1 < p) | none => false
 have ltv : ∀ j (h : j < l.length), lt j = decide (l[j].1 < p) := fun j h => by show (match l[j]? with | some x => decide (x.1 < p) | none => false) = _; rw [List.getElem?_eq_getElem h]
 have ord : ∀ i j (hi : i < l.length) (hj : j < l.length), i < j → l[i].1 < l[j].1 := fun i j hi hj h => List.pairwise_iff_getElem.1 ha i j hi hj h
 have hcmp : ∀ x : ObjD, blob_Find_1 N x p = some (Lib.compareBytes x.1 p) := fun x => by unfold blob_Find_1 strings_Compare; rw [bnd_some]
 obtain ⟨c, h1, h2, h3, h4⟩ := bsearch (f := fun n a b => z0L0 N l p (fun o0_9 => br (decide (o0_9 < (l.length : Int))) (bnd (geti l o0_9) fun t43 => bnd (blob_Find_1 N t43 p) fun t46 => some (o0_9, t46 == (0 : Int))) (some (o0_9, false))) n a b) l.length lt (fun i j hij hj h => by
     rw [ltv j hj, decide_eq_true_eq] at h
     rw [ltv i (by omega), decide_eq_true_eq]
     rcases Nat.eq_or_lt_of_le hij with rfl | hij
     · exact h
     · exact List.lt_trans (ord i j (by omega) hj hij) h) (k := fun o => br (decide ((o : Int) < (l.length : Int))) (bnd (geti l (o : Int)) fun t43 => bnd (blob_Find_1 N t43 p) fun t46 => some ((o : Int), t46 == (0 : Int))) (some ((o : Int), false))) (fun n lo hi h1 h2 => by
     show z0L0T N l p _ (z0L0 N l p _ n) (lo : Int) (hi : Int) = _
     have hm : (lo + hi) / 2 < l.length := by omega
     have hw : IntKind.i64.wrap ((((lo + hi) / 2 : Nat) : Int) + 1) = (((lo + hi) / 2 + 1 : Nat) : Int) := by rw [wrap_id (by omega) (by omega)]; omega
     unfold z0L0T
     rw [br_pos (by omega : (lo : Int) < (hi : Int)), decide_eq_true (by decide), br_true, midU (by omega) (by omega), geti_lt l hm, bnd_some, hcmp, bnd_some, hw, compare_lt, ltv _ hm, br_eq_ite]) (fun n lo h => by
     show z0L0T N l p _ _ (lo : Int) (lo : Int) = _
     unfold z0L0T
     rw [br_neg (by omega)])
 have hbs : slices_BinarySearchFunc_api_Object_string N l p () = _ := h4 N (by omega)
 unfold blob_Find
 rw [hbs]
 have hnone : (∀ hc : c < l.length, l[c].1 ≠ p) → lookO l p = none := fun hne => lookO_none.2 fun x hx e => by
   obtain ⟨j, hj, rfl⟩ := List.getElem_of_mem hx
   have hcj : c ≤ j := by
     apply Classical.byContradiction
     intro hn
     have := h2 j (by omega)
     rw [ltv j hj, decide_eq_true_eq, e] at this
     exact List.lt_irrefl _ this
   rcases Nat.eq_or_lt_of_le hcj with h | h
   · subst h; exact hne hj e
   · have h5 := ord c j (by omega) hj h
     have h6 := h3 c (Nat.le_refl _) (by omega)
     rw [ltv c (by omega), decide_eq_false_iff_not, ← e] at h6
     exact h6 h5
 by_cases hc : c < l.length
 · rw [br_pos (by omega : (c : Int) < (l.length : Int)), geti_lt l hc, bnd_some, hcmp, bnd_some, bnd_some, compare_eq]
   by_cases he : l[c].1 = p
   · rw [decide_eq_true he, Bool.not_true, br_false, geti_lt l hc, bnd_some]
     have : lookO l p = some l[c].2 := lookO_of ha (by rw [← he]; exact List.getElem_mem hc)
     rw [this]
   · rw [decide_eq_false he, Bool.not_false, br_true, hnone fun _ => he]
 · rw [br_neg (by omega), bnd_some, Bool.not_false, br_true, hnone fun h => absurd h hc]
end Go.Proofs.YtjiddcchklaiiaaGreatDoor


/- The trees, read again, plainly: contents, and that no two of them have one digest. -/
namespace Go.Proofs.YtjiddcchklaiiaaGreatDoor
set_option linter.unusedVariables false
set_option linter.unusedSimpArgs false
open Go Go.RowKit
theorem mem_insO {d : Str} {b : List UInt8} : ∀ {w : List ObjD} {x : ObjD}, x ∈ insO d b w → x = (d, b) ∨ x ∈ w
 | [], x, h => .inl (by simpa [insO] using h)
 | y :: w, x, h => by
   rw [insO] at h
   split at h
   · rcases List.mem_cons.1 h with rfl | h
     · exact .inr List.mem_cons_self
     · rcases mem_insO h with h | h
       · exact .inl h
       · exact .inr (List.mem_cons_of_mem _ h)
   · split at h
     · exact .inr h
     · rcases List.mem_cons.1 h with h | h
       · exact .inl h
       · exact .inr h
theorem insO_sub {d : Str} {b : List UInt8} : ∀ {w : List ObjD} {x : ObjD}, x ∈ w → x ∈ insO d b w
 | [], x, h => absurd h List.not_mem_nil
 | y :: w, x, h => by
   rw [insO]
   split
   · rcases List.mem_cons.1 h with rfl | h
     · exact List.mem_cons_self
     · exact List.mem_cons_of_mem _ (insO_sub h)
   · split
     · exact h
     · exact List.mem_cons_of_mem _ h
theorem insO_has {d : Str} {b : List UInt8} : ∀ {w : List ObjD}, ∃ x ∈ insO d b w, x.1 = d
 | [] => ⟨(d, b), by simp [insO], rfl⟩
 | y :: w => by
   rw [insO]
   split
   · obtain ⟨x, hx, e⟩ := insO_has (d := d) (b := b) (w := w)
     exact ⟨x, List.mem_cons_of_mem _ hx, e⟩
   · split
     · rename_i h; exact ⟨y, List.mem_cons_self, h⟩
     · exact ⟨(d, b), List.mem_cons_self, rfl⟩
theorem puts_mem {N : Nat} : ∀ (c : List (List UInt8)) (w : List ObjD), (∀ x ∈ c.foldl (putW N) w, x ∈ w ∨ ∃ b ∈ c, x = (dg N b, b)) ∧ (∀ x ∈ w, x ∈ c.foldl (putW N) w) ∧ ∀ b ∈ c, ∃ x ∈ c.foldl (putW N) w, x.1 = dg N b
 | [], w => ⟨fun x h => .inl h, fun x h => h, fun b hb => absurd hb List.not_mem_nil⟩
 | b :: c, w => by
   obtain ⟨h1, h2, h3⟩ := puts_mem (N := N) c (putW N w b)
   rw [List.foldl_cons]
   refine ⟨fun x hx => ?_, fun x hx => h2 x (insO_sub hx), fun b' hb' => ?_⟩
   · rcases h1 x hx with h | ⟨b', hb', e⟩
     · rcases mem_insO h with h | h
       · exact .inr ⟨b, List.mem_cons_self, h⟩
       · exact .inl h
     · exact .inr ⟨b', List.mem_cons_of_mem _ hb', e⟩
   · rcases List.mem_cons.1 hb' with rfl | hb'
     · obtain ⟨x, hx, e⟩ := insO_has (d := dg N b') (b := b') (w := w)
       exact ⟨x, h2 x hx, e⟩
     · exact h3 b' hb'
def Faith (N : Nat) (C : List (List UInt8)) : Prop := ∀ x ∈ C, ∀ y ∈ C, dg N x = dg N y → x = y
theorem objs_of {N : Nat} {l : List FileD} : ∀ x ∈ objsL N l, ∃ b ∈ cont N 201 l, x = (dg N b, b) := fun x hx => by
 rcases (puts_mem (N := N) (cont N 201 l) []).1 x hx with h | h
 · exact absurd h List.not_mem_nil
 · exact h
theorem objs_has {N : Nat} {l : List FileD} (hf : Faith N (cont N 201 l)) {b : List UInt8} (hb : b ∈ cont N 201 l) : (dg N b, b) ∈ objsL N l := by
 obtain ⟨x, hx, e⟩ := (puts_mem (N := N) (cont N 201 l) []).2.2 b hb
 obtain ⟨b', hb', rfl⟩ := objs_of x hx
 have := hf b' hb' b hb e
 subst this
 exact hx
theorem objs_asc {N : Nat} {l : List FileD} : AscO (objsL N l) := (SameO.puts (N := N) (cont N 201 l) (m := []) (w := []) ⟨List.Perm.refl _, List.Pairwise.nil⟩).asc
theorem contents_loop {N : Nat} (hN : big ≤ N) {r : List FileD → Option (List (List UInt8))} {c : List FileD → List (List UInt8)} {l : List FileD} (k : List (List UInt8) → Option (List (List UInt8))) :
   ∀ (R P : List NodeD) (w : List (List UInt8)) (fuel : Nat), (∀ nd ∈ R, (∃ x, nd.2.1 = some x ∧ ref1_below N l nd.1 = some (false, [x])) ∨ (nd.2.1 = none ∧ ref1_below N l nd.1 = some (true, nd.2.2) ∧ r nd.2.2 = some (c nd.2.2))) →
     P.length + R.length ≤ 1000000 → w.length + (R.flatMap (contN c)).length ≤ 1000000 → R.length < fuel →
     z27L0 N r l ((P ++ R).map fun nd => nd.1) k fuel (P.length : Int) w = k (w ++ R.flatMap (contN c))
 | [], P, w, f + 1, _, _, _, _ => by
   rw [z27L0]
   unfold z27L0T
   rw [decide_eq_false (by simp), br_false]
   simp
 | nd :: R, P, w, f + 1, hR, h1, h2, h3 => by
   rw [List.flatMap_cons, List.length_append] at h2
   have ih := fun w' hw' => contents_loop hN (r := r) (c := c) (l := l) k R (P ++ [nd]) w' f (fun x hx => hR x (List.mem_cons_of_mem _ hx)) (by simp at h1 ⊢; omega) hw' (by simp at h3; omega)
   rw [List.length_cons] at h1 h3
   have hpl : (P ++ [nd]).length = P.length + 1 := by rw [List.length_append, List.length_singleton]
   rw [List.append_assoc, List.singleton_append, hpl] at ih
   rw [z27L0]
   unfold z27L0T
   have hnext : IntKind.i64.wrap ((P.length : Int) + 1) = ((P.length + 1 : Nat) : Int) := by rw [w64 _ (by omega) (by omega)]; omega
   have hge : geti ((P ++ nd :: R).map fun nd => nd.1) (P.length : Int) = some nd.1 := by
     rw [List.map_append, List.map_cons]
     exact geti_at _ _ _ _ (by rw [List.length_map])
   have hz : Ty.sz (.sl .u8) = 1 := rfl
   rw [decide_eq_true (by rw [List.length_map, List.length_append, List.length_cons]; omega), br_true, hge, bnd_some, hnext, List.flatMap_cons, ← List.append_assoc, hz]
   rcases hR nd List.mem_cons_self with ⟨x, e, hbe⟩ | ⟨e, hbe, hr⟩
   · have h0 : geti [x] (0 : Int) = some x := rfl
     have ec : contN c nd = [x.2.2] := by unfold contN; rw [e]
     rw [ec] at h2 ⊢
     rw [List.length_singleton] at h2
     rw [hbe, bnd_some, br_false, h0, bnd_some, decide_eq_true (by rw [List.length_singleton]; omega), br_true]
     exact ih _ (by rw [List.length_append, List.length_singleton]; omega)
   · have ec : contN c nd = c nd.2.2 := by unfold contN; rw [e]
     rw [ec] at h2 ⊢
     rw [hbe, bnd_some, br_true, hr, bnd_some, decide_eq_true (by omega), br_true]
     exact ih _ (by rw [List.length_append]; omega)
theorem contents_ok {N : Nat} (hN : big ≤ N) : ∀ (d : Nat) (l : List FileD), Tame d l → ∀ f, d < f → ref1_contents N f l = some (cont N d l)
 | 0, l, h, f + 1, _ => by
   have hb : big = 18446744073709551616 := rfl
   have ht := text_ok hN 0 l h N (by omega)
   obtain ⟨ks, hks⟩ := h.tn.names
   obtain rfl := h.zero
   have hl := contents_loop hN (r := ref1_contents N f) (c := cont N 0) (l := []) (fun o => some o) [] [] [[]] N (fun nd hnd => absurd hnd List.not_mem_nil) (by simp) (by simp) (by simp; omega)
   show ref1_contents_b N (ref1_contents N f) [] = _
   unfold ref1_contents_b
   rw [ht.ref, bnd_some, txt, decide_eq_true (by decide), br_true, hks, bnd_some, nodesL_nil]
   exact hl
 | d + 1, l, h, f + 1, hf => by
   have hb : big = 18446744073709551616 := rfl
   have hdp := h.deep
   have ht := text_ok hN (d + 1) l h N (by omega)
   have htl := ht.len
   have hlen := tn_len h.tn
   have h1 := h.len
   have hcl := cont_len (N := N) (d + 1) l h
   have hmul : l.length * (d + 1) ≤ 1000 * 201 := Nat.mul_le_mul h1 hdp
   rw [cont, List.length_cons] at hcl
   obtain ⟨ks, hks⟩ := h.tn.names
   have hl := contents_loop hN (r := ref1_contents N f) (c := cont N d) (l := l) (fun o => some o) (nodesL l) [] [txt N (d + 1) l] N (fun nd hnd => by
     have hok := h.tn.ok nd hnd
     have hnl := name_len h hok
     rcases below_ok (N := N) (by omega) h.good (by omega) hok (by omega) with ⟨x, hx, e, _, hbe⟩ | ⟨e, _, hbe⟩
     · exact .inl ⟨x, by rw [e], hbe⟩
     · have e2 : nd.2.2 = within nd.1 l := by rw [e]
       rw [← e2] at hbe
       refine .inr ⟨by rw [e], hbe, ?_⟩
       rw [e2]
       exact contents_ok hN d _ (h.within _) f (by omega)) (by simp; omega) (by rw [List.length_singleton]; omega) (by omega)
   show ref1_contents_b N (ref1_contents N f) l = _
   unfold ref1_contents_b
   rw [ht.ref, bnd_some, decide_eq_true (by omega), br_true, hks, bnd_some]
   exact hl
theorem faith_inner {N : Nat} (hN : big ≤ N) {C : List (List UInt8)} (hC : C.length ≤ 1000000) (hb : ∀ b ∈ C, b.length ≤ 1000000) {i : Nat} (hi : i < C.length) (k2 : Option Bool) :
   ∀ (m j f : Nat) (_ : i - j = m) (hji : j ≤ i) (_ : m < f), (∀ k (hk : k < j), dg N C[i] = dg N (C[k]'(by omega)) → C[i] = C[k]'(by omega)) →
     z33L1 N C (i : Int) k2 f (j : Int) = some false ∨ (z33L1 N C (i : Int) k2 f (j : Int) = k2 ∧ ∀ k (hk : k < i), dg N C[i] = dg N (C[k]'(by omega)) → C[i] = C[k]'(by omega))
 | 0, j, f + 1, h1, h2, _, hp => by
   obtain rfl : j = i := by omega
   refine .inr ⟨?_, hp⟩
   rw [z33L1]
   unfold z33L1T
   rw [decide_eq_false (by omega), br_false]
 | m + 1, j, f + 1, h1, h2, h3, hp => by
   have hj : j < C.length := by omega
   have hd1 := digs hN (x := C[i]) (by have := hb _ (List.getElem_mem hi); omega)
   have hd2 := digs hN (x := C[j]) (by have := hb _ (List.getElem_mem hj); omega)
   have hn : IntKind.i64.wrap ((j : Int) + 1) = ((j + 1 : Nat) : Int) := by rw [w64 _ (by omega) (by omega)]; omega
   have step := faith_inner hN hC hb hi k2 m (j + 1) f (by omega) (by omega) (by omega)
   rw [z33L1]
   unfold z33L1T
   simp only [geti_lt C hi, geti_lt C hj, bnd_some, hd1.ref, hd2.ref, bytes_Equal, hn]
   rw [decide_eq_true (by omega), br_true]
   by_cases he : dg N C[i] = dg N C[j]
   · rw [show (dg N C[i] == dg N C[j]) = true by simpa using he, br_true]
     by_cases hb2 : C[i] = C[j]
     · rw [show (C[i] == C[j]) = true by simpa using hb2, Bool.not_true, br_false]
       refine step fun k hk hd => ?_
       rcases Nat.eq_or_lt_of_le (Nat.le_of_lt_succ hk) with rfl | hk
       · exact hb2
       · exact hp k hk hd
     · rw [show (C[i] == C[j]) = false by simpa using hb2, Bool.not_false, br_true]
       exact .inl rfl
   · rw [show (dg N C[i] == dg N C[j]) = false by simpa using he, br_false]
     refine step fun k hk hd => ?_
     rcases Nat.eq_or_lt_of_le (Nat.le_of_lt_succ hk) with rfl | hk
     · exact absurd hd he
     · exact hp k hk hd
theorem faith_outer {N : Nat} (hN : big ≤ N) {C : List (List UInt8)} (hC : C.length ≤ 1000000) (hb : ∀ b ∈ C, b.length ≤ 1000000) :
   ∀ (m i f : Nat) (_ : C.length - i = m) (hic : i ≤ C.length) (_ : m < f), (∀ a (ha : a < i) k (hk : k < a), dg N (C[a]'(by omega)) = dg N (C[k]'(by omega)) → (C[a]'(by omega)) = C[k]'(by omega)) →
     ∃ b, z33L0 N C (some true) f (i : Int) = some b ∧ (b = true → ∀ a (ha : a < C.length) k (hk : k < a), dg N C[a] = dg N (C[k]'(by omega)) → C[a] = C[k]'(by omega))
 | 0, i, f + 1, h1, h2, _, hp => by
   obtain rfl : i = C.length := by omega
   refine ⟨true, ?_, fun _ => hp⟩
   rw [z33L0]
   unfold z33L0T
   rw [decide_eq_false (by omega), br_false]
 | m + 1, i, f + 1, h1, h2, h3, hp => by
   have hi : i < C.length := by omega
   have hbig : big = 18446744073709551616 := rfl
   have hn : IntKind.i64.wrap ((i : Int) + 1) = ((i + 1 : Nat) : Int) := by rw [w64 _ (by omega) (by omega)]; omega
   rw [z33L0]
   unfold z33L0T
   rw [decide_eq_true (by omega), br_true, hn]
   rcases faith_inner hN hC hb hi (z33L0 N C (some true) f ((i + 1 : Nat) : Int)) i 0 N (by omega) (Nat.zero_le _) (by omega) (fun k hk => absurd hk (Nat.not_lt_zero _)) with h | ⟨h, h4⟩
   · exact ⟨false, h, fun e => by cases e⟩
   · rw [Int.natCast_zero] at h
     rw [h]
     refine faith_outer hN hC hb m (i + 1) f (by omega) (by omega) (by omega) fun a ha k hk hd => ?_
     rcases Nat.eq_or_lt_of_le (Nat.le_of_lt_succ ha) with rfl | ha
     · exact h4 k hk hd
     · exact hp a ha k hk hd
theorem cont_small {N : Nat} (hN : big ≤ N) : ∀ (d : Nat) (l : List FileD), Tame d l → ∀ b ∈ cont N d l, b.length ≤ 225000
 | 0, l, _, b, hb => by rw [cont, List.mem_singleton] at hb; subst hb; simp
 | d + 1, l, h, b, hb => by
   have hbig : big = 18446744073709551616 := rfl
   have hdp := h.deep
   rw [cont] at hb
   rcases List.mem_cons.1 hb with rfl | hb
   · exact (text_ok hN (d + 1) l h N (by omega)).len
   · obtain ⟨nd, hnd, hb⟩ := List.mem_flatMap.1 hb
     rcases node_cases h hnd with ⟨x, hx, e, _⟩ | ⟨e, _, _, ht⟩
     · unfold contN at hb
       rw [e] at hb
       rw [List.mem_singleton.1 hb]
       have := h.byt x hx; omega
     · unfold contN at hb
       rw [e] at hb
       exact cont_small hN d _ ht b hb
theorem faith_tree {N : Nat} (hN : big ≤ N) {l : List FileD} (hl : Tame 201 l) : ∃ b, ref1_FaithfulTree N l = some b ∧ (b = true → Faith N (cont N 201 l)) := by
 have hbig : big = 18446744073709551616 := rfl
 have h1 := hl.len
 have hcl := cont_len (N := N) 201 l hl
 obtain ⟨b, hb, hf⟩ := faith_outer hN (C := cont N 201 l) (by omega) (fun b hb => by have := cont_small hN 201 l hl b hb; omega) (cont N 201 l).length 0 N rfl (Nat.zero_le _) (by omega) (fun a ha => absurd ha (Nat.not_lt_zero _))
 refine ⟨b, ?_, fun e x hx y hy hd => ?_⟩
 · unfold ref1_FaithfulTree ref1_Faithful
   rw [contents_ok hN 201 l hl N (by omega), bnd_some]
   rw [Int.natCast_zero] at hb
   rw [hb, bnd_some]
 · obtain ⟨i, hi, rfl⟩ := List.getElem_of_mem hx
   obtain ⟨j, hj, rfl⟩ := List.getElem_of_mem hy
   rcases Nat.lt_trichotomy i j with h | h | h
   · exact (hf e j hj i h hd.symm).symm
   · subst h; rfl
   · exact hf e i hi j h hd
end Go.Proofs.YtjiddcchklaiiaaGreatDoor


/- The trees, read again, plainly: the lines of a directory. -/
namespace Go.Proofs.YtjiddcchklaiiaaGreatDoor
set_option linter.unusedVariables false
set_option linter.unusedSimpArgs false
open Go Go.RowKit
abbrev hexL : Str := [48, 49, 50, 51, 52, 53, 54, 55, 56, 57, 97, 98, 99, 100, 101, 102]
theorem hexD_mem : ∀ k : Fin 16, hexD k.val ∈ hexL := by decide
theorem hexS_mem (h : Nat) : ∀ j, ∀ b ∈ hexS h j, b ∈ hexL
 | 0, b, hb => absurd hb List.not_mem_nil
 | j + 1, b, hb => by
   rw [hexS] at hb
   rcases List.mem_cons.1 hb with rfl | hb
   · exact hexD_mem ⟨_, Nat.mod_lt _ (by decide)⟩
   · exact hexS_mem h j b hb
theorem dg_hex {N : Nat} (hN : big ≤ N) {x : List UInt8} (hl : x.length ≤ 4611686018427387904) : ∀ b ∈ dg N x, b ∈ hexL := by
 have hb : big = 18446744073709551616 := rfl
 obtain ⟨h, h0, h1, hk⟩ := dig_range (R := Nat) N x (by omega) hl
 obtain ⟨n, rfl⟩ := Int.eq_ofNat_of_zero_le h0
 have hr : ref1_Digest N x = some (hexS n 16) := by
   unfold ref1_Digest
   rw [hk]
   have := ref_hex (N := N) n (by omega) (fun o1_5 => some o1_5) 16 [] N (by omega) (by omega) (by simp)
   exact this
 have hd : dg N x = hexS n 16 := by unfold dg; rw [hr]; rfl
 rw [hd]
 exact hexS_mem n 16
theorem dropWhile_all (p : UInt8 → Bool) : ∀ s : Str, s.all p = true → s.dropWhile p = []
 | [], _ => rfl
 | b :: s, h => by
   rw [List.all_cons, Bool.and_eq_true] at h
   rw [List.dropWhile_cons, h.1, if_pos rfl, dropWhile_all p s h.2]
theorem trimS_all {s cs : Str} (h : s.all (cs.contains ·) = true) : Lib.trimS s cs = [] := by
 unfold Lib.trimS Lib.trimLeftS Lib.trimRightS
 have h2 : s.reverse.all (cs.contains ·) = true := by rw [List.all_reverse]; exact h
 rw [dropWhile_all _ _ h2]
 rfl
theorem isDigest_dg {N : Nat} (hN : big ≤ N) {x : List UInt8} (hl : x.length ≤ 4611686018427387904) : blob_IsDigest N (dg N x) = some true := by
 have h16 := (digs hN hl).len
 have hall : (dg N x).all (hexL.contains ·) = true := by
   rw [List.all_eq_true]
   intro b hb
   simpa using dg_hex hN hl b hb
 unfold blob_IsDigest strings_Trim
 rw [h16, show (((16 : Nat) : Int) == 16) = true from rfl, br_true, if_pos ⟨by omega, by decide, by decide⟩, bnd_some, trimS_all hall]
 rfl
theorem bIsPart {N : Nat} (hN : big ≤ N) {x : Str} (hx : x.length ≤ 1000000) : blob_isPart N x = some (partP x) := by rw [isPart_eq]; exact isPart_val hN hx
abbrev EntD : Type := Str × Str × Bool × Bool
theorem entry_file {N : Nat} {s F nm d r : Str} (hs : strings_Split s [32] = some [[102, 105, 108, 101], nm, d, r]) (hr : r = [120] ∨ r = [45]) (hp : blob_isPart N nm = some true) (hd : blob_IsDigest N d = some true) : blob_readEntry N s = some ((nm, d, false, r == [120]), true) := by
 have g0 : geti [[102, 105, 108, 101], nm, d, r] (0 : Int) = some [102, 105, 108, 101] := rfl
 have g1 : geti [[102, 105, 108, 101], nm, d, r] (1 : Int) = some nm := rfl
 have g2 : geti [[102, 105, 108, 101], nm, d, r] (2 : Int) = some d := rfl
 have g3 : geti [[102, 105, 108, 101], nm, d, r] (3 : Int) = some r := rfl
 have e1 : ((([[102, 105, 108, 101], nm, d, r] : List Str).length : Int) == 4) = true := rfl
 have e2 : (([102, 105, 108, 101] : Str) == [102, 105, 108, 101]) = true := rfl
 have e3 : (([102, 105, 108, 101] : Str) == [100, 105, 114]) = false := rfl
 unfold blob_readEntry
 rcases hr with rfl | rfl
 · have e4 : (([120] : Str) == [120]) = true := rfl
   simp only [hs, g0, g1, g2, g3, e1, e2, e3, e4, bnd_some, br_true, br_false, hp, hd, both_self, times_eq]
 · have e4 : (([45] : Str) == [120]) = false := rfl
   have e5 : (([45] : Str) == [45]) = true := rfl
   simp only [hs, g0, g1, g2, g3, e1, e2, e3, e4, e5, bnd_some, br_true, br_false, hp, hd, both_self, times_eq]
theorem entry_dir {N : Nat} {s nm d : Str} (hs : strings_Split s [32] = some [[100, 105, 114], nm, d]) (hp : blob_isPart N nm = some true) (hd : blob_IsDigest N d = some true) : blob_readEntry N s = some ((nm, d, true, false), true) := by
 have g0 : geti [[100, 105, 114], nm, d] (0 : Int) = some [100, 105, 114] := rfl
 have g1 : geti [[100, 105, 114], nm, d] (1 : Int) = some nm := rfl
 have g2 : geti [[100, 105, 114], nm, d] (2 : Int) = some d := rfl
 have e1 : ((([[100, 105, 114], nm, d] : List Str).length : Int) == 4) = false := rfl
 have e2 : ((([[100, 105, 114], nm, d] : List Str).length : Int) == 3) = true := rfl
 have e3 : (([100, 105, 114] : Str) == [100, 105, 114]) = true := rfl
 unfold blob_readEntry
 simp only [hs, g0, g1, g2, e1, e2, e3, bnd_some, br_true, br_false, hp, hd, both_self, times_eq]
theorem index10 : ∀ (p q : Str), (10 : UInt8) ∉ p → Lib.index (p ++ (10 : UInt8) :: q) [10] = (p.length : Int)
 | [], q, _ => by simp [Lib.index]
 | b :: p, q, h => by
   simp only [List.mem_cons, not_or] at h
   have hp : List.isPrefixOf [10] (b :: (p ++ (10 : UInt8) :: q)) = false := by simp [List.isPrefixOf]; exact h.1
   have ih := index10 p q h.2
   rw [List.cons_append]
   unfold Lib.index
   rw [hp, ih]
   have : ((p.length : Int) == -1) = false := by rw [beq_eq_false_iff_ne]; omega
   simp [this]
theorem cut10 {p q : Str} (h : (10 : UInt8) ∉ p) (hl : (p ++ (10 : UInt8) :: q).length < 4294967281) : strings_Cut (p ++ (10 : UInt8) :: q) [10] = some (p, q, true) := by
 unfold strings_Cut
 rw [if_pos hl]
 unfold Lib.cut
 rw [index10 p q h, if_pos (Int.natCast_nonneg _), Int.toNat_natCast]
 simp
noncomputable def entT (N : Nat) (tx : List FileD → Str) (nd : NodeD) : EntD := match nd.2.1 with
 | some x => (nd.1, dg N x.2.2, false, x.2.1)
 | none => (nd.1, dg N (tx nd.2.2), true, false)
def NdR (tx : List FileD → Str) (nd : NodeD) : Prop := nd.1.length ≤ 200 ∧ partP nd.1 = true ∧ (∀ x, nd.2.1 = some x → x.2.2.length ≤ 100000) ∧ (tx nd.2.2).length ≤ 1000000
theorem part_no {x : Str} (h : partP x = true) : (32 : UInt8) ∉ x ∧ (10 : UInt8) ∉ x := by
 unfold partP at h
 simp only [Bool.and_eq_true, List.all_eq_true] at h
 have h1 := h.1.1.1
 exact ⟨fun hm => absurd (h1 _ hm) (by decide +kernel), fun hm => absurd (h1 _ hm) (by decide +kernel)⟩
theorem hex_no {x : Str} (h : ∀ b ∈ x, b ∈ hexL) : (32 : UInt8) ∉ x ∧ (10 : UInt8) ∉ x := ⟨fun hm => absurd (h _ hm) (by decide), fun hm => absurd (h _ hm) (by decide)⟩
theorem line_read {N : Nat} (hN : big ≤ N) {tx : List FileD → Str} {nd : NodeD} (h : NdR tx nd) (rest : Str) (hr : rest.length ≤ 1000000) : ∃ s, lineT N tx nd ++ rest = s ++ (10 : UInt8) :: rest ∧ strings_Cut (lineT N tx nd ++ rest) [10] = some (s, rest, true) ∧ blob_readEntry N s = some (entT N tx nd, true) ∧ lineT N tx nd ≠ [] ∧ (lineT N tx nd).length ≤ 225 := by
 obtain ⟨h0, hpp, hx, ht⟩ := h
 have hpn := part_no hpp
 have hip := bIsPart hN (x := nd.1) (by omega)
 rw [hpp] at hip
 cases e : nd.2.1 with
 | some x =>
   have hb := hx x e
   have hd := digs hN (x := x.2.2) (by omega)
   have hdl := hd.len
   have hhx := dg_hex hN (x := x.2.2) (by omega)
   have hno := hex_no hhx
   have hid := isDigest_dg hN (x := x.2.2) (by omega)
   obtain ⟨r, hr2, hrr⟩ : ∃ r : Str, (if x.2.1 = true then [120] else [45]) = r ∧ (r = [120] ∨ r = [45]) := by
     cases x.2.1
     · exact ⟨[45], rfl, .inr rfl⟩
     · exact ⟨[120], rfl, .inl rfl⟩
   have hrun : (r == [120]) = x.2.1 := by
     rw [← hr2]
     cases x.2.1 <;> rfl
   have hrl : r.length = 1 ∧ (32 : UInt8) ∉ r ∧ (10 : UInt8) ∉ r := by rcases hrr with rfl | rfl <;> decide
   have hline : lineT N tx nd = [102, 105, 108, 101] ++ (32 : UInt8) :: (nd.1 ++ (32 : UInt8) :: (dg N x.2.2 ++ (32 : UInt8) :: r)) ++ [10] := by
     unfold lineT
     rw [e]
     dsimp only
     rw [hr2]
     simp
   obtain ⟨s, hs⟩ : ∃ s, s = [102, 105, 108, 101] ++ (32 : UInt8) :: (nd.1 ++ (32 : UInt8) :: (dg N x.2.2 ++ (32 : UInt8) :: r)) := ⟨_, rfl⟩
   have hsl : s.length ≤ 224 := by rw [hs]; simp only [List.length_append, List.length_cons, List.length_nil]; omega
   have hn10 : (10 : UInt8) ∉ s := by
     rw [hs]
     simp only [List.mem_append, List.mem_cons, not_or]
     exact ⟨by decide, by decide, hpn.2, by decide, hno.2, by decide, hrl.2.2⟩
   have hsp : strings_Split s [32] = some [[102, 105, 108, 101], nd.1, dg N x.2.2, r] := by
     rw [strings_Split_one s 32 (by omega), hs, splitC_app (by decide), splitC_app hpn.1, splitC_app hno.1, splitC_no hrl.2.1]
   rw [← hs] at hline
   have hfull : lineT N tx nd ++ rest = s ++ (10 : UInt8) :: rest := by rw [hline]; simp
   refine ⟨s, hfull, ?_, ?_, by rw [hline]; simp, by rw [hline]; simp; omega⟩
   · rw [hfull]
     exact cut10 hn10 (by rw [List.length_append, List.length_cons]; omega)
   · rw [entry_file (F := []) hsp hrr hip hid]
     unfold entT
     rw [e, hrun]
 | none =>
   have hd := digs hN (x := tx nd.2.2) (by omega)
   have hdl := hd.len
   have hhx := dg_hex hN (x := tx nd.2.2) (by omega)
   have hno := hex_no hhx
   have hid := isDigest_dg hN (x := tx nd.2.2) (by omega)
   have hline : lineT N tx nd = [100, 105, 114] ++ (32 : UInt8) :: (nd.1 ++ (32 : UInt8) :: dg N (tx nd.2.2)) ++ [10] := by
     unfold lineT
     rw [e]
     dsimp only
     simp
   obtain ⟨s, hs⟩ : ∃ s, s = [100, 105, 114] ++ (32 : UInt8) :: (nd.1 ++ (32 : UInt8) :: dg N (tx nd.2.2)) := ⟨_, rfl⟩
   have hsl : s.length ≤ 224 := by rw [hs]; simp only [List.length_append, List.length_cons, List.length_nil]; omega
   have hn10 : (10 : UInt8) ∉ s := by
     rw [hs]
     simp only [List.mem_append, List.mem_cons, not_or]
     exact ⟨by decide, by decide, hpn.2, by decide, hno.2⟩
   have hsp : strings_Split s [32] = some [[100, 105, 114], nd.1, dg N (tx nd.2.2)] := by
     rw [strings_Split_one s 32 (by omega), hs, splitC_app (by decide), splitC_app hpn.1, splitC_no hno.1]
   rw [← hs] at hline
   have hfull : lineT N tx nd ++ rest = s ++ (10 : UInt8) :: rest := by rw [hline]; simp
   refine ⟨s, hfull, ?_, ?_, by rw [hline]; simp, by rw [hline]; simp; omega⟩
   · rw [hfull]
     exact cut10 hn10 (by rw [List.length_append, List.length_cons]; omega)
   · rw [entry_dir hsp hip hid]
     unfold entT
     rw [e]
theorem readDir_loop {N : Nat} (hN : big ≤ N) {tx : List FileD → Str} (k : List EntD → Option (Bool × List EntD)) :
   ∀ (R P : List NodeD) (fuel : Nat), (∀ nd ∈ P ++ R, NdR tx nd) → ((P ++ R).map fun nd => nd.1).Pairwise (· < ·) → (P ++ R).length ≤ 1000 → R.length < fuel →
     z41L0 N k fuel (R.flatMap (lineT N tx)) (P.map (entT N tx)) = k ((P ++ R).map (entT N tx))
 | [], P, f + 1, _, _, _, _ => by
   rw [z41L0]
   unfold z41L0T
   simp
 | nd :: R, P, f + 1, hR, hp, hl, hf => by
   have ih := readDir_loop hN (tx := tx) k R (P ++ [nd]) f (by simpa using hR) (by simpa using hp) (by simpa using hl) (by simp at hf; omega)
   have hnd := hR nd (by simp)
   have hRl : R.length ≤ 1000 := by simp at hl; omega
   have hfl := flat_len (N := N) (tx := tx) (T := R) fun x hx => (line_read hN (hR x (by simp [hx])) [] (by simp)).choose_spec.2.2.2.2
   obtain ⟨s, e1, e2, e3, e4, _⟩ := line_read hN hnd (R.flatMap (lineT N tx)) (by omega)
   have hne : ((lineT N tx nd ++ R.flatMap (lineT N tx)) == ([] : Str)) = false := by
     rw [beq_eq_false_iff_ne]
     intro h
     exact e4 (List.append_eq_nil_iff.1 h).1
   have hname : (entT N tx nd).1 = nd.1 := by unfold entT; split <;> rfl
   have hsz : Ty.sz (.pr .str (.pr .str (.pr .bool .bool))) = 4 := rfl
   have hPl : P.length ≤ 1000 := by simp at hl; omega
   rw [z41L0]
   unfold z41L0T
   rw [List.flatMap_cons, hne, Bool.not_false, br_true, e2, bnd_some]
   dsimp only
   rw [e3, bnd_some, Bool.not_true, br_false, br_false, hsz, List.length_map, List.length_singleton, decide_eq_true (show (P.length + 1) * (24 * 4) ≤ 140737488355328 by omega), br_true]
   have hfin : z41L0 N k f (R.flatMap (lineT N tx)) (P.map (entT N tx) ++ [entT N tx nd]) = k ((P ++ nd :: R).map (entT N tx)) := by
     have h1 : (P ++ [nd]).map (entT N tx) = P.map (entT N tx) ++ [entT N tx nd] := by simp
     rw [h1] at ih
     rw [ih]
     simp
   by_cases h0 : P.length = 0
   · rw [decide_eq_false (by omega), br_false]
     exact hfin
   · rw [decide_eq_true (by omega), br_true, w64 _ (by omega) (by omega)]
     obtain ⟨q, hq⟩ : ∃ q : Nat, ((P.length : Int) - 1) = (q : Int) := ⟨P.length - 1, by omega⟩
     have hqP : q < P.length := by omega
     rw [hq, geti_nat, List.getElem?_map, List.getElem?_eq_getElem hqP, Option.map_some, bnd_some]
     have hlast : (entT N tx P[q]).1 = P[q].1 := by unfold entT; split <;> rfl
     have hlt : P[q].1 < nd.1 := by
       rw [List.map_append, List.pairwise_append] at hp
       exact hp.2.2 _ (List.mem_map.2 ⟨_, List.getElem_mem hqP, rfl⟩) _ (by simp)
     have hle : (Op.bytesLess nd.1 P[q].1 || nd.1 == P[q].1) = false := by
       rw [Bool.or_eq_false_iff, bytesLess_lt]
       refine ⟨decide_eq_false fun h => str_lt_irrefl _ (str_lt_trans hlt h), ?_⟩
       rw [beq_eq_false_iff_ne]
       intro h
       rw [h] at hlt
       exact str_lt_irrefl _ hlt
     rw [hname, hlast, hle, br_false]
     exact hfin
end Go.Proofs.YtjiddcchklaiiaaGreatDoor


/- The trees, read again, plainly: a directory and all that is in it. -/
namespace Go.Proofs.YtjiddcchklaiiaaGreatDoor
set_option linter.unusedVariables false
set_option linter.unusedSimpArgs false
open Go Go.RowKit
def PartsOk (l : List FileD) : Prop := ∀ x ∈ l, ∀ p ∈ splitC 47 x.1, partP p = true
theorem parts_within {l : List FileD} (h : PartsOk l) {nm : Str} (hn : (47 : UInt8) ∉ nm) : PartsOk (within nm l) := fun y hy p hp => by
 obtain ⟨x, hx, e, _⟩ := within_mem2 hy
 refine h x hx p ?_
 rw [e, List.append_assoc, List.singleton_append, splitC_app hn]
 exact List.mem_cons_of_mem _ hp
theorem parts_name {d : Nat} {l : List FileD} (ht : Tame d l) (h : PartsOk l) {nd : NodeD} (hn : NodeOk l nd) : partP nd.1 = true := by
 obtain ⟨hno, ⟨x, hx, e, _⟩ | ⟨hw, _⟩⟩ := hn
 · refine h x hx nd.1 ?_
   rw [e, splitC_no hno]
   exact List.mem_singleton.2 rfl
 · obtain ⟨y, hy⟩ := List.exists_mem_of_ne_nil _ hw
   obtain ⟨x, hx, e, _⟩ := within_mem2 hy
   refine h x hx nd.1 ?_
   rw [e, List.append_assoc, List.singleton_append, splitC_app hno]
   exact List.mem_cons_self
theorem txt_nil (N : Nat) : ∀ d, txt N d [] = []
 | 0 => rfl
 | d + 1 => by rw [txt, nodesL_nil]; rfl
theorem node_read {N : Nat} (hN : big ≤ N) {d : Nat} {l : List FileD} (ht : Tame (d + 1) l) (h : PartsOk l) {nd : NodeD} (hnd : nd ∈ nodesL l) : NdR (txt N d) nd := by
 have hb : big = 18446744073709551616 := rfl
 have hok := ht.tn.ok nd hnd
 have hdp := ht.deep
 refine ⟨name_len ht hok, parts_name ht h hok, fun x e => ?_, ?_⟩
 · rcases node_cases ht hnd with ⟨y, hy, e2, _⟩ | ⟨e2, _⟩
   · rw [e] at e2; cases e2; exact ht.byt x hy
   · rw [e] at e2; cases e2
 · rcases hok.2 with ⟨x, _, _, e⟩ | ⟨_, e⟩
   · rw [e]; dsimp only; rw [txt_nil]; exact Nat.zero_le _
   · have e2 : nd.2.2 = within nd.1 l := by rw [e]
     rw [e2]
     have := (text_ok hN d _ (ht.within nd.1) N (by omega)).len
     omega
noncomputable def ents (N : Nat) : Nat → List FileD → List EntD
 | 0, _ => []
 | d + 1, l => (nodesL l).map (entT N (txt N d))
theorem readDir_ok {N : Nat} (hN : big ≤ N) : ∀ (d : Nat) (l : List FileD), Tame d l → PartsOk l → blob_readDir N (txt N d l) = some (true, ents N d l)
 | 0, l, _, _ => by
   have hb : big = 18446744073709551616 := rfl
   obtain ⟨n, rfl⟩ : ∃ n, N = n + 1 := ⟨N - 1, by omega⟩
   unfold blob_readDir
   rw [z41L0]
   unfold z41L0T
   rw [txt, show ((([] : Str) == []) : Bool) = true from rfl, Bool.not_true, br_false]
   rfl
 | d + 1, l, ht, hp => by
   have hb : big = 18446744073709551616 := rfl
   have h1 := ht.len
   have hlen := tn_len ht.tn
   have := readDir_loop hN (tx := txt N d) (fun o => some (true, o)) (nodesL l) [] N (fun nd hnd => node_read hN ht hp hnd) ht.tn.asc (by rw [List.nil_append]; omega) (by omega)
   unfold blob_readDir
   rw [txt]
   exact this
def flsN (r : Str → List FileD → List FileD) (path : Str) (nd : NodeD) : List FileD := match nd.2.1 with
 | some x => [(path ++ nd.1, x.2)]
 | none => r (path ++ nd.1 ++ [47]) nd.2.2
noncomputable def fls : Nat → Str → List FileD → List FileD
 | 0, _, _ => []
 | d + 1, path, l => (nodesL l).flatMap (flsN (fls d) path)
structure DirR (N : Nat) (O : List ObjD) (r : Option (Int × List ObjD × List FileD)) (acc fl : List FileD) (C : List (List UInt8)) : Prop where
 all : (∀ c ∈ C, lookO O (dg N c) = some c) → r = some (0, O, acc ++ fl)
 none : (∃ c ∈ C, lookO O (dg N c) = none) → ∃ acc', r = some (9, O, acc')
theorem dir_rloop {N : Nat} (hN : big ≤ N) {O : List ObjD} (hO : AscO O) (hOl : O.length ≤ 1000000) {r : Str → Str → List ObjD → List FileD → Option (Int × List ObjD × List FileD)} {tx : List FileD → Str} {cc : List FileD → List (List UInt8)} {fl : Str → List FileD → List FileD} {path : Str} (hpath : path.length ≤ 200)
   (k : List ObjD → List FileD → Option (Int × List ObjD × List FileD)) :
   ∀ (R P : List NodeD) (acc : List FileD) (fuel : Nat), P.length + R.length ≤ 1000000 → R.length < fuel → acc.length + (R.map wgt).sum ≤ 1000 →
     (∀ nd ∈ R, nd.1.length ≤ 200 ∧ ((∃ x, nd.2.1 = some x ∧ path.length + nd.1.length ≤ 200 ∧ x.2.2.length ≤ 100000) ∨ (nd.2.1 = none ∧ ∀ acc : List FileD, acc.length + nd.2.2.length ≤ 1000 → DirR N O (r (dg N (tx nd.2.2)) (path ++ nd.1 ++ [47]) O acc) acc (fl (path ++ nd.1 ++ [47]) nd.2.2) (cc nd.2.2) ∧ (fl (path ++ nd.1 ++ [47]) nd.2.2).length = nd.2.2.length))) →
     (∀ nd ∈ R, ∀ c ∈ contN cc nd, lookO O (dg N c) = some c ∨ lookO O (dg N c) = none) →
     ((∀ nd ∈ R, ∀ c ∈ contN cc nd, lookO O (dg N c) = some c) → z13L0 N r path (((P ++ R).map (entT N tx)).length : Int) ((P ++ R).map (entT N tx)) k fuel (P.length : Int) O acc = k O (acc ++ R.flatMap (flsN fl path))) ∧
     ((∃ nd ∈ R, ∃ c ∈ contN cc nd, lookO O (dg N c) = none) → ∃ acc', z13L0 N r path (((P ++ R).map (entT N tx)).length : Int) ((P ++ R).map (entT N tx)) k fuel (P.length : Int) O acc = some (9, O, acc'))
 | [], P, acc, f + 1, _, _, _, _, _ => by
   refine ⟨fun _ => ?_, fun ⟨nd, hnd, _⟩ => absurd hnd List.not_mem_nil⟩
   rw [z13L0]
   unfold z13L0T
   rw [decide_eq_false (by simp), br_false]
   simp
 | nd :: R, P, acc, f + 1, h1, h2, h3, hR, hH => by
   rw [List.map_cons, List.sum_cons] at h3
   have ih := fun acc' ha => dir_rloop hN hO hOl (r := r) (tx := tx) (cc := cc) (fl := fl) hpath k R (P ++ [nd]) acc' f (by simp at h1 ⊢; omega) (by simp at h2; omega) ha (fun x hx => hR x (List.mem_cons_of_mem _ hx)) (fun x hx => hH x (List.mem_cons_of_mem _ hx))
   rw [List.length_cons] at h1 h2
   have hpl : (P ++ [nd]).length = P.length + 1 := by rw [List.length_append, List.length_singleton]
   rw [List.append_assoc, List.singleton_append, hpl] at ih
   have hnext : IntKind.i64.wrap ((P.length : Int) + 1) = ((P.length + 1 : Nat) : Int) := by rw [w64 _ (by omega) (by omega)]; omega
   have hge : geti ((P ++ nd :: R).map (entT N tx)) (P.length : Int) = some (entT N tx nd) := by
     rw [List.map_append, List.map_cons]
     exact geti_at _ _ _ _ (by rw [List.length_map])
   have hlt : decide ((P.length : Int) < (((P ++ nd :: R).map (entT N tx)).length : Int)) = true := decide_eq_true (by rw [List.length_map, List.length_append, List.length_cons]; omega)
   have hsz : Ty.sz (.pr .str (.pr .bool (.sl .u8))) = 3 := rfl
   obtain ⟨h0, hcase⟩ := hR nd List.mem_cons_self
   have hnd := hH nd List.mem_cons_self
   rw [z13L0]
   unfold z13L0T
   rw [hlt, br_true, hge, bnd_some, hnext]
   rcases hcase with ⟨x, e, hpn, hb⟩ | ⟨e, hr⟩
   · have ec : contN cc nd = [x.2.2] := by unfold contN; rw [e]
     have ef : flsN fl path nd = [(path ++ nd.1, x.2)] := by unfold flsN; rw [e]
     have ee : entT N tx nd = (nd.1, dg N x.2.2, false, x.2.1) := by unfold entT; rw [e]
     have ew : wgt nd = 1 := by unfold wgt; rw [e]
     rw [ew] at h3
     rw [ec] at hnd
     rw [ee]
     dsimp only
     rw [br_false, find_ok hN hOl hO]
     rcases hnd _ (List.mem_singleton.2 rfl) with hF | hG
     · rw [hF]
       have hcl := clone_ok (N := N) (b := x.2.2) (by omega)
       have d1 : decide (path.length + nd.1.length ≤ 9223372036854775807) = true := decide_eq_true (by omega)
       have d2 : decide ((acc.length + [(path ++ nd.1, (x.2.1, x.2.2))].length) * (24 * Ty.sz (.pr .str (.pr .bool (.sl .u8)))) ≤ 140737488355328) = true := decide_eq_true (by rw [hsz, List.length_singleton]; omega)
       have d3 : decide (IntKind.i64.wrap ((path.length : Int) + (nd.1.length : Int)) > 200) = false := by rw [w64 _ (by omega) (by omega)]; exact decide_eq_false (by omega)
       have d4 : decide ((acc.length : Int) ≥ 1000) = false := decide_eq_false (by omega)
       simp only [bnd_some, Bool.not_true, br_false, d3, d4, d1, d2, hcl, br_true, both_self, times_eq]
       obtain ⟨i1, i2⟩ := ih (acc ++ [(path ++ nd.1, x.2)]) (by rw [List.length_append, List.length_singleton]; omega)
       refine ⟨fun hall => ?_, fun ⟨nd', hnd', c, hc, hcn⟩ => ?_⟩
       · rw [List.flatMap_cons, ef, ← List.append_assoc]
         exact i1 fun y hy => hall y (List.mem_cons_of_mem _ hy)
       · rcases List.mem_cons.1 hnd' with rfl | hnd'
         · rw [ec, List.mem_singleton] at hc
           rw [hc, hF] at hcn; cases hcn
         · exact i2 ⟨nd', hnd', c, hc, hcn⟩
     · rw [hG]
       simp only [bnd_some, Bool.not_false, br_true]
       refine ⟨fun hall => ?_, fun _ => ⟨acc, rfl⟩⟩
       have := hall nd List.mem_cons_self x.2.2 (by rw [ec]; exact List.mem_singleton.2 rfl)
       rw [hG] at this; cases this
   · have ec : contN cc nd = cc nd.2.2 := by unfold contN; rw [e]
     have ef : flsN fl path nd = fl (path ++ nd.1 ++ [47]) nd.2.2 := by unfold flsN; rw [e]
     have ee : entT N tx nd = (nd.1, dg N (tx nd.2.2), true, false) := by unfold entT; rw [e]
     have ew : wgt nd = nd.2.2.length := by unfold wgt; rw [e]
     rw [ew] at h3
     rw [ec] at hnd
     obtain ⟨hd, hfl⟩ := hr acc (by omega)
     have d1 : decide (path.length + nd.1.length ≤ 9223372036854775807) = true := decide_eq_true (by omega)
     have d2 : decide ((path ++ nd.1).length + ([47] : Str).length ≤ 9223372036854775807) = true := decide_eq_true (by rw [List.length_append, List.length_singleton]; omega)
     rw [ee]
     dsimp only
     rw [br_true, d1, br_true, d2, br_true]
     by_cases hall : ∀ c ∈ cc nd.2.2, lookO O (dg N c) = some c
     · rw [hd.all hall, bnd_some]
       dsimp only
       rw [show ((0 : Int) != 0) = false from rfl, br_false]
       obtain ⟨i1, i2⟩ := ih (acc ++ fl (path ++ nd.1 ++ [47]) nd.2.2) (by rw [List.length_append, hfl]; omega)
       refine ⟨fun hall' => ?_, fun ⟨nd', hnd', c, hc, hcn⟩ => ?_⟩
       · rw [List.flatMap_cons, ef, ← List.append_assoc]
         exact i1 fun y hy => hall' y (List.mem_cons_of_mem _ hy)
       · rcases List.mem_cons.1 hnd' with rfl | hnd'
         · rw [ec] at hc
           rw [hall c hc] at hcn; cases hcn
         · exact i2 ⟨nd', hnd', c, hc, hcn⟩
     · obtain ⟨c, hc, hcn⟩ : ∃ c ∈ cc nd.2.2, lookO O (dg N c) = none := by
         apply Classical.byContradiction
         intro hno
         refine hall fun c hc => ?_
         rcases hnd c hc with h | h
         · exact h
         · exact absurd ⟨c, hc, h⟩ hno
       obtain ⟨acc', ha⟩ := hd.none ⟨c, hc, hcn⟩
       rw [ha, bnd_some]
       dsimp only
       rw [show ((9 : Int) != 0) = true from rfl, br_true]
       refine ⟨fun hall' => absurd (fun c hc => hall' nd List.mem_cons_self c (by rw [ec]; exact hc)) hall, fun _ => ⟨acc', rfl⟩⟩
theorem fls_len : ∀ (d : Nat) (path : Str) (l : List FileD), Tame d l → (fls d path l).length = l.length
 | 0, path, l, h => by rw [h.zero]; rfl
 | d + 1, path, l, h => by
   rw [fls, ← wgt_all h]
   have : ∀ T : List NodeD, (∀ nd ∈ T, nd ∈ nodesL l) → (T.flatMap (flsN (fls d) path)).length = (T.map wgt).sum := by
     intro T
     induction T with
     | nil => intro _; rfl
     | cons nd T ih =>
       intro hT
       rw [List.flatMap_cons, List.length_append, List.map_cons, List.sum_cons, ih fun x hx => hT x (List.mem_cons_of_mem _ hx)]
       congr 1
       unfold flsN wgt
       rcases node_cases h (hT nd List.mem_cons_self) with ⟨x, _, e, _⟩ | ⟨e, _, _, ht⟩
       · rw [e]; rfl
       · rw [e]; exact fls_len d _ _ ht
   exact this _ fun _ h => h
theorem nodes_ne {d : Nat} {l : List FileD} (h : Tame d l) : nodesL l = [] ↔ l = [] := by
 constructor
 · intro e
   have := wgt_all h
   rw [e] at this
   exact List.eq_nil_of_length_eq_zero (by simpa using this.symm)
 · rintro rfl; exact nodesL_nil
theorem dir_read {N : Nat} (hN : big ≤ N) {O : List ObjD} (hO : AscO O) (hOl : O.length ≤ 1000000) : ∀ (d : Nat) (l : List FileD), Tame d l → PartsOk l → (∀ c ∈ cont N d l, lookO O (dg N c) = some c ∨ lookO O (dg N c) = none) →
   ∀ (f : Nat) (path : Str) (acc : List FileD), d < f → (path = [] ∨ l ≠ []) → path.length ≤ 200 → (∀ x ∈ l, path.length + x.1.length ≤ 200) → acc.length + l.length ≤ 1000 → DirR N O (blob_treeReader_dir N f (dg N (txt N d l)) path O acc) acc (fls d path l) (cont N d l)
 | 0, l, ht, hp, hH, f + 1, path, acc, _, hpe, hpl, hx, ha => by
   have hb : big = 18446744073709551616 := rfl
   have hr := readDir_ok hN 0 l ht hp
   obtain rfl := ht.zero
   have hpe : path = [] := by rcases hpe with h | h; exact h; exact absurd rfl h
   subst hpe
   obtain ⟨i1, i2⟩ := dir_rloop hN hO hOl (r := blob_treeReader_dir N f) (tx := txt N 0) (cc := cont N 0) (fl := fls 0) (path := []) (by simp) (fun o a => some (0, o, a)) [] [] acc N (by simp) (by simp; omega) (by simpa using ha) (fun nd hnd => absurd hnd List.not_mem_nil) (fun nd hnd => absurd hnd List.not_mem_nil)
   have hc : (txt N 0 [] : Str) ∈ cont N 0 [] := by rw [cont, txt]; exact List.mem_singleton.2 rfl
   have hco : ∀ c ∈ cont N 0 [], c = txt N 0 [] := fun c h => by rw [cont, List.mem_singleton] at h; rw [h]; rfl
   have hgo : lookO O (dg N (txt N 0 [])) = some (txt N 0 []) → blob_treeReader_dir N (f + 1) (dg N (txt N 0 [])) [] O acc = some (0, O, acc) := fun hF => by
     show blob_treeReader_dir_b N (blob_treeReader_dir N f) _ _ _ _ = _
     unfold blob_treeReader_dir_b
     rw [find_ok hN hOl hO, hF]
     dsimp only
     rw [bnd_some, Bool.not_true, br_false, hr, bnd_some]
     dsimp only
     rw [Bool.not_true, br_false]
     have := i1 (fun nd hnd => absurd hnd List.not_mem_nil)
     simp only [List.append_nil, List.flatMap_nil] at this
     rw [show ((([] : Str) == []) : Bool) = true from rfl, Bool.not_true, br_false]
     have h2 : ents N 0 [] = [] := rfl
     rw [h2]
     rw [show (((([] : List EntD).length : Nat) : Int) == 0) = true from rfl, br_true]
     exact this
   refine ⟨fun hall => ?_, fun ⟨c, hc', hcn⟩ => ⟨acc, ?_⟩⟩
   · rw [hgo (hall _ hc)]
     simp [fls]
   · rw [hco c hc'] at hcn
     show blob_treeReader_dir_b N (blob_treeReader_dir N f) _ _ _ _ = _
     unfold blob_treeReader_dir_b
     rw [find_ok hN hOl hO, hcn]
     dsimp only
     rw [bnd_some, Bool.not_false, br_true]
 | d + 1, l, ht, hp, hH, f + 1, path, acc, hdf, hpe, hpl, hx, ha => by
   have hb : big = 18446744073709551616 := rfl
   have hr := readDir_ok hN (d + 1) l ht hp
   have h1 := ht.len
   have hlen := tn_len ht.tn
   have hcm : ∀ nd ∈ nodesL l, ∀ c ∈ contN (cont N d) nd, c ∈ cont N (d + 1) l := fun nd hnd c hc => by
     rw [cont]
     exact List.mem_cons_of_mem _ (List.mem_flatMap.2 ⟨nd, hnd, hc⟩)
   have htm : txt N (d + 1) l ∈ cont N (d + 1) l := by rw [cont]; exact List.mem_cons_self
   obtain ⟨i1, i2⟩ := dir_rloop hN hO hOl (r := blob_treeReader_dir N f) (tx := txt N d) (cc := cont N d) (fl := fls d) (path := path) hpl (fun o a => some (0, o, a)) (nodesL l) [] acc N (by simp; omega) (by omega) (by rw [wgt_all ht]; exact ha) (fun nd hnd => by
     have hok := ht.tn.ok nd hnd
     refine ⟨name_len ht hok, ?_⟩
     rcases node_cases ht hnd with ⟨x, hxm, e, e1⟩ | ⟨e, e2, hne, htw⟩
     · exact .inl ⟨x, e, by rw [← e1]; exact hx x hxm, ht.byt x hxm⟩
     · refine .inr ⟨e, fun acc' ha' => ?_⟩
       have hxs : ∀ y ∈ nd.2.2, path.length + nd.1.length + 1 + y.1.length ≤ 200 := fun y hy => by
         rw [e2] at hy
         obtain ⟨x, hxm, e3, _⟩ := within_mem2 hy
         have := hx x hxm
         rw [e3, List.length_append, List.length_append, List.length_singleton] at this
         omega
       refine ⟨dir_read hN hO hOl d nd.2.2 htw (by rw [e2]; exact parts_within hp hok.1) (fun c hc => hH c (hcm nd hnd c (by unfold contN; rw [e]; exact hc))) f _ acc' (by omega) (.inr hne) ?_ (fun y hy => ?_) ha', fls_len d _ _ htw⟩
       · obtain ⟨y, hy⟩ := List.exists_mem_of_ne_nil _ hne
         have := hxs y hy
         simp only [List.length_append, List.length_singleton]
         omega
       · have := hxs y hy
         simp only [List.length_append, List.length_singleton]
         omega) (fun nd hnd c hc => hH c (hcm nd hnd c hc))
   have hgo : lookO O (dg N (txt N (d + 1) l)) = some (txt N (d + 1) l) → blob_treeReader_dir N (f + 1) (dg N (txt N (d + 1) l)) path O acc = z13L0 N (blob_treeReader_dir N f) path ((([] ++ nodesL l).map (entT N (txt N d))).length : Int) (([] ++ nodesL l).map (entT N (txt N d))) (fun o a => some (0, o, a)) N ((([] : List NodeD).length : Nat) : Int) O acc := fun hF => by
     show blob_treeReader_dir_b N (blob_treeReader_dir N f) _ _ _ _ = _
     unfold blob_treeReader_dir_b
     rw [find_ok hN hOl hO, hF]
     dsimp only
     rw [bnd_some, Bool.not_true, br_false, hr, bnd_some]
     dsimp only
     rw [Bool.not_true, br_false]
     have h2 : ents N (d + 1) l = ([] ++ nodesL l).map (entT N (txt N d)) := rfl
     rw [h2]
     by_cases h0 : (((([] ++ nodesL l).map (entT N (txt N d))).length : Int) == 0) = true
     · rw [h0, br_true]
       have hnl : l = [] := (nodes_ne ht).1 (List.eq_nil_of_length_eq_zero (by simpa using h0))
       have hpe : path = [] := by rcases hpe with h | h; exact h; exact absurd hnl h
       rw [hpe, show ((([] : Str) == []) : Bool) = true from rfl, Bool.not_true, br_false]
       rfl
     · rw [Bool.eq_false_iff.2 h0, br_false]
       rfl
   refine ⟨fun hall => ?_, fun ⟨c, hc', hcn⟩ => ?_⟩
   · rw [hgo (hall _ htm), i1 fun nd hnd c hc => hall c (hcm nd hnd c hc)]
     rfl
   · rcases hH _ htm with hF | hG
     · rw [hgo hF]
       rw [cont] at hc'
       rcases List.mem_cons.1 hc' with rfl | hc'
       · rw [hF] at hcn; cases hcn
       · obtain ⟨nd, hnd, hc'⟩ := List.mem_flatMap.1 hc'
         exact i2 ⟨nd, hnd, c, hc', hcn⟩
     · refine ⟨acc, ?_⟩
       show blob_treeReader_dir_b N (blob_treeReader_dir N f) _ _ _ _ = _
       unfold blob_treeReader_dir_b
       rw [find_ok hN hOl hO, hG]
       dsimp only
       rw [bnd_some, Bool.not_false, br_true]
end Go.Proofs.YtjiddcchklaiiaaGreatDoor


/- The trees, read again, plainly: FilesOf. -/
namespace Go.Proofs.YtjiddcchklaiiaaGreatDoor
set_option linter.unusedVariables false
set_option linter.unusedSimpArgs false
open Go Go.RowKit
theorem checkObjs_ok {N : Nat} (hN : big ≤ N) {O : List ObjD} (h1 : O.length ≤ 4000) (ha : AscO O) (hd : ∀ x ∈ O, x.1 = dg N x.2 ∧ x.2.length ≤ 225000) : blob_CheckObjects N O = some 0 := by
 have hb : big = 18446744073709551616 := rfl
 have key : ∀ (m i f : Nat), O.length - i = m → i ≤ O.length → m < f → z19L0 N O O (O.length : Int) (some 0) f (i : Int) = some 0 := by
   intro m
   induction m with
   | zero =>
     intro i f h2 h3 h4
     obtain ⟨f, rfl⟩ : ∃ q, f = q + 1 := ⟨f - 1, by omega⟩
     rw [z19L0]
     unfold z19L0T
     rw [decide_eq_false (by omega), br_false]
   | succ m ih =>
     intro i f h2 h3 h4
     obtain ⟨f, rfl⟩ : ∃ q, f = q + 1 := ⟨f - 1, by omega⟩
     have hi : i < O.length := by omega
     obtain ⟨h5, h6⟩ := hd _ (List.getElem_mem hi)
     have hn : IntKind.i64.wrap ((i : Int) + 1) = ((i + 1 : Nat) : Int) := by rw [w64 _ (by omega) (by omega)]; omega
     have ih' := ih (i + 1) f (by omega) (by omega) (by omega)
     rw [z19L0]
     unfold z19L0T
     rw [decide_eq_true (by omega), br_true, geti_lt O hi, bnd_some, (digs hN (by omega)).blob, bnd_some, show (O[i].1 == dg N O[i].2) = true by simpa using h5, Bool.not_true, br_false, decide_eq_false (by omega), br_false, hn]
     by_cases h0 : i = 0
     · rw [decide_eq_false (by omega), br_false]
       exact ih'
     · have hp : i - 1 < O.length := by omega
       have hlt := List.pairwise_iff_getElem.1 ha (i - 1) i hp hi (by omega)
       have hle : (Op.bytesLess O[i].1 O[i - 1].1 || O[i].1 == O[i - 1].1) = false := by
         rw [Bool.or_eq_false_iff, bytesLess_lt]
         refine ⟨decide_eq_false fun h => str_lt_irrefl _ (str_lt_trans hlt h), ?_⟩
         rw [beq_eq_false_iff_ne]
         intro h
         rw [h] at hlt
         exact str_lt_irrefl _ hlt
       rw [decide_eq_true (by omega), br_true, w64 _ (by omega) (by omega), show ((i : Int) - 1) = ((i - 1 : Nat) : Int) by omega, geti_lt O hp, bnd_some, hle, br_false]
       exact ih'
 unfold blob_CheckObjects
 rw [decide_eq_false (by omega), br_false]
 exact key O.length 0 N rfl (Nat.zero_le _) (by omega)
theorem parts_of {l : List FileD} (h : FilesOk l) : PartsOk l := fun x hx p hp => by
 have := h.ok.path x hx
 unfold pathB at this
 simp only [Bool.and_eq_true, List.all_eq_true] at this
 exact this.2.2 p hp
structure ObjsOk (N : Nat) (l : List FileD) (O : List ObjD) : Prop where
 files : FilesOk l
 len : O.length ≤ 4000
 asc : AscO O
 dig : ∀ x ∈ O, x.1 = dg N x.2 ∧ x.2.length ≤ 225000
 look : ∀ c ∈ cont N 201 l, lookO O (dg N c) = some c ∨ lookO O (dg N c) = none
theorem checkRoot_ok {N : Nat} (hN : big ≤ N) {l : List FileD} {O : List ObjD} (h : ObjsOk N l O) : blob_checkRoot N (dg N (txt N 201 l)) O = some 0 := by
 have hb : big = 18446744073709551616 := rfl
 have hl := (text_ok hN 201 l (tame_of h.files) N (by omega)).len
 unfold blob_checkRoot
 rw [checkObjs_ok hN h.len h.asc h.dig, bnd_some, show ((0 : Int) != 0) = false from rfl, br_false, isDigest_dg hN (by omega), bnd_some, Bool.not_true, br_false]
theorem filesOf_none {N : Nat} (hN : big ≤ N) {l : List FileD} {O : List ObjD} (h : ObjsOk N l O) (hno : ∃ c ∈ cont N 201 l, lookO O (dg N c) = none) : blob_FilesOf N (dg N (txt N 201 l)) O = some ([], 9) := by
 have hb : big = 18446744073709551616 := rfl
 have ht := tame_of h.files
 have hl := h.len
 have hd := dir_read hN h.asc (by omega) 201 l ht (parts_of h.files) h.look N [] [] (by omega) (.inl rfl) (by simp) (fun x hx => by have := ht.path x hx; simp; omega) (by have := ht.len; simpa using this)
 obtain ⟨acc', ha⟩ := hd.none hno
 unfold blob_FilesOf
 rw [checkRoot_ok hN h, bnd_some, show ((0 : Int) != 0) = false from rfl, br_false, ha, bnd_some]
 dsimp only
 rw [show ((9 : Int) != 0) = true from rfl, br_true]
end Go.Proofs.YtjiddcchklaiiaaGreatDoor

