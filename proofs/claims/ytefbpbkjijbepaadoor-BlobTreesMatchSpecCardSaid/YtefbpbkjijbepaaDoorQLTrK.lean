/- The trees, plainly: both writers gather the same contents. -/
import Derived.Test.YtefbpbkjijbepaaDoorQLTrI
import Derived.Test.YtefbpbkjijbepaaDoorQBmJ
namespace Go.Proofs.YtefbpbkjijbepaaDoor
set_option linter.unusedVariables false
set_option linter.unusedSimpArgs false
open Go Go.RowKit
/-- How many files stand in a node. -/
def wgt (nd : NodeD) : Nat := match nd.2.1 with
  | some _ => 1
  | none => nd.2.2.length
theorem wgt_step (ns : List NodeD) (x : FileD) : ((nodeStep ns x).map wgt).sum = (ns.map wgt).sum + 1 := by
  unfold nodeStep
  dsimp only
  split
  · simp [wgt]
  · split
    · rename_i nd h
      have hns : ns = ns.dropLast ++ [nd] := by
        obtain ⟨hne, e⟩ := List.getLast?_eq_some_iff.1 h
        rw [e]; simp
      split
      · rename_i hc
        have e : (ns.map wgt).sum = (ns.dropLast.map wgt).sum + nd.2.2.length := by
          rw [hns]; simp [wgt, hc.2]
        rw [e]
        simp [wgt]
        omega
      · simp [wgt]
    · simp [wgt]
theorem wgt_fold : ∀ (l : List FileD) (ns : List NodeD), ((l.foldl nodeStep ns).map wgt).sum = (ns.map wgt).sum + l.length
  | [], ns => rfl
  | x :: l, ns => by rw [List.foldl_cons, wgt_fold l, wgt_step, List.length_cons]; omega
theorem wgt_all {d : Nat} {l : List FileD} (h : Tame d l) : ((nodesL l).map wgt).sum = l.length := by
  have h1 := ((tn_perm h.tn).map wgt).sum_nat
  rw [h1, wgt_fold]
  simp
/-- What a node brings. -/
def contN (c : List FileD → List (List UInt8)) (nd : NodeD) : List (List UInt8) := match nd.2.1 with
  | some x => [x.2.2]
  | none => c nd.2.2
/-- The contents of a tree: the texts of its directories and the bytes of its files. -/
noncomputable def cont (N : Nat) : Nat → List FileD → List (List UInt8)
  | 0, _ => [[]]
  | d + 1, l => txt N (d + 1) l :: (nodesL l).flatMap (contN (cont N d))
theorem flat_wgt {c : Nat} {f : NodeD → List (List UInt8)} : ∀ {T : List NodeD}, (∀ nd ∈ T, (f nd).length ≤ wgt nd * c) → (T.flatMap f).length ≤ (T.map wgt).sum * c
  | [], _ => by simp
  | nd :: T, h => by
    have h1 := h nd List.mem_cons_self
    have h2 := flat_wgt (T := T) fun x hx => h x (List.mem_cons_of_mem _ hx)
    rw [List.flatMap_cons, List.length_append, List.map_cons, List.sum_cons, Nat.add_mul]
    omega
/-- A node is a file, or files within a directory. -/
theorem node_cases {d : Nat} {l : List FileD} (h : Tame (d + 1) l) {nd : NodeD} (hnd : nd ∈ nodesL l) : (∃ x ∈ l, nd.2.1 = some x ∧ x.1 = nd.1) ∨ (nd.2.1 = none ∧ nd.2.2 = within nd.1 l ∧ nd.2.2 ≠ [] ∧ Tame d nd.2.2) := by
  obtain ⟨_, ⟨x, hx, e1, e⟩ | ⟨hw, e⟩⟩ := h.tn.ok nd hnd
  · exact .inl ⟨x, hx, by rw [e], e1⟩
  · refine .inr ?_
    have e2 : nd.2.2 = within nd.1 l := by rw [e]
    rw [e2]
    exact ⟨by rw [e], rfl, hw, h.within _⟩
theorem cont_len {N : Nat} : ∀ (d : Nat) (l : List FileD), Tame d l → (cont N d l).length ≤ 1 + l.length * d
  | 0, l, _ => by simp [cont]
  | d + 1, l, h => by
    rw [cont, List.length_cons]
    have := flat_wgt (c := d + 1) (f := contN (cont N d)) (T := nodesL l) fun nd hnd => by
      rcases node_cases h hnd with ⟨x, _, e, _⟩ | ⟨e, _, hne, ht⟩
      · unfold contN wgt
        rw [e]
        simp
      · unfold contN wgt
        rw [e]
        have h1 := cont_len (N := N) d _ ht
        have h2 : 1 ≤ nd.2.2.length := List.length_pos_iff.2 hne
        dsimp only
        rw [Nat.mul_succ]
        omega
    rw [wgt_all h] at this
    omega
/-- The loop of the program's writer. -/
theorem dir_loop {N : Nat} (hN : big ≤ N) {r : List FileD → List ObjD → Option (Str × List ObjD)} {c : List FileD → List (List UInt8)} (k : List ObjD → Option (Str × List ObjD)) :
    ∀ (R P : List NodeD) (m : List ObjD) (fuel : Nat), (∀ nd ∈ R, (∃ x, nd.2.1 = some x ∧ x.2.2.length ≤ 100000) ∨ (nd.2.1 = none ∧ ∀ m, ∃ z, r nd.2.2 m = some (z, (c nd.2.2).foldl (putM N) m))) → P.length + R.length ≤ 1000000 → R.length < fuel →
      blob_writer_dir_b_L0 N r (P ++ R) ((P ++ R).length : Int) k fuel (P.length : Int) m = k ((R.flatMap (contN c)).foldl (putM N) m)
  | [], P, m, f + 1, _, _, _ => by
    rw [blob_writer_dir_b_L0]
    unfold blob_writer_dir_b_L0T
    rw [decide_eq_false (by simp), br_false]
    rfl
  | nd :: R, P, m, f + 1, hR, h1, h3 => by
    have ih := fun m' => dir_loop hN (r := r) (c := c) k R (P ++ [nd]) m' f (fun x hx => hR x (List.mem_cons_of_mem _ hx)) (by simp at h1 ⊢; omega) (by simp at h3; omega)
    rw [List.length_cons] at h1 h3
    have hpl : (P ++ [nd]).length = P.length + 1 := by rw [List.length_append, List.length_singleton]
    rw [List.append_assoc, List.singleton_append, hpl] at ih
    rw [blob_writer_dir_b_L0]
    unfold blob_writer_dir_b_L0T
    have hnext : IntKind.i64.wrap ((P.length : Int) + 1) = ((P.length + 1 : Nat) : Int) := by rw [w64 _ (by omega) (by omega)]; omega
    rw [decide_eq_true (by rw [List.length_append, List.length_cons]; omega), br_true, geti_app, bnd_some, hnext, List.flatMap_cons, List.foldl_append]
    rcases hR nd List.mem_cons_self with ⟨x, e, hb⟩ | ⟨e, hr⟩
    · rw [e, Option.isNone_some, Bool.not_false, br_true, bnd_some, putB_ok hN (by omega), bnd_some, ih]
      unfold contN
      rw [e]
      rfl
    · obtain ⟨z, hz⟩ := hr m
      rw [e, Option.isNone_none, Bool.not_true, br_false, hz, bnd_some, ih]
      unfold contN
      rw [e]
theorem dir_ok {N : Nat} (hN : big ≤ N) : ∀ (d : Nat) (l : List FileD), Tame d l → ∀ f, d < f → ∀ m, blob_writer_dir N f l m = some (dg N (txt N d l), (cont N d l).foldl (putM N) m)
  | 0, l, h, f + 1, _, m => by
    have hb : big = 18446744073709551616 := rfl
    have ht := text_ok hN 0 l h N (by omega)
    have htn := h.tn
    obtain rfl := h.zero
    have hl := dir_loop hN (r := blob_writer_dir N f) (c := cont N 0) (fun o => some (dg N (txt N 0 []), o)) [] [] (putM N m []) N (fun nd hnd => absurd hnd List.not_mem_nil) (by simp) (by simp; omega)
    show blob_writer_dir_b N (blob_writer_dir N f) [] m = _
    unfold blob_writer_dir_b
    rw [htn.nodes, bnd_some, ht.blob, bnd_some, putB_ok hN (by have := ht.len; omega), bnd_some, nodesL_nil]
    exact hl
  | d + 1, l, h, f + 1, hf, m => by
    have hb : big = 18446744073709551616 := rfl
    have hdp := h.deep
    have ht := text_ok hN (d + 1) l h N (by omega)
    have hlen := tn_len h.tn
    have h1 := h.len
    have hl := dir_loop hN (r := blob_writer_dir N f) (c := cont N d) (fun o => some (dg N (txt N (d + 1) l), o)) (nodesL l) [] (putM N m (txt N (d + 1) l)) N (fun nd hnd => by
      rcases node_cases h hnd with ⟨x, hx, e, _⟩ | ⟨e, _, _, ht⟩
      · exact .inl ⟨x, e, h.byt x hx⟩
      · exact .inr ⟨e, fun m => ⟨_, dir_ok hN d _ ht f (by omega) m⟩⟩) (by simp; omega) (by omega)
    show blob_writer_dir_b N (blob_writer_dir N f) l m = _
    unfold blob_writer_dir_b
    rw [h.tn.nodes, bnd_some, ht.blob, bnd_some, putB_ok hN (by have := ht.len; omega), bnd_some]
    exact hl
/-- The loop of the reference's writer. -/
theorem write_loop {N : Nat} (hN : big ≤ N) {r : List FileD → List ObjD → Option (List ObjD)} {c : List FileD → List (List UInt8)} {l : List FileD} (k : List ObjD → Option (List ObjD)) :
    ∀ (R P : List NodeD) (w : List ObjD) (fuel : Nat), (∀ nd ∈ R, (∃ x, nd.2.1 = some x ∧ x.2.2.length ≤ 100000 ∧ ref1_below N l nd.1 = some (false, [x])) ∨
        (nd.2.1 = none ∧ ref1_below N l nd.1 = some (true, nd.2.2) ∧ ∀ w, w.length + (c nd.2.2).length ≤ 1000000 → r nd.2.2 w = some ((c nd.2.2).foldl (putW N) w))) →
      P.length + R.length ≤ 1000000 → w.length + (R.flatMap (contN c)).length ≤ 1000000 → R.length < fuel →
      ref1_writer_write_2_b_L0 N r l ((P ++ R).map fun nd => nd.1) k fuel (P.length : Int) w = k ((R.flatMap (contN c)).foldl (putW N) w)
  | [], P, w, f + 1, _, _, _, _ => by
    rw [ref1_writer_write_2_b_L0]
    unfold ref1_writer_write_2_b_L0T
    rw [decide_eq_false (by simp), br_false]
    rfl
  | nd :: R, P, w, f + 1, hR, h1, h2, h3 => by
    rw [List.flatMap_cons, List.length_append] at h2
    have ih := fun w' hw' => write_loop hN (r := r) (c := c) (l := l) k R (P ++ [nd]) w' f (fun x hx => hR x (List.mem_cons_of_mem _ hx)) (by simp at h1 ⊢; omega) hw' (by simp at h3; omega)
    rw [List.length_cons] at h1 h3
    have hpl : (P ++ [nd]).length = P.length + 1 := by rw [List.length_append, List.length_singleton]
    rw [List.append_assoc, List.singleton_append, hpl] at ih
    rw [ref1_writer_write_2_b_L0]
    unfold ref1_writer_write_2_b_L0T
    have hnext : IntKind.i64.wrap ((P.length : Int) + 1) = ((P.length + 1 : Nat) : Int) := by rw [w64 _ (by omega) (by omega)]; omega
    have hge : geti ((P ++ nd :: R).map fun nd => nd.1) (P.length : Int) = some nd.1 := by
      rw [List.map_append, List.map_cons]
      exact geti_at _ _ _ _ (by rw [List.length_map])
    rw [decide_eq_true (by rw [List.length_map, List.length_append, List.length_cons]; omega), br_true, hge, bnd_some, hnext, List.flatMap_cons, List.foldl_append]
    rcases hR nd List.mem_cons_self with ⟨x, e, hb, hbe⟩ | ⟨e, hbe, hr⟩
    · have h0 : geti [x] (0 : Int) = some x := rfl
      have ec : contN c nd = [x.2.2] := by unfold contN; rw [e]
      rw [ec] at h2 ⊢
      rw [List.length_singleton] at h2
      have hwl := insO_len (dg N x.2.2) x.2.2 w
      rw [hbe, bnd_some, br_false, h0, bnd_some, bnd_some, (digs hN (by omega)).ref, bnd_some, put2_ok hN _ (by omega) (by omega), bnd_some, ih _ (by omega)]
      rfl
    · have ec : contN c nd = c nd.2.2 := by unfold contN; rw [e]
      rw [ec] at h2 ⊢
      have hwl := puts_len (N := N) (c nd.2.2) w
      rw [hbe, bnd_some, br_true, hr w (by omega), bnd_some, ih _ (by omega)]
theorem write_ok {N : Nat} (hN : big ≤ N) : ∀ (d : Nat) (l : List FileD), Tame d l → ∀ f, d < f → ∀ w : List ObjD, w.length + (cont N d l).length ≤ 1000000 → ref1_writer_write_2 N f l w = some ((cont N d l).foldl (putW N) w)
  | 0, l, h, f + 1, _, w, hw => by
    have hb : big = 18446744073709551616 := rfl
    have ht := text_ok hN 0 l h N (by omega)
    obtain ⟨ks, hks⟩ := h.tn.names
    obtain rfl := h.zero
    have hwl := insO_len (dg N []) [] w
    rw [cont, List.length_singleton] at hw
    have hl := write_loop hN (r := ref1_writer_write_2 N f) (c := cont N 0) (l := []) (fun o => some o) [] [] (putW N w []) N (fun nd hnd => absurd hnd List.not_mem_nil) (by simp) (by simp [putW]; omega) (by simp; omega)
    show ref1_writer_write_2_b N (ref1_writer_write_2 N f) [] w = _
    unfold ref1_writer_write_2_b
    rw [ht.ref, bnd_some, txt, decide_eq_true (by decide), br_true, (digs hN (by simp)).ref, bnd_some, br_true, put2_ok hN _ (by simp) (by omega), bnd_some, hks, bnd_some, nodesL_nil]
    exact hl
  | d + 1, l, h, f + 1, hf, w, hw => by
    have hb : big = 18446744073709551616 := rfl
    have hdp := h.deep
    have ht := text_ok hN (d + 1) l h N (by omega)
    have htl := ht.len
    have hlen := tn_len h.tn
    have h1 := h.len
    obtain ⟨ks, hks⟩ := h.tn.names
    have hwl := insO_len (dg N (txt N (d + 1) l)) (txt N (d + 1) l) w
    rw [cont, List.length_cons] at hw
    have hl := write_loop hN (r := ref1_writer_write_2 N f) (c := cont N d) (l := l) (fun o => some o) (nodesL l) [] (putW N w (txt N (d + 1) l)) N (fun nd hnd => by
      have hok := h.tn.ok nd hnd
      have hnl := name_len h hok
      rcases below_ok (N := N) (by omega) h.good (by omega) hok (by omega) with ⟨x, hx, e, _, hbe⟩ | ⟨e, _, hbe⟩
      · exact .inl ⟨x, by rw [e], h.byt x hx, hbe⟩
      · have e2 : nd.2.2 = within nd.1 l := by rw [e]
        rw [← e2] at hbe
        refine .inr ⟨by rw [e], hbe, fun w hw => ?_⟩
        rw [e2] at hw ⊢
        exact write_ok hN d _ (h.within _) f (by omega) w hw) (by simp; omega) (by unfold putW; omega) (by omega)
    show ref1_writer_write_2_b N (ref1_writer_write_2 N f) l w = _
    unfold ref1_writer_write_2_b
    rw [ht.ref, bnd_some, decide_eq_true (by omega), br_true, (digs hN (by omega)).ref, bnd_some, br_true, put2_ok hN _ (by omega) (by omega), bnd_some, hks, bnd_some]
    exact hl
theorem write_top {N : Nat} (hN : big ≤ N) {l : List FileD} (hl : Tame 201 l) : ref1_writer_write N l = some ((cont N 201 l).foldl (putW N) []) := by
  have hb : big = 18446744073709551616 := rfl
  have e : ∀ (c : List Str) (K : List ObjD → Option (List ObjD)) f i w, ref1_writer_write_L0 N l c K f i w = ref1_writer_write_2_b_L0 N (ref1_writer_write_2 N N) l c K f i w := by
    intro c K f
    induction f with
    | zero => exact fun _ _ => rfl
    | succ f ih =>
      intro i w
      have : ref1_writer_write_L0 N l c K f = ref1_writer_write_2_b_L0 N (ref1_writer_write_2 N N) l c K f := funext fun i => funext fun w => ih i w
      rw [ref1_writer_write_L0, ref1_writer_write_2_b_L0, this]
      rfl
  have h1 := hl.len
  have hc := cont_len (N := N) 201 l hl
  have key := write_ok hN 201 l hl (N + 1) (by omega) [] (by rw [List.length_nil]; omega)
  rw [← key]
  have ht := text_ok hN 201 l hl N (by omega)
  have htl := ht.len
  show _ = ref1_writer_write_2_b N (ref1_writer_write_2 N N) l []
  unfold ref1_writer_write ref1_writer_write_2_b
  rw [ht.ref, bnd_some, bnd_some, decide_eq_true (by omega), br_true, br_true, (digs hN (by omega)).ref, bnd_some, bnd_some, br_true, br_true, put_first hN _ (by omega)]
  simp only [e]
end Go.Proofs.YtefbpbkjijbepaaDoor


/- What functions of the program compute, as plain functions (printed). -/
namespace Go.Proofs.YtefbpbkjijbepaaDoor
open Go Go.RowKit
set_option maxRecDepth 100000
set_option linter.unusedVariables false
noncomputable section
def law1_awake (N : Nat) : Option Bool :=
  bnd (blob_Digest N ([] : List UInt8)) fun t1 =>
  some (t1 == ([99, 98, 102, 50, 57, 99, 101, 52, 56, 52, 50, 50, 50, 51, 50, 53] : Str))
abbrev law1_awake_sg (f : SV [] → BV [] → Option (Bool)) : AF := { ps := [], bs := [], rs := [.v .bool], cs := [], R := Bool, out := fun z => ((z, ()), ()), f := f }
abbrev law1_awake_pk : SV [.v .bool] → BV [] → Bool := fun x _ => x.1
def law1_awake_fn (N : Nat) : FuncId → Option Tmp → Option AF := fun f _ =>
  match f with
    | 21 => some (blob_Digest_sg fun x _ => blob_Digest N x.1)
    | _ => none
theorem law1_awake_fn_ok (N : Nat) : ∀ f q F, law1_awake_fn N f q = some F → Sound Tryd.prog GW B0G f F := by
  intro f q F h
  unfold law1_awake_fn at h
  split at h
  · cases h; exact blob_Digest_sound N
  · cases h
def law1_awake_h : Nat → Hint := fun i =>
  match i with
  | _ => ⟨[], [], [], [], [], []⟩
abbrev law1_awake_E (N : Nat) : Env := mkE law1_awake_h (law1_awake_fn N) (fun _ => false) (fun _ => false)
noncomputable def law1_awake_LP (N : Nat) : Nat → Code → St → (Ex → St → Option Bool) → Option Bool := fun i c =>
  match i with
  | i => fun st k => iter (law1_awake_h i) (exec (law1_awake_E N) N c i) N st k
theorem law1_awake_core (N : Nat) (x : SV []) (y : BV []) : runL (law1_awake_E N) Tryd.f9 (law1_awake_sg fun _ _ => law1_awake N) law1_awake_pk (law1_awake_LP N) x y = law1_awake N := by kernel_rfl
theorem law1_awake_sound (N : Nat) : Sound Tryd.prog GW B0G 9 (law1_awake_sg fun _ _ => law1_awake N) :=
  runD_sound (mkE_ok law1_awake_h (law1_awake_fn N) _ _ (law1_awake_fn_ok N)) Tryd.func9 rfl Tryd.call9 (law1_awake_sg fun _ _ => law1_awake N) law1_awake_pk (fun _ _ => rfl) N (fun x y _ h => ((runL_eq (law1_awake_E N) N Tryd.f9 (law1_awake_sg fun _ _ => law1_awake N) law1_awake_pk (law1_awake_LP N) (show LoopsOk (law1_awake_LP N) (law1_awake_E N) N (resD (law1_awake_E N) Tryd.f9 (law1_awake_sg fun _ _ => law1_awake N) law1_awake_pk) [] from trivial) x y).trans (law1_awake_core N x y)).trans h)
def law1_BlobTreesMatchSpec (N : Nat) (x0 : List (Str × Bool × List UInt8)) : Option Bool :=
  bnd (blob_TreeOf N x0) fun t11 =>
  bnd (ref1_TreeOf N x0) fun t17 =>
  bnd (blob_CheckFiles N x0) fun t22 =>
  bnd (ref1_CheckFiles N x0) fun t24 =>
  br (t22 == t24)
    (br (t11.1 == t17.1)
      (bnd (ref1_SameObjects N t11.2.2 t17.2.1) fun t34 =>
      br (t34)
        (br (t11.2.1 == t17.2.2)
          (bnd (law1_awake N) fun t42 =>
          some t42)
          (some false))
        (some false))
      (some false))
    (some false)
abbrev law1_BlobTreesMatchSpec_sg (f : SV [.v (.sl (.pr .str (.pr .bool (.sl .u8))))] → BV [] → Option (Bool)) : AF := { ps := [.v (.sl (.pr .str (.pr .bool (.sl .u8))))], bs := [], rs := [.v .bool], cs := [], R := Bool, out := fun z => ((z, ()), ()), f := f }
abbrev law1_BlobTreesMatchSpec_pk : SV [.v .bool] → BV [] → Bool := fun x _ => x.1
def law1_BlobTreesMatchSpec_fn (N : Nat) : FuncId → Option Tmp → Option AF := fun f _ =>
  match f with
    | 4 => some (blob_TreeOf_sg fun x _ => blob_TreeOf N x.1)
    | 5 => some (ref1_TreeOf_sg fun x _ => ref1_TreeOf N x.1)
    | 6 => some (blob_CheckFiles_sg fun x _ => blob_CheckFiles N x.1)
    | 7 => some (ref1_CheckFiles_sg fun x _ => ref1_CheckFiles N x.1)
    | 8 => some (ref1_SameObjects_sg fun x _ => ref1_SameObjects N x.1 x.2.1)
    | 9 => some (law1_awake_sg fun _ _ => law1_awake N)
    | _ => none
theorem law1_BlobTreesMatchSpec_fn_ok (N : Nat) : ∀ f q F, law1_BlobTreesMatchSpec_fn N f q = some F → Sound Tryd.prog GW B0G f F := by
  intro f q F h
  unfold law1_BlobTreesMatchSpec_fn at h
  split at h
  · cases h; exact blob_TreeOf_sound N
  · cases h; exact ref1_TreeOf_sound N
  · cases h; exact blob_CheckFiles_sound N
  · cases h; exact ref1_CheckFiles_sound N
  · cases h; exact ref1_SameObjects_sound N
  · cases h; exact law1_awake_sound N
  · cases h
def law1_BlobTreesMatchSpec_h : Nat → Hint := fun i =>
  match i with
  | _ => ⟨[], [], [], [], [], []⟩
abbrev law1_BlobTreesMatchSpec_E (N : Nat) : Env := mkE law1_BlobTreesMatchSpec_h (law1_BlobTreesMatchSpec_fn N) (fun _ => false) (fun _ => false)
noncomputable def law1_BlobTreesMatchSpec_LP (N : Nat) : Nat → Code → St → (Ex → St → Option Bool) → Option Bool := fun i c =>
  match i with
  | i => fun st k => iter (law1_BlobTreesMatchSpec_h i) (exec (law1_BlobTreesMatchSpec_E N) N c i) N st k
theorem law1_BlobTreesMatchSpec_core (N : Nat) (x : SV [.v (.sl (.pr .str (.pr .bool (.sl .u8))))]) (y : BV []) : runL (law1_BlobTreesMatchSpec_E N) Tryd.f3 (law1_BlobTreesMatchSpec_sg fun x _ => law1_BlobTreesMatchSpec N x.1) law1_BlobTreesMatchSpec_pk (law1_BlobTreesMatchSpec_LP N) x y = law1_BlobTreesMatchSpec N x.1 := by kernel_rfl
theorem law1_BlobTreesMatchSpec_sound (N : Nat) : Sound Tryd.prog GW B0G 3 (law1_BlobTreesMatchSpec_sg fun x _ => law1_BlobTreesMatchSpec N x.1) :=
  runD_sound (mkE_ok law1_BlobTreesMatchSpec_h (law1_BlobTreesMatchSpec_fn N) _ _ (law1_BlobTreesMatchSpec_fn_ok N)) Tryd.func3 rfl Tryd.call3 (law1_BlobTreesMatchSpec_sg fun x _ => law1_BlobTreesMatchSpec N x.1) law1_BlobTreesMatchSpec_pk (fun _ _ => rfl) N (fun x y _ h => ((runL_eq (law1_BlobTreesMatchSpec_E N) N Tryd.f3 (law1_BlobTreesMatchSpec_sg fun x _ => law1_BlobTreesMatchSpec N x.1) law1_BlobTreesMatchSpec_pk (law1_BlobTreesMatchSpec_LP N) (show LoopsOk (law1_BlobTreesMatchSpec_LP N) (law1_BlobTreesMatchSpec_E N) N (resD (law1_BlobTreesMatchSpec_E N) Tryd.f3 (law1_BlobTreesMatchSpec_sg fun x _ => law1_BlobTreesMatchSpec N x.1) law1_BlobTreesMatchSpec_pk) [] from trivial) x y).trans (law1_BlobTreesMatchSpec_core N x y)).trans h)
end
end Go.Proofs.YtefbpbkjijbepaaDoor


/- The law of trees: CheckFiles and TreeOf are the same. -/
namespace Go.Proofs.YtefbpbkjijbepaaDoor
set_option linter.unusedVariables false
set_option linter.unusedSimpArgs false
open Go Go.RowKit
theorem erase_permO {α : Type} : ∀ (l : List α) (i : Nat) (hi : i < l.length), (l[i] :: l.eraseIdx i).Perm l
  | [], i, hi => absurd hi (Nat.not_lt_zero _)
  | a :: l, 0, hi => List.Perm.refl _
  | a :: l, i + 1, hi => by
    have := erase_permO l i (by simpa using hi)
    exact (List.Perm.swap _ _ _).trans (List.Perm.cons a this)
theorem range_objs {N : Nat} {k : List ObjD → Option (Str × Int × List ObjD)} {r : Str × Int × List ObjD} : ∀ (d : Nat) (m : List ObjD) (n : Nat) (w : List ObjD), m.length = d → d < n → w.length + d ≤ 1000000 → (∀ w' : List ObjD, w'.Perm (w ++ m) → k w' = some r) → blob_TreeOf_L0 N k n w m = some r := by
  intro d
  induction d with
  | zero =>
    intro m n w hm hn hw h
    obtain ⟨n, rfl⟩ : ∃ q, n = q + 1 := ⟨n - 1, by omega⟩
    obtain rfl : m = [] := List.eq_nil_of_length_eq_zero hm
    show blob_TreeOf_L0T _ _ _ _ _ = _
    unfold blob_TreeOf_L0T
    rw [List.isEmpty_nil, br_true]
    exact h w (by simp)
  | succ d ih =>
    intro m n w hm hn hw h
    obtain ⟨n, rfl⟩ : ∃ q, n = q + 1 := ⟨n - 1, by omega⟩
    have hne : m ≠ [] := fun e => by rw [e] at hm; cases hm
    show blob_TreeOf_L0T _ _ _ _ _ = _
    unfold blob_TreeOf_L0T
    rw [show m.isEmpty = false by cases m with | nil => exact absurd rfl hne | cons _ _ => rfl, br_false]
    refine allC_of hne fun i hi => ?_
    have hq : (m.eraseIdx i).length = d := by rw [List.length_eraseIdx_of_lt hi]; omega
    have hp : (m[i] :: m.eraseIdx i).Perm m := erase_permO m i hi
    rw [decide_eq_true (by rw [List.length_singleton, show Ty.sz (.pr .str (.sl .u8)) = 2 from rfl]; omega), br_true]
    refine ih _ n _ hq (by omega) (by simp; omega) fun w' hw' => h w' (hw'.trans ?_)
    rw [List.append_assoc]
    exact List.Perm.append_left w hp
theorem tame_of {l : List FileD} (h : FilesOk l) : Tame 201 l where
  good := good_of h
  len := h.len
  path := fun x hx => by have := pathB_len (h.ok.path x hx); omega
  deep := Nat.le_refl _
  byt := fun x hx => h.ok.few x hx
noncomputable def objsL (N : Nat) (l : List FileD) : List ObjD := (cont N 201 l).foldl (putW N) []
/-- What both TreeOf answer. -/
noncomputable def treeS (N : Nat) (l : List FileD) : Str × List ObjD × Int := if filesS l = 0 then (if (objsL N l).length ≤ 4000 then (dg N (txt N 201 l), objsL N l, 0) else ([], [], 2)) else ([], [], filesS l)
theorem treeOf_ok {N : Nat} (hN : big ≤ N) (l : List FileD) : blob_TreeOf N l = some ((treeS N l).1, (treeS N l).2.2, (treeS N l).2.1) ∧ ref1_TreeOf N l = some (treeS N l) := by
  have hb : big = 18446744073709551616 := rfl
  unfold blob_TreeOf ref1_TreeOf treeS
  rw [blob_CheckFiles_eq hN, ref_CheckFiles_eq hN, bnd_some, bnd_some]
  by_cases hf : filesS l = 0
  · rw [if_pos hf, hf]
    have ht := tame_of ((files_iff l).1 hf)
    have hs : SameO ((cont N 201 l).foldl (putM N) []) (objsL N l) := SameO.puts _ ⟨List.Perm.refl _, List.Pairwise.nil⟩
    have hsl := hs.perm.length_eq
    have hcl := cont_len (N := N) 201 l ht
    have h1 := ht.len
    have hml := puts_len (N := N) (cont N 201 l) []
    have hml2 : (objsL N l).length ≤ 202000 := by
      unfold objsL
      rw [List.length_nil] at hml
      omega
    rw [show ((0 : Int) != 0) = false from rfl, br_false, br_false, dir_ok hN 201 l ht N (by omega), write_top hN ht, bnd_some, bnd_some]
    show br (decide ((((cont N 201 l).foldl (putM N) []).length : Int) > 4000)) _ _ = _ ∧ br (decide (((objsL N l).length : Int) > 4000)) _ _ = _
    rw [← hsl]
    by_cases hmany : (objsL N l).length ≤ 4000
    · rw [if_pos hmany, decide_eq_false (by omega), br_false, br_false]
      have htx := text_ok hN 201 l ht N (by omega)
      have htl := htx.len
      constructor
      · dsimp only
        refine range_objs _ _ N [] rfl (by omega) (by rw [List.length_nil]; omega) fun w' hw' => ?_
        rw [List.nil_append] at hw'
        have hp : (objsL N l).Perm w' := hs.perm.trans hw'.symm
        have hnd : ((objsL N l).map fun p : ObjD => p.1).Nodup := by
          unfold List.Nodup
          rw [List.pairwise_map]
          exact hs.asc.imp fun {a b} h e => by rw [e] at h; exact str_lt_irrefl _ h
        have hnd2 : (w'.map fun p : ObjD => p.1).Nodup := (hp.map _).nodup_iff.1 hnd
        have hso := sort_uniqueK (key := fun p : ObjD => p.1) hnd2 hp (hs.asc.imp fun {a b} h h2 => str_lt_irrefl _ (str_lt_trans h h2))
        have hwl := hp.length_eq
        unfold slices_SortFunc_object sortK
        rw [if_pos ⟨by omega, hnd2⟩, bnd_some, ← hso]
      · unfold ref1_RootOf
        rw [htx.ref, bnd_some, decide_eq_true (by omega), br_true, (digs hN (by omega)).ref, bnd_some, bnd_some]
        rfl
    · rw [if_neg hmany, decide_eq_true (by omega), br_true, br_true]
      exact ⟨rfl, rfl⟩
  · rw [if_neg hf, show (filesS l != 0) = true by simpa using hf, br_true, br_true]
    exact ⟨rfl, rfl⟩
theorem sameObjs {N : Nat} (hN : big ≤ N) {w : List ObjD} (hw : w.length ≤ 1000000) : ref1_SameObjects N w w = some true := by
  have hb : big = 18446744073709551616 := rfl
  have key : ∀ (R P : List ObjD) (f : Nat), w = P ++ R → R.length < f → ref1_SameObjects_L0 N w w (some true) f (P.length : Int) = some true := by
    intro R
    induction R with
    | nil =>
      intro P f he hf
      obtain ⟨f, rfl⟩ : ∃ q, f = q + 1 := ⟨f - 1, by omega⟩
      rw [List.append_nil] at he
      rw [ref1_SameObjects_L0]
      unfold ref1_SameObjects_L0T
      rw [he, decide_eq_false (by omega), br_false]
    | cons x R ih =>
      intro P f he hf
      obtain ⟨f, rfl⟩ : ∃ q, f = q + 1 := ⟨f - 1, by omega⟩
      have hl : w.length = P.length + R.length + 1 := by rw [he, List.length_append, List.length_cons]; omega
      have hge : geti w (P.length : Int) = some x := by rw [he]; exact geti_app _ _ _
      have ih' := ih (P ++ [x]) f (by rw [he]; simp) (by rw [List.length_cons] at hf; omega)
      rw [List.length_append, List.length_singleton, Int.natCast_add] at ih'
      rw [ref1_SameObjects_L0]
      unfold ref1_SameObjects_L0T
      rw [decide_eq_true (by omega), br_true]
      simp only [hge, bnd_some, beq_self_eq_true, Bool.not_true, br_false, bytes_Equal]
      rw [w64 _ (by omega) (by omega)]
      exact ih'
  unfold ref1_SameObjects
  rw [bne_self_eq_false, br_false]
  exact key w [] N rfl (by omega)
theorem awake_nT (n : Nat) : law1_awake (n + 40) = some true := by kernel_rfl
theorem awake_okT {N : Nat} (hN : big ≤ N) : law1_awake N = some true := by
  have hb : (18446744073709551616 : Nat) ≤ N := hN
  obtain ⟨n, rfl⟩ : ∃ n, N = n + 40 := ⟨N - 40, by omega⟩
  exact awake_nT n
theorem law_trees {N : Nat} (hN : big ≤ N) (l : List FileD) : law1_BlobTreesMatchSpec N l = some true := by
  obtain ⟨h1, h2⟩ := treeOf_ok hN l
  have hl : (treeS N l).2.1.length ≤ 1000000 := by
    unfold treeS
    split
    · split
      · dsimp only; omega
      · exact Nat.zero_le _
    · exact Nat.zero_le _
  unfold law1_BlobTreesMatchSpec
  rw [h1, h2, blob_CheckFiles_eq hN, ref_CheckFiles_eq hN]
  simp only [bnd_some, beq_self_eq_true, br_true, sameObjs hN hl, awake_okT hN]
theorem plain_BlobTreesMatchSpec (x0 : List FileD) (_ : Fit (.sl fT) x0) : ∃ N, law1_BlobTreesMatchSpec N x0 = some true := ⟨big, law_trees (Nat.le_refl _) x0⟩
end Go.Proofs.YtefbpbkjijbepaaDoor

