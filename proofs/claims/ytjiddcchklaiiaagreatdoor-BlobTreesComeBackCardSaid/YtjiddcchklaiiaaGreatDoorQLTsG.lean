/- The trees, read again, plainly: a directory and all that is in it. -/
import Derived.Test.YtjiddcchklaiiaaGreatDoorQLTsC
import Derived.Test.YtjiddcchklaiiaaGreatDoorQBmSo
import Derived.Test.YtjiddcchklaiiaaGreatDoorQAsc
namespace Go.Proofs.YtjiddcchklaiiaaGreatDoor
set_option linter.unusedVariables false
set_option linter.unusedSimpArgs false
open Go Go.RowKit
def PartsOk (l : List FileD) : Prop := ∀ x ∈ l, ∀ p ∈ splitC 47 x.1, partP p = true
theorem parts_within {l : List FileD} (h : PartsOk l) {nm : Str} (hn : (47 : UInt8) ∉ nm) : PartsOk (within nm l) := fun y hy p hp => by
 obtain ⟨x, hx, e, _⟩ := within_mem2 hy
 refine h x hx p ?_
 rw [e, List.append_assoc, List.singleton_append, splitC_app hn]
 exact List.mem_cons_of_mem _ hp
theorem parts_name {d : Nat} {l : List FileD} (ht : Tame d l) (h : PartsOk l) {nd : NodeD} (hn : NodeOk l nd) : partP nd.1 = true := by
 obtain ⟨hno, ⟨x, hx, e, _⟩ | ⟨hw, _⟩⟩ := hn
 · refine h x hx nd.1 ?_
   rw [e, splitC_no hno]
   exact List.mem_singleton.2 rfl
 · obtain ⟨y, hy⟩ := List.exists_mem_of_ne_nil _ hw
   obtain ⟨x, hx, e, _⟩ := within_mem2 hy
   refine h x hx nd.1 ?_
   rw [e, List.append_assoc, List.singleton_append, splitC_app hno]
   exact List.mem_cons_self
theorem txt_nil (N : Nat) : ∀ d, txt N d [] = []
 | 0 => rfl
 | d + 1 => by rw [txt, nodesL_nil]; rfl
theorem node_read {N : Nat} (hN : big ≤ N) {d : Nat} {l : List FileD} (ht : Tame (d + 1) l) (h : PartsOk l) {nd : NodeD} (hnd : nd ∈ nodesL l) : NdR (txt N d) nd := by
 have hb : big = 18446744073709551616 := rfl
 have hok := ht.tn.ok nd hnd
 have hdp := ht.deep
 refine ⟨name_len ht hok, parts_name ht h hok, fun x e => ?_, ?_⟩
 · rcases node_cases ht hnd with ⟨y, hy, e2, _⟩ | ⟨e2, _⟩
   · rw [e] at e2; cases e2; exact ht.byt x hy
   · rw [e] at e2; cases e2
 · rcases hok.2 with ⟨x, _, _, e⟩ | ⟨_, e⟩
   · rw [e]; dsimp only; rw [txt_nil]; exact Nat.zero_le _
   · have e2 : nd.2.2 = within nd.1 l := by rw [e]
     rw [e2]
     have := (text_ok hN d _ (ht.within nd.1) N (by omega)).len
     omega
noncomputable def ents (N : Nat) : Nat → List FileD → List EntD
 | 0, _ => []
 | d + 1, l => (nodesL l).map (entT N (txt N d))
theorem readDir_ok {N : Nat} (hN : big ≤ N) : ∀ (d : Nat) (l : List FileD), Tame d l → PartsOk l → blob_readDir N (txt N d l) = some (true, ents N d l)
 | 0, l, _, _ => by
   have hb : big = 18446744073709551616 := rfl
   obtain ⟨n, rfl⟩ : ∃ n, N = n + 1 := ⟨N - 1, by omega⟩
   unfold blob_readDir
   rw [z40L0]
   unfold z40L0T
   rw [txt, show ((([] : Str) == []) : Bool) = true from rfl, Bool.not_true, br_false]
   rfl
 | d + 1, l, ht, hp => by
   have hb : big = 18446744073709551616 := rfl
   have h1 := ht.len
   have hlen := tn_len ht.tn
   have := readDir_loop hN (tx := txt N d) (fun o => some (true, o)) (nodesL l) [] N (fun nd hnd => node_read hN ht hp hnd) ht.tn.asc (by rw [List.nil_append]; omega) (by omega)
   unfold blob_readDir
   rw [txt]
   exact this
def flsN (r : Str → List FileD → List FileD) (path : Str) (nd : NodeD) : List FileD := match nd.2.1 with
 | some x => [(path ++ nd.1, x.2)]
 | none => r (path ++ nd.1 ++ [47]) nd.2.2
noncomputable def fls : Nat → Str → List FileD → List FileD
 | 0, _, _ => []
 | d + 1, path, l => (nodesL l).flatMap (flsN (fls d) path)
structure DirR (N : Nat) (O : List ObjD) (r : Option (Int × List ObjD × List FileD)) (acc fl : List FileD) (C : List (List UInt8)) : Prop where
 all : (∀ c ∈ C, lookO O (dg N c) = some c) → r = some (0, O, acc ++ fl)
 none : (∃ c ∈ C, lookO O (dg N c) = none) → ∃ acc', r = some (9, O, acc')
theorem dir_rloop {N : Nat} (hN : big ≤ N) {O : List ObjD} (hO : AscO O) (hOl : O.length ≤ 1000000) {r : Str → Str → List ObjD → List FileD → Option (Int × List ObjD × List FileD)} {tx : List FileD → Str} {cc : List FileD → List (List UInt8)} {fl : Str → List FileD → List FileD} {path : Str} (hpath : path.length ≤ 200)
   (k : List ObjD → List FileD → Option (Int × List ObjD × List FileD)) :
   ∀ (R P : List NodeD) (acc : List FileD) (fuel : Nat), P.length + R.length ≤ 1000000 → R.length < fuel → acc.length + (R.map wgt).sum ≤ 1000 →
     (∀ nd ∈ R, nd.1.length ≤ 200 ∧ ((∃ x, nd.2.1 = some x ∧ path.length + nd.1.length ≤ 200 ∧ x.2.2.length ≤ 100000) ∨ (nd.2.1 = none ∧ ∀ acc : List FileD, acc.length + nd.2.2.length ≤ 1000 → DirR N O (r (dg N (tx nd.2.2)) (path ++ nd.1 ++ [47]) O acc) acc (fl (path ++ nd.1 ++ [47]) nd.2.2) (cc nd.2.2) ∧ (fl (path ++ nd.1 ++ [47]) nd.2.2).length = nd.2.2.length))) →
     (∀ nd ∈ R, ∀ c ∈ contN cc nd, lookO O (dg N c) = some c ∨ lookO O (dg N c) = none) →
     ((∀ nd ∈ R, ∀ c ∈ contN cc nd, lookO O (dg N c) = some c) → z12L0 N r path (((P ++ R).map (entT N tx)).length : Int) ((P ++ R).map (entT N tx)) k fuel (P.length : Int) O acc = k O (acc ++ R.flatMap (flsN fl path))) ∧
     ((∃ nd ∈ R, ∃ c ∈ contN cc nd, lookO O (dg N c) = none) → ∃ acc', z12L0 N r path (((P ++ R).map (entT N tx)).length : Int) ((P ++ R).map (entT N tx)) k fuel (P.length : Int) O acc = some (9, O, acc'))
 | [], P, acc, f + 1, _, _, _, _, _ => by
   refine ⟨fun _ => ?_, fun ⟨nd, hnd, _⟩ => absurd hnd List.not_mem_nil⟩
   rw [z12L0]
   unfold z12L0T
   rw [decide_eq_false (by simp), br_false]
   simp
 | nd :: R, P, acc, f + 1, h1, h2, h3, hR, hH => by
   rw [List.map_cons, List.sum_cons] at h3
   have ih := fun acc' ha => dir_rloop hN hO hOl (r := r) (tx := tx) (cc := cc) (fl := fl) hpath k R (P ++ [nd]) acc' f (by simp at h1 ⊢; omega) (by simp at h2; omega) ha (fun x hx => hR x (List.mem_cons_of_mem _ hx)) (fun x hx => hH x (List.mem_cons_of_mem _ hx))
   rw [List.length_cons] at h1 h2
   have hpl : (P ++ [nd]).length = P.length + 1 := by rw [List.length_append, List.length_singleton]
   rw [List.append_assoc, List.singleton_append, hpl] at ih
   have hnext : IntKind.i64.wrap ((P.length : Int) + 1) = ((P.length + 1 : Nat) : Int) := by rw [w64 _ (by omega) (by omega)]; omega
   have hge : geti ((P ++ nd :: R).map (entT N tx)) (P.length : Int) = some (entT N tx nd) := by
     rw [List.map_append, List.map_cons]
     exact geti_at _ _ _ _ (by rw [List.length_map])
   have hlt : decide ((P.length : Int) < (((P ++ nd :: R).map (entT N tx)).length : Int)) = true := decide_eq_true (by rw [List.length_map, List.length_append, List.length_cons]; omega)
   have hsz : Ty.sz (.pr .str (.pr .bool (.sl .u8))) = 3 := rfl
   obtain ⟨h0, hcase⟩ := hR nd List.mem_cons_self
   have hnd := hH nd List.mem_cons_self
   rw [z12L0]
   unfold z12L0T
   rw [hlt, br_true, hge, bnd_some, hnext]
   rcases hcase with ⟨x, e, hpn, hb⟩ | ⟨e, hr⟩
   · have ec : contN cc nd = [x.2.2] := by unfold contN; rw [e]
     have ef : flsN fl path nd = [(path ++ nd.1, x.2)] := by unfold flsN; rw [e]
     have ee : entT N tx nd = (nd.1, dg N x.2.2, false, x.2.1) := by unfold entT; rw [e]
     have ew : wgt nd = 1 := by unfold wgt; rw [e]
     rw [ew] at h3
     rw [ec] at hnd
     rw [ee]
     dsimp only
     rw [br_false, find_ok hN hOl hO]
     rcases hnd _ (List.mem_singleton.2 rfl) with hF | hG
     · rw [hF]
       have hcl := clone_ok (N := N) (b := x.2.2) (by omega)
       have d1 : decide (path.length + nd.1.length ≤ 9223372036854775807) = true := decide_eq_true (by omega)
       have d2 : decide ((acc.length + [(path ++ nd.1, (x.2.1, x.2.2))].length) * (24 * Ty.sz (.pr .str (.pr .bool (.sl .u8)))) ≤ 140737488355328) = true := decide_eq_true (by rw [hsz, List.length_singleton]; omega)
       have d3 : decide (IntKind.i64.wrap ((path.length : Int) + (nd.1.length : Int)) > 200) = false := by rw [w64 _ (by omega) (by omega)]; exact decide_eq_false (by omega)
       have d4 : decide ((acc.length : Int) ≥ 1000) = false := decide_eq_false (by omega)
       simp only [bnd_some, Bool.not_true, br_false, d3, d4, d1, d2, hcl, br_true, both_self, times_eq]
       obtain ⟨i1, i2⟩ := ih (acc ++ [(path ++ nd.1, x.2)]) (by rw [List.length_append, List.length_singleton]; omega)
       refine ⟨fun hall => ?_, fun ⟨nd', hnd', c, hc, hcn⟩ => ?_⟩
       · rw [List.flatMap_cons, ef, ← List.append_assoc]
         exact i1 fun y hy => hall y (List.mem_cons_of_mem _ hy)
       · rcases List.mem_cons.1 hnd' with rfl | hnd'
         · rw [ec, List.mem_singleton] at hc
           rw [hc, hF] at hcn; cases hcn
         · exact i2 ⟨nd', hnd', c, hc, hcn⟩
     · rw [hG]
       simp only [bnd_some, Bool.not_false, br_true]
       refine ⟨fun hall => ?_, fun _ => ⟨acc, rfl⟩⟩
       have := hall nd List.mem_cons_self x.2.2 (by rw [ec]; exact List.mem_singleton.2 rfl)
       rw [hG] at this; cases this
   · have ec : contN cc nd = cc nd.2.2 := by unfold contN; rw [e]
     have ef : flsN fl path nd = fl (path ++ nd.1 ++ [47]) nd.2.2 := by unfold flsN; rw [e]
     have ee : entT N tx nd = (nd.1, dg N (tx nd.2.2), true, false) := by unfold entT; rw [e]
     have ew : wgt nd = nd.2.2.length := by unfold wgt; rw [e]
     rw [ew] at h3
     rw [ec] at hnd
     obtain ⟨hd, hfl⟩ := hr acc (by omega)
     have d1 : decide (path.length + nd.1.length ≤ 9223372036854775807) = true := decide_eq_true (by omega)
     have d2 : decide ((path ++ nd.1).length + ([47] : Str).length ≤ 9223372036854775807) = true := decide_eq_true (by rw [List.length_append, List.length_singleton]; omega)
     rw [ee]
     dsimp only
     rw [br_true, d1, br_true, d2, br_true]
     by_cases hall : ∀ c ∈ cc nd.2.2, lookO O (dg N c) = some c
     · rw [hd.all hall, bnd_some]
       dsimp only
       rw [show ((0 : Int) != 0) = false from rfl, br_false]
       obtain ⟨i1, i2⟩ := ih (acc ++ fl (path ++ nd.1 ++ [47]) nd.2.2) (by rw [List.length_append, hfl]; omega)
       refine ⟨fun hall' => ?_, fun ⟨nd', hnd', c, hc, hcn⟩ => ?_⟩
       · rw [List.flatMap_cons, ef, ← List.append_assoc]
         exact i1 fun y hy => hall' y (List.mem_cons_of_mem _ hy)
       · rcases List.mem_cons.1 hnd' with rfl | hnd'
         · rw [ec] at hc
           rw [hall c hc] at hcn; cases hcn
         · exact i2 ⟨nd', hnd', c, hc, hcn⟩
     · obtain ⟨c, hc, hcn⟩ : ∃ c ∈ cc nd.2.2, lookO O (dg N c) = none := by
         apply Classical.byContradiction
         intro hno
         refine hall fun c hc => ?_
         rcases hnd c hc with h | h
         · exact h
         · exact absurd ⟨c, hc, h⟩ hno
       obtain ⟨acc', ha⟩ := hd.none ⟨c, hc, hcn⟩
       rw [ha, bnd_some]
       dsimp only
       rw [show ((9 : Int) != 0) = true from rfl, br_true]
       refine ⟨fun hall' => absurd (fun c hc => hall' nd List.mem_cons_self c (by rw [ec]; exact hc)) hall, fun _ => ⟨acc', rfl⟩⟩
theorem fls_len : ∀ (d : Nat) (path : Str) (l : List FileD), Tame d l → (fls d path l).length = l.length
 | 0, path, l, h => by rw [h.zero]; rfl
 | d + 1, path, l, h => by
   rw [fls, ← wgt_all h]
   have : ∀ T : List NodeD, (∀ nd ∈ T, nd ∈ nodesL l) → (T.flatMap (flsN (fls d) path)).length = (T.map wgt).sum := by
     intro T
     induction T with
     | nil => intro _; rfl
     | cons nd T ih =>
       intro hT
       rw [List.flatMap_cons, List.length_append, List.map_cons, List.sum_cons, ih fun x hx => hT x (List.mem_cons_of_mem _ hx)]
       congr 1
       unfold flsN wgt
       rcases node_cases h (hT nd List.mem_cons_self) with ⟨x, _, e, _⟩ | ⟨e, _, _, ht⟩
       · rw [e]; rfl
       · rw [e]; exact fls_len d _ _ ht
   exact this _ fun _ h => h
theorem nodes_ne {d : Nat} {l : List FileD} (h : Tame d l) : nodesL l = [] ↔ l = [] := by
 constructor
 · intro e
   have := wgt_all h
   rw [e] at this
   exact List.eq_nil_of_length_eq_zero (by simpa using this.symm)
 · rintro rfl; exact nodesL_nil
theorem dir_read {N : Nat} (hN : big ≤ N) {O : List ObjD} (hO : AscO O) (hOl : O.length ≤ 1000000) : ∀ (d : Nat) (l : List FileD), Tame d l → PartsOk l → (∀ c ∈ cont N d l, lookO O (dg N c) = some c ∨ lookO O (dg N c) = none) →
   ∀ (f : Nat) (path : Str) (acc : List FileD), d < f → (path = [] ∨ l ≠ []) → path.length ≤ 200 → (∀ x ∈ l, path.length + x.1.length ≤ 200) → acc.length + l.length ≤ 1000 → DirR N O (blob_treeReader_dir N f (dg N (txt N d l)) path O acc) acc (fls d path l) (cont N d l)
 | 0, l, ht, hp, hH, f + 1, path, acc, _, hpe, hpl, hx, ha => by
   have hb : big = 18446744073709551616 := rfl
   have hr := readDir_ok hN 0 l ht hp
   obtain rfl := ht.zero
   have hpe : path = [] := by rcases hpe with h | h; exact h; exact absurd rfl h
   subst hpe
   obtain ⟨i1, i2⟩ := dir_rloop hN hO hOl (r := blob_treeReader_dir N f) (tx := txt N 0) (cc := cont N 0) (fl := fls 0) (path := []) (by simp) (fun o a => some (0, o, a)) [] [] acc N (by simp) (by simp; omega) (by simpa using ha) (fun nd hnd => absurd hnd List.not_mem_nil) (fun nd hnd => absurd hnd List.not_mem_nil)
   have hc : (txt N 0 [] : Str) ∈ cont N 0 [] := by rw [cont, txt]; exact List.mem_singleton.2 rfl
   have hco : ∀ c ∈ cont N 0 [], c = txt N 0 [] := fun c h => by rw [cont, List.mem_singleton] at h; rw [h]; rfl
   have hgo : lookO O (dg N (txt N 0 [])) = some (txt N 0 []) → blob_treeReader_dir N (f + 1) (dg N (txt N 0 [])) [] O acc = some (0, O, acc) := fun hF => by
     show blob_treeReader_dir_b N (blob_treeReader_dir N f) _ _ _ _ = _
     unfold blob_treeReader_dir_b
     rw [find_ok hN hOl hO, hF]
     dsimp only
     rw [bnd_some, Bool.not_true, br_false, hr, bnd_some]
     dsimp only
     rw [Bool.not_true, br_false]
     have := i1 (fun nd hnd => absurd hnd List.not_mem_nil)
     simp only [List.append_nil, List.flatMap_nil] at this
     rw [show ((([] : Str) == []) : Bool) = true from rfl, Bool.not_true, br_false]
     have h2 : ents N 0 [] = [] := rfl
     rw [h2]
     rw [show (((([] : List EntD).length : Nat) : Int) == 0) = true from rfl, br_true]
     exact this
   refine ⟨fun hall => ?_, fun ⟨c, hc', hcn⟩ => ⟨acc, ?_⟩⟩
   · rw [hgo (hall _ hc)]
     simp [fls]
   · rw [hco c hc'] at hcn
     show blob_treeReader_dir_b N (blob_treeReader_dir N f) _ _ _ _ = _
     unfold blob_treeReader_dir_b
     rw [find_ok hN hOl hO, hcn]
     dsimp only
     rw [bnd_some, Bool.not_false, br_true]
 | d + 1, l, ht, hp, hH, f + 1, path, acc, hdf, hpe, hpl, hx, ha => by
   have hb : big = 18446744073709551616 := rfl
   have hr := readDir_ok hN (d + 1) l ht hp
   have h1 := ht.len
   have hlen := tn_len ht.tn
   have hcm : ∀ nd ∈ nodesL l, ∀ c ∈ contN (cont N d) nd, c ∈ cont N (d + 1) l := fun nd hnd c hc => by
     rw [cont]
     exact List.mem_cons_of_mem _ (List.mem_flatMap.2 ⟨nd, hnd, hc⟩)
   have htm : txt N (d + 1) l ∈ cont N (d + 1) l := by rw [cont]; exact List.mem_cons_self
   obtain ⟨i1, i2⟩ := dir_rloop hN hO hOl (r := blob_treeReader_dir N f) (tx := txt N d) (cc := cont N d) (fl := fls d) (path := path) hpl (fun o a => some (0, o, a)) (nodesL l) [] acc N (by simp; omega) (by omega) (by rw [wgt_all ht]; exact ha) (fun nd hnd => by
     have hok := ht.tn.ok nd hnd
     refine ⟨name_len ht hok, ?_⟩
     rcases node_cases ht hnd with ⟨x, hxm, e, e1⟩ | ⟨e, e2, hne, htw⟩
     · exact .inl ⟨x, e, by rw [← e1]; exact hx x hxm, ht.byt x hxm⟩
     · refine .inr ⟨e, fun acc' ha' => ?_⟩
       have hxs : ∀ y ∈ nd.2.2, path.length + nd.1.length + 1 + y.1.length ≤ 200 := fun y hy => by
         rw [e2] at hy
         obtain ⟨x, hxm, e3, _⟩ := within_mem2 hy
         have := hx x hxm
         rw [e3, List.length_append, List.length_append, List.length_singleton] at this
         omega
       refine ⟨dir_read hN hO hOl d nd.2.2 htw (by rw [e2]; exact parts_within hp hok.1) (fun c hc => hH c (hcm nd hnd c (by unfold contN; rw [e]; exact hc))) f _ acc' (by omega) (.inr hne) ?_ (fun y hy => ?_) ha', fls_len d _ _ htw⟩
       · obtain ⟨y, hy⟩ := List.exists_mem_of_ne_nil _ hne
         have := hxs y hy
         simp only [List.length_append, List.length_singleton]
         omega
       · have := hxs y hy
         simp only [List.length_append, List.length_singleton]
         omega) (fun nd hnd c hc => hH c (hcm nd hnd c hc))
   have hgo : lookO O (dg N (txt N (d + 1) l)) = some (txt N (d + 1) l) → blob_treeReader_dir N (f + 1) (dg N (txt N (d + 1) l)) path O acc = z12L0 N (blob_treeReader_dir N f) path ((([] ++ nodesL l).map (entT N (txt N d))).length : Int) (([] ++ nodesL l).map (entT N (txt N d))) (fun o a => some (0, o, a)) N ((([] : List NodeD).length : Nat) : Int) O acc := fun hF => by
     show blob_treeReader_dir_b N (blob_treeReader_dir N f) _ _ _ _ = _
     unfold blob_treeReader_dir_b
     rw [find_ok hN hOl hO, hF]
     dsimp only
     rw [bnd_some, Bool.not_true, br_false, hr, bnd_some]
     dsimp only
     rw [Bool.not_true, br_false]
     have h2 : ents N (d + 1) l = ([] ++ nodesL l).map (entT N (txt N d)) := rfl
     rw [h2]
     by_cases h0 : (((([] ++ nodesL l).map (entT N (txt N d))).length : Int) == 0) = true
     · rw [h0, br_true]
       have hnl : l = [] := (nodes_ne ht).1 (List.eq_nil_of_length_eq_zero (by simpa using h0))
       have hpe : path = [] := by rcases hpe with h | h; exact h; exact absurd hnl h
       rw [hpe, show ((([] : Str) == []) : Bool) = true from rfl, Bool.not_true, br_false]
       rfl
     · rw [Bool.eq_false_iff.2 h0, br_false]
       rfl
   refine ⟨fun hall => ?_, fun ⟨c, hc', hcn⟩ => ?_⟩
   · rw [hgo (hall _ htm), i1 fun nd hnd c hc => hall c (hcm nd hnd c hc)]
     rfl
   · rcases hH _ htm with hF | hG
     · rw [hgo hF]
       rw [cont] at hc'
       rcases List.mem_cons.1 hc' with rfl | hc'
       · rw [hF] at hcn; cases hcn
       · obtain ⟨nd, hnd, hc'⟩ := List.mem_flatMap.1 hc'
         exact i2 ⟨nd, hnd, c, hc', hcn⟩
     · refine ⟨acc, ?_⟩
       show blob_treeReader_dir_b N (blob_treeReader_dir N f) _ _ _ _ = _
       unfold blob_treeReader_dir_b
       rw [find_ok hN hOl hO, hG]
       dsimp only
       rw [bnd_some, Bool.not_false, br_true]
end Go.Proofs.YtjiddcchklaiiaaGreatDoor


/- The trees, read again, plainly: FilesOf. -/
namespace Go.Proofs.YtjiddcchklaiiaaGreatDoor
set_option linter.unusedVariables false
set_option linter.unusedSimpArgs false
open Go Go.RowKit
def allN (nd : NodeD) : List FileD := match nd.2.1 with
 | some x => [x]
 | none => nd.2.2.map fun y => (nd.1 ++ [47] ++ y.1, y.2)
theorem flat_step (ns : List NodeD) (x : FileD) : (nodeStep ns x).flatMap allN = ns.flatMap allN ++ [x] := by
 unfold nodeStep
 dsimp only
 rcases cut47 x.1 with ⟨hc, _⟩ | ⟨p, q, hc, he, _⟩
 · rw [hc]
   simp [allN]
 · rw [hc]
   have hx : (p ++ 47 :: q, x.2) = x := by rw [← he]
   simp only [Bool.true_eq_false, if_false]
   split
   · rename_i nd h
     have hns : ns = ns.dropLast ++ [nd] := by
       obtain ⟨hne, e⟩ := List.getLast?_eq_some_iff.1 h
       rw [e]; simp
     split
     · rename_i hc2
       have e : ns.flatMap allN = ns.dropLast.flatMap allN ++ nd.2.2.map fun y => (nd.1 ++ [47] ++ y.1, y.2) := by
         conv => lhs; rw [hns]
         simp [allN, hc2.2]
       rw [e]
       simp only [List.flatMap_append, List.flatMap_cons, List.flatMap_nil, List.append_nil, allN, List.map_append, List.map_cons, List.map_nil, List.append_assoc]
       rw [hc2.1]
       simp [hx]
     · simp [allN, hx]
   · simp [allN, hx]
theorem flat_fold : ∀ (l : List FileD) (ns : List NodeD), (l.foldl nodeStep ns).flatMap allN = ns.flatMap allN ++ l
 | [], ns => by simp
 | x :: l, ns => by rw [List.foldl_cons, flat_fold l, flat_step]; simp
theorem perm_flat {α β : Type} {f g : α → List β} : ∀ {l : List α}, (∀ a ∈ l, (f a).Perm (g a)) → (l.flatMap f).Perm (l.flatMap g)
 | [], _ => List.Perm.refl _
 | a :: l, h => by
   rw [List.flatMap_cons, List.flatMap_cons]
   exact (h a List.mem_cons_self).append (perm_flat fun x hx => h x (List.mem_cons_of_mem _ hx))
theorem fls_perm : ∀ (d : Nat) (path : Str) (l : List FileD), Tame d l → (fls d path l).Perm (l.map fun x => (path ++ x.1, x.2))
 | 0, path, l, h => by rw [h.zero]; exact List.Perm.refl _
 | d + 1, path, l, h => by
   rw [fls]
   have h1 : ((nodesL l).flatMap (flsN (fls d) path)).Perm ((nodesL l).flatMap fun nd => (allN nd).map fun x => (path ++ x.1, x.2)) := by
     refine perm_flat fun nd hnd => ?_
     unfold flsN allN
     rcases node_cases h hnd with ⟨x, _, e, e1⟩ | ⟨e, _, _, ht⟩
     · rw [e, ← e1]
       exact List.Perm.refl _
     · rw [e]
       have := fls_perm d (path ++ nd.1 ++ [47]) _ ht
       simp only [List.map_map, Function.comp_def]
       simpa [List.append_assoc] using this
   refine h1.trans ?_
   have h2 : ((nodesL l).flatMap fun nd => (allN nd).map fun x => (path ++ x.1, x.2)) = ((nodesL l).flatMap allN).map fun x => (path ++ x.1, x.2) := by rw [List.map_flatMap]
   rw [h2]
   have h3 := flat_fold l []
   rw [List.flatMap_nil, List.nil_append] at h3
   have h4 : ((nodesL l).flatMap allN).Perm l := by
     have := (tn_perm h.tn).flatMap_right allN
     rwa [h3] at this
   exact h4.map _
theorem checkObjs_ok {N : Nat} (hN : big ≤ N) {O : List ObjD} (h1 : O.length ≤ 4000) (ha : AscO O) (hd : ∀ x ∈ O, x.1 = dg N x.2 ∧ x.2.length ≤ 225000) : blob_CheckObjects N O = some 0 := by
 have hb : big = 18446744073709551616 := rfl
 have key : ∀ (m i f : Nat), O.length - i = m → i ≤ O.length → m < f → z16L0 N O O (O.length : Int) (some 0) f (i : Int) = some 0 := by
   intro m
   induction m with
   | zero =>
     intro i f h2 h3 h4
     obtain ⟨f, rfl⟩ : ∃ q, f = q + 1 := ⟨f - 1, by omega⟩
     rw [z16L0]
     unfold z16L0T
     rw [decide_eq_false (by omega), br_false]
   | succ m ih =>
     intro i f h2 h3 h4
     obtain ⟨f, rfl⟩ : ∃ q, f = q + 1 := ⟨f - 1, by omega⟩
     have hi : i < O.length := by omega
     obtain ⟨h5, h6⟩ := hd _ (List.getElem_mem hi)
     have hn : IntKind.i64.wrap ((i : Int) + 1) = ((i + 1 : Nat) : Int) := by rw [w64 _ (by omega) (by omega)]; omega
     have ih' := ih (i + 1) f (by omega) (by omega) (by omega)
     rw [z16L0]
     unfold z16L0T
     rw [decide_eq_true (by omega), br_true, geti_lt O hi, bnd_some, (digs hN (by omega)).blob, bnd_some, show (O[i].1 == dg N O[i].2) = true by simpa using h5, Bool.not_true, br_false, decide_eq_false (by omega), br_false, hn]
     by_cases h0 : i = 0
     · rw [decide_eq_false (by omega), br_false]
       exact ih'
     · have hp : i - 1 < O.length := by omega
       have hlt := List.pairwise_iff_getElem.1 ha (i - 1) i hp hi (by omega)
       have hle : (Op.bytesLess O[i].1 O[i - 1].1 || O[i].1 == O[i - 1].1) = false := by
         rw [Bool.or_eq_false_iff, bytesLess_lt]
         refine ⟨decide_eq_false fun h => str_lt_irrefl _ (str_lt_trans hlt h), ?_⟩
         rw [beq_eq_false_iff_ne]
         intro h
         rw [h] at hlt
         exact str_lt_irrefl _ hlt
       rw [decide_eq_true (by omega), br_true, w64 _ (by omega) (by omega), show ((i : Int) - 1) = ((i - 1 : Nat) : Int) by omega, geti_lt O hp, bnd_some, hle, br_false]
       exact ih'
 unfold blob_CheckObjects
 rw [decide_eq_false (by omega), br_false]
 exact key O.length 0 N rfl (Nat.zero_le _) (by omega)
theorem parts_of {l : List FileD} (h : FilesOk l) : PartsOk l := fun x hx p hp => by
 have := h.ok.path x hx
 unfold pathB at this
 simp only [Bool.and_eq_true, List.all_eq_true] at this
 exact this.2.2 p hp
structure ObjsOk (N : Nat) (l : List FileD) (O : List ObjD) : Prop where
 files : FilesOk l
 len : O.length ≤ 4000
 asc : AscO O
 dig : ∀ x ∈ O, x.1 = dg N x.2 ∧ x.2.length ≤ 225000
 look : ∀ c ∈ cont N 201 l, lookO O (dg N c) = some c ∨ lookO O (dg N c) = none
theorem checkRoot_ok {N : Nat} (hN : big ≤ N) {l : List FileD} {O : List ObjD} (h : ObjsOk N l O) : blob_checkRoot N (dg N (txt N 201 l)) O = some 0 := by
 have hb : big = 18446744073709551616 := rfl
 have hl := (text_ok hN 201 l (tame_of h.files) N (by omega)).len
 unfold blob_checkRoot
 rw [checkObjs_ok hN h.len h.asc h.dig, bnd_some, show ((0 : Int) != 0) = false from rfl, br_false, isDigest_dg hN (by omega), bnd_some, Bool.not_true, br_false]
theorem sort_files {N : Nat} {l d : List FileD} (ha : l.Pairwise fun x y => x.1 < y.1) (hp : d.Perm l) (hl : l.length ≤ 1000) : slices_SortFunc_file () d = some l := by
 have hnd : (l.map fun p : FileD => p.1).Nodup := by
   unfold List.Nodup
   rw [List.pairwise_map]
   exact ha.imp fun {a b} h e => by rw [e] at h; exact str_lt_irrefl _ h
 have hnd2 : (d.map fun p : FileD => p.1).Nodup := (hp.map _).nodup_iff.2 hnd
 have hso := sort_uniqueK (key := fun p : FileD => p.1) hnd2 hp.symm (ha.imp fun {a b} h h2 => str_lt_irrefl _ (str_lt_trans h h2))
 have := hp.length_eq
 unfold slices_SortFunc_file sortK
 rw [if_pos ⟨by omega, hnd2⟩, ← hso]
theorem filesOf_all {N : Nat} (hN : big ≤ N) {l : List FileD} {O : List ObjD} (h : ObjsOk N l O) (hall : ∀ c ∈ cont N 201 l, lookO O (dg N c) = some c) : blob_FilesOf N (dg N (txt N 201 l)) O = some (l, 0) := by
 have hb : big = 18446744073709551616 := rfl
 have ht := tame_of h.files
 have hl := h.len
 have hd := dir_read hN h.asc (by omega) 201 l ht (parts_of h.files) h.look N [] [] (by omega) (.inl rfl) (by simp) (fun x hx => by have := ht.path x hx; simp; omega) (by have := ht.len; simpa using this)
 have hperm : (fls 201 [] l).Perm l := by simpa using fls_perm 201 [] l ht
 unfold blob_FilesOf
 rw [checkRoot_ok hN h, bnd_some, show ((0 : Int) != 0) = false from rfl, br_false, hd.all hall, bnd_some]
 dsimp only
 rw [show ((0 : Int) != 0) = false from rfl, br_false, List.nil_append, sort_files (N := N) h.files.ok.asc hperm ht.len, bnd_some, blob_CheckFiles_eq hN, (files_iff l).2 h.files, bnd_some, show ((0 : Int) != 0) = false from rfl, br_false]
theorem sameFiles_self {N : Nat} (hN : big ≤ N) {w : List FileD} (hw : w.length ≤ 1000000) : ref1_SameFiles N w w = some true := by
 have hb : big = 18446744073709551616 := rfl
 have key : ∀ (R P : List FileD) (f : Nat), w = P ++ R → R.length < f → z29L0 N w w (some true) f (P.length : Int) = some true := by
   intro R
   induction R with
   | nil =>
     intro P f he hf
     obtain ⟨f, rfl⟩ : ∃ q, f = q + 1 := ⟨f - 1, by omega⟩
     rw [List.append_nil] at he
     rw [z29L0]
     unfold z29L0T
     rw [he, decide_eq_false (by omega), br_false]
   | cons x R ih =>
     intro P f he hf
     obtain ⟨f, rfl⟩ : ∃ q, f = q + 1 := ⟨f - 1, by omega⟩
     have hl : w.length = P.length + R.length + 1 := by rw [he, List.length_append, List.length_cons]; omega
     have hge : geti w (P.length : Int) = some x := by rw [he]; exact geti_app _ _ _
     have ih' := ih (P ++ [x]) f (by rw [he]; simp) (by rw [List.length_cons] at hf; omega)
     rw [List.length_append, List.length_singleton, Int.natCast_add] at ih'
     rw [z29L0]
     unfold z29L0T
     rw [decide_eq_true (by omega), br_true]
     simp only [hge, bnd_some, ref1_SameFile, beq_self_eq_true, br_true, bytes_Equal, Bool.not_true, br_false]
     rw [w64 _ (by omega) (by omega)]
     exact ih'
 unfold ref1_SameFiles
 rw [bne_self_eq_false, br_false]
 exact key w [] N rfl (by omega)
end Go.Proofs.YtjiddcchklaiiaaGreatDoor


/- The trees, read again, plainly: Missing. -/
namespace Go.Proofs.YtjiddcchklaiiaaGreatDoor
set_option linter.unusedVariables false
set_option linter.unusedSimpArgs false
open Go Go.RowKit
abbrev SetD : Type := List (Str × Bool)
def inS (m : SetD) (q : Str) : Bool := (mget m q).getD (zero .bool)
theorem inS_set (m : SetD) (k q : Str) : inS (mset m k true) q = (q == k || inS m q) := by
 unfold inS
 rw [mget_mset]
 by_cases h : q == k
 · rw [h]; rfl
 · rw [if_neg h, Bool.eq_false_iff.2 h, Bool.false_or]
abbrev MisD : Type := SetD × SetD × List Str
def stepM (O : List ObjD) (s : MisD) (e : EntD) : MisD :=
 if e.2.2.1 = true then (if inS s.2.1 e.2.1 = true then s else (s.1, mset s.2.1 e.2.1 true, s.2.2 ++ [e.2.1]))
 else (if (lookO O e.2.1).isSome = true then s else (mset s.1 e.2.1 true, s.2.1, s.2.2))
theorem mis_l1 {N : Nat} (hN : big ≤ N) {O : List ObjD} (hO : AscO O) (hOl : O.length ≤ 1000000) (k : SetD → SetD → List Str → Option (List Str × Int)) :
   ∀ (R P : List EntD) (s : MisD) (fuel : Nat), P.length + R.length ≤ 1000000 → s.2.2.length + R.length ≤ 1000000 → R.length < fuel →
     z36L1 N O ((P ++ R).length : Int) (P ++ R) k fuel (P.length : Int) s.1 s.2.1 s.2.2 = k (R.foldl (stepM O) s).1 (R.foldl (stepM O) s).2.1 (R.foldl (stepM O) s).2.2
 | [], P, s, f + 1, _, _, _ => by
   rw [z36L1]
   unfold z36L1T
   rw [decide_eq_false (by simp), br_false]
   rfl
 | e :: R, P, s, f + 1, h1, h2, h3 => by
   have ih := fun s' hs' => mis_l1 hN hO hOl k R (P ++ [e]) s' f (by simp at h1 ⊢; omega) hs' (by simp at h3; omega)
   rw [List.length_cons] at h1 h2 h3
   have hpl : (P ++ [e]).length = P.length + 1 := by rw [List.length_append, List.length_singleton]
   rw [List.append_assoc, List.singleton_append, hpl] at ih
   have hnext : IntKind.i64.wrap ((P.length : Int) + 1) = ((P.length + 1 : Nat) : Int) := by rw [w64 _ (by omega) (by omega)]; omega
   have hsz : Ty.sz .str = 1 := rfl
   rw [z36L1]
   unfold z36L1T
   rw [decide_eq_true (by rw [List.length_append, List.length_cons]; omega), br_true, geti_app, bnd_some, hnext, List.foldl_cons]
   unfold stepM
   cases hd : e.2.2.1 with
   | false =>
     rw [Bool.not_false, br_true, find_ok hN hOl hO, bnd_some]
     simp only [Bool.false_eq_true, if_false]
     cases hl : lookO O e.2.1 with
     | some b =>
       dsimp only
       rw [Bool.not_true, br_false]
       simp only [Option.isSome_some, if_true]
       exact ih s (by omega)
     | none =>
       dsimp only
       rw [Bool.not_false, br_true]
       simp only [Option.isSome_none, Bool.false_eq_true, if_false]
       exact ih (mset s.1 e.2.1 true, s.2.1, s.2.2) (by dsimp only; omega)
   | true =>
     rw [Bool.not_true, br_false]
     simp only [if_true]
     cases hi : inS s.2.1 e.2.1 with
     | true =>
       have hi' : (mget s.2.1 e.2.1).getD (zero .bool) = true := hi
       rw [hi', Bool.not_true, br_false]
       simp only [if_true]
       exact ih s (by omega)
     | false =>
       have hi' : (mget s.2.1 e.2.1).getD (zero .bool) = false := hi
       rw [hi', Bool.not_false, br_true, hsz, List.length_singleton, decide_eq_true (by omega), br_true]
       simp only [Bool.false_eq_true, if_false]
       exact ih (s.1, mset s.2.1 e.2.1 true, s.2.2 ++ [e.2.1]) (by dsimp only; rw [List.length_append, List.length_singleton]; omega)
theorem mis_l2 (N : Nat) (O : List ObjD) (c : Int) (es : List EntD) (k : SetD → SetD → List Str → Option (List Str × Int)) : ∀ f i m1 m2 u, z36L2 N O c es k f i m1 m2 u = z36L1 N O c es k f i m1 m2 u
 | 0, _, _, _, _ => rfl
 | f + 1, i, m1, m2, u => by
   have e : z36L2 N O c es k f = z36L1 N O c es k f := funext fun i => funext fun m1 => funext fun m2 => funext fun u => mis_l2 N O c es k f i m1 m2 u
   rw [z36L2, z36L1, e]
   rfl
theorem st_seen (O : List ObjD) : ∀ (E : List EntD) (s : MisD) (q : Str), inS s.2.1 q = true → inS (E.foldl (stepM O) s).2.1 q = true
 | [], s, q, h => h
 | e :: E, s, q, h => by
   rw [List.foldl_cons]
   refine st_seen O E _ q ?_
   unfold stepM
   split
   · split
     · exact h
     · dsimp only; rw [inS_set, h, Bool.or_true]
   · split
     · exact h
     · exact h
theorem st_todo (O : List ObjD) : ∀ (E : List EntD) (s : MisD) (q : Str), q ∈ s.2.2 → q ∈ (E.foldl (stepM O) s).2.2
 | [], s, q, h => h
 | e :: E, s, q, h => by
   rw [List.foldl_cons]
   refine st_todo O E _ q ?_
   unfold stepM
   split
   · split
     · exact h
     · exact List.mem_append_left _ h
   · split
     · exact h
     · exact h
theorem st_from (O : List ObjD) : ∀ (E : List EntD) (s : MisD) (q : Str), q ∈ (E.foldl (stepM O) s).2.2 → q ∈ s.2.2 ∨ ∃ e ∈ E, e.2.2.1 = true ∧ e.2.1 = q
 | [], s, q, h => .inl h
 | e :: E, s, q, h => by
   rw [List.foldl_cons] at h
   rcases st_from O E _ q h with h | ⟨e', he', h1, h2⟩
   · unfold stepM at h
     split at h
     · rename_i hd
       split at h
       · exact .inl h
       · rcases List.mem_append.1 h with h | h
         · exact .inl h
         · exact .inr ⟨e, List.mem_cons_self, hd, (List.mem_singleton.1 h).symm⟩
     · split at h
       · exact .inl h
       · exact .inl h
   · exact .inr ⟨e', List.mem_cons_of_mem _ he', h1, h2⟩
theorem st_new (O : List ObjD) : ∀ (E : List EntD) (s : MisD) (q : Str), inS (E.foldl (stepM O) s).2.1 q = true → inS s.2.1 q = true ∨ q ∈ (E.foldl (stepM O) s).2.2
 | [], s, q, h => .inl h
 | e :: E, s, q, h => by
   rw [List.foldl_cons] at h ⊢
   rcases st_new O E _ q h with h | h
   · by_cases hq : q ∈ (stepM O s e).2.2
     · exact .inr (st_todo O E _ q hq)
     · refine .inl ?_
       unfold stepM at h hq
       split at h
       · rename_i hd
         rw [if_pos hd] at hq
         split at h
         · exact h
         · rename_i hi
           rw [if_neg hi] at hq
           dsimp only at h hq
           rw [inS_set, Bool.or_eq_true] at h
           rcases h with h | h
           · exact absurd (List.mem_append_right _ (List.mem_singleton.2 (eq_of_beq h))) hq
           · exact h
       · split at h
         · exact h
         · exact h
   · exact .inr h
theorem st_dirs (O : List ObjD) : ∀ (E : List EntD) (s : MisD), ∀ e ∈ E, e.2.2.1 = true → inS (E.foldl (stepM O) s).2.1 e.2.1 = true
 | [], s, e, he, _ => absurd he List.not_mem_nil
 | e' :: E, s, e, he, hd => by
   rw [List.foldl_cons]
   rcases List.mem_cons.1 he with rfl | he
   · refine st_seen O E _ _ ?_
     unfold stepM
     rw [if_pos hd]
     split
     · rename_i h; exact h
     · dsimp only; rw [inS_set, beq_self_eq_true, Bool.true_or]
   · exact st_dirs O E _ e he hd
theorem count_less {m : SetD} {q : Str} (hq : inS m q = false) : ∀ {D : List Str}, (D.countP fun e => !inS (mset m q true) e) + (if q ∈ D then 1 else 0) ≤ D.countP fun e => !inS m e
 | [] => by simp
 | d :: D => by
   have ih := count_less (m := m) (q := q) hq (D := D)
   rw [List.countP_cons, List.countP_cons, inS_set]
   by_cases hd : d = q
   · subst hd
     rw [beq_self_eq_true, hq]
     simp only [Bool.true_or, Bool.not_true, Bool.false_eq_true, if_false, Bool.not_false, if_true, List.mem_cons, true_or]
     split at ih <;> omega
   · have h1 : (d == q) = false := by simpa using hd
     rw [h1, Bool.false_or]
     have h2 : (q ∈ d :: D) ↔ q ∈ D := by simp [Ne.symm hd]
     simp only [h2]
     omega
theorem st_count (O : List ObjD) {D : List Str} : ∀ (E : List EntD) (s : MisD), (∀ e ∈ E, e.2.2.1 = true → e.2.1 ∈ D) → (E.foldl (stepM O) s).2.2.length + (D.countP fun e => !inS (E.foldl (stepM O) s).2.1 e) ≤ s.2.2.length + D.countP fun e => !inS s.2.1 e
 | [], s, _ => Nat.le_refl _
 | e :: E, s, h => by
   rw [List.foldl_cons]
   refine Nat.le_trans (st_count O E _ fun x hx => h x (List.mem_cons_of_mem _ hx)) ?_
   unfold stepM
   split
   · rename_i hd
     split
     · exact Nat.le_refl _
     · rename_i hi
       have := count_less (m := s.2.1) (q := e.2.1) (by simpa using hi) (D := D)
       rw [if_pos (h e List.mem_cons_self hd)] at this
       dsimp only
       rw [List.length_append, List.length_singleton]
       omega
   · split
     · exact Nat.le_refl _
     · exact Nat.le_refl _
theorem mset_ne (m : SetD) (k : Str) : mset m k true ≠ [] := by
 cases m with
 | nil => simp [mset]
 | cons x m =>
   obtain ⟨j, y⟩ := x
   rw [mset]
   split <;> simp
theorem st_gone (O : List ObjD) : ∀ (E : List EntD) (s : MisD), (E.foldl (stepM O) s).1 = [] → s.1 = [] ∧ ∀ e ∈ E, e.2.2.1 = false → (lookO O e.2.1).isSome = true
 | [], s, h => ⟨h, fun e he => absurd he List.not_mem_nil⟩
 | e :: E, s, h => by
   rw [List.foldl_cons] at h
   obtain ⟨h1, h2⟩ := st_gone O E _ h
   unfold stepM at h1
   split at h1
   · rename_i hd
     have h3 : s.1 = [] := by split at h1 <;> exact h1
     refine ⟨h3, fun e' he' hf => ?_⟩
     rcases List.mem_cons.1 he' with rfl | he'
     · rw [hd] at hf; cases hf
     · exact h2 e' he' hf
   · split at h1
     · rename_i hs
       refine ⟨h1, fun e' he' hf => ?_⟩
       rcases List.mem_cons.1 he' with rfl | he'
       · exact hs
       · exact h2 e' he' hf
     · exact absurd h1 (mset_ne _ _)
def GoneOk (G : Str → Prop) (m : SetD) : Prop := m = [] ∨ ∃ g, G g ∧ m = [(g, true)]
theorem gone_put {G : Str → Prop} (hU : ∀ g g', G g → G g' → g = g') {m : SetD} (h : GoneOk G m) {q : Str} (hq : G q) : GoneOk G (mset m q true) := by
 rcases h with rfl | ⟨g, hg, rfl⟩
 · exact .inr ⟨q, hq, rfl⟩
 · have := hU q g hq hg
   subst this
   refine .inr ⟨q, hq, ?_⟩
   rw [mset, beq_self_eq_true, if_pos rfl]
theorem st_goneOk (O : List ObjD) {G : Str → Prop} (hU : ∀ g g', G g → G g' → g = g') : ∀ (E : List EntD) (s : MisD), GoneOk G s.1 → (∀ e ∈ E, e.2.2.1 = false → lookO O e.2.1 = none → G e.2.1) → GoneOk G (E.foldl (stepM O) s).1
 | [], s, h, _ => h
 | e :: E, s, h, hE => by
   rw [List.foldl_cons]
   refine st_goneOk O hU E _ ?_ fun x hx => hE x (List.mem_cons_of_mem _ hx)
   unfold stepM
   split
   · split
     · exact h
     · exact h
   · rename_i hd
     split
     · exact h
     · rename_i hs
       exact gone_put hU h (hE e List.mem_cons_self (by simpa using hd) (by simpa using hs))
theorem range_gone {N : Nat} (hN : big ≤ N) {G : Str → Prop} {m : SetD} (h : GoneOk G m) : ∃ r : List Str, z36L3 N (fun o3 => bnd (slices_Sort_string_string o3) fun t114 => some (t114, (0 : Int))) N [] m = some (r, 0) ∧ (m = [] ∧ r = [] ∨ ∃ g, G g ∧ m = [(g, true)] ∧ r = [g]) := by
 have hb : big = 18446744073709551616 := rfl
 have hsz : Ty.sz .str = 1 := rfl
 obtain ⟨n, rfl⟩ : ∃ n, N = n + 2 := ⟨N - 2, by omega⟩
 have srt : ∀ r : List Str, r.length ≤ 1 → slices_Sort_string_string r = some r := fun r hr => by
   unfold slices_Sort_string_string
   rw [if_pos (by omega)]
   match r, hr with
   | [], _ => simp
   | [x], _ => simp
 rcases h with rfl | ⟨g, hg, rfl⟩
 · refine ⟨[], ?_, .inl ⟨rfl, rfl⟩⟩
   rw [z36L3]
   unfold z36L3T
   rw [List.isEmpty_nil, br_true]
   show bnd (slices_Sort_string_string []) _ = _
   rw [srt [] (by simp), bnd_some]
 · refine ⟨[g], ?_, .inr ⟨g, hg, rfl, rfl⟩⟩
   rw [z36L3]
   unfold z36L3T
   rw [List.isEmpty_cons, br_false]
   refine allC_of (by simp) fun i hi => ?_
   have h0 : i = 0 := by simpa using hi
   subst h0
   show br (decide ((([] : List Str).length + [g].length) * (24 * Ty.sz .str) ≤ 140737488355328)) (z36L3 (n + 2) _ (n + 1) ([] ++ [g]) []) none = _
   rw [decide_eq_true (by rw [hsz, List.length_singleton, List.length_nil]; omega), br_true, z36L3]
   unfold z36L3T
   rw [List.isEmpty_nil, br_true]
   show bnd (slices_Sort_string_string ([] ++ [g])) _ = _
   rw [List.nil_append, srt [g] (by simp), bnd_some]
theorem txt_cont (N : Nat) : ∀ (d : Nat) (l : List FileD), txt N d l ∈ cont N d l
 | 0, l => by rw [cont, txt]; exact List.mem_singleton.2 rfl
 | d + 1, l => by rw [cont]; exact List.mem_cons_self
structure EntR (N d : Nat) (l : List FileD) (e : EntD) : Prop where
 dir : e.2.2.1 = true → ∃ d' l', d = d' + 1 ∧ Tame d' l' ∧ PartsOk l' ∧ l' ≠ [] ∧ (∀ c ∈ cont N d' l', c ∈ cont N d l) ∧ e.2.1 = dg N (txt N d' l')
 file : e.2.2.1 = false → ∃ c ∈ cont N d l, e.2.1 = dg N c
theorem ent_of {N : Nat} : ∀ {d : Nat} {l : List FileD}, Tame d l → PartsOk l → ∀ e ∈ ents N d l, EntR N d l e
 | 0, l, _, _, e, he => absurd he (by rw [ents]; exact List.not_mem_nil)
 | d + 1, l, ht, hp, e, he => by
   rw [ents] at he
   obtain ⟨nd, hnd, rfl⟩ := List.mem_map.1 he
   have hcm : ∀ c ∈ contN (cont N d) nd, c ∈ cont N (d + 1) l := fun c hc => by
     rw [cont]
     exact List.mem_cons_of_mem _ (List.mem_flatMap.2 ⟨nd, hnd, hc⟩)
   have hok := ht.tn.ok nd hnd
   rcases node_cases ht hnd with ⟨x, hx, e1, _⟩ | ⟨e1, e2, hne, htw⟩
   · have ee : entT N (txt N d) nd = (nd.1, dg N x.2.2, false, x.2.1) := by unfold entT; rw [e1]
     rw [ee]
     refine ⟨fun h => Bool.noConfusion h, fun _ => ⟨x.2.2, hcm _ (by unfold contN; rw [e1]; exact List.mem_singleton.2 rfl), rfl⟩⟩
   · have ee : entT N (txt N d) nd = (nd.1, dg N (txt N d nd.2.2), true, false) := by unfold entT; rw [e1]
     rw [ee]
     refine ⟨fun _ => ⟨d, nd.2.2, rfl, htw, by rw [e2]; exact parts_within hp hok.1, hne, fun c hc => hcm c (by unfold contN; rw [e1]; exact hc), rfl⟩, fun h => Bool.noConfusion h⟩
def IsDir (N : Nat) (l : List FileD) (q : Str) : Prop := ∃ d' l', Tame d' l' ∧ PartsOk l' ∧ (∀ c ∈ cont N d' l', c ∈ cont N 201 l) ∧ q = dg N (txt N d' l') ∧ (l' ≠ [] ∨ q = dg N (txt N 201 l))
def Handled (N : Nat) (O : List ObjD) (seen : SetD) (q : Str) : Prop := ∃ b es, lookO O q = some b ∧ blob_readDir N b = some (true, es) ∧ ∀ e ∈ es, (e.2.2.1 = true → inS seen e.2.1 = true) ∧ (e.2.2.1 = false → (lookO O e.2.1).isSome = true)
def LackS (N : Nat) (l : List FileD) (O : List ObjD) (g : Str) : Prop := ∃ c ∈ cont N 201 l, dg N c = g ∧ lookO O g = none
structure MisI (N : Nat) (l : List FileD) (O : List ObjD) (s : MisD) : Prop where
 dirs : ∀ q ∈ s.2.2, IsDir N l q
 gone : GoneOk (LackS N l O) s.1
 done : s.1 = [] → ∀ q, inS s.2.1 q = true → q ∈ s.2.2 ∨ Handled N O s.2.1 q
 root : inS s.2.1 (dg N (txt N 201 l)) = true
theorem handled_all {N : Nat} (hN : big ≤ N) {l : List FileD} {O : List ObjD} (hl : ∀ c ∈ cont N 201 l, lookO O (dg N c) = some c ∨ lookO O (dg N c) = none) {seen : SetD} (hd : ∀ q, inS seen q = true → Handled N O seen q) :
   ∀ (d : Nat) (l' : List FileD), Tame d l' → PartsOk l' → (∀ c ∈ cont N d l', c ∈ cont N 201 l) → inS seen (dg N (txt N d l')) = true → ∀ c ∈ cont N d l', lookO O (dg N c) = some c
 | 0, l', ht, hp, hs, hi, c, hc => by
   obtain ⟨b, es, h1, _⟩ := hd _ hi
   have e : c = txt N 0 l' := by rw [cont, List.mem_singleton] at hc; rw [hc, txt]
   subst e
   rcases hl _ (hs _ hc) with h | h
   · exact h
   · rw [h] at h1; cases h1
 | d + 1, l', ht, hp, hs, hi, c, hc => by
   obtain ⟨b, es, h1, h2, h3⟩ := hd _ hi
   have hroot : lookO O (dg N (txt N (d + 1) l')) = some (txt N (d + 1) l') := by
     rcases hl _ (hs _ (txt_cont N (d + 1) l')) with h | h
     · exact h
     · rw [h] at h1; cases h1
   rw [hroot] at h1
   injection h1 with h1
   subst h1
   rw [readDir_ok hN (d + 1) l' ht hp] at h2
   injection h2 with h2
   have h2 : ents N (d + 1) l' = es := (Prod.mk.inj h2).2
   subst h2
   have hcl := hs c hc
   rw [cont] at hc
   rcases List.mem_cons.1 hc with rfl | hc
   · exact hroot
   · obtain ⟨nd, hnd, hc⟩ := List.mem_flatMap.1 hc
     have hok := ht.tn.ok nd hnd
     have he := h3 (entT N (txt N d) nd) (by rw [ents]; exact List.mem_map.2 ⟨nd, hnd, rfl⟩)
     have hcm : ∀ c ∈ contN (cont N d) nd, c ∈ cont N (d + 1) l' := fun c hc => by
       rw [cont]
       exact List.mem_cons_of_mem _ (List.mem_flatMap.2 ⟨nd, hnd, hc⟩)
     rcases node_cases ht hnd with ⟨x, hx, e1, _⟩ | ⟨e1, e2, hne, htw⟩
     · have ee : entT N (txt N d) nd = (nd.1, dg N x.2.2, false, x.2.1) := by unfold entT; rw [e1]
       rw [ee] at he
       have hcx : c = x.2.2 := by unfold contN at hc; rw [e1] at hc; exact List.mem_singleton.1 hc
       subst hcx
       rcases hl _ hcl with h | h
       · exact h
       · have := he.2 rfl
         dsimp only at this
         rw [h] at this; cases this
     · have ee : entT N (txt N d) nd = (nd.1, dg N (txt N d nd.2.2), true, false) := by unfold entT; rw [e1]
       rw [ee] at he
       refine handled_all hN hl hd d nd.2.2 htw (by rw [e2]; exact parts_within hp hok.1) (fun c hc => hs c (hcm c (by unfold contN; rw [e1]; exact hc))) (he.1 rfl) c ?_
       unfold contN at hc
       rw [e1] at hc
       exact hc
theorem mis_loop {N : Nat} (hN : big ≤ N) {l : List FileD} {O : List ObjD} (h : ObjsOk N l O) (hU : ∀ g g', LackS N l O g → LackS N l O g' → g = g') (k : SetD → Option (List Str × Int)) :
   ∀ (f : Nat) (s : MisD), MisI N l O s → s.2.2.length + (((cont N 201 l).map (dg N)).countP fun e => !inS s.2.1 e) ≤ 300000 → s.2.2.length + (((cont N 201 l).map (dg N)).countP fun e => !inS s.2.1 e) < f →
     ∃ s', MisI N l O s' ∧ s'.2.2 = [] ∧ z36L0 N (dg N (txt N 201 l)) O k f s.1 s.2.1 s.2.2 = k s'.1
 | f + 1, (gone, seen, []), hI, _, _ => by
   refine ⟨(gone, seen, []), hI, rfl, ?_⟩
   rw [z36L0]
   unfold z36L0T
   rw [decide_eq_false (by simp), br_false]
 | f + 1, (gone, seen, q :: u), hI, h1, h2 => by
   have hb : big = 18446744073709551616 := rfl
   have hol := h.len
   have ih := mis_loop hN h hU k f
   have hg0 : geti (q :: u) (0 : Int) = some q := rfl
   simp only [List.length_cons] at h1 h2
   obtain ⟨d', l', ht, hp, hs, hq, hne⟩ := hI.dirs q List.mem_cons_self
   have htm := hs _ (txt_cont N d' l')
   rw [z36L0]
   unfold z36L0T
   rw [decide_eq_true (by rw [List.length_cons]; omega), br_true, hg0, bnd_some, decide_eq_true (by rw [List.length_cons]; omega), br_true, find_ok hN (by omega) h.asc, bnd_some, show Int.toNat (1 : Int) = 1 from rfl, List.drop_one, List.tail_cons]
   rcases h.look _ htm with hF | hG
   · rw [← hq] at hF
     have hlen : (ents N d' l').length ≤ 1000 := by
       match d', ht with
       | 0, _ => simp [ents]
       | d + 1, ht => rw [ents, List.length_map]; have := tn_len ht.tn; have := ht.len; omega
     have hrd := readDir_ok hN d' l' ht hp
     have hE := ent_of (N := N) ht hp
     have hloop := mis_l1 hN h.asc (by omega) (O := O) (fun a b c => z36L0 N (dg N (txt N 201 l)) O k f a b c) (ents N d' l') [] (gone, seen, u) N (by simp; omega) (by dsimp only; omega) (by omega)
     rw [List.nil_append, List.length_nil] at hloop
     have hI2 : MisI N l O ((ents N d' l').foldl (stepM O) (gone, seen, u)) := by
       refine ⟨fun q' hq' => ?_, ?_, fun hg q' hq' => ?_, st_seen O _ _ _ hI.root⟩
       · rcases st_from O _ _ _ hq' with h3 | ⟨e, he, h3, h4⟩
         · exact hI.dirs q' (List.mem_cons_of_mem _ h3)
         · obtain ⟨d2, l2, _, ht2, hp2, hne2, hs2, he2⟩ := (hE e he).dir h3
           exact ⟨d2, l2, ht2, hp2, fun c hc => hs c (hs2 c hc), by rw [← h4, he2], .inl hne2⟩
       · refine st_goneOk O hU _ _ hI.gone fun e he h3 h4 => ?_
         obtain ⟨c, hc, hc2⟩ := (hE e he).file h3
         exact ⟨c, hs c hc, hc2.symm, h4⟩
       · obtain ⟨h3, h4⟩ := st_gone O _ _ hg
         have hmono : ∀ q2, Handled N O seen q2 → Handled N O ((ents N d' l').foldl (stepM O) (gone, seen, u)).2.1 q2 := fun q2 ⟨b, es, x1, x2, x3⟩ => ⟨b, es, x1, x2, fun e he => ⟨fun hd => st_seen O _ _ _ ((x3 e he).1 hd), (x3 e he).2⟩⟩
         rcases st_new O _ _ _ hq' with h5 | h5
         · rcases hI.done h3 q' h5 with h6 | h6
           · rcases List.mem_cons.1 h6 with rfl | h6
             · exact .inr ⟨_, _, hF, hrd, fun e he => ⟨fun hd => st_dirs O _ _ e he hd, fun hd => h4 e he hd⟩⟩
             · exact .inl (st_todo O _ _ _ h6)
           · exact .inr (hmono _ h6)
         · exact .inl h5
     have hcnt := st_count O (D := (cont N 201 l).map (dg N)) (ents N d' l') (gone, seen, u) fun e he hd => by
       obtain ⟨d2, l2, _, _, _, _, hs2, he2⟩ := (hE e he).dir hd
       rw [he2]
       exact List.mem_map_of_mem (hs _ (hs2 _ (txt_cont N d2 l2)))
     dsimp only at hcnt
     obtain ⟨s', x1, x2, x3⟩ := ih _ hI2 (by omega) (by omega)
     refine ⟨s', x1, x2, ?_⟩
     rw [hF]
     dsimp only
     rw [Bool.not_true, br_false, hrd, bnd_some]
     dsimp only
     rw [Bool.not_true, br_false, ← x3]
     by_cases h0 : (((ents N d' l').length : Int) == 0) = true
     · have hnl : l' = [] := by
         have h0 : (ents N d' l').length = 0 := by simpa using h0
         match d', ht with
         | 0, ht => exact ht.zero
         | d + 1, ht =>
           rw [ents, List.length_map] at h0
           exact (nodes_ne ht).1 (List.eq_nil_of_length_eq_zero h0)
       have hqr : q = dg N (txt N 201 l) := by rcases hne with h3 | h3; exact absurd hnl h3; exact h3
       rw [h0, br_true, show (q == dg N (txt N 201 l)) = true by simpa using hqr, Bool.not_true, br_false]
       exact hloop
     · rw [Bool.eq_false_iff.2 h0, br_false, mis_l2]
       exact hloop
   · rw [← hq] at hG
     rw [hG]
     dsimp only
     rw [Bool.not_false, br_true]
     refine ih (mset gone q true, seen, u) ⟨fun q' hq' => hI.dirs q' (List.mem_cons_of_mem _ hq'), gone_put hU hI.gone ⟨_, htm, hq.symm, hG⟩, fun hg => absurd hg (mset_ne _ _), hI.root⟩ (by dsimp only; omega) (by dsimp only; omega)
theorem missing_ok {N : Nat} (hN : big ≤ N) {l : List FileD} {O : List ObjD} (h : ObjsOk N l O) (hU : ∀ g g', LackS N l O g → LackS N l O g' → g = g') :
   (blob_Missing N (dg N (txt N 201 l)) O = some ([], 0) ∧ ∀ c ∈ cont N 201 l, lookO O (dg N c) = some c) ∨ ∃ g, LackS N l O g ∧ blob_Missing N (dg N (txt N 201 l)) O = some ([g], 0) := by
 have hb : big = 18446744073709551616 := rfl
 have ht := tame_of h.files
 have hp := parts_of h.files
 have hlen := ht.len
 have hcl := cont_len (N := N) 201 l ht
 have hcp : (((cont N 201 l).map (dg N)).countP fun e => !inS (mset [] (dg N (txt N 201 l)) true) e) ≤ (cont N 201 l).length := by
   have := List.countP_le_length (p := fun e => !inS (mset [] (dg N (txt N 201 l)) true) e) (l := (cont N 201 l).map (dg N))
   rwa [List.length_map] at this
 have hin : ∀ q, inS (mset [] (dg N (txt N 201 l)) true) q = true ↔ q = dg N (txt N 201 l) := fun q => by
   rw [inS_set]
   have : inS [] q = false := rfl
   rw [this, Bool.or_false, beq_iff_eq]
 have hI : MisI N l O ([], mset [] (dg N (txt N 201 l)) true, [dg N (txt N 201 l)]) := by
   refine ⟨fun q hq => ?_, .inl rfl, fun _ q hq => .inl ?_, (hin _).2 rfl⟩
   · have := List.mem_singleton.1 hq
     exact ⟨201, l, ht, hp, fun c hc => hc, this, .inr this⟩
   · exact List.mem_singleton.2 ((hin q).1 hq)
 obtain ⟨s', x1, x2, x3⟩ := mis_loop hN h hU (fun o0 => z36L3 N (fun o3 => bnd (slices_Sort_string_string o3) fun t114 => some (t114, (0 : Int))) N [] o0) N _ hI (by dsimp only; rw [List.length_singleton]; omega) (by dsimp only; rw [List.length_singleton]; omega)
 dsimp only at x3
 obtain ⟨r, y1, y2⟩ := range_gone hN x1.gone
 have hM : blob_Missing N (dg N (txt N 201 l)) O = some (r, 0) := by
   unfold blob_Missing
   rw [checkRoot_ok hN h, bnd_some, show ((0 : Int) != 0) = false from rfl, br_false, x3]
   exact y1
 rcases y2 with ⟨y2, rfl⟩ | ⟨g, hg, _, rfl⟩
 · refine .inl ⟨hM, handled_all hN h.look (fun q hq => ?_) 201 l ht hp (fun c hc => hc) x1.root⟩
   rcases x1.done y2 q hq with h3 | h3
   · rw [x2] at h3; exact absurd h3 List.not_mem_nil
   · exact h3
 · exact .inr ⟨g, hg, hM⟩
end Go.Proofs.YtjiddcchklaiiaaGreatDoor


/- BlobTreesComeBack, plainly. -/
namespace Go.Proofs.YtjiddcchklaiiaaGreatDoor
set_option linter.unusedVariables false
set_option linter.unusedSimpArgs false
open Go Go.RowKit
theorem objsOk_of {N : Nat} (hN : big ≤ N) {l : List FileD} (hf : FilesOk l) (hF : Faith N (cont N 201 l)) (hn : (objsL N l).length ≤ 4000) {O : List ObjD} (hs : O.Sublist (objsL N l)) : ObjsOk N l O where
 files := hf
 len := Nat.le_trans hs.length_le hn
 asc := objs_asc.sublist hs
 dig := fun x hx => by
   obtain ⟨b, hb, rfl⟩ := objs_of x (hs.subset hx)
   exact ⟨rfl, cont_small hN 201 l (tame_of hf) b hb⟩
 look := fun c hc => by
   cases hl : lookO O (dg N c) with
   | none => exact .inr rfl
   | some b =>
     obtain ⟨b', hb', e⟩ := objs_of _ (hs.subset (lookO_mem hl))
     have e1 := (Prod.mk.inj e).1
     have e2 := (Prod.mk.inj e).2
     have := hF c hc b' hb' e1
     rw [e2, ← this]
     exact .inl rfl
theorem law_back {N : Nat} (hN : big ≤ N) (l : List FileD) : law1_BlobTreesComeBack N l = some true := by
 have hb : big = 18446744073709551616 := rfl
 have haw := awake_okT hN
 unfold law1_BlobTreesComeBack
 rw [(treeOf_ok hN l).1, bnd_some]
 dsimp only
 unfold treeS
 by_cases hf : filesS l = 0
 · have hfo := (files_iff l).1 hf
   have ht := tame_of hfo
   rw [if_pos hf]
   by_cases hn : (objsL N l).length ≤ 4000
   · rw [if_pos hn]
     dsimp only
     rw [show ((0 : Int) != 0) = false from rfl, br_false]
     obtain ⟨b, hbt, hF⟩ := faith_tree hN ht
     rw [hbt, bnd_some]
     cases b with
     | false => rw [Bool.not_false, br_true, haw, bnd_some]
     | true =>
       have hF := hF rfl
       have hO := objsOk_of hN hfo hF hn (List.Sublist.refl _)
       have hall : ∀ c ∈ cont N 201 l, lookO (objsL N l) (dg N c) = some c := fun c hc => lookO_of objs_asc (objs_has hF hc)
       have hlack : ∀ g, ¬ LackS N l (objsL N l) g := fun g ⟨c, hc, e, hno⟩ => by
         rw [← e, hall c hc] at hno; cases hno
       have hM : blob_Missing N (dg N (txt N 201 l)) (objsL N l) = some ([], 0) := by
         rcases missing_ok hN hO (fun g _ hg _ => absurd hg (hlack g)) with h | ⟨g, hg, _⟩
         · exact h.1
         · exact absurd hg (hlack g)
       have hlen := ht.len
       rw [Bool.not_true, br_false, filesOf_all hN hO hall, bnd_some, hM, bnd_some]
       dsimp only
       rw [show ((0 : Int) == 0) = true from rfl, br_true, sameFiles_self hN (by omega), bnd_some, br_true, br_true, show (((([] : List Str).length : Nat) : Int) == 0) = true from rfl, br_true, haw, bnd_some]
   · rw [if_neg hn]
     dsimp only
     rw [show ((2 : Int) != 0) = true from rfl, br_true, show (([] : Str) == []) = true from rfl, br_true, haw, bnd_some]
 · rw [if_neg hf]
   dsimp only
   rw [show (filesS l != 0) = true by simpa using hf, br_true, show (([] : Str) == []) = true from rfl, br_true, haw, bnd_some]
theorem plain_BlobTreesComeBack (x0 : List FileD) (_ : Fit (.sl fT) x0) : ∃ N, law1_BlobTreesComeBack N x0 = some true := ⟨big, law_back (Nat.le_refl _) x0⟩
end Go.Proofs.YtjiddcchklaiiaaGreatDoor

