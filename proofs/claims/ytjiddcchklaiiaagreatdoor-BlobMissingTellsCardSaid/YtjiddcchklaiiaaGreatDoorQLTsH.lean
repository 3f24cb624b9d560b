/- The trees, read again, plainly: Missing. -/
import Derived.Test.YtjiddcchklaiiaaGreatDoorQLTsE
import Derived.Test.YtjiddcchklaiiaaGreatDoorQAsc
import Derived.Test.YtjiddcchklaiiaaGreatDoorQBmSo
import Derived.Test.YtjiddcchklaiiaaGreatDoorQTsT
import Derived.Test.YtjiddcchklaiiaaGreatDoorQBmSw
import Derived.WalkKit
import Derived.Deep.LoopGhost
import Derived.Deep.RegionLaw
import Derived.Deep.DeepMust
import Derived.Lib.Walk
import Derived.Lib.SliceRun
import Derived.Test.YtjiddcchklaiiaaGreatDoorQTsR
namespace Go.Proofs.YtjiddcchklaiiaaGreatDoor
set_option linter.unusedVariables false
set_option linter.unusedSimpArgs false
open Go Go.RowKit
abbrev SetD : Type := List τ11
def inS (m : SetD) (q : Str) : Bool := (mget m q).getD (zero .bool)
theorem inS_set (m : SetD) (k q : Str) : inS (mset m k true) q = (q == k || inS m q) := by
 unfold inS
 rw [mget_mset]
 by_cases h : q == k
 · rw [h]; rfl
 · rw [if_neg h, Bool.eq_false_iff.2 h, Bool.false_or]
abbrev MisD : Type := SetD × SetD × List Str
def stepM (O : List ObjD) (s : MisD) (e : EntD) : MisD :=
 if e.2.2.1 = true then (if inS s.2.1 e.2.1 = true then s else (s.1, mset s.2.1 e.2.1 true, s.2.2 ++ [e.2.1]))
 else (if (lookO O e.2.1).isSome = true then s else (mset s.1 e.2.1 true, s.2.1, s.2.2))
theorem mis_l1 {N : Nat} (hN : big ≤ N) {O : List ObjD} (hO : AscO O) (hOl : O.length ≤ 1000000) (k : SetD → SetD → List Str → Option τ14) :
   ∀ (R P : List EntD) (s : MisD) (fuel : Nat), P.length + R.length ≤ 1000000 → s.2.2.length + R.length ≤ 1000000 → R.length < fuel →
     z37L1 N O ((P ++ R).length : Int) (P ++ R) k fuel (P.length : Int) s.1 s.2.1 s.2.2 = k (R.foldl (stepM O) s).1 (R.foldl (stepM O) s).2.1 (R.foldl (stepM O) s).2.2
 | [], P, s, f + 1, _, _, _ => by
   rw [z37L1]
   unfold z37L1T
   rw [decide_eq_false (by simp), br_false]
   rfl
 | e :: R, P, s, f + 1, h1, h2, h3 => by
   have ih := fun s' hs' => mis_l1 hN hO hOl k R (P ++ [e]) s' f (by simp at h1 ⊢; omega) hs' (by simp at h3; omega)
   rw [List.length_cons] at h1 h2 h3
   have hpl : (P ++ [e]).length = P.length + 1 := by rw [List.length_append, List.length_singleton]
   rw [List.append_assoc, List.singleton_append, hpl] at ih
   have hnext : IntKind.i64.wrap ((P.length : Int) + 1) = ((P.length + 1 : Nat) : Int) := by rw [w64 _ (by omega) (by omega)]; omega
   have hsz : Ty.sz .str = 1 := rfl
   rw [z37L1]
   unfold z37L1T
   rw [decide_eq_true (by rw [List.length_append, List.length_cons]; omega), br_true, geti_app, bnd_some, hnext, List.foldl_cons]
   unfold stepM
   cases hd : e.2.2.1 with
   | false =>
     rw [Bool.not_false, br_true, find_ok hN hOl hO, bnd_some]
     simp only [Bool.false_eq_true, if_false]
     cases hl : lookO O e.2.1 with
     | some b =>
       dsimp only
       rw [Bool.not_true, br_false]
       simp only [Option.isSome_some, if_true]
       exact ih s (by omega)
     | none =>
       dsimp only
       rw [Bool.not_false, br_true]
       simp only [Option.isSome_none, Bool.false_eq_true, if_false]
       exact ih (mset s.1 e.2.1 true, s.2.1, s.2.2) (by dsimp only; omega)
   | true =>
     rw [Bool.not_true, br_false]
     simp only [if_true]
     cases hi : inS s.2.1 e.2.1 with
     | true =>
       have hi' : (mget s.2.1 e.2.1).getD (zero .bool) = true := hi
       rw [hi', Bool.not_true, br_false]
       simp only [if_true]
       exact ih s (by omega)
     | false =>
       have hi' : (mget s.2.1 e.2.1).getD (zero .bool) = false := hi
       rw [hi', Bool.not_false, br_true, hsz, List.length_singleton, decide_eq_true (by omega), br_true]
       simp only [Bool.false_eq_true, if_false]
       exact ih (s.1, mset s.2.1 e.2.1 true, s.2.2 ++ [e.2.1]) (by dsimp only; rw [List.length_append, List.length_singleton]; omega)
theorem mis_l2 (N : Nat) (O : List ObjD) (c : Int) (es : List EntD) (k : SetD → SetD → List Str → Option τ14) : ∀ f i m1 m2 u, z37L2 N O c es k f i m1 m2 u = z37L1 N O c es k f i m1 m2 u
 | 0, _, _, _, _ => rfl
 | f + 1, i, m1, m2, u => by
   have e : z37L2 N O c es k f = z37L1 N O c es k f := funext fun i => funext fun m1 => funext fun m2 => funext fun u => mis_l2 N O c es k f i m1 m2 u
   rw [z37L2, z37L1, e]
   rfl
theorem st_seen (O : List ObjD) : ∀ (E : List EntD) (s : MisD) (q : Str), inS s.2.1 q = true → inS (E.foldl (stepM O) s).2.1 q = true
 | [], s, q, h => h
 | e :: E, s, q, h => by
   rw [List.foldl_cons]
   refine st_seen O E _ q ?_
   unfold stepM
   split
   · split
     · exact h
     · dsimp only; rw [inS_set, h, Bool.or_true]
   · split
     · exact h
     · exact h
theorem st_todo (O : List ObjD) : ∀ (E : List EntD) (s : MisD) (q : Str), q ∈ s.2.2 → q ∈ (E.foldl (stepM O) s).2.2
 | [], s, q, h => h
 | e :: E, s, q, h => by
   rw [List.foldl_cons]
   refine st_todo O E _ q ?_
   unfold stepM
   split
   · split
     · exact h
     · exact List.mem_append_left _ h
   · split
     · exact h
     · exact h
theorem st_from (O : List ObjD) : ∀ (E : List EntD) (s : MisD) (q : Str), q ∈ (E.foldl (stepM O) s).2.2 → q ∈ s.2.2 ∨ ∃ e ∈ E, e.2.2.1 = true ∧ e.2.1 = q
 | [], s, q, h => .inl h
 | e :: E, s, q, h => by
   rw [List.foldl_cons] at h
   rcases st_from O E _ q h with h | ⟨e', he', h1, h2⟩
   · unfold stepM at h
     split at h
     · rename_i hd
       split at h
       · exact .inl h
       · rcases List.mem_append.1 h with h | h
         · exact .inl h
         · exact .inr ⟨e, List.mem_cons_self, hd, (List.mem_singleton.1 h).symm⟩
     · split at h
       · exact .inl h
       · exact .inl h
   · exact .inr ⟨e', List.mem_cons_of_mem _ he', h1, h2⟩
theorem st_new (O : List ObjD) : ∀ (E : List EntD) (s : MisD) (q : Str), inS (E.foldl (stepM O) s).2.1 q = true → inS s.2.1 q = true ∨ q ∈ (E.foldl (stepM O) s).2.2
 | [], s, q, h => .inl h
 | e :: E, s, q, h => by
   rw [List.foldl_cons] at h ⊢
   rcases st_new O E _ q h with h | h
   · by_cases hq : q ∈ (stepM O s e).2.2
     · exact .inr (st_todo O E _ q hq)
     · refine .inl ?_
       unfold stepM at h hq
       split at h
       · rename_i hd
         rw [if_pos hd] at hq
         split at h
         · exact h
         · rename_i hi
           rw [if_neg hi] at hq
           dsimp only at h hq
           rw [inS_set, Bool.or_eq_true] at h
           rcases h with h | h
           · exact absurd (List.mem_append_right _ (List.mem_singleton.2 (eq_of_beq h))) hq
           · exact h
       · split at h
         · exact h
         · exact h
   · exact .inr h
theorem st_dirs (O : List ObjD) : ∀ (E : List EntD) (s : MisD), ∀ e ∈ E, e.2.2.1 = true → inS (E.foldl (stepM O) s).2.1 e.2.1 = true
 | [], s, e, he, _ => absurd he List.not_mem_nil
 | e' :: E, s, e, he, hd => by
   rw [List.foldl_cons]
   rcases List.mem_cons.1 he with rfl | he
   · refine st_seen O E _ _ ?_
     unfold stepM
     rw [if_pos hd]
     split
     · rename_i h; exact h
     · dsimp only; rw [inS_set, beq_self_eq_true, Bool.true_or]
   · exact st_dirs O E _ e he hd
theorem count_less {m : SetD} {q : Str} (hq : inS m q = false) : ∀ {D : List Str}, (D.countP fun e => !inS (mset m q true) e) + (if q ∈ D then 1 else 0) ≤ D.countP fun e => !inS m e
 | [] => by simp
 | d :: D => by
   have ih := count_less (m := m) (q := q) hq (D := D)
   rw [List.countP_cons, List.countP_cons, inS_set]
   by_cases hd : d = q
   · subst hd
     rw [beq_self_eq_true, hq]
     simp only [Bool.true_or, Bool.not_true, Bool.false_eq_true, if_false, Bool.not_false, if_true, List.mem_cons, true_or]
     split at ih <;> omega
   · have h1 : (d == q) = false := by simpa using hd
     rw [h1, Bool.false_or]
     have h2 : (q ∈ d :: D) ↔ q ∈ D := by simp [Ne.symm hd]
     simp only [h2]
     omega
theorem st_count (O : List ObjD) {D : List Str} : ∀ (E : List EntD) (s : MisD), (∀ e ∈ E, e.2.2.1 = true → e.2.1 ∈ D) → (E.foldl (stepM O) s).2.2.length + (D.countP fun e => !inS (E.foldl (stepM O) s).2.1 e) ≤ s.2.2.length + D.countP fun e => !inS s.2.1 e
 | [], s, _ => Nat.le_refl _
 | e :: E, s, h => by
   rw [List.foldl_cons]
   refine Nat.le_trans (st_count O E _ fun x hx => h x (List.mem_cons_of_mem _ hx)) ?_
   unfold stepM
   split
   · rename_i hd
     split
     · exact Nat.le_refl _
     · rename_i hi
       have := count_less (m := s.2.1) (q := e.2.1) (by simpa using hi) (D := D)
       rw [if_pos (h e List.mem_cons_self hd)] at this
       dsimp only
       rw [List.length_append, List.length_singleton]
       omega
   · split
     · exact Nat.le_refl _
     · exact Nat.le_refl _
theorem mset_ne (m : SetD) (k : Str) : mset m k true ≠ [] := by
 cases m with
 | nil => simp [mset]
 | cons x m =>
   obtain ⟨j, y⟩ := x
   rw [mset]
   split <;> simp
theorem st_gone (O : List ObjD) : ∀ (E : List EntD) (s : MisD), (E.foldl (stepM O) s).1 = [] → s.1 = [] ∧ ∀ e ∈ E, e.2.2.1 = false → (lookO O e.2.1).isSome = true
 | [], s, h => ⟨h, fun e he => absurd he List.not_mem_nil⟩
 | e :: E, s, h => by
   rw [List.foldl_cons] at h
   obtain ⟨h1, h2⟩ := st_gone O E _ h
   unfold stepM at h1
   split at h1
   · rename_i hd
     have h3 : s.1 = [] := by split at h1 <;> exact h1
     refine ⟨h3, fun e' he' hf => ?_⟩
     rcases List.mem_cons.1 he' with rfl | he'
     · rw [hd] at hf; cases hf
     · exact h2 e' he' hf
   · split at h1
     · rename_i hs
       refine ⟨h1, fun e' he' hf => ?_⟩
       rcases List.mem_cons.1 he' with rfl | he'
       · exact hs
       · exact h2 e' he' hf
     · exact absurd h1 (mset_ne _ _)
def GoneOk (G : Str → Prop) (m : SetD) : Prop := m = [] ∨ ∃ g, G g ∧ m = [(g, true)]
theorem gone_put {G : Str → Prop} (hU : ∀ g g', G g → G g' → g = g') {m : SetD} (h : GoneOk G m) {q : Str} (hq : G q) : GoneOk G (mset m q true) := by
 rcases h with rfl | ⟨g, hg, rfl⟩
 · exact .inr ⟨q, hq, rfl⟩
 · have := hU q g hq hg
   subst this
   refine .inr ⟨q, hq, ?_⟩
   rw [mset, beq_self_eq_true, if_pos rfl]
theorem st_goneOk (O : List ObjD) {G : Str → Prop} (hU : ∀ g g', G g → G g' → g = g') : ∀ (E : List EntD) (s : MisD), GoneOk G s.1 → (∀ e ∈ E, e.2.2.1 = false → lookO O e.2.1 = none → G e.2.1) → GoneOk G (E.foldl (stepM O) s).1
 | [], s, h, _ => h
 | e :: E, s, h, hE => by
   rw [List.foldl_cons]
   refine st_goneOk O hU E _ ?_ fun x hx => hE x (List.mem_cons_of_mem _ hx)
   unfold stepM
   split
   · split
     · exact h
     · exact h
   · rename_i hd
     split
     · exact h
     · rename_i hs
       exact gone_put hU h (hE e List.mem_cons_self (by simpa using hd) (by simpa using hs))
theorem range_gone {N : Nat} (hN : big ≤ N) {G : Str → Prop} {m : SetD} (h : GoneOk G m) : ∃ r : List Str, z37L3 N (fun o3 => bnd (slices_Sort_string_string o3) fun t114 => some (t114, (0 : Int))) N [] m = some (r, 0) ∧ (m = [] ∧ r = [] ∨ ∃ g, G g ∧ m = [(g, true)] ∧ r = [g]) := by
 have hb : big = 18446744073709551616 := rfl
 have hsz : Ty.sz .str = 1 := rfl
 obtain ⟨n, rfl⟩ : ∃ n, N = n + 2 := ⟨N - 2, by omega⟩
 have srt : ∀ r : List Str, r.length ≤ 1 → slices_Sort_string_string r = some r := fun r hr => by
   unfold slices_Sort_string_string
   rw [if_pos (by omega)]
   match r, hr with
   | [], _ => simp
   | [x], _ => simp
 rcases h with rfl | ⟨g, hg, rfl⟩
 · refine ⟨[], ?_, .inl ⟨rfl, rfl⟩⟩
   rw [z37L3]
   unfold z37L3T
   rw [List.isEmpty_nil, br_true]
   show bnd (slices_Sort_string_string []) _ = _
   rw [srt [] (by simp), bnd_some]
 · refine ⟨[g], ?_, .inr ⟨g, hg, rfl, rfl⟩⟩
   rw [z37L3]
   unfold z37L3T
   rw [List.isEmpty_cons, br_false]
   refine allC_of (by simp) fun i hi => ?_
   have h0 : i = 0 := by simpa using hi
   subst h0
   show br (decide ((([] : List Str).length + [g].length) * (24 * Ty.sz .str) ≤ 140737488355328)) (z37L3 (n + 2) _ (n + 1) ([] ++ [g]) []) none = _
   rw [decide_eq_true (by rw [hsz, List.length_singleton, List.length_nil]; omega), br_true, z37L3]
   unfold z37L3T
   rw [List.isEmpty_nil, br_true]
   show bnd (slices_Sort_string_string ([] ++ [g])) _ = _
   rw [List.nil_append, srt [g] (by simp), bnd_some]
theorem txt_cont (N : Nat) : ∀ (d : Nat) (l : List FileD), txt N d l ∈ cont N d l
 | 0, l => by rw [cont, txt]; exact List.mem_singleton.2 rfl
 | d + 1, l => by rw [cont]; exact List.mem_cons_self
structure EntR (N d : Nat) (l : List FileD) (e : EntD) : Prop where
 dir : e.2.2.1 = true → ∃ d' l', d = d' + 1 ∧ Tame d' l' ∧ PartsOk l' ∧ l' ≠ [] ∧ (∀ c ∈ cont N d' l', c ∈ cont N d l) ∧ e.2.1 = dg N (txt N d' l')
 file : e.2.2.1 = false → ∃ c ∈ cont N d l, e.2.1 = dg N c
theorem ent_of {N : Nat} : ∀ {d : Nat} {l : List FileD}, Tame d l → PartsOk l → ∀ e ∈ ents N d l, EntR N d l e
 | 0, l, _, _, e, he => absurd he (by rw [ents]; exact List.not_mem_nil)
 | d + 1, l, ht, hp, e, he => by
   rw [ents] at he
   obtain ⟨nd, hnd, rfl⟩ := List.mem_map.1 he
   have hcm : ∀ c ∈ contN (cont N d) nd, c ∈ cont N (d + 1) l := fun c hc => by
     rw [cont]
     exact List.mem_cons_of_mem _ (List.mem_flatMap.2 ⟨nd, hnd, hc⟩)
   have hok := ht.tn.ok nd hnd
   rcases node_cases ht hnd with ⟨x, hx, e1, _⟩ | ⟨e1, e2, hne, htw⟩
   · have ee : entT N (txt N d) nd = (nd.1, dg N x.2.2, false, x.2.1) := by unfold entT; rw [e1]
     rw [ee]
     refine ⟨fun h => Bool.noConfusion h, fun _ => ⟨x.2.2, hcm _ (by unfold contN; rw [e1]; exact List.mem_singleton.2 rfl), rfl⟩⟩
   · have ee : entT N (txt N d) nd = (nd.1, dg N (txt N d nd.2.2), true, false) := by unfold entT; rw [e1]
     rw [ee]
     refine ⟨fun _ => ⟨d, nd.2.2, rfl, htw, by rw [e2]; exact parts_within hp hok.1, hne, fun c hc => hcm c (by unfold contN; rw [e1]; exact hc), rfl⟩, fun h => Bool.noConfusion h⟩
def IsDir (N : Nat) (l : List FileD) (q : Str) : Prop := ∃ d' l', Tame d' l' ∧ PartsOk l' ∧ (∀ c ∈ cont N d' l', c ∈ cont N 201 l) ∧ q = dg N (txt N d' l') ∧ (l' ≠ [] ∨ q = dg N (txt N 201 l))
def Handled (N : Nat) (O : List ObjD) (seen : SetD) (q : Str) : Prop := ∃ b es, lookO O q = some b ∧ blob_readDir N b = some (true, es) ∧ ∀ e ∈ es, (e.2.2.1 = true → inS seen e.2.1 = true) ∧ (e.2.2.1 = false → (lookO O e.2.1).isSome = true)
def LackS (N : Nat) (l : List FileD) (O : List ObjD) (g : Str) : Prop := ∃ c ∈ cont N 201 l, dg N c = g ∧ lookO O g = none
structure MisI (N : Nat) (l : List FileD) (O : List ObjD) (s : MisD) : Prop where
 dirs : ∀ q ∈ s.2.2, IsDir N l q
 gone : GoneOk (LackS N l O) s.1
 done : s.1 = [] → ∀ q, inS s.2.1 q = true → q ∈ s.2.2 ∨ Handled N O s.2.1 q
 root : inS s.2.1 (dg N (txt N 201 l)) = true
theorem handled_all {N : Nat} (hN : big ≤ N) {l : List FileD} {O : List ObjD} (hl : ∀ c ∈ cont N 201 l, lookO O (dg N c) = some c ∨ lookO O (dg N c) = none) {seen : SetD} (hd : ∀ q, inS seen q = true → Handled N O seen q) :
   ∀ (d : Nat) (l' : List FileD), Tame d l' → PartsOk l' → (∀ c ∈ cont N d l', c ∈ cont N 201 l) → inS seen (dg N (txt N d l')) = true → ∀ c ∈ cont N d l', lookO O (dg N c) = some c
 | 0, l', ht, hp, hs, hi, c, hc => by
   obtain ⟨b, es, h1, _⟩ := hd _ hi
   have e : c = txt N 0 l' := by rw [cont, List.mem_singleton] at hc; rw [hc, txt]
   subst e
   rcases hl _ (hs _ hc) with h | h
   · exact h
   · rw [h] at h1; cases h1
 | d + 1, l', ht, hp, hs, hi, c, hc => by
   obtain ⟨b, es, h1, h2, h3⟩ := hd _ hi
   have hroot : lookO O (dg N (txt N (d + 1) l')) = some (txt N (d + 1) l') := by
     rcases hl _ (hs _ (txt_cont N (d + 1) l')) with h | h
     · exact h
     · rw [h] at h1; cases h1
   rw [hroot] at h1
   injection h1 with h1
   subst h1
   rw [readDir_ok hN (d + 1) l' ht hp] at h2
   injection h2 with h2
   have h2 : ents N (d + 1) l' = es := (Prod.mk.inj h2).2
   subst h2
   have hcl := hs c hc
   rw [cont] at hc
   rcases List.mem_cons.1 hc with rfl | hc
   · exact hroot
   · obtain ⟨nd, hnd, hc⟩ := List.mem_flatMap.1 hc
     have hok := ht.tn.ok nd hnd
     have he := h3 (entT N (txt N d) nd) (by rw [ents]; exact List.mem_map.2 ⟨nd, hnd, rfl⟩)
     have hcm : ∀ c ∈ contN (cont N d) nd, c ∈ cont N (d + 1) l' := fun c hc => by
       rw [cont]
       exact List.mem_cons_of_mem _ (List.mem_flatMap.2 ⟨nd, hnd, hc⟩)
     rcases node_cases ht hnd with ⟨x, hx, e1, _⟩ | ⟨e1, e2, hne, htw⟩
     · have ee : entT N (txt N d) nd = (nd.1, dg N x.2.2, false, x.2.1) := by unfold entT; rw [e1]
       rw [ee] at he
       have hcx : c = x.2.2 := by unfold contN at hc; rw [e1] at hc; exact List.mem_singleton.1 hc
       subst hcx
       rcases hl _ hcl with h | h
       · exact h
       · have := he.2 rfl
         dsimp only at this
         rw [h] at this; cases this
     · have ee : entT N (txt N d) nd = (nd.1, dg N (txt N d nd.2.2), true, false) := by unfold entT; rw [e1]
       rw [ee] at he
       refine handled_all hN hl hd d nd.2.2 htw (by rw [e2]; exact parts_within hp hok.1) (fun c hc => hs c (hcm c (by unfold contN; rw [e1]; exact hc))) (he.1 rfl) c ?_
       unfold contN at hc
       rw [e1] at hc
       exact hc
theorem mis_loop {N : Nat} (hN : big ≤ N) {l : List FileD} {O : List ObjD} (h : ObjsOk N l O) (hU : ∀ g g', LackS N l O g → LackS N l O g' → g = g') (k : SetD → Option τ14) :
   ∀ (f : Nat) (s : MisD), MisI N l O s → s.2.2.length + (((cont N 201 l).map (dg N)).countP fun e => !inS s.2.1 e) ≤ 300000 → s.2.2.length + (((cont N 201 l).map (dg N)).countP fun e => !inS s.2.1 e) < f →
     ∃ s', MisI N l O s' ∧ s'.2.2 = [] ∧ z37L0 N (dg N (txt N 201 l)) O k f s.1 s.2.1 s.2.2 = k s'.1
 | f + 1, (gone, seen, []), hI, _, _ => by
   refine ⟨(gone, seen, []), hI, rfl, ?_⟩
   rw [z37L0]
   unfold z37L0T
   rw [decide_eq_false (by simp), br_false]
 | f + 1, (gone, seen, q :: u), hI, h1, h2 => by
   have hb : big = 18446744073709551616 := rfl
   have hol := h.len
   have ih := mis_loop hN h hU k f
   have hg0 : geti (q :: u) (0 : Int) = some q := rfl
   simp only [List.length_cons] at h1 h2
   obtain ⟨d', l', ht, hp, hs, hq, hne⟩ := hI.dirs q List.mem_cons_self
   have htm := hs _ (txt_cont N d' l')
   rw [z37L0]
   unfold z37L0T
   rw [decide_eq_true (by rw [List.length_cons]; omega), br_true, hg0, bnd_some, decide_eq_true (by rw [List.length_cons]; omega), br_true, find_ok hN (by omega) h.asc, bnd_some, show Int.toNat (1 : Int) = 1 from rfl, List.drop_one, List.tail_cons]
   rcases h.look _ htm with hF | hG
   · rw [← hq] at hF
     have hlen : (ents N d' l').length ≤ 1000 := by
       match d', ht with
       | 0, _ => simp [ents]
       | d + 1, ht => rw [ents, List.length_map]; have := tn_len ht.tn; have := ht.len; omega
     have hrd := readDir_ok hN d' l' ht hp
     have hE := ent_of (N := N) ht hp
     have hloop := mis_l1 hN h.asc (by omega) (O := O) (fun a b c => z37L0 N (dg N (txt N 201 l)) O k f a b c) (ents N d' l') [] (gone, seen, u) N (by simp; omega) (by dsimp only; omega) (by omega)
     rw [List.nil_append, List.length_nil] at hloop
     have hI2 : MisI N l O ((ents N d' l').foldl (stepM O) (gone, seen, u)) := by
       refine ⟨fun q' hq' => ?_, ?_, fun hg q' hq' => ?_, st_seen O _ _ _ hI.root⟩
       · rcases st_from O _ _ _ hq' with h3 | ⟨e, he, h3, h4⟩
         · exact hI.dirs q' (List.mem_cons_of_mem _ h3)
         · obtain ⟨d2, l2, _, ht2, hp2, hne2, hs2, he2⟩ := (hE e he).dir h3
           exact ⟨d2, l2, ht2, hp2, fun c hc => hs c (hs2 c hc), by rw [← h4, he2], .inl hne2⟩
       · refine st_goneOk O hU _ _ hI.gone fun e he h3 h4 => ?_
         obtain ⟨c, hc, hc2⟩ := (hE e he).file h3
         exact ⟨c, hs c hc, hc2.symm, h4⟩
       · obtain ⟨h3, h4⟩ := st_gone O _ _ hg
         have hmono : ∀ q2, Handled N O seen q2 → Handled N O ((ents N d' l').foldl (stepM O) (gone, seen, u)).2.1 q2 := fun q2 ⟨b, es, x1, x2, x3⟩ => ⟨b, es, x1, x2, fun e he => ⟨fun hd => st_seen O _ _ _ ((x3 e he).1 hd), (x3 e he).2⟩⟩
         rcases st_new O _ _ _ hq' with h5 | h5
         · rcases hI.done h3 q' h5 with h6 | h6
           · rcases List.mem_cons.1 h6 with rfl | h6
             · exact .inr ⟨_, _, hF, hrd, fun e he => ⟨fun hd => st_dirs O _ _ e he hd, fun hd => h4 e he hd⟩⟩
             · exact .inl (st_todo O _ _ _ h6)
           · exact .inr (hmono _ h6)
         · exact .inl h5
     have hcnt := st_count O (D := (cont N 201 l).map (dg N)) (ents N d' l') (gone, seen, u) fun e he hd => by
       obtain ⟨d2, l2, _, _, _, _, hs2, he2⟩ := (hE e he).dir hd
       rw [he2]
       exact List.mem_map_of_mem (hs _ (hs2 _ (txt_cont N d2 l2)))
     dsimp only at hcnt
     obtain ⟨s', x1, x2, x3⟩ := ih _ hI2 (by omega) (by omega)
     refine ⟨s', x1, x2, ?_⟩
     rw [hF]
     dsimp only
     rw [Bool.not_true, br_false, hrd, bnd_some]
     dsimp only
     rw [Bool.not_true, br_false, ← x3]
     by_cases h0 : (((ents N d' l').length : Int) == 0) = true
     · have hnl : l' = [] := by
         have h0 : (ents N d' l').length = 0 := by simpa using h0
         match d', ht with
         | 0, ht => exact ht.zero
         | d + 1, ht =>
           rw [ents, List.length_map] at h0
           exact (nodes_ne ht).1 (List.eq_nil_of_length_eq_zero h0)
       have hqr : q = dg N (txt N 201 l) := by rcases hne with h3 | h3; exact absurd hnl h3; exact h3
       rw [h0, br_true, show (q == dg N (txt N 201 l)) = true by simpa using hqr, Bool.not_true, br_false]
       exact hloop
     · rw [Bool.eq_false_iff.2 h0, br_false, mis_l2]
       exact hloop
   · rw [← hq] at hG
     rw [hG]
     dsimp only
     rw [Bool.not_false, br_true]
     refine ih (mset gone q true, seen, u) ⟨fun q' hq' => hI.dirs q' (List.mem_cons_of_mem _ hq'), gone_put hU hI.gone ⟨_, htm, hq.symm, hG⟩, fun hg => absurd hg (mset_ne _ _), hI.root⟩ (by dsimp only; omega) (by dsimp only; omega)
theorem missing_ok {N : Nat} (hN : big ≤ N) {l : List FileD} {O : List ObjD} (h : ObjsOk N l O) (hU : ∀ g g', LackS N l O g → LackS N l O g' → g = g') :
   (blob_Missing N (dg N (txt N 201 l)) O = some ([], 0) ∧ ∀ c ∈ cont N 201 l, lookO O (dg N c) = some c) ∨ ∃ g, LackS N l O g ∧ blob_Missing N (dg N (txt N 201 l)) O = some ([g], 0) := by
 have hb : big = 18446744073709551616 := rfl
 have ht := tame_of h.files
 have hp := parts_of h.files
 have hlen := ht.len
 have hcl := cont_len (N := N) 201 l ht
 have hcp : (((cont N 201 l).map (dg N)).countP fun e => !inS (mset [] (dg N (txt N 201 l)) true) e) ≤ (cont N 201 l).length := by
   have := List.countP_le_length (p := fun e => !inS (mset [] (dg N (txt N 201 l)) true) e) (l := (cont N 201 l).map (dg N))
   rwa [List.length_map] at this
 have hin : ∀ q, inS (mset [] (dg N (txt N 201 l)) true) q = true ↔ q = dg N (txt N 201 l) := fun q => by
   rw [inS_set]
   have : inS [] q = false := rfl
   rw [this, Bool.or_false, beq_iff_eq]
 have hI : MisI N l O ([], mset [] (dg N (txt N 201 l)) true, [dg N (txt N 201 l)]) := by
   refine ⟨fun q hq => ?_, .inl rfl, fun _ q hq => .inl ?_, (hin _).2 rfl⟩
   · have := List.mem_singleton.1 hq
     exact ⟨201, l, ht, hp, fun c hc => hc, this, .inr this⟩
   · exact List.mem_singleton.2 ((hin q).1 hq)
 obtain ⟨s', x1, x2, x3⟩ := mis_loop hN h hU (fun o0 => z37L3 N (fun o3 => bnd (slices_Sort_string_string o3) fun t114 => some (t114, (0 : Int))) N [] o0) N _ hI (by dsimp only; rw [List.length_singleton]; omega) (by dsimp only; rw [List.length_singleton]; omega)
 dsimp only at x3
 obtain ⟨r, y1, y2⟩ := range_gone hN x1.gone
 have hM : blob_Missing N (dg N (txt N 201 l)) O = some (r, 0) := by
   unfold blob_Missing
   rw [checkRoot_ok hN h, bnd_some, show ((0 : Int) != 0) = false from rfl, br_false, x3]
   exact y1
 rcases y2 with ⟨y2, rfl⟩ | ⟨g, hg, _, rfl⟩
 · refine .inl ⟨hM, handled_all hN h.look (fun q hq => ?_) 201 l ht hp (fun c hc => hc) x1.root⟩
   rcases x1.done y2 q hq with h3 | h3
   · rw [x2] at h3; exact absurd h3 List.not_mem_nil
   · exact h3
 · exact .inr ⟨g, hg, hM⟩
end Go.Proofs.YtjiddcchklaiiaaGreatDoor


/- BlobTreesComeBack, plainly. -/
namespace Go.Proofs.YtjiddcchklaiiaaGreatDoor
set_option linter.unusedVariables false
set_option linter.unusedSimpArgs false
open Go Go.RowKit
theorem objsOk_of {N : Nat} (hN : big ≤ N) {l : List FileD} (hf : FilesOk l) (hF : Faith N (cont N 201 l)) (hn : (objsL N l).length ≤ 4000) {O : List ObjD} (hs : O.Sublist (objsL N l)) : ObjsOk N l O where
 files := hf
 len := Nat.le_trans hs.length_le hn
 asc := objs_asc.sublist hs
 dig := fun x hx => by
   obtain ⟨b, hb, rfl⟩ := objs_of x (hs.subset hx)
   exact ⟨rfl, cont_small hN 201 l (tame_of hf) b hb⟩
 look := fun c hc => by
   cases hl : lookO O (dg N c) with
   | none => exact .inr rfl
   | some b =>
     obtain ⟨b', hb', e⟩ := objs_of _ (hs.subset (lookO_mem hl))
     have e1 := (Prod.mk.inj e).1
     have e2 := (Prod.mk.inj e).2
     have := hF c hc b' hb' e1
     rw [e2, ← this]
     exact .inl rfl
end Go.Proofs.YtjiddcchklaiiaaGreatDoor


/- A function of the library that changes a row of its caller's and hands it back with another slice, as a meaning of the machine (two marks: the caller's slice is not the row's any more). For any program. -/
namespace Go.Proofs.YtjiddcchklaiiaaGreatDoor
set_option linter.unusedVariables false
set_option linter.unusedSimpArgs false
open Go Go.RowKit
theorem Sound.ofRowB {P : Program} {G : World → Prop} {B0 : Nat} {f : FuncId} {ps : List Sl} {e : TypeId} {t : Ty} {F : SV ps → List t.den → Option (List t.den)}
   (hcall : ∀ (args : Array Value) (w : World), (callFunc f args).run P w = .ok (.enter f args) w) (hz : 0 < t.sz)
   (h : ∀ (M : Nat → Nat → Prop) (w : World) (g : Gh) (v0 : Value) (vs : List Value) (x : SV ps) (xs zs : List t.den) (cs : List Value), G w → (∀ b o, M b o → b < w.heap.size) → (∀ b, v0.ownBlock = some b → ∀ o, M b o) →
     w.ownsRow 0 e t.sz v0 xs.length cs → Els M w t xs cs → All2 (RepD0 M w g) (lays id ps x) vs → F x xs = some zs →
     Calls P f (v0 :: vs).toArray w fun en w' => ∃ v' cs', en = .returned v' ∧ ExtX (fun b => v0.ownBlock = some b) w w' ∧
       w'.ownsRow 0 e t.sz v' zs.length cs' ∧ Els M w t zs cs' ∧ ∀ b, v'.ownBlock = some b → v0.ownBlock = some b ∨ w.heap.size ≤ b) :
   Sound P G B0 f ⟨.row 0 :: ps, [.row e t true], [.row 0], [.row e t true, .none, .none], List t.den, fun z => (((), ()), (z, ((), ((), ())))), fun x y => F x.2 y.1⟩ := by
 refine ⟨hcall, fun M w g vs0 x y zs hG hB hF hz' => ?_⟩
 obtain ⟨_, x⟩ := x
 obtain ⟨xs, _⟩ := y
 match vs0, hF.args with
 | v0 :: vs, ⟨h0, hA⟩ =>
   obtain ⟨gx, A, n, c, hg0, hv, hv2⟩ := h0
   obtain ⟨gx', hg', _, cs, hown, hblk, hlo, hels⟩ := hF.res 0 (.row e t true xs) rfl
   replace hg0 : g 0 = some gx := hg0
   rw [hg'] at hg0
   cases hg0
   have hlo : gx.lo = 0 := hlo
   rw [← hv] at hown hblk
   have hM : ∀ b, v0.ownBlock = some b → ∀ o, M b o := fun b hb o => (hF.chg 0 gx b o hg' (by rw [hblk]; exact hb)).2 (by rw [hlo]; exact Nat.zero_le _)
   have honly : ∀ r gy, g r = some gy → r = 0 := fun r gy hr => by have := hF.dom r gy hr; exact Nat.lt_one_iff.1 this
   have hX : ∀ b, Xof g b ↔ v0.ownBlock = some b := fun b => by
     constructor
     · rintro ⟨r, gy, hr, hb⟩
       obtain rfl := honly r gy hr
       rw [hg'] at hr; cases hr
       rw [← hblk]; exact hb
     · intro hb
       exact ⟨0, gx, hg', by rw [hblk]; exact hb⟩
   refine (h M w g v0 vs x xs zs cs hG hF.mlt hM hown hels hA hz').mono fun en w' hp => ?_
   obtain ⟨v', cs', he, hE, hown', hels', hblk'⟩ := hp
   obtain ⟨g', hgd⟩ : ∃ g' : Gh, g' = fun r => if r = 0 then some ⟨v'.ownBlock, 0, v'⟩ else none := ⟨_, rfl⟩
   have hg0' : g' 0 = some ⟨v'.ownBlock, 0, v'⟩ := by rw [hgd]; rfl
   have hgo : ∀ r gy, g' r = some gy → r = 0 ∧ gy = ⟨v'.ownBlock, 0, v'⟩ := fun r gy hr => by
     rw [hgd] at hr
     by_cases h0 : r = 0
     · subst h0; simp at hr; exact ⟨rfl, hr.symm⟩
     · simp [h0] at hr
   have hnew : ∀ b o, Mafter M g g' b o → (M b o ∧ v0.ownBlock ≠ some b) ∨ v'.ownBlock = some b := fun b o hm => by
     rcases hm with ⟨hm, hx⟩ | ⟨r, gy, hr, hb, _⟩
     · exact .inl ⟨hm, fun hb => hx ((hX b).2 hb)⟩
     · obtain ⟨_, rfl⟩ := hgo r gy hr
       exact .inr hb
   have hstep : Step M w (Mafter M g g') w' := by
     have key : ∀ b o, b < w.heap.size → ¬ M b o → w'.heap[b]? = w.heap[b]? ∧ ¬ Mafter M g g' b o := fun b o hb hm => by
       have hnb : v0.ownBlock ≠ some b := fun h => hm (hM b h o)
       refine ⟨hE.block b hb hnb, fun hm' => ?_⟩
       rcases hnew b o hm' with ⟨h1, _⟩ | h1
       · exact hm h1
       · rcases hblk' b h1 with h2 | h2
         · exact hnb h2
         · omega
     refine ⟨fun ad u hu hm => ?_, fun b es c hb hm => ?_⟩
     · have hlt : ad.block < w.heap.size := World.block_lt_of_cell? w _ hu
       obtain ⟨h1, h2⟩ := key ad.block ad.off hlt hm
       exact ⟨(cell_of_block h1).trans hu, h2⟩
     · obtain ⟨h1, h2⟩ := key b 0 (lt_of_map hb) hm
       exact ⟨h1.trans hb, h2⟩
   obtain ⟨A', c', hv', _⟩ := Row.of_own' hown'
   have hlow : ∀ b, v'.ownBlock = some b → B0 ≤ b ∧ b < w'.heap.size := fun b hb => by
     refine ⟨?_, own_lt hown' hb⟩
     rcases hblk' b hb with h1 | h1
     · exact (hF.low 0 gx b hg' (by rw [hblk]; exact h1)).1
     · omega
   have hrow : RepD0 (Mafter M g g') w' g' (.row 0) v' := ⟨_, A', _, c', hg0', rfl, hv'⟩
   refine ⟨[v'], g', ?_, ⟨hE.os, hE.tape, hE.output, hE.size, fun k hk hx => hE.block k hk fun hb => hx ((hX k).2 hb)⟩, hstep, ?_, fun r gy hr hbm => ?_, fun b hb => ?_⟩
   · rw [he]
     rfl
   · exact {
       args := ⟨hrow, trivial⟩
       res := fun r blk hr => by
         cases r with
         | zero =>
           obtain rfl : Blk.row e t true zs = blk := Option.some.inj hr
           exact ⟨_, hg0', hz, cs', hown', rfl, rfl, fun i hi => RepC.step hstep _ _ _ (hels' i hi)⟩
         | succ r =>
           cases r with
           | zero => cases hr
           | succ r =>
             cases r with
             | zero => cases hr
             | succ r => cases hr
       dom := fun r gy hr => by obtain ⟨rfl, _⟩ := hgo r gy hr; exact Nat.zero_lt_succ _
       inj := fun r r' gy gy' b hr hr' _ _ => by obtain ⟨rfl, _⟩ := hgo r gy hr; obtain ⟨rfl, _⟩ := hgo r' gy' hr'; rfl
       low := fun r gy b hr hb => by obtain ⟨_, rfl⟩ := hgo r gy hr; exact hlow b hb
       chg := fun r gy b o hr hb => ⟨fun _ => by obtain ⟨_, rfl⟩ := hgo r gy hr; exact Nat.zero_le _, fun hle => .inr ⟨r, gy, hr, hb, hle⟩⟩
       mlt := fun b o hm => by
         rcases hnew b o hm with ⟨h1, _⟩ | h1
         · exact Nat.lt_of_lt_of_le (hF.mlt b o h1) hE.size
         · exact (hlow b h1).2
       row := fun r gy b hr hb h0 => by obtain ⟨_, rfl⟩ := hgo r gy hr; exact absurd h0 (Nat.lt_irrefl 0) }
   · obtain rfl := honly r gy hr
     rw [hg'] at hr; cases hr
     rw [← hv] at hbm
     exact hbm.elim (fun h => (own_notBM hown h).elim) (fun h => Bool.noConfusion (show false = true from h.2))
   · obtain ⟨r, gy, hr, hb⟩ := hb
     obtain ⟨_, rfl⟩ := hgo r gy hr
     rcases hblk' b hb with h1 | h1
     · exact .inl ((hX b).2 h1)
     · exact .inr h1
end Go.Proofs.YtjiddcchklaiiaaGreatDoor


/- slices.Delete of objects: it turns a row of its caller's. -/
namespace Go.Proofs.YtjiddcchklaiiaaGreatDoor
set_option linter.unusedVariables false
set_option linter.unusedSimpArgs false
open Go Go.RowKit Go.Shelf Go.Lib
def slices_Delete_object (i j : Int) (xs : List τ3) : Option τ16 := if 0 ≤ i ∧ i < j ∧ j ≤ (xs.length : Int) then some (xs.take i.toNat ++ xs.drop j.toNat) else none
theorem clear_agg {P : Program} (w : World) (t e ty : TypeId) (z : Value) (s : Nat) (ht : P.underlying t = some (.slice e)) (hv : ∀ w, (zeroValue e).run P w = .ok z w) (hs : z.cells.size = s) (h0 : 0 < s) (h1 : ∀ u ∈ z.cells, u.oneCell' = true) (b o n : Nat) (hn : 0 < n)
   (hc : ∀ k, k < n * s → (w.cell? ⟨b, o + k, none⟩).isSome = true) (hf : ∀ k, k < n * s → w.frozen? ⟨b, o + k, none⟩ = false) :
   ∃ zs : List Value, zs.length = n * s ∧ ∀ c, (Builtin.clear_ #[t] ty #[.slice (some ⟨b, o, none⟩) n c]).run P w = .ok (.tuple #[]) (w.setCells b o zs) := by
 subst hs
 refine ⟨(Builtin.zeroCells z.cells n).toList, by simp [Builtin.zeroCells], fun c => ?_⟩
 have hlen : (Builtin.zeroCells z.cells n).toList.length = n * z.cells.size := by simp [Builtin.zeroCells]
 have hone : ∀ v ∈ (Builtin.zeroCells z.cells n).toList, v.oneCell' = true := fun v hv' => by
   simp only [Builtin.zeroCells, Array.toList_map, List.mem_map] at hv'
   obtain ⟨k, _, rfl⟩ := hv'
   have hk := Nat.mod_lt k h0
   rw [getElem!_pos z.cells (k % z.cells.size) hk]
   exact h1 _ (Array.getElem_mem hk)
 have hst := run_storeCells_cells (P := P) b o (Builtin.zeroCells z.cells n).toList 0 w (by rw [hlen]; simpa using hc) (by rw [hlen]; simpa using hf) hone
 rw [Nat.add_zero] at hst
 obtain ⟨m, rfl⟩ : ∃ m, n = m + 1 := ⟨n - 1, by omega⟩
 simp [Builtin.clear_, run_underlying ht, hv, hst]
set_option maxHeartbeats 4000000 in
set_option maxRecDepth 1000000 in
theorem delete_objs (b cap n i j : Nat) (cur : Array Value) (w : World) (hg : w.heap[b]? = some (.cells cur 38 (0, 0))) (hsz : cur.size = cap * 2) (hle : n ≤ cap) (hm : cap ≤ 9223372036854775807) (hij : i < j) (hj : j ≤ n)
   (hone : ∀ u ∈ (cur.toList.take (n * 2)).drop (j * 2), u.oneCell' = true) :
   Calls Tryz.prog 11 #[.slice (some ⟨b, 0, none⟩) n cap, .int .i64 i, .int .i64 j] w fun e w' => e = .returned (.slice (some ⟨b, 0, none⟩) (i + (n - j)) cap) ∧
     ∃ zs : List Value, zs.length = (n - (i + (n - j))) * 2 ∧ w' = (w.drew.setCells b (i * 2) ((cur.toList.take (n * 2)).drop (j * 2))).setCells b ((i + (n - j)) * 2) zs := by
 have ht := Tryz.underlying23
 have hv : ∀ w, (zeroValue 38).run Tryz.prog w = .ok (.agg #[.string ⟨#[]⟩, .slice none 0 0]) w := by intro w; kernel_rfl
 obtain ⟨news, hnews⟩ : ∃ news, news = (cur.toList.take (n * 2)).drop (j * 2) := ⟨_, rfl⟩
 rw [← hnews] at hone ⊢
 have hlen : news.length = (n - j) * 2 := by rw [hnews, List.length_drop, List.length_take, Array.length_toList]; omega
 have hcellW : ∀ k, k < cap * 2 → (w.drew.cell? ⟨b, k, none⟩).isSome = true ∧ w.drew.frozen? ⟨b, k, none⟩ = false := fun k hk => by
   have hg' : w.drew.heap[b]? = some (.cells cur 38 (0, 0)) := hg
   refine ⟨?_, by unfold World.frozen?; rw [hg']; simp⟩
   unfold World.cell?
   rw [hg']
   show (cur[k]?).isSome = true
   rw [Array.getElem?_eq_getElem (by omega)]
   rfl
 obtain ⟨A, hA, hsrc⟩ : ∃ A : Addr, (if cap = j then some (⟨b, 0, none⟩ : Addr) else some ⟨b, j * 2, none⟩) = some A ∧ Hid (∀ t u, news[t]? = some u → w.drew.cell? (A.add t) = some u) := by
   by_cases h : cap = j
   · refine ⟨⟨b, 0, none⟩, by simp [h], fun t u hu => ?_⟩
     have h0 : news.length = 0 := by rw [hlen]; omega
     rw [List.length_eq_zero_iff.1 h0] at hu
     simp at hu
   · refine ⟨⟨b, j * 2, none⟩, by simp [h], fun t u hu => ?_⟩
     rw [hnews, List.getElem?_drop, List.getElem?_take] at hu
     split at hu
     · rw [Addr.add_lit]
       have hg' : w.drew.heap[b]? = some (.cells cur 38 (0, 0)) := hg
       unfold World.cell?
       rw [hg']
       simpa using hu
     · cases hu
 have s1 : Hid (news.length = (n - j) * 2) := hlen
 have s2 : Hid (∀ u ∈ news, u.oneCell' = true) := hone
 have s3 : Hid (∀ t, t < news.length → (w.drew.cell? ⟨b, 0 + i * 2 + t, none⟩).isSome = true ∧ w.drew.frozen? ⟨b, 0 + i * 2 + t, none⟩ = false) := fun t ht => by
   rw [hlen] at ht
   exact hcellW _ (by omega)
 obtain ⟨W1, hW1⟩ : ∃ W1, W1 = w.drew.setCells b (0 + i * 2) news := ⟨_, rfl⟩
 have hg1 := setCells_block b 38 (0, 0) news (0 + i * 2) w.drew cur hg (by rw [hlen]; omega)
 rw [← hW1] at hg1
 have hcell1 : ∀ k, k < cap * 2 → (W1.cell? ⟨b, k, none⟩).isSome = true ∧ W1.frozen? ⟨b, k, none⟩ = false := fun k hk => by
   refine ⟨?_, by unfold World.frozen?; rw [hg1]; simp⟩
   unfold World.cell?
   rw [hg1]
   have hs1 : (cur.toList.take (0 + i * 2) ++ news ++ cur.toList.drop (0 + i * 2 + news.length)).toArray.size = cap * 2 := by
     simp only [List.size_toArray, List.length_append, List.length_take, List.length_drop, Array.length_toList, hlen]
     omega
   show (((cur.toList.take (0 + i * 2) ++ news ++ cur.toList.drop (0 + i * 2 + news.length)).toArray)[k]?).isSome = true
   rw [Array.getElem?_eq_getElem (by rw [hs1]; exact hk)]
   rfl
 obtain ⟨zs, hzl, hcl⟩ := clear_agg (P := Tryz.prog) W1 23 38 0 _ 2 ht hv rfl (by decide) (fun u hu => by rcases (by simpa [Value.cells] using hu : u = .string ⟨#[]⟩ ∨ u = .slice none 0 0) with rfl | rfl <;> rfl) b ((i + (n - j)) * 2) (n - (i + (n - j))) (by omega) (fun k hk => (hcell1 _ (by omega)).1) (fun k hk => (hcell1 _ (by omega)).2)
 have hW : Hid (W1 = w.drew.setCells b (0 + i * 2) news) := hW1
 have hi0 : Tryz.prog.info? 38 = some Tryz.t38 := by kernel_rfl
 have hz0 : Tryz.t38.size = 2 := by kernel_rfl
 have hic : i ≤ cap := by omega
 have hjc : j ≤ cap := by omega
 suffices hmain : Calls Tryz.prog 11 #[.slice (some ⟨b, 0, none⟩) n cap, .int .i64 i, .int .i64 j] w fun e w' => e = .returned (.slice (some ⟨b, 0, none⟩) (i + (n - j)) cap) ∧ w' = W1.setCells b ((i + (n - j)) * 2) zs by
   exact hmain.mono fun e w' hp => ⟨hp.1, zs, hzl, by rw [hp.2, hW1, Nat.zero_add]⟩
 clear hW1 hg1 hcell1 hcellW hg hnews hlen hv hzl hone
 go_enter Tryz.func11, Tryz.ntmps11
 go_wp2_with fail
 go_region_law (refine step_append_room rfl (.tmp 22) (.tmp 25) 23 rfl 38 _ 2 ht hi0 hz0 b 0 i cap (by simp [Act.eval, Act.put]) A (n - j) (cap - j) news (by simp [Act.eval, Act.put, hA]) s1.out hsrc.out s2.out (by omega) s3.out ?_; rw [← hW.out])
 go_wp2
 go_ret
 exact ⟨rfl, rfl⟩
theorem elsD_one {M : Nat → Nat → Prop} {w : World} {t : Ty} (hz : 0 < t.sz) {xs : List t.den} {cs : List Value} (hl : cs.length = xs.length * t.sz) (h : Els M w t xs cs) : ∀ v ∈ cs, v.oneCell' = true := fun v hv => by
 obtain ⟨k, hk, rfl⟩ := List.getElem_of_mem hv
 have hd : k / t.sz < xs.length := by rw [Nat.div_lt_iff_lt_mul hz]; omega
 refine RepC.one _ _ _ (h (k / t.sz) hd) _ ?_
 have hm := Nat.mod_lt k hz
 have hk2 : k / t.sz * t.sz + k % t.sz = k := by rw [Nat.mul_comm]; exact Nat.div_add_mod k t.sz
 refine List.mem_of_getElem? (i := k % t.sz) ?_
 rw [List.getElem?_take, if_pos hm, List.getElem?_drop, hk2, List.getElem?_eq_getElem hk]
theorem ElsD_append {M : Nat → Nat → Prop} {w : World} {t : Ty} {xs ys : List t.den} {cs ds : List Value} (hl : cs.length = xs.length * t.sz) (hx : Els M w t xs cs) (hy : Els M w t ys ds) : Els M w t (xs ++ ys) (cs ++ ds) := fun i h => by
 rcases Nat.lt_or_ge i xs.length with hi | hi
 · have hb : i * t.sz + t.sz ≤ xs.length * t.sz := by
     have : (i + 1) * t.sz ≤ xs.length * t.sz := Nat.mul_le_mul_right _ hi
     rw [Nat.add_mul] at this; omega
   rw [List.getElem_append_left hi, List.drop_append_of_le_length (by omega), List.take_append_of_le_length (by rw [List.length_drop]; omega)]
   exact hx i hi
 · have hi2 : i - xs.length < ys.length := by rw [List.length_append] at h; omega
   have hb : xs.length * t.sz ≤ i * t.sz := Nat.mul_le_mul_right _ hi
   have := hy (i - xs.length) hi2
   rw [List.getElem_append_right hi]
   have e : (cs ++ ds).drop (i * t.sz) = ds.drop ((i - xs.length) * t.sz) := by
     rw [List.drop_append, List.drop_eq_nil_of_le (by omega), List.nil_append, hl, Nat.sub_mul]
   rw [e]; exact this
theorem ElsD_take {M : Nat → Nat → Prop} {w : World} {t : Ty} {xs : List t.den} {cs : List Value} (hx : Els M w t xs cs) (n : Nat) : Els M w t (xs.take n) (cs.take (n * t.sz)) := fun i h => by
 rw [List.length_take] at h
 have hb : i * t.sz + t.sz ≤ n * t.sz := by
   have : (i + 1) * t.sz ≤ n * t.sz := Nat.mul_le_mul_right _ (by omega)
   rw [Nat.add_mul] at this; omega
 rw [List.getElem_take, List.drop_take, List.take_take, Nat.min_eq_left (by omega)]
 exact hx i (by omega)
theorem ElsD_drop {M : Nat → Nat → Prop} {w : World} {t : Ty} {xs : List t.den} {cs : List Value} (hx : Els M w t xs cs) (n : Nat) : Els M w t (xs.drop n) (cs.drop (n * t.sz)) := fun i h => by
 rw [List.length_drop] at h
 rw [List.getElem_drop, List.drop_drop, ← Nat.add_mul]
 exact hx (n + i) (by omega)
theorem z16sound : Sound Tryz.prog GW B0G 11 ⟨[.row 0, .v τ5, .v τ5], [.row 38 τ7 true], [.row 0], [.row 38 τ7 true, .none, .none], List τ3, fun z => (((), ()), (z, ((), ((), ())))), fun x y => slices_Delete_object x.2.1 x.2.2.1 y.1⟩ := by
 refine Sound.ofRowB (ps := [.v τ5, .v τ5]) (t := .pr .str τ17) (F := fun x xs => slices_Delete_object x.1 x.2.1 xs) Tryz.call11 (by decide) fun M w g v0 vs x xs zs cs hG hMl hM hown hels hA hz => ?_
 obtain ⟨i, j, u⟩ := x
 match vs, hA with
 | [v1, v2], hA =>
   obtain ⟨h1, h2, _⟩ := hA
   rw [RepV.int h1, RepV.int h2]
   change slices_Delete_object i j xs = some zs at hz
   unfold slices_Delete_object at hz
   split at hz
   case isFalse => cases hz
   rename_i hc
   injection hz with hz
   obtain ⟨hi0, hij, hjl⟩ := hc
   obtain ⟨i, rfl⟩ : ∃ n : Nat, i = (n : Int) := ⟨Int.toNat i, (Int.toNat_of_nonneg hi0).symm⟩
   obtain ⟨j, rfl⟩ : ∃ n : Nat, j = (n : Int) := ⟨Int.toNat j, (Int.toNat_of_nonneg (Int.le_trans hi0 (Int.le_of_lt hij))).symm⟩
   replace hij : (i : Int) < (j : Int) := hij
   replace hjl : (j : Int) ≤ (xs.length : Int) := hjl
   rw [Int.toNat_natCast, Int.toNat_natCast] at hz
   have hl : cs.length = xs.length * 2 := hown.1
   rcases hown.2 with ⟨e1, e2⟩ | ⟨b, cap, cur, e1, _, hg, hle, hmax, hsz, htk⟩
   · omega
   · subst e1
     replace hsz : cur.size = cap * 2 := hsz
     replace htk : cur.toList.take (xs.length * 2) = cs := htk
     have hone := elsD_one (by decide) hown.1 hels
     refine (delete_objs b cap xs.length i j cur w hg hsz hle (by unfold maxLen at hmax; omega) (by omega) (by omega) fun u hu => hone u (by rw [htk] at hu; exact List.mem_of_mem_drop hu)).mono fun e w' hp => ?_
     obtain ⟨rfl, ds, hdl, rfl⟩ := hp
     rw [htk]
     have hnl : (cs.drop (j * 2)).length = (xs.length - j) * 2 := by rw [List.length_drop, hl]; omega
     have hcl : cur.toList.length = cap * 2 := by rw [Array.length_toList]; exact hsz
     have hb1 := setCells_block b 38 (0, 0) (cs.drop (j * 2)) (i * 2) w.drew cur hg (by rw [hnl]; omega)
     have hs1 : (cur.toList.take (i * 2) ++ cs.drop (j * 2) ++ cur.toList.drop (i * 2 + (cs.drop (j * 2)).length)).length = cap * 2 := by
       simp only [List.length_append, List.length_take, List.length_drop, hcl, hl]; omega
     have hb2 := setCells_block b 38 (0, 0) ds ((i + (xs.length - j)) * 2) _ _ hb1 (by rw [List.size_toArray, hs1, hdl]; omega)
     have hzl : zs.length = i + (xs.length - j) := by rw [← hz, List.length_append, List.length_take, List.length_drop]; omega
     refine ⟨_, cs.take (i * 2) ++ cs.drop (j * 2), rfl, ?_, ⟨?_, .inr ⟨b, cap, _, by rw [hzl], Nat.zero_le _, hb2, by omega, hmax, ?_, ?_⟩⟩, ?_, fun b hb => .inl hb⟩
     · have x1 := setCells_ext (w := w) (q := 1) (b := b) (o := i * 2) (vs := cs.drop (j * 2))
       have x2 := setCells_ext (w := w.drew.setCells b (i * 2) (cs.drop (j * 2))) (q := 0) (b := b) (o := (i + (xs.length - j)) * 2) (vs := ds)
       exact (x1.trans x2 fun n _ h => h).mono (fun k hk => by simpa [Value.ownBlock] using hk)
     · show (cs.take (i * 2) ++ cs.drop (j * 2)).length = zs.length * 2
       rw [List.length_append, List.length_take, hnl, hl, hzl]; omega
     · show _ = cap * 2
       rw [List.size_toArray]
       simp only [List.length_append, List.length_take, List.length_drop, hs1, hdl]; omega
     · show (List.toArray _).toList.take (zs.length * 2) = _
       have hk : (cur.toList.take (i * 2) ++ cs.drop (j * 2)).length = zs.length * 2 := by
         rw [List.length_append, List.length_take, hnl, hcl, hzl]; omega
       have hti : cur.toList.take (i * 2) = cs.take (i * 2) := by rw [← htk, List.take_take, Nat.min_eq_left (by omega)]
       rw [← hzl, List.append_assoc, List.take_append_of_le_length (by rw [List.length_take, hs1]; omega), List.take_take, Nat.min_self, ← hk, List.take_left, hti]
     · rw [← hz]
       exact ElsD_append (by rw [List.length_take, List.length_take, hl]; show _ = min i xs.length * 2; omega) (ElsD_take hels i) (ElsD_drop hels j)
end Go.Proofs.YtjiddcchklaiiaaGreatDoor



/- What functions of the program compute, as plain functions (printed). -/
namespace Go.Proofs.YtjiddcchklaiiaaGreatDoor
open Go Go.RowKit
set_option maxRecDepth 100000
set_option linter.unusedVariables false
noncomputable section
def z8L0T (_N : Nat) (x0 : List Str) (x1 : List Str) (c12 : Int) (k0 : Option Bool) (self : Int → Option Bool) (s13 : Int) : Option Bool :=
 br (decide (s13 < c12))
   (bnd (geti x0 s13) fun t18 =>
   bnd (geti x1 s13) fun t22 =>
   br (!(t18 == t22))
     (some false)
     (self (IntKind.i64.wrap (s13 + (1 : Int)))))
   (k0)
def z8L0 (N : Nat) (x0 : List Str) (x1 : List Str) (c12 : Int) (k0 : Option Bool) : Nat → Int → Option Bool
 | 0, _ => none
 | n + 1, s13 => z8L0T N x0 x1 c12 k0 (z8L0 N x0 x1 c12 k0 n) s13
def slices_Equal_string_string (N : Nat) (x0 : List Str) (x1 : List Str) : Option Bool :=
 br ((x0.length : Int) != (x1.length : Int))
   (some false)
   (z8L0 N x0 x1 (x0.length : Int) (some true) N (0 : Int))
abbrev z8sg (f : SV [.v (.sl .str), .v (.sl .str)] → BV [] → Option (Bool)) : AF := { ps := [.v (.sl .str), .v (.sl .str)], bs := [], rs := [.v .bool], cs := [], R := Bool, out := fun z => ((z, ()), ()), f := f }
noncomputable abbrev z8g (N : Nat) : AF := z8sg fun x _ => slices_Equal_string_string N x.1 x.2.1
abbrev z8pk : SV [.v .bool] → BV [] → Bool := fun x _ => x.1
def z8fn (_N : Nat) : FuncId → Option Tmp → Option AF := fun f _ =>
 match f with
   | _ => none
theorem z8fn_ok (N : Nat) : FnOk (z8fn N) := by
 intro f q F h
 unfold z8fn at h
 split at h
 · cases h
def z8h : Nat → Hint := fun i =>
 match i with
 | 0 => ⟨[], [0, 1, 12, 13], [], [], [], []⟩
 | _ => hint0
abbrev z8E (N : Nat) : Env := mkE z8h (z8fn N) FF FF
noncomputable abbrev z8c0 : Code := cAt (bodyOf Tryz.f13) [true, true, false, true, false, false]
noncomputable abbrev z8R (N : Nat) := resD (z8E N) Tryz.f13 (z8g N) z8pk
abbrev z8L0_fs : List (Nat × Sl) := [(0, .v (.sl .str)), (1, .v (.sl .str)), (12, .v τ5), (13, .v τ5)]
abbrev z8L0_bs : List (Nat × Sb) := []
def z8L0_hd (x0 : List Str) (x1 : List Str) (c12 : Int) (s13 : Int) : St := ⟨26, [(0, .v (.sl .str) x0), (1, .v (.sl .str) x1), (12, .v τ5 c12), (13, .v τ5 s13)], []⟩
def z8L0_tl0 (_x0 : List Str) (_x1 : List Str) (_c12 : Int) : St := ⟨26, [], []⟩
def z8L0_G (N : Nat) (x0 : List Str) (x1 : List Str) (c12 : Int) (s13 : Int) (k : Ex → St → Option Bool) : Option Bool :=
 z8L0 N x0 x1 c12 (k (.exit 0) (z8L0_tl0 x0 x1 c12)) N s13
abbrev z8L0_F (N : Nat) : FV z8L0_fs → HV z8L0_bs → (Ex → St → Option Bool) → Option Bool := fun x _ k => z8L0_G N x.1 x.2.1 x.2.2.1 x.2.2.2.1 k
noncomputable def z8LP (N : Nat) : Nat → Code → St → (Ex → St → Option Bool) → Option Bool := fun i c =>
 match i with
 | 0 => (LPc 26 z8L0_fs z8L0_bs (z8L0_F N) (fun st k => iter (z8h 0) (exec (z8E N) N c 0) N st k))
 | i => fun st k => iter (z8h i) (exec (z8E N) N c i) N st k
theorem z8L0_step (N : Nat) (x0 : List Str) (x1 : List Str) (c12 : Int) (KX : Nat → St → Option Bool) (I : St → Option Bool) (s13 : Int) :
   execL (z8LP N) (z8E N) z8c0 0 (z8L0_hd x0 x1 c12 s13) (roundK (z8h 0) I KX (z8R N)) = z8L0T N x0 x1 c12 (KX 0 (z8L0_tl0 x0 x1 c12)) (fun s13 => I (z8L0_hd x0 x1 c12 s13)) s13 := by kernel_rfl
theorem z8L0_ok (N : Nat) : ∀ x y k, (∀ st, k .ret st = (z8R N) st) → iter (z8h 0) (exec (z8E N) N z8c0 0) N ⟨26, unF z8L0_fs x, unH z8L0_bs y⟩ k = z8L0_F N x y k := fun x _ k hk =>
 iter_link (S := (Int) × Unit) (z8h 0) _ (execL (z8LP N) (z8E N) z8c0 0) (z8R N) (fun st k hk => execL_eq _ _ N _ z8c0 0 (show LoopsOk (z8LP N) (z8E N) N (z8R N) [] from trivial) st k hk) (fun s => z8L0_hd x.1 x.2.1 x.2.2.1 s.1) k hk
   (fun self s => z8L0T N x.1 x.2.1 x.2.2.1 (k (.exit 0) (z8L0_tl0 x.1 x.2.1 x.2.2.1)) (fun s13 => self (s13, ())) s.1) (fun n s => z8L0 N x.1 x.2.1 x.2.2.1 (k (.exit 0) (z8L0_tl0 x.1 x.2.1 x.2.2.1)) n s.1) (fun _ => rfl) (fun _ _ => rfl)
   (fun I s => z8L0_step N x.1 x.2.1 x.2.2.1 (fun j => k (.exit j)) I s.1) N (x.2.2.2.1, ())
theorem z8lp0 (N : Nat) : ∀ st k, (∀ st, k .ret st = (z8R N) st) → z8LP N 0 z8c0 st k = iter (Env.hint (z8E N) 0) (exec (z8E N) N z8c0 0) N st k := fun st k hk => LPc_eq 26 z8L0_fs z8L0_bs _ _ (z8R N) (z8L0_ok N) _ st k hk (rfl)
theorem z8core (N : Nat) (x : SV [.v (.sl .str), .v (.sl .str)]) (y : BV []) : runL (z8E N) Tryz.f13 (z8g N) z8pk (z8LP N) x y = slices_Equal_string_string N x.1 x.2.1 := by kernel_rfl
theorem z8sound (N : Nat) : Snd 13 (z8g N) :=
 sndL (z8fn_ok N) Tryz.func13 rfl Tryz.call13 (z8g N) z8pk (fun _ _ => rfl) N (z8LP N) (show LoopsOk (z8LP N) (z8E N) N (z8R N) [(0, z8c0)] from ⟨z8lp0 N, trivial⟩) (z8core N)
def law1_BlobMissingTells (N : Nat) (x0 : List τ2) (x1 : Int) : Option Bool :=
 bnd (blob_TreeOf N x0) fun t14 =>
 br (t14.2.1 != (0 : Int))
   (br (t14.2.1 == (0 : Int))
     (bnd (law1_awake N) fun t43 =>
     some t43)
     (br ((t14.2.2.length : Int) == (0 : Int))
       (bnd (law1_awake N) fun t43_1 =>
       some t43_1)
       (some false)))
   (br (decide (x1 < (0 : Int)))
     (br (t14.2.1 == (0 : Int))
       (bnd (law1_awake N) fun t43_2 =>
       some t43_2)
       (br ((t14.2.2.length : Int) == (0 : Int))
         (bnd (law1_awake N) fun t43_3 =>
         some t43_3)
         (some false)))
     (br (decide (x1 ≥ (t14.2.2.length : Int)))
       (br (t14.2.1 == (0 : Int))
         (bnd (law1_awake N) fun t43_4 =>
         some t43_4)
         (br ((t14.2.2.length : Int) == (0 : Int))
           (bnd (law1_awake N) fun t43_5 =>
           some t43_5)
           (some false)))
       (bnd (ref1_FaithfulTree N x0) fun t32 =>
       br (!t32)
         (br (t14.2.1 == (0 : Int))
           (bnd (law1_awake N) fun t43_6 =>
           some t43_6)
           (br ((t14.2.2.length : Int) == (0 : Int))
             (bnd (law1_awake N) fun t43_7 =>
             some t43_7)
             (some false)))
         (bnd (slices_Clone_api_Object N t14.2.2) fun t46 =>
         bnd (slices_Delete_object x1 (IntKind.i64.wrap (x1 + (1 : Int))) t46) fun t50 =>
         bnd (blob_Missing N t14.1 t50) fun t54 =>
         bnd (blob_FilesOf N t14.1 t50) fun t60 =>
         br (t54.2 == (0 : Int))
           (bnd (geti t14.2.2 x1) fun t69 =>
           bnd (slices_Equal_string_string N t54.1 [t69.1]) fun t73 =>
           br (t73)
             (br (t60.2 == (9 : Int))
               (bnd (law1_awake N) fun t80 =>
               some t80)
               (some false))
             (some false))
           (some false)))))
abbrev z14sg (f : SV [.v (.sl τ4), .v τ5] → BV [] → Option (Bool)) : AF := { ps := [.v (.sl τ4), .v τ5], bs := [], rs := [.v .bool], cs := [], R := Bool, out := fun z => ((z, ()), ()), f := f }
noncomputable abbrev z14g (N : Nat) : AF := z14sg fun x _ => law1_BlobMissingTells N x.1 x.2.1
abbrev z14pk : SV [.v .bool] → BV [] → Bool := fun x _ => x.1
def z14fn (N : Nat) : FuncId → Option Tmp → Option AF := fun f _ =>
 match f with
   | 5 => some (z46g N)
   | 6 => some (z54g N)
   | 7 => some (z21g N)
   | 8 => some (z36g N)
   | 9 => some (z37g N)
   | 11 => some (z16sg fun x y => slices_Delete_object x.2.1 x.2.2.1 y.1)
   | 12 => some (z10g N)
   | 13 => some (z8g N)
   | _ => none
theorem z14fn_ok (N : Nat) : FnOk (z14fn N) := by
 intro f q F h
 unfold z14fn at h
 split at h
 · cases h; exact z46sound N
 · cases h; exact z54sound N
 · cases h; exact z21sound N
 · cases h; exact z36sound N
 · cases h; exact z37sound N
 · cases h; exact z16sound
 · cases h; exact z10sound N
 · cases h; exact z8sound N
 · cases h
def z14h : Nat → Hint := fun i =>
 match i with
 | _ => hint0
abbrev z14E (N : Nat) : Env := mkE z14h (z14fn N) FF FF
noncomputable def z14LP (N : Nat) : Nat → Code → St → (Ex → St → Option Bool) → Option Bool := fun i c =>
 match i with
 | i => fun st k => iter (z14h i) (exec (z14E N) N c i) N st k
theorem z14core (N : Nat) (x : SV [.v (.sl τ4), .v τ5]) (y : BV []) : runL (z14E N) Tryz.f4 (z14g N) z14pk (z14LP N) x y = law1_BlobMissingTells N x.1 x.2.1 := by kernel_rfl
theorem z14sound (N : Nat) : Snd 4 (z14g N) :=
 sndL (z14fn_ok N) Tryz.func4 rfl Tryz.call4 (z14g N) z14pk (fun _ _ => rfl) N (z14LP N) (show LoopsOk (z14LP N) (z14E N) N (resD (z14E N) Tryz.f4 (z14g N) z14pk) [] from trivial) (z14core N)
end
end Go.Proofs.YtjiddcchklaiiaaGreatDoor


/- BlobMissingTells, plainly. -/
namespace Go.Proofs.YtjiddcchklaiiaaGreatDoor
set_option linter.unusedVariables false
set_option linter.unusedSimpArgs false
open Go Go.RowKit
theorem cloneO {N : Nat} {w : List ObjD} (hw : w.length ≤ 1000000) : slices_Clone_api_Object N w = some w := by
 have hz : Ty.sz τ7 = 2 := rfl
 unfold slices_Clone_api_Object
 cases w with
 | nil =>
   rw [List.isEmpty_nil, br_true, hz, decide_eq_true (by decide), br_true]
   exact both_self _
 | cons c b =>
   rw [List.isEmpty_cons, br_false, hz, decide_eq_true (by rw [List.length_nil]; omega), br_true]
   rfl
theorem eqOne {N : Nat} (hN : big ≤ N) (g : Str) : slices_Equal_string_string N [g] [g] = some true := by
 have hb : big = 18446744073709551616 := rfl
 obtain ⟨n, rfl⟩ : ∃ n, N = n + 2 := ⟨N - 2, by omega⟩
 have h0 : geti [g] (0 : Int) = some g := rfl
 unfold slices_Equal_string_string
 rw [bne_self_eq_false, br_false, z8L0]
 unfold z8L0T
 rw [decide_eq_true (by rw [List.length_singleton]; omega), br_true, h0, bnd_some, bnd_some, beq_self_eq_true, Bool.not_true, br_false, w64 _ (by omega) (by omega), z8L0]
 unfold z8L0T
 rw [decide_eq_false (by rw [List.length_singleton]; omega), br_false]
theorem law_tells {N : Nat} (hN : big ≤ N) (l : List FileD) (x1 : Int) : law1_BlobMissingTells N l x1 = some true := by
 have hb : big = 18446744073709551616 := rfl
 have haw := awake_okT hN
 unfold law1_BlobMissingTells
 rw [(treeOf_ok hN l).1, bnd_some]
 dsimp only
 unfold treeS
 by_cases hf : filesS l = 0
 case neg =>
   rw [if_neg hf]
   dsimp only
   rw [show (filesS l != 0) = true by simpa using hf, br_true, show (filesS l == 0) = false by simpa using hf, br_false, show (((([] : List ObjD).length : Nat) : Int) == 0) = true from rfl, br_true, haw, bnd_some]
 have hfo := (files_iff l).1 hf
 have ht := tame_of hfo
 rw [if_pos hf]
 by_cases hn : (objsL N l).length ≤ 4000
 case neg =>
   rw [if_neg hn]
   dsimp only
   rw [show ((2 : Int) != 0) = true from rfl, br_true, show ((2 : Int) == 0) = false from rfl, br_false, show (((([] : List ObjD).length : Nat) : Int) == 0) = true from rfl, br_true, haw, bnd_some]
 rw [if_pos hn]
 dsimp only
 rw [show ((0 : Int) != 0) = false from rfl, br_false, show ((0 : Int) == 0) = true from rfl]
 simp only [br_true, haw, bnd_some]
 by_cases h1 : x1 < 0
 · rw [decide_eq_true h1, br_true]
 rw [decide_eq_false h1, br_false]
 by_cases h2 : x1 ≥ ((objsL N l).length : Int)
 · rw [decide_eq_true h2, br_true]
 rw [decide_eq_false h2, br_false]
 obtain ⟨b, hbt, hF⟩ := faith_tree hN ht
 rw [hbt, bnd_some]
 cases b with
 | false => rw [Bool.not_false, br_true]
 | true =>
   have hF := hF rfl
   obtain ⟨n, rfl⟩ : ∃ n : Nat, x1 = (n : Int) := ⟨x1.toNat, by omega⟩
   have hnl : n < (objsL N l).length := by omega
   rw [Bool.not_true, br_false, cloneO (by omega), bnd_some, w64 _ (by omega) (by omega)]
   have hdel : slices_Delete_object (n : Int) ((n : Int) + 1) (objsL N l) = some ((objsL N l).eraseIdx n) := by
     unfold slices_Delete_object
     rw [if_pos ⟨by omega, by omega, by omega⟩, show ((n : Int) + 1).toNat = n + 1 by omega, Int.toNat_natCast, List.eraseIdx_eq_take_drop_succ]
   have hO := objsOk_of hN hfo hF hn (List.eraseIdx_sublist (objsL N l) n)
   have hasc : AscO (objsL N l) := objs_asc
   have hone : ∀ g, LackS N l ((objsL N l).eraseIdx n) g → g = (objsL N l)[n].1 := fun g ⟨c, hc, e, hno⟩ => by
     obtain ⟨k, hk, hke⟩ := List.getElem_of_mem (objs_has hF hc)
     by_cases hkn : k = n
     · subst hkn
       rw [hke]; exact e.symm
     · have hmem : (dg N c, c) ∈ (objsL N l).eraseIdx n := List.mem_eraseIdx_iff_getElem.2 ⟨k, hk, hkn, hke⟩
       rw [lookO_none] at hno
       exact absurd e (hno _ hmem)
   have hlack : LackS N l ((objsL N l).eraseIdx n) (objsL N l)[n].1 := by
     obtain ⟨c, hc, e⟩ := objs_of _ (List.getElem_mem hnl)
     refine ⟨c, hc, by rw [e], lookO_none.2 fun x hx hxe => ?_⟩
     obtain ⟨k, hk, hkn, rfl⟩ := List.mem_eraseIdx_iff_getElem.1 hx
     have hkey := asc_key hasc (List.getElem_mem hk) (List.getElem_mem hnl) hxe
     rcases Nat.lt_trichotomy k n with h | h | h
     · have := List.pairwise_iff_getElem.1 hasc k n hk hnl h
       rw [hxe] at this; exact str_lt_irrefl _ this
     · exact hkn h
     · have := List.pairwise_iff_getElem.1 hasc n k hnl hk h
       rw [hxe] at this; exact str_lt_irrefl _ this
   have hno : ∃ c ∈ cont N 201 l, lookO ((objsL N l).eraseIdx n) (dg N c) = none := by
     obtain ⟨c, hc, e, h⟩ := hlack
     exact ⟨c, hc, by rw [e]; exact h⟩
   have hM : blob_Missing N (dg N (txt N 201 l)) ((objsL N l).eraseIdx n) = some ([(objsL N l)[n].1], 0) := by
     rcases missing_ok hN hO (fun g g' hg hg' => by rw [hone g hg, hone g' hg']) with h | ⟨g, hg, h⟩
     · obtain ⟨c, hc, h3⟩ := hno
       rw [h.2 c hc] at h3; cases h3
     · rw [h, hone g hg]
   rw [hdel, bnd_some, hM, bnd_some, filesOf_none hN hO hno, bnd_some]
   dsimp only
   rw [show ((0 : Int) == 0) = true from rfl, br_true, geti_lt _ hnl, bnd_some, eqOne hN, bnd_some, br_true, show ((9 : Int) == 9) = true from rfl, br_true]
theorem plain_BlobMissingTells (x0 : List FileD) (x1 : Int) (_ : Fit (.sl fT) x0) (_ : Fit τ5 x1) : ∃ N, law1_BlobMissingTells N x0 x1 = some true := ⟨big, law_tells (Nat.le_refl _) x0 x1⟩
end Go.Proofs.YtjiddcchklaiiaaGreatDoor

