/- The trees, plainly: the first part of a path, and where paths in order lie. -/
import Derived.Test.YtjiddcchklaiiaaGreatDoorQNm
import Derived.Test.YtjiddcchklaiiaaGreatDoorQFor2
namespace Go.Proofs.YtjiddcchklaiiaaGreatDoor
set_option linter.unusedVariables false
set_option linter.unusedSimpArgs false
open Go Go.RowKit
theorem index47 : ∀ s : Str, (Lib.index s [47] = -1 ∧ (47 : UInt8) ∉ s) ∨ ∃ p q, s = p ++ (47 : UInt8) :: q ∧ (47 : UInt8) ∉ p ∧ Lib.index s [47] = (p.length : Int)
 | [] => .inl ⟨rfl, by simp⟩
 | b :: l => by
   by_cases hb : b = 47
   · subst hb
     exact .inr ⟨[], l, rfl, by simp, by simp [Lib.index]⟩
   · have hp : List.isPrefixOf [47] (b :: l) = false := by simp [List.isPrefixOf]; exact fun h => hb h.symm
     rcases index47 l with ⟨h1, h2⟩ | ⟨p, q, h1, h2, h3⟩
     · refine .inl ⟨?_, ?_⟩
       · unfold Lib.index; rw [hp, h1]; rfl
       · simp only [List.mem_cons, not_or]; exact ⟨fun h => hb h.symm, h2⟩
     · refine .inr ⟨b :: p, q, by rw [h1]; rfl, ?_, ?_⟩
       · simp only [List.mem_cons, not_or]; exact ⟨fun h => hb h.symm, h2⟩
       · unfold Lib.index
         rw [hp, h3]
         have : ((p.length : Int) == -1) = false := by rw [beq_eq_false_iff_ne]; omega
         simp [this]
theorem cut47 (s : Str) : (Lib.cut s [47] = (s, [], false) ∧ (47 : UInt8) ∉ s) ∨ ∃ p q, Lib.cut s [47] = (p, q, true) ∧ s = p ++ (47 : UInt8) :: q ∧ (47 : UInt8) ∉ p := by
 rcases index47 s with ⟨h1, h2⟩ | ⟨p, q, h1, h2, h3⟩
 · exact .inl ⟨by unfold Lib.cut; rw [h1]; rfl, h2⟩
 · refine .inr ⟨p, q, ?_, h1, h2⟩
   unfold Lib.cut
   rw [h3, if_pos (Int.natCast_nonneg _), Int.toNat_natCast, h1]
   simp
theorem between : ∀ (p : Str) (a b z : Str), a < b → b < z → p <+: a → p <+: z → p <+: b
 | [], a, b, z, _, _, _, _ => List.nil_prefix
 | c :: p, a, b, z, h1, h2, h3, h4 => by
   obtain ⟨a', rfl⟩ := h3
   obtain ⟨z', rfl⟩ := h4
   cases b with
   | nil => exact absurd h1 (by simp)
   | cons d b =>
     rw [List.cons_append, List.cons_lt_cons_iff] at h1
     rw [List.cons_append, List.cons_lt_cons_iff] at h2
     rcases h1 with h1 | ⟨rfl, h1⟩
     · rcases h2 with h2 | ⟨rfl, h2⟩
       · exact absurd (UInt8.lt_trans h1 h2) (UInt8.lt_irrefl _)
       · exact absurd h1 (UInt8.lt_irrefl _)
     · rcases h2 with h2 | ⟨_, h2⟩
       · exact absurd h2 (UInt8.lt_irrefl _)
       · rw [List.cons_prefix_cons]
         exact ⟨rfl, between p (p ++ a') b (p ++ z') h1 h2 (List.prefix_append _ _) (List.prefix_append _ _)⟩
structure GoodL (l : List FileD) : Prop where
 asc : l.Pairwise fun x y => x.1 < y.1
 apart : ∀ x ∈ l, ∀ y ∈ l, ¬ (x.1 ++ [47]) <+: y.1
def within (nm : Str) (l : List FileD) : List FileD := l.filterMap fun x => if (nm ++ [47]).isPrefixOf x.1 = true then some (x.1.drop (nm.length + 1), x.2) else none
def NodeOk (l : List FileD) (nd : NodeD) : Prop := (47 : UInt8) ∉ nd.1 ∧ ((∃ x ∈ l, x.1 = nd.1 ∧ nd = (nd.1, some x, [])) ∨ (within nd.1 l ≠ [] ∧ nd = (nd.1, none, within nd.1 l)))
theorem within_app (nm : Str) (l : List FileD) (x : FileD) : within nm (l ++ [x]) = within nm l ++ (if (nm ++ [47]).isPrefixOf x.1 = true then [(x.1.drop (nm.length + 1), x.2)] else []) := by
 unfold within
 rw [List.filterMap_append]
 congr 1
 by_cases h : (nm ++ [47]).isPrefixOf x.1 = true
 · rw [if_pos h]; simp only [List.filterMap_cons, h, if_true, List.filterMap_nil]
 · rw [if_neg h]; simp only [List.filterMap_cons, List.filterMap_nil]; rw [if_neg h]
theorem within_mem {nm : Str} {l : List FileD} (h : within nm l ≠ []) : ∃ x ∈ l, (nm ++ [47]) <+: x.1 := by
 obtain ⟨y, hy⟩ := List.exists_mem_of_ne_nil _ h
 unfold within at hy
 obtain ⟨x, hx, he⟩ := List.mem_filterMap.1 hy
 refine ⟨x, hx, ?_⟩
 split at he
 · rename_i h2; exact List.isPrefixOf_iff_prefix.1 h2
 · cases he
theorem part_uniq : ∀ {p q r s : Str}, (47 : UInt8) ∉ p → (47 : UInt8) ∉ q → p ++ (47 : UInt8) :: r = q ++ (47 : UInt8) :: s → p = q ∧ r = s
 | [], [], r, s, _, _, h => by simp at h; exact ⟨rfl, h⟩
 | [], b :: q, r, s, _, h2, h => by
   simp only [List.nil_append, List.cons_append, List.cons.injEq] at h
   exact absurd (h.1 ▸ List.mem_cons_self) h2
 | a :: p, [], r, s, h1, _, h => by
   simp only [List.nil_append, List.cons_append, List.cons.injEq] at h
   exact absurd (h.1 ▸ List.mem_cons_self) h1
 | a :: p, b :: q, r, s, h1, h2, h => by
   simp only [List.cons_append, List.cons.injEq] at h
   obtain ⟨h3, h4⟩ := part_uniq (fun h' => h1 (List.mem_cons_of_mem _ h')) (fun h' => h2 (List.mem_cons_of_mem _ h')) h.2
   exact ⟨by rw [h.1, h3], h4⟩
structure NI (p : List FileD) (ns : List NodeD) : Prop where
 nodup : (ns.map fun nd => nd.1).Nodup
 ok : ∀ nd ∈ ns, NodeOk p nd
 all : ∀ x ∈ p, (Lib.cut x.1 [47]).1 ∈ ns.map fun nd => nd.1
 last : (ns.getLast?.map fun nd => nd.1) = p.getLast?.map fun x => (Lib.cut x.1 [47]).1
theorem pre_of_cut {s p q : Str} (h : s = p ++ (47 : UInt8) :: q) : (p ++ [47]) <+: s := ⟨q, by rw [h]; simp⟩
theorem cut_of_pre {s p : Str} (hp : (47 : UInt8) ∉ p) (h : (p ++ [47]) <+: s) : Lib.cut s [47] = (p, s.drop (p.length + 1), true) := by
 obtain ⟨q, rfl⟩ := h
 rcases cut47 (p ++ [47] ++ q) with ⟨_, h2⟩ | ⟨p', q', h1, h2, h3⟩
 · exact absurd (by simp) h2
 · rw [h1]
   obtain ⟨rfl, rfl⟩ := part_uniq hp h3 (show p ++ (47 : UInt8) :: q = p' ++ (47 : UInt8) :: q' by rw [← h2]; simp)
   simp [List.drop_append]
theorem ni_step {p : List FileD} {ns : List NodeD} {x : FileD} (hg : GoodL (p ++ [x])) (h : NI p ns) : NI (p ++ [x]) (nodeStep ns x) := by
 have hasc := List.pairwise_append.1 hg.asc
 have hlt : ∀ y ∈ p, y.1 < x.1 := fun y hy => hasc.2.2 y hy x (List.mem_singleton.2 rfl)
 have hin : ∀ y ∈ p, y ∈ p ++ [x] := fun y hy => List.mem_append_left _ hy
 have hx : x ∈ p ++ [x] := List.mem_append_right _ (List.mem_singleton.2 rfl)
 -- a node that has another name stays what it is
 have keep : ∀ nd, NodeOk p nd → ¬ (nd.1 ++ [47]) <+: x.1 → NodeOk (p ++ [x]) nd := fun nd hn hne => by
   refine ⟨hn.1, ?_⟩
   have e : within nd.1 (p ++ [x]) = within nd.1 p := by
     rw [within_app, if_neg (fun h' => hne (List.isPrefixOf_iff_prefix.1 h')), List.append_nil]
   rcases hn.2 with ⟨y, hy, h1, h2⟩ | ⟨h1, h2⟩
   · exact .inl ⟨y, hin y hy, h1, h2⟩
   · exact .inr ⟨by rw [e]; exact h1, by rw [e]; exact h2⟩
 -- a new node
 have new : ∀ nd : NodeD, nd.1 = (Lib.cut x.1 [47]).1 → nd.1 ∉ ns.map (fun nd => nd.1) → NodeOk (p ++ [x]) nd → (∀ nd' ∈ ns, ¬ (nd'.1 ++ [47]) <+: x.1) → NI (p ++ [x]) (ns ++ [nd]) := fun nd e hn ho hk => by
   refine ⟨?_, fun y hy => ?_, fun y hy => ?_, ?_⟩
   · rw [List.map_append, List.nodup_append]
     refine ⟨h.nodup, by simp, fun a ha b hb => ?_⟩
     simp only [List.map_cons, List.map_nil, List.mem_singleton] at hb
     rintro rfl
     exact hn (hb ▸ ha)
   · rcases List.mem_append.1 hy with hy | hy
     · exact keep y (h.ok y hy) (hk y hy)
     · rw [List.mem_singleton.1 hy]; exact ho
   · rw [List.map_append]
     rcases List.mem_append.1 hy with hy | hy
     · exact List.mem_append_left _ (h.all y hy)
     · rw [List.mem_singleton.1 hy, ← e]; exact List.mem_append_right _ (by simp)
   · simp [e]
 rcases cut47 x.1 with ⟨hc, hno⟩ | ⟨nm, q, hc, hxe, hno⟩
 · -- a file of the directory itself
   have hs : nodeStep ns x = ns ++ [(x.1, some x, [])] := by unfold nodeStep; rw [hc]; rfl
   rw [hs]
   have hnp : ∀ p' : Str, ¬ (p' ++ [47]) <+: x.1 := fun p' h' => by
     obtain ⟨r, hr⟩ := h'
     exact hno (by rw [← hr]; simp)
   refine new _ (by rw [hc]) (fun hm => ?_) ⟨hno, .inl ⟨x, hx, rfl, rfl⟩⟩ (fun nd' _ => hnp _)
   obtain ⟨nd, hnd, he⟩ := List.mem_map.1 hm
   rcases (h.ok nd hnd).2 with ⟨y, hy, h1, _⟩ | ⟨h1, _⟩
   · have := hlt y hy
     rw [h1] at this
     simp only [] at he
     rw [he] at this
     exact str_lt_irrefl _ this
   · obtain ⟨y, hy, hpre⟩ := within_mem h1
     simp only [] at he
     rw [he] at hpre
     exact hg.apart x hx y (hin y hy) hpre
 · -- a file within a directory
   have hpx := pre_of_cut hxe
   have hxd : x.1.drop (nm.length + 1) = q := by rw [hxe]; simp [List.drop_append]
   -- a node of this name is a directory, and the last one
   have isdir : ∀ nd ∈ ns, nd.1 = nm → within nm p ≠ [] ∧ nd = (nm, none, within nm p) := fun nd hnd he => by
     rcases (h.ok nd hnd).2 with ⟨y, hy, h1, _⟩ | ⟨h1, h2⟩
     · rw [← he, ← h1] at hpx
       exact absurd hpx (hg.apart y (hin y hy) x hx)
     · rw [he] at h1 h2; exact ⟨h1, h2⟩
   have pre_name : ∀ nd ∈ ns, (nd.1 ++ [47]) <+: x.1 → nd.1 = nm := fun nd hnd hpre => by
     have := cut_of_pre (h.ok nd hnd).1 hpre
     rw [hc] at this
     exact (congrArg Prod.fst this).symm
   by_cases hm : nm ∈ ns.map fun nd => nd.1
   · obtain ⟨nd, hnd, he⟩ := List.mem_map.1 hm
     replace he : nd.1 = nm := he
     obtain ⟨hw, hnde⟩ := isdir nd hnd he
     obtain ⟨y, hy, hpy⟩ := within_mem hw
     -- the last file lies within it too
     obtain ⟨z, hz⟩ : ∃ z, p.getLast? = some z := by
       cases hp : p.getLast? with
       | none => rw [List.getLast?_eq_none_iff] at hp; rw [hp] at hy; cases hy
       | some z => exact ⟨z, rfl⟩
     obtain ⟨p0, hp0⟩ := List.getLast?_eq_some_iff.1 hz
     have hzm : z ∈ p := by rw [hp0]; simp
     have hpz : (nm ++ [47]) <+: z.1 := by
       by_cases hyz : y = z
       · rw [← hyz]; exact hpy
       · have hyz' : y.1 < z.1 := by
           have h1 := hasc.1
           rw [hp0] at h1 hy
           rcases List.mem_append.1 hy with hy | hy
           · exact (List.pairwise_append.1 h1).2.2 y hy z (List.mem_singleton.2 rfl)
           · exact absurd (List.mem_singleton.1 hy) hyz
         exact between _ _ _ _ hyz' (hlt z hzm) hpy hpx
     have hlast := h.last
     rw [hz] at hlast
     simp only [Option.map_some, cut_of_pre hno hpz] at hlast
     obtain ⟨nl, hnl, hnle⟩ := Option.map_eq_some_iff.1 hlast
     obtain ⟨ms, hms⟩ := List.getLast?_eq_some_iff.1 hnl
     have hnlm : nl ∈ ns := by rw [hms]; simp
     obtain ⟨_, hnl2⟩ := isdir nl hnlm hnle
     have hs : nodeStep ns x = ms ++ [(nm, none, within nm (p ++ [x]))] := by
       unfold nodeStep
       rw [hc, hms, List.getLast?_concat, List.dropLast_concat, within_app, if_pos (List.isPrefixOf_iff_prefix.2 hpx), hxd, hnl2]
       simp
     rw [hs]
     have hnames : (ms ++ [(nm, none, within nm (p ++ [x]))]).map (fun nd : NodeD => nd.1) = ns.map fun nd => nd.1 := by rw [hms, hnl2]; simp
     have hwn : within nm (p ++ [x]) ≠ [] := by rw [within_app, if_pos (List.isPrefixOf_iff_prefix.2 hpx)]; simp
     refine ⟨by rw [hnames]; exact h.nodup, fun y hy => ?_, fun y hy => ?_, ?_⟩
     · rcases List.mem_append.1 hy with hy | hy
       · have hyn : y ∈ ns := by rw [hms]; exact List.mem_append_left _ hy
         refine keep y (h.ok y hyn) fun hpre => ?_
         have := h.nodup
         rw [hms, List.map_append, List.nodup_append] at this
         exact this.2.2 y.1 (List.mem_map.2 ⟨y, hy, rfl⟩) nl.1 (by simp) ((pre_name y hyn hpre).trans hnle.symm)
       · rw [List.mem_singleton.1 hy]
         exact ⟨hno, .inr ⟨hwn, rfl⟩⟩
     · rw [hnames]
       rcases List.mem_append.1 hy with hy | hy
       · exact h.all y hy
       · rw [List.mem_singleton.1 hy, hc]; exact hm
     · simp [hc]
   · have hs : nodeStep ns x = ns ++ [(nm, none, [(q, x.2)])] := by
       unfold nodeStep
       rw [hc]
       simp only [Bool.true_eq_false, if_false]
       split
       · rename_i nd hl
         obtain ⟨ms, hms⟩ := List.getLast?_eq_some_iff.1 hl
         rw [if_neg]
         rintro ⟨h1, _⟩
         exact hm (List.mem_map.2 ⟨nd, by rw [hms]; simp, h1⟩)
       · rfl
     rw [hs]
     have hw0 : within nm p = [] := by
       by_cases hw : within nm p = []
       · exact hw
       · obtain ⟨y, hy, hpy⟩ := within_mem hw
         have := h.all y hy
         rw [cut_of_pre hno hpy] at this
         exact absurd this hm
     have hw1 : within nm (p ++ [x]) = [(q, x.2)] := by rw [within_app, hw0, if_pos (List.isPrefixOf_iff_prefix.2 hpx), hxd]; rfl
     exact new _ (by rw [hc]) hm ⟨hno, .inr ⟨by rw [hw1]; simp, by rw [hw1]⟩⟩ fun nd' hnd' hpre => hm (List.mem_map.2 ⟨nd', hnd', pre_name nd' hnd' hpre⟩)
theorem good_take {l : List FileD} (h : GoodL l) (j : Nat) : GoodL (l.take j) := ⟨h.asc.sublist (List.take_sublist _ _), fun x hx y hy => h.apart x (List.mem_of_mem_take hx) y (List.mem_of_mem_take hy)⟩
theorem ni_take {l : List FileD} (hg : GoodL l) : ∀ j, j ≤ l.length → NI (l.take j) ((l.take j).foldl nodeStep [])
 | 0, _ => ⟨by simp, by simp, by simp, by simp⟩
 | j + 1, h => by
   have := good_take hg (j + 1)
   rw [List.take_succ_eq_append_getElem h] at this ⊢
   rw [List.foldl_append]
   exact ni_step this (ni_take hg j (by omega))
theorem ni_all {l : List FileD} (hg : GoodL l) : NI l (l.foldl nodeStep []) := by
 have := ni_take hg l.length (Nat.le_refl _)
 rwa [List.take_length] at this
end Go.Proofs.YtjiddcchklaiiaaGreatDoor


/- The trees, plainly: what stands in a directory, by name, for both. -/
namespace Go.Proofs.YtjiddcchklaiiaaGreatDoor
set_option linter.unusedVariables false
set_option linter.unusedSimpArgs false
open Go Go.RowKit
theorem asc_one {a b : List Str} (ha : a.Pairwise (· < ·)) (hb : b.Pairwise (· < ·)) (h : ∀ n, n ∈ a ↔ n ∈ b) : a = b := by
 have nd : ∀ c : List Str, (c.Pairwise (· < ·)) → c.Nodup := fun c hc => hc.imp fun {x y} h e => by subst e; exact str_lt_irrefl _ h
 exact perm_strict (fun x y h1 h2 => str_lt_irrefl _ (str_lt_trans h1 h2)) a b ((List.perm_ext_iff_of_nodup (nd a ha) (nd b hb)).2 h) ha hb
theorem str_gt {a b : Str} (h1 : ¬ a < b) (h2 : a ≠ b) : b < a := Decidable.byContradiction fun h3 => h2 (str_tri a b h1 h3)
theorem nameStep_inv {p : List Str × List Int} (h : p.1.Pairwise (· < ·)) (x : FileD) : (nameStep p x).1.Pairwise (· < ·) ∧ ∀ s, s ∈ (nameStep p x).1 ↔ s ∈ p.1 ∨ (Lib.cut x.1 [47]).1 = s := by
 obtain ⟨ns, ks⟩ := p
 replace h : ns.Pairwise (· < ·) := h
 obtain ⟨nm, hnm⟩ : ∃ nm, (Lib.cut x.1 [47]).1 = nm := ⟨_, rfl⟩
 obtain ⟨h1, h2, h3⟩ := posN_spec nm ns
 unfold nameStep
 simp only [hnm]
 obtain ⟨k, hk⟩ : ∃ k, posN ns nm = k := ⟨_, rfl⟩
 rw [hk] at h1 h2 ⊢
 have h3' : ∀ hk' : k < ns.length, Op.bytesLess ns[k] nm = false := fun hk' => by subst hk; exact h3 hk'
 split
 · rename_i hf
   refine ⟨h, fun s => ⟨.inl, fun h' => ?_⟩⟩
   rcases h' with h' | rfl
   · exact h'
   · exact List.mem_of_getElem? hf
 · rename_i hf
   have ht : ∀ y ∈ ns.take k, y < nm := fun y hy => by
     obtain ⟨i, hi, rfl⟩ := List.getElem_of_mem hy
     rw [List.length_take] at hi
     have := h1 i (by omega) (by omega)
     rw [bytesLess_lt] at this
     rw [List.getElem_take]
     exact of_decide_eq_true this
   have hd : ∀ y ∈ ns.drop k, nm < y := fun y hy => by
     obtain ⟨i, hi, rfl⟩ := List.getElem_of_mem hy
     rw [List.length_drop] at hi
     have hkl : k < ns.length := by omega
     have := h3' hkl
     rw [bytesLess_lt] at this
     have hne : ns[k] ≠ nm := fun e => hf (by rw [List.getElem?_eq_getElem hkl, e])
     have hgt := str_gt (of_decide_eq_false this) hne
     rw [List.getElem_drop]
     by_cases hi0 : i = 0
     · subst hi0; exact hgt
     · exact str_lt_trans hgt (List.pairwise_iff_getElem.1 h k (k + i) hkl (by omega) (by omega))
   refine ⟨?_, fun s => ?_⟩
   · rw [List.append_assoc]
     refine List.pairwise_append.2 ⟨List.Pairwise.sublist (List.take_sublist _ _) h, List.Pairwise.cons hd (List.Pairwise.sublist (List.drop_sublist _ _) h), fun a ha b hb => ?_⟩
     rcases List.mem_cons.1 hb with rfl | hb
     · exact ht a ha
     · exact str_lt_trans (ht a ha) (hd b hb)
   · have e : s ∈ ns ↔ s ∈ ns.take k ∨ s ∈ ns.drop k := by rw [← List.mem_append, List.take_append_drop]
     simp only [List.mem_append, List.mem_singleton, e]
     constructor
     · rintro ((h' | rfl) | h')
       · exact .inl (.inl h')
       · exact .inr rfl
       · exact .inl (.inr h')
     · rintro ((h' | h') | rfl)
       · exact .inl (.inl h')
       · exact .inr h'
       · exact .inl (.inr rfl)
theorem names_inv : ∀ (l : List FileD) (p : List Str × List Int), p.1.Pairwise (· < ·) → (l.foldl nameStep p).1.Pairwise (· < ·) ∧ ∀ s, s ∈ (l.foldl nameStep p).1 ↔ s ∈ p.1 ∨ ∃ x ∈ l, (Lib.cut x.1 [47]).1 = s
 | [], p, h => ⟨h, fun s => by simp⟩
 | x :: l, p, h => by
   obtain ⟨h1, h2⟩ := nameStep_inv h x
   obtain ⟨h3, h4⟩ := names_inv l (nameStep p x) h1
   refine ⟨h3, fun s => ?_⟩
   rw [List.foldl_cons, h4, h2]
   simp only [List.mem_cons, exists_eq_or_imp, or_assoc]
structure TN (l : List FileD) (T : List NodeD) : Prop where
 nodes : blob_nodes l = some T
 names : ∃ ks, ref1_names l = some (T.map (fun nd => nd.1), ks)
 ok : ∀ nd ∈ T, NodeOk l nd
 asc : (T.map fun nd => nd.1).Pairwise (· < ·)
theorem tn_of {l : List FileD} (hg : GoodL l) (h1 : l.length ≤ 1000000) (h2 : ∀ x ∈ l, x.1.length < 4294967281) : ∃ T, TN l T := by
 have hI := ni_all hg
 have hsm := small_take l l.length (Nat.le_refl _)
 rw [List.take_length] at hsm
 obtain ⟨T, t1, t2, t3⟩ := stable_ok (N := 2000000) (by omega) (l.foldl nodeStep []) (Nat.le_trans hsm.1 h1)
 have hnd : (T.map fun nd : NodeD => nd.1).Nodup := (t1.map _).nodup_iff.2 hI.nodup
 have hasc : (T.map fun nd : NodeD => nd.1).Pairwise (· < ·) := by
   rw [List.pairwise_map]
   have hn2 := List.pairwise_map.1 hnd
   refine (t2.and hn2).imp fun {a b} hab => ?_
   exact str_gt hab.1 (fun e => hab.2 e.symm)
 obtain ⟨n1, n2⟩ := names_inv l ([], []) List.Pairwise.nil
 refine ⟨T, by unfold blob_nodes; rw [if_pos ⟨h1, h2⟩]; exact t3, ⟨(l.foldl nameStep ([], [])).2, ?_⟩, fun nd h => hI.ok nd (t1.mem_iff.1 h), hasc⟩
 unfold ref1_names
 rw [if_pos ⟨h1, h2⟩]
 congr 1
 refine Prod.ext ?_ rfl
 refine asc_one n1 hasc fun s => ?_
 rw [n2]
 simp only [List.not_mem_nil, false_or]
 rw [(t1.map fun nd : NodeD => nd.1).mem_iff]
 constructor
 · rintro ⟨x, hx, rfl⟩
   exact hI.all x hx
 · intro hs
   obtain ⟨nd, hnd, rfl⟩ := List.mem_map.1 hs
   obtain ⟨hno, h⟩ := hI.ok nd hnd
   rcases h with ⟨y, hy, h1, _⟩ | ⟨hw, _⟩
   · refine ⟨y, hy, ?_⟩
     rcases cut47 y.1 with ⟨hc, _⟩ | ⟨p, q, hc, he, _⟩
     · rw [hc, h1]
     · rw [h1] at he; exact absurd (by rw [he]; simp) hno
   · obtain ⟨y, hy, hpy⟩ := within_mem hw
     exact ⟨y, hy, by rw [cut_of_pre hno hpy]⟩
end Go.Proofs.YtjiddcchklaiiaaGreatDoor

