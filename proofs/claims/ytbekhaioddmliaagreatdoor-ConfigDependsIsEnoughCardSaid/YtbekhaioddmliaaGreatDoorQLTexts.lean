/- What the checks of platforms and conditions compute, and Holds. No program in sight. -/
import Derived.Test.YtbekhaioddmliaaGreatDoorQLChecks
import Derived.Test.YtbekhaioddmliaaGreatDoorQSlc
import Derived.Test.YtbekhaioddmliaaGreatDoorQBmI
namespace Go.Proofs.YtbekhaioddmliaaGreatDoor
set_option linter.unusedVariables false
set_option linter.unusedSimpArgs false
open Go Go.RowKit
variable {N : Nat}
theorem decode_low (s : ByteArray) (i : Nat) (h : (s.get! i).toNat < 128) : Utf8.decode s i = ((s.get! i).toNat, 1) := by
 unfold Utf8.decode; simp [h]
theorem decode_high (s : ByteArray) (i : Nat) (h : 128 ≤ (s.get! i).toNat) : 128 ≤ (Utf8.decode s i).1 := by
 unfold Utf8.decode
 have h0 : ¬ (s.get! i).toNat < 128 := by omega
 simp only [Nat.add_zero, Nat.reduceLT]
 rw [if_neg h0]
 repeat' split
 all_goals first | (simp only [Utf8.runeError]; omega) | (simp only [ge_iff_le, Bool.and_eq_true, decide_eq_true_eq] at *; omega) | decide
theorem idx_bad (s : Str) (q : Nat → Bool) (hq : ∀ n, q n = decide (n < 32 ∨ 126 < n)) : ∀ (f pos : Nat), s.length ≤ pos + f →
   decide (0 ≤ Lib.idxFuncFrom q true ⟨s.toArray⟩ f pos) = (s.drop pos).any (fun b => decide (b.toNat < 32 ∨ 126 < b.toNat))
 | 0, pos, h => by rw [List.drop_eq_nil_of_le (by omega)]; rfl
 | f + 1, pos, h => by
   unfold Lib.idxFuncFrom
   by_cases hp : pos < s.length
   · have hsz : pos < (⟨s.toArray⟩ : ByteArray).size := hp
     rw [if_pos hsz, List.drop_eq_getElem_cons hp, List.any_cons]
     have hg : (⟨s.toArray⟩ : ByteArray).get! pos = s[pos] := by
       show (s.toArray)[pos]! = _
       simp [hp]
     by_cases hb : s[pos].toNat < 128
     · rw [decode_low _ _ (by rw [hg]; exact hb), hg, hq]
       by_cases hc : s[pos].toNat < 32 ∨ 126 < s[pos].toNat
       · rw [decide_eq_true hc, if_pos rfl]; simp
       · rw [decide_eq_false hc, if_neg (by simp), Bool.false_or]
         exact idx_bad s q hq f (pos + 1) (by omega)
     · have := decode_high (⟨s.toArray⟩ : ByteArray) pos (by rw [hg]; omega)
       rw [hq, decide_eq_true (Or.inr (by omega)), if_pos rfl, decide_eq_true (show s[pos].toNat < 32 ∨ 126 < s[pos].toNat from Or.inr (by omega))]
       simp
   · have hsz : ¬ pos < (⟨s.toArray⟩ : ByteArray).size := hp
     rw [if_neg hsz, List.drop_eq_nil_of_le (by omega)]; rfl
def condB (b : UInt8) : Bool := decide (b.toNat < 32 ∨ 126 < b.toNat)
def condS (s : Str) : Bool := decide (1 ≤ s.length) && decide (s.length ≤ 1000) && !(s == [100, 101, 102, 97, 117, 108, 116]) && !(s.any condB)
theorem ContainsFunc_eq (s : Str) : strings_ContainsFunc_config_CheckConditions_1 N s () = some (s.any condB) := by
 unfold strings_ContainsFunc_config_CheckConditions_1 Lib.idxFunc
 rw [idx_bad s _ (fun n => ?_) _ 0 (by rw [Nat.zero_add]; exact Nat.le_refl _)]
 · rfl
 · unfold config_CheckConditions_1
   rw [br_ite]
   show (if decide ((n : Int) < 32) = true then true else decide ((n : Int) > 126)) = _
   by_cases h1 : n < 32
   · rw [if_pos (decide_eq_true (by omega))]; exact (decide_eq_true (Or.inl h1)).symm
   · rw [if_neg (by simp; omega)]
     exact decide_eq_decide.2 (by omega)
theorem forT_guard {α β : Type} (p : α → Bool) (c k : β) : ∀ (xs : List α) (j : Nat), forT (fun _ x r => if p x = true then c else r) k xs j = if xs.any p = true then c else k
 | [], _ => by simp [forT]
 | x :: xs, j => by
   show (if p x = true then c else forT _ _ xs (j + 1)) = _
   rw [forT_guard p c k xs (j + 1), List.any_cons]
   cases h : p x <;> simp
def pairsCheckS (l : List (Str × Str)) : Int := if 30 < l.length then 2 else forT (fun i x r => if !isWordS x.1 then 5 else if !isWordS x.2 then 1 else prevS l i x.1 r) 0 l 0
theorem CheckPairs_eq (hN : big ≤ N) (l : List (Str × Str)) (hl : l.length ≤ maxLen) : config_CheckPairs N l = some (pairsCheckS l) := by
 unfold config_CheckPairs pairsCheckS
 rw [loop_for (f := z48L0 N l l (l.length : Int) (some 0)) (fun _ _ => rfl) l hl (body := fun i x r => if !isWordS x.1 then 5 else if !isWordS x.2 then 1 else prevS l i x.1 r) (k := 0)
   (fun self i h r hr => by
     simp only [z48L0T, geti_lt l h, wrap_succ hl h, hr, bnd_some, config_IsWord_eq]
     rw [lt_tt h, br_true, prev_eq hl h, br_ite, br_ite])
   (fun self => by simp only [z48L0T, lt_ff, br_false]) hN,
   (decide_eq_decide.2 (by omega) : decide ((l.length : Int) > 30) = decide (30 < l.length)), br_ite]
 simp only [decide_eq_true_eq]
abbrev platformTy : Ty := .sl (.pr .str (.sl (.pr .str .str)))
def platformsB (l : List (Str × List (Str × Str))) (i : Nat) (x : Str × List (Str × Str)) (r : Int) : Int :=
 if !isWordS x.1 then 5 else if decide (pairsCheckS x.2 ≠ 0) then pairsCheckS x.2 else if (l.take i).any (fun y => y.1 == x.1) then 7 else r
def platformsS (l : List (Str × List (Str × Str))) : Int := if 50 < l.length then 2 else forT (platformsB l) 0 l 0
theorem IndexFunc_platform (hN : big ≤ N) (xs : List (Str × List (Str × Str))) (hx : xs.length ≤ maxLen) (q : Str × List (Str × Str)) : slices_IndexFunc_api_Platform N xs (q, ()) = some (idxP (fun x => x.1 == q.1) xs) := by
 unfold slices_IndexFunc_api_Platform
 refine loop_for (fun _ _ => rfl) xs hx (fun self i h r hr => ?_) (fun self => ?_) hN
 · simp only [z9L0T, geti_lt xs h, wrap_succ hx h, hr, bnd_some, config_CheckPlatforms_1]
   rw [lt_tt h, br_true, br_ite]
 · simp only [z9L0T, lt_ff, br_false]
theorem CheckPlatforms_eq (hN : big ≤ N) (l : List (Str × List (Str × Str))) (hl : Fit platformTy l) : config_CheckPlatforms N l = some (platformsS l) := by
 unfold config_CheckPlatforms platformsS
 rw [loop_for (f := z30L0 N l l (l.length : Int) (some 0)) (fun _ _ => rfl) l hl.1 (body := platformsB l) (k := 0)
   (fun self i h r hr => by
     have hx := hl.2 _ (List.getElem_mem h)
     have ht : (l.take i).length ≤ maxLen := by have := hl.1; rw [List.length_take]; omega
     simp only [z30L0T, geti_lt l h, wrap_succ hl.1 h, hr, bnd_some, config_IsWord_eq, CheckPairs_eq hN _ hx.2.1, slc_take l (Nat.le_of_lt h), slices_ContainsFunc_api_Platform, IndexFunc_platform hN _ ht, idxP_nonneg]
     rw [lt_tt h, br_true, br_ite, ne_zero_dec, br_ite, br_ite]; rfl)
   (fun self => by simp only [z30L0T, lt_ff, br_false]) hN,
   (decide_eq_decide.2 (by omega) : decide ((l.length : Int) > 50) = decide (50 < l.length)), br_ite]
 simp only [decide_eq_true_eq]
abbrev condTy : Ty := .pr .str (.pr (.sl (.pr .str .str)) (.sl (.pr .str .str)))
def condB1 (l : List (Str × List Str)) (m : List (Str × List (Str × Str) × List (Str × Str))) (i : Nat) (x : Str × List (Str × Str) × List (Str × Str)) (r : Int) : Int :=
 if !condS x.1 then 3 else if decide (30 < x.2.1.length) then 2 else if decide (30 < x.2.2.length) then 2 else
   if decide (pairsS l x.2.1 false ≠ 0) then pairsS l x.2.1 false else if decide (pairsCheckS x.2.2 ≠ 0) then pairsCheckS x.2.2 else prevS m i x.1 r
def conditionsS (l : List (Str × List Str)) (m : List (Str × List (Str × Str) × List (Str × Str))) : Int :=
 if settingsS l ≠ 0 then settingsS l else if 100 < m.length then 2 else forT (condB1 l m) 0 m 0
theorem CheckConditions_eq (hN : big ≤ N) (l : List (Str × List Str)) (hl : Fit settingTy l) (m : List (Str × List (Str × Str) × List (Str × Str))) (hm : Fit (.sl condTy) m) : config_CheckConditions N l m = some (conditionsS l m) := by
 unfold config_CheckConditions conditionsS
 rw [settings_eq hN l hl, bnd_some, ne_zero_dec]
 by_cases hz : settingsS l = 0
 · rw [decide_eq_false (by simpa using hz), br_false, if_neg (by simpa using hz),
     loop_for (f := z28L0 N l m m (m.length : Int) (some 0)) (fun _ _ => rfl) m hm.1 (body := condB1 l m) (k := 0)
     (fun self i h r hr => by
       have hx := hm.2 _ (List.getElem_mem h)
       simp only [z28L0T, geti_lt m h, wrap_succ hm.1 h, hr, bnd_some, ContainsFunc_eq, checkSet_eq hN l hl _ hx.2.1.1 (settings_some hz), CheckPairs_eq hN _ hx.2.2.1]
       rw [lt_tt h, br_true, prev_eq hm.1 h, ne_zero_dec, ne_zero_dec]
       unfold condB1 condS
       rw [(not_dec (by omega) : decide ((m[i].1.length : Int) < 1) = !decide (1 ≤ m[i].1.length)), (not_dec (by omega) : decide ((m[i].1.length : Int) > 1000) = !decide (m[i].1.length ≤ 1000)),
         (decide_eq_decide.2 (by omega) : decide ((m[i].2.1.length : Int) > 30) = decide (30 < m[i].2.1.length)), (decide_eq_decide.2 (by omega) : decide ((m[i].2.2.length : Int) > 30) = decide (30 < m[i].2.2.length))]
       simp only [br_ite]
       cases decide (1 ≤ m[i].1.length) <;> cases decide (m[i].1.length ≤ 1000) <;> cases (m[i].1 == [100, 101, 102, 97, 117, 108, 116]) <;> cases m[i].1.any condB <;> simp)
     (fun self => by simp only [z28L0T, lt_ff, br_false]) hN,
     (decide_eq_decide.2 (by omega) : decide ((m.length : Int) > 100) = decide (100 < m.length)), br_ite]
   simp only [decide_eq_true_eq]
 · rw [decide_eq_true hz, br_true, if_pos hz]
def hasPair (b : List (Str × Str)) (x : Str × Str) : Bool := b.any fun y => eqb (.pr .str .str) x y
theorem Contains_pair (hN : big ≤ N) (xs : List (Str × Str)) (hx : xs.length ≤ maxLen) (x : Str × Str) : slices_Contains_api_Pair N xs x = some (hasPair xs x) := by
 unfold slices_Contains_api_Pair slices_Index_api_Pair
 have hL : z33L0 N xs (xs.length : Int) x.1 x.2 (some (-1)) N 0 = some (idxP (fun y => eqb (.pr .str .str) x y) xs) := by
   refine loop_for (fun _ _ => rfl) xs hx (fun self i h r hr => ?_) (fun self => ?_) hN
   · simp only [z33L0T, geti_lt xs h, wrap_succ hx h, hr, bnd_some]
     rw [lt_tt h, br_true, br_ite]
   · simp only [z33L0T, lt_ff, br_false]
 rw [hL, bnd_some, idxP_nonneg]; rfl
theorem forT_every {α : Type} (p : α → Bool) (k : Bool) : ∀ (xs : List α) (j : Nat), forT (fun _ x r => if (!p x) = true then false else r) k xs j = (xs.all p && k)
 | [], _ => by simp [forT]
 | x :: xs, j => by
   show (if (!p x) = true then false else forT _ _ xs (j + 1)) = _
   rw [forT_every p k xs (j + 1), List.all_cons]
   cases h : p x <;> simp
theorem Fit_eq (hN : big ≤ N) (a b : List (Str × Str)) (ha : a.length ≤ maxLen) (hb : b.length ≤ maxLen) : config_Fit N a b = some (a.all (hasPair b)) := by
 unfold config_Fit
 rw [show a.all (hasPair b) = (a.all (hasPair b) && true) by simp, ← forT_every _ _ _ 0]
 refine loop_for (fun _ _ => rfl) a ha (fun self i h r hr => ?_) (fun self => ?_) hN
 · simp only [z93L0T, geti_lt a h, wrap_succ ha h, hr, bnd_some, Contains_pair hN b hb]
   rw [lt_tt h, br_true, br_ite]
 · simp only [z93L0T, lt_ff, br_false]
theorem prevS_keep {α : Type} {l : List (Str × α)} {i : Nat} {n : Str} {r : Int} (h : prevS l i n r = 0) : r = 0 := by
 unfold prevS at h
 split at h
 · exact h
 · split at h
   · split at h
     · cases h
     · exact h
   · exact h
theorem pairs_found {l : List (Str × List Str)} {c : List (Str × Str)} {strict : Bool} (h : pairsS l c strict = 0) : ∀ p ∈ c, (l.find? (fun s => s.1 == p.1)).isSome = true := by
 refine forT_keep (p := fun p : Str × Str => (l.find? (fun s => s.1 == p.1)).isSome = true) (fun i x r hb => ?_) c 0 h
 unfold pairB at hb
 split at hb
 · cases hb
 · rename_i s hf
   split at hb
   · cases hb
   · split at hb
     · cases hb
     · exact ⟨by rw [hf]; rfl, prevS_keep hb⟩
theorem cond_found {l : List (Str × List Str)} {m : List (Str × List (Str × Str) × List (Str × Str))} (h : conditionsS l m = 0) : settingsS l = 0 ∧ ∀ x ∈ m, pairsS l x.2.1 false = 0 := by
 unfold conditionsS at h
 split at h
 · rename_i h'; exact absurd h h'
 · rename_i h'
   refine ⟨Classical.not_not.1 h', ?_⟩
   split at h
   · cases h
   · refine forT_keep (p := fun x : Str × List (Str × Str) × List (Str × Str) => pairsS l x.2.1 false = 0) (fun i x r hb => ?_) m 0 h
     unfold condB1 at hb
     split at hb
     · cases hb
     · split at hb
       · cases hb
       · split at hb
         · cases hb
         · split at hb
           · rename_i h1; exact absurd hb (by simpa using h1)
           · rename_i h1
             split at hb
             · rename_i h2; exact absurd hb (by simpa using h2)
             · exact ⟨by simpa using h1, prevS_keep hb⟩
def holdsS (l : List (Str × List Str)) (x : Str × List (Str × Str) × List (Str × Str)) (c : List (Str × Str)) (p : Str × List (Str × Str)) : Bool :=
 x.2.1.all (fun n => valueS l c n.1 == n.2) && x.2.2.all (hasPair p.2)
theorem holds_eq (hN : big ≤ N) (l : List (Str × List Str)) (hl : Fit settingTy l) (x : Str × List (Str × Str) × List (Str × Str)) (hx : Fit condTy x) (c : List (Str × Str)) (hc : c.length ≤ maxLen) (p : Str × List (Str × Str)) (hp : p.2.length ≤ maxLen)
   (hs : settingsS l = 0) (hn : ∀ n ∈ x.2.1, (l.find? (fun s => s.1 == n.1)).isSome = true) : config_holds N l x c p = some (holdsS l x c p) := by
 unfold config_holds holdsS
 rw [← forT_every _ _ _ 0]
 refine loop_for (fun _ _ => rfl) x.2.1 hx.2.1.1 (fun self i h r hr => ?_) (fun self => ?_) hN
 · simp only [z81L0T, geti_lt _ h, wrap_succ hx.2.1.1 h, hr, bnd_some, valueOf_eq hN l hl c hc (settings_some hs) _ (hn _ (List.getElem_mem h))]
   rw [lt_tt h, br_true, br_ite]
 · simp only [z81L0T, lt_ff, br_false, Fit_eq hN _ _ hx.2.2.1 hp, bnd_some]
theorem fit_one {t : Ty} {x : t.den} (h : Fit t x) : Fit (.sl t) [x] := ⟨by show 1 ≤ maxLen; decide, fun y hy => by rw [List.mem_singleton.1 hy]; exact h⟩
theorem br_ne {R : Type} (n : Int) (x y : Option R) : br (n != 0) x y = if n ≠ 0 then x else y := by
 rw [ne_zero_dec, br_eq_ite]; simp only [decide_eq_true_eq]
abbrev worldTy : Ty := .pr settingTy (.pr (.sl condTy) (.pr platformTy (.pr (.sl (.pr .str (.pr .str (.pr (.sl (.pr .str .str)) (.sl (.pr .str .str)))))) (.sl (.pr .str (.pr (.sl (.pr .str .str)) (.sl .str)))))))
end Go.Proofs.YtbekhaioddmliaaGreatDoor


/- What CheckTools and Tools compute. No program in sight. -/
namespace Go.Proofs.YtbekhaioddmliaaGreatDoor
set_option linter.unusedVariables false
set_option linter.unusedSimpArgs false
open Go Go.RowKit
variable {N : Nat}
end Go.Proofs.YtbekhaioddmliaaGreatDoor


/- Facts on right settings and configurations. No program in sight. -/
namespace Go.Proofs.YtbekhaioddmliaaGreatDoor
set_option linter.unusedVariables false
set_option linter.unusedSimpArgs false
open Go Go.RowKit
theorem less_eq : ∀ (x y : List UInt8), Op.bytesLess x y = decide (x < y)
 | [], [] => by simp [Op.bytesLess]
 | _ :: _, [] => by simp [Op.bytesLess]
 | [], _ :: _ => by simp [Op.bytesLess]
 | a :: x, b :: y => by
   rw [Op.bytesLess, less_eq x y]
   simp only [List.cons_lt_cons_iff]
   by_cases h1 : a < b <;> by_cases h2 : a = b <;> by_cases h3 : x < y <;> simp [h1, h2, h3]
theorem lt_tri (a b : Str) : a < b ∨ a = b ∨ b < a := by
 rcases Classical.em (a < b) with h | h
 · exact .inl h
 · rcases List.le_iff_lt_or_eq.1 (List.not_lt.1 h) with h | h
   · exact .inr (.inr h)
   · exact .inr (.inl h.symm)
theorem le_not (n y : Str) : (Op.bytesLess n y || n == y) = !decide (y < n) := by
 rw [less_eq]
 rcases lt_tri n y with h | h | h
 · rw [decide_eq_true h, decide_eq_false (List.lt_asymm h)]; rfl
 · subst h
   rw [decide_eq_false (List.lt_irrefl n), beq_self_eq_true]; rfl
 · rw [decide_eq_false (List.lt_asymm h), decide_eq_true h]
   have : n ≠ y := fun e => List.lt_irrefl n (by rw [e] at h ⊢; exact h)
   simp [this]
def Asc {α : Type} (l : List (Str × α)) : Prop := l.Pairwise fun a b => a.1 < b.1
theorem prevS_zero {α : Type} {l : List (Str × α)} {i : Nat} {n : Str} {r : Int} : prevS l i n r = 0 ↔ (∀ y, i ≠ 0 → l[i - 1]? = some y → y.1 < n) ∧ r = 0 := by
 unfold prevS
 by_cases h : i = 0
 · simp [h]
 · rw [if_neg h]
   cases hy : l[i - 1]? with
   | none => simp
   | some y =>
     simp only [le_not]
     by_cases hd : y.1 < n
     · simp [hd]
     · simp [hd, h]
theorem forT_zero {α : Type} {q : Nat → α → Prop} {body : Nat → α → Int → Int} (h : ∀ i x r, body i x r = 0 ↔ q i x ∧ r = 0) : ∀ (xs : List α) (j : Nat), forT body 0 xs j = 0 ↔ ∀ i (hi : i < xs.length), q (j + i) xs[i]
 | [], _ => by simp [forT]
 | x :: xs, j => by
   show body j x (forT body 0 xs (j + 1)) = 0 ↔ _
   rw [h, forT_zero h xs (j + 1)]
   constructor
   · rintro ⟨h0, h1⟩ i hi
     cases i with
     | zero => exact h0
     | succ i => have := h1 i (by simpa using hi); simpa [Nat.add_assoc, Nat.add_comm 1] using this
   · intro h'
     refine ⟨h' 0 (by simp), fun i hi => ?_⟩
     have := h' (i + 1) (by simpa using hi)
     simpa [Nat.add_assoc, Nat.add_comm 1] using this
theorem asc_iff {α : Type} (l : List (Str × α)) : (∀ i (hi : i < l.length), ∀ y, i ≠ 0 → l[i - 1]? = some y → y.1 < l[i].1) ↔ Asc l := by
 constructor
 · intro h
   have step : ∀ i (hi : i + 1 < l.length), l[i].1 < l[i + 1].1 := fun i hi => h (i + 1) hi _ (by omega) (by rw [show i + 1 - 1 = i from rfl, List.getElem?_eq_getElem (by omega)])
   refine List.pairwise_iff_getElem.2 fun i j hi hj hij => ?_
   have : ∀ d (hd : i + 1 + d < l.length), l[i].1 < l[i + 1 + d].1 := by
     intro d
     induction d with
     | zero => intro hd; exact step i hd
     | succ d ih => intro hd; exact List.lt_trans (ih (by omega)) (step (i + 1 + d) hd)
   have := this (j - (i + 1)) (by omega)
   have e : i + 1 + (j - (i + 1)) = j := by omega
   simpa only [e] using this
 · intro h i hi y h0 hy
   obtain ⟨hl, rfl⟩ := List.getElem?_eq_some_iff.1 hy
   exact List.pairwise_iff_getElem.1 h (i - 1) i hl hi (by omega)
theorem Asc.find {α : Type} {l : List (Str × α)} (h : Asc l) {s : Str × α} (hs : s ∈ l) : l.find? (fun x => x.1 == s.1) = some s := by
 induction l with
 | nil => cases hs
 | cons x l ih =>
   have hx := List.pairwise_cons.1 h
   rcases List.mem_cons.1 hs with rfl | hs
   · simp
   · have : x.1 < s.1 := hx.1 s hs
     have hne : x.1 ≠ s.1 := fun e => by rw [e] at this; exact List.lt_irrefl _ this
     rw [List.find?_cons_of_neg (by simpa using hne)]
     exact ih hx.2 hs
theorem find_mem {α : Type} {l : List (Str × α)} {n : Str} {s : Str × α} (h : l.find? (fun x => x.1 == n) = some s) : s ∈ l ∧ s.1 = n :=
 ⟨List.mem_of_find?_eq_some h, by simpa using List.find?_some h⟩
theorem Asc.inj {α : Type} {l : List (Str × α)} (h : Asc l) {s t : Str × α} (hs : s ∈ l) (ht : t ∈ l) (e : s.1 = t.1) : s = t := by
 have h1 := h.find hs
 rw [e, h.find ht] at h1
 exact (Option.some.inj h1).symm
theorem Asc.ext {α : Type} : ∀ {a b : List (Str × α)}, Asc a → Asc b → (∀ p, p ∈ a ↔ p ∈ b) → a = b
 | [], [], _, _, _ => rfl
 | [], y :: b, _, _, h => by have := (h y).2 (by simp); cases this
 | x :: a, [], _, _, h => by have := (h x).1 (by simp); cases this
 | x :: a, y :: b, ha, hb, h => by
   have ha' := List.pairwise_cons.1 ha
   have hb' := List.pairwise_cons.1 hb
   have hxy : x = y := by
     rcases List.mem_cons.1 ((h x).1 (by simp)) with e | h1
     · exact e
     · rcases List.mem_cons.1 ((h y).2 (by simp)) with e | h2
       · exact e.symm
       · exact absurd (ha'.1 y h2) (List.lt_asymm (hb'.1 x h1))
   subst hxy
   refine congrArg _ (Asc.ext ha'.2 hb'.2 fun p => ⟨fun hp => ?_, fun hp => ?_⟩)
   · rcases List.mem_cons.1 ((h p).1 (List.mem_cons_of_mem _ hp)) with rfl | h1
     · exact absurd (ha'.1 p hp) (List.lt_irrefl _)
     · exact h1
   · rcases List.mem_cons.1 ((h p).2 (List.mem_cons_of_mem _ hp)) with rfl | h1
     · exact absurd (hb'.1 p hp) (List.lt_irrefl _)
     · exact h1
theorem Asc.nodup {α : Type} {l : List (Str × α)} (h : Asc l) : (l.map (·.1)).Nodup := by
 rw [List.Nodup, List.pairwise_map]
 exact h.imp fun {a b} hab e => by
   have e : a.1 = b.1 := e
   rw [e] at hab; exact List.lt_irrefl _ hab
theorem Asc.len {α β : Type} {c : List (Str × α)} {l : List (Str × β)} (h : Asc c) (hm : ∀ p ∈ c, ∃ s ∈ l, s.1 = p.1) : c.length ≤ l.length := by
 have := h.nodup.length_le_of_subset (l₂ := l.map (·.1)) (fun n hn => by
   obtain ⟨p, hp, rfl⟩ := List.mem_map.1 hn
   obtain ⟨s, hs, e⟩ := hm p hp
   exact List.mem_map.2 ⟨s, hs, e⟩)
 simpa using this
structure SetOk (l : List (Str × List Str)) : Prop where
 len : l.length ≤ 30
 asc : Asc l
 name : ∀ s ∈ l, isWordS s.1 = true
 some : ∀ s ∈ l, s.2 ≠ []
 few : ∀ s ∈ l, s.2.length ≤ 20
 word : ∀ s ∈ l, ∀ v ∈ s.2, isWordS v = true
 once : ∀ s ∈ l, s.2.Nodup
theorem values_zero (r : Int) (l : List Str) : valuesS r l = 0 ↔ ((∀ v ∈ l, isWordS v = true) ∧ l.Nodup) ∧ r = 0 := by
 have gen : ∀ (xs pre : List Str), forT (fun i w r => if !isWordS w then 5 else if ((pre ++ xs).take i).any (w == ·) then 7 else r) r xs pre.length = 0 ↔ ((∀ v ∈ xs, isWordS v = true ∧ v ∉ pre) ∧ xs.Nodup) ∧ r = 0 := by
   intro xs
   induction xs with
   | nil => intro pre; simp [forT]
   | cons x xs ih =>
     intro pre
     simp only [forT]
     have h2 := ih (pre ++ [x])
     rw [List.append_assoc, List.length_append] at h2
     simp only [List.singleton_append, List.length_singleton] at h2
     have ht : ((pre ++ x :: xs).take pre.length) = pre := by simp
     rw [ht]
     cases hw : isWordS x with
     | false => simp [hw]
     | true =>
       simp only [Bool.not_true, Bool.false_eq_true, if_false]
       by_cases hp : x ∈ pre
       · have : pre.any (x == ·) = true := List.any_eq_true.2 ⟨x, hp, by simp⟩
         rw [if_pos this]
         simp [hp]
       · have : ¬ pre.any (x == ·) = true := fun h => by
           obtain ⟨y, hy, e⟩ := List.any_eq_true.1 h
           exact hp (by rw [eq_of_beq e]; exact hy)
         rw [if_neg this, h2]
         simp only [List.mem_cons, List.nodup_cons, List.mem_append, List.not_mem_nil, or_false, forall_eq_or_imp, hw, hp, not_false_eq_true, and_true, true_and, not_or]
         constructor
         · rintro ⟨⟨h3, h4⟩, h5⟩
           exact ⟨⟨fun v hv => ⟨(h3 v hv).1, (h3 v hv).2.1⟩, fun hx => (h3 x hx).2.2 rfl, h4⟩, h5⟩
         · rintro ⟨⟨h3, h4, h5⟩, h6⟩
           exact ⟨⟨fun v hv => ⟨(h3 v hv).1, (h3 v hv).2, fun e => h4 (e ▸ hv)⟩, h5⟩, h6⟩
 have := gen l []
 unfold valuesS
 simpa using this
theorem settings_iff (l : List (Str × List Str)) : settingsS l = 0 ↔ SetOk l := by
 unfold settingsS
 by_cases h30 : 30 < l.length
 · rw [if_pos h30]
   exact ⟨fun h => (by cases h), fun h => absurd h.len (by omega)⟩
 · rw [if_neg h30]
   rw [forT_zero (q := fun i x => (isWordS x.1 = true ∧ x.2 ≠ [] ∧ x.2.length ≤ 20 ∧ (∀ v ∈ x.2, isWordS v = true) ∧ x.2.Nodup) ∧ ∀ y, i ≠ 0 → l[i - 1]? = some y → y.1 < x.1) (fun i x r => ?_) l 0]
   · constructor
     · intro h
       have hm : ∀ s ∈ l, (isWordS s.1 = true ∧ s.2 ≠ [] ∧ s.2.length ≤ 20 ∧ (∀ v ∈ s.2, isWordS v = true) ∧ s.2.Nodup) := fun s hs => by
         obtain ⟨i, hi, rfl⟩ := List.getElem_of_mem hs
         exact (h i hi).1
       exact ⟨by omega, (asc_iff l).1 fun i hi y h0 hy => (h i hi).2 y (by omega) (by simpa using hy), fun s hs => (hm s hs).1, fun s hs => (hm s hs).2.1, fun s hs => (hm s hs).2.2.1, fun s hs => (hm s hs).2.2.2.1, fun s hs => (hm s hs).2.2.2.2⟩
     · intro h i hi
       have hm := List.getElem_mem hi
       exact ⟨⟨h.name _ hm, h.some _ hm, h.few _ hm, h.word _ hm, h.once _ hm⟩, fun y h0 hy => (asc_iff l).2 h.asc i hi y (by omega) (by simpa using hy)⟩
   · unfold settingsB
     cases hw : isWordS x.1 with
     | false => simp
     | true =>
       simp only [Bool.not_true, Bool.false_eq_true, if_false]
       by_cases h0 : x.2.length = 0
       · rw [if_pos h0]
         exact ⟨fun h => (by cases h), fun h => absurd (List.length_eq_zero_iff.1 h0) h.1.1.2.1⟩
       · rw [if_neg h0]
         by_cases h20 : 20 < x.2.length
         · rw [if_pos h20]
           exact ⟨fun h => (by cases h), fun h => absurd h.1.1.2.2.1 (by omega)⟩
         · rw [if_neg h20, values_zero, prevS_zero]
           have hne : x.2 ≠ [] := fun e => h0 (by rw [e]; rfl)
           constructor
           · rintro ⟨⟨h1, h2⟩, h3, h4⟩
             exact ⟨⟨⟨trivial, hne, by omega, h1, h2⟩, h3⟩, h4⟩
           · rintro ⟨⟨⟨_, _, _, h1, h2⟩, h3⟩, h4⟩
             exact ⟨⟨h1, h2⟩, h3, h4⟩
def PairOk (l : List (Str × List Str)) (strict : Bool) (p : Str × Str) : Prop := ∃ s, l.find? (fun s => s.1 == p.1) = some s ∧ p.2 ∈ s.2 ∧ (strict = true → s.2.head? ≠ some p.2)
theorem any_mem (x : Str) (l : List Str) : l.any (x == ·) = decide (x ∈ l) := by
 by_cases h : x ∈ l
 · rw [decide_eq_true h]; exact List.any_eq_true.2 ⟨x, h, by simp⟩
 · rw [decide_eq_false h, List.any_eq_false]
   intro y hy e
   exact h (by rw [eq_of_beq e]; exact hy)
theorem pairs_iff (l : List (Str × List Str)) (c : List (Str × Str)) (strict : Bool) : pairsS l c strict = 0 ↔ (∀ p ∈ c, PairOk l strict p) ∧ Asc c := by
 unfold pairsS
 rw [forT_zero (q := fun i x => PairOk l strict x ∧ ∀ y, i ≠ 0 → c[i - 1]? = some y → y.1 < x.1) (fun i x r => ?_) c 0]
 · constructor
   · intro h
     refine ⟨fun s hs => ?_, (asc_iff c).1 fun i hi y h0 hy => (h i hi).2 y (by omega) (by simpa using hy)⟩
     obtain ⟨i, hi, rfl⟩ := List.getElem_of_mem hs
     exact (h i hi).1
   · rintro ⟨h1, h2⟩ i hi
     exact ⟨h1 _ (List.getElem_mem hi), fun y h0 hy => (asc_iff c).2 h2 i hi y (by omega) (by simpa using hy)⟩
 · unfold pairB PairOk
   cases hf : l.find? (fun s => s.1 == x.1) with
   | none => simp
   | some s =>
     simp only [any_mem]
     by_cases hm : x.2 ∈ s.2
     · simp only [hm, decide_true, Bool.not_true, Bool.false_eq_true, if_false]
       by_cases hs : (strict && s.2.head? == some x.2) = true
       · rw [if_pos hs]
         simp only [Bool.and_eq_true] at hs
         refine ⟨fun h => (by cases h), fun h => ?_⟩
         obtain ⟨⟨⟨t, ht, _, h1⟩, _⟩, _⟩ := h
         injection ht with ht
         subst ht
         exact absurd (eq_of_beq hs.2) (h1 hs.1)
       · rw [if_neg hs, prevS_zero]
         have h1 : strict = true → s.2.head? ≠ some x.2 := fun h e => hs (by rw [h, e]; simp)
         exact ⟨fun h => ⟨⟨⟨s, rfl, hm, h1⟩, h.1⟩, h.2⟩, fun h => ⟨h.1.2, h.2⟩⟩
     · simp only [hm, decide_false, Bool.not_false, if_true]
       refine ⟨fun h => (by cases h), fun h => ?_⟩
       obtain ⟨⟨⟨t, ht, h1, _⟩, _⟩, _⟩ := h
       injection ht with ht
       subst ht
       exact absurd h1 hm
structure CfgOk (l : List (Str × List Str)) (c : List (Str × Str)) : Prop where
 set : SetOk l
 pair : ∀ p ∈ c, PairOk l true p
 asc : Asc c
theorem config_iff (l : List (Str × List Str)) (c : List (Str × Str)) : configS l c = 0 ↔ CfgOk l c := by
 unfold configS
 by_cases h : settingsS l = 0
 · rw [if_neg (by simpa using h), pairs_iff]
   exact ⟨fun h' => ⟨(settings_iff l).1 h, h'.1, h'.2⟩, fun h' => ⟨h'.pair, h'.asc⟩⟩
 · rw [if_pos h]
   exact ⟨fun h' => absurd h' h, fun h' => absurd ((settings_iff l).2 h'.set) h⟩
theorem PairOk.mem {l : List (Str × List Str)} {strict : Bool} {p : Str × Str} (h : PairOk l strict p) : ∃ s ∈ l, s.1 = p.1 ∧ p.2 ∈ s.2 := by
 obtain ⟨s, h1, h2, _⟩ := h
 exact ⟨s, (find_mem h1).1, (find_mem h1).2, h2⟩
theorem CfgOk.len {l : List (Str × List Str)} {c : List (Str × Str)} (h : CfgOk l c) : c.length ≤ 30 :=
 Nat.le_trans (h.asc.len fun p hp => by obtain ⟨s, h1, h2, _⟩ := (h.pair p hp).mem; exact ⟨s, h1, h2⟩) h.set.len
end Go.Proofs.YtbekhaioddmliaaGreatDoor


/- Values: when they are right, when they are the same, their copies. No program in sight. -/
namespace Go.Proofs.YtbekhaioddmliaaGreatDoor
set_option linter.unusedVariables false
set_option linter.unusedSimpArgs false
open Go Go.RowKit
variable {N : Nat}
theorem GValue.eta (v : GValue) : GValue.mk v.kind v.text v.number v.list v.cases = v := by cases v; rfl
abbrev Case : Type := Str × GValue
abbrev caseTy : Ty := .pr .str (.rc .value)
def textB (b : UInt8) : Bool := b == 10 || (!decide (b < 32) && !decide (b > 126))
theorem isText_eq (hN : big ≤ N) (s : Str) (hs : s.length ≤ maxLen) : script_isText N s = some (s.all textB) := by
 unfold script_isText
 rw [show s.all textB = (s.all textB && true) by simp, ← forT_every textB true s 0]
 refine loop_for (fun _ _ => rfl) s hs (fun self i h r hr => ?_) (fun self => ?_) hN
 · simp only [z78L0T, geti_lt s h, wrap_succ hs h, hr, bnd_some]
   rw [lt_tt h, br_true]
   unfold textB
   cases h1 : (s[i] == (10 : UInt8)) <;> cases h2 : decide (s[i] < (32 : UInt8)) <;> cases h3 : decide (s[i] > (126 : UInt8)) <;> simp [h1, bne]
 · simp only [z78L0T, lt_ff, br_false]
def textE (s : Str) : Int := if decide ((s.length : Int) > 1000) then 2 else if s.all textB then 0 else 3
theorem checkText_eq (hN : big ≤ N) (s : Str) (hs : s.length ≤ maxLen) : script_checkText N s = some (textE s) := by
 unfold script_checkText textE
 rw [isText_eq hN s hs, bnd_some]
 cases decide ((s.length : Int) > 1000) <;> cases s.all textB <;> simp
theorem idx_any {α : Type} (p : α → Bool) (xs : List α) : decide (idxP p xs ≥ (0 : Int)) = xs.any p := idxP_nonneg p xs
theorem Contains_long (hN : big ≤ N) (l : List Str) (hl : l.length ≤ maxLen) : slices_ContainsFunc_string_string N l () = some (l.any fun s => decide ((s.length : Int) > 1000)) := by
 unfold slices_ContainsFunc_string_string
 have : slices_IndexFunc_string_string N l () = some (idxP (fun s => decide ((s.length : Int) > 1000)) l) := by
   unfold slices_IndexFunc_string_string
   refine loop_for (fun _ _ => rfl) l hl (fun self i h r hr => ?_) (fun self => ?_) hN
   · simp only [z7L0T, geti_lt l h, wrap_succ hl h, hr, bnd_some, script_CheckValue_1]
     rw [lt_tt h, br_true, br_ite]
   · simp only [z7L0T, lt_ff, br_false]
 rw [this, bnd_some, idx_any]
theorem Contains_odd (hN : big ≤ N) (l : List Str) (hl : Fit (.sl .str) l) : slices_ContainsFunc_string_string_2 N l () = some (l.any fun s => !s.all textB) := by
 unfold slices_ContainsFunc_string_string_2
 have : slices_IndexFunc_string_string_2 N l () = some (idxP (fun s => !s.all textB) l) := by
   unfold slices_IndexFunc_string_string_2
   refine loop_for (fun _ _ => rfl) l hl.1 (fun self i h r hr => ?_) (fun self => ?_) hN
   · simp only [z5L0T, geti_lt l h, wrap_succ hl.1 h, hr, bnd_some, script_CheckValue_2, isText_eq hN _ (hl.2 _ (List.getElem_mem h))]
     rw [lt_tt h, br_true, br_ite]
   · simp only [z5L0T, lt_ff, br_false]
 rw [this, bnd_some, idx_any]
def tailV (cc : Int) (v : GValue) : Int :=
 if decide ((v.text.length : Int) > 1000) then 2 else if decide ((v.list.length : Int) > 1000) then 2 else if v.list.any (fun s => decide ((s.length : Int) > 1000)) then 2 else if decide ((v.cases.length : Int) > 50) then 2 else
   if !v.text.all textB then 3 else if v.list.any (fun s => !s.all textB) then 3 else if decide (v.number < 0) then 1 else if decide (v.number > 999999999) then 1 else if v.kind == 4 then cc else 0
def formV (v : GValue) : Bool := (!(v.text == []) && v.kind != 1) || (v.number != 0 && v.kind != 2) || (decide ((v.list.length : Int) > 0) && v.kind != 3) || (decide ((v.cases.length : Int) > 0) && v.kind != 4)
def valS (cc : Int) (v : GValue) : Int :=
 if decide (v.kind < 1) then 4 else if decide (v.kind > 4) then 4 else if formV v then 3 else tailV cc v
theorem valFit {v : GValue} (h : Fit (.rc .value) v) : (Lit.int .i64 v.kind).wf = true ∧ v.text.length ≤ maxLen ∧ (Lit.int .i64 v.number).wf = true ∧ Fit (.sl .str) v.list ∧ Fit (.sl caseTy) v.cases := FitR.elim h
theorem CheckValue_eq (hN : big ≤ N) {r : List Case → Option Int} {cc : Int} (v : GValue) (hv : Fit (.rc .value) v) (hr : v.kind = 4 → r v.cases = some cc) : script_CheckValue N r v = some (valS cc v) := by
 obtain ⟨_, ht, _, hl, hc⟩ := valFit hv
 have hT : (br (decide ((v.text.length : Int) > (1000 : Int))) (some (2 : Int)) (br (decide ((v.list.length : Int) > (1000 : Int))) (some (2 : Int)) (bnd (slices_ContainsFunc_string_string N v.list ()) fun t61 => br (t61) (some (2 : Int)) (br (decide ((v.cases.length : Int) > (50 : Int))) (some (2 : Int)) (bnd (script_isText N v.text) fun t72 => br (!t72) (some (3 : Int)) (bnd (slices_ContainsFunc_string_string_2 N v.list ()) fun t77 => br (t77) (some (3 : Int)) (br (decide (v.number < (0 : Int))) (some (1 : Int)) (br (decide (v.number > (999999999 : Int))) (some (1 : Int)) (br (v.kind == (4 : Int)) (bnd (r v.cases) fun t94 => some t94) (some (0 : Int)))))))))))= some (tailV cc v) := by
   simp only [Contains_long hN _ hl.1, Contains_odd hN _ hl, isText_eq hN _ ht, bnd_some]
   have hk : (br (v.kind == (4 : Int)) (bnd (r v.cases) fun t94 => some t94) (some (0 : Int))) = some (if v.kind == 4 then cc else 0) := by
     by_cases h4 : v.kind = 4
     · rw [hr h4]; simp [h4]
     · rw [show (v.kind == (4 : Int)) = false from beq_false_of_ne h4]; simp
   rw [hk]
   simp only [br_ite]
   rfl
 unfold script_CheckValue
 simp only [hT]
 unfold valS formV
 generalize tailV cc v = t
 generalize decide (v.kind < 1) = b1
 generalize decide (v.kind > 4) = b2
 generalize (v.text == ([] : Str)) = b3
 generalize (v.kind != (1 : Int)) = b4
 generalize (v.number != (0 : Int)) = b5
 generalize (v.kind != (2 : Int)) = b6
 generalize decide ((v.list.length : Int) > 0) = b7
 generalize (v.kind != (3 : Int)) = b8
 generalize decide ((v.cases.length : Int) > 0) = b9
 generalize (v.kind != (4 : Int)) = b10
 cases b1
 · cases b2
   · cases b3 <;> cases b5 <;> cases b7 <;> cases b9 <;> simp only [br_true, br_false, Bool.not_true, Bool.not_false] <;> cases b4 <;> cases b6 <;> cases b8 <;> cases b10 <;> simp
   · simp
 · simp
def caseB (l : List Case) (i : Nat) (c : Case) (r : Int) : Int :=
 if textE c.1 ≠ 0 then textE c.1 else if (l.take i).any (fun d => d.1 == c.1) then 7 else if c.2.kind == 4 then 4 else if valS 0 c.2 ≠ 0 then valS 0 c.2 else
   if c.2.kind != (match l[0]? with | some d => d.2.kind | none => 0) then 6 else r
def casesS (l : List Case) : Int := if l.length = 0 then 9 else forT (caseB l) 0 l 0
def valueE (v : GValue) : Int := valS (casesS v.cases) v
theorem IndexFunc_case (hN : big ≤ N) (xs : List Case) (hx : xs.length ≤ maxLen) (q : Case) : slices_IndexFunc_api_Case N xs (q, ()) = some (idxP (fun x => x.1 == q.1) xs) := by
 unfold slices_IndexFunc_api_Case
 refine loop_for (fun _ _ => rfl) xs hx (fun self i h r hr => ?_) (fun self => ?_) hN
 · simp only [z22L0T, geti_lt xs h, wrap_succ hx h, hr, bnd_some, script_checkCases_1]
   rw [lt_tt h, br_true, br_ite]
 · simp only [z22L0T, lt_ff, br_false]
theorem checkCases_eq (hN : big ≤ N) (r : List Case → Option Int) (l : List Case) (hl : Fit (.sl caseTy) l) : script_checkCases_b N r l = some (casesS l) := by
 unfold script_checkCases_b casesS
 by_cases h0 : l.length = 0
 · simp [h0]
 · rw [if_neg h0, show ((l.length : Int) == (0 : Int)) = false from beq_false_of_ne (by omega), br_false]
   refine loop_for (fun _ _ => rfl) l hl.1 (fun self i h r' hr => ?_) (fun self => ?_) hN
   · have hx := hl.2 _ (List.getElem_mem h)
     have ht : (l.take i).length ≤ maxLen := by have := hl.1; rw [List.length_take]; omega
     have h00 : 0 < l.length := by omega
     simp only [z41L0T, geti_lt l h, wrap_succ hl.1 h, hr, bnd_some, checkText_eq hN _ hx.1, slc_take l (Nat.le_of_lt h), slices_ContainsFunc_api_Case, IndexFunc_case hN _ ht, idxP_nonneg, GValue.eta, geti_zero, List.getElem?_eq_getElem h00]
     rw [lt_tt h, br_true]
     unfold caseB
     rw [List.getElem?_eq_getElem h00]
     by_cases h4 : l[i].2.kind = 4
     · simp only [h4, beq_self_eq_true, br_true, br_ite, br_ne, if_true]
       by_cases h1 : textE l[i].1 = 0 <;> simp [h1]
     · rw [CheckValue_eq hN (cc := 0) _ hx.2 (fun h => absurd h h4), bnd_some]
       have e4 : (l[i].2.kind == (4 : Int)) = false := beq_false_of_ne h4
       simp only [e4, br_false, br_ite, br_ne, Bool.false_eq_true, if_false]
       by_cases h1 : textE l[i].1 = 0 <;> by_cases h2 : valS 0 l[i].2 = 0 <;> simp [h1, h2]
       all_goals (try (split <;> (try split) <;> simp_all))
   · simp only [z41L0T, lt_ff, br_false]
theorem CheckValue_all (hN : big ≤ N) (v : GValue) (hv : Fit (.rc .value) v) : script_CheckValue N (script_checkCases N N) v = some (valueE v) := by
 obtain ⟨_, _, _, _, hc⟩ := valFit hv
 refine CheckValue_eq hN v hv fun _ => ?_
 obtain ⟨d, rfl⟩ : ∃ d, N = d + 1 := ⟨N - 1, by unfold big at hN; omega⟩
 exact checkCases_eq hN _ _ hc
structure PlainV (v : GValue) : Prop where
 kind : v.kind ≠ 4
 cases : v.cases = []
 list : v.list.length ≤ 1000
theorem plain_of {v : GValue} {cc : Int} (h : valS cc v = 0) (h4 : v.kind ≠ 4) : PlainV v := by
 unfold valS at h
 split at h
 · cases h
 · split at h
   · cases h
   · split at h
     · cases h
     · rename_i hf
       unfold formV at hf
       unfold tailV at h
       refine ⟨h4, ?_, ?_⟩
       · simp only [Bool.or_eq_true, Bool.and_eq_true, not_or, not_and, bne_iff_ne, ne_eq] at hf
         have := hf.2
         have h5 : ¬ ((v.cases.length : Int) > 0) := fun h6 => this (decide_eq_true h6) h4
         exact List.eq_nil_of_length_eq_zero (by omega)
       · split at h
         · cases h
         · split at h
           · cases h
           · rename_i h6
             have : ¬ ((v.list.length : Int) > 1000) := fun h7 => h6 (decide_eq_true h7)
             omega
structure CasesOk (l : List Case) : Prop where
 some : l ≠ []
 plain : ∀ c ∈ l, PlainV c.2
 right : ∀ c ∈ l, valS 0 c.2 = 0
 once : ∀ i (hi : i < l.length) (j : Nat) (hj : j < i), l[j].1 ≠ l[i].1
theorem cases_ok {l : List Case} (h : casesS l = 0) : CasesOk l := by
 unfold casesS at h
 split at h
 · cases h
 · rename_i h0
   have := (forT_zero (q := fun i c => textE c.1 = 0 ∧ (l.take i).any (fun d => d.1 == c.1) = false ∧ c.2.kind ≠ 4 ∧ valS 0 c.2 = 0 ∧ c.2.kind = (match l[0]? with | some d => d.2.kind | none => 0)) (body := caseB l) (fun i c r => by
     unfold caseB
     by_cases h1 : textE c.1 = 0 <;> by_cases h2 : (l.take i).any (fun d => d.1 == c.1) = true <;> by_cases h3 : c.2.kind = 4 <;> by_cases h4 : valS 0 c.2 = 0 <;> simp [h1, h2, h3, h4]
     all_goals (first | (split <;> (first | (split <;> simp_all) | simp_all)) | skip)) l 0).1 h
   refine ⟨fun e => h0 (by rw [e]; rfl), fun c hc => ?_, fun c hc => ?_, fun i hi j hj he => ?_⟩
   · obtain ⟨i, hi, rfl⟩ := List.mem_iff_getElem.1 hc
     have := this i hi
     exact plain_of this.2.2.2.1 this.2.2.1
   · obtain ⟨i, hi, rfl⟩ := List.mem_iff_getElem.1 hc
     exact (this i hi).2.2.2.1
   · have := (this i hi).2.1
     rw [Nat.zero_add, List.any_eq_false] at this
     have hm : l[j] ∈ l.take i := List.mem_take_iff_getElem.2 ⟨j, by omega, rfl⟩
     have := this _ hm
     simp [he] at this
theorem value_ok {v : GValue} (h : valueE v = 0) : (v.kind ≠ 4 ∧ PlainV v) ∨ (v.kind = 4 ∧ CasesOk v.cases ∧ v.cases.length ≤ 50) := by
 by_cases h4 : v.kind = 4
 · refine .inr ⟨h4, ?_⟩
   unfold valueE valS at h
   split at h
   · cases h
   · split at h
     · cases h
     · split at h
       · cases h
       · unfold tailV at h
         split at h
         · cases h
         · split at h
           · cases h
           · split at h
             · cases h
             · split at h
               · cases h
               · rename_i h5
                 have h5' : ¬ ((v.cases.length : Int) > 50) := fun h7 => h5 (decide_eq_true h7)
                 split at h
                 · cases h
                 · split at h
                   · cases h
                   · split at h
                     · cases h
                     · split at h
                       · cases h
                       · rw [h4] at h
                         exact ⟨cases_ok h, by omega⟩
 · exact .inl ⟨h4, plain_of h h4⟩
theorem Equal_str_from (a b : List Str) (ha : a.length ≤ maxLen) (he : a.length = b.length) : ∀ (m n i : Nat), i + m = a.length → m < n → z18L0 N a b (a.length : Int) (some true) n (i : Int) = some (decide (a.drop i = b.drop i))
 | 0, n, i, hi, hn => by
   obtain ⟨n, rfl⟩ : ∃ j, n = j + 1 := ⟨n - 1, by omega⟩
   have : i = a.length := by omega
   subst this
   show z18L0T _ _ _ _ _ _ _ = _
   simp only [z18L0T, lt_ff, br_false, List.drop_length]
   rw [he, List.drop_length]; simp
 | m + 1, n, i, hi, hn => by
   obtain ⟨n, rfl⟩ : ∃ j, n = j + 1 := ⟨n - 1, by omega⟩
   have h : i < a.length := by omega
   have hb : i < b.length := by omega
   have ih := Equal_str_from a b ha he m n (i + 1) (by omega) (by omega)
   show z18L0T _ _ _ _ _ _ _ = _
   simp only [z18L0T, geti_lt a h, geti_lt b hb, wrap_succ ha h, ih, bnd_some]
   rw [lt_tt h, br_true, List.drop_eq_getElem_cons h, List.drop_eq_getElem_cons hb]
   by_cases hq : a[i] = b[i]
   · rw [show (a[i] == b[i]) = true from beq_iff_eq.2 hq]
     simp only [List.cons.injEq, hq, true_and, Bool.not_true, br_false]
   · rw [show (a[i] == b[i]) = false from beq_false_of_ne hq]
     simp only [List.cons.injEq, hq, false_and, Bool.not_false, br_true, decide_false]
theorem Equal_str (hN : big ≤ N) (a b : List Str) (ha : a.length ≤ maxLen) (hb : b.length ≤ maxLen) : slices_Equal_string_string N a b = some (decide (a = b)) := by
 unfold slices_Equal_string_string
 by_cases he : a.length = b.length
 · have := Equal_str_from (N := N) a b ha he a.length N 0 (by omega) (by unfold maxLen at ha; unfold big at hN; omega)
   rw [show ((0 : Nat) : Int) = 0 from rfl, List.drop_zero, List.drop_zero] at this
   rw [this]; simp [he]
 · have hne : a ≠ b := fun e => he (by rw [e])
   simp only [decide_eq_false hne]
   have : ((a.length : Int) != (b.length : Int)) = true := by simp; omega
   simp [this]
def sameP (a b : GValue) : Bool := a.kind == b.kind && (a.text == b.text && (a.number == b.number && (decide (a.list = b.list) && b.cases.isEmpty)))
theorem sameP_self {a : GValue} (h : a.cases = []) : sameP a a = true := by simp [sameP, h]
theorem SameValue_eq (hN : big ≤ N) (d : Nat) (a b : GValue) (ha : a.cases = []) (hla : a.list.length ≤ maxLen) (hlb : b.list.length ≤ maxLen) : ref2_SameValue N (d + 1) a b = some (sameP a b) := by
 show ref2_SameValue_b N _ a b = _
 unfold ref2_SameValue_b sameP
 rw [Equal_str hN _ _ hla hlb, bnd_some, ha]
 have hL : ∀ r c k, z55L0 N r ((([] : List Case).length : Nat) : Int) [] c k N 0 = k := fun r c k => by
   obtain ⟨n, rfl⟩ : ∃ n, N = n + 1 := ⟨N - 1, by unfold big at hN; omega⟩
   show z55L0T _ _ _ _ _ _ _ _ = _
   simp [z55L0T]
 rw [hL]
 have hk : (a.kind != b.kind) = !(a.kind == b.kind) := rfl
 have hn : (a.number != b.number) = !(a.number == b.number) := rfl
 have hcs : (((([] : List Case).length : Nat) : Int) != (b.cases.length : Int)) = !b.cases.isEmpty := by
   cases hb : b.cases with
   | nil => rfl
   | cons => simp; omega
 rw [hk, hn, hcs]
 cases a.kind == b.kind <;> cases a.text == b.text <;> cases a.number == b.number <;> cases decide (a.list = b.list) <;> cases b.cases.isEmpty <;> simp
theorem Clone_case (l : List Case) (h : l.length ≤ 1000) : slices_Clone_api_Case N l = some l := by
 unfold slices_Clone_api_Case
 have e : decide ((([] : List Case).length + l.length) * (24 * Ty.sz (.pr .str (.rc .value))) ≤ 140737488355328) = true := decide_eq_true (by show (0 + l.length) * (24 * 6) ≤ _; omega)
 rw [e, br_true]
 cases l with
 | nil => simp
 | cons a l => simp
theorem Clone_strs (l : List Str) (h : l.length ≤ 1000000) : slices_Clone_string_string N l = some l := by
 unfold slices_Clone_string_string
 have e : decide ((([] : List Str).length + l.length) * (24 * Ty.sz .str) ≤ 140737488355328) = true := decide_eq_true (by show (0 + l.length) * (24 * 1) ≤ _; omega)
 rw [e, br_true]
 cases l with
 | nil => simp
 | cons a l => simp
theorem Own_eq (hN : big ≤ N) (d : Nat) (v : GValue) (h : v.cases = []) (hl : v.list.length ≤ 1000000) : script_Own N (d + 1) v = some v := by
 show script_Own_b N _ v = _
 unfold script_Own_b
 rw [Clone_strs _ hl, bnd_some, h, Clone_case [] (by simp), bnd_some]
 obtain ⟨n, rfl⟩ : ∃ n, N = n + 1 := ⟨N - 1, by unfold big at hN; omega⟩
 show z83L0T _ _ _ _ _ _ _ = _
 simp only [z83L0T]
 rw [show decide ((0 : Int) < (([] : List Case).length : Int)) = false by simp, br_false, ← h, GValue.eta]
end Go.Proofs.YtbekhaioddmliaaGreatDoor


/- What is chosen of a value. No program in sight. -/
namespace Go.Proofs.YtbekhaioddmliaaGreatDoor
set_option linter.unusedVariables false
set_option linter.unusedSimpArgs false
open Go Go.RowKit
variable {N : Nat}
abbrev Cond : Type := Str × List (Str × Str) × List (Str × Str)
abbrev dflt : Str := [100, 101, 102, 97, 117, 108, 116]
theorem IndexFunc_cond (hN : big ≤ N) (xs : List Cond) (hx : xs.length ≤ maxLen) (n : Str) : slices_IndexFunc_api_Condition N xs (n, ()) = some (idxP (fun x => x.1 == n) xs) := by
 unfold slices_IndexFunc_api_Condition
 refine loop_for (fun _ _ => rfl) xs hx (fun self i h r hr => ?_) (fun self => ?_) hN
 · simp only [z6L0T, geti_lt xs h, wrap_succ hx h, hr, bnd_some, config_conditionOf_1]
   rw [lt_tt h, br_true, br_ite]
 · simp only [z6L0T, lt_ff, br_false]
theorem conditionOf_eq (hN : big ≤ N) (m : List Cond) (hm : m.length ≤ maxLen) (n : Str) : config_conditionOf N m n = some (findF (fun x => x.1 == n) (fun x => (x, true)) (([], ([], [])), false) m) := by
 unfold config_conditionOf findF
 rw [IndexFunc_cond hN m hm, bnd_some]
 rcases idxP_cases (fun x : Cond => x.1 == n) m with ⟨h1, h2⟩ | ⟨j, t, h1, h2, h3, h4⟩
 · rw [h1, h2]; simp
 · rw [h1, h4, decide_eq_false (show ¬ ((j : Int) < 0) by omega), br_false, geti_nat, h2, bnd_some]
def moreS (a b : Cond) : Bool := b.2.1.all (hasPair a.2.1) && (b.2.2.all (hasPair a.2.2) && decide (a.2.1.length + a.2.2.length > b.2.1.length + b.2.2.length))
structure CondOk (l : List (Str × List Str)) (x : Cond) : Prop where
 name : condS x.1 = true
 needs : x.2.1.length ≤ 30
 on : x.2.2.length ≤ 30
 found : ∀ n ∈ x.2.1, (l.find? (fun s => s.1 == n.1)).isSome = true
theorem cond_ok {l : List (Str × List Str)} {m : List Cond} (h : conditionsS l m = 0) : settingsS l = 0 ∧ m.length ≤ 100 ∧ ∀ x ∈ m, CondOk l x := by
 have hf := cond_found h
 refine ⟨hf.1, ?_, fun x hx => ?_⟩
 · unfold conditionsS at h
   rw [if_neg (by simpa using hf.1)] at h
   split at h
   · cases h
   · omega
 · unfold conditionsS at h
   rw [if_neg (by simpa using hf.1)] at h
   split at h
   · cases h
   · have := forT_keep (p := fun x : Cond => condS x.1 = true ∧ x.2.1.length ≤ 30 ∧ x.2.2.length ≤ 30) (body := condB1 l m) (fun i x r h => by
       unfold condB1 at h
       split at h
       · cases h
       · rename_i h1
         split at h
         · cases h
         · rename_i h2
           split at h
           · cases h
           · rename_i h3
             split at h
             · rename_i h4; exact absurd h (of_decide_eq_true h4)
             · split at h
               · rename_i h5; exact absurd h (of_decide_eq_true h5)
               · refine ⟨⟨by simpa using h1, ?_, ?_⟩, prevS_keep h⟩
                 · have : ¬ (30 < x.2.1.length) := fun h => h2 (decide_eq_true h)
                   omega
                 · have : ¬ (30 < x.2.2.length) := fun h => h3 (decide_eq_true h)
                   omega) m 0 h x hx
     exact ⟨this.1, this.2.1, this.2.2, pairs_found (hf.2 x hx)⟩
theorem isMore_eq (hN : big ≤ N) (a b : Cond) {l : List (Str × List Str)} (ha : CondOk l a) (hb : CondOk l b) : config_isMore N a b = some (moreS a b) := by
 have h30 : (30 : Nat) ≤ maxLen := by decide
 unfold config_isMore moreS
 rw [Fit_eq hN _ _ (Nat.le_trans hb.needs h30) (Nat.le_trans ha.needs h30), bnd_some, Fit_eq hN _ _ (Nat.le_trans hb.on h30) (Nat.le_trans ha.on h30), bnd_some]
 have h1 := ha.needs
 have h2 := ha.on
 have h3 := hb.needs
 have h4 := hb.on
 rw [wrap_id (by omega) (by omega), wrap_id (by omega) (by omega), (decide_eq_decide.2 (by omega) : decide ((a.2.1.length : Int) + (a.2.2.length : Int) > (b.2.1.length : Int) + (b.2.2.length : Int)) = decide (a.2.1.length + a.2.2.length > b.2.1.length + b.2.2.length))]
 cases b.2.1.all (hasPair a.2.1) <;> cases b.2.2.all (hasPair a.2.2) <;> simp
def oddC (m : List Cond) (c : Case) : Bool := (m.find? (fun x => x.1 == c.1)).isNone && !(c.1 == dflt)
def namedS (m : List Cond) (l : List Case) : Int := if l.any (oddC m) = true then 5 else 0
theorem checkNamed_eq (hN : big ≤ N) (m : List Cond) (hm : m.length ≤ maxLen) (v : GValue) (hv : v.cases.length ≤ maxLen) : config_checkNamed N m v = some (namedS m v.cases) := by
 unfold config_checkNamed namedS
 rw [← forT_guard (oddC m) (5 : Int) 0 v.cases 0]
 refine loop_for (fun _ _ => rfl) v.cases hv (fun self i h r hr => ?_) (fun self => ?_) hN
 · simp only [z50L0T, geti_lt _ h, wrap_succ hv h, hr, bnd_some, conditionOf_eq hN m hm]
   rw [lt_tt h, br_true]
   unfold oddC findF
   cases m.find? (fun x => x.1 == v.cases[i].1) with
   | none => simp only [Bool.not_false, br_true, Option.isNone_none, Bool.true_and, br_ite]; rfl
   | some z => simp
 · simp only [z50L0T, lt_ff, br_false]
def selF (l : List (Str × List Str)) (m : List Cond) (c : List (Str × Str)) (p : Str × List (Str × Str)) (k : Case) : Option (Case × Cond) := match m.find? (fun x => x.1 == k.1) with
 | some z => if holdsS l z c p = true then some (k, z) else none
 | none => none
def selS (l : List (Str × List Str)) (m : List Cond) (c : List (Str × Str)) (p : Str × List (Str × Str)) (cs : List Case) : List (Case × Cond) := cs.filterMap (selF l m c p)
def bestTo (ws : List Cond) (i k : Nat) : Bool := (List.range k).all fun j => decide (j = i) || match ws[i]?, ws[j]? with | some a, some b => moreS a b | _, _ => false
theorem bestTo_succ (ws : List Cond) (i k : Nat) (hi : i < ws.length) (hk : k < ws.length) : bestTo ws i (k + 1) = (bestTo ws i k && (decide (k = i) || moreS ws[i] ws[k])) := by
 unfold bestTo
 rw [List.range_succ, List.all_append, List.getElem?_eq_getElem hi]
 simp [List.getElem?_eq_getElem hk]
def zeroV : GValue := .mk 0 [] 0 [] []
def pickB (sel : List (Case × Cond)) (s0 : Case) (i : Nat) (x : Case × Cond) (b : Bool) (g : Bool → GValue × Int) : GValue × Int := if bestTo (sel.map (·.2)) i sel.length = true then (x.1.2, 0) else g (b && sameP s0.2 x.1.2)
def pickS (sel : List (Case × Cond)) (cs : List Case) : GValue × Int := match sel with
 | [] => match cs.find? (fun k => k.1 == dflt) with
   | some k => (k.2, 0)
   | none => (zeroV, 9)
 | s0 :: _ => forA (pickB sel s0.1) (fun b => if b = true then (s0.1.2, 0) else (zeroV, 12)) sel 0 true
def chosenS (l : List (Str × List Str)) (m : List Cond) (c : List (Str × Str)) (p : Str × List (Str × Str)) (v : GValue) : GValue × Int :=
 if v.kind ≠ 4 then (v, 0) else if namedS m v.cases ≠ 0 then (zeroV, namedS m v.cases) else pickS (selS l m c p v.cases) v.cases
theorem IndexFunc_dflt (hN : big ≤ N) (xs : List Case) (hx : xs.length ≤ maxLen) : slices_IndexFunc_api_Case_2 N xs () = some (idxP (fun x => x.1 == dflt) xs) := by
 unfold slices_IndexFunc_api_Case_2
 refine loop_for (fun _ _ => rfl) xs hx (fun self i h r hr => ?_) (fun self => ?_) hN
 · simp only [z14L0T, geti_lt xs h, wrap_succ hx h, hr, bnd_some, config_chosen_1]
   rw [lt_tt h, br_true, br_ite]
 · simp only [z14L0T, lt_ff, br_false]
theorem Equal_eq (hN : big ≤ N) (r : Case → Case → Option Bool) (a b : GValue) (ha : a.cases = []) (hb : b.cases = []) (hla : a.list.length ≤ maxLen) (hlb : b.list.length ≤ maxLen) : script_Equal N r a b = some (sameP a b) := by
 unfold script_Equal sameP
 rw [Equal_str hN _ _ hla hlb, bnd_some, ha, hb]
 have hE : slices_EqualFunc_api_Case N r [] [] () = some true := by
   unfold slices_EqualFunc_api_Case
   obtain ⟨n, rfl⟩ : ∃ n, N = n + 1 := ⟨N - 1, by unfold big at hN; omega⟩
   have : z20L0 (n + 1) r [] [] ((([] : List Case).length : Nat) : Int) (some true) (n + 1) 0 = some true := by
     show z20L0T _ _ _ _ _ _ _ _ = _
     simp [z20L0T]
   rw [this]; simp
 rw [hE]
 cases a.kind == b.kind <;> cases a.text == b.text <;> cases a.number == b.number <;> cases decide (a.list = b.list) <;> simp
theorem own_case (hN : big ≤ N) {v : GValue} (h : PlainV v) : script_Own N N v = some v := by
 obtain ⟨d, rfl⟩ : ∃ d, N = d + 1 := ⟨N - 1, by unfold big at hN; omega⟩
 exact Own_eq hN d v h.cases (by have := h.list; omega)
theorem best2_eq (hN : big ≤ N) {l : List (Str × List Str)} (ws : List Cond) (hw : ws.length ≤ 50) (hok : ∀ z ∈ ws, CondOk l z) (i : Nat) (hi : i < ws.length) (k4 : Bool → Option (GValue × Int)) :
   z71L2 N (i : Int) (ws.length : Int) ws k4 N true 0 = k4 (bestTo ws i ws.length) := by
 have hm : ws.length ≤ maxLen := Nat.le_trans hw (by decide)
 refine loop_st (f := fun n j b => z71L2 N (i : Int) (ws.length : Int) ws k4 n b j) (T := fun self j b => z71L2T N (i : Int) (ws.length : Int) ws k4 (fun b j => self j b) b j) (fun _ _ _ => rfl) hm (fun j => bestTo ws i j) (fun self j hj ih => ?_) (fun self => ?_) hN
 · simp only [z71L2T]
   rw [lt_tn hj, br_true, wrap_s hm hj]
   rw [bestTo_succ ws i j hi hj] at ih
   cases hb : bestTo ws i j with
   | false => rw [br_false]; rw [hb, Bool.false_and] at ih; exact ih
   | true =>
     rw [br_true]
     rw [hb, Bool.true_and] at ih
     by_cases hji : j = i
     · rw [show ((j : Int) == (i : Int)) = true by simp [hji], br_true]
       rw [decide_eq_true hji, Bool.true_or] at ih; exact ih
     · rw [show ((j : Int) == (i : Int)) = false from beq_false_of_ne (by omega), br_false, geti_lt ws hi, bnd_some, geti_lt ws hj, bnd_some, isMore_eq hN _ _ (hok _ (List.getElem_mem hi)) (hok _ (List.getElem_mem hj)), bnd_some]
       rw [decide_eq_false hji, Bool.false_or] at ih; exact ih
 · simp only [z71L2T]
   rw [lt_fn, br_false]
theorem best3_eq (hN : big ≤ N) {l : List (Str × List Str)} (ws : List Cond) (hw : ws.length ≤ 50) (hok : ∀ z ∈ ws, CondOk l z) (i : Nat) (hi : i < ws.length) (k4 : Bool → Option (GValue × Int)) :
   z71L3 N (i : Int) (ws.length : Int) ws k4 N true 0 = k4 (bestTo ws i ws.length) := by
 have hm : ws.length ≤ maxLen := Nat.le_trans hw (by decide)
 refine loop_st (f := fun n j b => z71L3 N (i : Int) (ws.length : Int) ws k4 n b j) (T := fun self j b => z71L3T N (i : Int) (ws.length : Int) ws k4 (fun b j => self j b) b j) (fun _ _ _ => rfl) hm (fun j => bestTo ws i j) (fun self j hj ih => ?_) (fun self => ?_) hN
 · simp only [z71L3T]
   rw [lt_tn hj, br_true, wrap_s hm hj]
   rw [bestTo_succ ws i j hi hj] at ih
   cases hb : bestTo ws i j with
   | false => rw [br_false]; rw [hb, Bool.false_and] at ih; exact ih
   | true =>
     rw [br_true]
     rw [hb, Bool.true_and] at ih
     by_cases hji : j = i
     · rw [show ((j : Int) == (i : Int)) = true by simp [hji], br_true]
       rw [decide_eq_true hji, Bool.true_or] at ih; exact ih
     · rw [show ((j : Int) == (i : Int)) = false from beq_false_of_ne (by omega), br_false, geti_lt ws hi, bnd_some, geti_lt ws hj, bnd_some, isMore_eq hN _ _ (hok _ (List.getElem_mem hi)) (hok _ (List.getElem_mem hj)), bnd_some]
       rw [decide_eq_false hji, Bool.false_or] at ih; exact ih
 · simp only [z71L3T]
   rw [lt_fn, br_false]
theorem sel_take (l : List (Str × List Str)) (m : List Cond) (c : List (Str × Str)) (p : Str × List (Str × Str)) (cs : List Case) {i : Nat} (h : i < cs.length) :
   selS l m c p (cs.take (i + 1)) = selS l m c p (cs.take i) ++ (match selF l m c p cs[i] with | some y => [y] | none => []) := by
 unfold selS
 rw [List.take_succ_eq_append_getElem h, List.filterMap_append]
 congr 1
 simp only [List.filterMap_cons, List.filterMap_nil]
 cases selF l m c p cs[i] <;> rfl
theorem sel_mem {l : List (Str × List Str)} {m : List Cond} {c : List (Str × Str)} {p : Str × List (Str × Str)} {cs : List Case} {y : Case × Cond} (h : y ∈ selS l m c p cs) : y.1 ∈ cs ∧ y.2 ∈ m := by
 unfold selS at h
 obtain ⟨k, hk, e⟩ := List.mem_filterMap.1 h
 unfold selF at e
 split at e
 · rename_i z hz
   split at e
   · cases e; exact ⟨hk, List.mem_of_find?_eq_some hz⟩
   · cases e
 · cases e
theorem sel_len (l : List (Str × List Str)) (m : List Cond) (c : List (Str × Str)) (p : Str × List (Str × Str)) (cs : List Case) : (selS l m c p cs).length ≤ cs.length := List.length_filterMap_le _ _
theorem pick_eq (hN : big ≤ N) {l : List (Str × List Str)} (sel : List (Case × Cond)) (hl : sel.length ≤ 50) (hc : ∀ y ∈ sel, PlainV y.1.2) (hz : ∀ y ∈ sel, CondOk l y.2) (s0 : Case × Cond) (rest : List (Case × Cond)) (hs : sel = s0 :: rest) {K : Bool → Option (GValue × Int)} {k : Bool → GValue × Int} (hK : ∀ b, K b = some (k b)) :
   z71L1 N (((sel.map (·.1)).length : Nat) : Int) (sel.map (·.1)) (sel.map (·.2)) K N true 0 = some (forA (pickB sel s0.1) k sel 0 true) := by
 have hm : sel.length ≤ maxLen := Nat.le_trans hl (by decide)
 rw [List.length_map]
 refine loop_acc (f := fun n i b => z71L1 N (sel.length : Int) (sel.map (·.1)) (sel.map (·.2)) K n b i) (T := fun self i b => z71L1T N (sel.length : Int) (sel.map (·.1)) (sel.map (·.2)) K (fun b i => self i b) b i)
   (fun _ _ _ => rfl) sel hm (fun _ _ => True) (fun self i h b g _ hg => ?_) (fun self b _ => ?_) hN trivial
 · have h0 : 0 < sel.length := by omega
   have e0 : (sel.map (·.1))[0]? = some s0.1 := by rw [hs]; rfl
   have e1 : geti (sel.map (·.1)) (i : Int) = some sel[i].1 := by rw [geti_nat, List.getElem?_map, List.getElem?_eq_getElem h]; rfl
   have hw : (sel.map (·.2)).length ≤ 50 := by rw [List.length_map]; exact hl
   have hok : ∀ z ∈ sel.map (·.2), CondOk l z := fun z hz' => by
     obtain ⟨y, hy, rfl⟩ := List.mem_map.1 hz'
     exact hz y hy
   have hi' : i < (sel.map (·.2)).length := by rw [List.length_map]; exact h
   have hp0 := hc s0 (by rw [hs]; simp)
   have hpi := hc _ (List.getElem_mem h)
   have h2 := fun k4 => best2_eq hN (sel.map (·.2)) hw hok i hi' k4
   have h3 := fun k4 => best3_eq hN (sel.map (·.2)) hw hok i hi' k4
   simp only [List.length_map] at h2 h3
   have hg' : ∀ b', self (IntKind.i64.wrap ((i : Int) + 1)) b' = some (g b') := fun b' => by rw [wrap_succ hm h]; exact hg b' trivial
   simp only [z71L1T, geti_zero, e0, e1, bnd_some, List.length_map, Equal_eq hN _ _ _ hp0.cases hpi.cases (Nat.le_trans hp0.list (by decide)) (Nat.le_trans hpi.list (by decide)), h2, h3, own_case hN hpi, GValue.eta, hg']
   rw [lt_tt h, br_true]
   unfold pickB
   cases b
   · rw [br_false, br_ite, Bool.false_and]
   · rw [br_true, br_ite, Bool.true_and]
 · simp only [z71L1T]
   rw [lt_ff, br_false, hK]
set_option maxHeartbeats 1000000 in
theorem loop0_eq (hN : big ≤ N) {l : List (Str × List Str)} {m : List Cond} (hlf : Fit settingTy l) (hmf : Fit (.sl condTy) m) {c : List (Str × Str)} (hc : c.length ≤ maxLen) (p1 : Str) {p2 : List (Str × Str)} (hp : p2.length ≤ maxLen) (hs : settingsS l = 0) (hml : m.length ≤ 100) (hok : ∀ x ∈ m, CondOk l x)
   (cs : List Case) (hcl : cs.length ≤ 50) (K : List Case → List Cond → Option (GValue × Int)) : z71L0 N c cs (cs.length : Int) l m p1 p2 K N 0 [] [] = K ((selS l m c (p1, p2) cs).map (·.1)) ((selS l m c (p1, p2) cs).map (·.2)) := by
 have hmm : m.length ≤ maxLen := Nat.le_trans hml (by decide)
 have hcm : cs.length ≤ maxLen := Nat.le_trans hcl (by decide)
 have hE : ∀ (self : Int → List Case × List Cond → Option (GValue × Int)), z71L0T N c cs (cs.length : Int) l m p1 p2 K (fun i a b => self i (a, b)) (cs.length : Int) ((selS l m c (p1, p2) (cs.take cs.length)).map (·.1)) ((selS l m c (p1, p2) (cs.take cs.length)).map (·.2)) = K ((selS l m c (p1, p2) cs).map (·.1)) ((selS l m c (p1, p2) cs).map (·.2)) := fun self => by
   unfold z71L0T
   rw [lt_fn, br_false, List.take_length]
 have hT : ∀ (self : Int → List Case × List Cond → Option (GValue × Int)) (i : Nat), i < cs.length → self ((i + 1 : Nat) : Int) ((selS l m c (p1, p2) (cs.take (i + 1))).map (·.1), (selS l m c (p1, p2) (cs.take (i + 1))).map (·.2)) = K ((selS l m c (p1, p2) cs).map (·.1)) ((selS l m c (p1, p2) cs).map (·.2)) →
     z71L0T N c cs (cs.length : Int) l m p1 p2 K (fun i a b => self i (a, b)) (i : Int) ((selS l m c (p1, p2) (cs.take i)).map (·.1)) ((selS l m c (p1, p2) (cs.take i)).map (·.2)) = K ((selS l m c (p1, p2) cs).map (·.1)) ((selS l m c (p1, p2) cs).map (·.2)) := by
   intro self i h ih
   have hsl := sel_len l m c (p1, p2) (cs.take i)
   rw [List.length_take] at hsl
   rw [sel_take l m c (p1, p2) cs h] at ih
   simp only [z71L0T, geti_lt cs h, bnd_some, conditionOf_eq hN _ hmm]
   rw [lt_tt h, br_true, wrap_succ hcm h]
   unfold selF findF at *
   cases hz : m.find? (fun z => z.1 == cs[i].1) with
   | none =>
     rw [hz] at ih
     simp only [br_false]
     simpa using ih
   | some z =>
     rw [hz] at ih
     have hzm := List.mem_of_find?_eq_some hz
     simp only [br_true, holds_eq hN l hlf z (hmf.2 z hzm) c hc (p1, p2) hp hs (hok z hzm).found, bnd_some, GValue.eta, times_eq, both_self]
     dsimp only at ih
     cases hh : holdsS l z c (p1, p2) with
     | false =>
       rw [hh] at ih
       simp only [br_false]
       simpa using ih
     | true =>
       rw [hh] at ih
       have e1 : decide ((((selS l m c (p1, p2) (cs.take i)).map (·.1)).length + [(cs[i].1, cs[i].2)].length) * (24 * Ty.sz (.pr .str (.rc .value))) ≤ 140737488355328) = true := decide_eq_true (by
         rw [List.length_map]; show (_ + 1) * (24 * 6) ≤ _; omega)
       have e2 : decide ((((selS l m c (p1, p2) (cs.take i)).map (·.2)).length + [z].length) * (24 * Ty.sz (.pr .str (.pr (.sl (.pr .str .str)) (.sl (.pr .str .str))))) ≤ 140737488355328) = true := decide_eq_true (by
         rw [List.length_map]; show (_ + 1) * (24 * 3) ≤ _; omega)
       rw [br_true, e1, br_true, e2, br_true]
       simpa using ih
 have hf : ∀ (n : Nat) (i : Int) (a : List Case) (b : List Cond), z71L0 N c cs (cs.length : Int) l m p1 p2 K (n + 1) i a b = z71L0T N c cs (cs.length : Int) l m p1 p2 K (z71L0 N c cs (cs.length : Int) l m p1 p2 K n) i a b := fun _ _ _ _ => rfl
 let st : Nat → List Case × List Cond := fun i => ((selS l m c (p1, p2) (cs.take i)).map (·.1), (selS l m c (p1, p2) (cs.take i)).map (·.2))
 have key := loop_st (S := List Case × List Cond) (R := GValue × Int) (f := fun n i s => z71L0 N c cs (cs.length : Int) l m p1 p2 K n i s.1 s.2) (T := fun self i s => z71L0T N c cs (cs.length : Int) l m p1 p2 K (fun i a b => self i (a, b)) i s.1 s.2)
   (r := K ((selS l m c (p1, p2) cs).map (·.1)) ((selS l m c (p1, p2) cs).map (·.2))) (m := cs.length) (N := N)
 exact key (fun n i s => hf n i s.1 s.2) hcm st hT hE hN
theorem chosen_eq (hN : big ≤ N) (x : worldTy.den) (hx : Fit worldTy x) (c : List (Str × Str)) (hc : c.length ≤ maxLen) (p : Str × List (Str × Str)) (hp : Fit (.pr .str (.sl (.pr .str .str))) p) (v : GValue) (hv : Fit (.rc .value) v)
   (hm : conditionsS x.1 x.2.1 = 0) (hval : valueE v = 0) : config_chosen N x v c p = some (chosenS x.1 x.2.1 c p v) := by
 obtain ⟨hs, hml, hok⟩ := cond_ok hm
 have hmm : x.2.1.length ≤ maxLen := Nat.le_trans hml (by decide)
 unfold config_chosen chosenS
 simp only [GValue.eta]
 rcases value_ok hval with ⟨h4, hpl⟩ | ⟨h4, hco, hcl⟩
 · rw [show (v.kind != (4 : Int)) = true by simp [h4], br_true, own_case hN hpl, bnd_some, if_pos h4]
 · have hcm : v.cases.length ≤ maxLen := Nat.le_trans hcl (by decide)
   rw [show (v.kind != (4 : Int)) = false by simp [h4], br_false, if_neg (by simpa using h4), checkNamed_eq hN _ hmm _ hcm, bnd_some]
   by_cases hn : namedS x.2.1 v.cases = 0
   · rw [if_neg (by simpa using hn), show (namedS x.2.1 v.cases != (0 : Int)) = false by simp [hn], br_false]
     generalize hcs : v.cases = cs at hco hcl hcm
     rw [loop0_eq hN hx.1 hx.2.1 hc p.1 hp.2.1 hs hml hok cs hcl]
     have hsl := sel_len x.1 x.2.1 c p cs
     have hselc : ∀ y ∈ selS x.1 x.2.1 c p cs, PlainV y.1.2 := fun y hy => hco.plain _ (sel_mem hy).1
     have hselz : ∀ y ∈ selS x.1 x.2.1 c p cs, CondOk x.1 y.2 := fun y hy => hok _ (sel_mem hy).2
     unfold pickS
     cases hsel : selS x.1 x.2.1 c p cs with
     | nil =>
       simp only [List.map_nil, List.length_nil]
       rw [show (((0 : Nat) : Int) == (0 : Int)) = true from rfl, br_true, IndexFunc_dflt hN _ hcm, bnd_some]
       rcases idxP_cases (fun k : Case => k.1 == dflt) cs with ⟨h1, h2⟩ | ⟨j, t, h1, h2, h3, h5⟩
       · rw [h1, h2]; simp [zeroV]
       · rw [h1, h5, decide_eq_false (show ¬ ((j : Int) < 0) by omega), br_false, geti_nat, h2, bnd_some, own_case hN (hco.plain t (List.mem_of_getElem? h2)), bnd_some]
     | cons s0 rest =>
       rw [hsel] at hsl hselc hselz
       have hp0 := hselc s0 (by simp)
       rw [show ((((s0 :: rest).map (·.1)).length : Int) == (0 : Int)) = false from beq_false_of_ne (by simp; omega), br_false]
       refine pick_eq hN (s0 :: rest) (by omega) hselc hselz s0 rest rfl fun b => ?_
       cases b
       · simp [zeroV]
       · rw [br_true, geti_zero, List.map_cons, List.getElem?_cons_zero, bnd_some, own_case hN hp0, bnd_some]
         simp only [GValue.eta, if_true]
   · rw [if_pos hn, show (namedS x.2.1 v.cases != (0 : Int)) = true by simp [hn], br_true]; rfl
def choiceS (x : worldTy.den) (c : List (Str × Str)) (p : Str × List (Str × Str)) : Int := if conditionsS x.1 x.2.1 ≠ 0 then conditionsS x.1 x.2.1 else if configS x.1 c ≠ 0 then configS x.1 c else platformsS [p]
theorem checkChoice_eq (hN : big ≤ N) (x : worldTy.den) (hx : Fit worldTy x) (c : List (Str × Str)) (hc : c.length ≤ maxLen) (p : Str × List (Str × Str)) (hp : Fit (.pr .str (.sl (.pr .str .str))) p) : config_checkChoice N x c p = some (choiceS x c p) := by
 unfold config_checkChoice choiceS
 rw [CheckConditions_eq hN _ hx.1 _ hx.2.1, bnd_some, checkConfig_eq hN _ hx.1 _ hc, bnd_some, CheckPlatforms_eq hN _ (fit_one hp), bnd_some, br_ne, br_ne]
 split
 · rfl
 · split <;> rfl
theorem choice_cond {x : worldTy.den} {c : List (Str × Str)} {p : Str × List (Str × Str)} (h : choiceS x c p = 0) : conditionsS x.1 x.2.1 = 0 := by
 unfold choiceS at h
 split at h
 · rename_i h1; exact absurd h h1
 · rename_i h1; exact Classical.not_not.1 h1
theorem pick_forA (sel : List (Case × Cond)) (s0 : Case) (k : Bool → GValue × Int) (Q : GValue × Int → Prop) (hk : ∀ b, Q (k b)) (hp : ∀ y ∈ sel, Q (y.1.2, 0)) : ∀ (xs : List (Case × Cond)) (i : Nat) (b : Bool), (∀ y ∈ xs, y ∈ sel) → Q (forA (pickB sel s0) k xs i b)
 | [], _, b, _ => hk b
 | y :: xs, i, b, h => by
   show Q (pickB sel s0 i y b _)
   unfold pickB
   split
   · exact hp y (h y (by simp))
   · exact pick_forA sel s0 k Q hk hp xs (i + 1) _ fun z hz => h z (List.mem_cons_of_mem _ hz)
end Go.Proofs.YtbekhaioddmliaaGreatDoor


/- Splitting, cutting and joining at one byte. No program in sight. -/
namespace Go.Proofs.YtbekhaioddmliaaGreatDoor
set_option linter.unusedVariables false
set_option linter.unusedSimpArgs false
open Go Go.RowKit
def splitC (c : UInt8) : Str → List Str
 | [] => [[]]
 | b :: s => if b = c then [] :: splitC c s else match splitC c s with
   | x :: xs => (b :: x) :: xs
   | [] => [[b]]
theorem splitC_ne (c : UInt8) (s : Str) : splitC c s ≠ [] := by
 cases s with
 | nil => simp [splitC]
 | cons b s => unfold splitC; split; simp; split <;> simp
theorem indexByte_cons (b c : UInt8) (s : Str) : Lib.indexByte (b :: s) c = if b = c then 0 else if Lib.indexByte s c = -1 then -1 else Lib.indexByte s c + 1 := by
 have h := Lib.indexByte_ge s c
 rw [Lib.indexByte]
 by_cases hb : b = c
 · simp [hb]
 · simp only [beq_iff_eq, hb, if_false]
theorem splitK_one (c : UInt8) : ∀ (s : Str), Lib.splitK [c] 0 (Lib.count s [c]) s = splitC c s
 | [] => by simp [Lib.count_one, Lib.splitK, splitC]
 | b :: s => by
   have ih := splitK_one c s
   by_cases hb : b = c
   · subst hb
     rw [Lib.count_cons_eq, Nat.add_comm, Lib.splitK, Lib.index_one, indexByte_cons]
     simp only [if_true]
     show (_ :: Lib.splitK [b] 0 (Lib.count s [b]) s) = _
     rw [ih]
     simp [splitC]
   · rw [Lib.count_cons_ne _ _ _ hb]
     unfold splitC
     rw [if_neg hb, ← ih]
     cases hk : Lib.count s [c] with
     | zero => simp [Lib.splitK]
     | succ k =>
       rw [Lib.splitK, Lib.splitK, Lib.index_one, Lib.index_one, indexByte_cons, if_neg hb]
       have h0 := Lib.indexByte_ge s c
       by_cases h1 : Lib.indexByte s c = -1
       · simp [h1]
       · have h2 : ∃ n : Nat, Lib.indexByte s c = n := ⟨(Lib.indexByte s c).toNat, by omega⟩
         obtain ⟨n, hn⟩ := h2
         have e : ((n : Int) + 1).toNat = n + 1 := by omega
         have e1 : ¬ ((n : Int) = -1) := by omega
         have e2 : ¬ ((n : Int) + 1 = -1) := by omega
         simp [hn, e, e1, e2, Nat.add_right_comm]
theorem splitS_one (s : Str) (c : UInt8) : splitS s [c] = splitC c s := by
 unfold splitS
 have := Lib.splitB_data ⟨[c].toArray⟩ 0 (Lib.countB ⟨s.toArray⟩ ⟨[c].toArray⟩) ⟨s.toArray⟩
 rw [this]
 exact splitK_one c s
theorem splitC_len (c : UInt8) : ∀ s : Str, (splitC c s).length = s.count c + 1
 | [] => rfl
 | b :: s => by
   have ih := splitC_len c s
   unfold splitC
   by_cases hb : b = c
   · rw [if_pos hb]; simp [hb, ih]
   · rw [if_neg hb, List.count_cons_of_ne hb, ← ih]
     have := splitC_ne c s
     cases h : splitC c s with
     | nil => exact absurd h this
     | cons => rfl
theorem strings_Split_one (s : Str) (c : UInt8) (h : s.length < 4294967281) : strings_Split s [c] = some (splitC c s) := by
 have hc : s.count c ≤ s.length := List.count_le_length
 unfold strings_Split
 rw [splitS_one, splitC_len]
 refine if_pos ⟨h, by simp, ?_, by omega⟩
 show _ = Lib.count s [c] + 1
 rw [Lib.count_one]
theorem splitC_mem (c : UInt8) (s : Str) : ∀ x ∈ splitC c s, c ∉ x ∧ x.length ≤ s.length := by
 induction s with
 | nil => intro x hx; simp [splitC] at hx; subst hx; simp
 | cons b s ih =>
   intro x hx
   unfold splitC at hx
   by_cases hb : b = c
   · rw [if_pos hb] at hx
     rcases List.mem_cons.1 hx with rfl | hx
     · simp
     · have := ih x hx; exact ⟨this.1, by simp; omega⟩
   · rw [if_neg hb] at hx
     cases h : splitC c s with
     | nil => exact absurd h (splitC_ne c s)
     | cons y ys =>
       rw [h] at hx ih
       rcases List.mem_cons.1 hx with rfl | hx
       · have := ih y (by simp)
         refine ⟨fun hm => ?_, by simp; omega⟩
         rcases List.mem_cons.1 hm with e | hm
         · exact hb e.symm
         · exact this.1 hm
       · have := ih x (List.mem_cons_of_mem _ hx); exact ⟨this.1, by simp; omega⟩
end Go.Proofs.YtbekhaioddmliaaGreatDoor


/- What ConfigText writes, and that it is read again. No program in sight. -/
namespace Go.Proofs.YtbekhaioddmliaaGreatDoor
set_option linter.unusedVariables false
set_option linter.unusedSimpArgs false
open Go Go.RowKit
variable {N : Nat}
end Go.Proofs.YtbekhaioddmliaaGreatDoor

