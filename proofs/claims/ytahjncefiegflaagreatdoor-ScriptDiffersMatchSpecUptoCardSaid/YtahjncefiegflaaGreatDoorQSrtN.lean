/- Values of chapter 2 in the reference; sums and comparisons of any two. No program in sight. -/
import Derived.Test.YtahjncefiegflaaGreatDoorQLSv
import Derived.Test.YtahjncefiegflaaGreatDoorQShelfI
import Derived.Test.YtahjncefiegflaaGreatDoorQFor2
namespace Go.Proofs.YtahjncefiegflaaGreatDoor
set_option linter.unusedVariables false
set_option linter.unusedSimpArgs false
open Go Go.RowKit
variable {N : Nat}
theorem isTextR_eq (hN : big ≤ N) (s : Str) (hs : s.length ≤ maxLen) : ref2_isText N s = some (s.all textB) := by
 unfold ref2_isText
 rw [show s.all textB = (s.all textB && true) by simp, ← forT_every textB true s 0]
 refine loop_for (fun _ _ => rfl) s hs (fun self i h r hr => ?_) (fun self => ?_) hN
 · simp only [z62L0T, geti_lt s h, wrap_succ hs h, hr, bnd_some]
   rw [lt_tt h, br_true]
   unfold textB
   cases h1 : (s[i] == (10 : UInt8)) <;> cases h2 : decide (s[i] < (32 : UInt8)) <;> cases h3 : decide (s[i] > (126 : UInt8)) <;> simp [h1, bne]
 · simp only [z62L0T, lt_ff, br_false]
theorem checkTextR_eq (hN : big ≤ N) (s : Str) (hs : s.length ≤ maxLen) : ref2_checkText N s = some (textE s) := by
 unfold ref2_checkText textE
 rw [isTextR_eq hN s hs, bnd_some]
 cases decide ((s.length : Int) > 1000) <;> cases s.all textB <;> simp
theorem isPlainR_eq (v : GValue) : ref2_isPlain N v = some (!formV v) := by
 unfold ref2_isPlain formV
 have h1 : ((v.list.length : Int) == (0 : Int)) = !decide ((v.list.length : Int) > 0) := by
   by_cases h : (v.list.length : Int) = 0
   · simp [h]
   · rw [beq_false_of_ne h, decide_eq_true (by omega)]; rfl
 have h2 : ((v.cases.length : Int) == (0 : Int)) = !decide ((v.cases.length : Int) > 0) := by
   by_cases h : (v.cases.length : Int) = 0
   · simp [h]
   · rw [beq_false_of_ne h, decide_eq_true (by omega)]; rfl
 rw [h1, h2]
 simp only [bne]
 generalize (v.text == ([] : Str)) = b1
 generalize (v.number == (0 : Int)) = b2
 generalize decide ((v.list.length : Int) > 0) = b3
 generalize decide ((v.cases.length : Int) > 0) = b4
 generalize (v.kind == (1 : Int)) = c1
 generalize (v.kind == (2 : Int)) = c2
 generalize (v.kind == (3 : Int)) = c3
 generalize (v.kind == (4 : Int)) = c4
 cases b1 <;> cases b2 <;> cases b3 <;> cases b4 <;> cases c1 <;> cases c2 <;> cases c3 <;> cases c4 <;> simp
theorem withinR_eq (n a b : Int) : ref2_within N n a b = some (decide (a ≤ n) && decide (n ≤ b)) := by
 unfold ref2_within
 cases decide (a ≤ n) <;> simp
theorem longR (hN : big ≤ N) (r : List Case → Option Int) (l : List Str) (hl : l.length ≤ maxLen) (k : Int) : z38L0 N r l (l.length : Int) (some k) N 0 = some (if (l.any fun s => decide ((s.length : Int) > 1000)) = true then 2 else k) := by
 have e : (if (l.any fun s => decide ((s.length : Int) > 1000)) = true then (2 : Int) else k) = forT (fun _ s r => if decide ((s.length : Int) > 1000) = true then 2 else r) k l 0 := by
   have : ∀ (l : List Str) (j : Nat), (if (l.any fun s => decide ((s.length : Int) > 1000)) = true then (2 : Int) else k) = forT (fun _ s r => if decide ((s.length : Int) > 1000) = true then 2 else r) k l j := by
     intro l
     induction l with
     | nil => intro j; simp [forT]
     | cons x l ih =>
       intro j
       show _ = (if decide ((x.length : Int) > 1000) = true then 2 else forT _ k l (j + 1))
       rw [← ih (j + 1), List.any_cons]
       cases decide ((x.length : Int) > 1000) <;> simp
   exact this l 0
 rw [e]
 refine loop_for (fun _ _ => rfl) l hl (fun self i h r' hr => ?_) (fun self => ?_) hN
 · simp only [z38L0T, geti_lt l h, wrap_succ hl h, hr, bnd_some]
   rw [lt_tt h, br_true, br_ite]
 · simp only [z38L0T, lt_ff, br_false]
theorem oddR (hN : big ≤ N) (r : List Case → Option Int) (l : List Str) (hl : Fit (.sl .str) l) (k : Int) : z38L1 N r l (l.length : Int) (some k) N 0 = some (if (l.any fun s => !s.all textB) = true then 3 else k) := by
 have e : (if (l.any fun s => !s.all textB) = true then (3 : Int) else k) = forT (fun _ s r => if (!s.all textB) = true then 3 else r) k l 0 := by
   have : ∀ (l : List Str) (j : Nat), (if (l.any fun s => !s.all textB) = true then (3 : Int) else k) = forT (fun _ s r => if (!s.all textB) = true then 3 else r) k l j := by
     intro l
     induction l with
     | nil => intro j; simp [forT]
     | cons x l ih =>
       intro j
       show _ = (if (!x.all textB) = true then 3 else forT _ k l (j + 1))
       rw [← ih (j + 1), List.any_cons]
       cases x.all textB <;> simp
   exact this l 0
 rw [e]
 refine loop_for (fun _ _ => rfl) l hl.1 (fun self i h r' hr => ?_) (fun self => ?_) hN
 · simp only [z38L1T, geti_lt l h, wrap_succ hl.1 h, hr, bnd_some, isTextR_eq hN _ (hl.2 _ (List.getElem_mem h))]
   rw [lt_tt h, br_true, br_ite]
 · simp only [z38L1T, lt_ff, br_false]
theorem CheckValueR_eq (hN : big ≤ N) {r : List Case → Option Int} {cc : Int} (v : GValue) (hv : Fit (.rc .value) v) (hr : v.kind = 4 → r v.cases = some cc) : ref2_CheckValue N r v = some (valS cc v) := by
 obtain ⟨_, ht, _, hl, hc⟩ := valFit hv
 have hk : (br (v.kind == (4 : Int)) (bnd (r v.cases) fun t94 => some t94) (some (0 : Int))) = some (if v.kind == 4 then cc else 0) := by
   by_cases h4 : v.kind = 4
   · rw [hr h4]; simp [h4]
   · rw [show (v.kind == (4 : Int)) = false from beq_false_of_ne h4]; simp
 unfold ref2_CheckValue
 simp only [GValue.eta, isPlainR_eq, withinR_eq, isTextR_eq hN _ ht, bnd_some, hk, br_ite, oddR hN r _ hl, longR hN r _ hl.1]
 unfold valS tailV
 generalize formV v = f
 generalize decide ((v.text.length : Int) > 1000) = b1
 generalize decide ((v.list.length : Int) > 1000) = b2
 generalize decide ((v.cases.length : Int) > 50) = b3
 generalize (v.list.any fun s => decide ((s.length : Int) > 1000)) = b4
 have h0 : decide ((0 : Int) ≤ v.number) = !decide (v.number < 0) := by
   by_cases h : v.number < 0
   · rw [decide_eq_false (by omega), decide_eq_true h]; rfl
   · rw [decide_eq_true (by omega), decide_eq_false h]; rfl
 have h9 : decide (v.number ≤ 999999999) = !decide (v.number > 999999999) := by
   by_cases h : v.number > 999999999
   · rw [decide_eq_false (by omega), decide_eq_true h]; rfl
   · rw [decide_eq_true (by omega), decide_eq_false h]; rfl
 rw [h0, h9]
 generalize decide (v.number < 0) = b5
 generalize decide (v.number > 999999999) = b6
 generalize decide (v.kind < 1) = b7
 generalize decide (v.kind > 4) = b8
 cases b7 <;> cases b8 <;> cases f <;> cases b1 <;> cases b2 <;> cases b3 <;> cases b4 <;> cases b5 <;> cases b6 <;> simp
theorem twiceR (hN : big ≤ N) (r : List Case → Option Int) (l : List Case) (hl : l.length ≤ maxLen) (q : Str) (k : Int) : z28L1 N r l (l.length : Int) q (some k) N 0 = some (if (l.any fun d => d.1 == q) = true then 7 else k) := by
 have e : (if (l.any fun d => d.1 == q) = true then (7 : Int) else k) = forT (fun _ d r => if (d.1 == q) = true then 7 else r) k l 0 := by
   have : ∀ (l : List Case) (j : Nat), (if (l.any fun d => d.1 == q) = true then (7 : Int) else k) = forT (fun _ d r => if (d.1 == q) = true then 7 else r) k l j := by
     intro l
     induction l with
     | nil => intro j; simp [forT]
     | cons x l ih =>
       intro j
       show _ = (if (x.1 == q) = true then 7 else forT _ k l (j + 1))
       rw [← ih (j + 1), List.any_cons]
       cases x.1 == q
       · simp only [Bool.false_or, Bool.false_eq_true, if_false]
       · simp only [Bool.true_or, if_true]
   exact this l 0
 rw [e]
 refine loop_for (fun _ _ => rfl) l hl (fun self i h r' hr => ?_) (fun self => ?_) hN
 · simp only [z28L1T, geti_lt l h, wrap_succ hl h, hr, bnd_some]
   rw [lt_tt h, br_true, br_ite]
 · simp only [z28L1T, lt_ff, br_false]
theorem checkCasesR_eq (hN : big ≤ N) (r : List Case → Option Int) (l : List Case) (hl : Fit (.sl caseTy) l) : ref2_checkCases_b N r l = some (casesS l) := by
 unfold ref2_checkCases_b casesS
 by_cases h0 : l.length = 0
 · simp [h0]
 · rw [if_neg h0, show ((l.length : Int) == (0 : Int)) = false from beq_false_of_ne (by omega), br_false]
   refine loop_for (fun _ _ => rfl) l hl.1 (fun self i h r' hr => ?_) (fun self => ?_) hN
   · have hx := hl.2 _ (List.getElem_mem h)
     have ht : (l.take i).length ≤ maxLen := by have := hl.1; rw [List.length_take]; omega
     have h00 : 0 < l.length := by omega
     have hin : ∀ (b : Option Int), (∃ z, b = some z) → ∃ z, b = some z ∧ z28L1 N r (l.take i) ((l.take i).length : Int) l[i].1 b N 0 = some (if ((l.take i).any fun d => d.1 == l[i].1) = true then 7 else z) := fun b ⟨z, hz⟩ => ⟨z, hz, by rw [hz]; exact twiceR hN r _ ht _ _⟩
     simp only [z28L0T, geti_lt l h, wrap_succ hl.1 h, hr, bnd_some, checkTextR_eq hN _ hx.1, slc_take l (Nat.le_of_lt h), GValue.eta, geti_zero, List.getElem?_eq_getElem h00]
     rw [lt_tt h, br_true]
     unfold caseB
     rw [List.getElem?_eq_getElem h00]
     by_cases h4 : l[i].2.kind = 4
     · simp only [h4, beq_self_eq_true, br_true, twiceR hN r _ ht, br_ite, br_ne, if_true]
       by_cases h1 : textE l[i].1 = 0 <;> simp [h1]
     · rw [CheckValueR_eq hN (cc := 0) _ hx.2 (fun h => absurd h h4), bnd_some]
       have e4 : (l[i].2.kind == (4 : Int)) = false := beq_false_of_ne h4
       simp only [e4, br_false, Bool.false_eq_true, if_false]
       have hb : (br (valS 0 l[i].2 != (0 : Int)) (some (valS 0 l[i].2)) (br (l[i].2.kind != l[0].2.kind) (some (6 : Int)) (some r'))) = some (if valS 0 l[i].2 ≠ 0 then valS 0 l[i].2 else if (l[i].2.kind != l[0].2.kind) = true then 6 else r') := by
         rw [br_ite, br_ne]; split <;> rfl
       rw [hb, twiceR hN r _ ht, br_ne]
       by_cases h1 : textE l[i].1 = 0
       · simp only [h1, ne_eq, not_true_eq_false, if_false]
       · simp [h1]
   · simp only [z28L0T, lt_ff, br_false]
theorem CheckValueR_all (hN : big ≤ N) (v : GValue) (hv : Fit (.rc .value) v) : ref2_CheckValue N (ref2_checkCases N N) v = some (valueE v) := by
 obtain ⟨_, _, _, _, hc⟩ := valFit hv
 refine CheckValueR_eq hN v hv fun _ => ?_
 obtain ⟨d, rfl⟩ : ∃ d, N = d + 1 := ⟨N - 1, by unfold big at hN; omega⟩
 exact checkCasesR_eq hN _ _ hc
end Go.Proofs.YtahjncefiegflaaGreatDoor


/- Sums and comparisons of values, in the program and in the reference: laws 40 and 42. No program in sight. -/
namespace Go.Proofs.YtahjncefiegflaaGreatDoor
set_option linter.unusedVariables false
set_option linter.unusedSimpArgs false
open Go Go.RowKit
variable {N : Nat}
structure GoodV (v : GValue) : Prop where
 small : v.kind ≠ 4 → Small v
 plain : v.kind ≠ 4 → v.cases = []
 some : v.kind = 4 → v.cases ≠ []
 cases : ∀ k ∈ v.cases, Small k.2 ∧ k.2.cases = [] ∧ valS 0 k.2 = 0
 few : v.cases.length ≤ 50
 list : v.list.length ≤ 1000
theorem list_of {v : GValue} {cc : Int} (h : valS cc v = 0) : v.list.length ≤ 1000 := by
 apply Classical.byContradiction
 intro hn
 have e : decide ((v.list.length : Int) > 1000) = true := decide_eq_true (by omega)
 unfold valS at h
 by_cases c1 : decide (v.kind < 1) = true
 · rw [if_pos c1] at h; cases h
 · rw [if_neg c1] at h
   by_cases c2 : decide (v.kind > 4) = true
   · rw [if_pos c2] at h; cases h
   · rw [if_neg c2] at h
     by_cases c3 : formV v = true
     · rw [if_pos c3] at h; cases h
     · rw [if_neg c3] at h
       unfold tailV at h
       rw [if_pos e] at h
       split at h <;> cases h
theorem good {v : GValue} (h : valueE v = 0) : GoodV v := by
 rcases value_ok h with ⟨h4, hp⟩ | ⟨h4, hc, hf⟩
 · exact ⟨fun _ => small_of h h4, fun _ => hp.cases, fun e => absurd e h4, fun k hk => by rw [hp.cases] at hk; exact absurd hk (by simp), by rw [hp.cases]; simp, hp.list⟩
 · exact ⟨fun e => absurd h4 e, fun e => absurd h4 e, fun _ => hc.some, fun k hk => ⟨small_of (hc.right k hk) (hc.plain k hk).kind, (hc.plain k hk).cases, hc.right k hk⟩, hf, list_of h⟩
def sameL : List Case → List Case → Bool
 | [], [] => true
 | x :: l, y :: m => (x.1 == y.1 && sameP x.2 y.2) && sameL l m
 | _, _ => false
def sameG (a b : GValue) : Bool := a.kind == b.kind && (a.text == b.text && (a.number == b.number && (decide (a.list = b.list) && sameL a.cases b.cases)))
theorem sameL_len : ∀ {l m : List Case}, l.length ≠ m.length → sameL l m = false
 | [], [], h => absurd rfl h
 | [], _ :: _, _ => rfl
 | _ :: _, [], _ => rfl
 | x :: l, y :: m, h => by
   show ((x.1 == y.1 && sameP x.2 y.2) && sameL l m) = false
   rw [sameL_len (l := l) (m := m) (by simpa using h)]; simp
theorem sameL_self : ∀ {l : List Case}, (∀ k ∈ l, k.2.cases = []) → sameL l l = true
 | [], _ => rfl
 | x :: l, h => by
   show ((x.1 == x.1 && sameP x.2 x.2) && sameL l l) = true
   rw [sameP_self (h x (by simp)), sameL_self fun k hk => h k (by simp [hk])]; simp
theorem sameG_self {a : GValue} (h : ∀ k ∈ a.cases, k.2.cases = []) : sameG a a = true := by
 unfold sameG
 rw [sameL_self h]; simp
theorem sameR_from (hN : big ≤ N) (d : Nat) (k : Option Bool) (l m : List Case) (hl : l.length ≤ maxLen) (he : l.length = m.length) (h1 : ∀ k ∈ l, k.2.cases = [] ∧ k.2.list.length ≤ maxLen) (h2 : ∀ k ∈ m, k.2.list.length ≤ maxLen) (hk : k = some true) : ∀ (q n i : Nat), i + q = l.length → q < n → z33L0 N (ref2_SameValue N (d + 1)) (l.length : Int) l m k n (i : Int) = some (sameL (l.drop i) (m.drop i))
 | 0, n, i, hi, hn => by
   obtain ⟨n, rfl⟩ : ∃ j, n = j + 1 := ⟨n - 1, by omega⟩
   have : i = l.length := by omega
   subst this
   show z33L0T _ _ _ _ _ _ _ _ = _
   simp only [z33L0T, lt_ff, br_false, List.drop_length]
   rw [he, List.drop_length, hk]; rfl
 | q + 1, n, i, hi, hn => by
   obtain ⟨n, rfl⟩ : ∃ j, n = j + 1 := ⟨n - 1, by omega⟩
   have h : i < l.length := by omega
   have hb : i < m.length := by omega
   have ih := sameR_from hN d k l m hl he h1 h2 hk q n (i + 1) (by omega) (by omega)
   have hp := h1 _ (List.getElem_mem h)
   show z33L0T _ _ _ _ _ _ _ _ = _
   simp only [z33L0T, geti_lt l h, geti_lt m hb, wrap_succ hl h, ih, bnd_some, SameValue_eq hN d _ _ hp.1 hp.2 (h2 _ (List.getElem_mem hb))]
   rw [lt_tt h, br_true, List.drop_eq_getElem_cons h, List.drop_eq_getElem_cons hb]
   show _ = some ((l[i].1 == m[i].1 && sameP l[i].2 m[i].2) && sameL _ _)
   cases l[i].1 == m[i].1 <;> cases sameP l[i].2 m[i].2 <;> simp
theorem SameValueG (hN : big ≤ N) {a b : GValue} (ha : ∀ k ∈ a.cases, k.2.cases = [] ∧ k.2.list.length ≤ maxLen) (hb : ∀ k ∈ b.cases, k.2.list.length ≤ maxLen) (la : a.list.length ≤ maxLen) (lb : b.list.length ≤ maxLen) (ca : a.cases.length ≤ maxLen) : ref2_SameValue N N a b = some (sameG a b) := by
 obtain ⟨d, hd⟩ : ∃ d, N = d + 2 := ⟨N - 2, by unfold big at hN; omega⟩
 have e : ref2_SameValue N N a b = ref2_SameValue_b N (ref2_SameValue N (d + 1)) a b := by
   conv => lhs; arg 2; rw [hd]
   rfl
 rw [e]
 unfold ref2_SameValue_b sameG
 rw [Equal_str hN _ _ la lb, bnd_some]
 have hk : (a.kind != b.kind) = !(a.kind == b.kind) := rfl
 have hn : (a.number != b.number) = !(a.number == b.number) := rfl
 rw [hk, hn]
 have hC : (br ((a.cases.length : Int) != (b.cases.length : Int)) (some false) (z33L0 N (ref2_SameValue N (d + 1)) (a.cases.length : Int) a.cases b.cases (some true) N 0)) = some (sameL a.cases b.cases) := by
   by_cases he : a.cases.length = b.cases.length
   · rw [show ((a.cases.length : Int) != (b.cases.length : Int)) = false by simp [he], br_false]
     have := sameR_from hN d (some true) a.cases b.cases ca he ha hb rfl a.cases.length N 0 (by omega) (by unfold maxLen at ca; unfold big at hN; omega)
     simpa using this
   · rw [show ((a.cases.length : Int) != (b.cases.length : Int)) = true by simp; omega, br_true, sameL_len he]
 rw [hC]
 cases a.kind == b.kind <;> cases a.text == b.text <;> cases a.number == b.number <;> cases decide (a.list = b.list) <;> simp
end Go.Proofs.YtahjncefiegflaaGreatDoor


/- CheckValue, Add and Same are as specified: law 42 in plain Lean. -/
namespace Go.Proofs.YtahjncefiegflaaGreatDoor
set_option linter.unusedVariables false
set_option linter.unusedSimpArgs false
open Go Go.RowKit
variable {N : Nat}
theorem equalP (hN : big ≤ N) (r : Case → Case → Option Bool) {a b : GValue} (ha : a.cases = []) (la : a.list.length ≤ maxLen) (lb : b.list.length ≤ maxLen) : script_Equal N r a b = some (sameP a b) := by
 unfold script_Equal sameP
 rw [Equal_str hN _ _ la lb, bnd_some, ha]
 have hF : slices_EqualFunc_api_Case N r [] b.cases () = some b.cases.isEmpty := by
   unfold slices_EqualFunc_api_Case
   have hcs : (((([] : List Case).length : Nat) : Int) != (b.cases.length : Int)) = !b.cases.isEmpty := by
     cases hb : b.cases with
     | nil => rfl
     | cons => simp; omega
   rw [hcs]
   cases hb : b.cases with
   | nil =>
     obtain ⟨n, rfl⟩ : ∃ n, N = n + 1 := ⟨N - 1, by unfold big at hN; omega⟩
     rw [show (!([] : List Case).isEmpty) = false from rfl, br_false]
     show z10L0T _ _ _ _ _ _ _ _ = _
     simp [z10L0T]
   | cons x l => simp
 rw [hF, bnd_some]
 cases a.kind == b.kind <;> cases a.text == b.text <;> cases a.number == b.number <;> cases decide (a.list = b.list) <;> cases b.cases.isEmpty <;> simp
theorem equal_from (hN : big ≤ N) (d : Nat) (l m : List Case) (hl : l.length ≤ maxLen) (he : l.length = m.length) (h1 : ∀ k ∈ l, k.2.cases = [] ∧ k.2.list.length ≤ maxLen) (h2 : ∀ k ∈ m, k.2.list.length ≤ maxLen) : ∀ (q n i : Nat), i + q = l.length → q < n → z10L0 N (script_Equal_1 N (d + 1)) m l (l.length : Int) (some true) n (i : Int) = some (sameL (l.drop i) (m.drop i))
 | 0, n, i, hi, hn => by
   obtain ⟨n, rfl⟩ : ∃ j, n = j + 1 := ⟨n - 1, by omega⟩
   have : i = l.length := by omega
   subst this
   show z10L0T _ _ _ _ _ _ _ _ = _
   simp only [z10L0T, lt_ff, br_false, List.drop_length]
   rw [he, List.drop_length]; rfl
 | q + 1, n, i, hi, hn => by
   obtain ⟨n, rfl⟩ : ∃ j, n = j + 1 := ⟨n - 1, by omega⟩
   have h : i < l.length := by omega
   have hb : i < m.length := by omega
   have ih := equal_from hN d l m hl he h1 h2 q n (i + 1) (by omega) (by omega)
   have hp := h1 _ (List.getElem_mem h)
   have he1 : script_Equal_1 N (d + 1) (l[i].1, l[i].2) (m[i].1, m[i].2) = some (l[i].1 == m[i].1 && sameP l[i].2 m[i].2) := by
     show script_Equal_1_b N _ _ _ = _
     unfold script_Equal_1_b
     simp only [GValue.eta, equalP hN _ hp.1 hp.2 (h2 _ (List.getElem_mem hb)), bnd_some]
     cases l[i].1 == m[i].1 <;> simp
   show z10L0T _ _ _ _ _ _ _ _ = _
   simp only [z10L0T, geti_lt l h, geti_lt m hb, wrap_succ hl h, ih, bnd_some, GValue.eta, he1]
   rw [lt_tt h, br_true, List.drop_eq_getElem_cons h, List.drop_eq_getElem_cons hb]
   show _ = some ((l[i].1 == m[i].1 && sameP l[i].2 m[i].2) && sameL _ _)
   cases (l[i].1 == m[i].1 && sameP l[i].2 m[i].2) <;> simp
theorem EqualG (hN : big ≤ N) {a b : GValue} (ha : ∀ k ∈ a.cases, k.2.cases = [] ∧ k.2.list.length ≤ maxLen) (hb : ∀ k ∈ b.cases, k.2.list.length ≤ maxLen) (la : a.list.length ≤ maxLen) (lb : b.list.length ≤ maxLen) (ca : a.cases.length ≤ maxLen) : script_Equal N (script_Equal_1 N N) a b = some (sameG a b) := by
 obtain ⟨d, hd⟩ : ∃ d, N = d + 1 := ⟨N - 1, by unfold big at hN; omega⟩
 have e : script_Equal_1 N N = script_Equal_1 N (d + 1) := by
   conv => lhs; arg 2; rw [hd]
 rw [e]
 unfold script_Equal sameG
 rw [Equal_str hN _ _ la lb, bnd_some]
 have hF : slices_EqualFunc_api_Case N (script_Equal_1 N (d + 1)) a.cases b.cases () = some (sameL a.cases b.cases) := by
   unfold slices_EqualFunc_api_Case
   by_cases he : a.cases.length = b.cases.length
   · rw [show ((a.cases.length : Int) != (b.cases.length : Int)) = false by simp [he], br_false]
     have := equal_from hN d a.cases b.cases ca he ha hb a.cases.length N 0 (by omega) (by unfold maxLen at ca; unfold big at hN; omega)
     simpa using this
   · rw [show ((a.cases.length : Int) != (b.cases.length : Int)) = true by simp; omega, br_true, sameL_len he]
 rw [hF, bnd_some]
 cases a.kind == b.kind <;> cases a.text == b.text <;> cases a.number == b.number <;> cases decide (a.list = b.list) <;> simp
theorem good_cases {v : GValue} (g : GoodV v) : ∀ k ∈ v.cases, k.2.cases = [] ∧ k.2.list.length ≤ maxLen := fun k hk => ⟨(g.cases k hk).2.1, Nat.le_trans (g.cases k hk).1.list (by decide)⟩
theorem good_list {v : GValue} (g : GoodV v) : v.list.length ≤ maxLen := Nat.le_trans g.list (by decide)
theorem good_few {v : GValue} (g : GoodV v) : v.cases.length ≤ maxLen := Nat.le_trans g.few (by decide)
end Go.Proofs.YtahjncefiegflaaGreatDoor


/- CheckPackage and Attr are as specified: law 43 in plain Lean. -/
namespace Go.Proofs.YtahjncefiegflaaGreatDoor
set_option linter.unusedVariables false
set_option linter.unusedSimpArgs false
open Go Go.RowKit
variable {N : Nat}
def prevS {α : Type} (l : List (Str × α)) (i : Nat) (n : Str) (r : Int) : Int := if i = 0 then r else match l[i - 1]? with | some y => if (Op.bytesLess n y.1 || n == y.1) then 8 else r | none => r
theorem prev_eq {α : Type} {l : List (Str × α)} (hx : l.length ≤ maxLen) {i : Nat} (h : i < l.length) {n : Str} {r : Int} :
   (br (decide ((i : Int) > 0)) (bnd (geti l (IntKind.i64.wrap ((i : Int) - 1))) fun y => br (Op.bytesLess n y.1 || n == y.1) (some 8) (some r)) (some r)) = some (prevS l i n r) := by
 unfold maxLen at hx
 unfold prevS
 cases i with
 | zero => simp
 | succ j =>
   rw [wrap_pred (by omega), show ((j + 1 : Nat) : Int) - 1 = (j : Int) by omega, geti_lt l (by omega), bnd_some, br_ite, decide_eq_true (show ((j + 1 : Nat) : Int) > 0 by omega), br_true, if_neg (Nat.succ_ne_zero j)]
   rw [show j + 1 - 1 = j from rfl, List.getElem?_eq_getElem (by omega)]
theorem ne_zero_dec (n : Int) : (n != 0) = decide (n ≠ 0) := by
 show (!decide (n = 0)) = decide (n ≠ 0)
 cases h : decide (n = 0) with
 | true => exact (decide_eq_false (fun h' => h' (of_decide_eq_true h))).symm
 | false => exact (decide_eq_true (of_decide_eq_false h)).symm
theorem slices_Index_eq (hN : big ≤ N) (xs : List Str) (hx : xs.length ≤ maxLen) (x : Str) : slices_Index_string_string N xs x = some (idxP (x == ·) xs) := by
 unfold slices_Index_string_string
 refine loop_for (fun _ _ => rfl) xs hx (fun self i h r hr => ?_) (fun self => ?_) hN
 · simp only [z9L0T, geti_lt xs h, wrap_succ hx h, hr, bnd_some]
   rw [lt_tt h, br_true, br_ite]
 · simp [z9L0T]
theorem slices_Contains_eq (hN : big ≤ N) (xs : List Str) (hx : xs.length ≤ maxLen) (x : Str) : slices_Contains_string_string N xs x = some (xs.any (x == ·)) := by
 unfold slices_Contains_string_string
 rw [slices_Index_eq hN xs hx, bnd_some, idxP_nonneg]
abbrev Attr : Type := Str × GValue
abbrev Target : Type := Str × Str × List Attr
abbrev attrTy : Ty := .pr .str (.rc .value)
abbrev targetTy : Ty := .pr .str (.pr .str (.sl attrTy))
def smallB (c : UInt8) : Bool := decide (c ≥ 97) && decide (c ≤ 122)
def digitB (c : UInt8) : Bool := decide (c ≥ 48) && decide (c ≤ 57)
def nmB (c : UInt8) : Bool := smallB c || (digitB c || c == 95)
theorem isSmall_eq (c : UInt8) : script_isSmall N c = some (smallB c) := by
 unfold script_isSmall smallB
 cases decide (c ≥ 97) <;> simp
theorem isDigit_eq (c : UInt8) : script_isDigit N c = some (digitB c) := by
 unfold script_isDigit digitB
 cases decide (c ≥ 48) <;> simp
def kwds : List Str := [[109, 97, 99, 114, 111], [102, 111, 114], [105, 110], [105, 102], [101, 108, 115, 101], [117, 115, 101], [102, 105, 108, 101, 115], [99, 104, 111, 111, 115, 101]]
def nameS (s : Str) : Bool := match s with
 | [] => false
 | b :: _ => decide (s.length ≤ 40) && (smallB b && (s.all nmB && !(kwds.any (s == ·))))
theorem script_IsName_eq (hN : big ≤ N) (s : Str) (hs : s.length ≤ maxLen) : script_IsName N s = some (nameS s) := by
 unfold script_IsName
 cases s with
 | nil => simp [nameS]
 | cons b x =>
   have h1 : ¬ (((b :: x).length : Int) < 1) := by simp; omega
   rw [br_neg h1, geti_zero, List.getElem?_cons_zero, bnd_some, isSmall_eq, bnd_some]
   have hL : z49L0 N (b :: x) ((b :: x).length : Int) (bnd (script_words N) fun t42 => bnd (slices_Contains_string_string N t42 (b :: x)) fun t44 => some (!t44)) N 0 = some ((b :: x).all nmB && !(kwds.any ((b :: x) == ·))) := by
     have hk : (bnd (script_words N) fun t42 => bnd (slices_Contains_string_string N t42 (b :: x)) fun t44 => some (!t44)) = some (!(kwds.any ((b :: x) == ·))) := by
       unfold script_words
       rw [bnd_some, slices_Contains_eq hN _ (by decide), bnd_some]; rfl
     rw [hk, ← forT_every nmB _ _ 0]
     refine loop_for (fun _ _ => rfl) (b :: x) hs (fun self i h r hr => ?_) (fun self => ?_) hN
     · simp only [z49L0T, geti_lt _ h, wrap_succ hs h, hr, bnd_some, isSmall_eq, isDigit_eq]
       rw [lt_tt h, br_true]
       unfold nmB
       generalize (b :: x)[i] = c
       cases h1 : smallB c <;> cases h2 : digitB c <;> cases h3 : (c == 95) <;> simp [bne, h3]
     · simp only [z49L0T, lt_ff, br_false]
   rw [hL]
   show _ = some (decide ((b :: x).length ≤ 40) && (smallB b && ((b :: x).all nmB && !(kwds.any ((b :: x) == ·)))))
   generalize ((b :: x).all nmB && !(kwds.any ((b :: x) == ·))) = q
   by_cases h40 : (b :: x).length ≤ 40
   · rw [br_neg (by omega), decide_eq_true h40]
     cases smallB b <;> simp
   · rw [br_pos (by omega), decide_eq_false h40]; rfl
def isKw (a : Attr) : Bool := a.1 == ([110, 97, 109, 101] : Str) || a.1 == ([107, 105, 110, 100] : Str)
def attrB (l : List Attr) (i : Nat) (a : Attr) (r : Int) : Int := if !nameS a.1 then 5 else if decide (valueE a.2 ≠ 0) then valueE a.2 else prevS l i a.1 r
def targetE (t : Target) : Int := if !pathB t.1 then 3 else if !nameS t.2.1 then 5 else if 30 < t.2.2.length then 2 else forT (attrB t.2.2) (if t.2.2.any isKw then 5 else 0) t.2.2 0
theorem kw_eq (a : Attr) : script_CheckTarget_1 N a = some (isKw a) := by
 unfold script_CheckTarget_1 isKw
 rw [br_ite]
 cases h1 : (a.1 == ([110, 97, 109, 101] : Str)) <;> cases h2 : (a.1 == ([107, 105, 110, 100] : Str)) <;> simp
theorem Contains_kw (hN : big ≤ N) (l : List Attr) (hl : l.length ≤ maxLen) : slices_ContainsFunc_api_Attr N l () = some (l.any isKw) := by
 unfold slices_ContainsFunc_api_Attr
 have : slices_IndexFunc_api_Attr N l () = some (idxP isKw l) := by
   unfold slices_IndexFunc_api_Attr
   refine loop_for (fun _ _ => rfl) l hl (fun self i h r hr => ?_) (fun self => ?_) hN
   · simp only [z11L0T, geti_lt l h, wrap_succ hl h, hr, bnd_some, kw_eq]
     rw [lt_tt h, br_true, br_ite]
   · simp only [z11L0T, lt_ff, br_false]
 rw [this, bnd_some, idx_any]
theorem CheckTarget_eq (hN : big ≤ N) (t : Target) (ht : Fit targetTy t) (h1 : t.1.length ≤ 1048576) : script_CheckTarget N t = some (targetE t) := by
 unfold script_CheckTarget targetE
 rw [blob_path hN h1, bnd_some, script_IsName_eq hN _ ht.2.1, bnd_some, Contains_kw hN _ ht.2.2.1, bnd_some]
 have hL : z24L0 N t.2.2 (t.2.2.length : Int) t.2.2 (br (t.2.2.any isKw) (some (5 : Int)) (some (0 : Int))) N 0 = some (forT (attrB t.2.2) (if t.2.2.any isKw then 5 else 0) t.2.2 0) := by
   rw [br_ite]
   refine loop_for (fun _ _ => rfl) t.2.2 ht.2.2.1 (fun self i h r hr => ?_) (fun self => ?_) hN
   · have ha := ht.2.2.2 _ (List.getElem_mem h)
     simp only [z24L0T, geti_lt _ h, wrap_succ ht.2.2.1 h, hr, bnd_some, GValue.eta, script_IsName_eq hN _ ha.1, CheckValue_all hN _ ha.2]
     rw [lt_tt h, br_true, prev_eq ht.2.2.1 h, ne_zero_dec]
     unfold attrB
     simp only [br_ite]
   · simp only [z24L0T, lt_ff, br_false]
 rw [hL, (decide_eq_decide.2 (by omega) : decide ((t.2.2.length : Int) > 30) = decide (30 < t.2.2.length)), br_ite, br_ite, br_ite]
 simp only [decide_eq_true_eq]
theorem isNameByteR_eq (c : UInt8) : ref2_isNameByte N c = some (nmB c) := by
 unfold ref2_isNameByte nmB smallB digitB
 simp only [br_ite]
 generalize decide (c ≥ 97) = a1
 generalize decide (c ≤ 122) = a2
 generalize decide (c ≥ 48) = a3
 generalize decide (c ≤ 57) = a4
 generalize (c == 95) = a5
 cases a1 <;> cases a2 <;> cases a3 <;> cases a4 <;> cases a5 <;> rfl
theorem kwds_eq : strings_Split ([109, 97, 99, 114, 111, 32, 102, 111, 114, 32, 105, 110, 32, 105, 102, 32, 101, 108, 115, 101, 32, 117, 115, 101, 32, 102, 105, 108, 101, 115, 32, 99, 104, 111, 111, 115, 101] : Str) ([32] : Str) = some kwds := by
 rw [strings_Split_one _ _ (by decide)]
 have : splitC 32 ([109, 97, 99, 114, 111, 32, 102, 111, 114, 32, 105, 110, 32, 105, 102, 32, 101, 108, 115, 101, 32, 117, 115, 101, 32, 102, 105, 108, 101, 115, 32, 99, 104, 111, 111, 115, 101] : Str) = kwds := by decide +kernel
 rw [this]
theorem IsNameR_eq (hN : big ≤ N) (s : Str) (hs : s.length ≤ maxLen) : ref2_IsName N s = some (nameS s) := by
 unfold ref2_IsName
 rw [withinR_eq, bnd_some]
 cases s with
 | nil => simp [nameS]
 | cons b x =>
   have h1 : decide ((1 : Int) ≤ ((b :: x).length : Int)) = true := decide_eq_true (by simp; omega)
   rw [h1, Bool.true_and, geti_zero, List.getElem?_cons_zero, bnd_some, bnd_some]
   have hL : z59L0 N (b :: x) ((b :: x).length : Int) (bnd (strings_Split ([109, 97, 99, 114, 111, 32, 102, 111, 114, 32, 105, 110, 32, 105, 102, 32, 101, 108, 115, 101, 32, 117, 115, 101, 32, 102, 105, 108, 101, 115, 32, 99, 104, 111, 111, 115, 101] : Str) ([32] : Str)) fun t29 => bnd (slices_Contains_string_string N t29 (b :: x)) fun t31 => some (!t31)) N 0 = some ((b :: x).all nmB && !(kwds.any ((b :: x) == ·))) := by
     rw [kwds_eq, bnd_some, slices_Contains_eq hN _ (by decide), bnd_some, ← forT_every nmB _ _ 0]
     refine loop_for (fun _ _ => rfl) (b :: x) hs (fun self i h r hr => ?_) (fun self => ?_) hN
     · simp only [z59L0T, geti_lt _ h, wrap_succ hs h, hr, bnd_some, isNameByteR_eq]
       rw [lt_tt h, br_true, br_ite]
     · simp only [z59L0T, lt_ff, br_false]
   rw [hL]
   show _ = some (decide ((b :: x).length ≤ 40) && (smallB b && ((b :: x).all nmB && !(kwds.any ((b :: x) == ·)))))
   generalize ((b :: x).all nmB && !(kwds.any ((b :: x) == ·))) = q
   have hs1 : decide (b < 97) = !decide (b ≥ 97) := by
     by_cases h : b < 97
     · rw [decide_eq_true h, decide_eq_false (UInt8.not_le.2 h)]; rfl
     · rw [decide_eq_false h, decide_eq_true (UInt8.not_lt.1 h)]; rfl
   have hs2 : decide (b > 122) = !decide (b ≤ 122) := by
     by_cases h : b ≤ 122
     · rw [decide_eq_true h, decide_eq_false (UInt8.not_lt.2 h)]; rfl
     · rw [decide_eq_false h, decide_eq_true (UInt8.not_le.1 h)]; rfl
   rw [hs1, hs2]
   unfold smallB
   by_cases h40 : (b :: x).length ≤ 40
   · rw [decide_eq_true (by omega : ((b :: x).length : Int) ≤ 40), decide_eq_true h40]
     cases decide (b ≥ 97) <;> cases decide (b ≤ 122) <;> simp
   · rw [decide_eq_false (by omega : ¬ ((b :: x).length : Int) ≤ 40), decide_eq_false h40]; simp
theorem kwR (hN : big ≤ N) (l : List Attr) (hl : l.length ≤ maxLen) : z31L1 N l (l.length : Int) (some 0) N 0 = some (if l.any isKw = true then 5 else 0) := by
 have e : (if l.any isKw = true then (5 : Int) else 0) = forT (fun _ a r => if isKw a = true then 5 else r) 0 l 0 := by
   have : ∀ (l : List Attr) (j : Nat), (if l.any isKw = true then (5 : Int) else 0) = forT (fun _ a r => if isKw a = true then 5 else r) 0 l j := by
     intro l
     induction l with
     | nil => intro j; simp [forT]
     | cons x l ih =>
       intro j
       show _ = (if isKw x = true then 5 else forT _ 0 l (j + 1))
       rw [← ih (j + 1), List.any_cons]
       cases isKw x
       · simp only [Bool.false_or, Bool.false_eq_true, if_false]
       · simp only [Bool.true_or, if_true]
   exact this l 0
 rw [e]
 refine loop_for (fun _ _ => rfl) l hl (fun self i h r' hr => ?_) (fun self => ?_) hN
 · simp only [z31L1T, geti_lt l h, wrap_succ hl h, hr, bnd_some]
   rw [lt_tt h, br_true, br_ite, br_ite]
   unfold isKw
   generalize (l[i].1 == ([110, 97, 109, 101] : Str)) = a1
   generalize (l[i].1 == ([107, 105, 110, 100] : Str)) = a2
   cases a1 <;> cases a2 <;> rfl
 · simp only [z31L1T, lt_ff, br_false]
theorem CheckTargetR_eq (hN : big ≤ N) (t : Target) (ht : Fit targetTy t) (h1 : t.1.length ≤ 1048576) : ref2_CheckTarget N t = some (targetE t) := by
 unfold ref2_CheckTarget targetE
 rw [ref_path hN h1, bnd_some, IsNameR_eq hN _ ht.2.1, bnd_some, kwR hN _ ht.2.2.1]
 have hL : z31L0 N t.2.2 (t.2.2.length : Int) t.2.2 (some (if t.2.2.any isKw = true then 5 else 0)) N 0 = some (forT (attrB t.2.2) (if t.2.2.any isKw then 5 else 0) t.2.2 0) := by
   refine loop_for (fun _ _ => rfl) t.2.2 ht.2.2.1 (fun self i h r hr => ?_) (fun self => ?_) hN
   · have ha := ht.2.2.2 _ (List.getElem_mem h)
     simp only [z31L0T, geti_lt _ h, wrap_succ ht.2.2.1 h, hr, bnd_some, GValue.eta, IsNameR_eq hN _ ha.1, CheckValueR_all hN _ ha.2]
     rw [lt_tt h, br_true, prev_eq ht.2.2.1 h, ne_zero_dec]
     unfold attrB
     simp only [br_ite]
   · simp only [z31L0T, lt_ff, br_false]
 rw [hL, (decide_eq_decide.2 (by omega) : decide ((t.2.2.length : Int) > 30) = decide (30 < t.2.2.length)), br_ite, br_ite, br_ite]
 simp only [decide_eq_true_eq]
abbrev Package : Type := Str × List Target
abbrev packageTy : Ty := .pr .str (.sl targetTy)
def targB (l : List Target) (i : Nat) (t : Target) (r : Int) : Int := if decide (targetE t ≠ 0) then targetE t else prevS l i t.1 r
def packageE (p : Package) : Int := if !pkgB p.1 then 3 else if 500 < p.2.length then 2 else forT (targB p.2) 0 p.2 0
theorem CheckPackage_eq (hN : big ≤ N) (p : Package) (hp : Fit packageTy p) (h1 : p.1.length ≤ 1048576) (h2 : ∀ t ∈ p.2, t.1.length ≤ 1048576) : script_CheckPackage N p = some (packageE p) := by
 unfold script_CheckPackage packageE
 have hL : z19L0 N p.2 (p.2.length : Int) p.2 (some (0 : Int)) N 0 = some (forT (targB p.2) 0 p.2 0) := by
   refine loop_for (fun _ _ => rfl) p.2 hp.2.1 (fun self i h r hr => ?_) (fun self => ?_) hN
   · have ht := hp.2.2 _ (List.getElem_mem h)
     simp only [z19L0T, geti_lt _ h, wrap_succ hp.2.1 h, hr, bnd_some, CheckTarget_eq hN _ ht (h2 _ (List.getElem_mem h))]
     rw [lt_tt h, br_true, prev_eq hp.2.1 h, ne_zero_dec]
     unfold targB
     simp only [br_ite]
   · simp only [z19L0T, lt_ff, br_false]
 rw [hL, blob_path hN h1, bnd_some, (decide_eq_decide.2 (by omega) : decide ((p.2.length : Int) > 500) = decide (500 < p.2.length))]
 unfold pkgB
 simp only [br_ite, decide_eq_true_eq]
 cases p.1 == ([] : Str) <;> cases pathB p.1 <;> simp
theorem CheckPackageR_eq (hN : big ≤ N) (p : Package) (hp : Fit packageTy p) (h1 : p.1.length ≤ 1048576) (h2 : ∀ t ∈ p.2, t.1.length ≤ 1048576) : ref2_CheckPackage N p = some (packageE p) := by
 unfold ref2_CheckPackage packageE
 have hL : z27L0 N p.2 (p.2.length : Int) p.2 (some (0 : Int)) N 0 = some (forT (targB p.2) 0 p.2 0) := by
   refine loop_for (fun _ _ => rfl) p.2 hp.2.1 (fun self i h r hr => ?_) (fun self => ?_) hN
   · have ht := hp.2.2 _ (List.getElem_mem h)
     simp only [z27L0T, geti_lt _ h, wrap_succ hp.2.1 h, hr, bnd_some, CheckTargetR_eq hN _ ht (h2 _ (List.getElem_mem h))]
     rw [lt_tt h, br_true, prev_eq hp.2.1 h, ne_zero_dec]
     unfold targB
     simp only [br_ite]
   · simp only [z27L0T, lt_ff, br_false]
 rw [hL, ref_pkg hN h1, bnd_some, (decide_eq_decide.2 (by omega) : decide ((p.2.length : Int) > 500) = decide (500 < p.2.length))]
 simp only [br_ite, decide_eq_true_eq]
theorem forT_kk {α : Type} {q : Nat → α → Prop} {body : Nat → α → Int → Int} (h : ∀ i x r, body i x r = 0 → q i x ∧ r = 0) : ∀ (xs : List α) (k : Int) (j : Nat), forT body k xs j = 0 → (∀ i (hi : i < xs.length), q (j + i) xs[i]) ∧ k = 0
 | [], k, j, h' => ⟨fun i hi => absurd hi (by simp), h'⟩
 | x :: xs, k, j, h' => by
   obtain ⟨h1, h2⟩ := h _ _ _ (show body j x (forT body k xs (j + 1)) = 0 from h')
   obtain ⟨h3, h4⟩ := forT_kk h xs k (j + 1) h2
   refine ⟨fun i hi => ?_, h4⟩
   cases i with
   | zero => exact h1
   | succ i =>
     have := h3 i (by simpa using hi)
     simpa [Nat.add_assoc, Nat.add_comm 1] using this
theorem prev_zero {α : Type} {l : List (Str × α)} {i : Nat} {n : Str} {r : Int} (h : prevS l i n r = 0) : r = 0 := by
 unfold prevS at h
 split at h
 · exact h
 · split at h
   · split at h
     · cases h
     · exact h
   · exact h
theorem target_vals {t : Target} (h : targetE t = 0) : ∀ a ∈ t.2.2, valueE a.2 = 0 := by
 unfold targetE at h
 split at h
 · cases h
 · split at h
   · cases h
   · split at h
     · cases h
     · have := (forT_kk (q := fun _ a => valueE a.2 = 0) (body := attrB t.2.2) (fun i x r hx => by
         unfold attrB at hx
         split at hx
         · cases hx
         · split at hx
           · rename_i h1 h2
             exact absurd hx (by simpa using h2)
           · rename_i h1 h2
             exact ⟨by simpa using h2, prev_zero hx⟩) t.2.2 _ 0 h).1
       intro a ha
       obtain ⟨i, hi, rfl⟩ := List.mem_iff_getElem.1 ha
       exact this i hi
theorem own_from (hN : big ≤ N) (d : Nat) (l : List Case) (hl : l.length ≤ maxLen) (h1 : ∀ k ∈ l, k.2.cases = [] ∧ k.2.list.length ≤ 1000000) (k : List Case → Option GValue) : ∀ (q n i : Nat), i + q = l.length → q < n → z53L0 N (script_Own N (d + 1)) (l.length : Int) k n (i : Int) l = k l
 | 0, n, i, hi, hn => by
   obtain ⟨n, rfl⟩ : ∃ j, n = j + 1 := ⟨n - 1, by omega⟩
   have : i = l.length := by omega
   subst this
   show z53L0T _ _ _ _ _ _ _ = _
   simp only [z53L0T, lt_ff, br_false]
 | q + 1, n, i, hi, hn => by
   obtain ⟨n, rfl⟩ : ∃ j, n = j + 1 := ⟨n - 1, by omega⟩
   have h : i < l.length := by omega
   have ih := own_from hN d l hl h1 k q n (i + 1) (by omega) (by omega)
   have hp := h1 _ (List.getElem_mem h)
   have hb : decide ((0 : Int) ≤ (i : Int) ∧ (i : Int) < (l.length : Int)) = true := decide_eq_true ⟨by omega, by omega⟩
   have hs : seti l (i : Int) (l[i].1, l[i].2) = l := by
     unfold seti
     exact List.set_getElem_self (by simpa using h)
   show z53L0T _ _ _ _ _ _ _ = _
   simp only [z53L0T, geti_lt l h, wrap_succ hl h, bnd_some, Own_eq hN d _ hp.1 hp.2]
   rw [lt_tt h, br_true, hb, br_true, br_true, hs, ih]
theorem OwnG (hN : big ≤ N) {v : GValue} (g : GoodV v) : script_Own N N v = some v := by
 obtain ⟨d, hd⟩ : ∃ d, N = d + 2 := ⟨N - 2, by unfold big at hN; omega⟩
 have e : script_Own N N v = script_Own_b N (script_Own N (d + 1)) v := by
   conv => lhs; arg 2; rw [hd]
   rfl
 rw [e]
 unfold script_Own_b
 have hl := g.few
 rw [Clone_strs _ (by have := g.list; omega), bnd_some, Clone_case _ (by omega), bnd_some]
 have := own_from hN d v.cases (good_few g) (fun k hk => ⟨(g.cases k hk).2.1, by have := (g.cases k hk).1.list; omega⟩) (fun o => some (GValue.mk v.kind v.text v.number v.list o)) v.cases.length N 0 (by omega) (by unfold big at hN; omega)
 rw [show ((0 : Nat) : Int) = 0 from rfl] at this
 rw [this, GValue.eta]
def attrF (n : Str) : List Attr → Option GValue
 | [] => none
 | a :: l => if a.1 == n then some a.2 else attrF n l
def attrG (t : Target) (n : Str) : GValue × Bool := match attrF n t.2.2 with
 | some v => (v, true)
 | none => (zeroV, false)
theorem attrF_mem {n : Str} : ∀ {l : List Attr} {v : GValue}, attrF n l = some v → ∃ a ∈ l, a.2 = v
 | [], _, h => by cases h
 | a :: l, v, h => by
   unfold attrF at h
   split at h
   · cases h; exact ⟨a, by simp, rfl⟩
   · obtain ⟨b, hb, e⟩ := attrF_mem h
     exact ⟨b, by simp [hb], e⟩
theorem attrF_forT {β : Type} (n : Str) (f : GValue → β) (z : β) : ∀ (l : List Attr) (j : Nat), forT (fun _ (a : Attr) r => if (a.1 == n) = true then f a.2 else r) z l j = (match attrF n l with | some v => f v | none => z)
 | [], _ => rfl
 | a :: l, j => by
   show (if (a.1 == n) = true then f a.2 else forT _ z l (j + 1)) = _
   rw [attrF_forT n f z l (j + 1)]
   have e : attrF n (a :: l) = if (a.1 == n) = true then some a.2 else attrF n l := rfl
   rw [e]
   by_cases h : (a.1 == n) = true
   · rw [if_pos h, if_pos h]
   · rw [if_neg h, if_neg h]
theorem attrR_eq (hN : big ≤ N) (t : Target) (ht : t.2.2.length ≤ maxLen) (n : Str) : ref2_attr N t n = some (attrG t n) := by
 unfold ref2_attr attrG
 have e : (match attrF n t.2.2 with | some v => (v, true) | none => (zeroV, false)) = forT (fun _ (a : Attr) r => if (a.1 == n) = true then (a.2, true) else r) (zeroV, false) t.2.2 0 := (attrF_forT n (fun v => (v, true)) (zeroV, false) t.2.2 0).symm
 rw [e]
 refine loop_for (fun _ _ => rfl) t.2.2 ht (fun self i h r' hr => ?_) (fun self => ?_) hN
 · simp only [z67L0T, geti_lt _ h, wrap_succ ht h, hr, bnd_some, GValue.eta]
   rw [lt_tt h, br_true, br_ite]
 · simp only [z67L0T, lt_ff, br_false]; rfl
theorem attrS_eq (hN : big ≤ N) (t : Target) (ht : t.2.2.length ≤ maxLen) (hv : ∀ a ∈ t.2.2, valueE a.2 = 0) (n : Str) :
   z64L0 N n t.2.2 (t.2.2.length : Int) (some (GValue.mk (0 : Int) ([] : Str) (0 : Int) ([] : List Str) ([] : List (Str × GValue)), (false, (0 : Int)))) N 0 = some ((attrG t n).1, (attrG t n).2, 0) := by
 have e : ((attrG t n).1, (attrG t n).2, (0 : Int)) = forT (fun _ (a : Attr) r => if (a.1 == n) = true then (a.2, true, (0 : Int)) else r) (zeroV, false, (0 : Int)) t.2.2 0 := by
   rw [attrF_forT n (fun v => (v, true, (0 : Int))) (zeroV, false, (0 : Int))]
   unfold attrG
   cases attrF n t.2.2 <;> rfl
 rw [e]
 refine loop_for (fun _ _ => rfl) t.2.2 ht (fun self i h r' hr => ?_) (fun self => ?_) hN
 · simp only [z64L0T, geti_lt _ h, wrap_succ ht h, hr, bnd_some, GValue.eta, OwnG hN (good (hv _ (List.getElem_mem h)))]
   rw [lt_tt h, br_true, br_ite]
 · simp only [z64L0T, lt_ff, br_false]; rfl
def AttrG (t : Target) (n : Str) : GValue × Bool × Int := if targetE t ≠ 0 then (zeroV, false, targetE t) else if !nameS n then (zeroV, false, 5) else ((attrG t n).1, (attrG t n).2, 0)
theorem AttrS_eq (hN : big ≤ N) (t : Target) (ht : Fit targetTy t) (h1 : t.1.length ≤ 1048576) (n : Str) (hn : n.length ≤ maxLen) : script_Attr N t n = some (AttrG t n) := by
 unfold script_Attr AttrG
 rw [CheckTarget_eq hN t ht h1, bnd_some, script_IsName_eq hN n hn, bnd_some, br_ne]
 split
 · rfl
 · rename_i h
   rw [attrS_eq hN t ht.2.2.1 (target_vals (by simpa using h)) n, show (GValue.mk (0 : Int) ([] : Str) (0 : Int) ([] : List Str) ([] : List (Str × GValue)), (false, (5 : Int))) = (zeroV, false, (5 : Int)) from rfl, br_ite]
theorem mem_bulk {t : Ty} {x : t.den} : ∀ {l : List t.den}, x ∈ l → bulkG rbC t x ≤ bulkG rbC (.sl t) l
 | y :: l, h => by
   show _ ≤ ((y :: l).map (bulkG rbC t)).sum + 1
   rw [List.map_cons, List.sum_cons]
   rcases List.mem_cons.1 h with rfl | h
   · omega
   · have := mem_bulk h
     have e : bulkG rbC (.sl t) l = (l.map (bulkG rbC t)).sum + 1 := rfl
     omega
end Go.Proofs.YtahjncefiegflaaGreatDoor


/- Names in order, each once: sorting, and what is left when equal neighbours go. No program in sight. -/
namespace Go.Proofs.YtahjncefiegflaaGreatDoor
set_option linter.unusedVariables false
set_option linter.unusedSimpArgs false
open Go Go.RowKit
theorem sortStr_pw (xs : List Str) (hn : xs.Nodup) : (xs.mergeSort leStr).Pairwise (· < ·) := by
 have h1 := List.pairwise_mergeSort (le := leStr) (fun a b c h1 h2 => by
   simp only [leStr, decide_eq_true_eq] at *
   exact List.le_trans h1 h2) (fun a b => by
   simp only [leStr, Bool.or_eq_true, decide_eq_true_eq]
   exact List.le_total _ _) xs
 have h2 : (xs.mergeSort leStr).Nodup := (List.mergeSort_perm xs leStr).nodup_iff.2 hn
 refine (List.Pairwise.and h1 h2).imp fun {a b} ⟨hle, hne⟩ => ?_
 simp only [leStr, decide_eq_true_eq] at hle
 rcases List.le_iff_lt_or_eq.1 hle with h | h
 · exact h
 · exact absurd h hne
theorem asc_ext {α : Type} (key : α → Str) {a b : List α} (ha : a.Pairwise fun x y => key x < key y) (hb : b.Pairwise fun x y => key x < key y) (h : ∀ n, n ∈ a ↔ n ∈ b) : a = b := by
 have nd : ∀ c : List α, (c.Pairwise fun x y => key x < key y) → c.Nodup := fun c hc => hc.imp fun {x y} h e => by subst e; exact str_lt_irrefl _ h
 exact perm_strict (fun x y h1 h2 => str_lt_irrefl _ (str_lt_trans h1 h2)) a b ((List.perm_ext_iff_of_nodup (nd a ha) (nd b hb)).2 h) ha hb
theorem str_ext : ∀ {a b : List Str}, a.Pairwise (· < ·) → b.Pairwise (· < ·) → (∀ n, n ∈ a ↔ n ∈ b) → a = b := fun {a b} ha hb h => asc_ext id ha hb h
def setM (m : List (Str × Bool)) (l : List Str) : List (Str × Bool) := l.foldl (fun m n => mset m n true) m
theorem mset_keys (m : List (Str × Bool)) (n : Str) (b : Bool) : ((m.map (·.1)).Nodup → ((mset m n b).map (·.1)).Nodup) ∧ ∀ x, x ∈ (mset m n b).map (·.1) ↔ x ∈ m.map (·.1) ∨ x = n := by
 induction m with
 | nil => exact ⟨fun _ => by simp [mset], fun x => by simp [mset]⟩
 | cons p m ih =>
   obtain ⟨k, v⟩ := p
   unfold mset
   by_cases h : n = k
   · subst h
     simp only [beq_self_eq_true, if_true]
     exact ⟨fun h => h, fun x => ⟨.inl, fun h => h.elim id fun e => by rw [e]; simp⟩⟩
   · have hb : (n == k) = false := by simpa using h
     simp only [hb, Bool.false_eq_true, if_false, List.map_cons]
     refine ⟨fun hn => ?_, fun x => ?_⟩
     · rw [List.nodup_cons] at hn ⊢
       refine ⟨fun hm => ?_, ih.1 hn.2⟩
       rcases (ih.2 k).1 hm with h1 | h1
       · exact hn.1 h1
       · exact h h1.symm
     · rw [List.mem_cons, List.mem_cons, ih.2]
       exact or_assoc.symm
theorem setM_keys : ∀ (l : List Str) (m : List (Str × Bool)), ((m.map (·.1)).Nodup → ((setM m l).map (·.1)).Nodup) ∧ ∀ x, x ∈ (setM m l).map (·.1) ↔ x ∈ m.map (·.1) ∨ x ∈ l
 | [], m => ⟨fun h => h, fun x => by simp [setM]⟩
 | n :: l, m => by
   have h1 := mset_keys m n true
   have h2 := setM_keys l (mset m n true)
   show ((m.map (·.1)).Nodup → ((setM (mset m n true) l).map (·.1)).Nodup) ∧ ∀ x, x ∈ (setM (mset m n true) l).map (·.1) ↔ _
   refine ⟨fun h => h2.1 (h1.1 h), fun x => ?_⟩
   rw [h2.2, h1.2, List.mem_cons, or_assoc]
theorem setM_len (l : List Str) (m : List (Str × Bool)) : (setM m l).length ≤ m.length + l.length := by
 induction l generalizing m with
 | nil => exact Nat.le_refl _
 | cons n l ih =>
   have h1 : ∀ m : List (Str × Bool), (mset m n true).length ≤ m.length + 1 := fun m => by
     induction m with
     | nil => exact Nat.le_refl _
     | cons p m ih =>
       obtain ⟨k, v⟩ := p
       unfold mset
       split
       · simp
       · simp only [List.length_cons]; omega
   have h2 := ih (mset m n true)
   have h3 := h1 m
   show (setM (mset m n true) l).length ≤ _
   rw [List.length_cons]; omega
def sortN (l : List Str) : List Str := ((setM [] l).map (·.1)).mergeSort leStr
theorem sortN_asc (l : List Str) : (sortN l).Pairwise (· < ·) := sortStr_pw _ ((setM_keys l []).1 List.nodup_nil)
theorem mem_sortN (l : List Str) (x : Str) : x ∈ sortN l ↔ x ∈ l := by
 unfold sortN
 rw [List.mem_mergeSort, (setM_keys l []).2]; simp
theorem compact_upto (d : Array Str) (hd : ∀ i j (hi : i < d.size) (hj : j < d.size), i < j → d[i]! ≤ d[j]!) : ∀ m, m ≤ d.size → (Lib.compactUpTo d m).Pairwise (· < ·) ∧ ∀ x, x ∈ Lib.compactUpTo d m ↔ ∃ j, j < m ∧ d[j]! = x
 | 0, _ => by
   have : Lib.compactUpTo d 0 = [] := by simp [Lib.compactUpTo]
   rw [this]
   exact ⟨List.Pairwise.nil, fun x => ⟨fun h => (by cases h), fun ⟨j, hj, _⟩ => absurd hj (Nat.not_lt_zero _)⟩⟩
 | m + 1, hm => by
   obtain ⟨h1, h2⟩ := compact_upto d hd m (by omega)
   rw [Lib.compactUpTo_succ]
   have key : ∀ x, (∃ j, j < m + 1 ∧ d[j]! = x) ↔ (∃ j, j < m ∧ d[j]! = x) ∨ d[m]! = x := fun x => by
     constructor
     · rintro ⟨j, hj, e⟩
       rcases Nat.lt_or_ge j m with h | h
       · exact .inl ⟨j, h, e⟩
       · obtain rfl : j = m := by omega
         exact .inr e
     · rintro (⟨j, hj, e⟩ | e)
       · exact ⟨j, by omega, e⟩
       · exact ⟨m, by omega, e⟩
   cases hk : Lib.keeps d m with
   | true =>
     rw [if_pos rfl]
     refine ⟨List.pairwise_append.2 ⟨h1, List.pairwise_singleton _ _, fun a ha b hb => ?_⟩, fun x => ?_⟩
     · rw [List.mem_singleton.1 hb]
       obtain ⟨j, hj, rfl⟩ := (h2 a).1 ha
       have hne : d[m]! ≠ d[m - 1]! := fun e => by
         rw [Lib.keeps_neg (by omega) e] at hk; cases hk
       have hlt : d[m - 1]! < d[m]! := by
         rcases List.le_iff_lt_or_eq.1 (hd (m - 1) m (by omega) (by omega) (by omega)) with h | h
         · exact h
         · exact absurd h.symm hne
       rcases Nat.lt_or_ge j (m - 1) with h | h
       · have h3 : d[j]! ≤ d[m - 1]! := hd j (m - 1) (by omega) (by omega) h
         rcases List.le_iff_lt_or_eq.1 h3 with h4 | h4
         · exact List.lt_trans h4 hlt
         · rw [h4]; exact hlt
       · obtain rfl : j = m - 1 := by omega
         exact hlt
     · rw [List.mem_append, h2, key, List.mem_singleton]
       exact ⟨fun h => h.imp id Eq.symm, fun h => h.imp id Eq.symm⟩
   | false =>
     rw [if_neg (by simp), List.append_nil]
     refine ⟨h1, fun x => ?_⟩
     rw [h2, key]
     constructor
     · exact .inl
     · rintro (h | e)
       · exact h
       · have h0 : m ≠ 0 := fun h0 => by
           subst h0
           rw [Lib.keeps_lt_one d 0 (by omega)] at hk; cases hk
         have he : d[m]! = d[m - 1]! := Classical.byContradiction fun hne => by
           rw [Lib.keeps_pos hne] at hk; cases hk
         exact ⟨m - 1, by omega, he ▸ e⟩
theorem compact_ok (zs : List Str) (h : zs.Pairwise (· ≤ ·)) : (Lib.compact zs).Pairwise (· < ·) ∧ ∀ x, x ∈ Lib.compact zs ↔ x ∈ zs := by
 have hg : ∀ j (hj : j < zs.length), zs.toArray[j]! = zs[j] := fun j hj => by rw [getElem!_pos zs.toArray j (by simpa using hj)]; simp
 have hsz : zs.toArray.size = zs.length := by simp
 have := compact_upto zs.toArray (fun i j hi hj hij => by
   rw [hsz] at hi hj
   rw [hg i hi, hg j hj]
   exact List.pairwise_iff_getElem.1 h i j hi hj hij) zs.length (by rw [hsz]; exact Nat.le_refl _)
 refine ⟨this.1, fun x => (this.2 x).trans ⟨?_, fun hx => ?_⟩⟩
 · rintro ⟨j, hj, e⟩
   rw [← e, hg j hj]; exact List.getElem_mem hj
 · obtain ⟨j, hj, e⟩ := List.getElem_of_mem hx
   exact ⟨j, hj, (hg j hj).trans e⟩
theorem sortStr_le (xs : List Str) : (xs.mergeSort leStr).Pairwise (· ≤ ·) := by
 have := List.pairwise_mergeSort (le := leStr) (fun a b c h1 h2 => by
   simp only [leStr, decide_eq_true_eq] at *
   exact List.le_trans h1 h2) (fun a b => by
   simp only [leStr, Bool.or_eq_true, decide_eq_true_eq]
   exact List.le_total _ _) xs
 exact this.imp fun h => by simpa [leStr] using h
theorem compact_sort (l : List Str) : Lib.compact (l.mergeSort leStr) = sortN l := by
 obtain ⟨h1, h2⟩ := compact_ok _ (sortStr_le l)
 exact str_ext h1 (sortN_asc l) fun x => by rw [h2, List.mem_mergeSort, mem_sortN]
end Go.Proofs.YtahjncefiegflaaGreatDoor

