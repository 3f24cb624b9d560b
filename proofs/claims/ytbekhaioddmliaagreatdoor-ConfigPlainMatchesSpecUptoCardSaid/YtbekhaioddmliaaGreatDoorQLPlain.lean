/- Chosen is as specified. No program in sight. -/
import Derived.Test.YtbekhaioddmliaaGreatDoorQLDep
import Derived.Test.YtbekhaioddmliaaGreatDoorQEnd
import Derived.Test.YtbekhaioddmliaaGreatDoorRows
namespace Go.Proofs.YtbekhaioddmliaaGreatDoor
set_option linter.unusedVariables false
set_option linter.unusedSimpArgs false
open Go Go.RowKit
variable {N : Nat}
theorem ref_isText_eq (hN : big ≤ N) (s : Str) (hs : s.length ≤ maxLen) : ref2_isText N s = some (s.all textB) := by
 unfold ref2_isText
 rw [show s.all textB = (s.all textB && true) by simp, ← forT_every textB true s 0]
 refine loop_for (fun _ _ => rfl) s hs (fun self i h r hr => ?_) (fun self => ?_) hN
 · simp only [z104L0T, geti_lt s h, wrap_succ hs h, hr, bnd_some]
   rw [lt_tt h, br_true]
   unfold textB
   cases h1 : (s[i] == (10 : UInt8)) <;> cases h2 : decide (s[i] < (32 : UInt8)) <;> cases h3 : decide (s[i] > (126 : UInt8)) <;> simp [h1, bne]
 · simp only [z104L0T, lt_ff, br_false]
theorem ref_checkText_eq (hN : big ≤ N) (s : Str) (hs : s.length ≤ maxLen) : ref2_checkText N s = some (textE s) := by
 unfold ref2_checkText textE
 rw [ref_isText_eq hN s hs, bnd_some]
 cases decide ((s.length : Int) > 1000) <;> cases s.all textB <;> simp
theorem isPlain_eq (v : GValue) : ref2_isPlain N v = some (!formV v) := by
 unfold ref2_isPlain formV
 have e1 : ((v.list.length : Int) == (0 : Int)) = !decide ((v.list.length : Int) > 0) := by cases v.list <;> simp; omega
 have e2 : ((v.cases.length : Int) == (0 : Int)) = !decide ((v.cases.length : Int) > 0) := by cases v.cases <;> simp; omega
 have e3 : (v.number != (0 : Int)) = !(v.number == (0 : Int)) := rfl
 have k1 : (v.kind != (1 : Int)) = !(v.kind == (1 : Int)) := rfl
 have k2 : (v.kind != (2 : Int)) = !(v.kind == (2 : Int)) := rfl
 have k3 : (v.kind != (3 : Int)) = !(v.kind == (3 : Int)) := rfl
 have k4 : (v.kind != (4 : Int)) = !(v.kind == (4 : Int)) := rfl
 rw [e1, e2, e3, k1, k2, k3, k4]
 generalize (v.text == ([] : Str)) = b1
 generalize (v.number == (0 : Int)) = b2
 generalize decide ((v.list.length : Int) > 0) = b3
 generalize decide ((v.cases.length : Int) > 0) = b4
 generalize (v.kind == (1 : Int)) = c1
 generalize (v.kind == (2 : Int)) = c2
 generalize (v.kind == (3 : Int)) = c3
 generalize (v.kind == (4 : Int)) = c4
 cases b1 <;> cases b2 <;> cases b3 <;> cases b4 <;> simp only [br_true, br_false, Bool.not_true, Bool.not_false] <;> cases c1 <;> cases c2 <;> cases c3 <;> cases c4 <;> simp
theorem ref_CheckValue_eq (hN : big ≤ N) {r : List Case → Option Int} {cc : Int} (v : GValue) (hv : Fit (.rc .value) v) (hr : v.kind = 4 → r v.cases = some cc) : ref2_CheckValue N r v = some (valS cc v) := by
 obtain ⟨_, ht, _, hl, hc⟩ := valFit hv
 unfold ref2_CheckValue valS tailV
 have hk : (br (v.kind == (4 : Int)) (bnd (r v.cases) fun t94 => some t94) (some (0 : Int))) = some (if v.kind == 4 then cc else 0) := by
   by_cases h4 : v.kind = 4
   · rw [hr h4]; simp [h4]
   · rw [show (v.kind == (4 : Int)) = false from beq_false_of_ne h4]; simp
 have hw : (bnd (ref2_within N v.number (0 : Int) (999999999 : Int)) fun t62 => br (!t62) (some (1 : Int)) (br (v.kind == (4 : Int)) (bnd (r v.cases) fun t69 => some t69) (some (0 : Int)))) =
     some (if decide (v.number < 0) then 1 else if decide (v.number > 999999999) then 1 else if v.kind == 4 then cc else 0) := by
   rw [hk]
   unfold ref2_within
   by_cases h1 : v.number < 0
   · rw [decide_eq_false (show ¬ (0 : Int) ≤ v.number by omega), br_false, bnd_some]; simp [h1]
   · rw [decide_eq_true (show (0 : Int) ≤ v.number by omega), br_true, bnd_some]
     by_cases h2 : v.number > 999999999
     · rw [decide_eq_false (show ¬ v.number ≤ 999999999 by omega)]; simp [h1, h2]
     · rw [decide_eq_true (show v.number ≤ 999999999 by omega)]; simp [h1, h2]
 have hL1 : ∀ (K : Option Int) (k : Int), K = some k → z63L1 N r v.list (v.list.length : Int) K N 0 = some (if (v.list.any fun s => !s.all textB) = true then 3 else k) := fun K k hK => by
   rw [← forT_guard (fun s : Str => !s.all textB) (3 : Int) k v.list 0]
   refine loop_for (fun _ _ => rfl) v.list hl.1 (fun self i h r' hr' => ?_) (fun self => ?_) hN
   · simp only [z63L1T, geti_lt _ h, wrap_succ hl.1 h, hr', bnd_some, ref_isText_eq hN _ (hl.2 _ (List.getElem_mem h))]
     rw [lt_tt h, br_true, br_ite]
   · simp only [z63L1T, lt_ff, br_false]; exact hK
 have hL0 : ∀ (K : Option Int) (k : Int), K = some k → z63L0 N r v.list (v.list.length : Int) K N 0 = some (if (v.list.any fun s => decide ((s.length : Int) > 1000)) = true then 2 else k) := fun K k hK => by
   rw [← forT_guard (fun s : Str => decide ((s.length : Int) > 1000)) (2 : Int) k v.list 0]
   refine loop_for (fun _ _ => rfl) v.list hl.1 (fun self i h r' hr' => ?_) (fun self => ?_) hN
   · simp only [z63L0T, geti_lt _ h, wrap_succ hl.1 h, hr', bnd_some]
     rw [lt_tt h, br_true, br_ite]
   · simp only [z63L0T, lt_ff, br_false]; exact hK
 rw [hw, ref_isText_eq hN _ ht, bnd_some, hL1 _ _ rfl]
 simp only [GValue.eta, isPlain_eq, bnd_some, br_ite]
 rw [hL0 _ _ rfl]
 simp only [br_ite, Bool.not_not]
 congr 1
 generalize formV v = b0
 generalize decide ((v.text.length : Int) > 1000) = b1
 generalize decide ((v.list.length : Int) > 1000) = b2
 generalize decide ((v.cases.length : Int) > 50) = b3
 generalize (v.list.any fun s => decide ((s.length : Int) > 1000)) = b4
 cases b0 <;> cases b1 <;> cases b2 <;> cases b3 <;> cases b4 <;> simp
theorem ref_checkCases_eq (hN : big ≤ N) (r : List Case → Option Int) (l : List Case) (hl : Fit (.sl caseTy) l) : ref2_checkCases_b N r l = some (casesS l) := by
 unfold ref2_checkCases_b casesS
 by_cases h0 : l.length = 0
 · simp [h0]
 · rw [if_neg h0, show ((l.length : Int) == (0 : Int)) = false from beq_false_of_ne (by omega), br_false]
   refine loop_for (fun _ _ => rfl) l hl.1 (fun self i h r' hr => ?_) (fun self => ?_) hN
   · have hx := hl.2 _ (List.getElem_mem h)
     have ht : (l.take i).length ≤ maxLen := by have := hl.1; rw [List.length_take]; omega
     have h00 : 0 < l.length := by omega
     have hin : ∀ (K : Option Int) (k : Int), K = some k → z49L1 N r (l.take i) ((l.take i).length : Int) l[i].1 K N 0 = some (if (l.take i).any (fun d => d.1 == l[i].1) then 7 else k) := fun K k hK => by
       rw [← forT_guard _ _ _ _ 0]
       refine loop_for (fun _ _ => rfl) _ ht (fun self j hj r' hr' => ?_) (fun self => ?_) hN
       · simp only [z49L1T, geti_lt _ hj, wrap_succ ht hj, hr', bnd_some]
         rw [lt_tt hj, br_true, br_ite]
       · simp only [z49L1T, lt_ff, br_false]; exact hK
     simp only [z49L0T, geti_lt l h, wrap_succ hl.1 h, hr, bnd_some, ref_checkText_eq hN _ hx.1, slc_take l (Nat.le_of_lt h), GValue.eta, geti_zero, List.getElem?_eq_getElem h00]
     rw [lt_tt h, br_true]
     unfold caseB
     rw [List.getElem?_eq_getElem h00]
     by_cases h4 : l[i].2.kind = 4
     · simp only [h4, beq_self_eq_true, br_true, br_ne, if_true]
       rw [hin _ _ rfl]
       by_cases h1 : textE l[i].1 = 0 <;> simp [h1]
     · rw [ref_CheckValue_eq hN (cc := 0) _ hx.2 (fun h => absurd h h4), bnd_some]
       have e4 : (l[i].2.kind == (4 : Int)) = false := beq_false_of_ne h4
       simp only [e4, br_false, br_ite, br_ne, Bool.false_eq_true, if_false]
       rw [hin _ _ rfl]
       by_cases h1 : textE l[i].1 = 0 <;> simp [h1]
   · simp only [z49L0T, lt_ff, br_false]
theorem ref_CheckValue_all (hN : big ≤ N) (v : GValue) (hv : Fit (.rc .value) v) : ref2_CheckValue N (ref2_checkCases N N) v = some (valueE v) := by
 obtain ⟨_, _, _, _, hc⟩ := valFit hv
 refine ref_CheckValue_eq hN v hv fun _ => ?_
 obtain ⟨d, rfl⟩ : ∃ d, N = d + 1 := ⟨N - 1, by unfold big at hN; omega⟩
 exact ref_checkCases_eq hN _ _ hc
theorem ref_conditionOf_eq (hN : big ≤ N) (m : List Cond) (hm : m.length ≤ maxLen) (n : Str) : ref3_conditionOf N m n = some (findF (fun x => x.1 == n) (fun x => (x, true)) (([], ([], [])), false) m) := by
 unfold ref3_conditionOf
 rw [← forT_find (fun x : Cond => x.1 == n) (fun x => (x, true)) _ m 0]
 refine loop_for (fun _ _ => rfl) m hm (fun self i h r hr => ?_) (fun self => ?_) hN
 · simp only [z57L0T, geti_lt m h, wrap_succ hm h, hr, bnd_some]
   rw [lt_tt h, br_true, br_ite]
 · simp only [z57L0T, lt_ff, br_false]
theorem has_eq (hN : big ≤ N) (a b : List (Str × Str)) (ha : a.length ≤ maxLen) (hb : b.length ≤ maxLen) : ref3_has N a b = some (b.all (hasPair a)) := by
 unfold ref3_has
 rw [show b.all (hasPair a) = (b.all (hasPair a) && true) by simp, ← forT_every _ _ _ 0]
 refine loop_for (fun _ _ => rfl) b hb (fun self i h r hr => ?_) (fun self => ?_) hN
 · simp only [z118L0T, geti_lt b h, wrap_succ hb h, hr, bnd_some, Contains_pair hN a ha]
   rw [lt_tt h, br_true, br_ite]
 · simp only [z118L0T, lt_ff, br_false]
theorem ref_isMore_eq (hN : big ≤ N) (a b : Cond) {l : List (Str × List Str)} (ha : CondOk l a) (hb : CondOk l b) : ref3_isMore N a b = some (moreS a b) := by
 have h30 : (30 : Nat) ≤ maxLen := by decide
 unfold ref3_isMore moreS
 rw [has_eq hN _ _ (Nat.le_trans ha.needs h30) (Nat.le_trans hb.needs h30), bnd_some, has_eq hN _ _ (Nat.le_trans ha.on h30) (Nat.le_trans hb.on h30), bnd_some]
 have h1 := ha.needs
 have h2 := ha.on
 have h3 := hb.needs
 have h4 := hb.on
 rw [wrap_id (by omega) (by omega), wrap_id (by omega) (by omega), (decide_eq_decide.2 (by omega) : decide ((a.2.1.length : Int) + (a.2.2.length : Int) > (b.2.1.length : Int) + (b.2.2.length : Int)) = decide (a.2.1.length + a.2.2.length > b.2.1.length + b.2.2.length))]
 cases b.2.1.all (hasPair a.2.1) <;> cases b.2.2.all (hasPair a.2.2) <;> simp
theorem checkWhen_eq (hN : big ≤ N) (x : worldTy.den) (hm : x.2.1.length ≤ maxLen) (v : GValue) (hv : v.cases.length ≤ maxLen) : ref3_checkWhen N x v = some (namedS x.2.1 v.cases) := by
 unfold ref3_checkWhen namedS
 rw [← forT_guard (oddC x.2.1) (5 : Int) 0 v.cases 0]
 refine loop_for (fun _ _ => rfl) v.cases hv (fun self i h r hr => ?_) (fun self => ?_) hN
 · simp only [z74L0T, geti_lt _ h, wrap_succ hv h, hr, bnd_some, ref_conditionOf_eq hN _ hm]
   rw [lt_tt h, br_true]
   unfold oddC findF
   cases x.2.1.find? (fun z => z.1 == v.cases[i].1) with
   | none => simp only [Bool.not_false, br_true, Option.isNone_none, Bool.true_and, br_ite]; rfl
   | some z => simp
 · simp only [z74L0T, lt_ff, br_false]
theorem rbest2_eq (hN : big ≤ N) {l : List (Str × List Str)} (ws : List Cond) (hw : ws.length ≤ 50) (hok : ∀ z ∈ ws, CondOk l z) (i : Nat) (hi : i < ws.length) (k4 : Bool → Option (GValue × Int)) :
   z107L2 N (i : Int) (ws.length : Int) ws k4 N true 0 = k4 (bestTo ws i ws.length) := by
 have hm : ws.length ≤ maxLen := Nat.le_trans hw (by decide)
 refine loop_st (f := fun n j b => z107L2 N (i : Int) (ws.length : Int) ws k4 n b j) (T := fun self j b => z107L2T N (i : Int) (ws.length : Int) ws k4 (fun b j => self j b) b j) (fun _ _ _ => rfl) hm (fun j => bestTo ws i j) (fun self j hj ih => ?_) (fun self => ?_) hN
 · simp only [z107L2T]
   rw [lt_tn hj, br_true, geti_lt ws hj, bnd_some, wrap_s hm hj]
   rw [bestTo_succ ws i j hi hj] at ih
   cases hb : bestTo ws i j with
   | false => rw [br_false]; rw [hb, Bool.false_and] at ih; exact ih
   | true =>
     rw [br_true]
     rw [hb, Bool.true_and] at ih
     by_cases hji : j = i
     · rw [show ((i : Int) == (j : Int)) = true by simp [hji], br_true]
       rw [decide_eq_true hji, Bool.true_or] at ih; exact ih
     · rw [show ((i : Int) == (j : Int)) = false from beq_false_of_ne (by omega), br_false, geti_lt ws hi, bnd_some, ref_isMore_eq hN _ _ (hok _ (List.getElem_mem hi)) (hok _ (List.getElem_mem hj)), bnd_some]
       rw [decide_eq_false hji, Bool.false_or] at ih; exact ih
 · simp only [z107L2T]
   rw [lt_fn, br_false]
theorem rbest3_eq (hN : big ≤ N) {l : List (Str × List Str)} (ws : List Cond) (hw : ws.length ≤ 50) (hok : ∀ z ∈ ws, CondOk l z) (i : Nat) (hi : i < ws.length) (k4 : Bool → Option (GValue × Int)) :
   z107L3 N (i : Int) (ws.length : Int) ws k4 N true 0 = k4 (bestTo ws i ws.length) := by
 have hm : ws.length ≤ maxLen := Nat.le_trans hw (by decide)
 refine loop_st (f := fun n j b => z107L3 N (i : Int) (ws.length : Int) ws k4 n b j) (T := fun self j b => z107L3T N (i : Int) (ws.length : Int) ws k4 (fun b j => self j b) b j) (fun _ _ _ => rfl) hm (fun j => bestTo ws i j) (fun self j hj ih => ?_) (fun self => ?_) hN
 · simp only [z107L3T]
   rw [lt_tn hj, br_true, geti_lt ws hj, bnd_some, wrap_s hm hj]
   rw [bestTo_succ ws i j hi hj] at ih
   cases hb : bestTo ws i j with
   | false => rw [br_false]; rw [hb, Bool.false_and] at ih; exact ih
   | true =>
     rw [br_true]
     rw [hb, Bool.true_and] at ih
     by_cases hji : j = i
     · rw [show ((i : Int) == (j : Int)) = true by simp [hji], br_true]
       rw [decide_eq_true hji, Bool.true_or] at ih; exact ih
     · rw [show ((i : Int) == (j : Int)) = false from beq_false_of_ne (by omega), br_false, geti_lt ws hi, bnd_some, ref_isMore_eq hN _ _ (hok _ (List.getElem_mem hi)) (hok _ (List.getElem_mem hj)), bnd_some]
       rw [decide_eq_false hji, Bool.false_or] at ih; exact ih
 · simp only [z107L3T]
   rw [lt_fn, br_false]
theorem sameP_comm {a b : GValue} (ha : a.cases = []) (hb : b.cases = []) : sameP a b = sameP b a := by
 unfold sameP
 rw [ha, hb]
 have e : ∀ (x y : Int), (x == y) = (y == x) := fun x y => by
   by_cases h : x = y
   · subst h; rfl
   · rw [beq_false_of_ne h, beq_false_of_ne (Ne.symm h)]
 have e2 : ∀ (x y : Str), (x == y) = (y == x) := fun x y => by
   by_cases h : x = y
   · subst h; rfl
   · rw [beq_false_of_ne h, beq_false_of_ne (Ne.symm h)]
 have e3 : decide (a.list = b.list) = decide (b.list = a.list) := decide_eq_decide.2 eq_comm
 rw [e a.kind, e2 a.text, e a.number, e3]
theorem Same_any (hN : big ≤ N) (a b : GValue) (ha : a.cases = []) (hla : a.list.length ≤ maxLen) (hlb : b.list.length ≤ maxLen) : ref2_SameValue N N a b = some (sameP a b) := by
 obtain ⟨d, rfl⟩ : ∃ d, N = d + 1 := ⟨N - 1, by unfold big at hN; omega⟩
 exact SameValue_eq hN d a b ha hla hlb
theorem rpick_eq (hN : big ≤ N) {l : List (Str × List Str)} (sel : List (Case × Cond)) (hl : sel.length ≤ 50) (hc : ∀ y ∈ sel, PlainV y.1.2) (hz : ∀ y ∈ sel, CondOk l y.2) (s0 : Case × Cond) (rest : List (Case × Cond)) (hs : sel = s0 :: rest) {K : Bool → Option (GValue × Int)} {k : Bool → GValue × Int} (hK : ∀ b, K b = some (k b)) :
   z107L1 N (((sel.map (·.1)).length : Nat) : Int) (sel.map (·.1)) (sel.map (·.2)) K N true 0 = some (forA (pickB sel s0.1) k sel 0 true) := by
 have hm : sel.length ≤ maxLen := Nat.le_trans hl (by decide)
 rw [List.length_map]
 refine loop_acc (f := fun n i b => z107L1 N (sel.length : Int) (sel.map (·.1)) (sel.map (·.2)) K n b i) (T := fun self i b => z107L1T N (sel.length : Int) (sel.map (·.1)) (sel.map (·.2)) K (fun b i => self i b) b i)
   (fun _ _ _ => rfl) sel hm (fun _ _ => True) (fun self i h b g _ hg => ?_) (fun self b _ => ?_) hN trivial
 · have h0 : 0 < sel.length := by omega
   have e0 : (sel.map (·.1))[0]? = some s0.1 := by rw [hs]; rfl
   have e1 : geti (sel.map (·.1)) (i : Int) = some sel[i].1 := by rw [geti_nat, List.getElem?_map, List.getElem?_eq_getElem h]; rfl
   have hw : (sel.map (·.2)).length ≤ 50 := by rw [List.length_map]; exact hl
   have hok : ∀ z ∈ sel.map (·.2), CondOk l z := fun z hz' => by
     obtain ⟨y, hy, rfl⟩ := List.mem_map.1 hz'
     exact hz y hy
   have hi' : i < (sel.map (·.2)).length := by rw [List.length_map]; exact h
   have hp0 := hc s0 (by rw [hs]; simp)
   have hpi := hc _ (List.getElem_mem h)
   have h2 := fun k4 => rbest2_eq hN (sel.map (·.2)) hw hok i hi' k4
   have h3 := fun k4 => rbest3_eq hN (sel.map (·.2)) hw hok i hi' k4
   simp only [List.length_map] at h2 h3
   have hg' : ∀ b', self (IntKind.i64.wrap ((i : Int) + 1)) b' = some (g b') := fun b' => by rw [wrap_succ hm h]; exact hg b' trivial
   simp only [z107L1T, geti_zero, e0, e1, bnd_some, List.length_map, GValue.eta, Same_any hN _ _ hpi.cases (Nat.le_trans hpi.list (by decide)) (Nat.le_trans hp0.list (by decide)), h2, h3, hg']
   rw [lt_tt h, br_true, sameP_comm hpi.cases hp0.cases]
   unfold pickB
   cases b
   · rw [br_false, br_ite, Bool.false_and]
   · rw [br_true, br_ite, Bool.true_and]
 · simp only [z107L1T]
   rw [lt_ff, br_false, hK]
theorem dflt_not {l : List (Str × List Str)} {m : List Cond} (hok : ∀ x ∈ m, CondOk l x) : m.find? (fun x => x.1 == dflt) = none := by
 rw [List.find?_eq_none]
 intro x hx he
 have := (hok x hx).name
 have he : x.1 = dflt := by simpa using he
 rw [he] at this
 revert this; decide
theorem odd_iff {l : List (Str × List Str)} {m : List Cond} (hok : ∀ x ∈ m, CondOk l x) {cs : List Case} (hn : namedS m cs = 0) {k : Case} (hk : k ∈ cs) : (m.find? (fun x => x.1 == k.1)).isNone = (k.1 == dflt) := by
 unfold namedS at hn
 split at hn
 · cases hn
 · rename_i h
   have h := fun h' => h (List.any_eq_true.2 ⟨k, hk, h'⟩)
   unfold oddC at h
   cases hd : (k.1 == dflt) with
   | true =>
     have e : k.1 = dflt := by simpa using hd
     rw [e, dflt_not hok]; rfl
   | false =>
     rw [hd] at h
     cases h2 : (m.find? (fun x => x.1 == k.1)).isNone with
     | false => rfl
     | true => rw [h2] at h; exact absurd rfl h
def lastD (cs : List Case) : Option Case := cs.find? fun k => k.1 == dflt
theorem lastD_succ {cs : List Case} (hco : CasesOk cs) {i : Nat} (h : i < cs.length) : lastD (cs.take (i + 1)) = if (cs[i].1 == dflt) = true then some cs[i] else lastD (cs.take i) := by
 unfold lastD
 rw [List.take_succ_eq_append_getElem h, List.find?_append]
 cases hd : (cs[i].1 == dflt) with
 | false => simp [hd]
 | true =>
   have hno : (cs.take i).find? (fun k => k.1 == dflt) = none := by
     rw [List.find?_eq_none]
     intro x hx he
     obtain ⟨j, hj, rfl⟩ := List.mem_iff_getElem.1 hx
     rw [List.length_take] at hj
     rw [List.getElem_take] at he
     have e1 : cs[j].1 = dflt := by simpa using he
     have e2 : cs[i].1 = dflt := by simpa using hd
     exact hco.once i h j (by omega) (e1.trans e2.symm)
   rw [hno]; simp [hd]
set_option maxHeartbeats 1000000 in
theorem rloop0_eq (hN : big ≤ N) {l : List (Str × List Str)} {m : List Cond} (hlf : Fit settingTy l) (hmf : Fit (.sl condTy) m) {c : List (Str × Str)} (hc : c.length ≤ maxLen) (p1 : Str) {p2 : List (Str × Str)} (hp : p2.length ≤ maxLen) (hs : settingsS l = 0) (hml : m.length ≤ 100) (hok : ∀ x ∈ m, CondOk l x)
   (cs : List Case) (hcl : cs.length ≤ 50) (hco : CasesOk cs) (hn : namedS m cs = 0) (K : Bool → List Case → List Cond → Int → Str → Int → List Str → List Case → Option (GValue × Int)) :
   z107L0 N c cs (cs.length : Int) l m p1 p2 K N false 0 [] [] 0 [] 0 [] [] =
     (fun o : GValue => K (lastD cs).isSome ((selS l m c (p1, p2) cs).map (·.1)) ((selS l m c (p1, p2) cs).map (·.2)) o.kind o.text o.number o.list o.cases) (((lastD cs).map (·.2)).getD zeroV) := by
 have hmm : m.length ≤ maxLen := Nat.le_trans hml (by decide)
 have hcm : cs.length ≤ maxLen := Nat.le_trans hcl (by decide)
 let st : Nat → Bool × List Case × List Cond × GValue := fun i => ((lastD (cs.take i)).isSome, (selS l m c (p1, p2) (cs.take i)).map (·.1), (selS l m c (p1, p2) (cs.take i)).map (·.2), ((lastD (cs.take i)).map (·.2)).getD zeroV)
 generalize hr : (fun o : GValue => K (lastD cs).isSome ((selS l m c (p1, p2) cs).map (·.1)) ((selS l m c (p1, p2) cs).map (·.2)) o.kind o.text o.number o.list o.cases) (((lastD cs).map (·.2)).getD zeroV) = r
 have hf : ∀ (n : Nat) (b : Bool) (i : Int) (w1 : List Case) (w2 : List Cond) (b0 : Int) (b1 : Str) (b2 : Int) (b3 : List Str) (b4 : List Case), z107L0 N c cs (cs.length : Int) l m p1 p2 K (n + 1) b i w1 w2 b0 b1 b2 b3 b4 = z107L0T N c cs (cs.length : Int) l m p1 p2 K (z107L0 N c cs (cs.length : Int) l m p1 p2 K n) b i w1 w2 b0 b1 b2 b3 b4 := fun _ _ _ _ _ _ _ _ _ _ => rfl
 have key := loop_st (S := Bool × List Case × List Cond × GValue) (R := GValue × Int) (f := fun n i s => z107L0 N c cs (cs.length : Int) l m p1 p2 K n s.1 i s.2.1 s.2.2.1 s.2.2.2.kind s.2.2.2.text s.2.2.2.number s.2.2.2.list s.2.2.2.cases)
   (T := fun self i s => z107L0T N c cs (cs.length : Int) l m p1 p2 K (fun b i w1 w2 b0 b1 b2 b3 b4 => self i (b, w1, w2, GValue.mk b0 b1 b2 b3 b4)) s.1 i s.2.1 s.2.2.1 s.2.2.2.kind s.2.2.2.text s.2.2.2.number s.2.2.2.list s.2.2.2.cases) (r := r) (m := cs.length) (N := N)
 have hE : ∀ (self : Int → Bool × List Case × List Cond × GValue → Option (GValue × Int)), z107L0T N c cs (cs.length : Int) l m p1 p2 K (fun b i w1 w2 b0 b1 b2 b3 b4 => self i (b, w1, w2, GValue.mk b0 b1 b2 b3 b4)) (st cs.length).1 (cs.length : Int) (st cs.length).2.1 (st cs.length).2.2.1 (st cs.length).2.2.2.kind (st cs.length).2.2.2.text (st cs.length).2.2.2.number (st cs.length).2.2.2.list (st cs.length).2.2.2.cases = r := by
   intro self
   unfold z107L0T
   rw [lt_fn, br_false, ← hr]
   simp only [st, List.take_length]
 have hT : ∀ (self : Int → Bool × List Case × List Cond × GValue → Option (GValue × Int)) (i : Nat), i < cs.length → self ((i + 1 : Nat) : Int) (st (i + 1)) = r → z107L0T N c cs (cs.length : Int) l m p1 p2 K (fun b i w1 w2 b0 b1 b2 b3 b4 => self i (b, w1, w2, GValue.mk b0 b1 b2 b3 b4)) (st i).1 (i : Int) (st i).2.1 (st i).2.2.1 (st i).2.2.2.kind (st i).2.2.2.text (st i).2.2.2.number (st i).2.2.2.list (st i).2.2.2.cases = r := by
   intro self i h ih
   have hsl := sel_len l m c (p1, p2) (cs.take i)
   rw [List.length_take] at hsl
   have hodd := odd_iff hok hn (List.getElem_mem h)
   have est : st (i + 1) = ((if (cs[i].1 == dflt) = true then some cs[i] else lastD (cs.take i)).isSome, (selS l m c (p1, p2) (cs.take i) ++ (match selF l m c (p1, p2) cs[i] with | some y => [y] | none => [])).map (·.1), (selS l m c (p1, p2) (cs.take i) ++ (match selF l m c (p1, p2) cs[i] with | some y => [y] | none => [])).map (·.2), ((if (cs[i].1 == dflt) = true then some cs[i] else lastD (cs.take i)).map (·.2)).getD zeroV) := by
     simp only [st, lastD_succ hco h, sel_take l m c (p1, p2) cs h] <;> rfl
   rw [est] at ih
   simp only [z107L0T, geti_lt cs h, bnd_some, ref_conditionOf_eq hN _ hmm, GValue.eta, times_eq, both_self]
   rw [lt_tt h, br_true, wrap_succ hcm h]
   unfold selF findF at *
   cases hz : m.find? (fun z => z.1 == cs[i].1) with
   | none =>
     rw [hz] at ih hodd
     have hd : (cs[i].1 == dflt) = true := hodd.symm
     rw [hd] at ih
     simp only [Bool.not_false, br_true]
     simpa [st] using ih
   | some z =>
     rw [hz] at ih hodd
     have hd : (cs[i].1 == dflt) = false := hodd.symm
     rw [hd] at ih
     have hzm := List.mem_of_find?_eq_some hz
     simp only [Bool.not_true, br_false, ref_holds_eq hN l hlf z (hmf.2 z hzm) c hc (p1, p2) hp hs (hok z hzm).found, bnd_some]
     dsimp only at ih
     cases hh : holdsS l z c (p1, p2) with
     | false =>
       rw [hh] at ih
       simp only [br_false]
       simpa [st] using ih
     | true =>
       rw [hh] at ih
       have e1 : decide (((st i).2.1.length + [(cs[i].1, cs[i].2)].length) * (24 * Ty.sz (.pr .str (.rc .value))) ≤ 140737488355328) = true := decide_eq_true (by
         simp only [st, List.length_map]; show (_ + 1) * (24 * 6) ≤ _; omega)
       have e2 : decide (((st i).2.2.1.length + [z].length) * (24 * Ty.sz (.pr .str (.pr (.sl (.pr .str .str)) (.sl (.pr .str .str))))) ≤ 140737488355328) = true := decide_eq_true (by
         simp only [st, List.length_map]; show (_ + 1) * (24 * 3) ≤ _; omega)
       rw [br_true, e1, br_true, e2, br_true]
       simpa [st] using ih
 exact key (fun n i s => hf n s.1 i s.2.1 s.2.2.1 s.2.2.2.kind s.2.2.2.text s.2.2.2.number s.2.2.2.list s.2.2.2.cases) hcm st hT hE hN
theorem ref_chosen_eq (hN : big ≤ N) (x : worldTy.den) (hx : Fit worldTy x) (c : List (Str × Str)) (hc : c.length ≤ maxLen) (p : Str × List (Str × Str)) (hp : Fit (.pr .str (.sl (.pr .str .str))) p) (v : GValue) (hv : Fit (.rc .value) v)
   (hm : conditionsS x.1 x.2.1 = 0) (hval : valueE v = 0) : ref3_chosen N x v c p = some (chosenS x.1 x.2.1 c p v) := by
 obtain ⟨hs, hml, hok⟩ := cond_ok hm
 have hmm : x.2.1.length ≤ maxLen := Nat.le_trans hml (by decide)
 have hcm : v.cases.length ≤ maxLen := (valFit hv).2.2.2.2.1
 unfold ref3_chosen chosenS
 simp only [GValue.eta]
 rw [checkWhen_eq hN x hmm v hcm, bnd_some]
 rcases value_ok hval with ⟨h4, hpl⟩ | ⟨h4, hco, hcl⟩
 · have hn : namedS x.2.1 v.cases = 0 := by rw [hpl.cases]; rfl
   rw [hn, show (v.kind != (4 : Int)) = true by simp [h4], if_pos h4]; simp
 · rw [if_neg (by simpa using h4), show (v.kind != (4 : Int)) = false by simp [h4], br_false]
   by_cases hn : namedS x.2.1 v.cases = 0
   · rw [if_neg (by simpa using hn), show (namedS x.2.1 v.cases != (0 : Int)) = false by simp [hn], br_false]
     generalize hcs : v.cases = cs at hco hcl hcm hn
     rw [rloop0_eq hN hx.1 hx.2.1 hc p.1 hp.2.1 hs hml hok cs hcl hco hn]
     have hsl := sel_len x.1 x.2.1 c p cs
     have hselc : ∀ y ∈ selS x.1 x.2.1 c p cs, PlainV y.1.2 := fun y hy => hco.plain _ (sel_mem hy).1
     have hselz : ∀ y ∈ selS x.1 x.2.1 c p cs, CondOk x.1 y.2 := fun y hy => hok _ (sel_mem hy).2
     unfold pickS
     cases hsel : selS x.1 x.2.1 c p cs with
     | nil =>
       simp only [hsel, List.map_nil, List.length_nil, GValue.eta]
       rw [show (((0 : Nat) : Int) == (0 : Int)) = true from rfl, br_true]
       unfold lastD
       cases cs.find? fun k => k.1 == dflt with
       | none => simp [zeroV]
       | some k => simp
     | cons s0 rest =>
       rw [hsel] at hsl hselc hselz
       have hp0 := hselc s0 (by simp)
       simp only [hsel, GValue.eta]
       rw [show ((((s0 :: rest).map (·.1)).length : Int) == (0 : Int)) = false from beq_false_of_ne (by simp; omega), br_false]
       refine rpick_eq hN (s0 :: rest) (by omega) hselc hselz s0 rest rfl fun b => ?_
       cases b
       · simp [zeroV]
       · rw [br_true, geti_zero, List.map_cons, List.getElem?_cons_zero, bnd_some]
         simp only [if_true]
   · rw [if_pos hn, show (namedS x.2.1 v.cases != (0 : Int)) = true by simp [hn], br_true]; rfl
theorem ask_eq (hN : big ≤ N) (x : worldTy.den) (hx : Fit worldTy x) (c : List (Str × Str)) (hc : c.length ≤ maxLen) (p : Str × List (Str × Str)) (hp : Fit (.pr .str (.sl (.pr .str .str))) p) : ref3_ask N x c p = some (choiceS x c p) := by
 unfold ref3_ask choiceS
 rw [ref_CheckConditions_eq hN _ hx.1 _ hx.2.1, bnd_some, ref_checkConfig_eq hN _ hx.1 _ hc, bnd_some, ref_CheckPlatforms_eq hN _ (fit_one hp), bnd_some, br_ne, br_ne]
 split
 · rfl
 · split <;> rfl
end Go.Proofs.YtbekhaioddmliaaGreatDoor


/- A package of one target is the same as itself. No program in sight. -/
namespace Go.Proofs.YtbekhaioddmliaaGreatDoor
set_option linter.unusedVariables false
set_option linter.unusedSimpArgs false
open Go Go.RowKit
variable {N : Nat}
theorem ConcatA_two (hN : big ≤ N) (a b : List Attr) (ha : a.length ≤ 100000) (hb : b.length ≤ 100000) : slices_Concat_api_Attr N [a, b] = some (a ++ b) := by
 obtain ⟨d, rfl⟩ : ∃ d, N = d + 3 := ⟨N - 3, by unfold big at hN; omega⟩
 have e0 : IntKind.i64.wrap ((0 : Int) + (a.length : Int)) = (a.length : Int) := by rw [Int.zero_add]; exact wrap_id (by omega) (by omega)
 have e1 : IntKind.i64.wrap ((a.length : Int) + (b.length : Int)) = ((a.length + b.length : Nat) : Int) := by rw [Int.natCast_add]; exact wrap_id (by omega) (by omega)
 have g0 : geti [a, b] (0 : Int) = some a := rfl
 have g1 : geti [a, b] (1 : Int) = some b := rfl
 have w1 : IntKind.i64.wrap ((0 : Int) + 1) = 1 := by decide
 have w2 : IntKind.i64.wrap ((1 : Int) + 1) = 2 := by decide
 have t0 : decide ((0 : Int) < 2) = true := rfl
 have t1 : decide ((1 : Int) < 2) = true := rfl
 have t2 : decide ((2 : Int) < 2) = false := rfl
 have n0 : decide ((a.length : Int) < 0) = false := decide_eq_false (by omega)
 have n1 : decide (((a.length + b.length : Nat) : Int) < 0) = false := decide_eq_false (by omega)
 have p0 : decide ((([] : List Attr).length + a.length) * (24 * Ty.sz (.pr .str (.rc .value))) ≤ 140737488355328) = true := decide_eq_true (by show (0 + a.length) * (24 * 6) ≤ _; omega)
 have p1 : decide ((a.length + b.length) * (24 * Ty.sz (.pr .str (.rc .value))) ≤ 140737488355328) = true := decide_eq_true (by show (a.length + b.length) * (24 * 6) ≤ _; omega)
 have h0 : ∀ k, z26L0 (d + 3) [a, b] 2 k (d + 3) 0 0 = k ((a.length + b.length : Nat) : Int) := by
   intro k
   simp only [z26L0, z26L0T, t0, t1, t2, g0, g1, w1, w2, e0, e1, n0, n1, bnd_some, br_true, br_false]
 have h1 : ∀ k, z26L1 (d + 3) [a, b] 2 k (d + 3) 0 [] = k (a ++ b) := by
   intro k
   simp only [z26L1, z26L1T, t0, t1, t2, g0, g1, w1, w2, p0, p1, bnd_some, br_true, br_false, List.nil_append]
 have hg : slices_Grow_api_Attr ((a.length + b.length : Nat) : Int) = some [] := by
   unfold slices_Grow_api_Attr growF
   exact if_pos ⟨by omega, by show ((a.length + b.length : Nat) : Int) * ((24 * 6 : Nat) : Int) ≤ _; omega⟩
 show z26L0 (d + 3) [a, b] 2 _ (d + 3) 0 0 = _
 rw [h0, hg, bnd_some]
 show z26L1 (d + 3) [a, b] 2 _ (d + 3) 0 [] = _
 rw [h1]
theorem attr_eq (hN : big ≤ N) (t : Target) (ht : t.2.2.length ≤ maxLen) (n : Str) : ref2_attr N t n = some (findF (fun a => a.1 == n) (fun a => (a.2, true)) (zeroV, false) t.2.2) := by
 unfold ref2_attr
 rw [← forT_find (fun a : Attr => a.1 == n) (fun a => (a.2, true)) (zeroV, false) t.2.2 0]
 refine loop_for (fun _ _ => rfl) _ ht (fun self i h r hr => ?_) (fun self => ?_) hN
 · simp only [z115L0T, geti_lt _ h, wrap_succ ht h, hr, bnd_some, GValue.eta]
   rw [lt_tt h, br_true, br_ite]
 · simp only [z115L0T, lt_ff, br_false]; rfl
theorem attr_flat {t : Target} (hv : ∀ b ∈ t.2.2, b.2.cases = [] ∧ b.2.list.length ≤ maxLen) (n : Str) : (findF (fun a : Attr => a.1 == n) (fun a => (a.2, true)) (zeroV, false) t.2.2).1.cases = [] ∧ (findF (fun a : Attr => a.1 == n) (fun a => (a.2, true)) (zeroV, false) t.2.2).1.list.length ≤ maxLen := by
 unfold findF
 cases hf : t.2.2.find? (fun a => a.1 == n) with
 | none => exact ⟨rfl, Nat.zero_le _⟩
 | some a => exact hv a (List.mem_of_find?_eq_some hf)
theorem otherAttrs_self (hN : big ≤ N) (t : Target) (hl : t.2.2.length ≤ 30) (hv : ∀ b ∈ t.2.2, b.2.cases = [] ∧ b.2.list.length ≤ maxLen) : ref2_otherAttrs N t t = some [] := by
 unfold ref2_otherAttrs
 rw [ConcatA_two hN _ _ (by omega) (by omega), bnd_some]
 have h0 : ∀ k, z66L0 N ((t.2.2 ++ t.2.2).length : Int) (t.2.2 ++ t.2.2) k N 0 [] = k ((t.2.2 ++ t.2.2).map (·.1)) := by
   intro k
   have hL : (t.2.2 ++ t.2.2).length ≤ 60 := by rw [List.length_append]; omega
   generalize t.2.2 ++ t.2.2 = L at hL ⊢
   have hm : L.length ≤ maxLen := Nat.le_trans hL (by decide)
   have := loop_st (f := fun n i w => z66L0 N (L.length : Int) L k n i w) (T := fun self i w => z66L0T N (L.length : Int) L k self i w) (fun _ _ _ => rfl) hm (fun i => (L.take i).map (·.1)) (r := k (L.map (·.1))) (fun self i hi hr => ?_) (fun self => ?_) hN
   · simpa using this
   · rw [map_take_snoc _ _ hi] at hr
     have hw : ((L.take i).map (·.1)).length ≤ 60 := by rw [List.length_map, List.length_take]; omega
     generalize (L.take i).map (·.1) = w at hr hw ⊢
     simp only [z66L0T, geti_lt _ hi, wrap_succ hm hi, bnd_some]
     have hsz : (w.length + [L[i].1].length) * (24 * Ty.sz .str) ≤ 140737488355328 := by
       rw [List.length_singleton]; show _ * 24 ≤ _; omega
     rw [lt_tt hi, br_true, br_pos hsz]
     exact hr
   · simp only [z66L0T, lt_ff, br_false, List.take_length]
 rw [h0]
 have hlen : ((t.2.2 ++ t.2.2).map (·.1)).length ≤ 60 := by rw [List.length_map, List.length_append]; omega
 generalize (t.2.2 ++ t.2.2).map (·.1) = ns at hlen ⊢
 unfold slices_Sort_string_string slices_Compact_string_string
 rw [if_pos (by omega), bnd_some, beq_self_eq_true, Bool.not_true, br_false, bnd_some]
 have hcl : (Lib.compact (ns.mergeSort leStr)).length ≤ maxLen := by
   have := Lib.compact_length_le (ns.mergeSort leStr)
   rw [List.length_mergeSort] at this
   unfold maxLen; omega
 generalize Lib.compact (ns.mergeSort leStr) = cs at hcl ⊢
 have htm : t.2.2.length ≤ maxLen := by unfold maxLen; omega
 refine loop_st (f := fun n i w => z66L1 N (cs.length : Int) t.1 t.2.1 t.2.2 t.1 t.2.1 t.2.2 cs (fun w => some w) n i w) (T := fun self i w => z66L1T N (cs.length : Int) t.1 t.2.1 t.2.2 t.1 t.2.1 t.2.2 cs (fun w => some w) self i w) (fun _ _ _ => rfl) hcl (fun _ => []) (fun self i hi hr => ?_) (fun self => ?_) hN
 · have hf := attr_flat hv cs[i]
   have ha : ref2_attr N (t.1, (t.2.1, t.2.2)) cs[i] = _ := attr_eq hN t htm cs[i]
   simp only [z66L1T, geti_lt _ hi, wrap_succ hcl hi, bnd_some, GValue.eta, ha, bne_self_eq_false, br_false, Same_any hN _ _ hf.1 hf.2 hf.2, sameP_self hf.1, Bool.not_true]
   rw [lt_tt hi, br_true, br_pos ⟨by omega, by omega⟩]
   exact hr
 · simp only [z66L1T, lt_ff, br_false]
theorem SamePackage_self (hN : big ≤ N) (t : Target) (hl : t.2.2.length ≤ 30) (hv : ∀ b ∈ t.2.2, b.2.cases = [] ∧ b.2.list.length ≤ maxLen) : ref2_SamePackage N (([] : Str), [t]) (([] : Str), [t]) = some true := by
 unfold ref2_SamePackage
 obtain ⟨d, rfl⟩ : ∃ d, N = d + 2 := ⟨N - 2, by unfold big at hN; omega⟩
 have g0 : geti [t] (0 : Int) = some t := rfl
 have w1 : IntKind.i64.wrap ((0 : Int) + 1) = 1 := by decide
 have t0 : decide ((0 : Int) < 1) = true := rfl
 have t1 : decide ((1 : Int) < 1) = false := rfl
 have z : decide ((([] : List Str).length : Int) > 0) = false := rfl
 show br (!(([] : Str) == [])) _ (br ((1 : Int) != 1) _ (z54L0 (d + 2) [t] (1 : Int) [t] (some true) (d + 2) 0)) = some true
 rw [show (!(([] : Str) == [])) = false from rfl, br_false, show ((1 : Int) != 1) = false from rfl, br_false]
 simp only [z54L0, z54L0T, t0, t1, g0, w1, z, bnd_some, br_true, br_false, beq_self_eq_true, Bool.not_true, bne_self_eq_false, otherAttrs_self hN t hl hv]
end Go.Proofs.YtbekhaioddmliaaGreatDoor


/- The arguments of a law, with how much they hold together ('bulk'). -/
namespace Go.Proofs.YtbekhaioddmliaaGreatDoor
set_option linter.unusedVariables false
set_option linter.unusedSimpArgs false
open Go Go.RowKit Go.ChangeShapes Go.WideShapes
def bulkG (rb : (i : RC) → i.den → Nat) : (t : Ty) → t.den → Nat
 | .u8, _ => 1
 | .int _, _ => 1
 | .bool, _ => 1
 | .str, x => x.length + 1
 | .sl t, xs => (xs.map (bulkG rb t)).sum + 1
 | .pr a b, x => bulkG rb a x.1 + bulkG rb b x.2
 | .un, _ => 0
 | .mp _, _ => 0
 | .ptr _, _ => 0
 | .np _, _ => 0
 | .clo _ _, _ => 0
 | .rc i, x => rb i x
def RbOk (rb : (i : RC) → i.den → Nat) : Prop := ∀ i x, rb i (i.mk x) ≤ bulkG rb i.body x + 1
def GValue.bulk : GValue → Nat
 | .mk _ t _ l cs => 1 + (t.length + 1 + (1 + ((l.map (·.length + 1)).sum + 1 + ((cs.attach.map (fun c => c.1.1.length + 1 + GValue.bulk c.1.2)).sum + 1)))) + 1
termination_by v => SizeOf.sizeOf v
decreasing_by
 have := List.sizeOf_lt_of_mem c.2
 have h2 : SizeOf.sizeOf c.1 = 1 + SizeOf.sizeOf c.1.1 + SizeOf.sizeOf c.1.2 := by cases c.1; rfl
 simp_wf
 omega
def GExpr.bulk : GExpr → Nat
 | .mk _ t _ l cs => 1 + (t.length + 1 + (1 + ((l.map (·.length + 1)).sum + 1 + ((cs.attach.map (fun c => GExpr.bulk c.1)).sum + 1)))) + 1
termination_by v => SizeOf.sizeOf v
decreasing_by
 have := List.sizeOf_lt_of_mem c.2
 simp_wf
 omega
def GStmt.bulk : GStmt → Nat
 | .mk _ n t l a e b f _ => 1 + (n.length + 1 + (t.length + 1 + ((l.map (·.length + 1)).sum + 1 + ((a.map (fun c => c.1.length + 1 + c.2.bulk)).sum + 1 + (e.bulk + ((b.attach.map (fun c => GStmt.bulk c.1)).sum + 1 + ((f.attach.map (fun c => GStmt.bulk c.1)).sum + 1 + 1))))))) + 1
termination_by v => SizeOf.sizeOf v
decreasing_by
 all_goals
   have := List.sizeOf_lt_of_mem c.2
   simp_wf
   omega
def rbC : (i : RC) → i.den → Nat
 | .value, x => GValue.bulk x
 | .expr, x => GExpr.bulk x
 | .stmt, x => GStmt.bulk x
theorem attach_map {α β : Type} (f : α → β) (l : List α) : l.attach.map (fun c => f c.1) = l.map f := by
 rw [show (fun c : {x // x ∈ l} => f c.1) = f ∘ Subtype.val from rfl, ← List.map_map, List.attach_map_subtype_val]
theorem rbC_ok : RbOk rbC := by
 intro i x
 cases i with
 | value =>
   obtain ⟨k, t, n, l, cs⟩ := x
   have e : GValue.bulk (.mk k t n l cs) = bulkG rbC RC.value.body ((k, t, n, l, cs) : RC.value.body.den) + 1 := by
     rw [GValue.bulk, attach_map (fun c : Str × GValue => c.1.length + 1 + GValue.bulk c.2) cs]; rfl
   exact Nat.le_of_eq e
 | expr =>
   obtain ⟨k, t, n, l, cs⟩ := x
   have e : GExpr.bulk (.mk k t n l cs) = bulkG rbC RC.expr.body ((k, t, n, l, cs) : RC.expr.body.den) + 1 := by
     rw [GExpr.bulk, attach_map (fun c : GExpr => GExpr.bulk c) cs]; rfl
   exact Nat.le_of_eq e
 | stmt =>
   obtain ⟨k, n, t, l, a, e, b, f, p⟩ := x
   have e : GStmt.bulk (.mk k n t l a e b f p) = bulkG rbC RC.stmt.body ((k, n, t, l, a, e, b, f, p) : RC.stmt.body.den) + 1 := by
     rw [GStmt.bulk, attach_map (fun c : GStmt => GStmt.bulk c) b, attach_map (fun c : GStmt => GStmt.bulk c) f]; rfl
   exact Nat.le_of_eq e
section
variable {H : Type} {enc : TypeId × Value → H} {P : Program} {w : World} {spare : Nat → Bool} {held : Bool} {R : RC → Option TypeId} {rb : (i : RC) → i.den → Nat}
theorem uptoAll_cons (d : DataW H) (r : List (DataW H)) : Rows.uptoBulkAll (d :: r) = Rows.uptoBulk d + Rows.uptoBulkAll r := by simp [Rows.uptoBulkAll]
theorem uptoAll_nil : Rows.uptoBulkAll ([] : List (DataW H)) = 0 := by simp [Rows.uptoBulkAll]
theorem sum_le {α : Type} (f : α → Nat) : ∀ (l : List α) (e : List (DataW H × List MemPlace)), l.length = e.length → (∀ i (h : i < l.length) (h' : i < e.length), f l[i] ≤ Rows.uptoBulk e[i].1) → (l.map f).sum ≤ Rows.uptoBulkAll (e.map (·.1))
 | [], e, _, _ => by simp
 | x :: l, [], h, _ => by simp at h
 | x :: l, y :: e, h, hf => by
   have h0 := hf 0 (by simp) (by simp)
   have ih := sum_le f l e (by simpa using h) (fun i h1 h2 => by have := hf (i + 1) (by simpa using h1) (by simpa using h2); simpa using this)
   simp only [List.map_cons, List.sum_cons, uptoAll_cons]
   simp only [List.getElem_cons_zero] at h0
   omega
theorem fields_bulk {fuel : Nat} {cs : List Value}
   (ih : ∀ (t : Ty) (T : TypeId) (cs : List Value) (x : DataW H × List MemPlace), Deep P R t T → DataW.trod enc P w 0 spare held fuel T cs = some x → ∃ d : t.den, RepC M00 w t d cs ∧ Fit t d ∧ bulkG rb t d ≤ Rows.uptoBulk x.1) :
   ∀ (fs : List Field) (t : Ty) (o : Nat) (xs : List (DataW H × List MemPlace)), DeepF P R t fs o →
     (fs.mapM fun f => DataW.trod enc P w 0 spare held fuel f.type ((cs.drop f.offset).take (P.cellsOf f.type))) = some xs → ∃ d : t.den, RepC M00 w t d ((cs.drop o).take t.sz) ∧ Fit t d ∧ bulkG rb t d ≤ Rows.uptoBulkAll (xs.map (·.1)) := by
 intro fs
 induction fs with
 | nil =>
   intro t o xs hd _
   cases hd
   exact ⟨(), List.take_zero, trivial, Nat.zero_le _⟩
 | cons f fs hfs =>
   intro t o xs hd hm
   obtain ⟨y, ys, hy, hys, rfl⟩ : ∃ y ys, DataW.trod enc P w 0 spare held fuel f.type ((cs.drop f.offset).take (P.cellsOf f.type)) = some y ∧ (fs.mapM fun f => DataW.trod enc P w 0 spare held fuel f.type ((cs.drop f.offset).take (P.cellsOf f.type))) = some ys ∧ xs = y :: ys := by
     rw [List.mapM_cons] at hm
     cases hy : DataW.trod enc P w 0 spare held fuel f.type ((cs.drop f.offset).take (P.cellsOf f.type)) with
     | none => rw [hy] at hm; cases hm
     | some y =>
       rw [hy] at hm
       cases hys : (fs.mapM fun f => DataW.trod enc P w 0 spare held fuel f.type ((cs.drop f.offset).take (P.cellsOf f.type))) with
       | none => rw [hys] at hm; cases hm
       | some ys => rw [hys] at hm; exact ⟨y, ys, rfl, rfl, (Option.some.inj hm).symm⟩
   rw [List.map_cons, uptoAll_cons]
   cases hd with
   | one ho hc h1 =>
     rw [ho, hc] at hy
     obtain ⟨d, h1, h2, h3⟩ := ih _ _ _ _ h1 hy
     exact ⟨d, h1, h2, by omega⟩
   | single ho hc h1 =>
     rw [ho, hc] at hy
     obtain ⟨d, hd1, hd2, hd3⟩ := ih _ _ _ _ h1 hy
     refine ⟨(d, ()), ⟨_, [], (List.append_nil _).symm, hd1, rfl⟩, ⟨hd2, trivial⟩, ?_⟩
     show bulkG rb _ d + 0 ≤ _
     omega
   | @cons a b _ _ _ ho hc h1 h2 =>
     rw [ho, hc] at hy
     obtain ⟨d, hd1, hd2, hd3⟩ := ih _ _ _ _ h1 hy
     obtain ⟨e, he1, he2, he3⟩ := hfs _ _ _ h2 hys
     refine ⟨(d, e), ⟨_, _, ?_, hd1, he1⟩, ⟨hd2, he2⟩, ?_⟩
     · show (cs.drop o).take (a.sz + b.sz) = _
       rw [List.take_add, List.drop_drop]
     · show bulkG rb a d + bulkG rb b e ≤ _
       omega
theorem trod_bulk (hR : RcOk P R) (hrb : RbOk rb) : ∀ (fuel : Nat) (t : Ty) (T : TypeId) (cs : List Value) (x : DataW H × List MemPlace), Deep P R t T → DataW.trod enc P w 0 spare held fuel T cs = some x →
   ∃ d : t.den, RepC M00 w t d cs ∧ Fit t d ∧ bulkG rb t d ≤ Rows.uptoBulk x.1 := by
 intro fuel
 induction fuel with
 | zero => intro t T cs x _ h; cases h
 | succ fuel ih =>
   intro t T cs x hd h
   have hstruct : ∀ (t : Ty) (fs : Array Field), P.underlying T = some (.struct fs) → P.cellsOf T = t.sz → DeepF P R t fs.toList 0 → ∃ d : t.den, RepC M00 w t d cs ∧ Fit t d ∧ bulkG rb t d + 1 ≤ Rows.uptoBulk x.1 := fun t fs hu hc hf => by
     unfold DataW.trod at h
     simp only [hu] at h
     split at h
     · rename_i hl
       cases hm : (fs.toList.mapM fun f => DataW.trod enc P w 0 spare held fuel f.type ((cs.drop f.offset).take (P.cellsOf f.type))) with
       | none => rw [hm] at h; cases h
       | some xs =>
         rw [hm] at h
         obtain ⟨d, h1, h2, h3⟩ := fields_bulk ih fs.toList t 0 xs hf hm
         rw [List.drop_zero, List.take_of_length_le (by omega)] at h1
         refine ⟨d, h1, h2, ?_⟩
         injection h with h
         subst h
         simp only [Rows.uptoBulk]
         omega
     · cases h
   cases hd with
   | u8 hu =>
     have hx : ∃ n, cs = [.int .u8 n] ∧ (Lit.int .u8 n).wf = true ∧ x.1 = .lit (.int .u8 n) := by
       unfold DataW.trod at h
       split at h
       all_goals try (simp_all; done)
       rename_i k' n hu2
       rw [hu] at hu2
       cases hu2
       split at h
       · rename_i hc
         obtain ⟨rfl, hc⟩ := hc
         exact ⟨n, rfl, hc, by injection h with h; rw [← h]⟩
       · cases h
     obtain ⟨n, rfl, hn, hx⟩ := hx
     refine ⟨UInt8.ofNat n.toNat, ?_, trivial, by rw [hx]; simp [Rows.uptoBulk, bulkG]⟩
     show [Value.int .u8 n] = [Value.int .u8 (UInt8.ofNat n.toNat).toNat]
     simp [Lit.wf, IntKind.min, IntKind.max, IntKind.signed, IntKind.bits] at hn
     have : ((UInt8.ofNat n.toNat).toNat : Int) = n := by simp; omega
     rw [this]
   | @int _ k hu =>
     have hx : ∃ n, cs = [.int k n] ∧ (Lit.int k n).wf = true ∧ x.1 = .lit (.int k n) := by
       unfold DataW.trod at h
       split at h
       all_goals try (simp_all; done)
       rename_i k1 k' n hu2
       rw [hu] at hu2
       cases hu2
       split at h
       · rename_i hc
         obtain ⟨rfl, hc⟩ := hc
         exact ⟨n, rfl, hc, by injection h with h; rw [← h]⟩
       · cases h
     obtain ⟨n, rfl, hn, hx⟩ := hx
     exact ⟨n, rfl, hn, by rw [hx]; simp [Rows.uptoBulk, bulkG]⟩
   | bool hu =>
     have hx : ∃ b, cs = [.bool b] ∧ x.1 = .lit (.bool b) := by
       unfold DataW.trod at h
       split at h
       all_goals try (simp_all; done)
       injection h with h
       exact ⟨_, rfl, by rw [← h]⟩
     obtain ⟨b, rfl, hx⟩ := hx
     exact ⟨b, rfl, trivial, by rw [hx]; simp [Rows.uptoBulk, bulkG]⟩
   | str hu =>
     have hx : ∃ s : ByteArray, cs = [.string s] ∧ s.size ≤ maxLen ∧ x.1 = .lit (.string s.data.toList) := by
       unfold DataW.trod at h
       split at h
       all_goals try (simp_all; done)
       split at h
       · rename_i hc
         injection h with h
         exact ⟨_, rfl, hc, by rw [← h]⟩
       · cases h
     obtain ⟨s, rfl, hn, hx⟩ := hx
     refine ⟨s.data.toList, ?_, ?_, by rw [hx]; simp [Rows.uptoBulk, bulkG]⟩
     · show [Value.string s] = [Value.string ⟨s.data.toList.toArray⟩]
       simp
     · show s.data.toList.length ≤ maxLen
       simpa using hn
   | @sl _ e t hu hc he =>
     have hx : (cs = [.slice none 0 0] ∧ x.1 = .nil) ∨ ∃ a len cap elems rest, cs = [.slice (some a) len cap] ∧ len ≤ cap ∧ cap ≤ maxLen ∧
         ((List.range len).mapM fun i => (w.cells? 0 (a.add (i * P.cellsOf e)) (P.cellsOf e)).bind (DataW.trod enc P w 0 spare held fuel e)) = some elems ∧ x.1 = .slice (elems.map (·.1)) rest := by
       unfold DataW.trod at h
       split at h
       all_goals try (simp_all; done)
       · injection h with h
         exact .inl ⟨rfl, by rw [← h]⟩
       · rename_i hu2
         rw [hu] at hu2
         cases hu2
         simp only at h
         split at h
         · rename_i hb
           right
           cases hm : ((List.range _).mapM fun i => (w.cells? 0 (Addr.add _ (i * P.cellsOf e)) (P.cellsOf e)).bind (DataW.trod enc P w 0 spare held fuel e)) with
           | none => rw [hm] at h; cases h
           | some ys =>
             rw [hm] at h
             simp only [Option.bind_some, Option.map_eq_some_iff] at h
             obtain ⟨rest, _, h⟩ := h
             exact ⟨_, _, _, ys, rest.map (·.1), rfl, hb.2.1, hb.2.2, hm, by rw [← h]⟩
         · cases h
     rcases hx with ⟨rfl, hx⟩ | ⟨a, len, cap, elems, rest, rfl, h1, h2, hm, hx⟩
     · refine ⟨[], ⟨none, 0, rfl, Nat.le_refl _, Nat.zero_le _, fun i h => absurd h (Nat.not_lt_zero _)⟩, ⟨Nat.zero_le _, fun x h => (by cases h)⟩, ?_⟩
       rw [hx]; simp [Rows.uptoBulk, bulkG]
     · have hl := mapM_some_length hm
       rw [List.length_range] at hl
       have hall : ∀ i, i < len → ∃ d : t.den, (∃ es, RepC M00 w t d es ∧ Pl M00 w (a.add (i * t.sz)) es) ∧ Fit t d ∧ ∀ h : i < elems.length, bulkG rb t d ≤ Rows.uptoBulk elems[i].1 := fun i hi => by
         have hi' : i < elems.length := by omega
         have hy := mapM_some_get hm i i (by rw [List.getElem?_range hi])
         rw [List.getElem?_eq_getElem hi'] at hy
         simp only [hc] at hy
         cases hcs : w.cells? 0 (a.add (i * t.sz)) t.sz with
         | none => rw [hcs] at hy; cases hy
         | some es =>
           rw [hcs] at hy
           obtain ⟨d, hd1, hd2, hd3⟩ := ih _ _ _ _ he hy
           exact ⟨d, ⟨es, hd1, pl_of_cells hcs⟩, hd2, fun _ => hd3⟩
       obtain ⟨l, hll, hp⟩ := choose_list len hall
       refine ⟨l, ⟨some a, cap, ?_, by omega, h2, fun i hi => ?_⟩, ⟨?_, fun x hx => ?_⟩, ?_⟩
       · rw [hll]
       · obtain ⟨⟨es, e1, e2⟩, _⟩ := hp i hi
         exact ⟨a, es, rfl, e1, e2⟩
       · show l.length ≤ maxLen; omega
       · obtain ⟨i, hi, rfl⟩ := List.getElem_of_mem hx
         exact (hp i hi).2.1
       · rw [hx]
         simp only [Rows.uptoBulk, bulkG]
         have := sum_le (bulkG rb t) l elems (by omega) (fun i h1 h2 => (hp i h1).2.2 h2)
         omega
   | st hu hc ha hf =>
     obtain ⟨d, h1, h2, h3⟩ := hstruct t _ hu hc hf
     exact ⟨d, h1, h2, by omega⟩
   | rc hr =>
     obtain ⟨fs, hu, hc, hf⟩ := hR _ _ hr
     rename_i i
     obtain ⟨d, h1, h2, h3⟩ := hstruct i.body fs hu (by rw [hc, RC.sz_body]) hf
     refine ⟨i.mk d, RepC.rc.2 (by rw [RC.un_mk]; exact h1), FitR.intro (by rw [RC.un_mk]; exact h2), ?_⟩
     have := hrb i d
     show rb i (i.mk d) ≤ _
     omega
theorem arg_openU (hR : RcOk P R) (hrb : RbOk rb) {r : Reach} {base : Nat} {t : Ty} {T : TypeId} {v : Value} {d : DataW H} {p : List MemPlace} (hd : Deep P R t T) (hv : Value.okWide P w r base T v) (h : DataW.Trod enc P w 0 spare held T v d p) :
   ∃ x : t.den, RepV M00 w t x v ∧ Fit t x ∧ bulkG rb t x ≤ Rows.uptoBulk d := by
 obtain ⟨fuel, hf⟩ := h
 obtain ⟨x, h1, h2, h3⟩ := trod_bulk hR hrb fuel t T _ _ hd hf
 refine ⟨x, ⟨_, h1, ?_⟩, h2, h3⟩
 have hagg : ∀ fs, P.underlying T = some (.struct fs) → t.isAgg = true → v = mkV t v.cells.toList := fun fs hu ha => by
   obtain ⟨cs, rfl, _⟩ := okWide_struct hu hv
   rw [mkV_agg ha]
   simp [Value.cells]
 have hone : ∀ c : Value, v = c → c.cells = #[c] → t.isAgg = false → v = mkV t v.cells.toList := fun c e hc ha => by
   subst e
   rw [hc, mkV_plain ha]
 cases hd with
 | u8 hu => obtain ⟨n, rfl⟩ := okWide_int hu hv; exact hone _ rfl rfl rfl
 | int hu => obtain ⟨n, rfl⟩ := okWide_int hu hv; exact hone _ rfl rfl rfl
 | bool hu => obtain ⟨n, rfl⟩ := okWide_bool hu hv; exact hone _ rfl rfl rfl
 | str hu => obtain ⟨n, rfl⟩ := okWide_string hu hv; exact hone _ rfl rfl rfl
 | sl hu _ _ => obtain ⟨a, l, c, rfl⟩ := okWide_slice hu hv; exact hone _ rfl rfl rfl
 | st hu _ ha _ => exact hagg _ hu ha
 | rc hr => obtain ⟨fs, hu, _⟩ := hR _ _ hr; exact hagg _ hu rfl
end
end Go.Proofs.YtbekhaioddmliaaGreatDoor


/- The law Plain and Depends. No program in sight. -/
namespace Go.Proofs.YtbekhaioddmliaaGreatDoor
set_option linter.unusedVariables false
set_option linter.unusedSimpArgs false
open Go Go.RowKit
variable {N : Nat}
theorem dlt (a b : UInt8) : decide (a < b) = !decide (a ≥ b) := not_dec (by rw [ge_iff_le, UInt8.not_le])
theorem dgt (a b : UInt8) : decide (a > b) = !decide (a ≤ b) := not_dec (by rw [gt_iff_lt, UInt8.not_le])
theorem dneg (n : Int) : decide (n < 0) = !decide (n ≥ 0) := not_dec (by omega)
theorem isNameByte_eq (c : UInt8) : ref2_isNameByte N c = some (nmB c) := by
 unfold ref2_isNameByte nmB smallB digitB
 simp only [br_ite]
 generalize decide (c ≥ 97) = a1
 generalize decide (c ≤ 122) = a2
 generalize decide (c ≥ 48) = a3
 generalize decide (c ≤ 57) = a4
 generalize (c == 95) = a5
 cases a1 <;> cases a2 <;> cases a3 <;> cases a4 <;> cases a5 <;> rfl
theorem ref_IsName_eq (hN : big ≤ N) (s : Str) (hs : s.length ≤ maxLen) : ref2_IsName N s = some (nameS s) := by
 unfold ref2_IsName ref2_within
 cases s with
 | nil => simp [nameS]
 | cons b x =>
   have h1 : (1 : Int) ≤ ((b :: x).length : Int) := by simp; omega
   rw [br_pos h1, bnd_some]
   have hL : z101L0 N (b :: x) ((b :: x).length : Int) (bnd (strings_Split ([109, 97, 99, 114, 111, 32, 102, 111, 114, 32, 105, 110, 32, 105, 102, 32, 101, 108, 115, 101, 32, 117, 115, 101, 32, 102, 105, 108, 101, 115, 32, 99, 104, 111, 111, 115, 101] : Str) ([32] : Str)) fun t29 => bnd (slices_Contains_string_string N t29 (b :: x)) fun t31 => some (!t31)) N 0 = some ((b :: x).all nmB && !(kwds.any ((b :: x) == ·))) := by
     have hk : (bnd (strings_Split ([109, 97, 99, 114, 111, 32, 102, 111, 114, 32, 105, 110, 32, 105, 102, 32, 101, 108, 115, 101, 32, 117, 115, 101, 32, 102, 105, 108, 101, 115, 32, 99, 104, 111, 111, 115, 101] : Str) ([32] : Str)) fun t29 => bnd (slices_Contains_string_string N t29 (b :: x)) fun t31 => some (!t31)) = some (!(kwds.any ((b :: x) == ·))) := by
       rw [strings_Split_one _ _ (by decide), bnd_some, show splitC 32 ([109, 97, 99, 114, 111, 32, 102, 111, 114, 32, 105, 110, 32, 105, 102, 32, 101, 108, 115, 101, 32, 117, 115, 101, 32, 102, 105, 108, 101, 115, 32, 99, 104, 111, 111, 115, 101] : Str) = kwds by decide, slices_Contains_eq hN _ (by decide), bnd_some]
     rw [hk, ← forT_every nmB _ _ 0]
     refine loop_for (fun _ _ => rfl) (b :: x) hs (fun self i h r hr => ?_) (fun self => ?_) hN
     · simp only [z101L0T, geti_lt _ h, wrap_succ hs h, hr, bnd_some, isNameByte_eq]
       rw [lt_tt h, br_true, br_ite]
     · simp only [z101L0T, lt_ff, br_false]
   simp only [geti_zero, List.getElem?_cons_zero, bnd_some, hL, dlt, dgt]
   show _ = some (decide ((b :: x).length ≤ 40) && (smallB b && ((b :: x).all nmB && !(kwds.any ((b :: x) == ·)))))
   unfold smallB
   rw [decide_eq_decide.2 (show ((b :: x).length : Int) ≤ 40 ↔ (b :: x).length ≤ 40 by omega)]
   generalize ((b :: x).all nmB && !(kwds.any ((b :: x) == ·))) = q
   generalize decide ((b :: x).length ≤ 40) = a1
   generalize decide (b ≥ 97) = a2
   generalize decide (b ≤ 122) = a3
   cases a1 <;> cases a2 <;> cases a3 <;> simp
theorem ref_isPart_eq (hN : big ≤ N) (s : Str) (hs : s.length ≤ maxLen) : ref2_isPart N s = some (partS s) := by
 unfold ref2_isPart partS
 rw [end_br, ← forT_every partB _ _ 0]
 refine loop_for (fun _ _ => rfl) s hs (fun self i h r hr => ?_) (fun self => ?_) hN
 · simp only [z103L0T, strings_IndexByte, geti_lt _ h, wrap_succ hs h, hr, bnd_some, dlt, dgt, dneg]
   rw [lt_tt h, br_true]
   unfold partB
   simp only [br_ite]
   generalize s[i] = c
   generalize decide (c ≥ 97) = a1
   generalize decide (c ≤ 122) = a2
   generalize decide (c ≥ 65) = a3
   generalize decide (c ≤ 90) = a4
   generalize decide (c ≥ 48) = a5
   generalize decide (c ≤ 57) = a6
   generalize decide (Lib.indexByte [46, 95, 45, 43] c ≥ 0) = a7
   cases a1 <;> cases a2 <;> cases a3 <;> cases a4 <;> cases a5 <;> cases a6 <;> cases a7 <;> rfl
 · simp only [z103L0T, lt_ff, br_false]
theorem ref_IsPath_eq (hN : big ≤ N) (s : Str) (hs : s.length ≤ 1048576) : ref2_IsPath N s = some (pathS s) := by
 unfold ref2_IsPath pathS ref2_within
 rw [strings_Split_one _ _ (by omega), bnd_some]
 have hlen : (splitC 47 s).length ≤ 1048577 := by
   have h3 : s.count 47 ≤ s.length := List.count_le_length
   rw [splitC_len]; omega
 have hx : (splitC 47 s).length ≤ maxLen := by unfold maxLen; omega
 have hk : (bnd (br (decide ((1 : Int) ≤ (s.length : Int))) (some (decide ((s.length : Int) ≤ 200))) (some false)) fun t18 => some t18) = some (decide (1 ≤ s.length) && decide (s.length ≤ 200)) := by
   rw [br_ite, bnd_some, (decide_eq_decide.2 (by omega) : decide ((1 : Int) ≤ (s.length : Int)) = decide (1 ≤ s.length)), (decide_eq_decide.2 (by omega) : decide ((s.length : Int) ≤ 200) = decide (s.length ≤ 200))]
   cases decide (1 ≤ s.length) <;> simp
 have hbb : ∀ a b c : Bool, (a && (b && c)) = (c && (a && b)) := by decide
 rw [hk, hbb, ← forT_every partS _ _ 0]
 refine loop_for (fun _ _ => rfl) _ hx (fun self i h r hr => ?_) (fun self => ?_) hN
 · have hp := (splitC_mem 47 s _ (List.getElem_mem h)).2
   simp only [z102L0T, geti_lt _ h, wrap_succ hx h, hr, bnd_some, ref_isPart_eq hN _ (by unfold maxLen; omega : ((splitC 47 s)[i]).length ≤ maxLen)]
   rw [lt_tt h, br_true, br_ite]
 · simp only [z102L0T, lt_ff, br_false]
theorem ref_CheckTarget_eq (hN : big ≤ N) (t : Target) (ht : Fit targetTy t) (hs : t.1.length ≤ 1048576) : ref2_CheckTarget N t = some (targetE t) := by
 unfold ref2_CheckTarget targetE
 have hk : z53L1 N t.2.2 (t.2.2.length : Int) (some 0) N 0 = some (if t.2.2.any isKw then 5 else 0) := by
   rw [← forT_guard isKw (5 : Int) 0 t.2.2 0]
   refine loop_for (fun _ _ => rfl) _ ht.2.2.1 (fun self i h r hr => ?_) (fun self => ?_) hN
   · simp only [z53L1T, geti_lt _ h, wrap_succ ht.2.2.1 h, hr, bnd_some]
     rw [lt_tt h, br_true]
     unfold isKw
     generalize t.2.2[i].1 = n
     cases h1 : (n == ([110, 97, 109, 101] : Str)) <;> cases h2 : (n == ([107, 105, 110, 100] : Str)) <;> simp
   · simp only [z53L1T, lt_ff, br_false]
 rw [ref_IsPath_eq hN _ hs, bnd_some, ref_IsName_eq hN _ ht.2.1, bnd_some, hk]
 have hL : z53L0 N t.2.2 (t.2.2.length : Int) t.2.2 (some (if t.2.2.any isKw then 5 else 0)) N 0 = some (forT (attrB t.2.2) (if t.2.2.any isKw then 5 else 0) t.2.2 0) := by
   refine loop_for (fun _ _ => rfl) t.2.2 ht.2.2.1 (fun self i h r hr => ?_) (fun self => ?_) hN
   · have ha := ht.2.2.2 _ (List.getElem_mem h)
     simp only [z53L0T, geti_lt _ h, wrap_succ ht.2.2.1 h, hr, bnd_some, GValue.eta, ref_IsName_eq hN _ ha.1, ref_CheckValue_all hN _ ha.2]
     rw [lt_tt h, br_true, prev_eq ht.2.2.1 h, ne_zero_dec]
     unfold attrB
     simp only [br_ite]
   · simp only [z53L0T, lt_ff, br_false]
 rw [hL, (decide_eq_decide.2 (by omega) : decide ((t.2.2.length : Int) > 30) = decide (30 < t.2.2.length)), br_ite, br_ite, br_ite]
 simp only [decide_eq_true_eq]
theorem ref_Plain_eq (hN : big ≤ N) (x : worldTy.den) (hx : Fit worldTy x) (t : Target) (ht : Fit targetTy t) (hs : t.1.length ≤ 1048576) (c : List (Str × Str)) (hc : c.length ≤ maxLen) (p : Str × List (Str × Str)) (hp : Fit (.pr .str (.sl (.pr .str .str))) p) : ref3_Plain N x t c p = some (PlainS x t c p) := by
 unfold ref3_Plain PlainS
 rw [ask_eq hN x hx c hc p hp, bnd_some, br_ne, ref_CheckTarget_eq hN t ht hs, bnd_some, br_ne]
 by_cases h1 : choiceS x c p = 0
 case neg => rw [if_pos h1, if_pos h1]; rfl
 rw [if_neg (Classical.not_not.2 h1), if_neg (Classical.not_not.2 h1)]
 by_cases h2 : targetE t = 0
 case neg => rw [if_pos h2, if_pos h2]; rfl
 rw [if_neg (Classical.not_not.2 h2), if_neg (Classical.not_not.2 h2)]
 have tok := target_ok h2
 have hcnd := choice_cond h1
 refine loop_acc (f := fun m i w => z112L0 N c t.2.2 (t.2.2.length : Int) x.1 x.2.1 x.2.2.1 x.2.2.2.1 x.2.2.2.2 p.1 p.2 (fun o => some ((t.1, (t.2.1, o)), (([] : Str), (0 : Int)))) m i w) (T := fun self i w => z112L0T N c t.2.2 (t.2.2.length : Int) x.1 x.2.1 x.2.2.1 x.2.2.2.1 x.2.2.2.2 p.1 p.2 (fun o => some ((t.1, (t.2.1, o)), (([] : Str), (0 : Int)))) self i w) (fun _ _ _ => rfl) t.2.2 ht.2.2.1 (fun i w => w.length ≤ i) (fun self i h w g hw hg => ?_) (fun self w hw => ?_) hN (Nat.le_refl 0)
 · have ha := ht.2.2.2 _ (List.getElem_mem h)
   have hch : ref3_chosen N (x.1, (x.2.1, (x.2.2.1, (x.2.2.2.1, x.2.2.2.2)))) t.2.2[i].2 c (p.1, p.2) = some (chosenS x.1 x.2.1 c p t.2.2[i].2) := ref_chosen_eq hN x hx c hc p hp _ ha.2 hcnd (tok.val _ (List.getElem_mem h))
   simp only [z112L0T, geti_lt _ h, wrap_succ ht.2.2.1 h, bnd_some, GValue.eta, hch]
   rw [lt_tt h, br_true, br_ne]
   unfold plainB
   by_cases hz : (chosenS x.1 x.2.1 c p t.2.2[i].2).2 = 0
   · rw [if_neg (by simpa using hz), if_neg (by simpa using hz)]
     have hsz : (w.length + [(t.2.2[i].1, (chosenS x.1 x.2.1 c p t.2.2[i].2).1)].length) * (24 * Ty.sz (.pr .str (.rc .value))) ≤ 140737488355328 := by
       have := tok.len
       rw [List.length_singleton]; show _ * 144 ≤ _; omega
     rw [br_pos hsz]
     exact hg _ (by rw [List.length_append, List.length_singleton]; omega)
   · rw [if_pos hz, if_pos hz]; rfl
 · simp only [z112L0T, lt_ff, br_false]
theorem rdep_L2_eq (hN : big ≤ N) (ps : List (Str × Str)) (hp : ps.length ≤ 30) (k : List Str → Option (Int × List Str)) (w0 : List Str) (hw : w0.length ≤ 100000) : z90L2 N ps (ps.length : Int) k N 0 w0 = k (w0 ++ ps.map (·.1)) := by
 have hm : ps.length ≤ maxLen := Nat.le_trans hp (by decide)
 have := loop_st (f := fun n i w => z90L2 N ps (ps.length : Int) k n i w) (T := fun self i w => z90L2T N ps (ps.length : Int) k self i w) (fun _ _ _ => rfl) hm (fun i => w0 ++ (ps.take i).map (·.1)) (r := k (w0 ++ ps.map (·.1))) (fun self i hi hr => ?_) (fun self => ?_) hN
 · simpa using this
 · rw [map_take_snoc _ _ hi, ← List.append_assoc] at hr
   have hl : (w0 ++ (ps.take i).map (·.1)).length ≤ 100030 := by rw [List.length_append, List.length_map, List.length_take]; omega
   generalize w0 ++ (ps.take i).map (·.1) = w at hr hl ⊢
   simp only [z90L2T, geti_lt _ hi, wrap_succ hm hi, bnd_some]
   have hsz : (w.length + [ps[i].1].length) * (24 * Ty.sz .str) ≤ 140737488355328 := by
     rw [List.length_singleton]; show _ * 24 ≤ _; omega
   rw [lt_tt hi, br_true, br_pos hsz]
   exact hr
 · simp only [z90L2T, lt_ff, br_false, List.take_length]
theorem rdep_L1_eq (hN : big ≤ N) {l : List (Str × List Str)} {m : List Cond} (hm : m.length ≤ maxLen) (hok : ∀ x ∈ m, CondOk l x) (cs : List Case) (hc : cs.length ≤ 50) (k : List Str → Option (Int × List Str)) (w0 : List Str) (hw : w0.length ≤ 90000) : z90L1 N cs (cs.length : Int) m k N 0 w0 = k (w0 ++ cs.flatMap (caseN m)) := by
 have hcm : cs.length ≤ maxLen := Nat.le_trans hc (by decide)
 have := loop_st (f := fun n i w => z90L1 N cs (cs.length : Int) m k n i w) (T := fun self i w => z90L1T N cs (cs.length : Int) m k self i w) (fun _ _ _ => rfl) hcm (fun i => w0 ++ (cs.take i).flatMap (caseN m)) (r := k (w0 ++ cs.flatMap (caseN m))) (fun self i hi hr => ?_) (fun self => ?_) hN
 · simpa using this
 · rw [flat_take_snoc _ _ hi, ← List.append_assoc] at hr
   have hfl := flat_le (caseN m) 30 (cs.take i) fun k _ => by unfold caseN; rw [List.length_map]; exact need_len hok _
   rw [List.length_take] at hfl
   have hl : (w0 ++ (cs.take i).flatMap (caseN m)).length ≤ 100000 := by rw [List.length_append]; omega
   generalize w0 ++ (cs.take i).flatMap (caseN m) = w at hr hl ⊢
   have hn := need_len hok cs[i].1
   simp only [z90L1T, geti_lt _ hi, wrap_succ hcm hi, bnd_some, ref_conditionOf_eq hN m hm, need_eq]
   rw [lt_tt hi, br_true, rdep_L2_eq hN _ hn _ _ hl]
   exact hr
 · simp only [z90L1T, lt_ff, br_false, List.take_length]
theorem ref_Depends_eq (hN : big ≤ N) (x : worldTy.den) (hx : Fit worldTy x) (t : Target) (ht : Fit targetTy t) (hs : t.1.length ≤ 1048576) : ref3_Depends N x t = some (DependsS x t) := by
 unfold ref3_Depends DependsS
 rw [ref_CheckConditions_eq hN _ hx.1 _ hx.2.1, bnd_some, br_ne, ref_CheckTarget_eq hN t ht hs, bnd_some, br_ne]
 by_cases h1 : conditionsS x.1 x.2.1 = 0
 case neg => rw [if_pos h1, if_pos h1]
 rw [if_neg (Classical.not_not.2 h1), if_neg (Classical.not_not.2 h1)]
 by_cases h2 : targetE t = 0
 case neg => rw [if_pos h2, if_pos h2]
 rw [if_neg (Classical.not_not.2 h2), if_neg (Classical.not_not.2 h2)]
 have tok := target_ok h2
 obtain ⟨_, hml, hok⟩ := cond_ok h1
 have hmm : x.2.1.length ≤ maxLen := Nat.le_trans hml (by decide)
 have gen : ∀ (d n i : Nat) (w : List Str), i + d = t.2.2.length → d < n → w.length ≤ i * 1500 →
     z90L0 N t.2.2 (t.2.2.length : Int) x.1 x.2.1 x.2.2.1 x.2.2.2.1 x.2.2.2.2 (fun o => bnd (slices_Sort_string_string o) fun t77 => bnd (slices_Compact_string_string t77) fun t79 => some ((0 : Int), t79)) n (i : Int) w = some (forA (depsB x.2.1) (fun w => (0, sortN w)) (t.2.2.drop i) i w) := by
   intro d
   induction d with
   | zero =>
     intro n i w hi hn hw
     obtain ⟨n, rfl⟩ : ∃ q, n = q + 1 := ⟨n - 1, by omega⟩
     obtain rfl : i = t.2.2.length := by omega
     show z90L0T _ _ _ _ _ _ _ _ _ _ _ _ = _
     unfold z90L0T
     have hl := tok.len
     rw [lt_ff, br_false, List.drop_length]
     unfold slices_Sort_string_string slices_Compact_string_string
     dsimp only
     rw [if_pos (by omega), bnd_some, bnd_some, compact_sort]
     rfl
   | succ d ih =>
     intro n i w hi hn hw
     obtain ⟨n, rfl⟩ : ∃ q, n = q + 1 := ⟨n - 1, by omega⟩
     have hlt : i < t.2.2.length := by omega
     have hl := tok.len
     have ha := ht.2.2.2 _ (List.getElem_mem hlt)
     have hc := cases_len (tok.val _ (List.getElem_mem hlt))
     have hcm : t.2.2[i].2.cases.length ≤ maxLen := by unfold maxLen; omega
     rw [List.drop_eq_getElem_cons hlt]
     show z90L0T _ _ _ _ _ _ _ _ _ _ _ _ = some (depsB x.2.1 i t.2.2[i] w fun w => forA (depsB x.2.1) _ _ (i + 1) w)
     unfold z90L0T depsB
     rw [lt_tt hlt, br_true, geti_lt _ hlt, bnd_some]
     simp only [GValue.eta]
     have hcw : ref3_checkWhen N (x.1, (x.2.1, (x.2.2.1, (x.2.2.2.1, x.2.2.2.2)))) t.2.2[i].2 = some (namedS x.2.1 t.2.2[i].2.cases) := checkWhen_eq hN x hmm _ hcm
     rw [hcw, bnd_some, br_ne, wrap_succ ht.2.2.1 hlt]
     by_cases hz : namedS x.2.1 t.2.2[i].2.cases = 0
     · rw [if_neg (Classical.not_not.2 hz), if_neg (Classical.not_not.2 hz), rdep_L1_eq hN hmm hok _ hc _ _ (by omega)]
       have hal := attrN_len hok (tok.val _ (List.getElem_mem hlt))
       exact ih n (i + 1) (w ++ attrN x.2.1 t.2.2[i]) (by omega) (by omega) (by rw [List.length_append]; omega)
     · rw [if_pos hz, if_pos hz]
 have := gen t.2.2.length N 0 [] (by omega) (by have := tok.len; unfold big at hN; omega) (by simp)
 simpa using this
theorem plain_ok (x : worldTy.den) (t : Target) (c : List (Str × Str)) (p : Str × List (Str × Str)) : (PlainS x t c p).1.2.2.length ≤ 30 ∧ ∀ b ∈ (PlainS x t c p).1.2.2, b.2.cases = [] ∧ b.2.list.length ≤ maxLen := by
 unfold PlainS
 split
 · exact ⟨Nat.zero_le _, fun b hb => (by cases hb)⟩
 · split
   · exact ⟨Nat.zero_le _, fun b hb => (by cases hb)⟩
   · rename_i h2
     have tok := target_ok (Classical.not_not.1 h2)
     refine ⟨?_, plain_forA x c p _ (fun r => ∀ b ∈ r.1.2.2, b.2.cases = [] ∧ b.2.list.length ≤ maxLen) (fun n e b hb => (by cases hb)) (fun w hw => hw) _ 0 [] tok.val (fun b hb => (by cases hb))⟩
     have len : ∀ (xs : List Attr) (i : Nat) (w : List Attr), (forA (plainB x c p) (fun w => ((t.1, t.2.1, w), ([] : Str), (0 : Int))) xs i w).1.2.2.length ≤ w.length + xs.length := by
       intro xs
       induction xs with
       | nil => intro i w; exact Nat.le_refl _
       | cons a xs ih =>
         intro i w
         show (plainB x c p i a w fun w => forA (plainB x c p) _ xs (i + 1) w).1.2.2.length ≤ _
         unfold plainB
         split
         · exact Nat.zero_le _
         · refine Nat.le_trans (ih _ _) ?_
           rw [List.length_append, List.length_singleton, List.length_cons]; omega
     have := len t.2.2 0 []
     have := tok.len
     simp only [List.length_nil, Nat.zero_add] at *
     omega
theorem depends_len {x : worldTy.den} {t : Target} : (DependsS x t).2.length ≤ maxLen := by
 unfold DependsS
 split
 · exact Nat.zero_le _
 · rename_i h1
   split
   · exact Nat.zero_le _
   · rename_i h2
     have tok := target_ok (Classical.not_not.1 h2)
     obtain ⟨_, hml, hok⟩ := cond_ok (Classical.not_not.1 h1)
     have len : ∀ (xs : List Attr) (i : Nat) (w : List Str), (∀ a ∈ xs, valueE a.2 = 0) → (forA (depsB x.2.1) (fun w => ((0 : Int), sortN w)) xs i w).2.length ≤ w.length + xs.length * 1500 := by
       intro xs
       induction xs with
       | nil =>
         intro i w _
         show (sortN w).length ≤ _
         unfold sortN
         rw [List.length_mergeSort, List.length_map]
         have := setM_len w []
         simpa using this
       | cons a xs ih =>
         intro i w hv
         show (depsB x.2.1 i a w fun w => forA (depsB x.2.1) _ xs (i + 1) w).2.length ≤ _
         unfold depsB
         split
         · exact Nat.zero_le _
         · refine Nat.le_trans (ih _ _ fun b hb => hv b (List.mem_cons_of_mem _ hb)) ?_
           have := attrN_len hok (hv a (by simp))
           rw [List.length_append, List.length_cons]; omega
     have h := len t.2.2 0 [] tok.val
     have := tok.len
     refine Nat.le_trans h ?_
     unfold maxLen
     simp only [List.length_nil, Nat.zero_add]; omega
theorem plain_ConfigPlainMatchesSpec (x : worldTy.den) (t : Target) (c : List (Str × Str)) (p : Str × List (Str × Str)) (hx : Fit worldTy x) (ht : Fit targetTy t) (hc : Fit pairTy c) (hp : Fit (.pr .str (.sl (.pr .str .str))) p)
   (hb : bulkG rbC worldTy x + bulkG rbC targetTy t + bulkG rbC pairTy c + bulkG rbC (.pr .str (.sl (.pr .str .str))) p ≤ 1048576) : ∃ N, law3_ConfigPlainMatchesSpec N x t c p = some true := by
 have hN : big ≤ big := Nat.le_refl _
 have hs : t.1.length ≤ 1048576 := by
   have : bulkG rbC targetTy t = (t.1.length + 1) + bulkG rbC (.pr .str (.sl attrTy)) t.2 := rfl
   omega
 refine ⟨big, ?_⟩
 unfold law3_ConfigPlainMatchesSpec
 obtain ⟨p1, p2⟩ := plain_ok x t c p
 rw [Plain_eq hN x hx t ht c hc.1 p hp, ref_Plain_eq hN x hx t ht hs c hc.1 p hp, bnd_some, bnd_some, bne_self_eq_false, br_false, beq_self_eq_true, Bool.not_true, br_false, SamePackage_self hN _ p1 p2, bnd_some, Bool.not_true, br_false, Depends_eq hN x hx t ht, ref_Depends_eq hN x hx t ht hs, bnd_some, bnd_some, beq_self_eq_true, br_true, Equal_self hN _ depends_len, bnd_some, br_true, awake_eq, bnd_some]
end Go.Proofs.YtbekhaioddmliaaGreatDoor

