/- What is chosen of a value. No program in sight. -/
import Derived.Test.YtbekhaioddmliaaDoorQLVal
namespace Go.Proofs.YtbekhaioddmliaaDoor
set_option linter.unusedVariables false
set_option linter.unusedSimpArgs false
open Go Go.RowKit
variable {N : Nat}
abbrev Cond : Type := Str × List (Str × Str) × List (Str × Str)
abbrev dflt : Str := [100, 101, 102, 97, 117, 108, 116]
theorem IndexFunc_cond (hN : big ≤ N) (xs : List Cond) (hx : xs.length ≤ maxLen) (n : Str) : slices_IndexFunc_api_Condition N xs (n, ()) = some (idxP (fun x => x.1 == n) xs) := by
  unfold slices_IndexFunc_api_Condition
  refine loop_for (fun _ _ => rfl) xs hx (fun self i h r hr => ?_) (fun self => ?_) hN
  · simp only [slices_IndexFunc_api_Condition_L0T, geti_lt xs h, wrap_succ hx h, hr, bnd_some, config_conditionOf_1]
    rw [lt_tt h, br_true, br_ite]
  · simp only [slices_IndexFunc_api_Condition_L0T, lt_ff, br_false]
theorem conditionOf_eq (hN : big ≤ N) (m : List Cond) (hm : m.length ≤ maxLen) (n : Str) : config_conditionOf N m n = some (findF (fun x => x.1 == n) (fun x => (x, true)) (([], ([], [])), false) m) := by
  unfold config_conditionOf findF
  rw [IndexFunc_cond hN m hm, bnd_some]
  rcases idxP_cases (fun x : Cond => x.1 == n) m with ⟨h1, h2⟩ | ⟨j, t, h1, h2, h3, h4⟩
  · rw [h1, h2]; simp
  · rw [h1, h4, decide_eq_false (show ¬ ((j : Int) < 0) by omega), br_false, geti_nat, h2, bnd_some]
def moreS (a b : Cond) : Bool := b.2.1.all (hasPair a.2.1) && (b.2.2.all (hasPair a.2.2) && decide (a.2.1.length + a.2.2.length > b.2.1.length + b.2.2.length))
/-- A condition that is right. -/
structure CondOk (l : List (Str × List Str)) (x : Cond) : Prop where
  name : condS x.1 = true
  needs : x.2.1.length ≤ 30
  on : x.2.2.length ≤ 30
  found : ∀ n ∈ x.2.1, (l.find? (fun s => s.1 == n.1)).isSome = true
theorem cond_ok {l : List (Str × List Str)} {m : List Cond} (h : conditionsS l m = 0) : settingsS l = 0 ∧ m.length ≤ 100 ∧ ∀ x ∈ m, CondOk l x := by
  have hf := cond_found h
  refine ⟨hf.1, ?_, fun x hx => ?_⟩
  · unfold conditionsS at h
    rw [if_neg (by simpa using hf.1)] at h
    split at h
    · cases h
    · omega
  · unfold conditionsS at h
    rw [if_neg (by simpa using hf.1)] at h
    split at h
    · cases h
    · have := forT_keep (p := fun x : Cond => condS x.1 = true ∧ x.2.1.length ≤ 30 ∧ x.2.2.length ≤ 30) (body := condB1 l m) (fun i x r h => by
        unfold condB1 at h
        split at h
        · cases h
        · rename_i h1
          split at h
          · cases h
          · rename_i h2
            split at h
            · cases h
            · rename_i h3
              split at h
              · rename_i h4; exact absurd h (of_decide_eq_true h4)
              · split at h
                · rename_i h5; exact absurd h (of_decide_eq_true h5)
                · refine ⟨⟨by simpa using h1, ?_, ?_⟩, prevS_keep h⟩
                  · have : ¬ (30 < x.2.1.length) := fun h => h2 (decide_eq_true h)
                    omega
                  · have : ¬ (30 < x.2.2.length) := fun h => h3 (decide_eq_true h)
                    omega) m 0 h x hx
      exact ⟨this.1, this.2.1, this.2.2, pairs_found (hf.2 x hx)⟩
theorem isMore_eq (hN : big ≤ N) (a b : Cond) {l : List (Str × List Str)} (ha : CondOk l a) (hb : CondOk l b) : config_isMore N a b = some (moreS a b) := by
  have h30 : (30 : Nat) ≤ maxLen := by decide
  unfold config_isMore moreS
  rw [Fit_eq hN _ _ (Nat.le_trans hb.needs h30) (Nat.le_trans ha.needs h30), bnd_some, Fit_eq hN _ _ (Nat.le_trans hb.on h30) (Nat.le_trans ha.on h30), bnd_some]
  have h1 := ha.needs
  have h2 := ha.on
  have h3 := hb.needs
  have h4 := hb.on
  rw [wrap_id (by omega) (by omega), wrap_id (by omega) (by omega), (decide_eq_decide.2 (by omega) : decide ((a.2.1.length : Int) + (a.2.2.length : Int) > (b.2.1.length : Int) + (b.2.2.length : Int)) = decide (a.2.1.length + a.2.2.length > b.2.1.length + b.2.2.length))]
  cases b.2.1.all (hasPair a.2.1) <;> cases b.2.2.all (hasPair a.2.2) <;> simp
/-- The error of the names of conditions in a value. -/
def oddC (m : List Cond) (c : Case) : Bool := (m.find? (fun x => x.1 == c.1)).isNone && !(c.1 == dflt)
def namedS (m : List Cond) (l : List Case) : Int := if l.any (oddC m) = true then 5 else 0
theorem checkNamed_eq (hN : big ≤ N) (m : List Cond) (hm : m.length ≤ maxLen) (v : GValue) (hv : v.cases.length ≤ maxLen) : config_checkNamed N m v = some (namedS m v.cases) := by
  unfold config_checkNamed namedS
  rw [← forT_guard (oddC m) (5 : Int) 0 v.cases 0]
  refine loop_for (fun _ _ => rfl) v.cases hv (fun self i h r hr => ?_) (fun self => ?_) hN
  · simp only [config_checkNamed_L0T, geti_lt _ h, wrap_succ hv h, hr, bnd_some, conditionOf_eq hN m hm]
    rw [lt_tt h, br_true]
    unfold oddC findF
    cases m.find? (fun x => x.1 == v.cases[i].1) with
    | none => simp only [Bool.not_false, br_true, Option.isNone_none, Bool.true_and, br_ite]; rfl
    | some z => simp
  · simp only [config_checkNamed_L0T, lt_ff, br_false]
/-- The cases whose conditions hold, with them. -/
def selF (l : List (Str × List Str)) (m : List Cond) (c : List (Str × Str)) (p : Str × List (Str × Str)) (k : Case) : Option (Case × Cond) := match m.find? (fun x => x.1 == k.1) with
  | some z => if holdsS l z c p = true then some (k, z) else none
  | none => none
def selS (l : List (Str × List Str)) (m : List Cond) (c : List (Str × Str)) (p : Str × List (Str × Str)) (cs : List Case) : List (Case × Cond) := cs.filterMap (selF l m c p)
/-- Whether the condition number i is more special than those before k. -/
def bestTo (ws : List Cond) (i k : Nat) : Bool := (List.range k).all fun j => decide (j = i) || match ws[i]?, ws[j]? with | some a, some b => moreS a b | _, _ => false
theorem bestTo_succ (ws : List Cond) (i k : Nat) (hi : i < ws.length) (hk : k < ws.length) : bestTo ws i (k + 1) = (bestTo ws i k && (decide (k = i) || moreS ws[i] ws[k])) := by
  unfold bestTo
  rw [List.range_succ, List.all_append, List.getElem?_eq_getElem hi]
  simp [List.getElem?_eq_getElem hk]
def zeroV : GValue := .mk 0 [] 0 [] []
def pickB (sel : List (Case × Cond)) (s0 : Case) (i : Nat) (x : Case × Cond) (b : Bool) (g : Bool → GValue × Int) : GValue × Int := if bestTo (sel.map (·.2)) i sel.length = true then (x.1.2, 0) else g (b && sameP s0.2 x.1.2)
def pickS (sel : List (Case × Cond)) (cs : List Case) : GValue × Int := match sel with
  | [] => match cs.find? (fun k => k.1 == dflt) with
    | some k => (k.2, 0)
    | none => (zeroV, 9)
  | s0 :: _ => forA (pickB sel s0.1) (fun b => if b = true then (s0.1.2, 0) else (zeroV, 12)) sel 0 true
def chosenS (l : List (Str × List Str)) (m : List Cond) (c : List (Str × Str)) (p : Str × List (Str × Str)) (v : GValue) : GValue × Int :=
  if v.kind ≠ 4 then (v, 0) else if namedS m v.cases ≠ 0 then (zeroV, namedS m v.cases) else pickS (selS l m c p v.cases) v.cases
theorem IndexFunc_dflt (hN : big ≤ N) (xs : List Case) (hx : xs.length ≤ maxLen) : slices_IndexFunc_api_Case_2 N xs () = some (idxP (fun x => x.1 == dflt) xs) := by
  unfold slices_IndexFunc_api_Case_2
  refine loop_for (fun _ _ => rfl) xs hx (fun self i h r hr => ?_) (fun self => ?_) hN
  · simp only [slices_IndexFunc_api_Case_2_L0T, geti_lt xs h, wrap_succ hx h, hr, bnd_some, config_chosen_1]
    rw [lt_tt h, br_true, br_ite]
  · simp only [slices_IndexFunc_api_Case_2_L0T, lt_ff, br_false]
theorem Equal_eq (hN : big ≤ N) (r : Case → Case → Option Bool) (a b : GValue) (ha : a.cases = []) (hb : b.cases = []) (hla : a.list.length ≤ maxLen) (hlb : b.list.length ≤ maxLen) : script_Equal N r a b = some (sameP a b) := by
  unfold script_Equal sameP
  rw [Equal_str hN _ _ hla hlb, bnd_some, ha, hb]
  have hE : slices_EqualFunc_api_Case N r [] [] () = some true := by
    unfold slices_EqualFunc_api_Case
    obtain ⟨n, rfl⟩ : ∃ n, N = n + 1 := ⟨N - 1, by unfold big at hN; omega⟩
    have : slices_EqualFunc_api_Case_L0 (n + 1) r [] [] ((([] : List Case).length : Nat) : Int) (some true) (n + 1) 0 = some true := by
      show slices_EqualFunc_api_Case_L0T _ _ _ _ _ _ _ _ = _
      simp [slices_EqualFunc_api_Case_L0T]
    rw [this]; simp
  rw [hE]
  cases a.kind == b.kind <;> cases a.text == b.text <;> cases a.number == b.number <;> cases decide (a.list = b.list) <;> simp
theorem own_case (hN : big ≤ N) {v : GValue} (h : PlainV v) : script_Own N N v = some v := by
  obtain ⟨d, rfl⟩ : ∃ d, N = d + 1 := ⟨N - 1, by unfold big at hN; omega⟩
  exact Own_eq hN d v h.cases (by have := h.list; omega)
theorem best2_eq (hN : big ≤ N) {l : List (Str × List Str)} (ws : List Cond) (hw : ws.length ≤ 50) (hok : ∀ z ∈ ws, CondOk l z) (i : Nat) (hi : i < ws.length) (k4 : Bool → Option (GValue × Int)) :
    config_chosen_L2 N (i : Int) (ws.length : Int) ws k4 N true 0 = k4 (bestTo ws i ws.length) := by
  have hm : ws.length ≤ maxLen := Nat.le_trans hw (by decide)
  refine loop_st (f := fun n j b => config_chosen_L2 N (i : Int) (ws.length : Int) ws k4 n b j) (T := fun self j b => config_chosen_L2T N (i : Int) (ws.length : Int) ws k4 (fun b j => self j b) b j) (fun _ _ _ => rfl) hm (fun j => bestTo ws i j) (fun self j hj ih => ?_) (fun self => ?_) hN
  · simp only [config_chosen_L2T]
    rw [lt_tn hj, br_true, wrap_s hm hj]
    rw [bestTo_succ ws i j hi hj] at ih
    cases hb : bestTo ws i j with
    | false => rw [br_false]; rw [hb, Bool.false_and] at ih; exact ih
    | true =>
      rw [br_true]
      rw [hb, Bool.true_and] at ih
      by_cases hji : j = i
      · rw [show ((j : Int) == (i : Int)) = true by simp [hji], br_true]
        rw [decide_eq_true hji, Bool.true_or] at ih; exact ih
      · rw [show ((j : Int) == (i : Int)) = false from beq_false_of_ne (by omega), br_false, geti_lt ws hi, bnd_some, geti_lt ws hj, bnd_some, isMore_eq hN _ _ (hok _ (List.getElem_mem hi)) (hok _ (List.getElem_mem hj)), bnd_some]
        rw [decide_eq_false hji, Bool.false_or] at ih; exact ih
  · simp only [config_chosen_L2T]
    rw [lt_fn, br_false]
theorem best3_eq (hN : big ≤ N) {l : List (Str × List Str)} (ws : List Cond) (hw : ws.length ≤ 50) (hok : ∀ z ∈ ws, CondOk l z) (i : Nat) (hi : i < ws.length) (k4 : Bool → Option (GValue × Int)) :
    config_chosen_L3 N (i : Int) (ws.length : Int) ws k4 N true 0 = k4 (bestTo ws i ws.length) := by
  have hm : ws.length ≤ maxLen := Nat.le_trans hw (by decide)
  refine loop_st (f := fun n j b => config_chosen_L3 N (i : Int) (ws.length : Int) ws k4 n b j) (T := fun self j b => config_chosen_L3T N (i : Int) (ws.length : Int) ws k4 (fun b j => self j b) b j) (fun _ _ _ => rfl) hm (fun j => bestTo ws i j) (fun self j hj ih => ?_) (fun self => ?_) hN
  · simp only [config_chosen_L3T]
    rw [lt_tn hj, br_true, wrap_s hm hj]
    rw [bestTo_succ ws i j hi hj] at ih
    cases hb : bestTo ws i j with
    | false => rw [br_false]; rw [hb, Bool.false_and] at ih; exact ih
    | true =>
      rw [br_true]
      rw [hb, Bool.true_and] at ih
      by_cases hji : j = i
      · rw [show ((j : Int) == (i : Int)) = true by simp [hji], br_true]
        rw [decide_eq_true hji, Bool.true_or] at ih; exact ih
      · rw [show ((j : Int) == (i : Int)) = false from beq_false_of_ne (by omega), br_false, geti_lt ws hi, bnd_some, geti_lt ws hj, bnd_some, isMore_eq hN _ _ (hok _ (List.getElem_mem hi)) (hok _ (List.getElem_mem hj)), bnd_some]
        rw [decide_eq_false hji, Bool.false_or] at ih; exact ih
  · simp only [config_chosen_L3T]
    rw [lt_fn, br_false]
theorem sel_take (l : List (Str × List Str)) (m : List Cond) (c : List (Str × Str)) (p : Str × List (Str × Str)) (cs : List Case) {i : Nat} (h : i < cs.length) :
    selS l m c p (cs.take (i + 1)) = selS l m c p (cs.take i) ++ (match selF l m c p cs[i] with | some y => [y] | none => []) := by
  unfold selS
  rw [List.take_succ_eq_append_getElem h, List.filterMap_append]
  congr 1
  simp only [List.filterMap_cons, List.filterMap_nil]
  cases selF l m c p cs[i] <;> rfl
theorem sel_mem {l : List (Str × List Str)} {m : List Cond} {c : List (Str × Str)} {p : Str × List (Str × Str)} {cs : List Case} {y : Case × Cond} (h : y ∈ selS l m c p cs) : y.1 ∈ cs ∧ y.2 ∈ m := by
  unfold selS at h
  obtain ⟨k, hk, e⟩ := List.mem_filterMap.1 h
  unfold selF at e
  split at e
  · rename_i z hz
    split at e
    · cases e; exact ⟨hk, List.mem_of_find?_eq_some hz⟩
    · cases e
  · cases e
theorem sel_len (l : List (Str × List Str)) (m : List Cond) (c : List (Str × Str)) (p : Str × List (Str × Str)) (cs : List Case) : (selS l m c p cs).length ≤ cs.length := List.length_filterMap_le _ _
/-- Which of the cases is taken. -/
theorem pick_eq (hN : big ≤ N) {l : List (Str × List Str)} (sel : List (Case × Cond)) (hl : sel.length ≤ 50) (hc : ∀ y ∈ sel, PlainV y.1.2) (hz : ∀ y ∈ sel, CondOk l y.2) (s0 : Case × Cond) (rest : List (Case × Cond)) (hs : sel = s0 :: rest) {K : Bool → Option (GValue × Int)} {k : Bool → GValue × Int} (hK : ∀ b, K b = some (k b)) :
    config_chosen_L1 N (((sel.map (·.1)).length : Nat) : Int) (sel.map (·.1)) (sel.map (·.2)) K N true 0 = some (forA (pickB sel s0.1) k sel 0 true) := by
  have hm : sel.length ≤ maxLen := Nat.le_trans hl (by decide)
  rw [List.length_map]
  refine loop_acc (f := fun n i b => config_chosen_L1 N (sel.length : Int) (sel.map (·.1)) (sel.map (·.2)) K n b i) (T := fun self i b => config_chosen_L1T N (sel.length : Int) (sel.map (·.1)) (sel.map (·.2)) K (fun b i => self i b) b i)
    (fun _ _ _ => rfl) sel hm (fun _ _ => True) (fun self i h b g _ hg => ?_) (fun self b _ => ?_) hN trivial
  · have h0 : 0 < sel.length := by omega
    have e0 : (sel.map (·.1))[0]? = some s0.1 := by rw [hs]; rfl
    have e1 : geti (sel.map (·.1)) (i : Int) = some sel[i].1 := by rw [geti_nat, List.getElem?_map, List.getElem?_eq_getElem h]; rfl
    have hw : (sel.map (·.2)).length ≤ 50 := by rw [List.length_map]; exact hl
    have hok : ∀ z ∈ sel.map (·.2), CondOk l z := fun z hz' => by
      obtain ⟨y, hy, rfl⟩ := List.mem_map.1 hz'
      exact hz y hy
    have hi' : i < (sel.map (·.2)).length := by rw [List.length_map]; exact h
    have hp0 := hc s0 (by rw [hs]; simp)
    have hpi := hc _ (List.getElem_mem h)
    have h2 := fun k4 => best2_eq hN (sel.map (·.2)) hw hok i hi' k4
    have h3 := fun k4 => best3_eq hN (sel.map (·.2)) hw hok i hi' k4
    simp only [List.length_map] at h2 h3
    have hg' : ∀ b', self (IntKind.i64.wrap ((i : Int) + 1)) b' = some (g b') := fun b' => by rw [wrap_succ hm h]; exact hg b' trivial
    simp only [config_chosen_L1T, geti_zero, e0, e1, bnd_some, List.length_map, Equal_eq hN _ _ _ hp0.cases hpi.cases (Nat.le_trans hp0.list (by decide)) (Nat.le_trans hpi.list (by decide)), h2, h3, own_case hN hpi, GValue.eta, hg']
    rw [lt_tt h, br_true]
    unfold pickB
    cases b
    · rw [br_false, br_ite, Bool.false_and]
    · rw [br_true, br_ite, Bool.true_and]
  · simp only [config_chosen_L1T]
    rw [lt_ff, br_false, hK]
set_option maxHeartbeats 1000000 in
theorem loop0_eq (hN : big ≤ N) {l : List (Str × List Str)} {m : List Cond} (hlf : Fit settingTy l) (hmf : Fit (.sl condTy) m) {c : List (Str × Str)} (hc : c.length ≤ maxLen) (p1 : Str) {p2 : List (Str × Str)} (hp : p2.length ≤ maxLen) (hs : settingsS l = 0) (hml : m.length ≤ 100) (hok : ∀ x ∈ m, CondOk l x)
    (cs : List Case) (hcl : cs.length ≤ 50) (K : List Case → List Cond → Option (GValue × Int)) : config_chosen_L0 N c cs (cs.length : Int) l m p1 p2 K N 0 [] [] = K ((selS l m c (p1, p2) cs).map (·.1)) ((selS l m c (p1, p2) cs).map (·.2)) := by
  have hmm : m.length ≤ maxLen := Nat.le_trans hml (by decide)
  have hcm : cs.length ≤ maxLen := Nat.le_trans hcl (by decide)
  have hE : ∀ (self : Int → List Case × List Cond → Option (GValue × Int)), config_chosen_L0T N c cs (cs.length : Int) l m p1 p2 K (fun i a b => self i (a, b)) (cs.length : Int) ((selS l m c (p1, p2) (cs.take cs.length)).map (·.1)) ((selS l m c (p1, p2) (cs.take cs.length)).map (·.2)) = K ((selS l m c (p1, p2) cs).map (·.1)) ((selS l m c (p1, p2) cs).map (·.2)) := fun self => by
    unfold config_chosen_L0T
    rw [lt_fn, br_false, List.take_length]
  have hT : ∀ (self : Int → List Case × List Cond → Option (GValue × Int)) (i : Nat), i < cs.length → self ((i + 1 : Nat) : Int) ((selS l m c (p1, p2) (cs.take (i + 1))).map (·.1), (selS l m c (p1, p2) (cs.take (i + 1))).map (·.2)) = K ((selS l m c (p1, p2) cs).map (·.1)) ((selS l m c (p1, p2) cs).map (·.2)) →
      config_chosen_L0T N c cs (cs.length : Int) l m p1 p2 K (fun i a b => self i (a, b)) (i : Int) ((selS l m c (p1, p2) (cs.take i)).map (·.1)) ((selS l m c (p1, p2) (cs.take i)).map (·.2)) = K ((selS l m c (p1, p2) cs).map (·.1)) ((selS l m c (p1, p2) cs).map (·.2)) := by
    intro self i h ih
    have hsl := sel_len l m c (p1, p2) (cs.take i)
    rw [List.length_take] at hsl
    rw [sel_take l m c (p1, p2) cs h] at ih
    simp only [config_chosen_L0T, geti_lt cs h, bnd_some, conditionOf_eq hN _ hmm]
    rw [lt_tt h, br_true, wrap_succ hcm h]
    unfold selF findF at *
    cases hz : m.find? (fun z => z.1 == cs[i].1) with
    | none =>
      rw [hz] at ih
      simp only [br_false]
      simpa using ih
    | some z =>
      rw [hz] at ih
      have hzm := List.mem_of_find?_eq_some hz
      simp only [br_true, holds_eq hN l hlf z (hmf.2 z hzm) c hc (p1, p2) hp hs (hok z hzm).found, bnd_some, GValue.eta, times_eq, both_self]
      dsimp only at ih
      cases hh : holdsS l z c (p1, p2) with
      | false =>
        rw [hh] at ih
        simp only [br_false]
        simpa using ih
      | true =>
        rw [hh] at ih
        have e1 : decide ((((selS l m c (p1, p2) (cs.take i)).map (·.1)).length + [(cs[i].1, cs[i].2)].length) * (24 * Ty.sz (.pr .str (.rc .value))) ≤ 140737488355328) = true := decide_eq_true (by
          rw [List.length_map]; show (_ + 1) * (24 * 6) ≤ _; omega)
        have e2 : decide ((((selS l m c (p1, p2) (cs.take i)).map (·.2)).length + [z].length) * (24 * Ty.sz (.pr .str (.pr (.sl (.pr .str .str)) (.sl (.pr .str .str))))) ≤ 140737488355328) = true := decide_eq_true (by
          rw [List.length_map]; show (_ + 1) * (24 * 3) ≤ _; omega)
        rw [br_true, e1, br_true, e2, br_true]
        simpa using ih
  have hf : ∀ (n : Nat) (i : Int) (a : List Case) (b : List Cond), config_chosen_L0 N c cs (cs.length : Int) l m p1 p2 K (n + 1) i a b = config_chosen_L0T N c cs (cs.length : Int) l m p1 p2 K (config_chosen_L0 N c cs (cs.length : Int) l m p1 p2 K n) i a b := fun _ _ _ _ => rfl
  let st : Nat → List Case × List Cond := fun i => ((selS l m c (p1, p2) (cs.take i)).map (·.1), (selS l m c (p1, p2) (cs.take i)).map (·.2))
  have key := loop_st (S := List Case × List Cond) (R := GValue × Int) (f := fun n i s => config_chosen_L0 N c cs (cs.length : Int) l m p1 p2 K n i s.1 s.2) (T := fun self i s => config_chosen_L0T N c cs (cs.length : Int) l m p1 p2 K (fun i a b => self i (a, b)) i s.1 s.2)
    (r := K ((selS l m c (p1, p2) cs).map (·.1)) ((selS l m c (p1, p2) cs).map (·.2))) (m := cs.length) (N := N)
  exact key (fun n i s => hf n i s.1 s.2) hcm st hT hE hN
theorem chosen_eq (hN : big ≤ N) (x : worldTy.den) (hx : Fit worldTy x) (c : List (Str × Str)) (hc : c.length ≤ maxLen) (p : Str × List (Str × Str)) (hp : Fit (.pr .str (.sl (.pr .str .str))) p) (v : GValue) (hv : Fit (.rc .value) v)
    (hm : conditionsS x.1 x.2.1 = 0) (hval : valueE v = 0) : config_chosen N x v c p = some (chosenS x.1 x.2.1 c p v) := by
  obtain ⟨hs, hml, hok⟩ := cond_ok hm
  have hmm : x.2.1.length ≤ maxLen := Nat.le_trans hml (by decide)
  unfold config_chosen chosenS
  simp only [GValue.eta]
  rcases value_ok hval with ⟨h4, hpl⟩ | ⟨h4, hco, hcl⟩
  · rw [show (v.kind != (4 : Int)) = true by simp [h4], br_true, own_case hN hpl, bnd_some, if_pos h4]
  · have hcm : v.cases.length ≤ maxLen := Nat.le_trans hcl (by decide)
    rw [show (v.kind != (4 : Int)) = false by simp [h4], br_false, if_neg (by simpa using h4), checkNamed_eq hN _ hmm _ hcm, bnd_some]
    by_cases hn : namedS x.2.1 v.cases = 0
    · rw [if_neg (by simpa using hn), show (namedS x.2.1 v.cases != (0 : Int)) = false by simp [hn], br_false]
      generalize hcs : v.cases = cs at hco hcl hcm
      rw [loop0_eq hN hx.1 hx.2.1 hc p.1 hp.2.1 hs hml hok cs hcl]
      have hsl := sel_len x.1 x.2.1 c p cs
      have hselc : ∀ y ∈ selS x.1 x.2.1 c p cs, PlainV y.1.2 := fun y hy => hco.plain _ (sel_mem hy).1
      have hselz : ∀ y ∈ selS x.1 x.2.1 c p cs, CondOk x.1 y.2 := fun y hy => hok _ (sel_mem hy).2
      unfold pickS
      cases hsel : selS x.1 x.2.1 c p cs with
      | nil =>
        simp only [List.map_nil, List.length_nil]
        rw [show (((0 : Nat) : Int) == (0 : Int)) = true from rfl, br_true, IndexFunc_dflt hN _ hcm, bnd_some]
        rcases idxP_cases (fun k : Case => k.1 == dflt) cs with ⟨h1, h2⟩ | ⟨j, t, h1, h2, h3, h5⟩
        · rw [h1, h2]; simp [zeroV]
        · rw [h1, h5, decide_eq_false (show ¬ ((j : Int) < 0) by omega), br_false, geti_nat, h2, bnd_some, own_case hN (hco.plain t (List.mem_of_getElem? h2)), bnd_some]
      | cons s0 rest =>
        rw [hsel] at hsl hselc hselz
        have hp0 := hselc s0 (by simp)
        rw [show ((((s0 :: rest).map (·.1)).length : Int) == (0 : Int)) = false from beq_false_of_ne (by simp; omega), br_false]
        refine pick_eq hN (s0 :: rest) (by omega) hselc hselz s0 rest rfl fun b => ?_
        cases b
        · simp [zeroV]
        · rw [br_true, geti_zero, List.map_cons, List.getElem?_cons_zero, bnd_some, own_case hN hp0, bnd_some]
          simp only [GValue.eta, if_true]
    · rw [if_pos hn, show (namedS x.2.1 v.cases != (0 : Int)) = true by simp [hn], br_true]; rfl
/-- Chosen. -/
def choiceS (x : worldTy.den) (c : List (Str × Str)) (p : Str × List (Str × Str)) : Int := if conditionsS x.1 x.2.1 ≠ 0 then conditionsS x.1 x.2.1 else if configS x.1 c ≠ 0 then configS x.1 c else platformsS [p]
def ChosenS (x : worldTy.den) (v : GValue) (c : List (Str × Str)) (p : Str × List (Str × Str)) : GValue × Int :=
  if choiceS x c p ≠ 0 then (zeroV, choiceS x c p) else if valueE v ≠ 0 then (zeroV, valueE v) else chosenS x.1 x.2.1 c p v
theorem checkChoice_eq (hN : big ≤ N) (x : worldTy.den) (hx : Fit worldTy x) (c : List (Str × Str)) (hc : c.length ≤ maxLen) (p : Str × List (Str × Str)) (hp : Fit (.pr .str (.sl (.pr .str .str))) p) : config_checkChoice N x c p = some (choiceS x c p) := by
  unfold config_checkChoice choiceS
  rw [CheckConditions_eq hN _ hx.1 _ hx.2.1, bnd_some, checkConfig_eq hN _ hx.1 _ hc, bnd_some, CheckPlatforms_eq hN _ (fit_one hp), bnd_some, br_ne, br_ne]
  split
  · rfl
  · split <;> rfl
theorem choice_cond {x : worldTy.den} {c : List (Str × Str)} {p : Str × List (Str × Str)} (h : choiceS x c p = 0) : conditionsS x.1 x.2.1 = 0 := by
  unfold choiceS at h
  split at h
  · rename_i h1; exact absurd h h1
  · rename_i h1; exact Classical.not_not.1 h1
theorem Chosen_eq (hN : big ≤ N) (x : worldTy.den) (hx : Fit worldTy x) (v : GValue) (hv : Fit (.rc .value) v) (c : List (Str × Str)) (hc : c.length ≤ maxLen) (p : Str × List (Str × Str)) (hp : Fit (.pr .str (.sl (.pr .str .str))) p) : config_Chosen N x v c p = some (ChosenS x v c p) := by
  unfold config_Chosen ChosenS
  simp only [GValue.eta]
  rw [checkChoice_eq hN x hx c hc p hp, bnd_some, CheckValue_all hN v hv, bnd_some, br_ne, br_ne]
  split
  · rfl
  · rename_i h1
    split
    · rfl
    · rename_i h2
      rw [chosen_eq hN x hx c hc p hp v hv (choice_cond (Classical.not_not.1 h1)) (Classical.not_not.1 h2), bnd_some]
theorem pick_forA (sel : List (Case × Cond)) (s0 : Case) (k : Bool → GValue × Int) (Q : GValue × Int → Prop) (hk : ∀ b, Q (k b)) (hp : ∀ y ∈ sel, Q (y.1.2, 0)) : ∀ (xs : List (Case × Cond)) (i : Nat) (b : Bool), (∀ y ∈ xs, y ∈ sel) → Q (forA (pickB sel s0) k xs i b)
  | [], _, b, _ => hk b
  | y :: xs, i, b, h => by
    show Q (pickB sel s0 i y b _)
    unfold pickB
    split
    · exact hp y (h y (by simp))
    · exact pick_forA sel s0 k Q hk hp xs (i + 1) _ fun z hz => h z (List.mem_cons_of_mem _ hz)
/-- What is chosen is nothing, or the value, or that of one of its cases. -/
theorem chosen_mem (x : worldTy.den) (c : List (Str × Str)) (p : Str × List (Str × Str)) (v : GValue) : ((ChosenS x v c p).2 ≠ 0 ∧ (ChosenS x v c p).1 = zeroV) ∨
    ((ChosenS x v c p).2 = 0 ∧ choiceS x c p = 0 ∧ valueE v = 0 ∧ ((v.kind ≠ 4 ∧ (ChosenS x v c p).1 = v) ∨ (v.kind = 4 ∧ ∃ k ∈ v.cases, (ChosenS x v c p).1 = k.2))) := by
  unfold ChosenS
  split
  · rename_i h; exact .inl ⟨h, rfl⟩
  · rename_i h1
    split
    · rename_i h; exact .inl ⟨h, rfl⟩
    · rename_i h2
      have h1 := Classical.not_not.1 h1
      have h2 := Classical.not_not.1 h2
      unfold chosenS
      split
      · rename_i h4; exact .inr ⟨rfl, h1, h2, .inl ⟨h4, rfl⟩⟩
      · rename_i h4
        have h4 := Classical.not_not.1 h4
        split
        · rename_i h; exact .inl ⟨h, rfl⟩
        · unfold pickS
          split
          · split
            · rename_i k hk; exact .inr ⟨rfl, h1, h2, .inr ⟨h4, k, List.mem_of_find?_eq_some hk, rfl⟩⟩
            · exact .inl ⟨by decide, rfl⟩
          · rename_i s0 rest hsel
            have hin : ∀ y ∈ s0 :: rest, y.1 ∈ v.cases := fun y hy => (sel_mem (by rw [hsel]; exact hy)).1
            rw [hsel]
            refine pick_forA (s0 :: rest) s0.1 _ (fun r => (r.2 ≠ 0 ∧ r.1 = zeroV) ∨ (r.2 = 0 ∧ choiceS x c p = 0 ∧ valueE v = 0 ∧ ((v.kind ≠ 4 ∧ r.1 = v) ∨ (v.kind = 4 ∧ ∃ k ∈ v.cases, r.1 = k.2)))) (fun b => ?_) (fun y hy => .inr ⟨rfl, h1, h2, .inr ⟨h4, y.1, hin y hy, rfl⟩⟩) _ _ _ fun y hy => hy
            cases b
            · exact .inl ⟨fun h => (by cases h), rfl⟩
            · exact .inr ⟨rfl, h1, h2, .inr ⟨h4, s0.1, hin s0 (by simp), rfl⟩⟩
end Go.Proofs.YtbekhaioddmliaaDoor


/- What is chosen is one of the values that there are; chosen again it stays. No program in sight. -/
namespace Go.Proofs.YtbekhaioddmliaaDoor
set_option linter.unusedVariables false
set_option linter.unusedSimpArgs false
open Go Go.RowKit
variable {N : Nat}
theorem Same_all (hN : big ≤ N) (a b : GValue) (ha : a.cases = []) (hla : a.list.length ≤ maxLen) (hlb : b.list.length ≤ maxLen) : ref2_SameValue N N a b = some (sameP a b) := by
  obtain ⟨d, rfl⟩ : ∃ d, N = d + 1 := ⟨N - 1, by unfold big at hN; omega⟩
  exact SameValue_eq hN d a b ha hla hlb
theorem chosen_fit {x : worldTy.den} {c : List (Str × Str)} {p : Str × List (Str × Str)} {v a : GValue} (hv : Fit (.rc .value) v) (hval : valueE v = 0) (h : (v.kind ≠ 4 ∧ a = v) ∨ (v.kind = 4 ∧ ∃ k ∈ v.cases, a = k.2)) : PlainV a ∧ Fit (.rc .value) a ∧ valueE a = 0 := by
  rcases h with ⟨h4, rfl⟩ | ⟨h4, k, hk, rfl⟩
  · rcases value_ok hval with ⟨_, hp⟩ | ⟨h5, _⟩
    · exact ⟨hp, hv, hval⟩
    · exact absurd h5 h4
  · rcases value_ok hval with ⟨h5, _⟩ | ⟨_, hco, _⟩
    · exact absurd h4 h5
    · refine ⟨hco.plain k hk, ((valFit hv).2.2.2.2.2 k hk).2, ?_⟩
      unfold valueE
      rw [valS_plain (hco.plain k hk).kind _ 0]
      exact hco.right k hk
end Go.Proofs.YtbekhaioddmliaaDoor


/- It does not matter whether a value is added to a choice, or to what is chosen of it. No program in sight. -/
namespace Go.Proofs.YtbekhaioddmliaaDoor
set_option linter.unusedVariables false
set_option linter.unusedSimpArgs false
open Go Go.RowKit
variable {N : Nat}
def plusV (a b : GValue) : GValue := .mk a.kind (a.text ++ b.text) (IntKind.i64.wrap (a.number + b.number)) (a.list ++ b.list) []
theorem text_of {v : GValue} {cc : Int} (h : valS cc v = 0) : v.text.length ≤ 1000 := by
  apply Classical.byContradiction
  intro hn
  have e : decide ((v.text.length : Int) > 1000) = true := decide_eq_true (by omega)
  unfold valS at h
  by_cases c1 : decide (v.kind < 1) = true
  · rw [if_pos c1] at h; cases h
  · rw [if_neg c1] at h
    by_cases c2 : decide (v.kind > 4) = true
    · rw [if_pos c2] at h; cases h
    · rw [if_neg c2] at h
      by_cases c3 : formV v = true
      · rw [if_pos c3] at h; cases h
      · rw [if_neg c3] at h
        unfold tailV at h
        rw [if_pos e] at h; cases h
theorem Concat_two (hN : big ≤ N) (a b : List Str) (ha : a.length ≤ 100000) (hb : b.length ≤ 100000) : slices_Concat_string_string N [a, b] = some (a ++ b) := by
  obtain ⟨d, rfl⟩ : ∃ d, N = d + 3 := ⟨N - 3, by unfold big at hN; omega⟩
  have e0 : IntKind.i64.wrap ((0 : Int) + (a.length : Int)) = (a.length : Int) := by rw [Int.zero_add]; exact wrap_id (by omega) (by omega)
  have e1 : IntKind.i64.wrap ((a.length : Int) + (b.length : Int)) = ((a.length + b.length : Nat) : Int) := by rw [Int.natCast_add]; exact wrap_id (by omega) (by omega)
  have g0 : geti [a, b] (0 : Int) = some a := rfl
  have g1 : geti [a, b] (1 : Int) = some b := rfl
  have w1 : IntKind.i64.wrap ((0 : Int) + 1) = 1 := by decide
  have w2 : IntKind.i64.wrap ((1 : Int) + 1) = 2 := by decide
  have t0 : decide ((0 : Int) < 2) = true := rfl
  have t1 : decide ((1 : Int) < 2) = true := rfl
  have t2 : decide ((2 : Int) < 2) = false := rfl
  have n0 : decide ((a.length : Int) < 0) = false := decide_eq_false (by omega)
  have n1 : decide (((a.length + b.length : Nat) : Int) < 0) = false := decide_eq_false (by omega)
  have p0 : decide ((([] : List Str).length + a.length) * (24 * Ty.sz .str) ≤ 140737488355328) = true := decide_eq_true (by show (0 + a.length) * (24 * 1) ≤ _; omega)
  have p1 : decide ((a.length + b.length) * (24 * Ty.sz .str) ≤ 140737488355328) = true := decide_eq_true (by show (a.length + b.length) * (24 * 1) ≤ _; omega)
  have h0 : ∀ k, slices_Concat_string_string_L0 (d + 3) [a, b] 2 k (d + 3) 0 0 = k ((a.length + b.length : Nat) : Int) := by
    intro k
    simp only [slices_Concat_string_string_L0, slices_Concat_string_string_L0T, t0, t1, t2, g0, g1, w1, w2, e0, e1, n0, n1, bnd_some, br_true, br_false]
  have h1 : ∀ k, slices_Concat_string_string_L1 (d + 3) [a, b] 2 k (d + 3) 0 [] = k (a ++ b) := by
    intro k
    simp only [slices_Concat_string_string_L1, slices_Concat_string_string_L1T, t0, t1, t2, g0, g1, w1, w2, p0, p1, bnd_some, br_true, br_false, List.nil_append]
  have hg : slices_Grow_string ((a.length + b.length : Nat) : Int) = some [] := by
    unfold slices_Grow_string growF
    exact if_pos ⟨by omega, by show ((a.length + b.length : Nat) : Int) * ((24 * 1 : Nat) : Int) ≤ _; omega⟩
  show slices_Concat_string_string_L0 (d + 3) [a, b] 2 _ (d + 3) 0 0 = _
  rw [h0, hg, bnd_some]
  show slices_Concat_string_string_L1 (d + 3) [a, b] 2 _ (d + 3) 0 [] = _
  rw [h1]
/-- A value that can be added: its text and list are short. -/
structure Small (v : GValue) : Prop where
  text : v.text.length ≤ 1000
  list : v.list.length ≤ 1000
theorem small_of {v : GValue} {cc : Int} (h : valS cc v = 0) (h4 : v.kind ≠ 4) : Small v := ⟨text_of h, (plain_of h h4).list⟩
theorem plainSum_eq (hN : big ≤ N) {a b : GValue} (ha : Small a) (hb : Small b) : script_plainSum N a b = some (plusV a b) := by
  have h1 := ha.text
  have h2 := hb.text
  have h3 := ha.list
  have h4 := hb.list
  unfold script_plainSum
  rw [decide_eq_true (by omega : a.text.length + b.text.length ≤ 9223372036854775807), br_true, Concat_two hN _ _ (by omega) (by omega), bnd_some]
  rfl
def plusC (w : GValue) (k : Case) : Case := (k.1, plusV k.2 w)
theorem add_loop (hN : big ≤ N) {w : GValue} (hw : Small w) (cs : List Case) (hcl : cs.length ≤ 50) (hc : ∀ k ∈ cs, Small k.2) (K : List Case → Option (GValue × Int)) :
    script_add_L0 N cs (cs.length : Int) w.kind w.text w.number w.list w.cases K N 0 [] = K (cs.map (plusC w)) := by
  have hcm : cs.length ≤ maxLen := Nat.le_trans hcl (by decide)
  let st : Nat → List Case := fun i => (cs.take i).map (plusC w)
  have key := loop_st (S := List Case) (R := GValue × Int) (f := fun n i s => script_add_L0 N cs (cs.length : Int) w.kind w.text w.number w.list w.cases K n i s) (T := fun self i s => script_add_L0T N cs (cs.length : Int) w.kind w.text w.number w.list w.cases K self i s)
    (r := K (cs.map (plusC w))) (m := cs.length) (N := N) (fun n i s => rfl) hcm st
  have hT : ∀ (self : Int → List Case → Option (GValue × Int)) (i : Nat), i < cs.length → self ((i + 1 : Nat) : Int) (st (i + 1)) = K (cs.map (plusC w)) → script_add_L0T N cs (cs.length : Int) w.kind w.text w.number w.list w.cases K self (i : Int) (st i) = K (cs.map (plusC w)) := by
    intro self i h ih
    simp only [script_add_L0T, geti_lt cs h, bnd_some, GValue.eta, plainSum_eq hN (hc _ (List.getElem_mem h)) hw]
    have hst : (st i).length = i := by show ((cs.take i).map _).length = i; rw [List.length_map, List.length_take]; omega
    have e1 : decide (((st i).length + [(cs[i].1, plusV cs[i].2 w)].length) * (24 * Ty.sz (.pr .str (.rc .value))) ≤ 140737488355328) = true := decide_eq_true (by
      rw [hst]; show (_ + 1) * (24 * 6) ≤ _; omega)
    rw [lt_tt h, br_true, wrap_succ hcm h, e1, br_true]
    have e : st (i + 1) = st i ++ [(cs[i].1, plusV cs[i].2 w)] := by
      show (cs.take (i + 1)).map _ = (cs.take i).map _ ++ _
      rw [List.take_succ_eq_append_getElem h, List.map_append]
      rfl
    rw [← e]; exact ih
  have hE : ∀ self : Int → List Case → Option (GValue × Int), script_add_L0T N cs (cs.length : Int) w.kind w.text w.number w.list w.cases K self (cs.length : Int) (st cs.length) = K (cs.map (plusC w)) := by
    intro self
    simp only [script_add_L0T]
    rw [lt_fn, br_false]
    show K ((cs.take cs.length).map _) = _
    rw [List.take_length]
  exact key hT hE hN
def kindV (v : GValue) : Int := if v.kind = 4 then (match v.cases[0]? with | some d => d.2.kind | none => 0) else v.kind
theorem kindOf_eq {v : GValue} (h : v.kind = 4 → v.cases ≠ []) : script_kindOf N v = some (kindV v) := by
  unfold script_kindOf kindV
  by_cases h4 : v.kind = 4
  · rw [if_pos h4, beq_iff_eq.2 h4, br_true]
    have := h h4
    cases hc : v.cases with
    | nil => exact absurd hc this
    | cons a l => rw [geti_zero]; simp
  · rw [if_neg h4, beq_false_of_ne h4, br_false]
def sumV (v w : GValue) : GValue := if v.kind = 4 then .mk 4 [] 0 [] (v.cases.map (plusC w)) else plusV v w
def addS (v w : GValue) : GValue × Int := if kindV v ≠ w.kind then (zeroV, 6) else if valueE (sumV v w) ≠ 0 then (zeroV, valueE (sumV v w)) else (sumV v w, 0)
def AddS (v w : GValue) : GValue × Int := if valueE v ≠ 0 then (zeroV, valueE v) else if valueE w ≠ 0 then (zeroV, valueE w) else addS v w
theorem fit_list {a b : List Str} (ha : Fit (.sl .str) a) (hb : Fit (.sl .str) b) (h : a.length + b.length ≤ maxLen) : Fit (.sl .str) (a ++ b) :=
  ⟨by rw [List.length_append]; exact h, fun x hx => by
    rcases List.mem_append.1 hx with h | h
    · exact ha.2 x h
    · exact hb.2 x h⟩
theorem fit_plus {a b : GValue} (ha : Fit (.rc .value) a) (hb : Fit (.rc .value) b) (sa : Small a) (sb : Small b) : Fit (.rc .value) (plusV a b) := by
  obtain ⟨a1, a2, a3, a4, a5⟩ := valFit ha
  obtain ⟨b1, b2, b3, b4, b5⟩ := valFit hb
  have h1 := sa.text
  have h2 := sb.text
  have h3 := sa.list
  have h4 := sb.list
  refine FitR.intro (i := .value) ⟨a1, ?_, wf_wrap _ _, fit_list a4 b4 (by unfold maxLen; omega), ⟨Nat.zero_le _, fun x hx => absurd hx List.not_mem_nil⟩⟩
  show (a.text ++ b.text).length ≤ maxLen
  rw [List.length_append]; unfold maxLen; omega
theorem fit_sum {v w : GValue} (hv : Fit (.rc .value) v) (hw : Fit (.rc .value) w) (sw : Small w) (hs : v.kind ≠ 4 → Small v) (hc : ∀ k ∈ v.cases, Small k.2) : Fit (.rc .value) (sumV v w) := by
  unfold sumV
  split
  · obtain ⟨_, _, _, _, h5⟩ := valFit hv
    refine FitR.intro (i := .value) ⟨(by decide : (Lit.int .i64 (4 : Int)).wf = true), Nat.zero_le _, (by decide : (Lit.int .i64 (0 : Int)).wf = true), ⟨Nat.zero_le _, fun x hx => absurd hx List.not_mem_nil⟩, ⟨?_, fun x hx => ?_⟩⟩
    · show (v.cases.map _).length ≤ _
      rw [List.length_map]; exact h5.1
    · obtain ⟨k, hk, rfl⟩ := List.mem_map.1 hx
      exact ⟨(h5.2 k hk).1, fit_plus (h5.2 k hk).2 hw (hc k hk) sw⟩
  · rename_i h4
    exact fit_plus hv hw (hs h4) sw
theorem br_neq {R : Type} (a b : Int) {X Y : Option R} : br (a != b) X Y = if a ≠ b then X else Y := by
  by_cases h : a = b
  · subst h; rw [show (a != a) = false by simp, br_false, if_neg (by simp)]
  · rw [show (a != b) = true by simp [h], br_true, if_pos h]
theorem add_eq (hN : big ≤ N) {v w : GValue} (hv : Fit (.rc .value) v) (hw : Fit (.rc .value) w) (h1 : valueE v = 0) (h2 : valueE w = 0) (h4 : w.kind ≠ 4) : script_add N v w = some (addS v w) := by
  have sw : Small w := small_of h2 h4
  have hk : v.kind = 4 → v.cases ≠ [] := fun h => by
    rcases value_ok h1 with ⟨h5, _⟩ | ⟨_, hco, _⟩
    · exact absurd h h5
    · exact hco.some
  have hs : v.kind ≠ 4 → Small v := fun h => small_of h1 h
  have hc : ∀ k ∈ v.cases, Small k.2 := by
    rcases value_ok h1 with ⟨_, h5⟩ | ⟨_, hco, _⟩
    · rw [h5.cases]; intro k hk; exact absurd hk (by simp)
    · exact fun k hk => small_of (hco.right k hk) (hco.plain k hk).kind
  have hf := fit_sum hv hw sw hs hc
  have ew : (w.kind == (4 : Int)) = false := beq_false_of_ne h4
  have ekw : kindV w = w.kind := if_neg h4
  unfold script_add addS
  simp only [GValue.eta, kindOf_eq hk, kindOf_eq (N := N) (v := w) (fun h => absurd h h4), bnd_some, ekw, ew, br_false]
  rw [br_neq]
  split
  · rfl
  · by_cases h : v.kind = 4
    · have hl : v.cases.length ≤ 50 := by
        rcases value_ok h1 with ⟨h5, _⟩ | ⟨_, _, h6⟩
        · exact absurd h h5
        · exact h6
      have es : sumV v w = .mk 4 [] 0 [] (v.cases.map (plusC w)) := if_pos h
      rw [es] at hf ⊢
      simp only [beq_iff_eq.2 h, br_true, add_loop hN sw v.cases hl hc, CheckValue_all hN _ hf, bnd_some]
      rw [br_ne]
      split <;> rfl
    · have es : sumV v w = plusV v w := if_neg h
      rw [es] at hf ⊢
      simp only [beq_false_of_ne h, br_false, plainSum_eq hN (hs h) sw, bnd_some, GValue.eta, CheckValue_all hN _ hf]
      rw [br_ne]
      split <;> rfl
theorem Add_eq (hN : big ≤ N) {v w : GValue} (hv : Fit (.rc .value) v) (hw : Fit (.rc .value) w) (h4 : w.kind ≠ 4) : script_Add N v w = some (AddS v w) := by
  unfold script_Add script_checkTwo AddS
  simp only [GValue.eta, CheckValue_all hN v hv, CheckValue_all hN w hw, bnd_some]
  rw [br_ne]
  by_cases h1 : valueE v = 0
  · by_cases h2 : valueE w = 0
    · rw [if_neg (by simp [h1]), if_neg (by simp [h1]), bnd_some, if_neg (by simp [h2]), br_ne, if_neg (by simp [h2]), add_eq hN hv hw h1 h2 h4, bnd_some]
    · rw [if_neg (by simp [h1]), if_neg (by simp [h1]), bnd_some, if_pos h2, br_ne, if_pos h2]
      rfl
  · rw [if_pos h1, if_pos h1, bnd_some, br_ne, if_pos h1]
    rfl
theorem sameP_plus {a b : GValue} (w : GValue) (h : sameP a b = true) : sameP (plusV a w) (plusV b w) = true := by
  unfold sameP at h
  simp only [Bool.and_eq_true, beq_iff_eq, decide_eq_true_eq] at h
  obtain ⟨h1, h2, h3, h4, h5⟩ := h
  simp [sameP, plusV, h1, h2, h3, h4]
  rfl
def plusY (w : GValue) (y : Case × Cond) : Case × Cond := (plusC w y.1, y.2)
theorem pickB_eq (S : List (Case × Cond)) (s : Case) (i : Nat) (x : Case × Cond) (b : Bool) (g : Bool → GValue × Int) : pickB S s i x b g = if bestTo (S.map (·.2)) i S.length = true then (x.1.2, 0) else g (b && sameP s.2 x.1.2) := rfl
theorem forA_plus (w : GValue) (sel : List (Case × Cond)) (s0 : Case) (r : GValue) : ∀ (xs : List (Case × Cond)) (i : Nat) (b b' : Bool), (b = true → b' = true) →
    forA (pickB sel s0) (fun b => if b = true then (s0.2, (0 : Int)) else (zeroV, 12)) xs i b = (r, 0) →
    forA (pickB (sel.map (plusY w)) (plusC w s0)) (fun b => if b = true then ((plusC w s0).2, (0 : Int)) else (zeroV, 12)) (xs.map (plusY w)) i b' = (plusV r w, 0)
  | [], i, b, b', hb, h => by
    have h : (if b = true then (s0.2, (0 : Int)) else (zeroV, 12)) = (r, 0) := h
    show (if b' = true then ((plusC w s0).2, (0 : Int)) else (zeroV, 12)) = _
    split at h
    · rename_i h1
      rw [if_pos (hb h1)]
      have : s0.2 = r := congrArg Prod.fst h
      rw [← this]; rfl
    · have : (12 : Int) = 0 := congrArg Prod.snd h
      cases this
  | y :: xs, i, b, b', hb, h => by
    have h : pickB sel s0 i y b (fun b => forA (pickB sel s0) (fun b => if b = true then (s0.2, (0 : Int)) else (zeroV, 12)) xs (i + 1) b) = (r, 0) := h
    show pickB (sel.map (plusY w)) (plusC w s0) i (plusY w y) b' (fun b => forA (pickB (sel.map (plusY w)) (plusC w s0)) (fun b => if b = true then ((plusC w s0).2, (0 : Int)) else (zeroV, 12)) (xs.map (plusY w)) (i + 1) b) = _
    rw [pickB_eq] at h ⊢
    have e1 : (sel.map (plusY w)).map (·.2) = sel.map (·.2) := by rw [List.map_map]; rfl
    rw [e1, List.length_map]
    split at h
    · rename_i h1
      rw [if_pos h1]
      have : y.1.2 = r := congrArg Prod.fst h
      rw [← this]; rfl
    · rename_i h1
      rw [if_neg h1]
      refine forA_plus w sel s0 r xs (i + 1) _ _ (fun hx => ?_) h
      rw [Bool.and_eq_true] at hx ⊢
      exact ⟨hb hx.1, sameP_plus w hx.2⟩
theorem selF_plus (w : GValue) (l : List (Str × List Str)) (m : List Cond) (c : List (Str × Str)) (p : Str × List (Str × Str)) (k : Case) : selF l m c p (plusC w k) = (selF l m c p k).map (plusY w) := by
  unfold selF
  show (match m.find? (fun x => x.1 == k.1) with | some z => _ | none => _) = _
  cases m.find? (fun x => x.1 == k.1) with
  | none => rfl
  | some z =>
    dsimp only
    split <;> rfl
theorem selS_plus (w : GValue) (l : List (Str × List Str)) (m : List Cond) (c : List (Str × Str)) (p : Str × List (Str × Str)) : ∀ (cs : List Case), selS l m c p (cs.map (plusC w)) = (selS l m c p cs).map (plusY w)
  | [] => rfl
  | k :: cs => by
    have ih := selS_plus w l m c p cs
    unfold selS at ih ⊢
    rw [List.map_cons, List.filterMap_cons, List.filterMap_cons, selF_plus, ih]
    cases selF l m c p k <;> rfl
theorem chosenS_plus (w : GValue) {l : List (Str × List Str)} {m : List Cond} {c : List (Str × Str)} {p : Str × List (Str × Str)} {v a : GValue} (h4 : v.kind = 4) (h : chosenS l m c p v = (a, 0)) : chosenS l m c p (sumV v w) = (plusV a w, 0) := by
  have es : sumV v w = .mk 4 [] 0 [] (v.cases.map (plusC w)) := if_pos h4
  rw [es]
  unfold chosenS at h ⊢
  rw [if_neg (by simp [h4])] at h
  show (if (4 : Int) ≠ 4 then _ else if namedS m (v.cases.map (plusC w)) ≠ 0 then _ else pickS (selS l m c p (v.cases.map (plusC w))) (v.cases.map (plusC w))) = _
  have en : namedS m (v.cases.map (plusC w)) = namedS m v.cases := by
    unfold namedS
    rw [List.any_map]
    rfl
  rw [if_neg (by simp), en, selS_plus]
  split at h
  · rename_i h1
    exact absurd (congrArg Prod.snd h) h1
  · rename_i h1
    rw [if_neg h1]
    cases hsel : selS l m c p v.cases with
    | nil =>
      rw [hsel] at h
      show (match (v.cases.map (plusC w)).find? (fun k => k.1 == dflt) with | some k => (k.2, (0 : Int)) | none => (zeroV, 9)) = _
      have h : (match v.cases.find? (fun k => k.1 == dflt) with | some k => (k.2, (0 : Int)) | none => (zeroV, 9)) = (a, 0) := h
      rw [List.find?_map]
      show (match (v.cases.find? (fun k => k.1 == dflt)).map (plusC w) with | some k => (k.2, (0 : Int)) | none => (zeroV, 9)) = _
      cases hf : v.cases.find? (fun k => k.1 == dflt) with
      | none =>
        rw [hf] at h
        have : (9 : Int) = 0 := congrArg Prod.snd h
        cases this
      | some k =>
        rw [hf] at h
        have : k.2 = a := congrArg Prod.fst h
        rw [← this]; rfl
    | cons s0 rest =>
      rw [hsel] at h
      exact forA_plus w (s0 :: rest) s0.1 a (s0 :: rest) 0 true true (fun h => h) h
theorem cases_right {v : GValue} (h : valueE v = 0) (h4 : v.kind = 4) : casesS v.cases = 0 := by
  unfold valueE valS at h
  split at h
  · cases h
  · split at h
    · cases h
    · split at h
      · cases h
      · unfold tailV at h
        split at h
        · cases h
        · split at h
          · cases h
          · split at h
            · cases h
            · split at h
              · cases h
              · split at h
                · cases h
                · split at h
                  · cases h
                  · split at h
                    · cases h
                    · split at h
                      · cases h
                      · rw [h4] at h
                        exact h
theorem kind_first {l : List Case} (h : casesS l = 0) : ∀ k ∈ l, k.2.kind = (match l[0]? with | some d => d.2.kind | none => 0) := by
  unfold casesS at h
  split at h
  · cases h
  · have := (forT_zero (q := fun i c => textE c.1 = 0 ∧ (l.take i).any (fun d => d.1 == c.1) = false ∧ c.2.kind ≠ 4 ∧ valS 0 c.2 = 0 ∧ c.2.kind = (match l[0]? with | some d => d.2.kind | none => 0)) (body := caseB l) (fun i c r => by
      unfold caseB
      by_cases h1 : textE c.1 = 0 <;> by_cases h2 : (l.take i).any (fun d => d.1 == c.1) = true <;> by_cases h3 : c.2.kind = 4 <;> by_cases h4 : valS 0 c.2 = 0 <;> simp [h1, h2, h3, h4]
      all_goals (first | (split <;> (first | (split <;> simp_all) | simp_all)) | skip)) l 0).1 h
    intro k hk
    obtain ⟨i, hi, rfl⟩ := List.mem_iff_getElem.1 hk
    exact (this i hi).2.2.2.2
theorem valueE_plain {v : GValue} (h4 : v.kind ≠ 4) (h : valS 0 v = 0) : valueE v = 0 := by
  unfold valueE
  rw [valS_plain h4 _ 0]; exact h
/-- What is chosen of the sum is the sum of what is chosen. -/
theorem chosen_plus {x : worldTy.den} {c : List (Str × Str)} {p : Str × List (Str × Str)} {v w : GValue} (h4 : w.kind ≠ 4) (hf : (AddS v w).2 = 0) (hg : (ChosenS x v c p).2 = 0) :
    ChosenS x (AddS v w).1 c p = (plusV (ChosenS x v c p).1 w, 0) ∧ AddS (ChosenS x v c p).1 w = (plusV (ChosenS x v c p).1 w, 0) := by
  rcases chosen_mem x c p v with ⟨h, _⟩ | ⟨_, hch, hval, hcase⟩
  · exact absurd hg h
  · have hw : valueE w = 0 := by
      unfold AddS at hf
      rw [if_neg (by simp [hval])] at hf
      split at hf
      · exact hf
      · rename_i h; exact Classical.not_not.1 h
    have ha : AddS v w = addS v w := by unfold AddS; rw [if_neg (by simp [hval]), if_neg (by simp [hw])]
    rw [ha] at hf ⊢
    have hk : kindV v = w.kind := by
      unfold addS at hf
      split at hf
      · cases hf
      · rename_i h; exact Classical.not_not.1 h
    have hs : valueE (sumV v w) = 0 := by
      unfold addS at hf
      rw [if_neg (by simp [hk])] at hf
      split at hf
      · exact hf
      · rename_i h; exact Classical.not_not.1 h
    have ea : addS v w = (sumV v w, 0) := by unfold addS; rw [if_neg (by simp [hk]), if_neg (by simp [hs])]
    rw [ea]
    have hC : ∀ u : GValue, valueE u = 0 → ChosenS x u c p = chosenS x.1 x.2.1 c p u := fun u hu => by
      unfold ChosenS; rw [if_neg (by simp [hch]), if_neg (by simp [hu])]
    have hA : ∀ a : GValue, a.kind ≠ 4 → valueE a = 0 → a.kind = w.kind → valueE (plusV a w) = 0 → AddS a w = (plusV a w, 0) := fun a h5 h6 h7 h8 => by
      have e1 : sumV a w = plusV a w := if_neg h5
      have e2 : kindV a = w.kind := by unfold kindV; rw [if_neg h5]; exact h7
      unfold AddS addS
      rw [if_neg (by simp [h6]), if_neg (by simp [hw]), if_neg (by simp [e2]), e1, if_neg (by simp [h8])]
    rcases hcase with ⟨h5, h6⟩ | ⟨h5, k, hkm, h6⟩
    · have e1 : sumV v w = plusV v w := if_neg h5
      have e2 : v.kind = w.kind := by unfold kindV at hk; rw [if_neg h5] at hk; exact hk
      rw [e1] at hs
      rw [h6, e1]
      refine ⟨?_, hA v h5 hval e2 hs⟩
      show ChosenS x (plusV v w) c p = _
      rw [hC _ hs]
      unfold chosenS
      exact if_pos h5
    · have hcs := cases_right hval h5
      have hco := cases_ok hcs
      have e1 : sumV v w = .mk 4 [] 0 [] (v.cases.map (plusC w)) := if_pos h5
      have hch2 : chosenS x.1 x.2.1 c p v = ((ChosenS x v c p).1, 0) := by
        rw [← hC v hval, ← hg]
      refine ⟨?_, ?_⟩
      · rw [hC _ hs]
        exact chosenS_plus w h5 hch2
      · rw [h6]
        have hpk := (hco.plain k hkm).kind
        refine hA k.2 hpk (valueE_plain hpk (hco.right k hkm)) ?_ ?_
        · rw [kind_first hcs k hkm, ← hk]
          unfold kindV
          rw [if_pos h5]
          rfl
        · have hm : plusC w k ∈ (sumV v w).cases := by
            rw [e1]; exact List.mem_map.2 ⟨k, hkm, rfl⟩
          have h7 : (sumV v w).kind = 4 := by rw [e1]; rfl
          have := (cases_ok (cases_right hs h7)).right _ hm
          exact valueE_plain hpk this
theorem thenAdd_eq (hN : big ≤ N) (hawake : law3_awake N = some true) (x : worldTy.den) (hx : Fit worldTy x) (v w : GValue) (hv : Fit (.rc .value) v) (hw : Fit (.rc .value) w) (c : List (Str × Str)) (hc : c.length ≤ maxLen) (p : Str × List (Str × Str)) (hp : Fit (.pr .str (.sl (.pr .str .str))) p) :
    law3_ConfigChosenThenAdd N x v w c p = some true := by
  unfold law3_ConfigChosenThenAdd
  simp only [hawake, bnd_some]
  by_cases h4 : w.kind = 4
  · rw [beq_iff_eq.2 h4, br_true]
  · rw [beq_false_of_ne h4, br_false]
    simp only [GValue.eta, Add_eq hN hv hw h4, Chosen_eq hN x hx v hv c hc p hp, bnd_some]
    rw [br_ne, br_ne]
    split
    · rfl
    · rename_i hf
      have hf := Classical.not_not.1 hf
      split
      · rfl
      · rename_i hg
        have hg := Classical.not_not.1 hg
        obtain ⟨h1, h2⟩ := chosen_plus (x := x) (c := c) (p := p) h4 hf hg
        have hm := chosen_mem x c p v
        have hfa : Fit (.rc .value) (ChosenS x v c p).1 ∧ Fit (.rc .value) (AddS v w).1 ∧ (ChosenS x v c p).1.list.length ≤ 1000 ∧ w.list.length ≤ 1000 := by
          rcases hm with ⟨h, _⟩ | ⟨_, hch, hval, hcase⟩
          · exact absurd hg h
          · obtain ⟨hpl, hfa, hva⟩ := chosen_fit (x := x) (c := c) (p := p) hv hval hcase
            have hw0 : valueE w = 0 := by
              unfold AddS at hf
              rw [if_neg (by simp [hval])] at hf
              split at hf
              · exact hf
              · rename_i h; exact Classical.not_not.1 h
            have sw := small_of hw0 h4
            refine ⟨hfa, ?_, hpl.list, sw.list⟩
            have ha : AddS v w = addS v w := by unfold AddS; rw [if_neg (by simp [hval]), if_neg (by simp [hw0])]
            rw [ha] at hf ⊢
            unfold addS at hf ⊢
            split at hf
            · cases hf
            · rename_i h5
              rw [if_neg h5]
              split at hf
              · rename_i h6; exact absurd hf h6
              · rename_i h6
                rw [if_neg h6]
                refine fit_sum hv hw sw (fun h => small_of hval h) ?_
                rcases value_ok hval with ⟨_, h7⟩ | ⟨_, hco, _⟩
                · rw [h7.cases]; intro k hk; exact absurd hk (by simp)
                · exact fun k hk => small_of (hco.right k hk) (hco.plain k hk).kind
        obtain ⟨hfa, hfs, hl1, hl2⟩ := hfa
        have hl : (plusV (ChosenS x v c p).1 w).list.length ≤ maxLen := by
          show (_ ++ _ : List Str).length ≤ _
          rw [List.length_append]; unfold maxLen; omega
        simp only [Chosen_eq hN x hx _ hfs c hc p hp, Add_eq hN hfa hw h4, h1, h2, bnd_some, Same_all hN _ _ (show (plusV (ChosenS x v c p).1 w).cases = [] from rfl) hl hl, sameP_self (show (plusV (ChosenS x v c p).1 w).cases = [] from rfl)]
        simp
theorem plain_ConfigChosenThenAdd (x : worldTy.den) (v w : GValue) (c : List (Str × Str)) (p : Str × List (Str × Str)) (hx : Fit worldTy x) (hv : Fit (.rc .value) v) (hw : Fit (.rc .value) w) (hc : Fit pairTy c) (hp : Fit (.pr .str (.sl (.pr .str .str))) p) : ∃ N, law3_ConfigChosenThenAdd N x v w c p = some true :=
  ⟨big, thenAdd_eq (Nat.le_refl _) awake_eq x hx v w hv hw c hc.1 p hp⟩
end Go.Proofs.YtbekhaioddmliaaDoor

