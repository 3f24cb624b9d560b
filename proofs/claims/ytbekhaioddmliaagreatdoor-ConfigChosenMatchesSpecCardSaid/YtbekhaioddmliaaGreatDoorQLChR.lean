/- What is chosen of a value. No program in sight. -/
import Derived.Test.YtbekhaioddmliaaGreatDoorQLVal
import Derived.Test.YtbekhaioddmliaaGreatDoorQEnd
namespace Go.Proofs.YtbekhaioddmliaaGreatDoor
set_option linter.unusedVariables false
set_option linter.unusedSimpArgs false
open Go Go.RowKit
variable {N : Nat}
abbrev Cond : Type := Str × List (Str × Str) × List (Str × Str)
abbrev dflt : Str := [100, 101, 102, 97, 117, 108, 116]
theorem IndexFunc_cond (hN : big ≤ N) (xs : List Cond) (hx : xs.length ≤ maxLen) (n : Str) : slices_IndexFunc_api_Condition N xs (n, ()) = some (idxP (fun x => x.1 == n) xs) := by
  unfold slices_IndexFunc_api_Condition
  refine loop_for (fun _ _ => rfl) xs hx (fun self i h r hr => ?_) (fun self => ?_) hN
  · simp only [z5L0T, geti_lt xs h, wrap_succ hx h, hr, bnd_some, config_conditionOf_1]
    rw [lt_tt h, br_true, br_ite]
  · simp only [z5L0T, lt_ff, br_false]
theorem conditionOf_eq (hN : big ≤ N) (m : List Cond) (hm : m.length ≤ maxLen) (n : Str) : config_conditionOf N m n = some (findF (fun x => x.1 == n) (fun x => (x, true)) (([], ([], [])), false) m) := by
  unfold config_conditionOf findF
  rw [IndexFunc_cond hN m hm, bnd_some]
  rcases idxP_cases (fun x : Cond => x.1 == n) m with ⟨h1, h2⟩ | ⟨j, t, h1, h2, h3, h4⟩
  · rw [h1, h2]; simp
  · rw [h1, h4, decide_eq_false (show ¬ ((j : Int) < 0) by omega), br_false, geti_nat, h2, bnd_some]
def moreS (a b : Cond) : Bool := b.2.1.all (hasPair a.2.1) && (b.2.2.all (hasPair a.2.2) && decide (a.2.1.length + a.2.2.length > b.2.1.length + b.2.2.length))
structure CondOk (l : List (Str × List Str)) (x : Cond) : Prop where
  name : condS x.1 = true
  needs : x.2.1.length ≤ 30
  on : x.2.2.length ≤ 30
  found : ∀ n ∈ x.2.1, (l.find? (fun s => s.1 == n.1)).isSome = true
theorem cond_ok {l : List (Str × List Str)} {m : List Cond} (h : conditionsS l m = 0) : settingsS l = 0 ∧ m.length ≤ 100 ∧ ∀ x ∈ m, CondOk l x := by
  have hf := cond_found h
  refine ⟨hf.1, ?_, fun x hx => ?_⟩
  · unfold conditionsS at h
    rw [if_neg (by simpa using hf.1)] at h
    split at h
    · cases h
    · omega
  · unfold conditionsS at h
    rw [if_neg (by simpa using hf.1)] at h
    split at h
    · cases h
    · have := forT_keep (p := fun x : Cond => condS x.1 = true ∧ x.2.1.length ≤ 30 ∧ x.2.2.length ≤ 30) (body := condB1 l m) (fun i x r h => by
        unfold condB1 at h
        split at h
        · cases h
        · rename_i h1
          split at h
          · cases h
          · rename_i h2
            split at h
            · cases h
            · rename_i h3
              split at h
              · rename_i h4; exact absurd h (of_decide_eq_true h4)
              · split at h
                · rename_i h5; exact absurd h (of_decide_eq_true h5)
                · refine ⟨⟨by simpa using h1, ?_, ?_⟩, prevS_keep h⟩
                  · have : ¬ (30 < x.2.1.length) := fun h => h2 (decide_eq_true h)
                    omega
                  · have : ¬ (30 < x.2.2.length) := fun h => h3 (decide_eq_true h)
                    omega) m 0 h x hx
      exact ⟨this.1, this.2.1, this.2.2, pairs_found (hf.2 x hx)⟩
theorem isMore_eq (hN : big ≤ N) (a b : Cond) {l : List (Str × List Str)} (ha : CondOk l a) (hb : CondOk l b) : config_isMore N a b = some (moreS a b) := by
  have h30 : (30 : Nat) ≤ maxLen := by decide
  unfold config_isMore moreS
  rw [Fit_eq hN _ _ (Nat.le_trans hb.needs h30) (Nat.le_trans ha.needs h30), bnd_some, Fit_eq hN _ _ (Nat.le_trans hb.on h30) (Nat.le_trans ha.on h30), bnd_some]
  have h1 := ha.needs
  have h2 := ha.on
  have h3 := hb.needs
  have h4 := hb.on
  rw [wrap_id (by omega) (by omega), wrap_id (by omega) (by omega), (decide_eq_decide.2 (by omega) : decide ((a.2.1.length : Int) + (a.2.2.length : Int) > (b.2.1.length : Int) + (b.2.2.length : Int)) = decide (a.2.1.length + a.2.2.length > b.2.1.length + b.2.2.length))]
  cases b.2.1.all (hasPair a.2.1) <;> cases b.2.2.all (hasPair a.2.2) <;> simp
def oddC (m : List Cond) (c : Case) : Bool := (m.find? (fun x => x.1 == c.1)).isNone && !(c.1 == dflt)
def namedS (m : List Cond) (l : List Case) : Int := if l.any (oddC m) = true then 5 else 0
theorem checkNamed_eq (hN : big ≤ N) (m : List Cond) (hm : m.length ≤ maxLen) (v : GValue) (hv : v.cases.length ≤ maxLen) : config_checkNamed N m v = some (namedS m v.cases) := by
  unfold config_checkNamed namedS
  rw [← forT_guard (oddC m) (5 : Int) 0 v.cases 0]
  refine loop_for (fun _ _ => rfl) v.cases hv (fun self i h r hr => ?_) (fun self => ?_) hN
  · simp only [z39L0T, geti_lt _ h, wrap_succ hv h, hr, bnd_some, conditionOf_eq hN m hm]
    rw [lt_tt h, br_true]
    unfold oddC findF
    cases m.find? (fun x => x.1 == v.cases[i].1) with
    | none => simp only [Bool.not_false, br_true, Option.isNone_none, Bool.true_and, br_ite]; rfl
    | some z => simp
  · simp only [z39L0T, lt_ff, br_false]
def selF (l : List (Str × List Str)) (m : List Cond) (c : List (Str × Str)) (p : Str × List (Str × Str)) (k : Case) : Option (Case × Cond) := match m.find? (fun x => x.1 == k.1) with
  | some z => if holdsS l z c p = true then some (k, z) else none
  | none => none
def selS (l : List (Str × List Str)) (m : List Cond) (c : List (Str × Str)) (p : Str × List (Str × Str)) (cs : List Case) : List (Case × Cond) := cs.filterMap (selF l m c p)
def bestTo (ws : List Cond) (i k : Nat) : Bool := (List.range k).all fun j => decide (j = i) || match ws[i]?, ws[j]? with | some a, some b => moreS a b | _, _ => false
theorem bestTo_succ (ws : List Cond) (i k : Nat) (hi : i < ws.length) (hk : k < ws.length) : bestTo ws i (k + 1) = (bestTo ws i k && (decide (k = i) || moreS ws[i] ws[k])) := by
  unfold bestTo
  rw [List.range_succ, List.all_append, List.getElem?_eq_getElem hi]
  simp [List.getElem?_eq_getElem hk]
def zeroV : GValue := .mk 0 [] 0 [] []
def pickB (sel : List (Case × Cond)) (s0 : Case) (i : Nat) (x : Case × Cond) (b : Bool) (g : Bool → GValue × Int) : GValue × Int := if bestTo (sel.map (·.2)) i sel.length = true then (x.1.2, 0) else g (b && sameP s0.2 x.1.2)
def pickS (sel : List (Case × Cond)) (cs : List Case) : GValue × Int := match sel with
  | [] => match cs.find? (fun k => k.1 == dflt) with
    | some k => (k.2, 0)
    | none => (zeroV, 9)
  | s0 :: _ => forA (pickB sel s0.1) (fun b => if b = true then (s0.1.2, 0) else (zeroV, 12)) sel 0 true
def chosenS (l : List (Str × List Str)) (m : List Cond) (c : List (Str × Str)) (p : Str × List (Str × Str)) (v : GValue) : GValue × Int :=
  if v.kind ≠ 4 then (v, 0) else if namedS m v.cases ≠ 0 then (zeroV, namedS m v.cases) else pickS (selS l m c p v.cases) v.cases
theorem IndexFunc_dflt (hN : big ≤ N) (xs : List Case) (hx : xs.length ≤ maxLen) : slices_IndexFunc_api_Case_2 N xs () = some (idxP (fun x => x.1 == dflt) xs) := by
  unfold slices_IndexFunc_api_Case_2
  refine loop_for (fun _ _ => rfl) xs hx (fun self i h r hr => ?_) (fun self => ?_) hN
  · simp only [z12L0T, geti_lt xs h, wrap_succ hx h, hr, bnd_some, config_chosen_1]
    rw [lt_tt h, br_true, br_ite]
  · simp only [z12L0T, lt_ff, br_false]
theorem Equal_eq (hN : big ≤ N) (r : Case → Case → Option Bool) (a b : GValue) (ha : a.cases = []) (hb : b.cases = []) (hla : a.list.length ≤ maxLen) (hlb : b.list.length ≤ maxLen) : script_Equal N r a b = some (sameP a b) := by
  unfold script_Equal sameP
  rw [Equal_str hN _ _ hla hlb, bnd_some, ha, hb]
  have hE : slices_EqualFunc_api_Case N r [] [] () = some true := by
    unfold slices_EqualFunc_api_Case
    obtain ⟨n, rfl⟩ : ∃ n, N = n + 1 := ⟨N - 1, by unfold big at hN; omega⟩
    have : z16L0 (n + 1) r [] [] ((([] : List Case).length : Nat) : Int) (some true) (n + 1) 0 = some true := by
      show z16L0T _ _ _ _ _ _ _ _ = _
      simp [z16L0T]
    rw [this]; simp
  rw [hE]
  cases a.kind == b.kind <;> cases a.text == b.text <;> cases a.number == b.number <;> cases decide (a.list = b.list) <;> simp
theorem own_case (hN : big ≤ N) {v : GValue} (h : PlainV v) : script_Own N N v = some v := by
  obtain ⟨d, rfl⟩ : ∃ d, N = d + 1 := ⟨N - 1, by unfold big at hN; omega⟩
  exact Own_eq hN d v h.cases (by have := h.list; omega)
theorem best2_eq (hN : big ≤ N) {l : List (Str × List Str)} (ws : List Cond) (hw : ws.length ≤ 50) (hok : ∀ z ∈ ws, CondOk l z) (i : Nat) (hi : i < ws.length) (k4 : Bool → Option (GValue × Int)) :
    z63L2 N (i : Int) (ws.length : Int) ws k4 N true 0 = k4 (bestTo ws i ws.length) := by
  have hm : ws.length ≤ maxLen := Nat.le_trans hw (by decide)
  refine loop_st (f := fun n j b => z63L2 N (i : Int) (ws.length : Int) ws k4 n b j) (T := fun self j b => z63L2T N (i : Int) (ws.length : Int) ws k4 (fun b j => self j b) b j) (fun _ _ _ => rfl) hm (fun j => bestTo ws i j) (fun self j hj ih => ?_) (fun self => ?_) hN
  · simp only [z63L2T]
    rw [lt_tn hj, br_true, wrap_s hm hj]
    rw [bestTo_succ ws i j hi hj] at ih
    cases hb : bestTo ws i j with
    | false => rw [br_false]; rw [hb, Bool.false_and] at ih; exact ih
    | true =>
      rw [br_true]
      rw [hb, Bool.true_and] at ih
      by_cases hji : j = i
      · rw [show ((j : Int) == (i : Int)) = true by simp [hji], br_true]
        rw [decide_eq_true hji, Bool.true_or] at ih; exact ih
      · rw [show ((j : Int) == (i : Int)) = false from beq_false_of_ne (by omega), br_false, geti_lt ws hi, bnd_some, geti_lt ws hj, bnd_some, isMore_eq hN _ _ (hok _ (List.getElem_mem hi)) (hok _ (List.getElem_mem hj)), bnd_some]
        rw [decide_eq_false hji, Bool.false_or] at ih; exact ih
  · simp only [z63L2T]
    rw [lt_fn, br_false]
theorem best3_eq (hN : big ≤ N) {l : List (Str × List Str)} (ws : List Cond) (hw : ws.length ≤ 50) (hok : ∀ z ∈ ws, CondOk l z) (i : Nat) (hi : i < ws.length) (k4 : Bool → Option (GValue × Int)) :
    z63L3 N (i : Int) (ws.length : Int) ws k4 N true 0 = k4 (bestTo ws i ws.length) := by
  have hm : ws.length ≤ maxLen := Nat.le_trans hw (by decide)
  refine loop_st (f := fun n j b => z63L3 N (i : Int) (ws.length : Int) ws k4 n b j) (T := fun self j b => z63L3T N (i : Int) (ws.length : Int) ws k4 (fun b j => self j b) b j) (fun _ _ _ => rfl) hm (fun j => bestTo ws i j) (fun self j hj ih => ?_) (fun self => ?_) hN
  · simp only [z63L3T]
    rw [lt_tn hj, br_true, wrap_s hm hj]
    rw [bestTo_succ ws i j hi hj] at ih
    cases hb : bestTo ws i j with
    | false => rw [br_false]; rw [hb, Bool.false_and] at ih; exact ih
    | true =>
      rw [br_true]
      rw [hb, Bool.true_and] at ih
      by_cases hji : j = i
      · rw [show ((j : Int) == (i : Int)) = true by simp [hji], br_true]
        rw [decide_eq_true hji, Bool.true_or] at ih; exact ih
      · rw [show ((j : Int) == (i : Int)) = false from beq_false_of_ne (by omega), br_false, geti_lt ws hi, bnd_some, geti_lt ws hj, bnd_some, isMore_eq hN _ _ (hok _ (List.getElem_mem hi)) (hok _ (List.getElem_mem hj)), bnd_some]
        rw [decide_eq_false hji, Bool.false_or] at ih; exact ih
  · simp only [z63L3T]
    rw [lt_fn, br_false]
theorem sel_take (l : List (Str × List Str)) (m : List Cond) (c : List (Str × Str)) (p : Str × List (Str × Str)) (cs : List Case) {i : Nat} (h : i < cs.length) :
    selS l m c p (cs.take (i + 1)) = selS l m c p (cs.take i) ++ (match selF l m c p cs[i] with | some y => [y] | none => []) := by
  unfold selS
  rw [List.take_succ_eq_append_getElem h, List.filterMap_append]
  congr 1
  simp only [List.filterMap_cons, List.filterMap_nil]
  cases selF l m c p cs[i] <;> rfl
theorem sel_mem {l : List (Str × List Str)} {m : List Cond} {c : List (Str × Str)} {p : Str × List (Str × Str)} {cs : List Case} {y : Case × Cond} (h : y ∈ selS l m c p cs) : y.1 ∈ cs ∧ y.2 ∈ m := by
  unfold selS at h
  obtain ⟨k, hk, e⟩ := List.mem_filterMap.1 h
  unfold selF at e
  split at e
  · rename_i z hz
    split at e
    · cases e; exact ⟨hk, List.mem_of_find?_eq_some hz⟩
    · cases e
  · cases e
theorem sel_len (l : List (Str × List Str)) (m : List Cond) (c : List (Str × Str)) (p : Str × List (Str × Str)) (cs : List Case) : (selS l m c p cs).length ≤ cs.length := List.length_filterMap_le _ _
theorem pick_eq (hN : big ≤ N) {l : List (Str × List Str)} (sel : List (Case × Cond)) (hl : sel.length ≤ 50) (hc : ∀ y ∈ sel, PlainV y.1.2) (hz : ∀ y ∈ sel, CondOk l y.2) (s0 : Case × Cond) (rest : List (Case × Cond)) (hs : sel = s0 :: rest) {K : Bool → Option (GValue × Int)} {k : Bool → GValue × Int} (hK : ∀ b, K b = some (k b)) :
    z63L1 N (((sel.map (·.1)).length : Nat) : Int) (sel.map (·.1)) (sel.map (·.2)) K N true 0 = some (forA (pickB sel s0.1) k sel 0 true) := by
  have hm : sel.length ≤ maxLen := Nat.le_trans hl (by decide)
  rw [List.length_map]
  refine loop_acc (f := fun n i b => z63L1 N (sel.length : Int) (sel.map (·.1)) (sel.map (·.2)) K n b i) (T := fun self i b => z63L1T N (sel.length : Int) (sel.map (·.1)) (sel.map (·.2)) K (fun b i => self i b) b i)
    (fun _ _ _ => rfl) sel hm (fun _ _ => True) (fun self i h b g _ hg => ?_) (fun self b _ => ?_) hN trivial
  · have h0 : 0 < sel.length := by omega
    have e0 : (sel.map (·.1))[0]? = some s0.1 := by rw [hs]; rfl
    have e1 : geti (sel.map (·.1)) (i : Int) = some sel[i].1 := by rw [geti_nat, List.getElem?_map, List.getElem?_eq_getElem h]; rfl
    have hw : (sel.map (·.2)).length ≤ 50 := by rw [List.length_map]; exact hl
    have hok : ∀ z ∈ sel.map (·.2), CondOk l z := fun z hz' => by
      obtain ⟨y, hy, rfl⟩ := List.mem_map.1 hz'
      exact hz y hy
    have hi' : i < (sel.map (·.2)).length := by rw [List.length_map]; exact h
    have hp0 := hc s0 (by rw [hs]; simp)
    have hpi := hc _ (List.getElem_mem h)
    have h2 := fun k4 => best2_eq hN (sel.map (·.2)) hw hok i hi' k4
    have h3 := fun k4 => best3_eq hN (sel.map (·.2)) hw hok i hi' k4
    simp only [List.length_map] at h2 h3
    have hg' : ∀ b', self (IntKind.i64.wrap ((i : Int) + 1)) b' = some (g b') := fun b' => by rw [wrap_succ hm h]; exact hg b' trivial
    simp only [z63L1T, geti_zero, e0, e1, bnd_some, List.length_map, Equal_eq hN _ _ _ hp0.cases hpi.cases (Nat.le_trans hp0.list (by decide)) (Nat.le_trans hpi.list (by decide)), h2, h3, own_case hN hpi, GValue.eta, hg']
    rw [lt_tt h, br_true]
    unfold pickB
    cases b
    · rw [br_false, br_ite, Bool.false_and]
    · rw [br_true, br_ite, Bool.true_and]
  · simp only [z63L1T]
    rw [lt_ff, br_false, hK]
set_option maxHeartbeats 1000000 in
theorem loop0_eq (hN : big ≤ N) {l : List (Str × List Str)} {m : List Cond} (hlf : Fit settingTy l) (hmf : Fit (.sl condTy) m) {c : List (Str × Str)} (hc : c.length ≤ maxLen) (p1 : Str) {p2 : List (Str × Str)} (hp : p2.length ≤ maxLen) (hs : settingsS l = 0) (hml : m.length ≤ 100) (hok : ∀ x ∈ m, CondOk l x)
    (cs : List Case) (hcl : cs.length ≤ 50) (K : List Case → List Cond → Option (GValue × Int)) : z63L0 N c cs (cs.length : Int) l m p1 p2 K N 0 [] [] = K ((selS l m c (p1, p2) cs).map (·.1)) ((selS l m c (p1, p2) cs).map (·.2)) := by
  have hmm : m.length ≤ maxLen := Nat.le_trans hml (by decide)
  have hcm : cs.length ≤ maxLen := Nat.le_trans hcl (by decide)
  have hE : ∀ (self : Int → List Case × List Cond → Option (GValue × Int)), z63L0T N c cs (cs.length : Int) l m p1 p2 K (fun i a b => self i (a, b)) (cs.length : Int) ((selS l m c (p1, p2) (cs.take cs.length)).map (·.1)) ((selS l m c (p1, p2) (cs.take cs.length)).map (·.2)) = K ((selS l m c (p1, p2) cs).map (·.1)) ((selS l m c (p1, p2) cs).map (·.2)) := fun self => by
    unfold z63L0T
    rw [lt_fn, br_false, List.take_length]
  have hT : ∀ (self : Int → List Case × List Cond → Option (GValue × Int)) (i : Nat), i < cs.length → self ((i + 1 : Nat) : Int) ((selS l m c (p1, p2) (cs.take (i + 1))).map (·.1), (selS l m c (p1, p2) (cs.take (i + 1))).map (·.2)) = K ((selS l m c (p1, p2) cs).map (·.1)) ((selS l m c (p1, p2) cs).map (·.2)) →
      z63L0T N c cs (cs.length : Int) l m p1 p2 K (fun i a b => self i (a, b)) (i : Int) ((selS l m c (p1, p2) (cs.take i)).map (·.1)) ((selS l m c (p1, p2) (cs.take i)).map (·.2)) = K ((selS l m c (p1, p2) cs).map (·.1)) ((selS l m c (p1, p2) cs).map (·.2)) := by
    intro self i h ih
    have hsl := sel_len l m c (p1, p2) (cs.take i)
    rw [List.length_take] at hsl
    rw [sel_take l m c (p1, p2) cs h] at ih
    simp only [z63L0T, geti_lt cs h, bnd_some, conditionOf_eq hN _ hmm]
    rw [lt_tt h, br_true, wrap_succ hcm h]
    unfold selF findF at *
    cases hz : m.find? (fun z => z.1 == cs[i].1) with
    | none =>
      rw [hz] at ih
      simp only [br_false]
      simpa using ih
    | some z =>
      rw [hz] at ih
      have hzm := List.mem_of_find?_eq_some hz
      simp only [br_true, holds_eq hN l hlf z (hmf.2 z hzm) c hc (p1, p2) hp hs (hok z hzm).found, bnd_some, GValue.eta, times_eq, both_self]
      dsimp only at ih
      cases hh : holdsS l z c (p1, p2) with
      | false =>
        rw [hh] at ih
        simp only [br_false]
        simpa using ih
      | true =>
        rw [hh] at ih
        have e1 : decide ((((selS l m c (p1, p2) (cs.take i)).map (·.1)).length + [(cs[i].1, cs[i].2)].length) * (24 * Ty.sz (.pr .str (.rc .value))) ≤ 140737488355328) = true := decide_eq_true (by
          rw [List.length_map]; show (_ + 1) * (24 * 6) ≤ _; omega)
        have e2 : decide ((((selS l m c (p1, p2) (cs.take i)).map (·.2)).length + [z].length) * (24 * Ty.sz (.pr .str (.pr (.sl (.pr .str .str)) (.sl (.pr .str .str))))) ≤ 140737488355328) = true := decide_eq_true (by
          rw [List.length_map]; show (_ + 1) * (24 * 3) ≤ _; omega)
        rw [br_true, e1, br_true, e2, br_true]
        simpa using ih
  have hf : ∀ (n : Nat) (i : Int) (a : List Case) (b : List Cond), z63L0 N c cs (cs.length : Int) l m p1 p2 K (n + 1) i a b = z63L0T N c cs (cs.length : Int) l m p1 p2 K (z63L0 N c cs (cs.length : Int) l m p1 p2 K n) i a b := fun _ _ _ _ => rfl
  let st : Nat → List Case × List Cond := fun i => ((selS l m c (p1, p2) (cs.take i)).map (·.1), (selS l m c (p1, p2) (cs.take i)).map (·.2))
  have key := loop_st (S := List Case × List Cond) (R := GValue × Int) (f := fun n i s => z63L0 N c cs (cs.length : Int) l m p1 p2 K n i s.1 s.2) (T := fun self i s => z63L0T N c cs (cs.length : Int) l m p1 p2 K (fun i a b => self i (a, b)) i s.1 s.2)
    (r := K ((selS l m c (p1, p2) cs).map (·.1)) ((selS l m c (p1, p2) cs).map (·.2))) (m := cs.length) (N := N)
  exact key (fun n i s => hf n i s.1 s.2) hcm st hT hE hN
theorem chosen_eq (hN : big ≤ N) (x : worldTy.den) (hx : Fit worldTy x) (c : List (Str × Str)) (hc : c.length ≤ maxLen) (p : Str × List (Str × Str)) (hp : Fit (.pr .str (.sl (.pr .str .str))) p) (v : GValue) (hv : Fit (.rc .value) v)
    (hm : conditionsS x.1 x.2.1 = 0) (hval : valueE v = 0) : config_chosen N x v c p = some (chosenS x.1 x.2.1 c p v) := by
  obtain ⟨hs, hml, hok⟩ := cond_ok hm
  have hmm : x.2.1.length ≤ maxLen := Nat.le_trans hml (by decide)
  unfold config_chosen chosenS
  simp only [GValue.eta]
  rcases value_ok hval with ⟨h4, hpl⟩ | ⟨h4, hco, hcl⟩
  · rw [show (v.kind != (4 : Int)) = true by simp [h4], br_true, own_case hN hpl, bnd_some, if_pos h4]
  · have hcm : v.cases.length ≤ maxLen := Nat.le_trans hcl (by decide)
    rw [show (v.kind != (4 : Int)) = false by simp [h4], br_false, if_neg (by simpa using h4), checkNamed_eq hN _ hmm _ hcm, bnd_some]
    by_cases hn : namedS x.2.1 v.cases = 0
    · rw [if_neg (by simpa using hn), show (namedS x.2.1 v.cases != (0 : Int)) = false by simp [hn], br_false]
      generalize hcs : v.cases = cs at hco hcl hcm
      rw [loop0_eq hN hx.1 hx.2.1 hc p.1 hp.2.1 hs hml hok cs hcl]
      have hsl := sel_len x.1 x.2.1 c p cs
      have hselc : ∀ y ∈ selS x.1 x.2.1 c p cs, PlainV y.1.2 := fun y hy => hco.plain _ (sel_mem hy).1
      have hselz : ∀ y ∈ selS x.1 x.2.1 c p cs, CondOk x.1 y.2 := fun y hy => hok _ (sel_mem hy).2
      unfold pickS
      cases hsel : selS x.1 x.2.1 c p cs with
      | nil =>
        simp only [List.map_nil, List.length_nil]
        rw [show (((0 : Nat) : Int) == (0 : Int)) = true from rfl, br_true, IndexFunc_dflt hN _ hcm, bnd_some]
        rcases idxP_cases (fun k : Case => k.1 == dflt) cs with ⟨h1, h2⟩ | ⟨j, t, h1, h2, h3, h5⟩
        · rw [h1, h2]; simp [zeroV]
        · rw [h1, h5, decide_eq_false (show ¬ ((j : Int) < 0) by omega), br_false, geti_nat, h2, bnd_some, own_case hN (hco.plain t (List.mem_of_getElem? h2)), bnd_some]
      | cons s0 rest =>
        rw [hsel] at hsl hselc hselz
        have hp0 := hselc s0 (by simp)
        rw [show ((((s0 :: rest).map (·.1)).length : Int) == (0 : Int)) = false from beq_false_of_ne (by simp; omega), br_false]
        refine pick_eq hN (s0 :: rest) (by omega) hselc hselz s0 rest rfl fun b => ?_
        cases b
        · simp [zeroV]
        · rw [br_true, geti_zero, List.map_cons, List.getElem?_cons_zero, bnd_some, own_case hN hp0, bnd_some]
          simp only [GValue.eta, if_true]
    · rw [if_pos hn, show (namedS x.2.1 v.cases != (0 : Int)) = true by simp [hn], br_true]; rfl
def choiceS (x : worldTy.den) (c : List (Str × Str)) (p : Str × List (Str × Str)) : Int := if conditionsS x.1 x.2.1 ≠ 0 then conditionsS x.1 x.2.1 else if configS x.1 c ≠ 0 then configS x.1 c else platformsS [p]
def ChosenS (x : worldTy.den) (v : GValue) (c : List (Str × Str)) (p : Str × List (Str × Str)) : GValue × Int :=
  if choiceS x c p ≠ 0 then (zeroV, choiceS x c p) else if valueE v ≠ 0 then (zeroV, valueE v) else chosenS x.1 x.2.1 c p v
theorem checkChoice_eq (hN : big ≤ N) (x : worldTy.den) (hx : Fit worldTy x) (c : List (Str × Str)) (hc : c.length ≤ maxLen) (p : Str × List (Str × Str)) (hp : Fit (.pr .str (.sl (.pr .str .str))) p) : config_checkChoice N x c p = some (choiceS x c p) := by
  unfold config_checkChoice choiceS
  rw [CheckConditions_eq hN _ hx.1 _ hx.2.1, bnd_some, checkConfig_eq hN _ hx.1 _ hc, bnd_some, CheckPlatforms_eq hN _ (fit_one hp), bnd_some, br_ne, br_ne]
  split
  · rfl
  · split <;> rfl
theorem choice_cond {x : worldTy.den} {c : List (Str × Str)} {p : Str × List (Str × Str)} (h : choiceS x c p = 0) : conditionsS x.1 x.2.1 = 0 := by
  unfold choiceS at h
  split at h
  · rename_i h1; exact absurd h h1
  · rename_i h1; exact Classical.not_not.1 h1
theorem Chosen_eq (hN : big ≤ N) (x : worldTy.den) (hx : Fit worldTy x) (v : GValue) (hv : Fit (.rc .value) v) (c : List (Str × Str)) (hc : c.length ≤ maxLen) (p : Str × List (Str × Str)) (hp : Fit (.pr .str (.sl (.pr .str .str))) p) : config_Chosen N x v c p = some (ChosenS x v c p) := by
  unfold config_Chosen ChosenS
  simp only [GValue.eta]
  rw [checkChoice_eq hN x hx c hc p hp, bnd_some, CheckValue_all hN v hv, bnd_some, br_ne, br_ne]
  split
  · rfl
  · rename_i h1
    split
    · rfl
    · rename_i h2
      rw [chosen_eq hN x hx c hc p hp v hv (choice_cond (Classical.not_not.1 h1)) (Classical.not_not.1 h2), bnd_some]
theorem pick_forA (sel : List (Case × Cond)) (s0 : Case) (k : Bool → GValue × Int) (Q : GValue × Int → Prop) (hk : ∀ b, Q (k b)) (hp : ∀ y ∈ sel, Q (y.1.2, 0)) : ∀ (xs : List (Case × Cond)) (i : Nat) (b : Bool), (∀ y ∈ xs, y ∈ sel) → Q (forA (pickB sel s0) k xs i b)
  | [], _, b, _ => hk b
  | y :: xs, i, b, h => by
    show Q (pickB sel s0 i y b _)
    unfold pickB
    split
    · exact hp y (h y (by simp))
    · exact pick_forA sel s0 k Q hk hp xs (i + 1) _ fun z hz => h z (List.mem_cons_of_mem _ hz)
theorem chosen_mem (x : worldTy.den) (c : List (Str × Str)) (p : Str × List (Str × Str)) (v : GValue) : ((ChosenS x v c p).2 ≠ 0 ∧ (ChosenS x v c p).1 = zeroV) ∨
    ((ChosenS x v c p).2 = 0 ∧ choiceS x c p = 0 ∧ valueE v = 0 ∧ ((v.kind ≠ 4 ∧ (ChosenS x v c p).1 = v) ∨ (v.kind = 4 ∧ ∃ k ∈ v.cases, (ChosenS x v c p).1 = k.2))) := by
  unfold ChosenS
  split
  · rename_i h; exact .inl ⟨h, rfl⟩
  · rename_i h1
    split
    · rename_i h; exact .inl ⟨h, rfl⟩
    · rename_i h2
      have h1 := Classical.not_not.1 h1
      have h2 := Classical.not_not.1 h2
      unfold chosenS
      split
      · rename_i h4; exact .inr ⟨rfl, h1, h2, .inl ⟨h4, rfl⟩⟩
      · rename_i h4
        have h4 := Classical.not_not.1 h4
        split
        · rename_i h; exact .inl ⟨h, rfl⟩
        · unfold pickS
          split
          · split
            · rename_i k hk; exact .inr ⟨rfl, h1, h2, .inr ⟨h4, k, List.mem_of_find?_eq_some hk, rfl⟩⟩
            · exact .inl ⟨by decide, rfl⟩
          · rename_i s0 rest hsel
            have hin : ∀ y ∈ s0 :: rest, y.1 ∈ v.cases := fun y hy => (sel_mem (by rw [hsel]; exact hy)).1
            rw [hsel]
            refine pick_forA (s0 :: rest) s0.1 _ (fun r => (r.2 ≠ 0 ∧ r.1 = zeroV) ∨ (r.2 = 0 ∧ choiceS x c p = 0 ∧ valueE v = 0 ∧ ((v.kind ≠ 4 ∧ r.1 = v) ∨ (v.kind = 4 ∧ ∃ k ∈ v.cases, r.1 = k.2)))) (fun b => ?_) (fun y hy => .inr ⟨rfl, h1, h2, .inr ⟨h4, y.1, hin y hy, rfl⟩⟩) _ _ _ fun y hy => hy
            cases b
            · exact .inl ⟨fun h => (by cases h), rfl⟩
            · exact .inr ⟨rfl, h1, h2, .inr ⟨h4, s0.1, hin s0 (by simp), rfl⟩⟩
end Go.Proofs.YtbekhaioddmliaaGreatDoor


/- Chosen is as specified. No program in sight. -/
namespace Go.Proofs.YtbekhaioddmliaaGreatDoor
set_option linter.unusedVariables false
set_option linter.unusedSimpArgs false
open Go Go.RowKit
variable {N : Nat}
theorem ref_isText_eq (hN : big ≤ N) (s : Str) (hs : s.length ≤ maxLen) : ref2_isText N s = some (s.all textB) := by
  unfold ref2_isText
  rw [show s.all textB = (s.all textB && true) by simp, ← forT_every textB true s 0]
  refine loop_for (fun _ _ => rfl) s hs (fun self i h r hr => ?_) (fun self => ?_) hN
  · simp only [z76L0T, geti_lt s h, wrap_succ hs h, hr, bnd_some]
    rw [lt_tt h, br_true]
    unfold textB
    cases h1 : (s[i] == (10 : UInt8)) <;> cases h2 : decide (s[i] < (32 : UInt8)) <;> cases h3 : decide (s[i] > (126 : UInt8)) <;> simp [h1, bne]
  · simp only [z76L0T, lt_ff, br_false]
theorem ref_checkText_eq (hN : big ≤ N) (s : Str) (hs : s.length ≤ maxLen) : ref2_checkText N s = some (textE s) := by
  unfold ref2_checkText textE
  rw [ref_isText_eq hN s hs, bnd_some]
  cases decide ((s.length : Int) > 1000) <;> cases s.all textB <;> simp
theorem isPlain_eq (v : GValue) : ref2_isPlain N v = some (!formV v) := by
  unfold ref2_isPlain formV
  have e1 : ((v.list.length : Int) == (0 : Int)) = !decide ((v.list.length : Int) > 0) := by cases v.list <;> simp; omega
  have e2 : ((v.cases.length : Int) == (0 : Int)) = !decide ((v.cases.length : Int) > 0) := by cases v.cases <;> simp; omega
  have e3 : (v.number != (0 : Int)) = !(v.number == (0 : Int)) := rfl
  have k1 : (v.kind != (1 : Int)) = !(v.kind == (1 : Int)) := rfl
  have k2 : (v.kind != (2 : Int)) = !(v.kind == (2 : Int)) := rfl
  have k3 : (v.kind != (3 : Int)) = !(v.kind == (3 : Int)) := rfl
  have k4 : (v.kind != (4 : Int)) = !(v.kind == (4 : Int)) := rfl
  rw [e1, e2, e3, k1, k2, k3, k4]
  generalize (v.text == ([] : Str)) = b1
  generalize (v.number == (0 : Int)) = b2
  generalize decide ((v.list.length : Int) > 0) = b3
  generalize decide ((v.cases.length : Int) > 0) = b4
  generalize (v.kind == (1 : Int)) = c1
  generalize (v.kind == (2 : Int)) = c2
  generalize (v.kind == (3 : Int)) = c3
  generalize (v.kind == (4 : Int)) = c4
  cases b1 <;> cases b2 <;> cases b3 <;> cases b4 <;> simp only [br_true, br_false, Bool.not_true, Bool.not_false] <;> cases c1 <;> cases c2 <;> cases c3 <;> cases c4 <;> simp
theorem ref_CheckValue_eq (hN : big ≤ N) {r : List Case → Option Int} {cc : Int} (v : GValue) (hv : Fit (.rc .value) v) (hr : v.kind = 4 → r v.cases = some cc) : ref2_CheckValue N r v = some (valS cc v) := by
  obtain ⟨_, ht, _, hl, hc⟩ := valFit hv
  unfold ref2_CheckValue valS tailV
  have hk : (br (v.kind == (4 : Int)) (bnd (r v.cases) fun t94 => some t94) (some (0 : Int))) = some (if v.kind == 4 then cc else 0) := by
    by_cases h4 : v.kind = 4
    · rw [hr h4]; simp [h4]
    · rw [show (v.kind == (4 : Int)) = false from beq_false_of_ne h4]; simp
  have hw : (bnd (ref2_within N v.number (0 : Int) (999999999 : Int)) fun t62 => br (!t62) (some (1 : Int)) (br (v.kind == (4 : Int)) (bnd (r v.cases) fun t69 => some t69) (some (0 : Int)))) =
      some (if decide (v.number < 0) then 1 else if decide (v.number > 999999999) then 1 else if v.kind == 4 then cc else 0) := by
    rw [hk]
    unfold ref2_within
    by_cases h1 : v.number < 0
    · rw [decide_eq_false (show ¬ (0 : Int) ≤ v.number by omega), br_false, bnd_some]; simp [h1]
    · rw [decide_eq_true (show (0 : Int) ≤ v.number by omega), br_true, bnd_some]
      by_cases h2 : v.number > 999999999
      · rw [decide_eq_false (show ¬ v.number ≤ 999999999 by omega)]; simp [h1, h2]
      · rw [decide_eq_true (show v.number ≤ 999999999 by omega)]; simp [h1, h2]
  have hL1 : ∀ (K : Option Int) (k : Int), K = some k → z51L1 N r v.list (v.list.length : Int) K N 0 = some (if (v.list.any fun s => !s.all textB) = true then 3 else k) := fun K k hK => by
    rw [← forT_guard (fun s : Str => !s.all textB) (3 : Int) k v.list 0]
    refine loop_for (fun _ _ => rfl) v.list hl.1 (fun self i h r' hr' => ?_) (fun self => ?_) hN
    · simp only [z51L1T, geti_lt _ h, wrap_succ hl.1 h, hr', bnd_some, ref_isText_eq hN _ (hl.2 _ (List.getElem_mem h))]
      rw [lt_tt h, br_true, br_ite]
    · simp only [z51L1T, lt_ff, br_false]; exact hK
  have hL0 : ∀ (K : Option Int) (k : Int), K = some k → z51L0 N r v.list (v.list.length : Int) K N 0 = some (if (v.list.any fun s => decide ((s.length : Int) > 1000)) = true then 2 else k) := fun K k hK => by
    rw [← forT_guard (fun s : Str => decide ((s.length : Int) > 1000)) (2 : Int) k v.list 0]
    refine loop_for (fun _ _ => rfl) v.list hl.1 (fun self i h r' hr' => ?_) (fun self => ?_) hN
    · simp only [z51L0T, geti_lt _ h, wrap_succ hl.1 h, hr', bnd_some]
      rw [lt_tt h, br_true, br_ite]
    · simp only [z51L0T, lt_ff, br_false]; exact hK
  rw [hw, ref_isText_eq hN _ ht, bnd_some, hL1 _ _ rfl]
  simp only [GValue.eta, isPlain_eq, bnd_some, br_ite]
  rw [hL0 _ _ rfl]
  simp only [br_ite, Bool.not_not]
  congr 1
  generalize formV v = b0
  generalize decide ((v.text.length : Int) > 1000) = b1
  generalize decide ((v.list.length : Int) > 1000) = b2
  generalize decide ((v.cases.length : Int) > 50) = b3
  generalize (v.list.any fun s => decide ((s.length : Int) > 1000)) = b4
  cases b0 <;> cases b1 <;> cases b2 <;> cases b3 <;> cases b4 <;> simp
theorem ref_checkCases_eq (hN : big ≤ N) (r : List Case → Option Int) (l : List Case) (hl : Fit (.sl caseTy) l) : ref2_checkCases_b N r l = some (casesS l) := by
  unfold ref2_checkCases_b casesS
  by_cases h0 : l.length = 0
  · simp [h0]
  · rw [if_neg h0, show ((l.length : Int) == (0 : Int)) = false from beq_false_of_ne (by omega), br_false]
    refine loop_for (fun _ _ => rfl) l hl.1 (fun self i h r' hr => ?_) (fun self => ?_) hN
    · have hx := hl.2 _ (List.getElem_mem h)
      have ht : (l.take i).length ≤ maxLen := by have := hl.1; rw [List.length_take]; omega
      have h00 : 0 < l.length := by omega
      have hin : ∀ (K : Option Int) (k : Int), K = some k → z40L1 N r (l.take i) ((l.take i).length : Int) l[i].1 K N 0 = some (if (l.take i).any (fun d => d.1 == l[i].1) then 7 else k) := fun K k hK => by
        rw [← forT_guard _ _ _ _ 0]
        refine loop_for (fun _ _ => rfl) _ ht (fun self j hj r' hr' => ?_) (fun self => ?_) hN
        · simp only [z40L1T, geti_lt _ hj, wrap_succ ht hj, hr', bnd_some]
          rw [lt_tt hj, br_true, br_ite]
        · simp only [z40L1T, lt_ff, br_false]; exact hK
      simp only [z40L0T, geti_lt l h, wrap_succ hl.1 h, hr, bnd_some, ref_checkText_eq hN _ hx.1, slc_take l (Nat.le_of_lt h), GValue.eta, geti_zero, List.getElem?_eq_getElem h00]
      rw [lt_tt h, br_true]
      unfold caseB
      rw [List.getElem?_eq_getElem h00]
      by_cases h4 : l[i].2.kind = 4
      · simp only [h4, beq_self_eq_true, br_true, br_ne, if_true]
        rw [hin _ _ rfl]
        by_cases h1 : textE l[i].1 = 0 <;> simp [h1]
      · rw [ref_CheckValue_eq hN (cc := 0) _ hx.2 (fun h => absurd h h4), bnd_some]
        have e4 : (l[i].2.kind == (4 : Int)) = false := beq_false_of_ne h4
        simp only [e4, br_false, br_ite, br_ne, Bool.false_eq_true, if_false]
        rw [hin _ _ rfl]
        by_cases h1 : textE l[i].1 = 0 <;> simp [h1]
    · simp only [z40L0T, lt_ff, br_false]
theorem ref_CheckValue_all (hN : big ≤ N) (v : GValue) (hv : Fit (.rc .value) v) : ref2_CheckValue N (ref2_checkCases N N) v = some (valueE v) := by
  obtain ⟨_, _, _, _, hc⟩ := valFit hv
  refine ref_CheckValue_eq hN v hv fun _ => ?_
  obtain ⟨d, rfl⟩ : ∃ d, N = d + 1 := ⟨N - 1, by unfold big at hN; omega⟩
  exact ref_checkCases_eq hN _ _ hc
theorem ref_conditionOf_eq (hN : big ≤ N) (m : List Cond) (hm : m.length ≤ maxLen) (n : Str) : ref3_conditionOf N m n = some (findF (fun x => x.1 == n) (fun x => (x, true)) (([], ([], [])), false) m) := by
  unfold ref3_conditionOf
  rw [← forT_find (fun x : Cond => x.1 == n) (fun x => (x, true)) _ m 0]
  refine loop_for (fun _ _ => rfl) m hm (fun self i h r hr => ?_) (fun self => ?_) hN
  · simp only [z45L0T, geti_lt m h, wrap_succ hm h, hr, bnd_some]
    rw [lt_tt h, br_true, br_ite]
  · simp only [z45L0T, lt_ff, br_false]
theorem has_eq (hN : big ≤ N) (a b : List (Str × Str)) (ha : a.length ≤ maxLen) (hb : b.length ≤ maxLen) : ref3_has N a b = some (b.all (hasPair a)) := by
  unfold ref3_has
  rw [show b.all (hasPair a) = (b.all (hasPair a) && true) by simp, ← forT_every _ _ _ 0]
  refine loop_for (fun _ _ => rfl) b hb (fun self i h r hr => ?_) (fun self => ?_) hN
  · simp only [z89L0T, geti_lt b h, wrap_succ hb h, hr, bnd_some, Contains_pair hN a ha]
    rw [lt_tt h, br_true, br_ite]
  · simp only [z89L0T, lt_ff, br_false]
theorem ref_isMore_eq (hN : big ≤ N) (a b : Cond) {l : List (Str × List Str)} (ha : CondOk l a) (hb : CondOk l b) : ref3_isMore N a b = some (moreS a b) := by
  have h30 : (30 : Nat) ≤ maxLen := by decide
  unfold ref3_isMore moreS
  rw [has_eq hN _ _ (Nat.le_trans ha.needs h30) (Nat.le_trans hb.needs h30), bnd_some, has_eq hN _ _ (Nat.le_trans ha.on h30) (Nat.le_trans hb.on h30), bnd_some]
  have h1 := ha.needs
  have h2 := ha.on
  have h3 := hb.needs
  have h4 := hb.on
  rw [wrap_id (by omega) (by omega), wrap_id (by omega) (by omega), (decide_eq_decide.2 (by omega) : decide ((a.2.1.length : Int) + (a.2.2.length : Int) > (b.2.1.length : Int) + (b.2.2.length : Int)) = decide (a.2.1.length + a.2.2.length > b.2.1.length + b.2.2.length))]
  cases b.2.1.all (hasPair a.2.1) <;> cases b.2.2.all (hasPair a.2.2) <;> simp
theorem checkWhen_eq (hN : big ≤ N) (x : worldTy.den) (hm : x.2.1.length ≤ maxLen) (v : GValue) (hv : v.cases.length ≤ maxLen) : ref3_checkWhen N x v = some (namedS x.2.1 v.cases) := by
  unfold ref3_checkWhen namedS
  rw [← forT_guard (oddC x.2.1) (5 : Int) 0 v.cases 0]
  refine loop_for (fun _ _ => rfl) v.cases hv (fun self i h r hr => ?_) (fun self => ?_) hN
  · simp only [z58L0T, geti_lt _ h, wrap_succ hv h, hr, bnd_some, ref_conditionOf_eq hN _ hm]
    rw [lt_tt h, br_true]
    unfold oddC findF
    cases x.2.1.find? (fun z => z.1 == v.cases[i].1) with
    | none => simp only [Bool.not_false, br_true, Option.isNone_none, Bool.true_and, br_ite]; rfl
    | some z => simp
  · simp only [z58L0T, lt_ff, br_false]
theorem rbest2_eq (hN : big ≤ N) {l : List (Str × List Str)} (ws : List Cond) (hw : ws.length ≤ 50) (hok : ∀ z ∈ ws, CondOk l z) (i : Nat) (hi : i < ws.length) (k4 : Bool → Option (GValue × Int)) :
    z80L2 N (i : Int) (ws.length : Int) ws k4 N true 0 = k4 (bestTo ws i ws.length) := by
  have hm : ws.length ≤ maxLen := Nat.le_trans hw (by decide)
  refine loop_st (f := fun n j b => z80L2 N (i : Int) (ws.length : Int) ws k4 n b j) (T := fun self j b => z80L2T N (i : Int) (ws.length : Int) ws k4 (fun b j => self j b) b j) (fun _ _ _ => rfl) hm (fun j => bestTo ws i j) (fun self j hj ih => ?_) (fun self => ?_) hN
  · simp only [z80L2T]
    rw [lt_tn hj, br_true, geti_lt ws hj, bnd_some, wrap_s hm hj]
    rw [bestTo_succ ws i j hi hj] at ih
    cases hb : bestTo ws i j with
    | false => rw [br_false]; rw [hb, Bool.false_and] at ih; exact ih
    | true =>
      rw [br_true]
      rw [hb, Bool.true_and] at ih
      by_cases hji : j = i
      · rw [show ((i : Int) == (j : Int)) = true by simp [hji], br_true]
        rw [decide_eq_true hji, Bool.true_or] at ih; exact ih
      · rw [show ((i : Int) == (j : Int)) = false from beq_false_of_ne (by omega), br_false, geti_lt ws hi, bnd_some, ref_isMore_eq hN _ _ (hok _ (List.getElem_mem hi)) (hok _ (List.getElem_mem hj)), bnd_some]
        rw [decide_eq_false hji, Bool.false_or] at ih; exact ih
  · simp only [z80L2T]
    rw [lt_fn, br_false]
theorem rbest3_eq (hN : big ≤ N) {l : List (Str × List Str)} (ws : List Cond) (hw : ws.length ≤ 50) (hok : ∀ z ∈ ws, CondOk l z) (i : Nat) (hi : i < ws.length) (k4 : Bool → Option (GValue × Int)) :
    z80L3 N (i : Int) (ws.length : Int) ws k4 N true 0 = k4 (bestTo ws i ws.length) := by
  have hm : ws.length ≤ maxLen := Nat.le_trans hw (by decide)
  refine loop_st (f := fun n j b => z80L3 N (i : Int) (ws.length : Int) ws k4 n b j) (T := fun self j b => z80L3T N (i : Int) (ws.length : Int) ws k4 (fun b j => self j b) b j) (fun _ _ _ => rfl) hm (fun j => bestTo ws i j) (fun self j hj ih => ?_) (fun self => ?_) hN
  · simp only [z80L3T]
    rw [lt_tn hj, br_true, geti_lt ws hj, bnd_some, wrap_s hm hj]
    rw [bestTo_succ ws i j hi hj] at ih
    cases hb : bestTo ws i j with
    | false => rw [br_false]; rw [hb, Bool.false_and] at ih; exact ih
    | true =>
      rw [br_true]
      rw [hb, Bool.true_and] at ih
      by_cases hji : j = i
      · rw [show ((i : Int) == (j : Int)) = true by simp [hji], br_true]
        rw [decide_eq_true hji, Bool.true_or] at ih; exact ih
      · rw [show ((i : Int) == (j : Int)) = false from beq_false_of_ne (by omega), br_false, geti_lt ws hi, bnd_some, ref_isMore_eq hN _ _ (hok _ (List.getElem_mem hi)) (hok _ (List.getElem_mem hj)), bnd_some]
        rw [decide_eq_false hji, Bool.false_or] at ih; exact ih
  · simp only [z80L3T]
    rw [lt_fn, br_false]
theorem sameP_comm {a b : GValue} (ha : a.cases = []) (hb : b.cases = []) : sameP a b = sameP b a := by
  unfold sameP
  rw [ha, hb]
  have e : ∀ (x y : Int), (x == y) = (y == x) := fun x y => by
    by_cases h : x = y
    · subst h; rfl
    · rw [beq_false_of_ne h, beq_false_of_ne (Ne.symm h)]
  have e2 : ∀ (x y : Str), (x == y) = (y == x) := fun x y => by
    by_cases h : x = y
    · subst h; rfl
    · rw [beq_false_of_ne h, beq_false_of_ne (Ne.symm h)]
  have e3 : decide (a.list = b.list) = decide (b.list = a.list) := decide_eq_decide.2 eq_comm
  rw [e a.kind, e2 a.text, e a.number, e3]
theorem Same_any (hN : big ≤ N) (a b : GValue) (ha : a.cases = []) (hla : a.list.length ≤ maxLen) (hlb : b.list.length ≤ maxLen) : ref2_SameValue N N a b = some (sameP a b) := by
  obtain ⟨d, rfl⟩ : ∃ d, N = d + 1 := ⟨N - 1, by unfold big at hN; omega⟩
  exact SameValue_eq hN d a b ha hla hlb
theorem rpick_eq (hN : big ≤ N) {l : List (Str × List Str)} (sel : List (Case × Cond)) (hl : sel.length ≤ 50) (hc : ∀ y ∈ sel, PlainV y.1.2) (hz : ∀ y ∈ sel, CondOk l y.2) (s0 : Case × Cond) (rest : List (Case × Cond)) (hs : sel = s0 :: rest) {K : Bool → Option (GValue × Int)} {k : Bool → GValue × Int} (hK : ∀ b, K b = some (k b)) :
    z80L1 N (((sel.map (·.1)).length : Nat) : Int) (sel.map (·.1)) (sel.map (·.2)) K N true 0 = some (forA (pickB sel s0.1) k sel 0 true) := by
  have hm : sel.length ≤ maxLen := Nat.le_trans hl (by decide)
  rw [List.length_map]
  refine loop_acc (f := fun n i b => z80L1 N (sel.length : Int) (sel.map (·.1)) (sel.map (·.2)) K n b i) (T := fun self i b => z80L1T N (sel.length : Int) (sel.map (·.1)) (sel.map (·.2)) K (fun b i => self i b) b i)
    (fun _ _ _ => rfl) sel hm (fun _ _ => True) (fun self i h b g _ hg => ?_) (fun self b _ => ?_) hN trivial
  · have h0 : 0 < sel.length := by omega
    have e0 : (sel.map (·.1))[0]? = some s0.1 := by rw [hs]; rfl
    have e1 : geti (sel.map (·.1)) (i : Int) = some sel[i].1 := by rw [geti_nat, List.getElem?_map, List.getElem?_eq_getElem h]; rfl
    have hw : (sel.map (·.2)).length ≤ 50 := by rw [List.length_map]; exact hl
    have hok : ∀ z ∈ sel.map (·.2), CondOk l z := fun z hz' => by
      obtain ⟨y, hy, rfl⟩ := List.mem_map.1 hz'
      exact hz y hy
    have hi' : i < (sel.map (·.2)).length := by rw [List.length_map]; exact h
    have hp0 := hc s0 (by rw [hs]; simp)
    have hpi := hc _ (List.getElem_mem h)
    have h2 := fun k4 => rbest2_eq hN (sel.map (·.2)) hw hok i hi' k4
    have h3 := fun k4 => rbest3_eq hN (sel.map (·.2)) hw hok i hi' k4
    simp only [List.length_map] at h2 h3
    have hg' : ∀ b', self (IntKind.i64.wrap ((i : Int) + 1)) b' = some (g b') := fun b' => by rw [wrap_succ hm h]; exact hg b' trivial
    simp only [z80L1T, geti_zero, e0, e1, bnd_some, List.length_map, GValue.eta, Same_any hN _ _ hpi.cases (Nat.le_trans hpi.list (by decide)) (Nat.le_trans hp0.list (by decide)), h2, h3, hg']
    rw [lt_tt h, br_true, sameP_comm hpi.cases hp0.cases]
    unfold pickB
    cases b
    · rw [br_false, br_ite, Bool.false_and]
    · rw [br_true, br_ite, Bool.true_and]
  · simp only [z80L1T]
    rw [lt_ff, br_false, hK]
theorem dflt_not {l : List (Str × List Str)} {m : List Cond} (hok : ∀ x ∈ m, CondOk l x) : m.find? (fun x => x.1 == dflt) = none := by
  rw [List.find?_eq_none]
  intro x hx he
  have := (hok x hx).name
  have he : x.1 = dflt := by simpa using he
  rw [he] at this
  revert this; decide
theorem odd_iff {l : List (Str × List Str)} {m : List Cond} (hok : ∀ x ∈ m, CondOk l x) {cs : List Case} (hn : namedS m cs = 0) {k : Case} (hk : k ∈ cs) : (m.find? (fun x => x.1 == k.1)).isNone = (k.1 == dflt) := by
  unfold namedS at hn
  split at hn
  · cases hn
  · rename_i h
    have h := fun h' => h (List.any_eq_true.2 ⟨k, hk, h'⟩)
    unfold oddC at h
    cases hd : (k.1 == dflt) with
    | true =>
      have e : k.1 = dflt := by simpa using hd
      rw [e, dflt_not hok]; rfl
    | false =>
      rw [hd] at h
      cases h2 : (m.find? (fun x => x.1 == k.1)).isNone with
      | false => rfl
      | true => rw [h2] at h; exact absurd rfl h
def lastD (cs : List Case) : Option Case := cs.find? fun k => k.1 == dflt
theorem lastD_succ {cs : List Case} (hco : CasesOk cs) {i : Nat} (h : i < cs.length) : lastD (cs.take (i + 1)) = if (cs[i].1 == dflt) = true then some cs[i] else lastD (cs.take i) := by
  unfold lastD
  rw [List.take_succ_eq_append_getElem h, List.find?_append]
  cases hd : (cs[i].1 == dflt) with
  | false => simp [hd]
  | true =>
    have hno : (cs.take i).find? (fun k => k.1 == dflt) = none := by
      rw [List.find?_eq_none]
      intro x hx he
      obtain ⟨j, hj, rfl⟩ := List.mem_iff_getElem.1 hx
      rw [List.length_take] at hj
      rw [List.getElem_take] at he
      have e1 : cs[j].1 = dflt := by simpa using he
      have e2 : cs[i].1 = dflt := by simpa using hd
      exact hco.once i h j (by omega) (e1.trans e2.symm)
    rw [hno]; simp [hd]
set_option maxHeartbeats 1000000 in
theorem rloop0_eq (hN : big ≤ N) {l : List (Str × List Str)} {m : List Cond} (hlf : Fit settingTy l) (hmf : Fit (.sl condTy) m) {c : List (Str × Str)} (hc : c.length ≤ maxLen) (p1 : Str) {p2 : List (Str × Str)} (hp : p2.length ≤ maxLen) (hs : settingsS l = 0) (hml : m.length ≤ 100) (hok : ∀ x ∈ m, CondOk l x)
    (cs : List Case) (hcl : cs.length ≤ 50) (hco : CasesOk cs) (hn : namedS m cs = 0) (K : Bool → List Case → List Cond → Int → Str → Int → List Str → List Case → Option (GValue × Int)) :
    z80L0 N c cs (cs.length : Int) l m p1 p2 K N false 0 [] [] 0 [] 0 [] [] =
      (fun o : GValue => K (lastD cs).isSome ((selS l m c (p1, p2) cs).map (·.1)) ((selS l m c (p1, p2) cs).map (·.2)) o.kind o.text o.number o.list o.cases) (((lastD cs).map (·.2)).getD zeroV) := by
  have hmm : m.length ≤ maxLen := Nat.le_trans hml (by decide)
  have hcm : cs.length ≤ maxLen := Nat.le_trans hcl (by decide)
  let st : Nat → Bool × List Case × List Cond × GValue := fun i => ((lastD (cs.take i)).isSome, (selS l m c (p1, p2) (cs.take i)).map (·.1), (selS l m c (p1, p2) (cs.take i)).map (·.2), ((lastD (cs.take i)).map (·.2)).getD zeroV)
  generalize hr : (fun o : GValue => K (lastD cs).isSome ((selS l m c (p1, p2) cs).map (·.1)) ((selS l m c (p1, p2) cs).map (·.2)) o.kind o.text o.number o.list o.cases) (((lastD cs).map (·.2)).getD zeroV) = r
  have hf : ∀ (n : Nat) (b : Bool) (i : Int) (w1 : List Case) (w2 : List Cond) (b0 : Int) (b1 : Str) (b2 : Int) (b3 : List Str) (b4 : List Case), z80L0 N c cs (cs.length : Int) l m p1 p2 K (n + 1) b i w1 w2 b0 b1 b2 b3 b4 = z80L0T N c cs (cs.length : Int) l m p1 p2 K (z80L0 N c cs (cs.length : Int) l m p1 p2 K n) b i w1 w2 b0 b1 b2 b3 b4 := fun _ _ _ _ _ _ _ _ _ _ => rfl
  have key := loop_st (S := Bool × List Case × List Cond × GValue) (R := GValue × Int) (f := fun n i s => z80L0 N c cs (cs.length : Int) l m p1 p2 K n s.1 i s.2.1 s.2.2.1 s.2.2.2.kind s.2.2.2.text s.2.2.2.number s.2.2.2.list s.2.2.2.cases)
    (T := fun self i s => z80L0T N c cs (cs.length : Int) l m p1 p2 K (fun b i w1 w2 b0 b1 b2 b3 b4 => self i (b, w1, w2, GValue.mk b0 b1 b2 b3 b4)) s.1 i s.2.1 s.2.2.1 s.2.2.2.kind s.2.2.2.text s.2.2.2.number s.2.2.2.list s.2.2.2.cases) (r := r) (m := cs.length) (N := N)
  have hE : ∀ (self : Int → Bool × List Case × List Cond × GValue → Option (GValue × Int)), z80L0T N c cs (cs.length : Int) l m p1 p2 K (fun b i w1 w2 b0 b1 b2 b3 b4 => self i (b, w1, w2, GValue.mk b0 b1 b2 b3 b4)) (st cs.length).1 (cs.length : Int) (st cs.length).2.1 (st cs.length).2.2.1 (st cs.length).2.2.2.kind (st cs.length).2.2.2.text (st cs.length).2.2.2.number (st cs.length).2.2.2.list (st cs.length).2.2.2.cases = r := by
    intro self
    unfold z80L0T
    rw [lt_fn, br_false, ← hr]
    simp only [st, List.take_length]
  have hT : ∀ (self : Int → Bool × List Case × List Cond × GValue → Option (GValue × Int)) (i : Nat), i < cs.length → self ((i + 1 : Nat) : Int) (st (i + 1)) = r → z80L0T N c cs (cs.length : Int) l m p1 p2 K (fun b i w1 w2 b0 b1 b2 b3 b4 => self i (b, w1, w2, GValue.mk b0 b1 b2 b3 b4)) (st i).1 (i : Int) (st i).2.1 (st i).2.2.1 (st i).2.2.2.kind (st i).2.2.2.text (st i).2.2.2.number (st i).2.2.2.list (st i).2.2.2.cases = r := by
    intro self i h ih
    have hsl := sel_len l m c (p1, p2) (cs.take i)
    rw [List.length_take] at hsl
    have hodd := odd_iff hok hn (List.getElem_mem h)
    have est : st (i + 1) = ((if (cs[i].1 == dflt) = true then some cs[i] else lastD (cs.take i)).isSome, (selS l m c (p1, p2) (cs.take i) ++ (match selF l m c (p1, p2) cs[i] with | some y => [y] | none => [])).map (·.1), (selS l m c (p1, p2) (cs.take i) ++ (match selF l m c (p1, p2) cs[i] with | some y => [y] | none => [])).map (·.2), ((if (cs[i].1 == dflt) = true then some cs[i] else lastD (cs.take i)).map (·.2)).getD zeroV) := by
      simp only [st, lastD_succ hco h, sel_take l m c (p1, p2) cs h] <;> rfl
    rw [est] at ih
    simp only [z80L0T, geti_lt cs h, bnd_some, ref_conditionOf_eq hN _ hmm, GValue.eta, times_eq, both_self]
    rw [lt_tt h, br_true, wrap_succ hcm h]
    unfold selF findF at *
    cases hz : m.find? (fun z => z.1 == cs[i].1) with
    | none =>
      rw [hz] at ih hodd
      have hd : (cs[i].1 == dflt) = true := hodd.symm
      rw [hd] at ih
      simp only [Bool.not_false, br_true]
      simpa [st] using ih
    | some z =>
      rw [hz] at ih hodd
      have hd : (cs[i].1 == dflt) = false := hodd.symm
      rw [hd] at ih
      have hzm := List.mem_of_find?_eq_some hz
      simp only [Bool.not_true, br_false, ref_holds_eq hN l hlf z (hmf.2 z hzm) c hc (p1, p2) hp hs (hok z hzm).found, bnd_some]
      dsimp only at ih
      cases hh : holdsS l z c (p1, p2) with
      | false =>
        rw [hh] at ih
        simp only [br_false]
        simpa [st] using ih
      | true =>
        rw [hh] at ih
        have e1 : decide (((st i).2.1.length + [(cs[i].1, cs[i].2)].length) * (24 * Ty.sz (.pr .str (.rc .value))) ≤ 140737488355328) = true := decide_eq_true (by
          simp only [st, List.length_map]; show (_ + 1) * (24 * 6) ≤ _; omega)
        have e2 : decide (((st i).2.2.1.length + [z].length) * (24 * Ty.sz (.pr .str (.pr (.sl (.pr .str .str)) (.sl (.pr .str .str))))) ≤ 140737488355328) = true := decide_eq_true (by
          simp only [st, List.length_map]; show (_ + 1) * (24 * 3) ≤ _; omega)
        rw [br_true, e1, br_true, e2, br_true]
        simpa [st] using ih
  exact key (fun n i s => hf n s.1 i s.2.1 s.2.2.1 s.2.2.2.kind s.2.2.2.text s.2.2.2.number s.2.2.2.list s.2.2.2.cases) hcm st hT hE hN
theorem ref_chosen_eq (hN : big ≤ N) (x : worldTy.den) (hx : Fit worldTy x) (c : List (Str × Str)) (hc : c.length ≤ maxLen) (p : Str × List (Str × Str)) (hp : Fit (.pr .str (.sl (.pr .str .str))) p) (v : GValue) (hv : Fit (.rc .value) v)
    (hm : conditionsS x.1 x.2.1 = 0) (hval : valueE v = 0) : ref3_chosen N x v c p = some (chosenS x.1 x.2.1 c p v) := by
  obtain ⟨hs, hml, hok⟩ := cond_ok hm
  have hmm : x.2.1.length ≤ maxLen := Nat.le_trans hml (by decide)
  have hcm : v.cases.length ≤ maxLen := (valFit hv).2.2.2.2.1
  unfold ref3_chosen chosenS
  simp only [GValue.eta]
  rw [checkWhen_eq hN x hmm v hcm, bnd_some]
  rcases value_ok hval with ⟨h4, hpl⟩ | ⟨h4, hco, hcl⟩
  · have hn : namedS x.2.1 v.cases = 0 := by rw [hpl.cases]; rfl
    rw [hn, show (v.kind != (4 : Int)) = true by simp [h4], if_pos h4]; simp
  · rw [if_neg (by simpa using h4), show (v.kind != (4 : Int)) = false by simp [h4], br_false]
    by_cases hn : namedS x.2.1 v.cases = 0
    · rw [if_neg (by simpa using hn), show (namedS x.2.1 v.cases != (0 : Int)) = false by simp [hn], br_false]
      generalize hcs : v.cases = cs at hco hcl hcm hn
      rw [rloop0_eq hN hx.1 hx.2.1 hc p.1 hp.2.1 hs hml hok cs hcl hco hn]
      have hsl := sel_len x.1 x.2.1 c p cs
      have hselc : ∀ y ∈ selS x.1 x.2.1 c p cs, PlainV y.1.2 := fun y hy => hco.plain _ (sel_mem hy).1
      have hselz : ∀ y ∈ selS x.1 x.2.1 c p cs, CondOk x.1 y.2 := fun y hy => hok _ (sel_mem hy).2
      unfold pickS
      cases hsel : selS x.1 x.2.1 c p cs with
      | nil =>
        simp only [hsel, List.map_nil, List.length_nil, GValue.eta]
        rw [show (((0 : Nat) : Int) == (0 : Int)) = true from rfl, br_true]
        unfold lastD
        cases cs.find? fun k => k.1 == dflt with
        | none => simp [zeroV]
        | some k => simp
      | cons s0 rest =>
        rw [hsel] at hsl hselc hselz
        have hp0 := hselc s0 (by simp)
        simp only [hsel, GValue.eta]
        rw [show ((((s0 :: rest).map (·.1)).length : Int) == (0 : Int)) = false from beq_false_of_ne (by simp; omega), br_false]
        refine rpick_eq hN (s0 :: rest) (by omega) hselc hselz s0 rest rfl fun b => ?_
        cases b
        · simp [zeroV]
        · rw [br_true, geti_zero, List.map_cons, List.getElem?_cons_zero, bnd_some]
          simp only [if_true]
    · rw [if_pos hn, show (namedS x.2.1 v.cases != (0 : Int)) = true by simp [hn], br_true]; rfl
theorem ask_eq (hN : big ≤ N) (x : worldTy.den) (hx : Fit worldTy x) (c : List (Str × Str)) (hc : c.length ≤ maxLen) (p : Str × List (Str × Str)) (hp : Fit (.pr .str (.sl (.pr .str .str))) p) : ref3_ask N x c p = some (choiceS x c p) := by
  unfold ref3_ask choiceS
  rw [ref_CheckConditions_eq hN _ hx.1 _ hx.2.1, bnd_some, ref_checkConfig_eq hN _ hx.1 _ hc, bnd_some, ref_CheckPlatforms_eq hN _ (fit_one hp), bnd_some, br_ne, br_ne]
  split
  · rfl
  · split <;> rfl
theorem ref_Chosen_eq (hN : big ≤ N) (x : worldTy.den) (hx : Fit worldTy x) (v : GValue) (hv : Fit (.rc .value) v) (c : List (Str × Str)) (hc : c.length ≤ maxLen) (p : Str × List (Str × Str)) (hp : Fit (.pr .str (.sl (.pr .str .str))) p) : ref3_Chosen N x v c p = some (ChosenS x v c p) := by
  unfold ref3_Chosen ChosenS
  simp only [GValue.eta]
  rw [ask_eq hN x hx c hc p hp, bnd_some, ref_CheckValue_all hN v hv, bnd_some, br_ne, br_ne]
  split
  · rfl
  · rename_i h1
    split
    · rfl
    · rename_i h2
      rw [ref_chosen_eq hN x hx c hc p hp v hv (choice_cond (Classical.not_not.1 h1)) (Classical.not_not.1 h2), bnd_some]
theorem chosen_plain {x : worldTy.den} {c : List (Str × Str)} {p : Str × List (Str × Str)} {v : GValue} : PlainV (ChosenS x v c p).1 ∨ (ChosenS x v c p).1 = zeroV := by
  rcases chosen_mem x c p v with ⟨_, h⟩ | ⟨_, _, hval, h⟩
  · exact .inr h
  · rcases value_ok hval with ⟨h4, hp⟩ | ⟨h4, hco, _⟩
    · rcases h with ⟨_, h⟩ | ⟨h5, _⟩
      · rw [h]; exact .inl hp
      · exact absurd h5 h4
    · rcases h with ⟨h5, _⟩ | ⟨_, k, hk, h⟩
      · exact absurd h4 h5
      · rw [h]; exact .inl (hco.plain k hk)
theorem chosenMatches_eq (hN : big ≤ N) (hawake : law3_awake N = some true) (x : worldTy.den) (hx : Fit worldTy x) (v : GValue) (hv : Fit (.rc .value) v) (c : List (Str × Str)) (hc : c.length ≤ maxLen) (p : Str × List (Str × Str)) (hp : Fit (.pr .str (.sl (.pr .str .str))) p) :
    law3_ConfigChosenMatchesSpec N x v c p = some true := by
  unfold law3_ConfigChosenMatchesSpec
  simp only [GValue.eta, Chosen_eq hN x hx v hv c hc p hp, ref_Chosen_eq hN x hx v hv c hc p hp, bnd_some, hawake, beq_self_eq_true, br_true]
  have h : (ChosenS x v c p).1.cases = [] ∧ (ChosenS x v c p).1.list.length ≤ maxLen := by
    rcases chosen_plain (x := x) (c := c) (p := p) (v := v) with h | h
    · exact ⟨h.cases, Nat.le_trans h.list (by decide)⟩
    · rw [h]; exact ⟨rfl, Nat.zero_le _⟩
  rw [Same_any hN _ _ h.1 h.2 h.2, bnd_some, sameP_self h.1, br_true]
theorem plain_ConfigChosenMatchesSpec (x : worldTy.den) (v : GValue) (c : List (Str × Str)) (p : Str × List (Str × Str)) (hx : Fit worldTy x) (hv : Fit (.rc .value) v) (hc : Fit pairTy c) (hp : Fit (.pr .str (.sl (.pr .str .str))) p) : ∃ N, law3_ConfigChosenMatchesSpec N x v c p = some true :=
  ⟨big, chosenMatches_eq (Nat.le_refl _) awake_eq x hx v hv c hc.1 p hp⟩
end Go.Proofs.YtbekhaioddmliaaGreatDoor

