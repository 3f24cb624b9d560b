/- What is chosen of a value. No program in sight. -/
import Derived.Test.YtbekhaioddmliaaGreatDoorQLVal
import Derived.Test.YtbekhaioddmliaaGreatDoorQZeT
import Derived.Test.YtbekhaioddmliaaGreatDoorQEnd
import Derived.Test.YtbekhaioddmliaaGreatDoorQSlc
namespace Go.Proofs.YtbekhaioddmliaaGreatDoor
set_option linter.unusedVariables false
set_option linter.unusedSimpArgs false
open Go Go.RowKit
variable {N : Nat}
abbrev Cond : Type := Str × List (Str × Str) × List (Str × Str)
abbrev dflt : Str := [100, 101, 102, 97, 117, 108, 116]
theorem IndexFunc_cond (hN : big ≤ N) (xs : List Cond) (hx : xs.length ≤ maxLen) (n : Str) : slices_IndexFunc_api_Condition N xs (n, ()) = some (idxP (fun x => x.1 == n) xs) := by
 unfold slices_IndexFunc_api_Condition
 refine loop_for (fun _ _ => rfl) xs hx (fun self i h r hr => ?_) (fun self => ?_) hN
 · simp only [z5L0T, geti_lt xs h, wrap_succ hx h, hr, bnd_some, config_conditionOf_1]
   rw [lt_tt h, br_true, br_ite]
 · simp only [z5L0T, lt_ff, br_false]
theorem conditionOf_eq (hN : big ≤ N) (m : List Cond) (hm : m.length ≤ maxLen) (n : Str) : config_conditionOf N m n = some (findF (fun x => x.1 == n) (fun x => (x, true)) (([], ([], [])), false) m) := by
 unfold config_conditionOf findF
 rw [IndexFunc_cond hN m hm, bnd_some]
 rcases idxP_cases (fun x : Cond => x.1 == n) m with ⟨h1, h2⟩ | ⟨j, t, h1, h2, h3, h4⟩
 · rw [h1, h2]; simp
 · rw [h1, h4, decide_eq_false (show ¬ ((j : Int) < 0) by omega), br_false, geti_nat, h2, bnd_some]
def moreS (a b : Cond) : Bool := b.2.1.all (hasPair a.2.1) && (b.2.2.all (hasPair a.2.2) && decide (a.2.1.length + a.2.2.length > b.2.1.length + b.2.2.length))
structure CondOk (l : List (Str × List Str)) (x : Cond) : Prop where
 name : condS x.1 = true
 needs : x.2.1.length ≤ 30
 on : x.2.2.length ≤ 30
 found : ∀ n ∈ x.2.1, (l.find? (fun s => s.1 == n.1)).isSome = true
theorem cond_ok {l : List (Str × List Str)} {m : List Cond} (h : conditionsS l m = 0) : settingsS l = 0 ∧ m.length ≤ 100 ∧ ∀ x ∈ m, CondOk l x := by
 have hf := cond_found h
 refine ⟨hf.1, ?_, fun x hx => ?_⟩
 · unfold conditionsS at h
   rw [if_neg (by simpa using hf.1)] at h
   split at h
   · cases h
   · omega
 · unfold conditionsS at h
   rw [if_neg (by simpa using hf.1)] at h
   split at h
   · cases h
   · have := forT_keep (p := fun x : Cond => condS x.1 = true ∧ x.2.1.length ≤ 30 ∧ x.2.2.length ≤ 30) (body := condB1 l m) (fun i x r h => by
       unfold condB1 at h
       split at h
       · cases h
       · rename_i h1
         split at h
         · cases h
         · rename_i h2
           split at h
           · cases h
           · rename_i h3
             split at h
             · rename_i h4; exact absurd h (of_decide_eq_true h4)
             · split at h
               · rename_i h5; exact absurd h (of_decide_eq_true h5)
               · refine ⟨⟨by simpa using h1, ?_, ?_⟩, prevS_keep h⟩
                 · have : ¬ (30 < x.2.1.length) := fun h => h2 (decide_eq_true h)
                   omega
                 · have : ¬ (30 < x.2.2.length) := fun h => h3 (decide_eq_true h)
                   omega) m 0 h x hx
     exact ⟨this.1, this.2.1, this.2.2, pairs_found (hf.2 x hx)⟩
theorem isMore_eq (hN : big ≤ N) (a b : Cond) {l : List (Str × List Str)} (ha : CondOk l a) (hb : CondOk l b) : config_isMore N a b = some (moreS a b) := by
 have h30 : (30 : Nat) ≤ maxLen := by decide
 unfold config_isMore moreS
 rw [Fit_eq hN _ _ (Nat.le_trans hb.needs h30) (Nat.le_trans ha.needs h30), bnd_some, Fit_eq hN _ _ (Nat.le_trans hb.on h30) (Nat.le_trans ha.on h30), bnd_some]
 have h1 := ha.needs
 have h2 := ha.on
 have h3 := hb.needs
 have h4 := hb.on
 rw [wrap_id (by omega) (by omega), wrap_id (by omega) (by omega), (decide_eq_decide.2 (by omega) : decide ((a.2.1.length : Int) + (a.2.2.length : Int) > (b.2.1.length : Int) + (b.2.2.length : Int)) = decide (a.2.1.length + a.2.2.length > b.2.1.length + b.2.2.length))]
 cases b.2.1.all (hasPair a.2.1) <;> cases b.2.2.all (hasPair a.2.2) <;> simp
def oddC (m : List Cond) (c : Case) : Bool := (m.find? (fun x => x.1 == c.1)).isNone && !(c.1 == dflt)
def namedS (m : List Cond) (l : List Case) : Int := if l.any (oddC m) = true then 5 else 0
theorem checkNamed_eq (hN : big ≤ N) (m : List Cond) (hm : m.length ≤ maxLen) (v : GValue) (hv : v.cases.length ≤ maxLen) : config_checkNamed N m v = some (namedS m v.cases) := by
 unfold config_checkNamed namedS
 rw [← forT_guard (oddC m) (5 : Int) 0 v.cases 0]
 refine loop_for (fun _ _ => rfl) v.cases hv (fun self i h r hr => ?_) (fun self => ?_) hN
 · simp only [z48L0T, geti_lt _ h, wrap_succ hv h, hr, bnd_some, conditionOf_eq hN m hm]
   rw [lt_tt h, br_true]
   unfold oddC findF
   cases m.find? (fun x => x.1 == v.cases[i].1) with
   | none => simp only [Bool.not_false, br_true, Option.isNone_none, Bool.true_and, br_ite]; rfl
   | some z => simp
 · simp only [z48L0T, lt_ff, br_false]
def selF (l : List (Str × List Str)) (m : List Cond) (c : List (Str × Str)) (p : Str × List (Str × Str)) (k : Case) : Option (Case × Cond) := match m.find? (fun x => x.1 == k.1) with
 | some z => if holdsS l z c p = true then some (k, z) else none
 | none => none
def selS (l : List (Str × List Str)) (m : List Cond) (c : List (Str × Str)) (p : Str × List (Str × Str)) (cs : List Case) : List (Case × Cond) := cs.filterMap (selF l m c p)
def bestTo (ws : List Cond) (i k : Nat) : Bool := (List.range k).all fun j => decide (j = i) || match ws[i]?, ws[j]? with | some a, some b => moreS a b | _, _ => false
theorem bestTo_succ (ws : List Cond) (i k : Nat) (hi : i < ws.length) (hk : k < ws.length) : bestTo ws i (k + 1) = (bestTo ws i k && (decide (k = i) || moreS ws[i] ws[k])) := by
 unfold bestTo
 rw [List.range_succ, List.all_append, List.getElem?_eq_getElem hi]
 simp [List.getElem?_eq_getElem hk]
def zeroV : GValue := .mk 0 [] 0 [] []
def pickB (sel : List (Case × Cond)) (s0 : Case) (i : Nat) (x : Case × Cond) (b : Bool) (g : Bool → GValue × Int) : GValue × Int := if bestTo (sel.map (·.2)) i sel.length = true then (x.1.2, 0) else g (b && sameP s0.2 x.1.2)
def pickS (sel : List (Case × Cond)) (cs : List Case) : GValue × Int := match sel with
 | [] => match cs.find? (fun k => k.1 == dflt) with
   | some k => (k.2, 0)
   | none => (zeroV, 9)
 | s0 :: _ => forA (pickB sel s0.1) (fun b => if b = true then (s0.1.2, 0) else (zeroV, 12)) sel 0 true
def chosenS (l : List (Str × List Str)) (m : List Cond) (c : List (Str × Str)) (p : Str × List (Str × Str)) (v : GValue) : GValue × Int :=
 if v.kind ≠ 4 then (v, 0) else if namedS m v.cases ≠ 0 then (zeroV, namedS m v.cases) else pickS (selS l m c p v.cases) v.cases
theorem IndexFunc_dflt (hN : big ≤ N) (xs : List Case) (hx : xs.length ≤ maxLen) : slices_IndexFunc_api_Case_2 N xs () = some (idxP (fun x => x.1 == dflt) xs) := by
 unfold slices_IndexFunc_api_Case_2
 refine loop_for (fun _ _ => rfl) xs hx (fun self i h r hr => ?_) (fun self => ?_) hN
 · simp only [z14L0T, geti_lt xs h, wrap_succ hx h, hr, bnd_some, config_chosen_1]
   rw [lt_tt h, br_true, br_ite]
 · simp only [z14L0T, lt_ff, br_false]
theorem Equal_eq (hN : big ≤ N) (r : Case → Case → Option Bool) (a b : GValue) (ha : a.cases = []) (hb : b.cases = []) (hla : a.list.length ≤ maxLen) (hlb : b.list.length ≤ maxLen) : script_Equal N r a b = some (sameP a b) := by
 unfold script_Equal sameP
 rw [Equal_str hN _ _ hla hlb, bnd_some, ha, hb]
 have hE : slices_EqualFunc_api_Case N r [] [] () = some true := by
   unfold slices_EqualFunc_api_Case
   obtain ⟨n, rfl⟩ : ∃ n, N = n + 1 := ⟨N - 1, by unfold big at hN; omega⟩
   have : z18L0 (n + 1) r [] [] ((([] : List Case).length : Nat) : Int) (some true) (n + 1) 0 = some true := by
     show z18L0T _ _ _ _ _ _ _ _ = _
     simp [z18L0T]
   rw [this]; simp
 rw [hE]
 cases a.kind == b.kind <;> cases a.text == b.text <;> cases a.number == b.number <;> cases decide (a.list = b.list) <;> simp
theorem own_case (hN : big ≤ N) {v : GValue} (h : PlainV v) : script_Own N N v = some v := by
 obtain ⟨d, rfl⟩ : ∃ d, N = d + 1 := ⟨N - 1, by unfold big at hN; omega⟩
 exact Own_eq hN d v h.cases (by have := h.list; omega)
theorem best2_eq (hN : big ≤ N) {l : List (Str × List Str)} (ws : List Cond) (hw : ws.length ≤ 50) (hok : ∀ z ∈ ws, CondOk l z) (i : Nat) (hi : i < ws.length) (k4 : Bool → Option (GValue × Int)) :
   z80L2 N (i : Int) (ws.length : Int) ws k4 N true 0 = k4 (bestTo ws i ws.length) := by
 have hm : ws.length ≤ maxLen := Nat.le_trans hw (by decide)
 refine loop_st (f := fun n j b => z80L2 N (i : Int) (ws.length : Int) ws k4 n b j) (T := fun self j b => z80L2T N (i : Int) (ws.length : Int) ws k4 (fun b j => self j b) b j) (fun _ _ _ => rfl) hm (fun j => bestTo ws i j) (fun self j hj ih => ?_) (fun self => ?_) hN
 · simp only [z80L2T]
   rw [lt_tn hj, br_true, wrap_s hm hj]
   rw [bestTo_succ ws i j hi hj] at ih
   cases hb : bestTo ws i j with
   | false => rw [br_false]; rw [hb, Bool.false_and] at ih; exact ih
   | true =>
     rw [br_true]
     rw [hb, Bool.true_and] at ih
     by_cases hji : j = i
     · rw [show ((j : Int) == (i : Int)) = true by simp [hji], br_true]
       rw [decide_eq_true hji, Bool.true_or] at ih; exact ih
     · rw [show ((j : Int) == (i : Int)) = false from beq_false_of_ne (by omega), br_false, geti_lt ws hi, bnd_some, geti_lt ws hj, bnd_some, isMore_eq hN _ _ (hok _ (List.getElem_mem hi)) (hok _ (List.getElem_mem hj)), bnd_some]
       rw [decide_eq_false hji, Bool.false_or] at ih; exact ih
 · simp only [z80L2T]
   rw [lt_fn, br_false]
theorem best3_eq (hN : big ≤ N) {l : List (Str × List Str)} (ws : List Cond) (hw : ws.length ≤ 50) (hok : ∀ z ∈ ws, CondOk l z) (i : Nat) (hi : i < ws.length) (k4 : Bool → Option (GValue × Int)) :
   z80L3 N (i : Int) (ws.length : Int) ws k4 N true 0 = k4 (bestTo ws i ws.length) := by
 have hm : ws.length ≤ maxLen := Nat.le_trans hw (by decide)
 refine loop_st (f := fun n j b => z80L3 N (i : Int) (ws.length : Int) ws k4 n b j) (T := fun self j b => z80L3T N (i : Int) (ws.length : Int) ws k4 (fun b j => self j b) b j) (fun _ _ _ => rfl) hm (fun j => bestTo ws i j) (fun self j hj ih => ?_) (fun self => ?_) hN
 · simp only [z80L3T]
   rw [lt_tn hj, br_true, wrap_s hm hj]
   rw [bestTo_succ ws i j hi hj] at ih
   cases hb : bestTo ws i j with
   | false => rw [br_false]; rw [hb, Bool.false_and] at ih; exact ih
   | true =>
     rw [br_true]
     rw [hb, Bool.true_and] at ih
     by_cases hji : j = i
     · rw [show ((j : Int) == (i : Int)) = true by simp [hji], br_true]
       rw [decide_eq_true hji, Bool.true_or] at ih; exact ih
     · rw [show ((j : Int) == (i : Int)) = false from beq_false_of_ne (by omega), br_false, geti_lt ws hi, bnd_some, geti_lt ws hj, bnd_some, isMore_eq hN _ _ (hok _ (List.getElem_mem hi)) (hok _ (List.getElem_mem hj)), bnd_some]
       rw [decide_eq_false hji, Bool.false_or] at ih; exact ih
 · simp only [z80L3T]
   rw [lt_fn, br_false]
theorem sel_take (l : List (Str × List Str)) (m : List Cond) (c : List (Str × Str)) (p : Str × List (Str × Str)) (cs : List Case) {i : Nat} (h : i < cs.length) :
   selS l m c p (cs.take (i + 1)) = selS l m c p (cs.take i) ++ (match selF l m c p cs[i] with | some y => [y] | none => []) := by
 unfold selS
 rw [List.take_succ_eq_append_getElem h, List.filterMap_append]
 congr 1
 simp only [List.filterMap_cons, List.filterMap_nil]
 cases selF l m c p cs[i] <;> rfl
theorem sel_mem {l : List (Str × List Str)} {m : List Cond} {c : List (Str × Str)} {p : Str × List (Str × Str)} {cs : List Case} {y : Case × Cond} (h : y ∈ selS l m c p cs) : y.1 ∈ cs ∧ y.2 ∈ m := by
 unfold selS at h
 obtain ⟨k, hk, e⟩ := List.mem_filterMap.1 h
 unfold selF at e
 split at e
 · rename_i z hz
   split at e
   · cases e; exact ⟨hk, List.mem_of_find?_eq_some hz⟩
   · cases e
 · cases e
theorem sel_len (l : List (Str × List Str)) (m : List Cond) (c : List (Str × Str)) (p : Str × List (Str × Str)) (cs : List Case) : (selS l m c p cs).length ≤ cs.length := List.length_filterMap_le _ _
theorem pick_eq (hN : big ≤ N) {l : List (Str × List Str)} (sel : List (Case × Cond)) (hl : sel.length ≤ 50) (hc : ∀ y ∈ sel, PlainV y.1.2) (hz : ∀ y ∈ sel, CondOk l y.2) (s0 : Case × Cond) (rest : List (Case × Cond)) (hs : sel = s0 :: rest) {K : Bool → Option (GValue × Int)} {k : Bool → GValue × Int} (hK : ∀ b, K b = some (k b)) :
   z80L1 N (((sel.map (·.1)).length : Nat) : Int) (sel.map (·.1)) (sel.map (·.2)) K N true 0 = some (forA (pickB sel s0.1) k sel 0 true) := by
 have hm : sel.length ≤ maxLen := Nat.le_trans hl (by decide)
 rw [List.length_map]
 refine loop_acc (f := fun n i b => z80L1 N (sel.length : Int) (sel.map (·.1)) (sel.map (·.2)) K n b i) (T := fun self i b => z80L1T N (sel.length : Int) (sel.map (·.1)) (sel.map (·.2)) K (fun b i => self i b) b i)
   (fun _ _ _ => rfl) sel hm (fun _ _ => True) (fun self i h b g _ hg => ?_) (fun self b _ => ?_) hN trivial
 · have h0 : 0 < sel.length := by omega
   have e0 : (sel.map (·.1))[0]? = some s0.1 := by rw [hs]; rfl
   have e1 : geti (sel.map (·.1)) (i : Int) = some sel[i].1 := by rw [geti_nat, List.getElem?_map, List.getElem?_eq_getElem h]; rfl
   have hw : (sel.map (·.2)).length ≤ 50 := by rw [List.length_map]; exact hl
   have hok : ∀ z ∈ sel.map (·.2), CondOk l z := fun z hz' => by
     obtain ⟨y, hy, rfl⟩ := List.mem_map.1 hz'
     exact hz y hy
   have hi' : i < (sel.map (·.2)).length := by rw [List.length_map]; exact h
   have hp0 := hc s0 (by rw [hs]; simp)
   have hpi := hc _ (List.getElem_mem h)
   have h2 := fun k4 => best2_eq hN (sel.map (·.2)) hw hok i hi' k4
   have h3 := fun k4 => best3_eq hN (sel.map (·.2)) hw hok i hi' k4
   simp only [List.length_map] at h2 h3
   have hg' : ∀ b', self (IntKind.i64.wrap ((i : Int) + 1)) b' = some (g b') := fun b' => by rw [wrap_succ hm h]; exact hg b' trivial
   simp only [z80L1T, geti_zero, e0, e1, bnd_some, List.length_map, Equal_eq hN _ _ _ hp0.cases hpi.cases (Nat.le_trans hp0.list (by decide)) (Nat.le_trans hpi.list (by decide)), h2, h3, own_case hN hpi, GValue.eta, hg']
   rw [lt_tt h, br_true]
   unfold pickB
   cases b
   · rw [br_false, br_ite, Bool.false_and]
   · rw [br_true, br_ite, Bool.true_and]
 · simp only [z80L1T]
   rw [lt_ff, br_false, hK]
set_option maxHeartbeats 1000000 in
theorem loop0_eq (hN : big ≤ N) {l : List (Str × List Str)} {m : List Cond} (hlf : Fit settingTy l) (hmf : Fit (.sl condTy) m) {c : List (Str × Str)} (hc : c.length ≤ maxLen) (p1 : Str) {p2 : List (Str × Str)} (hp : p2.length ≤ maxLen) (hs : settingsS l = 0) (hml : m.length ≤ 100) (hok : ∀ x ∈ m, CondOk l x)
   (cs : List Case) (hcl : cs.length ≤ 50) (K : List Case → List Cond → Option (GValue × Int)) : z80L0 N c cs (cs.length : Int) l m p1 p2 K N 0 [] [] = K ((selS l m c (p1, p2) cs).map (·.1)) ((selS l m c (p1, p2) cs).map (·.2)) := by
 have hmm : m.length ≤ maxLen := Nat.le_trans hml (by decide)
 have hcm : cs.length ≤ maxLen := Nat.le_trans hcl (by decide)
 have hE : ∀ (self : Int → List Case × List Cond → Option (GValue × Int)), z80L0T N c cs (cs.length : Int) l m p1 p2 K (fun i a b => self i (a, b)) (cs.length : Int) ((selS l m c (p1, p2) (cs.take cs.length)).map (·.1)) ((selS l m c (p1, p2) (cs.take cs.length)).map (·.2)) = K ((selS l m c (p1, p2) cs).map (·.1)) ((selS l m c (p1, p2) cs).map (·.2)) := fun self => by
   unfold z80L0T
   rw [lt_fn, br_false, List.take_length]
 have hT : ∀ (self : Int → List Case × List Cond → Option (GValue × Int)) (i : Nat), i < cs.length → self ((i + 1 : Nat) : Int) ((selS l m c (p1, p2) (cs.take (i + 1))).map (·.1), (selS l m c (p1, p2) (cs.take (i + 1))).map (·.2)) = K ((selS l m c (p1, p2) cs).map (·.1)) ((selS l m c (p1, p2) cs).map (·.2)) →
     z80L0T N c cs (cs.length : Int) l m p1 p2 K (fun i a b => self i (a, b)) (i : Int) ((selS l m c (p1, p2) (cs.take i)).map (·.1)) ((selS l m c (p1, p2) (cs.take i)).map (·.2)) = K ((selS l m c (p1, p2) cs).map (·.1)) ((selS l m c (p1, p2) cs).map (·.2)) := by
   intro self i h ih
   have hsl := sel_len l m c (p1, p2) (cs.take i)
   rw [List.length_take] at hsl
   rw [sel_take l m c (p1, p2) cs h] at ih
   simp only [z80L0T, geti_lt cs h, bnd_some, conditionOf_eq hN _ hmm]
   rw [lt_tt h, br_true, wrap_succ hcm h]
   unfold selF findF at *
   cases hz : m.find? (fun z => z.1 == cs[i].1) with
   | none =>
     rw [hz] at ih
     simp only [br_false]
     simpa using ih
   | some z =>
     rw [hz] at ih
     have hzm := List.mem_of_find?_eq_some hz
     simp only [br_true, holds_eq hN l hlf z (hmf.2 z hzm) c hc (p1, p2) hp hs (hok z hzm).found, bnd_some, GValue.eta, times_eq, both_self]
     dsimp only at ih
     cases hh : holdsS l z c (p1, p2) with
     | false =>
       rw [hh] at ih
       simp only [br_false]
       simpa using ih
     | true =>
       rw [hh] at ih
       have e1 : decide ((((selS l m c (p1, p2) (cs.take i)).map (·.1)).length + [(cs[i].1, cs[i].2)].length) * (24 * Ty.sz (.pr .str (.rc .value))) ≤ 140737488355328) = true := decide_eq_true (by
         rw [List.length_map]; show (_ + 1) * (24 * 6) ≤ _; omega)
       have e2 : decide ((((selS l m c (p1, p2) (cs.take i)).map (·.2)).length + [z].length) * (24 * Ty.sz (.pr .str (.pr (.sl (.pr .str .str)) (.sl (.pr .str .str))))) ≤ 140737488355328) = true := decide_eq_true (by
         rw [List.length_map]; show (_ + 1) * (24 * 3) ≤ _; omega)
       rw [br_true, e1, br_true, e2, br_true]
       simpa using ih
 have hf : ∀ (n : Nat) (i : Int) (a : List Case) (b : List Cond), z80L0 N c cs (cs.length : Int) l m p1 p2 K (n + 1) i a b = z80L0T N c cs (cs.length : Int) l m p1 p2 K (z80L0 N c cs (cs.length : Int) l m p1 p2 K n) i a b := fun _ _ _ _ => rfl
 let st : Nat → List Case × List Cond := fun i => ((selS l m c (p1, p2) (cs.take i)).map (·.1), (selS l m c (p1, p2) (cs.take i)).map (·.2))
 have key := loop_st (S := List Case × List Cond) (R := GValue × Int) (f := fun n i s => z80L0 N c cs (cs.length : Int) l m p1 p2 K n i s.1 s.2) (T := fun self i s => z80L0T N c cs (cs.length : Int) l m p1 p2 K (fun i a b => self i (a, b)) i s.1 s.2)
   (r := K ((selS l m c (p1, p2) cs).map (·.1)) ((selS l m c (p1, p2) cs).map (·.2))) (m := cs.length) (N := N)
 exact key (fun n i s => hf n i s.1 s.2) hcm st hT hE hN
theorem chosen_eq (hN : big ≤ N) (x : worldTy.den) (hx : Fit worldTy x) (c : List (Str × Str)) (hc : c.length ≤ maxLen) (p : Str × List (Str × Str)) (hp : Fit (.pr .str (.sl (.pr .str .str))) p) (v : GValue) (hv : Fit (.rc .value) v)
   (hm : conditionsS x.1 x.2.1 = 0) (hval : valueE v = 0) : config_chosen N x v c p = some (chosenS x.1 x.2.1 c p v) := by
 obtain ⟨hs, hml, hok⟩ := cond_ok hm
 have hmm : x.2.1.length ≤ maxLen := Nat.le_trans hml (by decide)
 unfold config_chosen chosenS
 simp only [GValue.eta]
 rcases value_ok hval with ⟨h4, hpl⟩ | ⟨h4, hco, hcl⟩
 · rw [show (v.kind != (4 : Int)) = true by simp [h4], br_true, own_case hN hpl, bnd_some, if_pos h4]
 · have hcm : v.cases.length ≤ maxLen := Nat.le_trans hcl (by decide)
   rw [show (v.kind != (4 : Int)) = false by simp [h4], br_false, if_neg (by simpa using h4), checkNamed_eq hN _ hmm _ hcm, bnd_some]
   by_cases hn : namedS x.2.1 v.cases = 0
   · rw [if_neg (by simpa using hn), show (namedS x.2.1 v.cases != (0 : Int)) = false by simp [hn], br_false]
     generalize hcs : v.cases = cs at hco hcl hcm
     rw [loop0_eq hN hx.1 hx.2.1 hc p.1 hp.2.1 hs hml hok cs hcl]
     have hsl := sel_len x.1 x.2.1 c p cs
     have hselc : ∀ y ∈ selS x.1 x.2.1 c p cs, PlainV y.1.2 := fun y hy => hco.plain _ (sel_mem hy).1
     have hselz : ∀ y ∈ selS x.1 x.2.1 c p cs, CondOk x.1 y.2 := fun y hy => hok _ (sel_mem hy).2
     unfold pickS
     cases hsel : selS x.1 x.2.1 c p cs with
     | nil =>
       simp only [List.map_nil, List.length_nil]
       rw [show (((0 : Nat) : Int) == (0 : Int)) = true from rfl, br_true, IndexFunc_dflt hN _ hcm, bnd_some]
       rcases idxP_cases (fun k : Case => k.1 == dflt) cs with ⟨h1, h2⟩ | ⟨j, t, h1, h2, h3, h5⟩
       · rw [h1, h2]; simp [zeroV]
       · rw [h1, h5, decide_eq_false (show ¬ ((j : Int) < 0) by omega), br_false, geti_nat, h2, bnd_some, own_case hN (hco.plain t (List.mem_of_getElem? h2)), bnd_some]
     | cons s0 rest =>
       rw [hsel] at hsl hselc hselz
       have hp0 := hselc s0 (by simp)
       rw [show ((((s0 :: rest).map (·.1)).length : Int) == (0 : Int)) = false from beq_false_of_ne (by simp; omega), br_false]
       refine pick_eq hN (s0 :: rest) (by omega) hselc hselz s0 rest rfl fun b => ?_
       cases b
       · simp [zeroV]
       · rw [br_true, geti_zero, List.map_cons, List.getElem?_cons_zero, bnd_some, own_case hN hp0, bnd_some]
         simp only [GValue.eta, if_true]
   · rw [if_pos hn, show (namedS x.2.1 v.cases != (0 : Int)) = true by simp [hn], br_true]; rfl
def choiceS (x : worldTy.den) (c : List (Str × Str)) (p : Str × List (Str × Str)) : Int := if conditionsS x.1 x.2.1 ≠ 0 then conditionsS x.1 x.2.1 else if configS x.1 c ≠ 0 then configS x.1 c else platformsS [p]
theorem checkChoice_eq (hN : big ≤ N) (x : worldTy.den) (hx : Fit worldTy x) (c : List (Str × Str)) (hc : c.length ≤ maxLen) (p : Str × List (Str × Str)) (hp : Fit (.pr .str (.sl (.pr .str .str))) p) : config_checkChoice N x c p = some (choiceS x c p) := by
 unfold config_checkChoice choiceS
 rw [CheckConditions_eq hN _ hx.1 _ hx.2.1, bnd_some, checkConfig_eq hN _ hx.1 _ hc, bnd_some, CheckPlatforms_eq hN _ (fit_one hp), bnd_some, br_ne, br_ne]
 split
 · rfl
 · split <;> rfl
theorem choice_cond {x : worldTy.den} {c : List (Str × Str)} {p : Str × List (Str × Str)} (h : choiceS x c p = 0) : conditionsS x.1 x.2.1 = 0 := by
 unfold choiceS at h
 split at h
 · rename_i h1; exact absurd h h1
 · rename_i h1; exact Classical.not_not.1 h1
theorem pick_forA (sel : List (Case × Cond)) (s0 : Case) (k : Bool → GValue × Int) (Q : GValue × Int → Prop) (hk : ∀ b, Q (k b)) (hp : ∀ y ∈ sel, Q (y.1.2, 0)) : ∀ (xs : List (Case × Cond)) (i : Nat) (b : Bool), (∀ y ∈ xs, y ∈ sel) → Q (forA (pickB sel s0) k xs i b)
 | [], _, b, _ => hk b
 | y :: xs, i, b, h => by
   show Q (pickB sel s0 i y b _)
   unfold pickB
   split
   · exact hp y (h y (by simp))
   · exact pick_forA sel s0 k Q hk hp xs (i + 1) _ fun z hz => h z (List.mem_cons_of_mem _ hz)
end Go.Proofs.YtbekhaioddmliaaGreatDoor


/- Splitting, cutting and joining at one byte. No program in sight. -/
namespace Go.Proofs.YtbekhaioddmliaaGreatDoor
set_option linter.unusedVariables false
set_option linter.unusedSimpArgs false
open Go Go.RowKit
def splitC (c : UInt8) : Str → List Str
 | [] => [[]]
 | b :: s => if b = c then [] :: splitC c s else match splitC c s with
   | x :: xs => (b :: x) :: xs
   | [] => [[b]]
theorem splitC_ne (c : UInt8) (s : Str) : splitC c s ≠ [] := by
 cases s with
 | nil => simp [splitC]
 | cons b s => unfold splitC; split; simp; split <;> simp
theorem indexByte_cons (b c : UInt8) (s : Str) : Lib.indexByte (b :: s) c = if b = c then 0 else if Lib.indexByte s c = -1 then -1 else Lib.indexByte s c + 1 := by
 have h := Lib.indexByte_ge s c
 rw [Lib.indexByte]
 by_cases hb : b = c
 · simp [hb]
 · simp only [beq_iff_eq, hb, if_false]
theorem splitK_one (c : UInt8) : ∀ (s : Str), Lib.splitK [c] 0 (Lib.count s [c]) s = splitC c s
 | [] => by simp [Lib.count_one, Lib.splitK, splitC]
 | b :: s => by
   have ih := splitK_one c s
   by_cases hb : b = c
   · subst hb
     rw [Lib.count_cons_eq, Nat.add_comm, Lib.splitK, Lib.index_one, indexByte_cons]
     simp only [if_true]
     show (_ :: Lib.splitK [b] 0 (Lib.count s [b]) s) = _
     rw [ih]
     simp [splitC]
   · rw [Lib.count_cons_ne _ _ _ hb]
     unfold splitC
     rw [if_neg hb, ← ih]
     cases hk : Lib.count s [c] with
     | zero => simp [Lib.splitK]
     | succ k =>
       rw [Lib.splitK, Lib.splitK, Lib.index_one, Lib.index_one, indexByte_cons, if_neg hb]
       have h0 := Lib.indexByte_ge s c
       by_cases h1 : Lib.indexByte s c = -1
       · simp [h1]
       · have h2 : ∃ n : Nat, Lib.indexByte s c = n := ⟨(Lib.indexByte s c).toNat, by omega⟩
         obtain ⟨n, hn⟩ := h2
         have e : ((n : Int) + 1).toNat = n + 1 := by omega
         have e1 : ¬ ((n : Int) = -1) := by omega
         have e2 : ¬ ((n : Int) + 1 = -1) := by omega
         simp [hn, e, e1, e2, Nat.add_right_comm]
theorem splitS_one (s : Str) (c : UInt8) : splitS s [c] = splitC c s := by
 unfold splitS
 have := Lib.splitB_data ⟨[c].toArray⟩ 0 (Lib.countB ⟨s.toArray⟩ ⟨[c].toArray⟩) ⟨s.toArray⟩
 rw [this]
 exact splitK_one c s
theorem splitC_len (c : UInt8) : ∀ s : Str, (splitC c s).length = s.count c + 1
 | [] => rfl
 | b :: s => by
   have ih := splitC_len c s
   unfold splitC
   by_cases hb : b = c
   · rw [if_pos hb]; simp [hb, ih]
   · rw [if_neg hb, List.count_cons_of_ne hb, ← ih]
     have := splitC_ne c s
     cases h : splitC c s with
     | nil => exact absurd h this
     | cons => rfl
theorem strings_Split_one (s : Str) (c : UInt8) (h : s.length < 4294967281) : strings_Split s [c] = some (splitC c s) := by
 have hc : s.count c ≤ s.length := List.count_le_length
 unfold strings_Split
 rw [splitS_one, splitC_len]
 refine if_pos ⟨h, by simp, ?_, by omega⟩
 show _ = Lib.count s [c] + 1
 rw [Lib.count_one]
theorem splitC_mem (c : UInt8) (s : Str) : ∀ x ∈ splitC c s, c ∉ x ∧ x.length ≤ s.length := by
 induction s with
 | nil => intro x hx; simp [splitC] at hx; subst hx; simp
 | cons b s ih =>
   intro x hx
   unfold splitC at hx
   by_cases hb : b = c
   · rw [if_pos hb] at hx
     rcases List.mem_cons.1 hx with rfl | hx
     · simp
     · have := ih x hx; exact ⟨this.1, by simp; omega⟩
   · rw [if_neg hb] at hx
     cases h : splitC c s with
     | nil => exact absurd h (splitC_ne c s)
     | cons y ys =>
       rw [h] at hx ih
       rcases List.mem_cons.1 hx with rfl | hx
       · have := ih y (by simp)
         refine ⟨fun hm => ?_, by simp; omega⟩
         rcases List.mem_cons.1 hm with e | hm
         · exact hb e.symm
         · exact this.1 hm
       · have := ih x (List.mem_cons_of_mem _ hx); exact ⟨this.1, by simp; omega⟩
end Go.Proofs.YtbekhaioddmliaaGreatDoor


/- What ConfigText writes, and that it is read again. No program in sight. -/
namespace Go.Proofs.YtbekhaioddmliaaGreatDoor
set_option linter.unusedVariables false
set_option linter.unusedSimpArgs false
open Go Go.RowKit
variable {N : Nat}
end Go.Proofs.YtbekhaioddmliaaGreatDoor


/- What With computes. No program in sight. -/
namespace Go.Proofs.YtbekhaioddmliaaGreatDoor
set_option linter.unusedVariables false
set_option linter.unusedSimpArgs false
open Go Go.RowKit
variable {N : Nat}
abbrev Sets : Type := List (Str × List Str)
abbrev Cfg : Type := List (Str × Str)
theorem Asc.filter {α : Type} {c : List (Str × α)} (h : Asc c) (q : Str × α → Bool) : Asc (c.filter q) := h.sublist List.filter_sublist
theorem PairOk.strict {l : Sets} {p : Str × Str} (h : PairOk l true p) (hl : SetOk l) : ∃ s ∈ l, s.1 = p.1 ∧ p.2 ∈ s.2 ∧ p.2 ≠ s.2.headD [] := by
 obtain ⟨s, h1, h2, h3⟩ := h
 obtain ⟨hm, hn⟩ := find_mem h1
 refine ⟨s, hm, hn, h2, fun e => h3 rfl ?_⟩
 rw [e]
 cases hq : s.2 with
 | nil => exact absurd hq (hl.some s hm)
 | cons a t => rfl
end Go.Proofs.YtbekhaioddmliaaGreatDoor


/- What Only and All compute. No program in sight. -/
namespace Go.Proofs.YtbekhaioddmliaaGreatDoor
set_option linter.unusedVariables false
set_option linter.unusedSimpArgs false
open Go Go.RowKit
variable {N : Nat}
def NamesOk (l : Sets) (ns : List Str) : Prop := (∀ n ∈ ns, ∃ s ∈ l, s.1 = n ∧ l.find? (fun x => x.1 == n) = some s) ∧ ns.Pairwise (· < ·)
theorem pw_nodup {l : List Str} (h : l.Pairwise (· < ·)) : l.Nodup := h.imp fun {a b} hab e => by rw [e] at hab; exact List.lt_irrefl _ hab
theorem names_len {l : Sets} {ns : List Str} (h : NamesOk l ns) : ns.length ≤ l.length := by
 have := (pw_nodup h.2).length_le_of_subset (l₂ := l.map (·.1)) (fun n hn => by
   obtain ⟨s, hs, e, _⟩ := h.1 n hn
   exact List.mem_map.2 ⟨s, hs, e⟩)
 simpa using this
end Go.Proofs.YtbekhaioddmliaaGreatDoor


/- What All computes; the law AllMatches. No program in sight. -/
namespace Go.Proofs.YtbekhaioddmliaaGreatDoor
set_option linter.unusedVariables false
set_option linter.unusedSimpArgs false
open Go Go.RowKit
variable {N : Nat}
end Go.Proofs.YtbekhaioddmliaaGreatDoor


/- The law AllHasOnly. No program in sight. -/
namespace Go.Proofs.YtbekhaioddmliaaGreatDoor
set_option linter.unusedVariables false
set_option linter.unusedSimpArgs false
open Go Go.RowKit
variable {N : Nat}
end Go.Proofs.YtbekhaioddmliaaGreatDoor


/- What transitions compute; the law ThroughMatches. No program in sight. -/
namespace Go.Proofs.YtbekhaioddmliaaGreatDoor
set_option linter.unusedVariables false
set_option linter.unusedSimpArgs false
open Go Go.RowKit
variable {N : Nat}
abbrev Trans : Type := Str × List (Str × Str) × List Str
def setsN (c : Cfg) (n : Str) : Bool := c.any fun p => p.1 == n
structure TransOk (l : Sets) (t : Trans) : Prop where
 set : SetOk l
 pair : ∀ p ∈ t.2.1, PairOk l false p
 asc : Asc t.2.1
 names : NamesOk l t.2.2
 off : ∀ n ∈ t.2.2, setsN t.2.1 n = false
theorem TransOk.len {l : Sets} {t : Trans} (h : TransOk l t) : t.2.1.length ≤ 30 ∧ t.2.2.length ≤ 30 :=
 ⟨Nat.le_trans (h.asc.len fun p hp => by obtain ⟨s, h1, h2, _⟩ := (h.pair p hp).mem; exact ⟨s, h1, h2⟩) h.set.len, Nat.le_trans (names_len h.names) h.set.len⟩
theorem str_ext : ∀ {a b : List Str}, a.Pairwise (· < ·) → b.Pairwise (· < ·) → (∀ n, n ∈ a ↔ n ∈ b) → a = b := fun {a b} ha hb h => by
 have e : ∀ c : List Str, c.Pairwise (· < ·) → Asc (c.map fun x => (x, ())) := fun c hc => by unfold Asc; rw [List.pairwise_map]; exact hc
 have := Asc.ext (e a ha) (e b hb) fun p => by
   simp only [List.mem_map]
   exact ⟨fun ⟨x, hx, hp⟩ => ⟨x, (h x).1 hx, hp⟩, fun ⟨x, hx, hp⟩ => ⟨x, (h x).2 hx, hp⟩⟩
 have := congrArg (List.map (·.1)) this
 simpa [List.map_map, Function.comp_def] using this
theorem sortStr_pw (xs : List Str) (hn : xs.Nodup) : (xs.mergeSort leStr).Pairwise (· < ·) := by
 have h1 := List.pairwise_mergeSort (le := leStr) (fun a b c h1 h2 => by
   simp only [leStr, decide_eq_true_eq] at *
   exact List.le_trans h1 h2) (fun a b => by
   simp only [leStr, Bool.or_eq_true, decide_eq_true_eq]
   exact List.le_total _ _) xs
 have h2 : (xs.mergeSort leStr).Nodup := (List.mergeSort_perm xs leStr).nodup_iff.2 hn
 refine (List.Pairwise.and h1 h2).imp fun {a b} ⟨hle, hne⟩ => ?_
 simp only [leStr, decide_eq_true_eq] at hle
 rcases List.le_iff_lt_or_eq.1 hle with h | h
 · exact h
 · exact absurd h hne
end Go.Proofs.YtbekhaioddmliaaGreatDoor


/- What targets are checked for, and what Plain computes. No program in sight. -/
namespace Go.Proofs.YtbekhaioddmliaaGreatDoor
set_option linter.unusedVariables false
set_option linter.unusedSimpArgs false
open Go Go.RowKit
variable {N : Nat}
abbrev Attr : Type := Str × GValue
abbrev Target : Type := Str × Str × List Attr
abbrev attrTy : Ty := .pr .str (.rc .value)
abbrev targetTy : Ty := .pr .str (.pr .str (.sl attrTy))
def smallB (c : UInt8) : Bool := decide (c ≥ 97) && decide (c ≤ 122)
def digitB (c : UInt8) : Bool := decide (c ≥ 48) && decide (c ≤ 57)
def nmB (c : UInt8) : Bool := smallB c || (digitB c || c == 95)
theorem isSmall_eq (c : UInt8) : script_isSmall N c = some (smallB c) := by
 unfold script_isSmall smallB
 cases decide (c ≥ 97) <;> simp
theorem isDigit_eq (c : UInt8) : script_isDigit N c = some (digitB c) := by
 unfold script_isDigit digitB
 cases decide (c ≥ 48) <;> simp
def kwds : List Str := [[109, 97, 99, 114, 111], [102, 111, 114], [105, 110], [105, 102], [101, 108, 115, 101], [117, 115, 101], [102, 105, 108, 101, 115], [99, 104, 111, 111, 115, 101]]
def nameS (s : Str) : Bool := match s with
 | [] => false
 | b :: _ => decide (s.length ≤ 40) && (smallB b && (s.all nmB && !(kwds.any (s == ·))))
theorem script_IsName_eq (hN : big ≤ N) (s : Str) (hs : s.length ≤ maxLen) : script_IsName N s = some (nameS s) := by
 unfold script_IsName
 cases s with
 | nil => simp [nameS]
 | cons b x =>
   have h1 : ¬ (((b :: x).length : Int) < 1) := by simp; omega
   rw [br_neg h1, geti_zero, List.getElem?_cons_zero, bnd_some, isSmall_eq, bnd_some]
   have hL : z84L0 N (b :: x) ((b :: x).length : Int) (bnd (script_words N) fun t42 => bnd (slices_Contains_string_string N t42 (b :: x)) fun t44 => some (!t44)) N 0 = some ((b :: x).all nmB && !(kwds.any ((b :: x) == ·))) := by
     have hk : (bnd (script_words N) fun t42 => bnd (slices_Contains_string_string N t42 (b :: x)) fun t44 => some (!t44)) = some (!(kwds.any ((b :: x) == ·))) := by
       unfold script_words
       rw [bnd_some, slices_Contains_eq hN _ (by decide), bnd_some]; rfl
     rw [hk, ← forT_every nmB _ _ 0]
     refine loop_for (fun _ _ => rfl) (b :: x) hs (fun self i h r hr => ?_) (fun self => ?_) hN
     · simp only [z84L0T, geti_lt _ h, wrap_succ hs h, hr, bnd_some, isSmall_eq, isDigit_eq]
       rw [lt_tt h, br_true]
       unfold nmB
       generalize (b :: x)[i] = c
       cases h1 : smallB c <;> cases h2 : digitB c <;> cases h3 : (c == 95) <;> simp [bne, h3]
     · simp only [z84L0T, lt_ff, br_false]
   rw [hL]
   show _ = some (decide ((b :: x).length ≤ 40) && (smallB b && ((b :: x).all nmB && !(kwds.any ((b :: x) == ·)))))
   generalize ((b :: x).all nmB && !(kwds.any ((b :: x) == ·))) = q
   by_cases h40 : (b :: x).length ≤ 40
   · rw [br_neg (by omega), decide_eq_true h40]
     cases smallB b <;> simp
   · rw [br_pos (by omega), decide_eq_false h40]; rfl
def partB (c : UInt8) : Bool := (decide (c ≥ 97) && decide (c ≤ 122)) || ((decide (c ≥ 65) && decide (c ≤ 90)) || ((decide (c ≥ 48) && decide (c ≤ 57)) || decide (Lib.indexByte [46, 95, 45, 43] c ≥ 0)))
theorem inPart_eq (c : UInt8) : blob_inPart N c = some (partB c) := by
 unfold blob_inPart strings_IndexByte partB
 simp only [bnd_some, br_ite]
 generalize decide (c ≥ 97) = a1
 generalize decide (c ≤ 122) = a2
 generalize decide (c ≥ 65) = a3
 generalize decide (c ≤ 90) = a4
 generalize decide (c ≥ 48) = a5
 generalize decide (c ≤ 57) = a6
 generalize decide (Lib.indexByte [46, 95, 45, 43] c ≥ 0) = a7
 cases a1 <;> cases a2 <;> cases a3 <;> cases a4 <;> cases a5 <;> cases a6 <;> cases a7 <;> rfl
def endB (s : Str) : Bool := !(s == []) && (!(s == [46]) && !(s == [46, 46]))
theorem end_br (s : Str) : (br (!(s == ([] : Str))) (br (!(s == ([46] : Str))) (some (!(s == ([46, 46] : Str)))) (some false)) (some false)) = some (endB s) := by
 unfold endB
 simp only [br_ite]
 generalize (s == ([] : Str)) = a1
 generalize (s == ([46] : Str)) = a2
 generalize (s == ([46, 46] : Str)) = a3
 cases a1 <;> cases a2 <;> cases a3 <;> rfl
def partS (s : Str) : Bool := s.all partB && endB s
theorem isPart_eq (hN : big ≤ N) (s : Str) (hs : s.length ≤ maxLen) : blob_isPart N s = some (partS s) := by
 unfold blob_isPart partS
 rw [end_br, ← forT_every partB _ _ 0]
 refine loop_for (fun _ _ => rfl) s hs (fun self i h r hr => ?_) (fun self => ?_) hN
 · simp only [z99L0T, geti_lt _ h, wrap_succ hs h, hr, bnd_some, inPart_eq]
   rw [lt_tt h, br_true, br_ite]
 · simp only [z99L0T, lt_ff, br_false]
def pathS (s : Str) : Bool := decide (1 ≤ s.length) && (decide (s.length ≤ 200) && (splitC 47 s).all partS)
theorem IsPath_eq (hN : big ≤ N) (s : Str) : blob_IsPath N s = some (pathS s) := by
 unfold blob_IsPath pathS
 by_cases h1 : 1 ≤ s.length
 case neg => rw [br_pos (by omega), decide_eq_false h1]; rfl
 by_cases h2 : s.length ≤ 200
 case neg => rw [br_neg (by omega), br_pos (by omega), decide_eq_false h2, Bool.false_and, Bool.and_false]
 rw [br_neg (by omega), br_neg (by omega), strings_Split_one _ _ (by omega), bnd_some, decide_eq_true h1, decide_eq_true h2, Bool.true_and, Bool.true_and]
 have hlen : (splitC 47 s).length ≤ 201 := by
   have h3 : s.count 47 ≤ s.length := List.count_le_length
   rw [splitC_len]; omega
 have hx : (splitC 47 s).length ≤ maxLen := by unfold maxLen; omega
 rw [← Bool.and_true ((splitC 47 s).all partS), ← forT_every partS _ _ 0]
 refine loop_for (fun _ _ => rfl) _ hx (fun self i h r hr => ?_) (fun self => ?_) hN
 · have hp := (splitC_mem 47 s _ (List.getElem_mem h)).2
   simp only [z97L0T, geti_lt _ h, wrap_succ hx h, hr, bnd_some, isPart_eq hN _ (by unfold maxLen; omega : ((splitC 47 s)[i]).length ≤ maxLen)]
   rw [lt_tt h, br_true, br_ite]
 · simp only [z97L0T, lt_ff, br_false]
def isKw (a : Attr) : Bool := a.1 == ([110, 97, 109, 101] : Str) || a.1 == ([107, 105, 110, 100] : Str)
def attrB (l : List Attr) (i : Nat) (a : Attr) (r : Int) : Int := if !nameS a.1 then 5 else if decide (valueE a.2 ≠ 0) then valueE a.2 else prevS l i a.1 r
def targetE (t : Target) : Int := if !pathS t.1 then 3 else if !nameS t.2.1 then 5 else if 30 < t.2.2.length then 2 else forT (attrB t.2.2) (if t.2.2.any isKw then 5 else 0) t.2.2 0
theorem kw_eq (a : Attr) : script_CheckTarget_1 N a = some (isKw a) := by
 unfold script_CheckTarget_1 isKw
 rw [br_ite]
 cases h1 : (a.1 == ([110, 97, 109, 101] : Str)) <;> cases h2 : (a.1 == ([107, 105, 110, 100] : Str)) <;> simp
theorem Contains_kw (hN : big ≤ N) (l : List Attr) (hl : l.length ≤ maxLen) : slices_ContainsFunc_api_Attr N l () = some (l.any isKw) := by
 unfold slices_ContainsFunc_api_Attr
 have : slices_IndexFunc_api_Attr N l () = some (idxP isKw l) := by
   unfold slices_IndexFunc_api_Attr
   refine loop_for (fun _ _ => rfl) l hl (fun self i h r hr => ?_) (fun self => ?_) hN
   · simp only [z19L0T, geti_lt l h, wrap_succ hl h, hr, bnd_some, kw_eq]
     rw [lt_tt h, br_true, br_ite]
   · simp only [z19L0T, lt_ff, br_false]
 rw [this, bnd_some, idx_any]
theorem CheckTarget_eq (hN : big ≤ N) (t : Target) (ht : Fit targetTy t) : script_CheckTarget N t = some (targetE t) := by
 unfold script_CheckTarget targetE
 rw [IsPath_eq hN, bnd_some, script_IsName_eq hN _ ht.2.1, bnd_some, Contains_kw hN _ ht.2.2.1, bnd_some]
 have hL : z44L0 N t.2.2 (t.2.2.length : Int) t.2.2 (br (t.2.2.any isKw) (some (5 : Int)) (some (0 : Int))) N 0 = some (forT (attrB t.2.2) (if t.2.2.any isKw then 5 else 0) t.2.2 0) := by
   rw [br_ite]
   refine loop_for (fun _ _ => rfl) t.2.2 ht.2.2.1 (fun self i h r hr => ?_) (fun self => ?_) hN
   · have ha := ht.2.2.2 _ (List.getElem_mem h)
     simp only [z44L0T, geti_lt _ h, wrap_succ ht.2.2.1 h, hr, bnd_some, GValue.eta, script_IsName_eq hN _ ha.1, CheckValue_all hN _ ha.2]
     rw [lt_tt h, br_true, prev_eq ht.2.2.1 h, ne_zero_dec]
     unfold attrB
     simp only [br_ite]
   · simp only [z44L0T, lt_ff, br_false]
 rw [hL, (decide_eq_decide.2 (by omega) : decide ((t.2.2.length : Int) > 30) = decide (30 < t.2.2.length)), br_ite, br_ite, br_ite]
 simp only [decide_eq_true_eq]
theorem forT_kk {α : Type} {q : Nat → α → Prop} {body : Nat → α → Int → Int} (h : ∀ i x r, body i x r = 0 → q i x ∧ r = 0) : ∀ (xs : List α) (k : Int) (j : Nat), forT body k xs j = 0 → (∀ i (hi : i < xs.length), q (j + i) xs[i]) ∧ k = 0
 | [], k, j, h' => ⟨fun i hi => absurd hi (by simp), h'⟩
 | x :: xs, k, j, h' => by
   obtain ⟨h1, h2⟩ := h _ _ _ (show body j x (forT body k xs (j + 1)) = 0 from h')
   obtain ⟨h3, h4⟩ := forT_kk h xs k (j + 1) h2
   refine ⟨fun i hi => ?_, h4⟩
   cases i with
   | zero => exact h1
   | succ i =>
     have := h3 i (by simpa using hi)
     simpa [Nat.add_assoc, Nat.add_comm 1] using this
structure TargetOk (t : Target) : Prop where
 len : t.2.2.length ≤ 30
 val : ∀ a ∈ t.2.2, valueE a.2 = 0
 asc : Asc t.2.2
 name : ∀ a ∈ t.2.2, nameS a.1 = true
theorem target_ok {t : Target} (h : targetE t = 0) : TargetOk t := by
 unfold targetE at h
 split at h
 · cases h
 · split at h
   · cases h
   · split at h
     · cases h
     · rename_i h30
       have h2 := (forT_kk (q := fun i x => (nameS x.1 = true ∧ valueE x.2 = 0) ∧ ∀ y, i ≠ 0 → t.2.2[i - 1]? = some y → y.1 < x.1) (fun i x r hb => ?_) _ _ 0 h).1
       · refine ⟨by omega, fun a ha => ?_, (asc_iff _).1 fun i hi y h0 hy => (h2 i hi).2 y (by omega) (by simpa using hy), fun a ha => ?_⟩
         · obtain ⟨i, hi, rfl⟩ := List.getElem_of_mem ha
           exact (h2 i hi).1.2
         · obtain ⟨i, hi, rfl⟩ := List.getElem_of_mem ha
           exact (h2 i hi).1.1
       · unfold attrB at hb
         split at hb
         · cases hb
         · rename_i hn
           split at hb
           · rename_i hv; exact absurd hb (of_decide_eq_true hv)
           · rename_i hv
             have := prevS_zero.1 hb
             exact ⟨⟨⟨by simpa using hn, by simpa using hv⟩, this.1⟩, this.2⟩
def nilTg : Target := ([], [], [])
def plainB (x : worldTy.den) (c : List (Str × Str)) (p : Str × List (Str × Str)) (_ : Nat) (a : Attr) (w : List Attr) (g : List Attr → Target × Str × Int) : Target × Str × Int :=
 if (chosenS x.1 x.2.1 c p a.2).2 ≠ 0 then (nilTg, a.1, (chosenS x.1 x.2.1 c p a.2).2) else g (w ++ [(a.1, (chosenS x.1 x.2.1 c p a.2).1)])
def PlainS (x : worldTy.den) (t : Target) (c : List (Str × Str)) (p : Str × List (Str × Str)) : Target × Str × Int :=
 if choiceS x c p ≠ 0 then (nilTg, [], choiceS x c p) else if targetE t ≠ 0 then (nilTg, [], targetE t) else
   forA (plainB x c p) (fun w => ((t.1, t.2.1, w), [], 0)) t.2.2 0 []
theorem Plain_eq (hN : big ≤ N) (x : worldTy.den) (hx : Fit worldTy x) (t : Target) (ht : Fit targetTy t) (c : List (Str × Str)) (hc : c.length ≤ maxLen) (p : Str × List (Str × Str)) (hp : Fit (.pr .str (.sl (.pr .str .str))) p) : config_Plain N x t c p = some (PlainS x t c p) := by
 unfold config_Plain PlainS
 rw [checkChoice_eq hN x hx c hc p hp, bnd_some, br_ne, CheckTarget_eq hN t ht, bnd_some, br_ne]
 by_cases h1 : choiceS x c p = 0
 case neg => rw [if_pos h1, if_pos h1]; rfl
 rw [if_neg (Classical.not_not.2 h1), if_neg (Classical.not_not.2 h1)]
 by_cases h2 : targetE t = 0
 case neg => rw [if_pos h2, if_pos h2]; rfl
 rw [if_neg (Classical.not_not.2 h2), if_neg (Classical.not_not.2 h2)]
 have tok := target_ok h2
 have hcnd := choice_cond h1
 refine loop_acc (f := fun m i w => z87L0 N c t.2.2 (t.2.2.length : Int) x.1 x.2.1 x.2.2.1 x.2.2.2.1 x.2.2.2.2 p.1 p.2 (fun o => some ((t.1, (t.2.1, o)), (([] : Str), (0 : Int)))) m i w) (T := fun self i w => z87L0T N c t.2.2 (t.2.2.length : Int) x.1 x.2.1 x.2.2.1 x.2.2.2.1 x.2.2.2.2 p.1 p.2 (fun o => some ((t.1, (t.2.1, o)), (([] : Str), (0 : Int)))) self i w) (fun _ _ _ => rfl) t.2.2 ht.2.2.1 (fun i w => w.length ≤ i) (fun self i h w g hw hg => ?_) (fun self w hw => ?_) hN (Nat.le_refl 0)
 · have ha := ht.2.2.2 _ (List.getElem_mem h)
   have hch : config_chosen N (x.1, (x.2.1, (x.2.2.1, (x.2.2.2.1, x.2.2.2.2)))) t.2.2[i].2 c (p.1, p.2) = some (chosenS x.1 x.2.1 c p t.2.2[i].2) := chosen_eq hN x hx c hc p hp _ ha.2 hcnd (tok.val _ (List.getElem_mem h))
   simp only [z87L0T, geti_lt _ h, wrap_succ ht.2.2.1 h, bnd_some, GValue.eta, hch]
   rw [lt_tt h, br_true, br_ne]
   unfold plainB
   by_cases hz : (chosenS x.1 x.2.1 c p t.2.2[i].2).2 = 0
   · rw [if_neg (by simpa using hz), if_neg (by simpa using hz)]
     have hsz : (w.length + [(t.2.2[i].1, (chosenS x.1 x.2.1 c p t.2.2[i].2).1)].length) * (24 * Ty.sz (.pr .str (.rc .value))) ≤ 140737488355328 := by
       have := tok.len
       rw [List.length_singleton]; show _ * 144 ≤ _; omega
     rw [br_pos hsz]
     exact hg _ (by rw [List.length_append, List.length_singleton]; omega)
   · rw [if_pos hz, if_pos hz]; rfl
 · simp only [z87L0T, lt_ff, br_false]
theorem chosenS_plain {x : worldTy.den} {c : List (Str × Str)} {p : Str × List (Str × Str)} {v : GValue} (hval : valueE v = 0) : PlainV (chosenS x.1 x.2.1 c p v).1 ∨ (chosenS x.1 x.2.1 c p v).1 = zeroV := by
 unfold chosenS
 rcases value_ok hval with ⟨h4, hp⟩ | ⟨h4, hco, _⟩
 · rw [if_pos h4]; exact .inl hp
 · rw [if_neg (by simpa using h4)]
   split
   · exact .inr rfl
   · unfold pickS
     split
     · split
       · rename_i k hk; exact .inl (hco.plain _ (List.mem_of_find?_eq_some hk))
       · exact .inr rfl
     · rename_i s0 rest hsel
       have hin : ∀ y ∈ s0 :: rest, y.1 ∈ v.cases := fun y hy => (sel_mem (by rw [hsel]; exact hy)).1
       rw [hsel]
       refine pick_forA (s0 :: rest) s0.1 _ (fun r => PlainV r.1 ∨ r.1 = zeroV) (fun b => ?_) (fun y hy => .inl (hco.plain _ (hin y hy))) _ _ _ fun y hy => hy
       cases b
       · exact .inr rfl
       · exact .inl (hco.plain _ (hin s0 (by simp)))
theorem plain_forA (x : worldTy.den) (c : List (Str × Str)) (p : Str × List (Str × Str)) (k : List Attr → Target × Str × Int) (Q : Target × Str × Int → Prop) (he : ∀ n e, Q (nilTg, n, e)) (hk : ∀ w, (∀ b ∈ w, b.2.cases = [] ∧ b.2.list.length ≤ maxLen) → Q (k w)) : ∀ (xs : List Attr) (i : Nat) (w : List Attr), (∀ a ∈ xs, valueE a.2 = 0) → (∀ b ∈ w, b.2.cases = [] ∧ b.2.list.length ≤ maxLen) → Q (forA (plainB x c p) k xs i w)
 | [], i, w, _, hw => hk w hw
 | a :: xs, i, w, hv, hw => by
   show Q (plainB x c p i a w fun w => forA (plainB x c p) k xs (i + 1) w)
   unfold plainB
   split
   · exact he _ _
   · refine plain_forA x c p k Q he hk xs (i + 1) _ (fun b hb => hv b (List.mem_cons_of_mem _ hb)) fun b hb => ?_
     rcases List.mem_append.1 hb with hb | hb
     · exact hw b hb
     · rw [List.mem_singleton.1 hb]
       have := chosenS_plain (x := x) (c := c) (p := p) (hv a (by simp))
       rcases this with h | h
       · exact ⟨h.cases, Nat.le_trans h.list (by decide)⟩
       · rw [h]; exact ⟨rfl, Nat.zero_le _⟩
end Go.Proofs.YtbekhaioddmliaaGreatDoor


/- What Depends computes. No program in sight. -/
namespace Go.Proofs.YtbekhaioddmliaaGreatDoor
set_option linter.unusedVariables false
set_option linter.unusedSimpArgs false
open Go Go.RowKit
variable {N : Nat}
def setM (m : List (Str × Bool)) (l : List Str) : List (Str × Bool) := l.foldl (fun m n => mset m n true) m
theorem mset_keys (m : List (Str × Bool)) (n : Str) (b : Bool) : ((m.map (·.1)).Nodup → ((mset m n b).map (·.1)).Nodup) ∧ ∀ x, x ∈ (mset m n b).map (·.1) ↔ x ∈ m.map (·.1) ∨ x = n := by
 induction m with
 | nil => exact ⟨fun _ => by simp [mset], fun x => by simp [mset]⟩
 | cons p m ih =>
   obtain ⟨k, v⟩ := p
   unfold mset
   by_cases h : n = k
   · subst h
     simp only [beq_self_eq_true, if_true]
     exact ⟨fun h => h, fun x => ⟨.inl, fun h => h.elim id fun e => by rw [e]; simp⟩⟩
   · have hb : (n == k) = false := by simpa using h
     simp only [hb, Bool.false_eq_true, if_false, List.map_cons]
     refine ⟨fun hn => ?_, fun x => ?_⟩
     · rw [List.nodup_cons] at hn ⊢
       refine ⟨fun hm => ?_, ih.1 hn.2⟩
       rcases (ih.2 k).1 hm with h1 | h1
       · exact hn.1 h1
       · exact h h1.symm
     · rw [List.mem_cons, List.mem_cons, ih.2]
       exact or_assoc.symm
theorem setM_keys : ∀ (l : List Str) (m : List (Str × Bool)), ((m.map (·.1)).Nodup → ((setM m l).map (·.1)).Nodup) ∧ ∀ x, x ∈ (setM m l).map (·.1) ↔ x ∈ m.map (·.1) ∨ x ∈ l
 | [], m => ⟨fun h => h, fun x => by simp [setM]⟩
 | n :: l, m => by
   have h1 := mset_keys m n true
   have h2 := setM_keys l (mset m n true)
   show ((m.map (·.1)).Nodup → ((setM (mset m n true) l).map (·.1)).Nodup) ∧ ∀ x, x ∈ (setM (mset m n true) l).map (·.1) ↔ _
   refine ⟨fun h => h2.1 (h1.1 h), fun x => ?_⟩
   rw [h2.2, h1.2, List.mem_cons, or_assoc]
theorem setM_app (m : List (Str × Bool)) (a b : List Str) : setM m (a ++ b) = setM (setM m a) b := by unfold setM; rw [List.foldl_append]
theorem setM_len (l : List Str) (m : List (Str × Bool)) : (setM m l).length ≤ m.length + l.length := by
 induction l generalizing m with
 | nil => exact Nat.le_refl _
 | cons n l ih =>
   have h1 : ∀ m : List (Str × Bool), (mset m n true).length ≤ m.length + 1 := fun m => by
     induction m with
     | nil => exact Nat.le_refl _
     | cons p m ih =>
       obtain ⟨k, v⟩ := p
       unfold mset
       split
       · simp
       · simp only [List.length_cons]; omega
   have h2 := ih (mset m n true)
   have h3 := h1 m
   show (setM (mset m n true) l).length ≤ _
   rw [List.length_cons]; omega
def sortN (l : List Str) : List Str := ((setM [] l).map (·.1)).mergeSort leStr
theorem sortN_asc (l : List Str) : (sortN l).Pairwise (· < ·) := sortStr_pw _ ((setM_keys l []).1 List.nodup_nil)
theorem mem_sortN (l : List Str) (x : Str) : x ∈ sortN l ↔ x ∈ l := by
 unfold sortN
 rw [List.mem_mergeSort, (setM_keys l []).2]; simp
theorem compact_upto (d : Array Str) (hd : ∀ i j (hi : i < d.size) (hj : j < d.size), i < j → d[i]! ≤ d[j]!) : ∀ m, m ≤ d.size → (Lib.compactUpTo d m).Pairwise (· < ·) ∧ ∀ x, x ∈ Lib.compactUpTo d m ↔ ∃ j, j < m ∧ d[j]! = x
 | 0, _ => by
   have : Lib.compactUpTo d 0 = [] := by simp [Lib.compactUpTo]
   rw [this]
   exact ⟨List.Pairwise.nil, fun x => ⟨fun h => (by cases h), fun ⟨j, hj, _⟩ => absurd hj (Nat.not_lt_zero _)⟩⟩
 | m + 1, hm => by
   obtain ⟨h1, h2⟩ := compact_upto d hd m (by omega)
   rw [Lib.compactUpTo_succ]
   have key : ∀ x, (∃ j, j < m + 1 ∧ d[j]! = x) ↔ (∃ j, j < m ∧ d[j]! = x) ∨ d[m]! = x := fun x => by
     constructor
     · rintro ⟨j, hj, e⟩
       rcases Nat.lt_or_ge j m with h | h
       · exact .inl ⟨j, h, e⟩
       · obtain rfl : j = m := by omega
         exact .inr e
     · rintro (⟨j, hj, e⟩ | e)
       · exact ⟨j, by omega, e⟩
       · exact ⟨m, by omega, e⟩
   cases hk : Lib.keeps d m with
   | true =>
     rw [if_pos rfl]
     refine ⟨List.pairwise_append.2 ⟨h1, List.pairwise_singleton _ _, fun a ha b hb => ?_⟩, fun x => ?_⟩
     · rw [List.mem_singleton.1 hb]
       obtain ⟨j, hj, rfl⟩ := (h2 a).1 ha
       have hne : d[m]! ≠ d[m - 1]! := fun e => by
         rw [Lib.keeps_neg (by omega) e] at hk; cases hk
       have hlt : d[m - 1]! < d[m]! := by
         rcases List.le_iff_lt_or_eq.1 (hd (m - 1) m (by omega) (by omega) (by omega)) with h | h
         · exact h
         · exact absurd h.symm hne
       rcases Nat.lt_or_ge j (m - 1) with h | h
       · have h3 : d[j]! ≤ d[m - 1]! := hd j (m - 1) (by omega) (by omega) h
         rcases List.le_iff_lt_or_eq.1 h3 with h4 | h4
         · exact List.lt_trans h4 hlt
         · rw [h4]; exact hlt
       · obtain rfl : j = m - 1 := by omega
         exact hlt
     · rw [List.mem_append, h2, key, List.mem_singleton]
       exact ⟨fun h => h.imp id Eq.symm, fun h => h.imp id Eq.symm⟩
   | false =>
     rw [if_neg (by simp), List.append_nil]
     refine ⟨h1, fun x => ?_⟩
     rw [h2, key]
     constructor
     · exact .inl
     · rintro (h | e)
       · exact h
       · have h0 : m ≠ 0 := fun h0 => by
           subst h0
           rw [Lib.keeps_lt_one d 0 (by omega)] at hk; cases hk
         have he : d[m]! = d[m - 1]! := Classical.byContradiction fun hne => by
           rw [Lib.keeps_pos hne] at hk; cases hk
         exact ⟨m - 1, by omega, he ▸ e⟩
theorem compact_ok (zs : List Str) (h : zs.Pairwise (· ≤ ·)) : (Lib.compact zs).Pairwise (· < ·) ∧ ∀ x, x ∈ Lib.compact zs ↔ x ∈ zs := by
 have hg : ∀ j (hj : j < zs.length), zs.toArray[j]! = zs[j] := fun j hj => by rw [getElem!_pos zs.toArray j (by simpa using hj)]; simp
 have hsz : zs.toArray.size = zs.length := by simp
 have := compact_upto zs.toArray (fun i j hi hj hij => by
   rw [hsz] at hi hj
   rw [hg i hi, hg j hj]
   exact List.pairwise_iff_getElem.1 h i j hi hj hij) zs.length (by rw [hsz]; exact Nat.le_refl _)
 refine ⟨this.1, fun x => (this.2 x).trans ⟨?_, fun hx => ?_⟩⟩
 · rintro ⟨j, hj, e⟩
   rw [← e, hg j hj]; exact List.getElem_mem hj
 · obtain ⟨j, hj, e⟩ := List.getElem_of_mem hx
   exact ⟨j, hj, (hg j hj).trans e⟩
theorem sortStr_le (xs : List Str) : (xs.mergeSort leStr).Pairwise (· ≤ ·) := by
 have := List.pairwise_mergeSort (le := leStr) (fun a b c h1 h2 => by
   simp only [leStr, decide_eq_true_eq] at *
   exact List.le_trans h1 h2) (fun a b => by
   simp only [leStr, Bool.or_eq_true, decide_eq_true_eq]
   exact List.le_total _ _) xs
 exact this.imp fun h => by simpa [leStr] using h
theorem compact_sort (l : List Str) : Lib.compact (l.mergeSort leStr) = sortN l := by
 obtain ⟨h1, h2⟩ := compact_ok _ (sortStr_le l)
 exact str_ext h1 (sortN_asc l) fun x => by rw [h2, List.mem_mergeSort, mem_sortN]
def needF (m : List Cond) (n : Str) : List (Str × Str) := findF (fun x => x.1 == n) (fun x => x.2.1) [] m
def caseN (m : List Cond) (k : Case) : List Str := (needF m k.1).map (·.1)
def attrN (m : List Cond) (a : Attr) : List Str := a.2.cases.flatMap (caseN m)
def depsB (m : List Cond) (_ : Nat) (a : Attr) (w : List Str) (g : List Str → Int × List Str) : Int × List Str := if namedS m a.2.cases ≠ 0 then (namedS m a.2.cases, []) else g (w ++ attrN m a)
def DependsS (x : worldTy.den) (t : Target) : Int × List Str :=
 if conditionsS x.1 x.2.1 ≠ 0 then (conditionsS x.1 x.2.1, []) else if targetE t ≠ 0 then (targetE t, []) else forA (depsB x.2.1) (fun w => (0, sortN w)) t.2.2 0 []
theorem need_eq (m : List Cond) (n : Str) : (findF (fun x : Cond => x.1 == n) (fun x => (x, true)) (([], ([], [])), false) m).1.2.1 = needF m n := by
 unfold needF findF
 cases m.find? (fun x => x.1 == n) <;> rfl
theorem need_len {l : List (Str × List Str)} {m : List Cond} (hok : ∀ x ∈ m, CondOk l x) (n : Str) : (needF m n).length ≤ 30 := by
 unfold needF findF
 cases hf : m.find? (fun x => x.1 == n) with
 | none => exact Nat.zero_le _
 | some z => exact (hok z (List.mem_of_find?_eq_some hf)).needs
theorem cases_len {v : GValue} (h : valueE v = 0) : v.cases.length ≤ 50 := by
 rcases value_ok h with ⟨_, hp⟩ | ⟨_, _, h⟩
 · rw [hp.cases]; exact Nat.zero_le _
 · exact h
theorem flat_le {α β : Type} (f : α → List β) (b : Nat) : ∀ xs : List α, (∀ x ∈ xs, (f x).length ≤ b) → (xs.flatMap f).length ≤ xs.length * b
 | [], _ => by simp
 | x :: xs, h => by
   have h1 := h x (by simp)
   have h2 := flat_le f b xs fun y hy => h y (List.mem_cons_of_mem _ hy)
   rw [List.flatMap_cons, List.length_append, List.length_cons, Nat.succ_mul]; omega
theorem attrN_len {l : List (Str × List Str)} {m : List Cond} (hok : ∀ x ∈ m, CondOk l x) {a : Attr} (h : valueE a.2 = 0) : (attrN m a).length ≤ 1500 := by
 have h1 := flat_le (caseN m) 30 a.2.cases fun k _ => by unfold caseN; rw [List.length_map]; exact need_len hok _
 have h2 := cases_len h
 unfold attrN
 omega
theorem attrN_word {l : List (Str × List Str)} {m : List Cond} (hm : Fit (.sl condTy) m) {a : Attr} : ∀ n ∈ attrN m a, n.length ≤ maxLen := fun n hn => by
 obtain ⟨k, _, hn⟩ := List.mem_flatMap.1 hn
 obtain ⟨p, hp, rfl⟩ := List.mem_map.1 hn
 unfold needF findF at hp
 cases hf : m.find? (fun x => x.1 == k.1) with
 | none => rw [hf] at hp; cases hp
 | some z =>
   rw [hf] at hp
   exact ((hm.2 z (List.mem_of_find?_eq_some hf)).2.1.2 p hp).1
theorem map_take_snoc {α β : Type} (f : α → β) (c : List α) {i : Nat} (h : i < c.length) : (c.take (i + 1)).map f = (c.take i).map f ++ [f c[i]] := by
 rw [List.take_succ_eq_append_getElem h, List.map_append]; rfl
theorem flat_take_snoc {α β : Type} (f : α → List β) (c : List α) {i : Nat} (h : i < c.length) : (c.take (i + 1)).flatMap f = (c.take i).flatMap f ++ f c[i] := by
 rw [List.take_succ_eq_append_getElem h, List.flatMap_append]; simp
theorem dep_L2_eq (hN : big ≤ N) (ps : List (Str × Str)) (hp : ps.length ≤ maxLen) (k : List (Str × Bool) → Option (Int × List Str)) (m0 : List (Str × Bool)) : z69L2 N ps (ps.length : Int) k N 0 m0 = k (setM m0 (ps.map (·.1))) := by
 have := loop_st (f := fun n i w => z69L2 N ps (ps.length : Int) k n i w) (T := fun self i w => z69L2T N ps (ps.length : Int) k self i w) (fun _ _ _ => rfl) hp (fun i => setM m0 ((ps.take i).map (·.1))) (r := k (setM m0 (ps.map (·.1)))) (fun self i hi hr => ?_) (fun self => ?_) hN
 · simpa [setM] using this
 · rw [map_take_snoc _ _ hi, setM_app] at hr
   generalize setM m0 ((ps.take i).map (·.1)) = w at hr ⊢
   simp only [z69L2T, geti_lt _ hi, wrap_succ hp hi, bnd_some]
   rw [lt_tt hi, br_true]
   exact hr
 · simp only [z69L2T, lt_ff, br_false, List.take_length]
theorem dep_L1_eq (hN : big ≤ N) {l : List (Str × List Str)} {m : List Cond} (hm : m.length ≤ maxLen) (hok : ∀ x ∈ m, CondOk l x) (cs : List Case) (hc : cs.length ≤ maxLen) (k : List (Str × Bool) → Option (Int × List Str)) (m0 : List (Str × Bool)) : z69L1 N cs (cs.length : Int) m k N 0 m0 = k (setM m0 (cs.flatMap (caseN m))) := by
 have := loop_st (f := fun n i w => z69L1 N cs (cs.length : Int) m k n i w) (T := fun self i w => z69L1T N cs (cs.length : Int) m k self i w) (fun _ _ _ => rfl) hc (fun i => setM m0 ((cs.take i).flatMap (caseN m))) (r := k (setM m0 (cs.flatMap (caseN m)))) (fun self i hi hr => ?_) (fun self => ?_) hN
 · simpa [setM] using this
 · rw [flat_take_snoc _ _ hi, setM_app] at hr
   generalize setM m0 ((cs.take i).flatMap (caseN m)) = w at hr ⊢
   have hl := need_len hok cs[i].1
   simp only [z69L1T, geti_lt _ hi, wrap_succ hc hi, bnd_some, conditionOf_eq hN m hm, need_eq]
   rw [lt_tt hi, br_true, dep_L2_eq hN _ (by unfold maxLen; omega)]
   exact hr
 · simp only [z69L1T, lt_ff, br_false, List.take_length]
theorem Depends_eq (hN : big ≤ N) (x : worldTy.den) (hx : Fit worldTy x) (t : Target) (ht : Fit targetTy t) : config_Depends N x t = some (DependsS x t) := by
 unfold config_Depends DependsS
 rw [CheckConditions_eq hN _ hx.1 _ hx.2.1, bnd_some, br_ne, CheckTarget_eq hN t ht, bnd_some, br_ne]
 by_cases h1 : conditionsS x.1 x.2.1 = 0
 case neg => rw [if_pos h1, if_pos h1]
 rw [if_neg (Classical.not_not.2 h1), if_neg (Classical.not_not.2 h1)]
 by_cases h2 : targetE t = 0
 case neg => rw [if_pos h2, if_pos h2]
 rw [if_neg (Classical.not_not.2 h2), if_neg (Classical.not_not.2 h2)]
 have tok := target_ok h2
 obtain ⟨hs, hml, hok⟩ := cond_ok h1
 have hmm : x.2.1.length ≤ maxLen := Nat.le_trans hml (by decide)
 have gen : ∀ (d n i : Nat) (w : List Str), i + d = t.2.2.length → d < n → w.length ≤ i * 1500 → (∀ y ∈ w, y.length ≤ maxLen) →
     z69L0 N t.2.2 (t.2.2.length : Int) x.2.1 (fun o => bnd (maps_Keys_bool o) fun t77 => bnd (slices_Sorted_keys t77) fun t78 => some ((0 : Int), t78.2)) n (i : Int) (setM [] w) = some (forA (depsB x.2.1) (fun w => (0, sortN w)) (t.2.2.drop i) i w) := by
   intro d
   induction d with
   | zero =>
     intro n i w hi hn hw hwl
     obtain ⟨n, rfl⟩ : ∃ q, n = q + 1 := ⟨n - 1, by omega⟩
     obtain rfl : i = t.2.2.length := by omega
     show z69L0T _ _ _ _ _ _ _ _ = _
     unfold z69L0T
     have hl := tok.len
     have hsl := setM_len w []
     simp only [List.length_nil, Nat.zero_add] at hsl
     have hkey : ∀ p ∈ setM [] w, p.1.length ≤ maxLen := fun p hp => by
       have := ((setM_keys w []).2 p.1).1 (List.mem_map.2 ⟨p, hp, rfl⟩)
       rcases this with h | h
       · cases h
       · exact hwl _ h
     rw [lt_ff, br_false, List.drop_length]
     unfold maps_Keys_bool slices_Sorted_keys
     dsimp only
     rw [bnd_some, if_pos ⟨by omega, hkey⟩, bnd_some]
     rfl
   | succ d ih =>
     intro n i w hi hn hw hwl
     obtain ⟨n, rfl⟩ : ∃ q, n = q + 1 := ⟨n - 1, by omega⟩
     have hlt : i < t.2.2.length := by omega
     have ha := ht.2.2.2 _ (List.getElem_mem hlt)
     have hc := cases_len (tok.val _ (List.getElem_mem hlt))
     have hcm : t.2.2[i].2.cases.length ≤ maxLen := by unfold maxLen; omega
     rw [List.drop_eq_getElem_cons hlt]
     show z69L0T _ _ _ _ _ _ _ _ = some (depsB x.2.1 i t.2.2[i] w fun w => forA (depsB x.2.1) _ _ (i + 1) w)
     unfold z69L0T depsB
     rw [lt_tt hlt, br_true, geti_lt _ hlt, bnd_some]
     simp only [GValue.eta]
     rw [checkNamed_eq hN _ hmm _ hcm, bnd_some, br_ne, wrap_succ ht.2.2.1 hlt]
     by_cases hz : namedS x.2.1 t.2.2[i].2.cases = 0
     · rw [if_neg (Classical.not_not.2 hz), if_neg (Classical.not_not.2 hz), dep_L1_eq hN hmm hok _ hcm, ← setM_app]
       have hal := attrN_len hok (tok.val _ (List.getElem_mem hlt))
       refine ih n (i + 1) (w ++ attrN x.2.1 t.2.2[i]) (by omega) (by omega) (by rw [List.length_append]; omega) fun y hy => ?_
       rcases List.mem_append.1 hy with hy | hy
       · exact hwl y hy
       · exact attrN_word (l := x.1) hx.2.1 y hy
     · rw [if_pos hz, if_pos hz]
 have := gen t.2.2.length N 0 [] (by omega) (by have := tok.len; unfold big at hN; omega) (by simp) (fun y hy => by cases hy)
 simpa [setM] using this
end Go.Proofs.YtbekhaioddmliaaGreatDoor

