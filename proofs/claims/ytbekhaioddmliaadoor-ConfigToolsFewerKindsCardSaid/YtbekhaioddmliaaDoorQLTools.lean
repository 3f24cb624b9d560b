/- What CheckTools and Tools compute. No program in sight. -/
import Derived.Test.YtbekhaioddmliaaDoorQLHolds
namespace Go.Proofs.YtbekhaioddmliaaDoor
set_option linter.unusedVariables false
set_option linter.unusedSimpArgs false
open Go Go.RowKit
variable {N : Nat}
abbrev Tool : Type := Str × Str × List (Str × Str) × List (Str × Str)
abbrev toolTy : Ty := .pr .str (.pr .str (.pr (.sl (.pr .str .str)) (.sl (.pr .str .str))))
/-- CheckTools. -/
def toolsB (l : List Tool) (i : Nat) (x : Tool) (r : Int) : Int :=
  if !isWordS x.1 then 5 else if !isWordS x.2.1 then 5 else if pairsCheckS x.2.2.1 ≠ 0 then pairsCheckS x.2.2.1 else if pairsCheckS x.2.2.2 ≠ 0 then pairsCheckS x.2.2.2 else if (l.take i).any (fun y => y.1 == x.1) then 7 else r
def toolsS (l : List Tool) : Int := if 100 < l.length then 2 else forT (toolsB l) 0 l 0
theorem IndexFunc_tool (hN : big ≤ N) (xs : List Tool) (hx : xs.length ≤ maxLen) (q : Tool) : slices_IndexFunc_api_Tool N xs (q, ()) = some (idxP (fun x => x.1 == q.1) xs) := by
  unfold slices_IndexFunc_api_Tool
  refine loop_for (fun _ _ => rfl) xs hx (fun self i h r hr => ?_) (fun self => ?_) hN
  · simp only [slices_IndexFunc_api_Tool_L0T, geti_lt xs h, wrap_succ hx h, hr, bnd_some, config_CheckTools_1]
    rw [lt_tt h, br_true, br_ite]
  · simp only [slices_IndexFunc_api_Tool_L0T, lt_ff, br_false]
theorem CheckTools_eq (hN : big ≤ N) (l : List Tool) (hl : Fit (.sl toolTy) l) : config_CheckTools N l = some (toolsS l) := by
  unfold config_CheckTools toolsS
  rw [loop_for (f := config_CheckTools_L0 N l l (l.length : Int) (some 0)) (fun _ _ => rfl) l hl.1 (body := toolsB l) (k := 0)
    (fun self i h r hr => by
      have hx := hl.2 _ (List.getElem_mem h)
      have ht : (l.take i).length ≤ maxLen := by have := hl.1; rw [List.length_take]; omega
      simp only [config_CheckTools_L0T, geti_lt l h, wrap_succ hl.1 h, hr, bnd_some, config_IsWord_eq, CheckPairs_eq hN _ hx.2.2.1.1, CheckPairs_eq hN _ hx.2.2.2.1, slc_take l (Nat.le_of_lt h), slices_ContainsFunc_api_Tool, IndexFunc_tool hN _ ht, idxP_nonneg]
      rw [lt_tt h, br_true]
      simp only [ne_zero_dec, br_ite, decide_eq_true_eq]
      rfl)
    (fun self => by simp only [config_CheckTools_L0T, lt_ff, br_false]) hN,
    (decide_eq_decide.2 (by omega) : decide ((l.length : Int) > 100) = decide (100 < l.length)), br_ite]
  simp only [decide_eq_true_eq]
/-- Kinds. -/
def kindE (l : List Str) (i : Nat) (x : Str) : Int := if !isWordS x then 5 else if i = 0 then 0 else match l[i - 1]? with | some y => if (Op.bytesLess x y || x == y) then 8 else 0 | none => 0
theorem kind_prev {R : Type} {l : List Str} (hx : l.length ≤ maxLen) {i : Nat} (h : i < l.length) {e r : R} :
    (br (decide ((i : Int) > 0)) (bnd (geti l (IntKind.i64.wrap ((i : Int) - 1))) fun y => br (Op.bytesLess l[i] y || l[i] == y) (some e) (some r)) (some r)) =
      some (if (if i = 0 then (0 : Int) else match l[i - 1]? with | some y => if (Op.bytesLess l[i] y || l[i] == y) then 8 else 0 | none => 0) ≠ 0 then e else r) := by
  unfold maxLen at hx
  cases i with
  | zero => simp
  | succ j =>
    rw [wrap_pred (by omega), show ((j + 1 : Nat) : Int) - 1 = (j : Int) by omega, geti_lt l (by omega), bnd_some, br_ite, decide_eq_true (show ((j + 1 : Nat) : Int) > 0 by omega), br_true, if_neg (Nat.succ_ne_zero j)]
    rw [show j + 1 - 1 = j from rfl, List.getElem?_eq_getElem (by omega)]
    cases h : (Op.bytesLess l[j + 1] l[j] || l[j + 1] == l[j]) <;> simp [h]
def kindsL (l : List Str) : Int := forT (fun i x r => if kindE l i x ≠ 0 then kindE l i x else r) 0 l 0
def kindsS (l : List Str) : Int := if 30 < l.length then 2 else kindsL l
theorem checkKinds_eq (hN : big ≤ N) (l : List Str) (hl : l.length ≤ maxLen) : config_checkKinds N l = some (kindsS l) := by
  unfold config_checkKinds kindsS kindsL
  rw [loop_for (f := config_checkKinds_L0 N l l (l.length : Int) (some 0)) (fun _ _ => rfl) l hl (body := fun i x r => if kindE l i x ≠ 0 then kindE l i x else r) (k := 0)
    (fun self i h r hr => by
      simp only [config_checkKinds_L0T, geti_lt l h, wrap_succ hl h, hr, bnd_some, config_IsWord_eq]
      rw [lt_tt h, br_true, kind_prev hl h, br_ite]
      unfold kindE
      cases isWordS l[i] with
      | false => simp
      | true =>
        simp only [Bool.not_true, Bool.false_eq_true, if_false]
        by_cases h0 : i = 0
        · simp [h0]
        · simp only [h0, if_false]
          cases l[i - 1]? with
          | none => simp
          | some y => cases hb : (Op.bytesLess l[i] y || l[i] == y) <;> simp [hb])
    (fun self => by simp only [config_checkKinds_L0T, lt_ff, br_false]) hN,
    (decide_eq_decide.2 (by omega) : decide ((l.length : Int) > 30) = decide (30 < l.length)), br_ite]
  simp only [decide_eq_true_eq]
/-- Whether a tool can be taken. -/
def toolFit (kind : Str) (on tg : List (Str × Str)) (t : Tool) : Bool := t.2.1 == kind && (t.2.2.1.all (hasPair on) && t.2.2.2.all (hasPair tg))
theorem toolsOn_1_eq (hN : big ≤ N) (t : Tool) (ht : Fit toolTy t) (k a : Str) (on : List (Str × Str)) (b : Str) (tg : List (Str × Str)) (h1 : on.length ≤ maxLen) (h2 : tg.length ≤ maxLen) :
    config_toolsOn_1 N t k a on b tg = some (toolFit k on tg t, (k, (a, (on, (b, tg))))) := by
  unfold config_toolsOn_1 toolFit
  rw [Fit_eq hN _ _ ht.2.2.1.1 h1, bnd_some, Fit_eq hN _ _ ht.2.2.2.1 h2, bnd_some]
  cases t.2.1 == k <;> cases t.2.2.1.all (hasPair on) <;> simp
theorem IndexFunc_2_eq (hN : big ≤ N) (l : List Tool) (hl : Fit (.sl toolTy) l) (k a : Str) (on : List (Str × Str)) (b : Str) (tg : List (Str × Str)) (h1 : on.length ≤ maxLen) (h2 : tg.length ≤ maxLen) :
    slices_IndexFunc_api_Tool_2 N l k a on b tg = some (idxP (toolFit k on tg) l, (k, (a, (on, (b, tg))))) := by
  unfold slices_IndexFunc_api_Tool_2
  have hidx : (idxP (toolFit k on tg) l, (k, (a, (on, (b, tg))))) = forT (fun (i : Nat) x (r : Int × Str × Str × List (Str × Str) × Str × List (Str × Str)) => if toolFit k on tg x = true then ((i : Int), (k, (a, (on, (b, tg))))) else r) (-1, (k, (a, (on, (b, tg))))) l 0 := by
    unfold idxP
    have : ∀ (xs : List Tool) (j : Nat), forT (fun (i : Nat) x (r : Int × Str × Str × List (Str × Str) × Str × List (Str × Str)) => if toolFit k on tg x = true then ((i : Int), (k, (a, (on, (b, tg))))) else r) (-1, (k, (a, (on, (b, tg))))) xs j = (forT (fun (i : Nat) x (r : Int) => if toolFit k on tg x = true then (i : Int) else r) (-1) xs j, (k, (a, (on, (b, tg))))) := by
      intro xs
      induction xs with
      | nil => intro j; rfl
      | cons x xs ih => intro j; simp only [forT]; rw [ih]; split <;> rfl
    rw [this]
  rw [hidx]
  refine loop_for (f := fun n i => slices_IndexFunc_api_Tool_2_L0 N l (l.length : Int) (fun a b c d e => some ((-1 : Int), (a, (b, (c, (d, e)))))) n i k a on b tg) (T := fun self i => slices_IndexFunc_api_Tool_2_L0T N l (l.length : Int) (fun a b c d e => some ((-1 : Int), (a, (b, (c, (d, e)))))) (fun i _ _ _ _ _ => self i) i k a on b tg) (fun n s => ?_) l hl.1 (fun self i h r hr => ?_) (fun self => ?_) hN
  · show slices_IndexFunc_api_Tool_2_L0T _ _ _ _ _ _ _ _ _ _ _ = _
    unfold slices_IndexFunc_api_Tool_2_L0T
    cases hg : geti l s with
    | none => simp only [bnd_none]
    | some t =>
      have ht : t ∈ l := by
        unfold geti at hg
        split at hg
        · exact List.mem_of_getElem? hg
        · cases hg
      simp only [bnd_some, toolsOn_1_eq hN t (hl.2 _ ht) k a on b tg h1 h2]
  · simp only [slices_IndexFunc_api_Tool_2_L0T, geti_lt l h, wrap_succ hl.1 h, hr, bnd_some, toolsOn_1_eq hN _ (hl.2 _ (List.getElem_mem h)) k a on b tg h1 h2]
    rw [lt_tt h, br_true, br_ite]
  · simp only [slices_IndexFunc_api_Tool_2_L0T, lt_ff, br_false]
/-- The tools for kinds, on one platform for another one. -/
def onB (l : List Tool) (on tg : List (Str × Str)) (i : Nat) (k : Str) (w : List Str) (g : List Str → Bool × List Str) : Bool × List Str := match l.find? (toolFit k on tg) with
  | some t => g (w ++ [t.1])
  | none => (false, [])
def toolsOnS (l : List Tool) (kinds : List Str) (on tg : List (Str × Str)) : Bool × List Str := forA (onB l on tg) (fun w => (true, w)) kinds 0 []
theorem app_size {w : List Str} {n : Str} {i : Nat} (h : w.length ≤ i) (hi : i < 30) : decide ((w.length + [n].length) * (24 * Ty.sz .str) ≤ 140737488355328) = true :=
  decide_eq_true (by show (w.length + 1) * (24 * 1) ≤ _; omega)
theorem toolsOn_eq (hN : big ≤ N) (l : List Tool) (hl : Fit (.sl toolTy) l) (kinds : List Str) (hk : kinds.length ≤ 30) (p q : Str × List (Str × Str)) (h1 : p.2.length ≤ maxLen) (h2 : q.2.length ≤ maxLen) :
    config_toolsOn N l kinds p q = some (toolsOnS l kinds p.2 q.2) := by
  unfold config_toolsOn toolsOnS
  have hx : kinds.length ≤ maxLen := Nat.le_trans hk (by decide)
  refine loop_acc (f := fun n i w => config_toolsOn_L0 N l kinds (kinds.length : Int) (fun w => some (true, w)) n i p.1 p.2 q.1 q.2 w) (T := fun self i w => config_toolsOn_L0T N l kinds (kinds.length : Int) (fun w => some (true, w)) (fun i _ _ _ _ w => self i w) i p.1 p.2 q.1 q.2 w)
    (fun n i w => ?_) kinds hx (fun i w => w.length ≤ i) (fun self i h w g hw hg => ?_) (fun self w _ => ?_) hN (Nat.zero_le _)
  · show config_toolsOn_L0T _ _ _ _ _ _ _ _ _ _ _ _ = _
    unfold config_toolsOn_L0T
    cases hg : geti kinds i with
    | none => simp only [bnd_none]
    | some k => simp only [bnd_some, IndexFunc_2_eq hN l hl k p.1 p.2 q.1 q.2 h1 h2]
  · simp only [config_toolsOn_L0T, geti_lt kinds h, wrap_succ hx h, bnd_some, IndexFunc_2_eq hN l hl _ p.1 p.2 q.1 q.2 h1 h2]
    rw [lt_tt h, br_true]
    unfold onB
    rcases idxP_cases (toolFit kinds[i] p.2 q.2) l with ⟨k1, k2⟩ | ⟨j, t, k1, k2, k3, k4⟩
    · rw [k1, k2]; simp
    · rw [k1, k4, decide_eq_false (show ¬ ((j : Int) < 0) by omega), br_false, geti_nat, k2, bnd_some, app_size hw (by omega), br_true]
      exact hg _ (by simp; omega)
  · simp only [config_toolsOn_L0T, lt_ff, br_false]
/-- Tools. -/
def toolsRun (pl : List (Str × List (Str × Str))) (l : List Tool) (kinds : List Str) (tg : List (Str × Str)) : Str × Bool × Int × List Str :=
  findF (fun p => (toolsOnS l kinds p.2 tg).1) (fun p => (p.1, (true, (0, (toolsOnS l kinds p.2 tg).2)))) ([], (false, (0, []))) pl
def ToolsS (pl : List (Str × List (Str × Str))) (l : List Tool) (kinds : List Str) (q : Str × List (Str × Str)) : Str × Bool × Int × List Str :=
  if platformsS pl ≠ 0 then ([], (false, (platformsS pl, []))) else if toolsS l ≠ 0 then ([], (false, (toolsS l, []))) else if kindsS kinds ≠ 0 then ([], (false, (kindsS kinds, []))) else
    if platformsS [q] ≠ 0 then ([], (false, (platformsS [q], []))) else toolsRun pl l kinds q.2
theorem kinds_len {l : List Str} (h : kindsS l = 0) : l.length ≤ 30 := by
  unfold kindsS at h
  split at h
  · cases h
  · omega
theorem Tools_eq (hN : big ≤ N) (pl : List (Str × List (Str × Str))) (hp : Fit platformTy pl) (l : List Tool) (hl : Fit (.sl toolTy) l) (kinds : List Str) (hk : Fit (.sl .str) kinds) (q : Str × List (Str × Str)) (hq : Fit (.pr .str (.sl (.pr .str .str))) q) :
    config_Tools N pl l kinds q = some (ToolsS pl l kinds q) := by
  unfold config_Tools ToolsS
  simp only [CheckPlatforms_eq hN pl hp, CheckTools_eq hN l hl, checkKinds_eq hN kinds hk.1, CheckPlatforms_eq hN _ (fit_one hq), bnd_some, br_ne]
  by_cases h1 : platformsS pl = 0 <;> by_cases h2 : toolsS l = 0 <;> by_cases h3 : kindsS kinds = 0 <;> by_cases h4 : platformsS [q] = 0 <;> simp only [h1, h2, h3, h4, ne_eq, not_true_eq_false, not_false_eq_true, if_true, if_false]
  unfold toolsRun
  rw [← forT_find _ _ _ _ 0]
  refine loop_for (fun _ _ => rfl) pl hp.1 (fun self i h r hr => ?_) (fun self => ?_) hN
  · simp only [config_Tools_L0T, geti_lt pl h, wrap_succ hp.1 h, hr, bnd_some, toolsOn_eq hN l hl kinds (kinds_len h3) _ (q.1, q.2) (hp.2 _ (List.getElem_mem h)).2.1 hq.2.1]
    rw [lt_tt h, br_true, br_ite]
  · simp only [config_Tools_L0T, lt_ff, br_false]
end Go.Proofs.YtbekhaioddmliaaDoor
