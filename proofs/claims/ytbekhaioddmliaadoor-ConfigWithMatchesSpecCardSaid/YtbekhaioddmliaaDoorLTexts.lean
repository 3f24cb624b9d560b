/- What ConfigText writes, and that it is read again. No program in sight. -/
import Derived.Test.YtbekhaioddmliaaDoorCfF6
import Derived.Test.YtbekhaioddmliaaDoorCfg
import Derived.Test.YtbekhaioddmliaaDoorSplt
import Derived.Test.YtbekhaioddmliaaDoorFor2
import Derived.Test.YtbekhaioddmliaaDoorLTools
namespace Go.Proofs.YtbekhaioddmliaaDoor
set_option linter.unusedVariables false
set_option linter.unusedSimpArgs false
open Go Go.RowKit
variable {N : Nat}
def pairTxt (p : Str × Str) : Str := (p.1 ++ [61]) ++ p.2
def textS (l : List (Str × List Str)) (c : List (Str × Str)) : Str × Int :=
  if configS l c ≠ 0 then ([], configS l c) else if c.length = 0 then ([45], 0) else (Lib.join (c.map pairTxt) [44], 0)
theorem pairTxt_len {p : Str × Str} (h : isWordS p.1 = true ∧ isWordS p.2 = true) : (pairTxt p).length ≤ 81 := by
  have h1 := word_len h.1
  have h2 := word_len h.2
  unfold pairTxt
  simp only [List.length_append, List.length_singleton]
  omega
theorem text_len {c : List (Str × Str)} (hl : c.length ≤ 30) (hw : ∀ p ∈ c, isWordS p.1 = true ∧ isWordS p.2 = true) : (Lib.join (c.map pairTxt) [44]).length ≤ 2460 := by
  have := join_len_le (c.map pairTxt) 44 81 (fun x hx => by obtain ⟨p, hp, rfl⟩ := List.mem_map.1 hx; exact pairTxt_len (hw p hp))
  rw [List.length_map] at this
  omega
theorem Join_text {c : List (Str × Str)} (hl : c.length ≤ 30) (hw : ∀ p ∈ c, isWordS p.1 = true ∧ isWordS p.2 = true) : strings_Join (c.map pairTxt) [44] = some (Lib.join (c.map pairTxt) [44]) := by
  have := text_len hl hw
  unfold strings_Join
  exact if_pos ⟨by omega, by rw [List.length_map]; omega⟩
theorem take_succ_map {α β : Type} (f : α → β) (l : List α) {i : Nat} (h : i < l.length) : ((l.take i).map f) ++ [f l[i]] = (l.take (i + 1)).map f := by
  rw [List.take_succ_eq_append_getElem h, List.map_append]; rfl
def textT {R : Type} (c : List (Str × Str)) (k0 : List Str → Option R) (self : Int → List Str → Option R) (i : Int) (s : List Str) : Option R :=
  br (decide (i < (c.length : Int)))
    (bnd (geti c i) fun t23 =>
    br (decide (t23.1.length + ([61] : Str).length ≤ 9223372036854775807))
      (br (decide ((t23.1 ++ ([61] : Str)).length + t23.2.length ≤ 9223372036854775807))
        (br (decide ((s.length + [(t23.1 ++ ([61] : Str)) ++ t23.2].length) * (24 * Ty.sz .str) ≤ 140737488355328))
          (self (IntKind.i64.wrap (i + (1 : Int))) (s ++ [(t23.1 ++ ([61] : Str)) ++ t23.2]))
          none)
        none)
      none)
    (k0 s)
theorem text_loop (hN : big ≤ N) {c : List (Str × Str)} (hl : c.length ≤ 30) (hw : ∀ p ∈ c, isWordS p.1 = true ∧ isWordS p.2 = true) {R : Type} {f : Nat → Int → List Str → Option R} {k0 : List Str → Option R}
    (hf : ∀ n i s, f (n + 1) i s = textT c k0 (f n) i s) : f N 0 [] = k0 (c.map pairTxt) := by
  have hx : c.length ≤ maxLen := Nat.le_trans hl (by decide)
  refine loop_st (T := textT c k0) hf hx (fun i => (c.take i).map pairTxt) (fun self i h hr => ?_) (fun self => ?_) hN
  · have hm := hw _ (List.getElem_mem h)
    have h1 := word_len hm.1
    have h2 := word_len hm.2
    simp only [textT, geti_lt c h, wrap_succ hx h, bnd_some]
    rw [lt_tt h, br_true, br_pos, br_pos, br_pos]
    · have := take_succ_map pairTxt c h
      unfold pairTxt at this ⊢
      rw [this]; exact hr
    · rw [List.length_map, List.length_take, List.length_singleton]; show _ * (24 * 1) ≤ _; omega
    · simp only [List.length_append, List.length_singleton]; omega
    · simp only [List.length_singleton]; omega
  · simp only [textT, lt_ff, br_false, List.take_length]
theorem ConfigText_eq (hN : big ≤ N) (l : List (Str × List Str)) (hl : Fit settingTy l) (c : List (Str × Str)) (hc : c.length ≤ maxLen) : config_ConfigText N l c = some (textS l c) := by
  unfold config_ConfigText textS
  rw [checkConfig_eq hN l hl c hc, bnd_some, br_ne]
  split
  · rfl
  · rename_i h
    have ok := (config_iff l c).1 (Classical.not_not.1 h)
    rw [show ((c.length : Int) == 0) = decide (c.length = 0) by show decide _ = decide _; exact decide_eq_decide.2 (by omega)]
    by_cases h0 : c.length = 0
    · rw [decide_eq_true h0, br_true, if_pos h0]
    · rw [decide_eq_false h0, br_false, if_neg h0, text_loop (f := config_ConfigText_L0 N c (c.length : Int) _) hN ok.len ok.words (fun _ _ _ => rfl), Join_text ok.len ok.words, bnd_some]
theorem ref_ConfigText_eq (hN : big ≤ N) (l : List (Str × List Str)) (hl : Fit settingTy l) (c : List (Str × Str)) (hc : c.length ≤ maxLen) : ref3_ConfigText N l c = some (textS l c) := by
  unfold ref3_ConfigText textS
  rw [ref_checkConfig_eq hN l hl c hc, bnd_some, br_ne]
  split
  · rfl
  · rename_i h
    have ok := (config_iff l c).1 (Classical.not_not.1 h)
    rw [show ((c.length : Int) == 0) = decide (c.length = 0) by show decide _ = decide _; exact decide_eq_decide.2 (by omega)]
    by_cases h0 : c.length = 0
    · rw [decide_eq_true h0, br_true, if_pos h0]
    · rw [decide_eq_false h0, br_false, if_neg h0, text_loop (f := ref3_ConfigText_L0 N c (c.length : Int) _) hN ok.len ok.words (fun _ _ _ => rfl), Join_text ok.len ok.words, bnd_some]
/-- Where the n-th part begins. -/
def atS (c : List (Str × Str)) (i : Nat) : Nat := ((c.take i).map fun p => (pairTxt p).length + 1).sum
theorem atS_succ (c : List (Str × Str)) {i : Nat} (h : i < c.length) : atS c (i + 1) = atS c i + ((pairTxt c[i]).length + 1) := by
  unfold atS
  rw [List.take_succ_eq_append_getElem h, List.map_append, List.sum_append]; simp
theorem atS_le {c : List (Str × Str)} (hw : ∀ p ∈ c, isWordS p.1 = true ∧ isWordS p.2 = true) : ∀ i, i ≤ c.length → atS c i ≤ i * 82
  | 0, _ => by simp [atS]
  | i + 1, h => by
    rw [atS_succ c h]
    have := atS_le hw i (by omega)
    have := pairTxt_len (hw _ (List.getElem_mem (show i < c.length by omega)))
    omega
theorem read_loop (hN : big ≤ N) {c : List (Str × Str)} (hl : c.length ≤ 30) (hw : ∀ p ∈ c, isWordS p.1 = true ∧ isWordS p.2 = true) (k0 : (List (Str × Str)) → Option (Int × Int × List (Str × Str))) :
    config_ReadConfig_L0 N (c.map pairTxt) ((c.map pairTxt).length : Int) k0 N 0 0 [] = k0 c := by
  have hx : (c.map pairTxt).length ≤ maxLen := by rw [List.length_map]; exact Nat.le_trans hl (by decide)
  have := loop_st (f := fun n i (s : Int × List (Str × Str)) => config_ReadConfig_L0 N (c.map pairTxt) ((c.map pairTxt).length : Int) k0 n s.1 i s.2)
    (T := fun self i s => config_ReadConfig_L0T N (c.map pairTxt) ((c.map pairTxt).length : Int) k0 (fun a i w => self i (a, w)) s.1 i s.2) (fun _ _ _ => rfl) hx (fun i => ((atS c i : Int), c.take i)) (r := k0 c) (fun self i h hr => ?_) (fun self => ?_) hN
  · exact this
  · have h' : i < c.length := by simpa using h
    have hm := hw _ (List.getElem_mem h')
    have ha := atS_le hw i (by omega)
    have hp := pairTxt_len hm
    have hcut : strings_Cut (pairTxt c[i]) [61] = some (c[i].1, c[i].2, true) := by
      unfold strings_Cut
      rw [if_pos (by omega)]
      unfold pairTxt
      rw [List.append_assoc]
      exact congrArg some (cut_hit (word_no hm.1 (by decide)) _)
    simp only [config_ReadConfig_L0T, geti_lt _ h, wrap_succ hx h, bnd_some, List.getElem_map, hcut, config_IsWord_eq, hm.1, hm.2]
    rw [lt_tt h, br_true]
    simp only [Bool.not_true, br_false]
    rw [br_pos (by rw [List.length_take, List.length_singleton]; show _ * (24 * 2) ≤ _; omega : ((c.take i).length + [(c[i].1, c[i].2)].length) * (24 * Ty.sz (.pr .str .str)) ≤ 140737488355328),
      wrap_id (n := ((pairTxt c[i]).length : Int) + 1) (by omega) (by omega), wrap_id (n := (atS c i : Int) + (((pairTxt c[i]).length : Int) + 1)) (by omega) (by omega)]
    have e : ((atS c i : Int) + (((pairTxt c[i]).length : Int) + 1)) = ((atS c (i + 1) : Nat) : Int) := by rw [atS_succ c h']; omega
    have e2 : c.take i ++ [(c[i].1, c[i].2)] = c.take (i + 1) := (List.take_succ_eq_append_getElem h').symm
    rw [e, e2]; exact hr
  · simp only [config_ReadConfig_L0T, lt_ff, br_false]
    have : c.take (c.map pairTxt).length = c := by rw [List.length_map, List.take_length]
    rw [this]
theorem text_ne {c : List (Str × Str)} (hw : ∀ p ∈ c, isWordS p.1 = true ∧ isWordS p.2 = true) (h0 : c ≠ []) : (Lib.join (c.map pairTxt) [44] == ([45] : Str)) = false := by
  cases hb : (Lib.join (c.map pairTxt) [44] == ([45] : Str)) with
  | false => rfl
  | true =>
    exfalso
    have e := eq_of_beq hb
    have hs := split_join (c := 44) (l := c.map pairTxt) (by simpa using h0) (fun x hx => by
      obtain ⟨p, hp, rfl⟩ := List.mem_map.1 hx
      have := hw p hp
      unfold pairTxt
      simp only [List.mem_append, List.mem_singleton]
      rintro ((h | h) | h)
      · exact word_no this.1 (by decide) h
      · exact absurd h (by decide)
      · exact word_no this.2 (by decide) h)
    rw [e] at hs
    have : splitC 44 ([45] : Str) = [[45]] := by decide
    rw [this] at hs
    have hm : ([45] : Str) ∈ c.map pairTxt := by rw [← hs]; simp
    obtain ⟨p, hp, e2⟩ := List.mem_map.1 hm
    have : (61 : UInt8) ∈ pairTxt p := by unfold pairTxt; simp
    rw [e2] at this
    exact absurd this (by decide)
theorem ReadConfig_text (hN : big ≤ N) (l : List (Str × List Str)) (hl : Fit settingTy l) (c : List (Str × Str)) (ok : CfgOk l c) : config_ReadConfig N l (textS l c).1 = some (0, (0, c)) := by
  have hS := (settings_iff l).2 ok.set
  have hC := (config_iff l c).2 ok
  unfold config_ReadConfig textS
  rw [settings_eq hN l hl, bnd_some, hS, if_neg (by simp [hC])]
  by_cases h0 : c.length = 0
  · rw [if_pos h0, List.length_eq_zero_iff.1 h0, show ((([45] : Str), (0 : Int)).1 == ([45] : Str)) = true from rfl, br_true, bne_self_eq_false, br_false]
  · have h0' : c ≠ [] := fun e => h0 (by rw [e]; rfl)
    rw [if_neg h0]
    have hlen := text_len ok.len ok.words
    have hsplit : strings_Split (Lib.join (c.map pairTxt) [44]) [44] = some (c.map pairTxt) := by
      rw [strings_Split_one _ _ (by omega)]
      refine congrArg some (split_join (by simpa using h0') fun x hx => ?_)
      obtain ⟨p, hp, rfl⟩ := List.mem_map.1 hx
      have := ok.words p hp
      unfold pairTxt
      simp only [List.mem_append, List.mem_singleton]
      rintro ((h | h) | h)
      · exact word_no this.1 (by decide) h
      · exact absurd h (by decide)
      · exact word_no this.2 (by decide) h
    have hset : config_checkSet N l c true = some 0 := by
      rw [checkSet_eq hN l hl c (Nat.le_trans ok.len (by decide)) ok.set.some, (pairs_iff l c true).2 ⟨ok.pair, ok.asc⟩]
    simp only [text_ne ok.words h0', hsplit, bnd_some, br_false, bne_self_eq_false, read_loop hN ok.len ok.words, hset]
theorem Equal_pair_self (hN : big ≤ N) (l : List (Str × Str)) (hl : l.length ≤ maxLen) : slices_Equal_api_Pair N l l = some true := by
  unfold slices_Equal_api_Pair
  have hL : slices_Equal_api_Pair_L0 N l l (l.length : Int) (some true) N 0 = some true := by
    refine loop_st (f := fun n i (_ : Unit) => slices_Equal_api_Pair_L0 N l l (l.length : Int) (some true) n i) (T := fun self i _ => slices_Equal_api_Pair_L0T N l l (l.length : Int) (some true) (fun i => self i ()) i) (fun _ _ _ => rfl) hl (fun _ => ()) (fun self i h hr => ?_) (fun self => ?_) hN
    · simp only [slices_Equal_api_Pair_L0T, geti_lt l h, wrap_succ hl h, bnd_some]
      rw [lt_tt h, br_true]
      have : eqb (.pr .str .str) l[i] l[i] = true := by
        show (l[i].1 == l[i].1 && l[i].2 == l[i].2) = true
        simp
      rw [this, Bool.not_true, br_false]
      exact hr
    · simp only [slices_Equal_api_Pair_L0T, lt_ff, br_false]
  rw [hL]; simp
theorem plain_ConfigTextsMatchSpec (l : List (Str × List Str)) (c : List (Str × Str)) (hl : Fit settingTy l) (hc : Fit pairTy c) : ∃ N, law3_ConfigTextsMatchSpec N l c = some true := by
  have hN : big ≤ big := Nat.le_refl _
  refine ⟨big, ?_⟩
  unfold law3_ConfigTextsMatchSpec
  rw [ConfigText_eq hN l hl c hc.1, ref_ConfigText_eq hN l hl c hc.1, awake_eq]
  simp only [bnd_some, bne_self_eq_false, br_false, beq_self_eq_true, Bool.not_true]
  by_cases h : configS l c = 0
  · have ok := (config_iff l c).1 h
    rw [ReadConfig_text hN l hl c ok]
    have : (textS l c).2 = 0 := by unfold textS; rw [if_neg (by simp [h])]; split <;> rfl
    rw [this]
    simp only [bnd_some, bne_self_eq_false, br_false, beq_self_eq_true, br_true, Equal_pair_self hN c hc.1]
  · have : (textS l c).2 = configS l c := by unfold textS; rw [if_pos h]
    rw [this, br_ne, if_pos h]
end Go.Proofs.YtbekhaioddmliaaDoor
