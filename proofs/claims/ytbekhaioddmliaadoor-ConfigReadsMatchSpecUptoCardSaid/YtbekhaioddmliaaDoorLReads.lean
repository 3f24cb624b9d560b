/- ReadConfig is as specified, where what is read is not too large. No program in sight. -/
import Derived.Test.YtbekhaioddmliaaDoorLTexts
import Derived.Test.YtbekhaioddmliaaDoorEndU
namespace Go.Proofs.YtbekhaioddmliaaDoor
set_option linter.unusedVariables false
set_option linter.unusedSimpArgs false
open Go Go.RowKit
variable {N : Nat}
/-- One part of a text. -/
def readB (i : Nat) (s : Str) (st : Int × List (Str × Str)) (g : Int × List (Str × Str) → Int × Int × List (Str × Str)) : Int × Int × List (Str × Str) :=
  if (Lib.cut s [61]).2.2 = true ∧ isWordS (Lib.cut s [61]).1 = true ∧ isWordS (Lib.cut s [61]).2.1 = true then
    g (IntKind.i64.wrap (st.1 + IntKind.i64.wrap ((s.length : Int) + 1)), st.2 ++ [((Lib.cut s [61]).1, (Lib.cut s [61]).2.1)])
  else (st.1, (10, []))
def readK (l : List (Str × List Str)) (st : Int × List (Str × Str)) : Int × Int × List (Str × Str) := if pairsS l st.2 true ≠ 0 then (0, (pairsS l st.2 true, [])) else (0, (0, st.2))
def readS (l : List (Str × List Str)) (t : Str) : Int × Int × List (Str × Str) :=
  if settingsS l ≠ 0 then (0, (settingsS l, [])) else if t == [45] then (0, (0, [])) else forA readB (readK l) (splitC 44 t) 0 (0, [])
theorem cut_len (s : Str) : (Lib.cut s [61]).1.length ≤ s.length ∧ (Lib.cut s [61]).2.1.length ≤ s.length := by
  unfold Lib.cut
  split
  · simp only [List.length_take, List.length_drop]; omega
  · simp
theorem read_parts (hN : big ≤ N) (l : List (Str × List Str)) (t : Str) (ht : t.length ≤ 1048576) {K : List (Str × Str) → Option (Int × Int × List (Str × Str))}
    (hK : ∀ w : List (Str × Str), w.length ≤ maxLen → K w = some (readK l (0, w))) {f : Nat → Int → Int → List (Str × Str) → Option (Int × Int × List (Str × Str))}
    {W : Str → Option Bool} (hW : ∀ s : Str, s.length ≤ maxLen → W s = some (isWordS s))
    (hf : ∀ n s9 s26 w, f (n + 1) s9 s26 w = br (decide (s26 < ((splitC 44 t).length : Int)))
      (bnd (geti (splitC 44 t) s26) fun t28 =>
      bnd (strings_Cut t28 ([61] : Str)) fun t32 =>
      br (!t32.2.2)
        (some (s9, ((10 : Int), ([] : List (Str × Str)))))
        (bnd (W t32.1) fun t40 =>
        br (!t40)
          (some (s9, ((10 : Int), ([] : List (Str × Str)))))
          (bnd (W t32.2.1) fun t45 =>
          br (!t45)
            (some (s9, ((10 : Int), ([] : List (Str × Str)))))
            (br (decide ((w.length + [(t32.1, t32.2.1)].length) * (24 * Ty.sz (.pr .str .str)) ≤ 140737488355328))
              (f n (IntKind.i64.wrap (s9 + (IntKind.i64.wrap ((t28.length : Int) + (1 : Int))))) (IntKind.i64.wrap (s26 + (1 : Int))) (w ++ [(t32.1, t32.2.1)]))
              none))))
      (K w)) : f N 0 0 [] = some (forA readB (readK l) (splitC 44 t) 0 (0, [])) := by
  have hlen : (splitC 44 t).length ≤ 1048577 := by rw [splitC_len]; have : t.count 44 ≤ t.length := List.count_le_length; omega
  have hx : (splitC 44 t).length ≤ maxLen := Nat.le_trans hlen (by decide)
  refine loop_acc (f := fun n i (s : Int × List (Str × Str)) => f n s.1 i s.2)
    (T := fun self i (s : Int × List (Str × Str)) => br (decide (i < ((splitC 44 t).length : Int)))
      (bnd (geti (splitC 44 t) i) fun t28 =>
      bnd (strings_Cut t28 ([61] : Str)) fun t32 =>
      br (!t32.2.2)
        (some (s.1, ((10 : Int), ([] : List (Str × Str)))))
        (bnd (W t32.1) fun t40 =>
        br (!t40)
          (some (s.1, ((10 : Int), ([] : List (Str × Str)))))
          (bnd (W t32.2.1) fun t45 =>
          br (!t45)
            (some (s.1, ((10 : Int), ([] : List (Str × Str)))))
            (br (decide ((s.2.length + [(t32.1, t32.2.1)].length) * (24 * Ty.sz (.pr .str .str)) ≤ 140737488355328))
              (self (IntKind.i64.wrap (i + (1 : Int))) (IntKind.i64.wrap (s.1 + (IntKind.i64.wrap ((t28.length : Int) + (1 : Int)))), s.2 ++ [(t32.1, t32.2.1)]))
              none))))
      (K s.2)) (fun n i s => hf n s.1 i s.2) (splitC 44 t) hx (fun i s => s.2.length ≤ i) (fun self i h s g hs hg => ?_) (fun self s hs => ?_) hN (s := ((0 : Int), ([] : List (Str × Str)))) (Nat.le_refl 0)
  · have hm := splitC_mem 44 t _ (List.getElem_mem h)
    have hc := cut_len (splitC 44 t)[i]
    have hcut : strings_Cut (splitC 44 t)[i] [61] = some (Lib.cut (splitC 44 t)[i] [61]) := by
      unfold strings_Cut
      exact if_pos (by omega)
    have hml : ∀ n, n ≤ (splitC 44 t)[i].length → n ≤ maxLen := fun n hn => by unfold maxLen; omega
    simp only [geti_lt _ h, wrap_succ hx h, bnd_some, hcut, hW _ (hml _ hc.1), hW _ (hml _ hc.2)]
    rw [lt_tt h, br_true]
    unfold readB
    generalize Lib.cut (splitC 44 t)[i] [61] = c
    obtain ⟨a, b, ok⟩ := c
    cases ok with
    | false => simp
    | true =>
      cases ha : isWordS a with
      | false => simp [ha]
      | true =>
        cases hb : isWordS b with
        | false => simp [ha, hb]
        | true =>
          simp only [Bool.not_true, br_false, ha, hb, and_self, if_true]
          rw [br_pos]
          · exact hg _ (by rw [List.length_append, List.length_singleton]; omega)
          · rw [List.length_singleton]; show _ * (24 * 2) ≤ _; omega
  · simp only [lt_ff, br_false]
    rw [hK _ (by omega)]; rfl
theorem ReadConfig_eq (hN : big ≤ N) (l : List (Str × List Str)) (hl : Fit settingTy l) (t : Str) (ht : t.length ≤ 1048576) : config_ReadConfig N l t = some (readS l t) := by
  unfold config_ReadConfig readS
  rw [settings_eq hN l hl, bnd_some, br_ne]
  by_cases h : settingsS l = 0
  · rw [if_neg (by simpa using h), if_neg (by simpa using h), br_eq_ite]
    by_cases h2 : (t == [45]) = true
    · rw [if_pos h2, if_pos h2]
    · rw [if_neg h2, if_neg h2, strings_Split_one _ _ (by omega), bnd_some]
      refine read_parts hN l t ht (K := _) (fun w hw => ?_) (f := fun n a i w => config_ReadConfig_L0 N (splitC 44 t) ((splitC 44 t).length : Int) _ n a i w) (W := config_IsWord N) (fun s _ => config_IsWord_eq s) (fun _ _ _ _ => rfl)
      rw [checkSet_eq hN l hl w hw (settings_some h), bnd_some, br_ne]
      unfold readK
      split <;> rfl
  · rw [if_pos h, if_pos h]
theorem ref_ReadConfig_eq (hN : big ≤ N) (l : List (Str × List Str)) (hl : Fit settingTy l) (t : Str) (ht : t.length ≤ 1048576) : ref3_ReadConfig N l t = some (readS l t) := by
  unfold ref3_ReadConfig readS
  rw [ref_settings_eq hN l hl, bnd_some, br_ne]
  by_cases h : settingsS l = 0
  · rw [if_neg (by simpa using h), if_neg (by simpa using h), br_eq_ite]
    by_cases h2 : (t == [45]) = true
    · rw [if_pos h2, if_pos h2]
    · rw [if_neg h2, if_neg h2, strings_Split_one _ _ (by omega), bnd_some]
      refine read_parts hN l t ht (K := _) (fun w hw => ?_) (f := fun n a i w => ref3_ReadConfig_L0 N (splitC 44 t) ((splitC 44 t).length : Int) _ n a i w) (W := ref3_IsWord N) (fun s hs => ref3_IsWord_eq hN s hs) (fun _ _ _ _ => rfl)
      rw [ref_checkConfig_eq hN l hl w hw, bnd_some, br_ne]
      have e : configS l w = pairsS l w true := by unfold configS; rw [if_neg (by simpa using h)]
      rw [e]
      unfold readK
      split <;> rfl
  · rw [if_pos h, if_pos h]
theorem readB_len : ∀ (xs : List Str) (i : Nat) (l : List (Str × List Str)) (st : Int × List (Str × Str)), (forA readB (readK l) xs i st).2.2.length ≤ st.2.length + xs.length
  | [], _, l, st => by
    show (readK l st).2.2.length ≤ _
    unfold readK
    split <;> simp
  | x :: xs, i, l, st => by
    show (readB i x st _).2.2.length ≤ _
    unfold readB
    split
    · refine Nat.le_trans (readB_len xs (i + 1) l _) ?_
      simp only [List.length_append, List.length_cons, List.length_nil]; omega
    · simp
theorem readS_len (l : List (Str × List Str)) (t : Str) (ht : t.length ≤ 1048576) : (readS l t).2.2.length ≤ maxLen := by
  unfold readS
  split
  · exact Nat.zero_le _
  · split
    · exact Nat.zero_le _
    · refine Nat.le_trans (readB_len _ _ _ _) ?_
      have hlen : (splitC 44 t).length ≤ 1048577 := by rw [splitC_len]; have : t.count 44 ≤ t.length := List.count_le_length; omega
      unfold maxLen
      simp only [List.length_nil]; omega
theorem plain_ConfigReadsMatchSpec (l : List (Str × List Str)) (t : Str) (hl : Fit settingTy l) (_ : Fit .str t) (hb : bulkG rbC settingTy l + bulkG rbC .str t ≤ 1048576) : ∃ N, law3_ConfigReadsMatchSpec N l t = some true := by
  have hN : big ≤ big := Nat.le_refl _
  have ht : t.length ≤ 1048576 := by simp only [bulkG] at hb; omega
  refine ⟨big, ?_⟩
  unfold law3_ConfigReadsMatchSpec
  rw [ReadConfig_eq hN l hl t ht, ref_ReadConfig_eq hN l hl t ht, bnd_some, bnd_some]
  simp only [beq_self_eq_true, br_true, Equal_pair_self hN _ (readS_len l t ht), bnd_some, awake_eq]
end Go.Proofs.YtbekhaioddmliaaDoor
