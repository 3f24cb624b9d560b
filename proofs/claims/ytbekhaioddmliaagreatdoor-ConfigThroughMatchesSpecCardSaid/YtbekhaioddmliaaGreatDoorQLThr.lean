/- What transitions compute; the law ThroughMatches. No program in sight. -/
import Derived.Test.YtbekhaioddmliaaGreatDoorQEnd
import Derived.Test.YtbekhaioddmliaaGreatDoorQLAllO
import Derived.Test.YtbekhaioddmliaaGreatDoorQSlc
namespace Go.Proofs.YtbekhaioddmliaaGreatDoor
set_option linter.unusedVariables false
set_option linter.unusedSimpArgs false
open Go Go.RowKit
variable {N : Nat}
abbrev Trans : Type := Str × List (Str × Str) × List Str
abbrev transTy : Ty := .pr .str (.pr (.sl (.pr .str .str)) (.sl .str))
/-- Whether pairs say something for a name. -/
def setsN (c : Cfg) (n : Str) : Bool := c.any fun p => p.1 == n
theorem setsN_iff {c : Cfg} {n : Str} : setsN c n = true ↔ ∃ p ∈ c, p.1 = n := by
  unfold setsN
  rw [List.any_eq_true]
  exact ⟨fun ⟨p, hp, e⟩ => ⟨p, hp, eq_of_beq e⟩, fun ⟨p, hp, e⟩ => ⟨p, hp, by rw [e]; exact beq_self_eq_true _⟩⟩
theorem pairOf_snd (c : Cfg) (n : Str) : (findF (fun s : Str × Str => s.1 == n) (fun s => (s.2, true)) (([] : Str), false) c).2 = setsN c n := by
  unfold findF setsN
  cases hf : c.find? (fun s => s.1 == n) with
  | none =>
    symm
    rw [List.any_eq_false]
    intro x hx
    exact List.find?_eq_none.1 hf x hx
  | some s =>
    symm
    exact List.any_eq_true.2 ⟨s, (find_mem hf).1, by rw [(find_mem hf).2]; exact beq_self_eq_true _⟩
theorem trans_1_eq (hN : big ≤ N) (n : Str) (t : Trans) (ht : t.2.1.length ≤ maxLen) : config_CheckTransitions_1 N n t = some (setsN t.2.1 n) := by
  unfold config_CheckTransitions_1
  rw [pairOf_eq hN _ ht, bnd_some, pairOf_snd]
theorem IndexFunc_str3 (hN : big ≤ N) (xs : List Str) (hx : xs.length ≤ maxLen) (t : Trans) (ht : t.2.1.length ≤ maxLen) : slices_IndexFunc_string_string_3 N xs (t, ()) = some (idxP (setsN t.2.1) xs) := by
  unfold slices_IndexFunc_string_string_3
  refine loop_for (fun _ _ => rfl) xs hx (fun self i h r hr => ?_) (fun self => ?_) hN
  · simp only [slices_IndexFunc_string_string_3_L0T, geti_lt xs h, wrap_succ hx h, hr, bnd_some, trans_1_eq hN _ t ht]
    rw [lt_tt h, br_true, br_ite]
  · simp only [slices_IndexFunc_string_string_3_L0T, lt_ff, br_false]
theorem setBy_eq (hN : big ≤ N) (t : Trans) (ht : t.2.1.length ≤ maxLen) (n : Str) : ref3_setBy N t n = some (setsN t.2.1 n) := by
  unfold ref3_setBy setsN
  have : ∀ k : Bool, (if t.2.1.any (fun p => p.1 == n) = true then true else k) = (t.2.1.any (fun p => p.1 == n) || k) := by intro k; cases t.2.1.any (fun p => p.1 == n) <;> simp
  rw [← Bool.or_false (t.2.1.any fun p => p.1 == n), ← this false, ← forT_guard _ _ _ _ 0]
  refine loop_for (fun _ _ => rfl) _ ht (fun self j hj r' hr' => ?_) (fun self => ?_) hN
  · simp only [ref3_setBy_L0T, geti_lt _ hj, wrap_succ ht hj, hr', bnd_some]
    rw [lt_tt hj, br_true, br_ite]
  · simp only [ref3_setBy_L0T, lt_ff, br_false]
/-- CheckTransitions. -/
def transB (l : Sets) (ts : List Trans) (i : Nat) (t : Trans) (r : Int) : Int :=
  if !isWordS t.1 then 5 else if decide (pairsS l t.2.1 false ≠ 0) then pairsS l t.2.1 false else if decide (namesS l t.2.2 ≠ 0) then namesS l t.2.2 else if t.2.2.any (setsN t.2.1) then 12 else prevS ts i t.1 r
def transS (l : Sets) (ts : List Trans) : Int := if settingsS l ≠ 0 then settingsS l else if 50 < ts.length then 2 else forT (transB l ts) 0 ts 0
theorem CheckTransitions_eq (hN : big ≤ N) (l : Sets) (hl : Fit settingTy l) (m : List Trans) (hm : Fit (.sl transTy) m) : config_CheckTransitions N l m = some (transS l m) := by
  unfold config_CheckTransitions transS
  rw [settings_eq hN l hl, bnd_some, ne_zero_dec]
  by_cases hz : settingsS l = 0
  · rw [decide_eq_false (by simpa using hz), br_false, if_neg (by simpa using hz),
      loop_for (f := config_CheckTransitions_L0 N l m m (m.length : Int) (some 0)) (fun _ _ => rfl) m hm.1 (body := transB l m) (k := 0)
      (fun self i h r hr => by
        have hx := hm.2 _ (List.getElem_mem h)
        simp only [config_CheckTransitions_L0T, geti_lt m h, wrap_succ hm.1 h, hr, bnd_some, config_IsWord_eq, checkSet_eq hN l hl _ hx.2.1.1 (settings_some hz), checkNames_eq hN l hl _ hx.2.2.1, slices_ContainsFunc_string_string_3, IndexFunc_str3 hN _ hx.2.2.1 m[i] hx.2.1.1, idxP_nonneg]
        rw [lt_tt h, br_true, prev_eq hm.1 h, ne_zero_dec, ne_zero_dec]
        unfold transB
        simp only [br_ite])
      (fun self => by simp only [config_CheckTransitions_L0T, lt_ff, br_false]) hN,
      (decide_eq_decide.2 (by omega) : decide ((m.length : Int) > 50) = decide (50 < m.length)), br_ite]
    simp only [decide_eq_true_eq]
  · rw [decide_eq_true hz, br_true, if_pos hz]
theorem ref_CheckTransitions_eq (hN : big ≤ N) (l : Sets) (hl : Fit settingTy l) (m : List Trans) (hm : Fit (.sl transTy) m) : ref3_CheckTransitions N l m = some (transS l m) := by
  unfold ref3_CheckTransitions transS
  rw [ref_settings_eq hN l hl, bnd_some, ne_zero_dec]
  by_cases hz : settingsS l = 0
  · rw [decide_eq_false (by simpa using hz), br_false, if_neg (by simpa using hz),
      loop_for (f := ref3_CheckTransitions_L0 N l m m (m.length : Int) (some 0)) (fun _ _ => rfl) m hm.1 (body := transB l m) (k := 0)
      (fun self i h r hr => by
        have hx := hm.2 _ (List.getElem_mem h)
        have hin : ∀ r' : Int, ref3_CheckTransitions_L1 N m[i].2.2 (m[i].2.2.length : Int) m[i].1 m[i].2.1 m[i].2.2 (some r') N 0 = some (if m[i].2.2.any (setsN m[i].2.1) then 12 else r') := fun r' => by
          rw [← forT_guard _ _ _ _ 0]
          refine loop_for (fun _ _ => rfl) _ hx.2.2.1 (fun self j hj r' hr' => ?_) (fun self => ?_) hN
          · simp only [ref3_CheckTransitions_L1T, geti_lt _ hj, wrap_succ hx.2.2.1 hj, hr', bnd_some, setBy_eq hN (m[i].1, (m[i].2.1, m[i].2.2)) hx.2.1.1]
            rw [lt_tt hj, br_true, br_ite]
          · simp only [ref3_CheckTransitions_L1T, lt_ff, br_false]
        simp only [ref3_CheckTransitions_L0T, geti_lt m h, wrap_succ hm.1 h, hr, bnd_some, ref3_IsWord_eq hN _ hx.1, checkNeeds_eq hN l hl _ hx.2.1.1, ref_checkNames_eq hN l hl _ hx.2.2.1]
        rw [lt_tt h, br_true, prev_eq hm.1 h, hin, ne_zero_dec, ne_zero_dec]
        unfold transB
        simp only [br_ite])
      (fun self => by simp only [ref3_CheckTransitions_L0T, lt_ff, br_false]) hN,
      (decide_eq_decide.2 (by omega) : decide ((m.length : Int) > 50) = decide (50 < m.length)), br_ite]
    simp only [decide_eq_true_eq]
  · rw [decide_eq_true hz, br_true, if_pos hz]
/-- A right transition. -/
structure TransOk (l : Sets) (t : Trans) : Prop where
  set : SetOk l
  pair : ∀ p ∈ t.2.1, PairOk l false p
  asc : Asc t.2.1
  names : NamesOk l t.2.2
  off : ∀ n ∈ t.2.2, setsN t.2.1 n = false
theorem trans_iff {l : Sets} {t : Trans} (h : transS l [t] = 0) : TransOk l t := by
  unfold transS at h
  by_cases hz : settingsS l = 0
  case neg => rw [if_pos hz] at h; exact absurd h hz
  rw [if_neg (by simpa using hz), if_neg (by simp)] at h
  change transB l [t] 0 t 0 = 0 at h
  unfold transB at h
  split at h
  · cases h
  · split at h
    · rename_i h1; exact absurd h (of_decide_eq_true h1)
    · rename_i h1
      have h1 : pairsS l t.2.1 false = 0 := by simpa using h1
      split at h
      · rename_i h2; exact absurd h (of_decide_eq_true h2)
      · rename_i h2
        have h2 : namesS l t.2.2 = 0 := by simpa using h2
        split at h
        · cases h
        · rename_i h3
          have h3 : ∀ n ∈ t.2.2, ¬ setsN t.2.1 n = true := by
            intro n hn e
            exact h3 (List.any_eq_true.2 ⟨n, hn, e⟩)
          have hp := (pairs_iff l t.2.1 false).1 h1
          exact ⟨(settings_iff l).1 hz, hp.1, hp.2, (names_iff l _).1 h2, fun n hn => by simpa using h3 n hn⟩
theorem TransOk.len {l : Sets} {t : Trans} (h : TransOk l t) : t.2.1.length ≤ 30 ∧ t.2.2.length ≤ 30 :=
  ⟨Nat.le_trans (h.asc.len fun p hp => by obtain ⟨s, h1, h2, _⟩ := (h.pair p hp).mem; exact ⟨s, h1, h2⟩) h.set.len, Nat.le_trans (names_len h.names) h.set.len⟩
/-- Some values set. -/
def setAll (l : Sets) (c : Cfg) (ps : Cfg) : Cfg := ps.foldl (fun c p => withS l c p.1 p.2) c
theorem setAll_ok {l : Sets} : ∀ (ps : Cfg) (c : Cfg), CfgOk l c → (∀ p ∈ ps, PairOk l false p) → CfgOk l (setAll l c ps)
  | [], c, h, _ => h
  | p :: ps, c, h, hp => by
    refine setAll_ok ps _ ?_ fun q hq => hp q (List.mem_cons_of_mem _ hq)
    obtain ⟨s, hs, hn, hv⟩ := (hp p (by simp)).mem
    show CfgOk l (withS l c p.1 p.2)
    rw [← hn]
    exact with_ok h hs hv
theorem setAll_take {l : Sets} {c : Cfg} {ps : Cfg} {i : Nat} (h : i < ps.length) : setAll l c (ps.take (i + 1)) = withS l (setAll l c (ps.take i)) ps[i].1 ps[i].2 := by
  unfold setAll
  rw [List.take_succ_eq_append_getElem h, List.foldl_append]; rfl
/-- Through. -/
def ThroughS (l : Sets) (t : Trans) (c : Cfg) : List Cfg × Int :=
  if configS l c ≠ 0 then ([], configS l c) else if transS l [t] ≠ 0 then ([], transS l [t]) else
    if (allS l t.2.2 [setAll l c t.2.1]).2 then ((allS l t.2.2 [setAll l c t.2.1]).1, 0) else ([], 2)
theorem spread_c (hN : big ≤ N) (l : Sets) (hl : Fit settingTy l) (c : Cfg) (ok : CfgOk l c) (ns : List Str) (hn : NamesOk l ns) : config_spread N l c ns = some (allS l ns [c]) := by
  unfold config_spread
  rw [Clone_pair c (by have := ok.len; omega), bnd_some]
  have hns : ns.length ≤ 30 := Nat.le_trans (names_len hn) ok.set.len
  have := spread_from hN l hl ok.set ns hn ns.length N 0 [c] (by omega) (by unfold big at hN; omega) (by simp) (fun x hx => by rw [List.mem_singleton.1 hx]; exact ok)
  exact this
theorem all_c (hN : big ≤ N) (l : Sets) (hl : Fit settingTy l) (c : Cfg) (ok : CfgOk l c) (ns : List Str) (hn : NamesOk l ns) : ref3_all N l c ns = some (allS l ns [c]) := by
  unfold ref3_all
  have hns : ns.length ≤ 30 := Nat.le_trans (names_len hn) ok.set.len
  have := all_from hN l hl ok.set ns hn ns.length N 0 [c] (by omega) (by unfold big at hN; omega) (by simp) (fun x hx => by rw [List.mem_singleton.1 hx]; exact ok)
  exact this
/-- A loop that carries something along, in the order (state, place). -/
theorem loop_ts {S R : Type} {f : Nat → S → Int → Option R} {T : (S → Int → Option R) → S → Int → Option R} (hf : ∀ n s i, f (n + 1) s i = T (f n) s i) {m : Nat} (hm : m ≤ maxLen) (st : Nat → S) {r : Option R}
    (hT : ∀ (self : S → Int → Option R) (i : Nat), i < m → self (st (i + 1)) ((i + 1 : Nat) : Int) = r → T self (st i) (i : Int) = r)
    (hE : ∀ self : S → Int → Option R, T self (st m) (m : Int) = r) {N : Nat} (hN : big ≤ N) : f N (st 0) 0 = r :=
  loop_st (f := fun n i s => f n s i) (T := fun self i s => T (fun s i => self i s) s i) (fun n i s => hf n s i) hm st (fun self i hi h => hT _ i hi h) (fun self => hE _) hN
theorem Through_eq (hN : big ≤ N) (l : Sets) (hl : Fit settingTy l) (t : Trans) (ht : Fit transTy t) (c : Cfg) (hc : c.length ≤ maxLen) : config_Through N l t c = some (ThroughS l t c) := by
  unfold config_Through ThroughS
  rw [checkConfig_eq hN l hl c hc, bnd_some, br_ne]
  by_cases h : configS l c = 0
  case neg => rw [if_pos h, if_pos h]
  have ok := (config_iff l c).1 h
  rw [if_neg (by simpa using h), if_neg (by simpa using h), CheckTransitions_eq hN l hl _ (fit_one ht), bnd_some, br_ne]
  by_cases h2 : transS l [t] = 0
  case neg => rw [if_pos h2, if_pos h2]
  have tok := trans_iff h2
  rw [if_neg (by simpa using h2), if_neg (by simpa using h2)]
  refine loop_ts (f := fun m w i => config_Through_L0 N l t.2.1 (t.2.1.length : Int) _ m w i) (T := fun self w i => config_Through_L0T N l t.2.1 (t.2.1.length : Int) _ self w i) (fun _ _ _ => rfl) ht.2.1.1 (fun i => setAll l c (t.2.1.take i)) (fun self i hi hr => ?_) (fun self => ?_) hN
  · have hp := tok.pair _ (List.getElem_mem hi)
    obtain ⟨s, hs, hn, hv⟩ := hp.mem
    have hok : CfgOk l (setAll l c (t.2.1.take i)) := setAll_ok _ _ ok fun p hp => tok.pair p (List.mem_of_mem_take hp)
    have hw := with_eq hN l hl _ hok s (ok.set.asc.find hs) t.2.1[i].2
    rw [hn, withI_eq hok hs, hn, ← setAll_take hi] at hw
    simp only [config_Through_L0T, geti_lt _ hi, wrap_succ ht.2.1.1 hi, bnd_some, hw]
    rw [lt_tt hi, br_true]
    exact hr
  · have hok : CfgOk l (setAll l c t.2.1) := setAll_ok _ _ ok tok.pair
    simp only [config_Through_L0T, lt_ff, br_false, List.take_length, spread_c hN l hl _ hok _ tok.names, bnd_some]
    cases (allS l t.2.2 [setAll l c t.2.1]).2 <;> simp
theorem ref_Through_eq (hN : big ≤ N) (l : Sets) (hl : Fit settingTy l) (t : Trans) (ht : Fit transTy t) (c : Cfg) (hc : c.length ≤ maxLen) : ref3_Through N l t c = some (ThroughS l t c) := by
  unfold ref3_Through ThroughS
  rw [ref_checkConfig_eq hN l hl c hc, bnd_some, br_ne]
  by_cases h : configS l c = 0
  case neg => rw [if_pos h, if_pos h]
  have ok := (config_iff l c).1 h
  rw [if_neg (by simpa using h), if_neg (by simpa using h), ref_CheckTransitions_eq hN l hl _ (fit_one ht), bnd_some, br_ne]
  by_cases h2 : transS l [t] = 0
  case neg => rw [if_pos h2, if_pos h2]
  have tok := trans_iff h2
  rw [if_neg (by simpa using h2), if_neg (by simpa using h2)]
  refine loop_ts (f := fun m w i => ref3_Through_L0 N l t.2.1 (t.2.1.length : Int) _ m w i) (T := fun self w i => ref3_Through_L0T N l t.2.1 (t.2.1.length : Int) _ self w i) (fun _ _ _ => rfl) ht.2.1.1 (fun i => setAll l c (t.2.1.take i)) (fun self i hi hr => ?_) (fun self => ?_) hN
  · have hok : CfgOk l (setAll l c (t.2.1.take i)) := setAll_ok _ _ ok fun p hp => tok.pair p (List.mem_of_mem_take hp)
    have hw := ref_with_eq hN l hl _ hok t.2.1[i].1 t.2.1[i].2
    rw [← setAll_take hi] at hw
    simp only [ref3_Through_L0T, geti_lt _ hi, wrap_succ ht.2.1.1 hi, bnd_some, hw]
    rw [lt_tt hi, br_true]
    exact hr
  · have hok : CfgOk l (setAll l c t.2.1) := setAll_ok _ _ ok tok.pair
    simp only [ref3_Through_L0T, lt_ff, br_false, List.take_length, all_c hN l hl _ hok _ tok.names, bnd_some]
    cases (allS l t.2.2 [setAll l c t.2.1]).2 <;> simp
theorem ThroughS_mem {l : Sets} {t : Trans} {c : Cfg} : (ThroughS l t c).1.length ≤ 1000 ∧ ∀ x ∈ (ThroughS l t c).1, CfgOk l x := by
  unfold ThroughS
  split
  · exact ⟨Nat.zero_le _, fun x hx => (by cases hx)⟩
  · rename_i h
    have ok := (config_iff l c).1 (Classical.not_not.1 h)
    split
    · exact ⟨Nat.zero_le _, fun x hx => (by cases hx)⟩
    · rename_i h2
      have tok := trans_iff (Classical.not_not.1 h2)
      split
      · refine ⟨allS_len l _ _ (by simp), allS_ok ok.set _ _ (fun n hn => ?_) (fun x hx => by rw [List.mem_singleton.1 hx]; exact setAll_ok _ _ ok tok.pair)⟩
        obtain ⟨s, hs, e, _⟩ := tok.names.1 n hn
        exact ⟨s, hs, e⟩
      · exact ⟨Nat.zero_le _, fun x hx => (by cases hx)⟩
/-- Then. -/
def inU (u : Trans) (n : Str) : Bool := setsN u.2.1 n || decide (n ∈ u.2.2)
def thenSets (l : Sets) (t u : Trans) : Cfg := l.flatMap fun s => u.2.1.filter (fun p => p.1 == s.1) ++ t.2.1.filter fun p => p.1 == s.1 && !inU u s.1
def thenSplits (l : Sets) (t u : Trans) : List Str := (l.filter fun s => decide (s.1 ∈ t.2.2) || decide (s.1 ∈ u.2.2)).map (·.1)
def nilT : Trans := ([], [], [])
def ThenS (l : Sets) (t u : Trans) : Trans × Int :=
  if transS l [t] ≠ 0 then (nilT, transS l [t]) else if transS l [u] ≠ 0 then (nilT, transS l [u]) else
    if t.2.2.any (inU u) then (nilT, 11) else ((t.1, thenSets l t u, thenSplits l t u), 0)
theorem mem_thenSets {l : Sets} {t u : Trans} (tok : TransOk l t) (uok : TransOk l u) {p : Str × Str} : p ∈ thenSets l t u ↔ p ∈ u.2.1 ∨ (p ∈ t.2.1 ∧ inU u p.1 = false) := by
  unfold thenSets
  rw [List.mem_flatMap]
  constructor
  · rintro ⟨s, hs, hp⟩
    rcases List.mem_append.1 hp with hp | hp
    · exact .inl (List.mem_filter.1 hp).1
    · obtain ⟨h1, h2⟩ := List.mem_filter.1 hp
      rw [Bool.and_eq_true] at h2
      refine .inr ⟨h1, ?_⟩
      rw [eq_of_beq h2.1]
      simpa using h2.2
  · rintro (hp | ⟨hp, hn⟩)
    · obtain ⟨s, hs, hn, _⟩ := (uok.pair p hp).mem
      exact ⟨s, hs, List.mem_append.2 (.inl (List.mem_filter.2 ⟨hp, by rw [hn]; exact beq_self_eq_true _⟩))⟩
    · obtain ⟨s, hs, hsn, _⟩ := (tok.pair p hp).mem
      exact ⟨s, hs, List.mem_append.2 (.inr (List.mem_filter.2 ⟨hp, by rw [hsn, hn]; simp⟩))⟩
theorem asc_same {c : Cfg} (h : Asc c) (n : Str) : (c.filter fun p => p.1 == n).Pairwise fun _ _ => False := by
  refine (List.Pairwise.imp_of_mem (fun {a b} ha hb hab => ?_) (h.filter (fun p => p.1 == n)))
  have ea : a.1 = n := by simpa using (List.mem_filter.1 ha).2
  have eb : b.1 = n := by simpa using (List.mem_filter.1 hb).2
  rw [ea, eb] at hab
  exact List.lt_irrefl _ hab
theorem thenSets_asc {l : Sets} {t u : Trans} (tok : TransOk l t) (uok : TransOk l u) : Asc (thenSets l t u) := by
  unfold thenSets Asc
  rw [List.pairwise_flatMap]
  refine ⟨fun s hs => ?_, tok.set.asc.imp fun {a b} hab x hx y hy => ?_⟩
  · refine List.pairwise_append.2 ⟨(asc_same uok.asc s.1).imp fun h => h.elim, ?_, fun x hx y hy => ?_⟩
    · exact ((asc_same tok.asc s.1).sublist (by
        rw [show (fun p : Str × Str => p.1 == s.1 && !inU u s.1) = fun p => (!inU u s.1) && (p.1 == s.1) from funext fun p => Bool.and_comm _ _, ← List.filter_filter]
        exact List.filter_sublist)).imp fun h => h.elim
    · exfalso
      obtain ⟨hx1, hx2⟩ := List.mem_filter.1 hx
      obtain ⟨hy1, hy2⟩ := List.mem_filter.1 hy
      rw [Bool.and_eq_true] at hy2
      have : inU u s.1 = true := by unfold inU; rw [setsN_iff.2 ⟨x, hx1, eq_of_beq hx2⟩]; rfl
      rw [this] at hy2
      exact absurd hy2.2 (by simp)
  · have key : ∀ (s : Str × List Str) (z : Str × Str), z ∈ u.2.1.filter (fun p => p.1 == s.1) ++ t.2.1.filter (fun p => p.1 == s.1 && !inU u s.1) → z.1 = s.1 := fun s z hz => by
      rcases List.mem_append.1 hz with hz | hz
      · exact eq_of_beq (List.mem_filter.1 hz).2
      · exact eq_of_beq ((Bool.and_eq_true _ _).mp (List.mem_filter.1 hz).2).1
    rw [key _ _ hx, key _ _ hy]
    exact hab
theorem mem_thenSplits {l : Sets} {t u : Trans} (tok : TransOk l t) (uok : TransOk l u) {n : Str} : n ∈ thenSplits l t u ↔ n ∈ t.2.2 ∨ n ∈ u.2.2 := by
  unfold thenSplits
  rw [List.mem_map]
  constructor
  · rintro ⟨s, hs, rfl⟩
    have := (List.mem_filter.1 hs).2
    simpa using this
  · intro h
    obtain ⟨s, hs, e, _⟩ : ∃ s ∈ l, s.1 = n ∧ l.find? (fun x => x.1 == n) = some s := by
      rcases h with h | h
      · exact tok.names.1 n h
      · exact uok.names.1 n h
    exact ⟨s, List.mem_filter.2 ⟨hs, by rw [e]; simpa using h⟩, e⟩
theorem thenSplits_asc {l : Sets} (hl : SetOk l) (t u : Trans) : (thenSplits l t u).Pairwise (· < ·) := by
  unfold thenSplits
  rw [List.pairwise_map]
  exact hl.asc.sublist List.filter_sublist
theorem str_ext : ∀ {a b : List Str}, a.Pairwise (· < ·) → b.Pairwise (· < ·) → (∀ n, n ∈ a ↔ n ∈ b) → a = b := fun {a b} ha hb h => by
  have e : ∀ c : List Str, c.Pairwise (· < ·) → Asc (c.map fun x => (x, ())) := fun c hc => by unfold Asc; rw [List.pairwise_map]; exact hc
  have := Asc.ext (e a ha) (e b hb) fun p => by
    simp only [List.mem_map]
    exact ⟨fun ⟨x, hx, hp⟩ => ⟨x, (h x).1 hx, hp⟩, fun ⟨x, hx, hp⟩ => ⟨x, (h x).2 hx, hp⟩⟩
  have := congrArg (List.map (·.1)) this
  simpa [List.map_map, Function.comp_def] using this
theorem sortStr_pw (xs : List Str) (hn : xs.Nodup) : (xs.mergeSort leStr).Pairwise (· < ·) := by
  have h1 := List.pairwise_mergeSort (le := leStr) (fun a b c h1 h2 => by
    simp only [leStr, decide_eq_true_eq] at *
    exact List.le_trans h1 h2) (fun a b => by
    simp only [leStr, Bool.or_eq_true, decide_eq_true_eq]
    exact List.le_total _ _) xs
  have h2 : (xs.mergeSort leStr).Nodup := (List.mergeSort_perm xs leStr).nodup_iff.2 hn
  refine (List.Pairwise.and h1 h2).imp fun {a b} ⟨hle, hne⟩ => ?_
  simp only [leStr, decide_eq_true_eq] at hle
  rcases List.le_iff_lt_or_eq.1 hle with h | h
  · exact h
  · exact absurd h hne
theorem Clone_strs3 (c : List Str) (h : c.length ≤ 1000000) : slices_Clone_string_string N c = some c := by
  unfold slices_Clone_string_string
  exact clone_eq (24 * Ty.sz .str) c (by show c.length * 24 ≤ _; omega)
theorem Then_L0_eq (hN : big ≤ N) (ts : List Str) (hts : ts.length ≤ 30) (u : Trans) (hu : u.2.1.length ≤ maxLen) (hu2 : u.2.2.length ≤ maxLen) (w : List Str) (hw : w.length ≤ 30) (k : List Str → Option (Trans × Int)) :
    config_Then_L0 N ts (ts.length : Int) u.2.1 u.2.2 k N 0 w = if ts.any (inU u) then some (nilT, 11) else k (w ++ ts) := by
  have hm : ts.length ≤ maxLen := Nat.le_trans hts (by decide)
  have gen : ∀ (d n i : Nat), i + d = ts.length → d < n → config_Then_L0 N ts (ts.length : Int) u.2.1 u.2.2 k n (i : Int) (w ++ ts.take i) = if (ts.drop i).any (inU u) then some (nilT, 11) else k (w ++ ts) := by
    intro d
    induction d with
    | zero =>
      intro n i hi hn
      obtain ⟨n, rfl⟩ : ∃ j, n = j + 1 := ⟨n - 1, by omega⟩
      have : i = ts.length := by omega
      subst this
      show config_Then_L0T _ _ _ _ _ _ _ _ _ = _
      unfold config_Then_L0T
      rw [lt_ff, br_false, List.drop_length, List.take_length]; rfl
    | succ d ih =>
      intro n i hi hn
      obtain ⟨n, rfl⟩ : ∃ j, n = j + 1 := ⟨n - 1, by omega⟩
      have hlt : i < ts.length := by omega
      have hr := ih n (i + 1) (by omega) (by omega)
      rw [List.take_succ_eq_append_getElem hlt, ← List.append_assoc] at hr
      show config_Then_L0T _ _ _ _ _ _ _ _ _ = _
      unfold config_Then_L0T
      rw [lt_tt hlt, br_true, geti_lt ts hlt, bnd_some, pairOf_eq hN _ hu, bnd_some, pairOf_snd, slices_Contains_eq hN _ hu2, bnd_some, any_mem, wrap_succ hm hlt, hr, List.drop_eq_getElem_cons hlt, List.any_cons]
      have hsz : ((w ++ ts.take i).length + [ts[i]].length) * (24 * Ty.sz .str) ≤ 140737488355328 := by
        rw [List.length_append, List.length_take, List.length_singleton]; show _ * 24 ≤ _ ; omega
      rw [br_pos hsz]
      unfold inU
      cases setsN u.2.1 ts[i] <;> cases decide (ts[i] ∈ u.2.2) <;> simp [nilT]
  have := gen ts.length N 0 (by omega) (by unfold big at hN; omega)
  simpa using this
theorem Then_L1_eq (hN : big ≤ N) (ps : Cfg) (hps : ps.length ≤ 30) (u : Trans) (hu : u.2.1.length ≤ maxLen) (hu2 : u.2.2.length ≤ maxLen) (w : Cfg) (hw : w.length ≤ 30) (k : Cfg → Option (Trans × Int)) :
    config_Then_L1 N ps (ps.length : Int) u.2.1 u.2.2 k N 0 w = k (w ++ ps.filter fun p => !inU u p.1) := by
  have hm : ps.length ≤ maxLen := Nat.le_trans hps (by decide)
  have := loop_st (f := fun n i w => config_Then_L1 N ps (ps.length : Int) u.2.1 u.2.2 k n i w) (T := fun self i w => config_Then_L1T N ps (ps.length : Int) u.2.1 u.2.2 k self i w) (fun _ _ _ => rfl) hm (fun i => w ++ (ps.take i).filter fun p => !inU u p.1) (r := k (w ++ ps.filter fun p => !inU u p.1)) (fun self i hi hr => ?_) (fun self => ?_) hN
  · simpa using this
  · have hlen : (w ++ (ps.take i).filter fun p => !inU u p.1).length ≤ 60 := by
      have := List.length_filter_le (fun p : Str × Str => !inU u p.1) (ps.take i)
      rw [List.length_take] at this
      rw [List.length_append]; omega
    have hs : (ps.take (i + 1)).filter (fun p => !inU u p.1) = (ps.take i).filter (fun p => !inU u p.1) ++ if inU u ps[i].1 then [] else [ps[i]] := by
      rw [List.take_succ_eq_append_getElem hi, List.filter_append]
      congr 1
      cases h : inU u ps[i].1 <;> simp [h]
    rw [hs, ← List.append_assoc] at hr
    generalize w ++ (ps.take i).filter (fun p => !inU u p.1) = v at hlen hr ⊢
    generalize k (w ++ ps.filter fun p => !inU u p.1) = z at hr ⊢
    simp only [config_Then_L1T, geti_lt ps hi, wrap_succ hm hi, bnd_some, pairOf_eq hN _ hu, pairOf_snd, slices_Contains_eq hN _ hu2, any_mem]
    have hsz : (v.length + [ps[i]].length) * (24 * Ty.sz (.pr .str .str)) ≤ 140737488355328 := by
      rw [List.length_singleton]; show _ * 48 ≤ _; omega
    rw [lt_tt hi, br_true, br_pos hsz]
    unfold inU at hr
    cases h1 : setsN u.2.1 ps[i].1 <;> cases h2 : decide (ps[i].1 ∈ u.2.2) <;> rw [h1, h2] at hr <;> simp at hr ⊢ <;> exact hr
  · simp only [config_Then_L1T, lt_ff, br_false, List.take_length]
theorem Then_eq (hN : big ≤ N) (l : Sets) (hl : Fit settingTy l) (t u : Trans) (ht : Fit transTy t) (hu : Fit transTy u) : config_Then N l t u = some (ThenS l t u) := by
  unfold config_Then ThenS
  simp only [CheckTransitions_eq hN l hl _ (fit_one ht), CheckTransitions_eq hN l hl _ (fit_one hu), bnd_some, br_ne]
  by_cases h1 : transS l [t] = 0
  case neg => simp [h1, nilT]
  by_cases h2 : transS l [u] = 0
  case neg => simp [h1, h2, nilT]
  have tok := trans_iff h1
  have uok := trans_iff h2
  have lt := tok.len
  have lu := uok.len
  simp only [h1, h2, ne_eq, not_true_eq_false, if_false, Clone_pair u.2.1 (by omega), Clone_strs3 u.2.2 (by omega), bnd_some, times_eq, both_self]
  rw [Then_L0_eq hN _ lt.2 u hu.2.1.1 hu.2.2.1 _ lu.2]
  by_cases h3 : t.2.2.any (inU u) = true
  · rw [if_pos h3, if_pos h3]
  · rw [if_neg h3, if_neg h3, Then_L1_eq hN _ lt.1 u hu.2.1.1 hu.2.2.1 _ lu.1]
    have h3' : ∀ n ∈ t.2.2, inU u n = false := fun n hn => by
      cases h : inU u n with
      | false => rfl
      | true => exact absurd (List.any_eq_true.2 ⟨n, hn, h⟩) h3
    have hnd : (u.2.2 ++ t.2.2).Nodup := by
      refine List.nodup_append.2 ⟨pw_nodup uok.names.2, pw_nodup tok.names.2, fun a ha b hb e => ?_⟩
      have := h3' b hb
      unfold inU at this
      rw [← e, decide_eq_true ha, Bool.or_true] at this
      cases this
    have hsort : slices_Sort_string_string (u.2.2 ++ t.2.2) = some (thenSplits l t u) := by
      unfold slices_Sort_string_string
      rw [if_pos (by rw [List.length_append]; omega)]
      congr 1
      refine str_ext (sortStr_pw _ hnd) (thenSplits_asc tok.set t u) fun n => ?_
      rw [List.mem_mergeSort, mem_thenSplits tok uok, List.mem_append]
      exact or_comm
    have hname : ((u.2.1 ++ t.2.1.filter fun p => !inU u p.1).map (·.1)).Nodup := by
      rw [List.map_append]
      refine List.nodup_append.2 ⟨uok.asc.nodup, (Asc.filter tok.asc _).nodup, fun a ha b hb e => ?_⟩
      obtain ⟨p, hp, rfl⟩ := List.mem_map.1 ha
      obtain ⟨q, hq, rfl⟩ := List.mem_map.1 hb
      have h5 := (List.mem_filter.1 hq).2
      have : inU u q.1 = true := by unfold inU; rw [setsN_iff.2 ⟨p, hp, e⟩]; rfl
      rw [this] at h5
      cases h5
    have hsf : slices_SortFunc_pair () (u.2.1 ++ t.2.1.filter fun p => !inU u p.1) = some (thenSets l t u) := by
      unfold slices_SortFunc_pair
      have hlf := List.length_filter_le (fun p : Str × Str => !inU u p.1) t.2.1
      rw [if_pos ⟨by rw [List.length_append]; omega, hname⟩]
      congr 1
      have hA : Asc ((u.2.1 ++ t.2.1.filter fun p => !inU u p.1).mergeSort leName) :=
        sorted_strict (((List.mergeSort_perm _ leName).map _).nodup_iff.2 hname) (mergeSort_name _)
      refine Asc.ext hA (thenSets_asc tok uok) fun p => ?_
      rw [List.mem_mergeSort, mem_thenSets tok uok, List.mem_append, List.mem_filter]
      simp
    rw [hsort, bnd_some, hsf, bnd_some]
theorem filter_take_snoc {α : Type} (q : α → Bool) (c : List α) {i : Nat} (h : i < c.length) : (c.take (i + 1)).filter q = (c.take i).filter q ++ if q c[i] then [c[i]] else [] := by
  rw [List.take_succ_eq_append_getElem h, List.filter_append]
  congr 1
  cases hq : q c[i] <;> simp [hq]
theorem asc_one {c : Cfg} (h : Asc c) (n : Str) (q : Bool) : (c.filter fun p => p.1 == n && q).length ≤ 1 := by
  have h1 := (asc_same h n).sublist (show (c.filter fun p => p.1 == n && q).Sublist (c.filter fun p => p.1 == n) by
    rw [show (fun p : Str × Str => p.1 == n && q) = fun p => q && (p.1 == n) from funext fun p => Bool.and_comm _ _, ← List.filter_filter]
    exact List.filter_sublist)
  cases hm : (c.filter fun p => p.1 == n && q) with
  | nil => exact Nat.zero_le _
  | cons a t =>
    cases t with
    | nil => exact Nat.le_refl _
    | cons b r =>
      rw [hm] at h1
      exact ((List.pairwise_cons.1 h1).1 b (by simp)).elim
theorem ref_Then_L2_eq (hN : big ≤ N) (ps : Cfg) (hps : ps.length ≤ 30) (n : Str) (w : Cfg) (hw : w.length ≤ 1000) (k : Cfg → Option (Trans × Int)) :
    ref3_Then_L2 N ps (ps.length : Int) n k N 0 w = k (w ++ ps.filter fun p => p.1 == n) := by
  have hm : ps.length ≤ maxLen := Nat.le_trans hps (by decide)
  have := loop_st (f := fun m i w => ref3_Then_L2 N ps (ps.length : Int) n k m i w) (T := fun self i w => ref3_Then_L2T N ps (ps.length : Int) n k self i w) (fun _ _ _ => rfl) hm (fun i => w ++ (ps.take i).filter fun p => p.1 == n) (r := k (w ++ ps.filter fun p => p.1 == n)) (fun self i hi hr => ?_) (fun self => ?_) hN
  · simpa using this
  · have hlen : (w ++ (ps.take i).filter fun p => p.1 == n).length ≤ 1030 := by
      have := List.length_filter_le (fun p : Str × Str => p.1 == n) (ps.take i)
      rw [List.length_take] at this
      rw [List.length_append]; omega
    rw [filter_take_snoc _ ps hi, ← List.append_assoc] at hr
    generalize w ++ (ps.take i).filter (fun p => p.1 == n) = v at hlen hr ⊢
    simp only [ref3_Then_L2T, geti_lt ps hi, wrap_succ hm hi, bnd_some]
    have hsz : (v.length + [ps[i]].length) * (24 * Ty.sz (.pr .str .str)) ≤ 140737488355328 := by
      rw [List.length_singleton]; show _ * 48 ≤ _; omega
    rw [lt_tt hi, br_true, br_pos hsz]
    cases h1 : ps[i].1 == n <;> rw [h1] at hr <;> simp at hr ⊢ <;> exact hr
  · simp only [ref3_Then_L2T, lt_ff, br_false, List.take_length]
theorem ref_Then_L3_eq (hN : big ≤ N) (ps : Cfg) (hps : ps.length ≤ 30) (u : Trans) (hu : u.2.1.length ≤ maxLen) (hu2 : u.2.2.length ≤ maxLen) (n : Str) (w : Cfg) (hw : w.length ≤ 1000) (k : Cfg → Option (Trans × Int)) :
    ref3_Then_L3 N ps (ps.length : Int) u.1 u.2.1 u.2.2 n k N 0 w = k (w ++ ps.filter fun p => p.1 == n && !inU u n) := by
  have hm : ps.length ≤ maxLen := Nat.le_trans hps (by decide)
  have := loop_st (f := fun m i w => ref3_Then_L3 N ps (ps.length : Int) u.1 u.2.1 u.2.2 n k m i w) (T := fun self i w => ref3_Then_L3T N ps (ps.length : Int) u.1 u.2.1 u.2.2 n k self i w) (fun _ _ _ => rfl) hm (fun i => w ++ (ps.take i).filter fun p => p.1 == n && !inU u n) (r := k (w ++ ps.filter fun p => p.1 == n && !inU u n)) (fun self i hi hr => ?_) (fun self => ?_) hN
  · simpa using this
  · have hlen : (w ++ (ps.take i).filter fun p => p.1 == n && !inU u n).length ≤ 1030 := by
      have := List.length_filter_le (fun p : Str × Str => p.1 == n && !inU u n) (ps.take i)
      rw [List.length_take] at this
      rw [List.length_append]; omega
    rw [filter_take_snoc _ ps hi, ← List.append_assoc] at hr
    generalize w ++ (ps.take i).filter (fun p => p.1 == n && !inU u n) = v at hlen hr ⊢
    generalize k (w ++ ps.filter fun p => p.1 == n && !inU u n) = z at hr ⊢
    simp only [ref3_Then_L3T, geti_lt ps hi, wrap_succ hm hi, bnd_some, setBy_eq hN (u.1, (u.2.1, u.2.2)) hu, slices_Contains_eq hN _ hu2, any_mem]
    have hsz : (v.length + [ps[i]].length) * (24 * Ty.sz (.pr .str .str)) ≤ 140737488355328 := by
      rw [List.length_singleton]; show _ * 48 ≤ _; omega
    rw [lt_tt hi, br_true, br_pos hsz]
    unfold inU at hr
    cases h1 : ps[i].1 == n <;> cases h2 : setsN u.2.1 n <;> cases h3 : decide (n ∈ u.2.2) <;> simp only [h1, h2, h3] at hr <;> simp at hr ⊢ <;> exact hr
  · simp only [ref3_Then_L3T, lt_ff, br_false, List.take_length]
theorem ref_Then_L1_eq (hN : big ≤ N) (l : Sets) (hl : l.length ≤ 30) (t u : Trans) (tok : TransOk l t) (uok : TransOk l u) :
    ref3_Then_L1 N l (l.length : Int) t.2.1 t.2.2 u.1 u.2.1 u.2.2 (fun a b => some ((t.1, (a, b)), (0 : Int))) N 0 [] [] = some ((t.1, thenSets l t u, thenSplits l t u), 0) := by
  have hm : l.length ≤ maxLen := Nat.le_trans hl (by decide)
  have lt := tok.len
  have lu := uok.len
  have hmax : (30 : Nat) ≤ maxLen := by decide
  have := loop_st (f := fun m i (w : Cfg × List Str) => ref3_Then_L1 N l (l.length : Int) t.2.1 t.2.2 u.1 u.2.1 u.2.2 (fun a b => some ((t.1, (a, b)), (0 : Int))) m i w.1 w.2) (T := fun self i w => ref3_Then_L1T N l (l.length : Int) t.2.1 t.2.2 u.1 u.2.1 u.2.2 (fun a b => some ((t.1, (a, b)), (0 : Int))) (fun i a b => self i (a, b)) i w.1 w.2) (fun _ _ _ => rfl) hm (fun i => (thenSets (l.take i) t u, thenSplits (l.take i) t u)) (r := some ((t.1, thenSets l t u, thenSplits l t u), 0)) (fun self i hi hr => ?_) (fun self => ?_) hN
  · exact this
  · have e1 : thenSets (l.take (i + 1)) t u = (thenSets (l.take i) t u ++ u.2.1.filter fun p => p.1 == l[i].1) ++ t.2.1.filter fun p => p.1 == l[i].1 && !inU u l[i].1 := by
      unfold thenSets
      rw [List.take_succ_eq_append_getElem hi, List.flatMap_append]; simp
    have e2 : thenSplits (l.take (i + 1)) t u = thenSplits (l.take i) t u ++ if decide (l[i].1 ∈ t.2.2) || decide (l[i].1 ∈ u.2.2) then [l[i].1] else [] := by
      unfold thenSplits
      rw [filter_take_snoc _ l hi, List.map_append]
      congr 1
      split <;> rfl
    have b1 : (thenSets (l.take i) t u).length ≤ 2 * i := by
      have : ∀ m : Sets, (thenSets m t u).length ≤ 2 * m.length := fun m => by
        induction m with
        | nil => exact Nat.le_refl _
        | cons s m ih =>
          have e : thenSets (s :: m) t u = (u.2.1.filter (fun p => p.1 == s.1) ++ t.2.1.filter fun p => p.1 == s.1 && !inU u s.1) ++ thenSets m t u := by unfold thenSets; rw [List.flatMap_cons]
          have h1 := asc_one uok.asc s.1 true
          simp only [Bool.and_true] at h1
          have h2 := asc_one tok.asc s.1 (!inU u s.1)
          rw [e, List.length_append, List.length_append, List.length_cons]; omega
      have := this (l.take i)
      rw [List.length_take] at this; omega
    have b2 : (thenSplits (l.take i) t u).length ≤ i := by
      unfold thenSplits
      rw [List.length_map]
      have := List.length_filter_le (fun s : Str × List Str => decide (s.1 ∈ t.2.2) || decide (s.1 ∈ u.2.2)) (l.take i)
      rw [List.length_take] at this; omega
    rw [e1, e2] at hr
    generalize thenSets (l.take i) t u = v at b1 hr ⊢
    generalize thenSplits (l.take i) t u = w at b2 hr ⊢
    have hf1 := asc_one uok.asc l[i].1 true
    simp only [Bool.and_true] at hf1
    simp only [ref3_Then_L1T, geti_lt l hi, wrap_succ hm hi, bnd_some]
    rw [lt_tt hi, br_true, ref_Then_L2_eq hN _ lu.1 _ _ (by omega), ref_Then_L3_eq hN _ lt.1 u (by omega) (by omega) _ _ (by rw [List.length_append]; omega), slices_Contains_eq hN _ (by omega), slices_Contains_eq hN _ (by omega), bnd_some, bnd_some, any_mem, any_mem]
    have hsz : (w.length + [l[i].1].length) * (24 * Ty.sz .str) ≤ 140737488355328 := by
      rw [List.length_singleton]; show _ * 24 ≤ _; omega
    rw [br_pos hsz]
    cases h1 : decide (l[i].1 ∈ t.2.2) <;> cases h2 : decide (l[i].1 ∈ u.2.2) <;> simp only [h1, h2] at hr <;> simp at hr ⊢ <;> exact hr
  · simp only [ref3_Then_L1T, lt_ff, br_false, List.take_length]
theorem ref_Then_eq (hN : big ≤ N) (l : Sets) (hl : Fit settingTy l) (t u : Trans) (ht : Fit transTy t) (hu : Fit transTy u) : ref3_Then N l t u = some (ThenS l t u) := by
  unfold ref3_Then ThenS
  simp only [ref_CheckTransitions_eq hN l hl _ (fit_one ht), ref_CheckTransitions_eq hN l hl _ (fit_one hu), bnd_some, br_ne]
  by_cases h1 : transS l [t] = 0
  case neg => simp [h1, nilT]
  by_cases h2 : transS l [u] = 0
  case neg => simp [h1, h2, nilT]
  have tok := trans_iff h1
  have uok := trans_iff h2
  simp only [h1, h2, ne_eq, not_true_eq_false, if_false]
  have hL := ref_Then_L1_eq hN l tok.set.len t u tok uok
  have e : (if t.2.2.any (inU u) = true then some (nilT, (11 : Int)) else some ((t.1, thenSets l t u, thenSplits l t u), (0 : Int))) = some (if t.2.2.any (inU u) = true then (nilT, (11 : Int)) else ((t.1, thenSets l t u, thenSplits l t u), (0 : Int))) := by split <;> rfl
  rw [hL, ← forT_guard _ _ _ _ 0]
  refine loop_for (fun _ _ => rfl) _ ht.2.2.1 (fun self j hj r' hr' => ?_) (fun self => ?_) hN
  · simp only [ref3_Then_L0T, geti_lt _ hj, wrap_succ ht.2.2.1 hj, hr', bnd_some, setBy_eq hN (u.1, (u.2.1, u.2.2)) hu.2.1.1, slices_Contains_eq hN _ hu.2.2.1, any_mem]
    rw [lt_tt hj, br_true]
    unfold inU
    cases setsN u.2.1 t.2.2[j] <;> cases decide (t.2.2[j] ∈ u.2.2) <;> simp [nilT]
  · simp only [ref3_Then_L0T, lt_ff, br_false]
theorem ThenS_len {l : Sets} {t u : Trans} : (ThenS l t u).1.2.1.length ≤ maxLen ∧ (ThenS l t u).1.2.2.length ≤ maxLen := by
  unfold ThenS
  split
  · exact ⟨Nat.zero_le _, Nat.zero_le _⟩
  · rename_i h1
    split
    · exact ⟨Nat.zero_le _, Nat.zero_le _⟩
    · rename_i h2
      have tok := trans_iff (Classical.not_not.1 h1)
      have uok := trans_iff (Classical.not_not.1 h2)
      split
      · exact ⟨Nat.zero_le _, Nat.zero_le _⟩
      · constructor
        · have : (thenSets l t u).length ≤ l.length := (thenSets_asc tok uok).len fun p hp => by
            rcases (mem_thenSets tok uok).1 hp with h | ⟨h, _⟩
            · obtain ⟨s, hs, hn, _⟩ := (uok.pair p h).mem; exact ⟨s, hs, hn⟩
            · obtain ⟨s, hs, hn, _⟩ := (tok.pair p h).mem; exact ⟨s, hs, hn⟩
          exact Nat.le_trans this (Nat.le_trans tok.set.len (by decide))
        · show (thenSplits l t u).length ≤ _
          unfold thenSplits
          rw [List.length_map]
          exact Nat.le_trans (List.length_filter_le _ _) (Nat.le_trans tok.set.len (by decide))
theorem plain_ConfigThroughMatchesSpec (x : worldTy.den) (t u : Trans) (c : Cfg) (hx : Fit worldTy x) (ht : Fit transTy t) (hu : Fit transTy u) (hc : Fit pairTy c) : ∃ N, law3_ConfigThroughMatchesSpec N x t u c = some true := by
  have hN : big ≤ big := Nat.le_refl _
  refine ⟨big, ?_⟩
  unfold law3_ConfigThroughMatchesSpec
  obtain ⟨h1, h2⟩ := ThroughS_mem (l := x.1) (t := t) (c := c)
  obtain ⟨h3, h4⟩ := ThenS_len (l := x.1) (t := t) (u := u)
  simp only [Through_eq hN x.1 hx.1 t ht c hc.1, ref_Through_eq hN x.1 hx.1 t ht c hc.1, CheckTransitions_eq hN x.1 hx.1 _ hx.2.2.2.2, ref_CheckTransitions_eq hN x.1 hx.1 _ hx.2.2.2.2, Then_eq hN x.1 hx.1 t u ht hu, ref_Then_eq hN x.1 hx.1 t u ht hu, bnd_some, bne_self_eq_false, br_false, SamePairs_self hN _ (Nat.le_trans h1 (by decide)) (fun x hx => Nat.le_trans (h2 x hx).len (by decide)), Bool.not_true, beq_self_eq_true, br_true, Equal_pair_self hN _ h3, Equal_self hN _ h4, awake_eq]
end Go.Proofs.YtbekhaioddmliaaGreatDoor

