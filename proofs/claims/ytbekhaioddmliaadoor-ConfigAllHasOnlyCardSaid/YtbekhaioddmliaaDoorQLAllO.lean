/- The law AllHasOnly. No program in sight. -/
import Derived.Test.YtbekhaioddmliaaDoorQLAllM
namespace Go.Proofs.YtbekhaioddmliaaDoor
set_option linter.unusedVariables false
set_option linter.unusedSimpArgs false
open Go Go.RowKit
variable {N : Nat}
theorem cfg_ext {l : Sets} {a b : Cfg} (ha : CfgOk l a) (hb : CfgOk l b) (h : ∀ s ∈ l, valueS l a s.1 = valueS l b s.1) : a = b := by
  have go : ∀ {a b : Cfg}, CfgOk l a → CfgOk l b → (∀ s ∈ l, valueS l a s.1 = valueS l b s.1) → ∀ p, p ∈ a → p ∈ b := fun {a b} ha hb h p hp => by
    obtain ⟨s, hs, hn, _, hne⟩ := (ha.pair p hp).strict ha.set
    have h1 := val_in (l := l) ha.asc hp
    have h2 := h s hs
    rw [hn, h1] at h2
    rcases Classical.em (∃ q ∈ b, q.1 = s.1) with ⟨q, hq, hqs⟩ | hno
    · have h3 := val_in (l := l) hb.asc hq
      rw [hqs, hn, ← h2] at h3
      have : q = p := Prod.ext (hqs.trans hn) h3.symm
      rw [← this]; exact hq
    · have h3 := val_out hb.set hs (fun q hq e => hno ⟨q, hq, e⟩)
      rw [hn, ← h2] at h3
      exact absurd h3 hne
  exact Asc.ext ha.asc hb.asc fun p => ⟨go ha hb h p, go hb ha (fun s hs => (h s hs).symm) p⟩
theorem val_mem {l : Sets} {c : Cfg} (ok : CfgOk l c) {s : Str × List Str} (hs : s ∈ l) : valueS l c s.1 ∈ s.2 := by
  rcases Classical.em (∃ q ∈ c, q.1 = s.1) with ⟨q, hq, hqs⟩ | hno
  · have h3 := val_in (l := l) ok.asc hq
    obtain ⟨t, ht, htn, hv, _⟩ := (ok.pair q hq).strict ok.set
    have : t = s := ok.set.asc.inj ht hs (htn.trans hqs)
    subst this
    rw [hqs] at h3
    rw [h3]; exact hv
  · rw [val_out ok.set hs (fun q hq e => hno ⟨q, hq, e⟩)]
    cases hq : s.2 with
    | nil => exact absurd hq (ok.set.some s hs)
    | cons a t => simp
theorem allS_some (l : Sets) (n : Str) (ns : List Str) (acc : List Cfg) (h : (allS l (n :: ns) acc).2 = true) : allS l (n :: ns) acc = allS l ns (stepA l n (valsOf l n) acc) := by
  change (if 1000 < acc.length * (valsOf l n).length then _ else _ : List Cfg × Bool).2 = true at h
  show (if 1000 < acc.length * (valsOf l n).length then _ else _ : List Cfg × Bool) = _
  by_cases hb : 1000 < acc.length * (valsOf l n).length
  · rw [if_pos hb] at h; cases h
  · rw [if_neg hb]
/-- Whatever is among the configurations made differs from one of the first only at the names. -/
theorem allS_off {l : Sets} (hl : SetOk l) : ∀ (ns : List Str) (acc : List Cfg), (∀ n ∈ ns, ∃ s ∈ l, s.1 = n) → (∀ x ∈ acc, CfgOk l x) → (allS l ns acc).2 = true → ∀ z ∈ (allS l ns acc).1, ∃ y ∈ acc, ∀ s ∈ l, s.1 ∉ ns → valueS l z s.1 = valueS l y s.1
  | [], acc, _, _, _, z, hz => ⟨z, hz, fun _ _ _ => rfl⟩
  | n :: ns, acc, hn, h, ht, z, hz => by
    obtain ⟨s, hs, rfl⟩ := hn n (by simp)
    have e := allS_some l s.1 ns acc ht
    rw [e, vals_ok hl hs] at ht hz
    obtain ⟨y, hy, hyz⟩ := allS_off hl ns _ (fun m hm => hn m (List.mem_cons_of_mem _ hm)) (step_ok hl hs h) ht z hz
    obtain ⟨x, hx, hy⟩ := List.mem_flatMap.1 hy
    obtain ⟨v, hv, rfl⟩ := List.mem_map.1 hy
    refine ⟨x, hx, fun t htl hto => ?_⟩
    rw [hyz t htl (fun hm => hto (List.mem_cons_of_mem _ hm)), with_val (h x hx) hs hv htl, if_neg]
    intro e
    exact hto (by rw [eq_of_beq e]; simp)
/-- And every such configuration is among them. -/
theorem allS_has {l : Sets} (hl : SetOk l) {z : Cfg} (hz : CfgOk l z) : ∀ (ns : List Str) (acc : List Cfg), (∀ n ∈ ns, ∃ s ∈ l, s.1 = n) → (∀ x ∈ acc, CfgOk l x) → (allS l ns acc).2 = true → (∃ y ∈ acc, ∀ s ∈ l, s.1 ∉ ns → valueS l z s.1 = valueS l y s.1) → z ∈ (allS l ns acc).1
  | [], acc, _, h, _, ⟨y, hy, hyz⟩ => by
    rw [cfg_ext hz (h y hy) fun s hs => hyz s hs (by simp)]
    exact hy
  | n :: ns, acc, hn, h, ht, ⟨y, hy, hyz⟩ => by
    obtain ⟨s, hs, rfl⟩ := hn n (by simp)
    have e := allS_some l s.1 ns acc ht
    rw [e, vals_ok hl hs] at ht ⊢
    have hv := val_mem hz hs
    refine allS_has hl hz ns _ (fun m hm => hn m (List.mem_cons_of_mem _ hm)) (step_ok hl hs h) ht ⟨withS l y s.1 (valueS l z s.1), List.mem_flatMap.2 ⟨y, hy, List.mem_map.2 ⟨_, hv, rfl⟩⟩, fun t htl hto => ?_⟩
    rw [with_val (h y hy) hs hv htl]
    by_cases hts : t.1 = s.1
    · rw [if_pos (by simpa using hts), hts]
    · rw [if_neg (by simpa using hts)]
      refine hyz t htl fun hm => ?_
      rcases List.mem_cons.1 hm with e | e
      · exact hts e
      · exact hto e
/-- None is there twice. -/
theorem allS_once {l : Sets} (hl : SetOk l) : ∀ (ns : List Str) (acc : List Cfg), ns.Nodup → (∀ n ∈ ns, ∃ s ∈ l, s.1 = n) → (∀ x ∈ acc, CfgOk l x) → (allS l ns acc).2 = true → acc.Pairwise (fun x y => ∃ s ∈ l, s.1 ∉ ns ∧ valueS l x s.1 ≠ valueS l y s.1) → (allS l ns acc).1.Nodup
  | [], acc, _, _, _, _, hp => hp.imp fun {a b} ⟨s, _, _, h⟩ e => h (by rw [e])
  | n :: ns, acc, hd, hn, h, ht, hp => by
    obtain ⟨s, hs, rfl⟩ := hn n (by simp)
    have e := allS_some l s.1 ns acc ht
    rw [e, vals_ok hl hs] at ht ⊢
    have hd := List.nodup_cons.1 hd
    refine allS_once hl ns _ hd.2 (fun m hm => hn m (List.mem_cons_of_mem _ hm)) (step_ok hl hs h) ht ?_
    unfold stepA
    rw [List.pairwise_flatMap]
    refine ⟨fun x hx => ?_, hp.imp_of_mem fun {x y} hx hy ⟨t, htl, hto, hne⟩ a ha b hb => ?_⟩
    · rw [List.pairwise_map]
      refine List.Pairwise.imp_of_mem (fun {v w} hv hw hvw => ?_) (hl.once s hs)
      refine ⟨s, hs, hd.1, ?_⟩
      rw [with_val (h x hx) hs hv hs, with_val (h x hx) hs hw hs, if_pos (beq_self_eq_true _), if_pos (beq_self_eq_true _)]
      exact hvw
    · obtain ⟨v, hv, rfl⟩ := List.mem_map.1 ha
      obtain ⟨w, hw, rfl⟩ := List.mem_map.1 hb
      have hts : t.1 ≠ s.1 := fun e => hto (by rw [e]; simp)
      refine ⟨t, htl, fun hm => hto (List.mem_cons_of_mem _ hm), ?_⟩
      rw [with_val (h x hx) hs hv htl, with_val (h y hy) hs hw htl, if_neg (by simpa using hts), if_neg (by simpa using hts)]
      exact hne
theorem only_ok {l : Sets} {c : Cfg} (ok : CfgOk l c) (ns : List Str) : CfgOk l (onlyC c ns) :=
  ⟨ok.set, fun p hp => ok.pair p (List.mem_filter.1 hp).1, ok.asc.filter _⟩
theorem only_off {l : Sets} {c : Cfg} (ok : CfgOk l c) {ns : List Str} {s : Str × List Str} (hs : s ∈ l) (h : s.1 ∉ ns) : valueS l (onlyC c ns) s.1 = s.2.headD [] :=
  val_out ok.set hs fun p hp e => h (by rw [← e]; exact of_decide_eq_true (List.mem_filter.1 hp).2)
theorem nil_val {l : Sets} (hl : SetOk l) {s : Str × List Str} (hs : s ∈ l) : valueS l [] s.1 = s.2.headD [] := val_out hl hs fun p hp => (by cases hp)
theorem only_self {l : Sets} {x : Cfg} (ok : CfgOk l x) {ns : List Str} (h : ∀ s ∈ l, s.1 ∉ ns → valueS l x s.1 = s.2.headD []) : onlyC x ns = x := by
  refine List.filter_eq_self.2 fun p hp => decide_eq_true ?_
  apply Classical.byContradiction
  intro hno
  obtain ⟨s, hs, hn, _, hne⟩ := (ok.pair p hp).strict ok.set
  have h1 := val_in (l := l) ok.asc hp
  rw [← hn, h s hs (by rw [hn]; exact hno)] at h1
  exact hne h1.symm
/-- How often a configuration is in a list. -/
def cntS (d : Cfg) (xs : List Cfg) : Nat := (xs.filter fun x => decide (x = d)).length
theorem cntS_count (d : Cfg) (xs : List Cfg) (hd : xs.Nodup) (hm : d ∈ xs) : cntS d xs = 1 := by
  induction xs with
  | nil => cases hm
  | cons x xs ih =>
    have hd := List.nodup_cons.1 hd
    unfold cntS
    by_cases h : x = d
    · subst h
      have : xs.filter (fun y => decide (y = x)) = [] := List.filter_eq_nil_iff.2 fun y hy => by
        intro e
        exact hd.1 (by rw [← of_decide_eq_true e]; exact hy)
      rw [List.filter_cons_of_pos (by simp), List.length_cons, this]; rfl
    · rw [List.filter_cons_of_neg (by simpa using h)]
      refine ih hd.2 ?_
      rcases List.mem_cons.1 hm with e | e
      · exact absurd e.symm h
      · exact e
theorem plain_ConfigAllHasOnly (l : Sets) (c : Cfg) (ns : List Str) (hl : Fit settingTy l) (hc : Fit pairTy c) (hn : Fit (.sl .str) ns) : ∃ N, law3_ConfigAllHasOnly N l c ns = some true := by
  have hN : big ≤ big := Nat.le_refl _
  refine ⟨big, ?_⟩
  unfold law3_ConfigAllHasOnly
  obtain ⟨g1, g2⟩ := AllS_mem (l := l) (ns := ns)
  rw [All_eq hN l hl ns hn.1, bnd_some, br_ne]
  by_cases h : (AllS l ns).2 = 0
  case neg =>
    rw [if_pos h]
    have : (AllS l ns).1 = [] := by
      unfold AllS at h ⊢
      by_cases h1 : settingsS l = 0
      · rw [if_neg (by simpa using h1)] at h ⊢
        by_cases h2 : namesS l ns = 0
        · rw [if_neg (by simpa using h2)] at h ⊢
          cases h3 : (allS l ns [[]]).2 with
          | true => rw [h3] at h; exact absurd rfl h
          | false => rfl
        · rw [if_pos h2]
      · rw [if_pos h1]
    rw [this, awake_eq]; simp
  case pos =>
    rw [if_neg (by simpa using h), Only_eq hN l hl c hc.1 ns hn.1, bnd_some, br_ne]
    by_cases hO : (OnlyS l c ns).2 = 0
    case neg =>
      rw [if_pos hO]
      have : (OnlyS l c ns).1 = [] := by
        unfold OnlyS at hO ⊢
        by_cases h1 : configS l c = 0
        · rw [if_neg (by simpa using h1)] at hO ⊢
          by_cases h2 : namesS l ns = 0
          · rw [if_neg (by simpa using h2)] at hO
            exact absurd rfl hO
          · rw [if_pos h2]
        · rw [if_pos h1]
      rw [this, awake_eq]; simp
    case pos =>
      rw [if_neg (by simpa using hO)]
      have hC : configS l c = 0 := by
        apply Classical.byContradiction
        intro h1
        unfold OnlyS at hO
        rw [if_pos h1] at hO
        exact h1 hO
      have ok := (config_iff l c).1 hC
      have hNm : namesS l ns = 0 := by
        apply Classical.byContradiction
        intro h1
        unfold OnlyS at hO
        rw [if_neg (by simpa using hC), if_pos h1] at hO
        exact h1 hO
      have nok := (names_iff l ns).1 hNm
      have hO1 : (OnlyS l c ns).1 = onlyC c ns := by unfold OnlyS; rw [if_neg (by simpa using hC), if_neg (by simpa using hNm)]
      have hSet : settingsS l = 0 := (settings_iff l).2 ok.set
      have hT : (allS l ns [[]]).2 = true := by
        unfold AllS at h
        rw [if_neg (by simpa using hSet), if_neg (by simpa using hNm)] at h
        cases h3 : (allS l ns [[]]).2 with
        | true => rfl
        | false => rw [h3] at h; cases h
      have hA1 : (AllS l ns).1 = (allS l ns [[]]).1 := by
        unfold AllS
        rw [if_neg (by simpa using hSet), if_neg (by simpa using hNm), hT]; rfl
      have hsn : ∀ n ∈ ns, ∃ s ∈ l, s.1 = n := fun n hm => by obtain ⟨s, hs, e, _⟩ := nok.1 n hm; exact ⟨s, hs, e⟩
      have hst : ∀ x ∈ [([] : Cfg)], CfgOk l x := fun x hx => by rw [List.mem_singleton.1 hx]; exact nil_ok ok.set
      have hself : ∀ x ∈ (AllS l ns).1, OnlyS l x ns = (x, 0) := fun x hx => by
        have okx := g2 x hx
        unfold OnlyS
        rw [if_neg (by simpa using (config_iff l x).2 okx), if_neg (by simpa using hNm)]
        rw [hA1] at hx
        obtain ⟨y, hy, hyz⟩ := allS_off ok.set ns _ hsn hst hT x hx
        rw [List.mem_singleton.1 hy] at hyz
        rw [only_self okx fun s hs hm => by rw [hyz s hs hm]; exact nil_val ok.set hs]
      have hone : cntS (onlyC c ns) (AllS l ns).1 = 1 := by
        rw [hA1]
        refine cntS_count _ _ (allS_once ok.set ns _ (pw_nodup nok.2) hsn hst hT (List.pairwise_singleton _ _)) ?_
        refine allS_has ok.set (only_ok ok ns) ns _ hsn hst hT ⟨[], by simp, fun s hs hm => ?_⟩
        rw [only_off ok hs hm, nil_val ok.set hs]
      rw [hO1]
      have hOl : (onlyC c ns).length ≤ maxLen := Nat.le_trans (only_ok ok ns).len (by decide)
      clear hA1 h
      generalize (AllS l ns).1 = xs at g1 g2 hself hone
      have hx : xs.length ≤ maxLen := Nat.le_trans g1 (by decide)
      refine loop_st (f := fun m i (w : Int) => law3_ConfigAllHasOnly_L0 big l ns (onlyC c ns) xs (xs.length : Int) _ m w i) (T := fun self i w => law3_ConfigAllHasOnly_L0T big l ns (onlyC c ns) xs (xs.length : Int) _ (fun w i => self i w) w i) (fun _ _ _ => rfl) hx (fun i => (cntS (onlyC c ns) (xs.take i) : Int)) (fun self i hi hr => ?_) (fun self => ?_) hN
      · have hm := List.getElem_mem hi
        have okx := g2 _ hm
        have hxl : xs[i].length ≤ maxLen := Nat.le_trans okx.len (by decide)
        have hs : cntS (onlyC c ns) (xs.take (i + 1)) = cntS (onlyC c ns) (xs.take i) + if xs[i] = onlyC c ns then 1 else 0 := by
          unfold cntS
          rw [filter_take_succ _ xs hi, List.length_append]
          by_cases e : xs[i] = onlyC c ns <;> simp [e]
        have hlen : cntS (onlyC c ns) (xs.take i) ≤ 1000 := Nat.le_trans (List.length_filter_le _ _) (by rw [List.length_take]; omega)
        rw [hs] at hr
        generalize cntS (onlyC c ns) (xs.take i) = w at hlen hr ⊢
        simp only [law3_ConfigAllHasOnly_L0T, geti_lt xs hi, wrap_succ hx hi, bnd_some, Only_eq hN l hl _ hxl ns hn.1, hself _ hm, bne_self_eq_false, br_false, Equal_pair_self hN _ hxl, Bool.not_true, Equal_pair hN _ _ hxl hOl]
        rw [lt_tt hi, br_true]
        by_cases e : xs[i] = onlyC c ns
        · simp only [e, if_true] at hr
          simp only [e, decide_true, br_true]
          rw [wrap_id (by omega) (by omega)]
          exact hr
        · simp only [e, if_false, Nat.add_zero] at hr
          simp only [e, decide_false, br_false]
          exact hr
      · simp only [law3_ConfigAllHasOnly_L0T, lt_ff, br_false, List.take_length, hone, awake_eq]
        simp
end Go.Proofs.YtbekhaioddmliaaDoor
