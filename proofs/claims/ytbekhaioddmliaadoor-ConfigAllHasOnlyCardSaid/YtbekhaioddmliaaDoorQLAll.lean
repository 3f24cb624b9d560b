/- What Only and All compute. No program in sight. -/
import Derived.Test.YtbekhaioddmliaaDoorQCfF9
import Derived.Test.YtbekhaioddmliaaDoorQLWith
namespace Go.Proofs.YtbekhaioddmliaaDoor
set_option linter.unusedVariables false
set_option linter.unusedSimpArgs false
open Go Go.RowKit
variable {N : Nat}
/-- The name ahead. -/
def prevN (l : List Str) (i : Nat) (n : Str) (r : Int) : Int := if i = 0 then r else match l[i - 1]? with | some y => if (Op.bytesLess n y || n == y) then 8 else r | none => r
theorem prevN_eq {l : List Str} (hx : l.length ≤ maxLen) {i : Nat} (h : i < l.length) {n : Str} {r : Int} :
    (br (decide ((i : Int) > 0)) (bnd (geti l (IntKind.i64.wrap ((i : Int) - 1))) fun y => br (Op.bytesLess n y || n == y) (some 8) (some r)) (some r)) = some (prevN l i n r) := by
  unfold maxLen at hx
  unfold prevN
  cases i with
  | zero => simp
  | succ j =>
    rw [wrap_pred (by omega), show ((j + 1 : Nat) : Int) - 1 = (j : Int) by omega, geti_lt l (by omega), bnd_some, br_ite, decide_eq_true (show ((j + 1 : Nat) : Int) > 0 by omega), br_true, if_neg (Nat.succ_ne_zero j)]
    rw [show j + 1 - 1 = j from rfl, List.getElem?_eq_getElem (by omega)]
theorem prevN_zero {l : List Str} {i : Nat} {n : Str} {r : Int} : prevN l i n r = 0 ↔ (∀ y, i ≠ 0 → l[i - 1]? = some y → y < n) ∧ r = 0 := by
  unfold prevN
  by_cases h : i = 0
  · simp [h]
  · rw [if_neg h]
    cases hy : l[i - 1]? with
    | none => simp
    | some y =>
      simp only [le_not]
      by_cases hd : y < n
      · simp [hd]
      · simp [hd, h]
def nameB (l : Sets) (ns : List Str) (i : Nat) (x : Str) (r : Int) : Int := match l.find? (fun s => s.1 == x) with | none => 5 | some _ => prevN ns i x r
def namesS (l : Sets) (ns : List Str) : Int := forT (nameB l ns) 0 ns 0
theorem checkNames_eq (hN : big ≤ N) (l : Sets) (hl : Fit settingTy l) (ns : List Str) (hn : ns.length ≤ maxLen) : config_checkNames N l ns = some (namesS l ns) := by
  unfold config_checkNames
  refine loop_for (fun _ _ => rfl) ns hn (fun self i h r hr => ?_) (fun self => ?_) hN
  · simp only [config_checkNames_L0T, geti_lt ns h, wrap_succ hn h, hr, bnd_some, find_eq hN l hl.1]
    rw [lt_tt h, br_true]
    unfold nameB
    rcases idxP_cases (fun s : Str × List Str => s.1 == ns[i]) l with ⟨h1, h2⟩ | ⟨j, s, h1, h2, h3, h4⟩
    · rw [h2, h1]; simp
    · rw [h4, h1, br_neg (by omega)]
      exact prevN_eq hn h
  · simp only [config_checkNames_L0T, lt_ff, br_false]
/-- Right names of settings. -/
def NamesOk (l : Sets) (ns : List Str) : Prop := (∀ n ∈ ns, ∃ s ∈ l, s.1 = n ∧ l.find? (fun x => x.1 == n) = some s) ∧ ns.Pairwise (· < ·)
theorem pw_iff (l : List Str) : (∀ i (hi : i < l.length), ∀ y, i ≠ 0 → l[i - 1]? = some y → y < l[i]) ↔ l.Pairwise (· < ·) := by
  have h := asc_iff (l.map fun x => (x, ()))
  have e : Asc (l.map fun x => (x, ())) ↔ l.Pairwise (· < ·) := by unfold Asc; rw [List.pairwise_map]
  rw [← e, ← h]
  constructor
  · intro h i hi y h0 hy
    rw [List.length_map] at hi
    rw [List.getElem?_map] at hy
    cases hq : l[i - 1]? with
    | none => rw [hq] at hy; cases hy
    | some z =>
      rw [hq] at hy
      obtain rfl := Option.some.inj hy
      have := h i hi z h0 hq
      simpa using this
  · intro h i hi y h0 hy
    have := h i (by simpa using hi) (y, ()) h0 (by rw [List.getElem?_map, hy]; rfl)
    simpa using this
theorem names_iff (l : Sets) (ns : List Str) : namesS l ns = 0 ↔ NamesOk l ns := by
  unfold namesS
  rw [forT_zero (q := fun i x => (∃ s ∈ l, s.1 = x ∧ l.find? (fun y => y.1 == x) = some s) ∧ ∀ y, i ≠ 0 → ns[i - 1]? = some y → y < x) (fun i x r => ?_) ns 0]
  · constructor
    · intro h
      refine ⟨fun n hn => ?_, (pw_iff ns).1 fun i hi y h0 hy => (h i hi).2 y (by omega) (by simpa using hy)⟩
      obtain ⟨i, hi, rfl⟩ := List.getElem_of_mem hn
      exact (h i hi).1
    · rintro ⟨h1, h2⟩ i hi
      exact ⟨h1 _ (List.getElem_mem hi), fun y h0 hy => (pw_iff ns).2 h2 i hi y (by omega) (by simpa using hy)⟩
  · unfold nameB
    cases hf : l.find? (fun s => s.1 == x) with
    | none =>
      refine ⟨fun h => (by cases h), fun h => ?_⟩
      obtain ⟨⟨⟨s, _, _, hs⟩, _⟩, _⟩ := h
      cases hs
    | some s =>
      rw [prevN_zero]
      exact ⟨fun h => ⟨⟨⟨s, (find_mem hf).1, (find_mem hf).2, rfl⟩, h.1⟩, h.2⟩, fun h => ⟨h.1.2, h.2⟩⟩
theorem pw_nodup {l : List Str} (h : l.Pairwise (· < ·)) : l.Nodup := h.imp fun {a b} hab e => by rw [e] at hab; exact List.lt_irrefl _ hab
theorem names_len {l : Sets} {ns : List Str} (h : NamesOk l ns) : ns.length ≤ l.length := by
  have := (pw_nodup h.2).length_le_of_subset (l₂ := l.map (·.1)) (fun n hn => by
    obtain ⟨s, hs, e, _⟩ := h.1 n hn
    exact List.mem_map.2 ⟨s, hs, e⟩)
  simpa using this
/-- Only. -/
def onlyC (c : Cfg) (ns : List Str) : Cfg := c.filter fun p => decide (p.1 ∈ ns)
def OnlyS (l : Sets) (c : Cfg) (ns : List Str) : Cfg × Int := if configS l c ≠ 0 then ([], configS l c) else if namesS l ns ≠ 0 then ([], namesS l ns) else (onlyC c ns, 0)
theorem Only_1_eq (hN : big ≤ N) (t : Str × Str) (ns : List Str) (hn : ns.length ≤ maxLen) : config_Only_1 N t ns = some (!decide (t.1 ∈ ns)) := by
  unfold config_Only_1
  rw [slices_Contains_eq hN ns hn, bnd_some, any_mem]
theorem IndexFunc_pair2 (hN : big ≤ N) (xs : Cfg) (hx : xs.length ≤ maxLen) (ns : List Str) (hn : ns.length ≤ maxLen) : slices_IndexFunc_api_Pair_2 N xs (ns, ()) = some (idxP (fun x => !decide (x.1 ∈ ns)) xs) := by
  unfold slices_IndexFunc_api_Pair_2
  refine loop_for (fun _ _ => rfl) xs hx (fun self i h r hr => ?_) (fun self => ?_) hN
  · simp only [slices_IndexFunc_api_Pair_2_L0T, geti_lt xs h, wrap_succ hx h, hr, bnd_some, Only_1_eq hN _ ns hn]
    rw [lt_tt h, br_true, br_ite]
  · simp only [slices_IndexFunc_api_Pair_2_L0T, lt_ff, br_false]
theorem DeleteFunc_pair2 (hN : big ≤ N) (c : Cfg) (hc : c.length ≤ maxLen) (ns : List Str) (hn : ns.length ≤ maxLen) : slices_DeleteFunc_api_Pair_2 N (ns, ()) c = some (onlyC c ns) := by
  unfold slices_DeleteFunc_api_Pair_2
  rw [IndexFunc_pair2 hN c hc ns hn, bnd_some]
  have := deleteFunc_eq hN hc (fun p : Str × Str => !decide (p.1 ∈ ns)) (P := fun t => config_Only_1 N t ns) (fun t _ => Only_1_eq hN t ns hn) (zero (.pr .str .str)) (f := fun m a b w => slices_DeleteFunc_api_Pair_2_L0 N (ns, ()) _ m a b w) (fun _ _ _ _ => rfl)
  simp only [Bool.not_not] at this
  exact this
theorem Only_eq (hN : big ≤ N) (l : Sets) (hl : Fit settingTy l) (c : Cfg) (hc : c.length ≤ maxLen) (ns : List Str) (hn : ns.length ≤ maxLen) : config_Only N l c ns = some (OnlyS l c ns) := by
  unfold config_Only OnlyS
  rw [checkConfig_eq hN l hl c hc, bnd_some, br_ne]
  by_cases h : configS l c = 0
  · have ok := (config_iff l c).1 h
    rw [if_neg (by simpa using h), if_neg (by simpa using h), checkNames_eq hN l hl ns hn, bnd_some, br_ne]
    by_cases h2 : namesS l ns = 0
    · rw [if_neg (by simpa using h2), if_neg (by simpa using h2), Clone_pair c (by have := ok.len; omega), bnd_some, DeleteFunc_pair2 hN c hc ns hn, bnd_some]
    · rw [if_pos h2, if_pos h2]
  · rw [if_pos h, if_pos h]
/-- All values of one setting. -/
def stepA (l : Sets) (n : Str) (vs : List Str) (acc : List Cfg) : List Cfg := acc.flatMap fun x => vs.map fun v => withS l x n v
theorem stepA_len (l : Sets) (n : Str) (vs : List Str) (acc : List Cfg) : (stepA l n vs acc).length = acc.length * vs.length := by
  unfold stepA
  induction acc with
  | nil => simp
  | cons x acc ih => rw [List.flatMap_cons, List.length_append, List.length_map, ih, List.length_cons, Nat.succ_mul]; omega
def valsOf (l : Sets) (n : Str) : List Str := match l.find? (fun s => s.1 == n) with | some s => s.2 | none => []
def allS (l : Sets) : List Str → List Cfg → List Cfg × Bool
  | [], acc => (acc, true)
  | n :: ns, acc => if 1000 < acc.length * (valsOf l n).length then ([], false) else allS l ns (stepA l n (valsOf l n) acc)
/-- A loop over two lists, one in the other: what it gathers. -/
theorem gather {N : Nat} (hN : big ≤ N) {R : Type} (l : Sets) (n : Str) (vs : List Str) (hv : vs.length ≤ 20) (acc : List Cfg) (ha : acc.length ≤ 1000) {W : Cfg → Str → Option Cfg} (hW : ∀ x ∈ acc, ∀ v ∈ vs, W x v = some (withS l x n v)) {k2 : List Cfg → Option R}
    {f2 : Cfg → (List Cfg → Option R) → Nat → Int → List Cfg → Option R} (hf2 : ∀ x k m i w, f2 x k (m + 1) i w = br (decide (i < (vs.length : Int))) (bnd (geti vs i) fun t41 => bnd (W x t41) fun t48 => br (decide ((w.length + [t48].length) * (24 * Ty.sz (.sl (.pr .str .str))) ≤ 140737488355328)) (f2 x k m (IntKind.i64.wrap (i + (1 : Int))) (w ++ [t48])) none) (k w))
    {f1 : Nat → Int → List Cfg → Option R} (hf1 : ∀ m i w, f1 (m + 1) i w = br (decide (i < (acc.length : Int))) (bnd (geti acc i) fun t29 => f2 t29 (fun o => f1 m (IntKind.i64.wrap (i + (1 : Int))) o) N 0 w) (k2 w)) :
    f1 N 0 [] = k2 (stepA l n vs acc) := by
  have hx : acc.length ≤ maxLen := Nat.le_trans ha (by decide)
  have hxv : vs.length ≤ maxLen := Nat.le_trans hv (by decide)
  refine loop_st (f := f1) (T := fun self i w => br (decide (i < (acc.length : Int))) (bnd (geti acc i) fun t29 => f2 t29 (fun o => self (IntKind.i64.wrap (i + (1 : Int))) o) N 0 w) (k2 w)) (fun m i w => hf1 m i w) hx (fun i => stepA l n vs (acc.take i)) (fun self i hi hr => ?_) (fun self => ?_) hN
  · have hlen := stepA_len l n vs (acc.take i)
    rw [List.length_take] at hlen
    have hb : (stepA l n vs (acc.take i)).length ≤ 20000 := by
      rw [hlen]
      exact Nat.le_trans (Nat.mul_le_mul (show min i acc.length ≤ 1000 by omega) hv) (by decide)
    have hs : stepA l n vs (acc.take (i + 1)) = stepA l n vs (acc.take i) ++ vs.map fun v => withS l acc[i] n v := by
      unfold stepA
      rw [List.take_succ_eq_append_getElem hi, List.flatMap_append]; simp
    rw [hs] at hr
    generalize stepA l n vs (acc.take i) = w at hb hr ⊢
    simp only [geti_lt acc hi, wrap_succ hx hi, bnd_some]
    rw [lt_tt hi, br_true]
    have := loop_st (f := f2 acc[i] (fun o => self ((i + 1 : Nat) : Int) o)) (T := fun self2 i2 w => br (decide (i2 < (vs.length : Int))) (bnd (geti vs i2) fun t41 => bnd (W acc[i] t41) fun t48 => br (decide ((w.length + [t48].length) * (24 * Ty.sz (.sl (.pr .str .str))) ≤ 140737488355328)) (self2 (IntKind.i64.wrap (i2 + (1 : Int))) (w ++ [t48])) none) (self ((i + 1 : Nat) : Int) w)) (fun m i2 w => hf2 _ _ m i2 w) hxv (fun j => w ++ (vs.take j).map fun v => withS l acc[i] n v) (r := k2 (stepA l n vs acc)) (fun self2 j hj hr2 => ?_) (fun self2 => ?_) hN
    · simpa using this
    · have hs2 : w ++ (vs.take (j + 1)).map (fun v => withS l acc[i] n v) = (w ++ (vs.take j).map fun v => withS l acc[i] n v) ++ [withS l acc[i] n vs[j]] := by
        rw [List.take_succ_eq_append_getElem hj, List.map_append]; simp
      rw [hs2] at hr2
      simp only [geti_lt vs hj, wrap_succ hxv hj, bnd_some, hW _ (List.getElem_mem hi) _ (List.getElem_mem hj)]
      rw [lt_tt hj, br_true, br_pos]
      · exact hr2
      · rw [List.length_append, List.length_map, List.length_take, List.length_singleton]; show (_ + 1) * 24 ≤ _; omega
    · simp only [lt_ff, br_false, List.take_length]
      exact hr
  · simp only [lt_ff, br_false, List.take_length]
theorem vals_ok {l : Sets} (hl : SetOk l) {s : Str × List Str} (hs : s ∈ l) : valsOf l s.1 = s.2 := by
  unfold valsOf; rw [hl.asc.find hs]
theorem step_ok {l : Sets} (hl : SetOk l) {s : Str × List Str} (hs : s ∈ l) {acc : List Cfg} (ha : ∀ x ∈ acc, CfgOk l x) : ∀ x ∈ stepA l s.1 s.2 acc, CfgOk l x := fun x hx => by
  obtain ⟨y, hy, hx⟩ := List.mem_flatMap.1 hx
  obtain ⟨v, hv, rfl⟩ := List.mem_map.1 hx
  exact with_ok (ha y hy) hs hv
theorem spread_from (hN : big ≤ N) (l : Sets) (hl : Fit settingTy l) (hS : SetOk l) (ns : List Str) (hn : NamesOk l ns) : ∀ (m n i : Nat) (acc : List Cfg), i + m = ns.length → m < n → acc.length ≤ 1000 → (∀ x ∈ acc, CfgOk l x) →
    config_spread_L0 N l ns (ns.length : Int) (fun o => some (o, true)) n acc (i : Int) = some (allS l (ns.drop i) acc)
  | 0, n, i, acc, hi, hm, ha, hok => by
    obtain ⟨n, rfl⟩ : ∃ q, n = q + 1 := ⟨n - 1, by omega⟩
    have : i = ns.length := by omega
    subst this
    show config_spread_L0T _ _ _ _ _ _ _ _ = _
    unfold config_spread_L0T
    rw [lt_ff, br_false, List.drop_length]; rfl
  | m + 1, n, i, acc, hi, hm, ha, hok => by
    obtain ⟨n, rfl⟩ : ∃ q, n = q + 1 := ⟨n - 1, by omega⟩
    have hlt : i < ns.length := by omega
    have hns : ns.length ≤ 30 := Nat.le_trans (names_len hn) hS.len
    obtain ⟨s, hs, hsn, hf⟩ := hn.1 _ (List.getElem_mem hlt)
    have hvs : valsOf l ns[i] = s.2 := by rw [← hsn]; exact vals_ok hS hs
    have hstep : allS l (ns.drop i) acc = if 1000 < acc.length * s.2.length then ([], false) else allS l (ns.drop (i + 1)) (stepA l ns[i] s.2 acc) := by
      rw [List.drop_eq_getElem_cons hlt]
      show (if 1000 < acc.length * (valsOf l ns[i]).length then _ else _) = _
      rw [hvs]
    rw [hstep]
    show config_spread_L0T _ _ _ _ _ _ _ _ = _
    unfold config_spread_L0T
    rw [lt_tt hlt, br_true, geti_lt ns hlt, bnd_some]
    obtain ⟨j, x, hj1, hj2, hj3, hj4⟩ : ∃ (j : Nat) (x : Str × List Str), l.find? (fun x => x.1 == ns[i]) = some x ∧ l[j]? = some x ∧ (x.1 == ns[i]) = true ∧ idxP (fun x : Str × List Str => x.1 == ns[i]) l = (j : Int) := by
      rcases idxP_cases (fun x : Str × List Str => x.1 == ns[i]) l with ⟨h1, _⟩ | ⟨j, x, h1, h2, h3, h4⟩
      · rw [hf] at h1; cases h1
      · exact ⟨j, x, h1, h2, h3, h4⟩
    obtain rfl : s = x := Option.some.inj (hf.symm.trans hj1)
    have G : ∀ k2 : List Cfg → Option (List Cfg × Bool), config_spread_L1 N l ns[i] acc (acc.length : Int) k2 N 0 [] = k2 (stepA l ns[i] s.2 acc) := fun k2 => gather hN l ns[i] s.2 (hS.few s hs) acc ha (W := fun x v => config_with N l x ns[i] v) (fun x hx v hv => by
        have := with_eq hN l hl x (hok x hx) s (by rw [hsn]; exact hf) v
        rw [hsn] at this
        show config_with N l x ns[i] v = _
        rw [this, withI_eq (hok x hx) hs, hsn])
      (f2 := fun x k m i2 w => config_spread_L2 N l ns[i] x s.2 (s.2.length : Int) k m i2 w) (fun _ _ _ _ _ => rfl) (f1 := fun m i2 w => config_spread_L1 N l ns[i] acc (acc.length : Int) k2 m i2 w)
      (fun m i2 w => by
        show config_spread_L1T _ _ _ _ _ _ _ _ _ = _
        unfold config_spread_L1T
        simp only [find_eq hN l hl.1, hj4, bnd_some, geti_nat, hj2])
    rw [G]
    have hlen := stepA_len l ns[i] s.2 acc
    by_cases hbig : 1000 < acc.length * s.2.length
    · have hb : ((stepA l ns[i] s.2 acc).length : Int) > 1000 := by rw [hlen]; omega
      rw [br_pos hb, if_pos hbig]
    · have hb : ¬ ((stepA l ns[i] s.2 acc).length : Int) > 1000 := by rw [hlen]; omega
      rw [br_neg hb, if_neg hbig, wrap_succ (by unfold maxLen; omega) hlt]
      refine spread_from hN l hl hS ns hn m n (i + 1) _ (by omega) (by omega) (by rw [hlen]; omega) ?_
      rw [← hsn]; exact step_ok hS hs hok
end Go.Proofs.YtbekhaioddmliaaDoor
