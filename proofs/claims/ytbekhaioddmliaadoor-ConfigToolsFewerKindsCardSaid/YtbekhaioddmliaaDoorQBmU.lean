/- A region that draws its order, with effects in it: the machine, and that it is right. -/
import Derived.Test.YtbekhaioddmliaaDoorQBmV
import Derived.Test.YtbekhaioddmliaaDoorQBm14
namespace Go.Proofs.YtbekhaioddmliaaDoor
set_option linter.unusedVariables false
set_option linter.unusedSimpArgs false
open Go Go.RowKit
section
variable {P : Program} {G : World → Prop} {B0 : Nat} {E : Env} {M0 : Nat → Nat → Prop} {w0 : World} {gi g : Gh} {st : St} {a : Act} {w : World} {R : Type}
theorem Oper.wp_put {o : Oper} {K : Act → World → Prop} {Q : Exit → Act → World → Prop} (hh : o.wp P a w K Q) : o.wp P a w (fun a' w' => K a' w' ∧ ∃ v, a'.tmps = (a.put o.dst v).tmps) Q := by
  unfold Oper.wp at *
  generalize (execOp a.eval o).run P w = r at *
  cases r with
  | ok n w' =>
    cases n <;> simp only [Oper.upon] at hh ⊢ <;>
      first
        | exact ⟨hh, _, rfl⟩
        | exact Calls.mono hh (fun e w'' he => by cases e <;> first | exact ⟨he, _, rfl⟩ | exact he)
        | exact Rows.mono hh (fun _ _ he => ⟨he, _, rfl⟩)
        | exact ⟨hh, undef, by cases o.dst <;> rfl⟩
        | exact hh
  | halt x w' => cases x <;> simp only [Oper.upon] at hh ⊢ <;> exact hh
def dstOf (ops : Array Oper) (i : Nat) : Option Tmp := (ops[i]?).bind (·.dst)
theorem oneD_sound {ops : Array Oper} {Q : Exit → Act → World → Prop} (hE : EnvOk P G B0 E) {K : Act → World → Prop} {k : St → Option R} {r : R} {i : Nat} (hs : Sim G B0 M0 w0 gi g st a w) (hK : Goes G B0 M0 w0 gi k r K) (h : oneD E ops i st k = some r) :
    wpOp P ops Q i (fun a' w' => K a' w' ∧ ∃ v, a'.tmps = (a.put (dstOf ops i) v).tmps) a w := by
  unfold oneD at h
  unfold wpOp dstOf
  cases ho : ops[i]? with
  | none => rw [ho] at h; cases h
  | some o =>
    rw [ho] at h
    dsimp only [Option.bind] at h ⊢
    rcases guardD_cases hs h with ⟨hw, st', hs', h⟩ | ⟨hw, st', hs', h⟩
    · rw [if_pos hw]
      exact .inl (Oper.wp_put (opD_sound hE hs' hK h))
    · rw [if_neg (by rw [hw]; simp)]
      exact ⟨hK _ _ _ _ (hs'.put o.dst (d := .skip) (v := undef) rfl) h, undef, rfl⟩
theorem still_val (hE : EnvOk P G B0 E) {o : Oper} (ho : stillOp o = true) (hs : Sim G B0 M0 w0 gi g st a w) {k : St → Option R} {r : R} (h : opD E o st k = some r) :
    o.guard = none ∧ ∃ d v, RepD (Mof M0 g) w g d v ∧ (∀ w', (execOp a.eval o).run P w' = .ok (.value v) w') ∧ k (st.put o.dst d) = some r := by
  unfold stillOp at ho
  split at ho
  · rename_i hg
    refine ⟨hg, ?_⟩
    have hv : valD E o.op o.type st (fun d => k (st.put o.dst d)) = some r := by
      unfold opD at h
      cases hop : o.op with
      | assign x =>
        rw [hop] at h ho
        simp only [putK_eq] at h
        split at h
        case h_1 hq => cases hq; cases ho
        all_goals first
          | (rename_i hq; cases hq; done)
          | exact h
      | _ => rw [hop] at h ho; first | (cases ho; done) | (simp only [putK_eq] at h; exact h)
    obtain ⟨d, v, h1, h2, h3⟩ := valD_still hE hs ho hv
    exact ⟨d, v, h2, fun w' => h3 w' trivial, h1⟩
  · cases ho
theorem bothL_some {f : Nat → Option R} {r : R} : ∀ {l : List Nat}, bothL f l = some r → ∀ i ∈ l, f i = some r
  | [i], h, j, hj => by rw [List.mem_singleton.1 hj]; exact h
  | i :: j :: l, h, q, hq => by
    obtain ⟨h1, h2⟩ := both_some (show both (f i) (bothL f (j :: l)) = some r from h)
    rcases List.mem_cons.1 hq with rfl | hq
    · exact h1
    · exact bothL_some h2 q hq
theorem still_one (hE : EnvOk P G B0 E) {ops : Array Oper} {listed : Array Bool} {j : Nat} (hj : stillB ops listed j = true) (hs : Sim G B0 M0 w0 gi g st a w) {k : St → Option R} {r : R} (h : oneD E ops j st k = some r) :
    ∃ o d v, ops[j]? = some o ∧ Region.free .any ops listed j = true ∧ Yields P ops o v a ∧ RepD (Mof M0 g) w g d v ∧ k (st.put o.dst d) = some r := by
  unfold stillB at hj
  simp only [Bool.and_eq_true] at hj
  unfold oneD at h
  cases ho : ops[j]? with
  | none => rw [ho] at h; cases h
  | some o =>
    rw [ho] at h hj
    dsimp only at h hj
    unfold guardD at h
    have hg : o.guard = none := by
      have := hj.1
      unfold stillOp at this
      split at this
      · assumption
      · cases this
    rw [hg] at h
    dsimp only at h
    obtain ⟨_, d, v, h1, h2, h3⟩ := still_val hE hj.1 hs h
    exact ⟨o, d, v, rfl, hj.2, .inl ⟨by simp [Region.wanted, hg], h2⟩, h1, h3⟩
theorem ordP_sound (hE : EnvOk P G B0 E) {ops : Array Oper} (hsel : Region.noSelect ops = true) {k : St → Option R} {r : R} {Q : Exit → Act → World → Prop} (hK : Goes G B0 M0 w0 gi k r (Q .normal)) (hQ : ∀ c a w, ¬ Q (.panic c) a w) :
    ∀ (n : Nat) (listed : Array Bool) (g : Gh) (st : St) (a : Act) (w : World), Sim G B0 M0 w0 gi g st a w → ordP E ops n listed st k = some r → wpAny P .any ops Q n listed a w
  | 0, listed, g, st, a, w, hs, h => by
    unfold ordP at h
    split at h
    · rename_i hr; exact ⟨hr, hK _ _ _ _ hs h⟩
    · cases h
  | n + 1, listed, g, st, a, w, hs, h => by
    unfold ordP at h
    split at h
    · rename_i hr; exact ⟨fun _ => hK _ _ _ _ hs h, fun i hi => by rw [hr] at hi; cases hi⟩
    · rename_i i rs hr
      split at h
      · rename_i j hf
        have hj := List.find?_some hf
        have hm := List.mem_of_find?_eq_some hf
        obtain ⟨o, d, v, ho, hfree, hy, hd, h⟩ := still_one hE hj hs h
        exact wpAny_take ho hsel hfree (by rw [hr]; simpa using hm) (fun c a w h => absurd h (hQ c _ w)) hy (ordP_sound hE hsel hK hQ n _ g _ _ w (hs.put o.dst hd) h)
      · refine ⟨fun h0 => (by rw [hr] at h0; cases h0), fun j hj => ?_⟩
        rw [hr] at hj
        exact wpOp_mono (fun a' w' h' => h'.1) (oneD_sound hE hs (fun g st a w hs h => ordP_sound hE hsel hK hQ n _ g st a w hs h) (bothL_some h j hj))
/-- What stays behind the effects: data, and what was put aside. -/
def KeepS (M0 : Nat → Nat → Prop) (g : Gh) (l : List Nat) (w w' : World) : Prop :=
  (∀ ad u, w.cell? ad = some u → ¬ Mof M0 g ad.block ad.off → w'.cell? ad = some u) ∧ (∀ b es c, w.heap[b]? = some (.map es c) → ¬ Mof M0 g b 0 → w'.heap[b]? = some (.map es c)) ∧ ∀ r x b, memN l r = true → g r = some x → x.blk = some b → w'.heap[b]? = w.heap[b]?
theorem KeepS.refl (M0 : Nat → Nat → Prop) (g : Gh) (l : List Nat) (w : World) : KeepS M0 g l w w := ⟨fun _ _ h _ => h, fun _ _ _ h _ => h, fun _ _ _ _ _ _ => rfl⟩
theorem Sim.keepS (hs : Sim G B0 M0 w0 gi g st a w) {l : List Nat} {g' : Gh} {st' : St} {a' : Act} {w' : World} (hs' : Sim G B0 (Mapart M0 g l) w (g.off l).base g' st' a' w') : KeepS M0 g l w w' := by
  refine ⟨fun ad u h1 h2 => (hs'.stp.1 ad u h1 fun h3 => h2 (Mof_apart.1 (Mof_base.1 h3))).1, fun b es c h1 h2 => (hs'.stp.2 b es c h1 fun h3 => h2 (Mof_apart.1 (Mof_base.1 h3))).1, fun r x b hm h1 h2 => hs'.ext.block b (hs.low r x b h1 h2).2.1 fun hX => ?_⟩
  obtain ⟨r', x', h4, h5⟩ := Xof_base.1 hX
  obtain ⟨h6, h7⟩ := Gh.off_some h4
  have := hs.inj _ _ _ _ _ h1 h7 h2 h5
  rw [this, h6] at hm
  cases hm
theorem put_slot {a a' : Act} {dst : Option Tmp} {v : Value} (h : a'.tmps = (a.put dst v).tmps) {ds : List Nat} (hd : ∀ d, dst = some d → memN ds d = true) : a'.tmps.size = a.tmps.size ∧ ∀ t, memN ds t = false → a'.tmps.getD t undef = a.tmps.getD t undef := by
  cases dst with
  | none =>
    have h : a'.tmps = a.tmps := h
    rw [h]; exact ⟨rfl, fun _ _ => rfl⟩
  | some d =>
    have h : a'.tmps = a.tmps.setIfInBounds d v := h
    rw [h]
    refine ⟨by simp, fun t ht => ?_⟩
    have hne : d ≠ t := fun e => by
      have := hd d rfl
      rw [e, ht] at this
      cases this
    simp [Array.getD_eq_getD_getElem?, Array.getElem?_setIfInBounds, hne]
theorem ordT_sound (hE : EnvOk P G B0 E) {ops : Array Oper} (hsel : Region.noSelect ops = true) {k : St → Option R} {r : R} {Q : Exit → Act → World → Prop} (hK : Goes G B0 M0 w0 gi k r (Q .normal)) (hQ : ∀ c a w, ¬ Q (.panic c) a w) (hL : ¬ LetsOut Q)
    {tl : Nat → Bool} {l ds : List Nat} {g0 : Gh} {st0 : St} {a0 : Act} {w1 : World} (hs0 : Sim G B0 M0 w0 gi g0 st0 a0 w1) :
    ∀ (n : Nat) (listed : Array Bool), (∀ i d, listed.getD i true = false → dstOf ops i = some d → memN ds d = true) → ∀ (g : Gh) (st : St) (a : Act) (w : World), Sim G B0 (Mapart M0 g0 l) w1 (g0.off l).base g st a w → a.tmps.size = a0.tmps.size → (∀ t, memN ds t = false → a.tmps.getD t undef = a0.tmps.getD t undef) →
      ordT E ops tl l ds st0 n listed st k = some r → wpAnyT P ops Q tl (KeepS M0 g0 l w1) n listed a w
  | 0, listed, hds, g, st, a, w, hs, hz, ht, h => by
    unfold ordT at h
    split at h
    · rename_i hr; exact ⟨hr, hK _ _ _ _ (hs0.again l ds hs (by rw [← hs.sz, ← hs0.sz, hz]) ht) h⟩
    · cases h
  | n + 1, listed, hds, g, st, a, w, hs, hz, ht, h => by
    have hds' : ∀ j i d, (listed.setIfInBounds j true).getD i true = false → dstOf ops i = some d → memN ds d = true := fun j i d h1 h2 => by
      refine hds i d ?_ h2
      by_cases hij : j = i
      · subst hij
        rcases Nat.lt_or_ge j listed.size with h' | h'
        · simp [Array.getD_eq_getD_getElem?, h'] at h1
        · simp [Array.getD_eq_getD_getElem?, Array.getElem?_eq_none h'] at h1
      · rw [getD_set_ne true hij] at h1; exact h1
    unfold ordT at h
    split at h
    · rename_i hr; exact ⟨fun _ => hK _ _ _ _ (hs0.again l ds hs (by rw [← hs.sz, ← hs0.sz, hz]) ht) h, fun i hi => by rw [hr] at hi; cases hi⟩
    · rename_i i rs hr
      split at h
      · rename_i hall
        have hP := ordP_sound hE hsel hK hQ _ listed _ _ _ _ (hs0.again l ds hs (by rw [← hs.sz, ← hs0.sz, hz]) ht) h
        rcases Bool.or_eq_true_iff.1 hall with hall | hall
        · refine wpAnyT_tail (fun j hj => ?_) hP
          rw [hr] at hj
          exact List.all_eq_true.1 hall j hj
        · refine wpAnyT_calm _ _ _ _ (fun j o h1 h2 h3 => ?_) (hs0.keepS hs) hL hP
          have := List.all_eq_true.1 hall j (List.mem_range.2 (Array.getElem?_eq_some_iff.1 h3).1)
          rw [h1, h2, h3] at this
          simpa using this
      · split at h
        · rename_i j hf
          have hj := List.find?_some hf
          have hm := List.mem_of_find?_eq_some hf
          simp only [Bool.and_eq_true] at hj
          obtain ⟨o, d, v, ho, hfree, hy, hd, h⟩ := still_one hE hj.1.1 hs h
          have hsl := put_slot (a := a) (a' := a.put o.dst v) (dst := o.dst) (v := v) rfl (ds := ds) fun d hd => hds j d (mem_ready.1 (by rw [hr]; simpa using hm)).1 (by unfold dstOf; rw [ho]; exact hd)
          exact wpAnyT_take ho hsel hfree (by rw [hr]; simpa using hm) hj.1.2 (fun c a w h => absurd h (hQ c _ w)) hy.yieldsIf (hs0.keepS hs) (ordT_sound hE hsel hK hQ hL hs0 n _ (hds' _) g _ _ w (hs.put o.dst hd) (hsl.1.trans hz) (fun t h => (hsl.2 t h).trans (ht t h)) h)
        · refine ⟨fun h0 => (by rw [hr] at h0; cases h0), fun j hj => ?_⟩
          rw [hr] at hj
          have h := bothL_some h j hj
          cases htl : tl j with
          | true =>
            rw [htl] at h
            exact wpOp_mono (fun a' w' h' => .inl ⟨rfl, h'.1⟩) (oneD_sound hE (hs0.again l ds hs (by rw [← hs.sz, ← hs0.sz, hz]) ht) (fun g st a w hs h => ordP_sound hE hsel hK hQ n _ g st a w hs h) h)
          | false =>
            rw [htl] at h
            refine wpOp_mono (fun a' w' h' => .inr ⟨rfl, ?_⟩) (oneD_sound hE hs (K := fun a' w' => ∃ g' st', Sim G B0 (Mapart M0 g0 l) w1 (g0.off l).base g' st' a' w' ∧ ordT E ops tl l ds st0 n (listed.setIfInBounds j true) st' k = some r) (fun g st a w hs h => ⟨g, st, hs, h⟩) h)
            obtain ⟨⟨g', st', hs', h'⟩, v, hv⟩ := h'
            have hsl := put_slot hv (ds := ds) fun d hd => hds j d (mem_ready.1 (by rw [hr]; exact hj)).1 hd
            exact ⟨hs0.keepS hs', ordT_sound hE hsel hK hQ hL hs0 n _ (hds' _) g' st' a' w' hs' (hsl.1.trans hz) (fun t h => (hsl.2 t h).trans (ht t h)) h'⟩
theorem aget_akeepB {l : List Nat} {hp : List (Nat × Blk)} {r : Nat} {b : Blk} (h : aget (akeep l id hp) r = some b) : memN l r = true ∧ aget hp r = some b := by
  obtain ⟨x, h1, e⟩ := aget_akeep l id hp r b h
  have e2 : b = x := e
  subst e2
  refine ⟨?_, h1⟩
  clear h1 e
  induction hp with
  | nil => cases h
  | cons p hp ih =>
    obtain ⟨j, y⟩ := p
    unfold akeep at h
    split at h
    · rename_i hm
      rw [aget_cons] at h
      cases hb : Nat.beq j r with
      | true => obtain rfl := Nat.eq_of_beq_eq_true hb; exact hm
      | false => rw [hb] at h; exact ih h
    · exact ih h
theorem KeepS.keepR {l : List Nat} {w' : World} (h : KeepS M0 g l w w') : KeepR (Mof M0 g) g (akeep l id st.hp) w w' :=
  ⟨h.1, h.2.1, fun r blk x b h1 h2 h3 _ => h.2.2 r x b (aget_akeepB h1).1 h2 h3⟩
theorem Sim.only (hs : Sim G B0 M0 w0 gi g st a w) (l : List Nat) : Sim G B0 M0 w0 gi g { st with hp := akeep l id st.hp } a w :=
  { hs with hp := fun r blk hb => hs.hp r blk (aget_akeepB hb).2 }
theorem takeOneD_sound (hE : EnvOk P G B0 E) (hs : Sim G B0 M0 w0 gi g st a w) {l : List Nat} {ops : Array Oper} {o : Oper} {k : St → Option R} {r : R} (h : takeOneD E l o st k = some r) :
    ∃ d v, YieldsIf P ops (KeepS M0 g l w) o v a ∧ RepD (Mof M0 g) w g d v ∧ k (st.put o.dst d) = some r := by
  unfold takeOneD at h
  split at h
  · rename_i ho
    have hg : o.guard = none := by
      unfold takeable at ho
      split at ho
      · assumption
      · cases ho
    simp only [putK_eq] at h
    obtain ⟨d, v, h1, h2, h3⟩ := valD_sound hE (hs.only l) h
    exact ⟨d, v, .inl ⟨by simp [Region.wanted, hg], fun w' hS => h3 w' (KeepS.keepR hS)⟩, h2, h1⟩
  · cases h
theorem takeD_sound (hE : EnvOk P G B0 E) {ops : Array Oper} (hsel : Region.noSelect ops = true) {Q : Exit → Act → World → Prop} (hQ : ∀ c a w, ¬ Q (.panic c) a w) {tl : Nat → Bool} {l : List Nat} {kk : Nat → Array Bool → St → Option R} {r : R}
    (hK : ∀ n listed st a, Sim G B0 M0 w0 gi g st a w → kk n listed st = some r → wpAnyT P ops Q tl (KeepS M0 g l w) n listed a w) :
    ∀ (as : List Nat) (n : Nat) (listed : Array Bool) (st : St) (a : Act), Sim G B0 M0 w0 gi g st a w → takeD E ops tl l as n listed st kk = some r → wpAnyT P ops Q tl (KeepS M0 g l w) n listed a w
  | [], n, listed, st, a, hs, h => hK n listed st a hs h
  | i :: rest, 0, listed, st, a, hs, h => by unfold takeD at h; cases h
  | i :: rest, n + 1, listed, st, a, hs, h => by
    unfold takeD at h
    split at h
    · rename_i hb
      simp only [Bool.and_eq_true] at hb
      split at h
      · rename_i o ho
        obtain ⟨d, v, hy, hd, h⟩ := takeOneD_sound (ops := ops) hE hs h
        exact wpAnyT_take ho hsel hb.1.1 hb.1.2 hb.2 (fun c a w h => absurd h (hQ c _ w)) hy (KeepS.refl _ _ _ _) (takeD_sound hE hsel hQ hK rest n _ _ _ (hs.put o.dst hd) h)
      · cases h
    · cases h
theorem drawD_sound (hE : EnvOk P G B0 E) {id : Nat} {ops : Array Oper} (hsel : Region.noSelect ops = true) {l : List Nat} {k : St → Option R} {r : R} {Q : Exit → Act → World → Prop} (hK : Goes G B0 M0 w0 gi k r (Q .normal)) (hs : Sim G B0 M0 w0 gi g st a w)
    (h : drawD E ops l st k = some r) : (Code.region id ops true).wp P (fun e a w => e = .normal ∧ Q .normal a w) a w := by
  have hs1 := hs.later (Ext.refl w).drew
  have hQ : ∀ c a w, ¬ (Exit.panic c = Exit.normal ∧ Q .normal a w) := fun c a w h => by cases h.1
  have hL : ¬ LetsOut (fun e a w => e = .normal ∧ Q .normal a w) := fun ⟨a, w, h⟩ => by cases h.1
  have hds : ∀ (listed : Array Bool) i d, listed.getD i true = false → dstOf ops i = some d → memN (dsts ops listed) d = true := fun listed i d hl hd => by
    unfold dstOf at hd
    cases ho : ops[i]? with
    | none => rw [ho] at hd; cases hd
    | some o =>
      refine memN_iff.2 (List.mem_filterMap.2 ⟨i, List.mem_range.2 (Array.getElem?_eq_some_iff.1 ho).1, ?_⟩)
      rw [hl]
      exact hd
  refine wp_region_T (tail := tailB ops (takesOf E ops)) (S := KeepS M0 g l { w with drawn := w.drawn + 1 }) hE.mixed ?_
  refine takeD_sound hE hsel (Q := fun e a w => e = .normal ∧ Q .normal a w) hQ (fun n listed st a hs h => ?_) _ _ _ _ _ hs1 h
  exact ordT_sound hE hsel (Q := fun e a w => e = .normal ∧ Q .normal a w) (fun g st a w hs h => ⟨rfl, hK g st a w hs h⟩) hQ hL hs n listed (hds listed) _ _ _ _ (hs.apart hE l) rfl (fun _ _ => rfl) h
end
end Go.Proofs.YtbekhaioddmliaaDoor
