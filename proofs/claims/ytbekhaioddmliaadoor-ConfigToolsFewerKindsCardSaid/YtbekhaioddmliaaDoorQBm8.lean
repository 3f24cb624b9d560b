/- The machine of values is right about operations that make or change memory: boxes and maps. -/
import Derived.Test.YtbekhaioddmliaaDoorQBm7
import Derived.Great.BuildSlice
import Derived.Laws.CopyRow
import Derived.Laws.MakeOwn
namespace Go.Proofs.YtbekhaioddmliaaDoor
set_option linter.unusedVariables false
set_option linter.unusedSimpArgs false
open Go Go.RowKit
section
variable {P : Program} {G : World → Prop} {B0 : Nat} {E : Env} {M : Nat → Nat → Prop} {M0 : Nat → Nat → Prop} {w0 : World} {gi g : Gh} {st : St} {a : Act} {w : World}
theorem mkV_cells {t : Ty} {cs : List Value} (hl : cs.length = t.sz) (h1 : ∀ u ∈ cs, u.oneCell' = true) : (mkV t cs).cells = cs.toArray := by
  cases ht : t.isAgg
  · rw [sz_of_plain ht] at hl
    match cs, hl with
    | [c], _ =>
      rw [mkV_plain ht]
      have := h1 c (by simp)
      cases c <;> first | rfl | simp [Value.oneCell'] at this
  · rw [mkV_agg ht]; rfl
/-- What follows an operation. -/
def Goes {R : Type} (G : World → Prop) (B0 : Nat) (M0 : Nat → Nat → Prop) (w0 : World) (gi : Gh) (k : St → Option R) (r : R) (K : Act → World → Prop) : Prop :=
  ∀ g st a w, Sim G B0 M0 w0 gi g st a w → k st = some r → K a w
theorem wp_val {R : Type} {o : Oper} {k : St → Option R} {r : R} {K : Act → World → Prop} {Q : Exit → Act → World → Prop} (hE : EnvOk P G B0 E) (hs : Sim G B0 M0 w0 gi g st a w) (hK : Goes G B0 M0 w0 gi k r K)
    (h : valD E o.op o.type st (fun d => k (st.put o.dst d)) = some r) : o.wp P a w K Q := by
  obtain ⟨d, v, h1, h2, h3⟩ := valD_sound hE hs h
  unfold Oper.wp
  rw [h3 w (KeepR.of_ext (Ext.refl w)), Oper.upon_value]
  exact hK _ _ _ _ (hs.put _ h2) h1
theorem wp_ret {o : Oper} {K : Act → World → Prop} {Q : Exit → Act → World → Prop} {s : Sem Value} {v : Value} {w' : World} (he : execOp a.eval o = (do pure (Next.value (← s)))) (hr : s.run P w = .ok v w') (h : K (a.put o.dst v) w') : o.wp P a w K Q := by
  unfold Oper.wp
  rw [he]
  simp only [Sem.run_bind, hr, Result.andThen_ok, Sem.run_pure]
  rw [Oper.upon_value]
  exact h
theorem wp_skip_ {o : Oper} {K : Act → World → Prop} {Q : Exit → Act → World → Prop} {s : Sem Unit} {w' : World} (he : execOp a.eval o = (do s; pure Next.skip)) (hr : s.run P w = .ok () w') (h : K (a.put o.dst undef) w') : o.wp P a w K Q := by
  unfold Oper.wp
  rw [he]
  simp only [Sem.run_bind, hr, Result.andThen_ok, Sem.run_pure]
  rw [Oper.upon_skip]
  exact h
/-- Slots do not see what does not change a name's value. -/
theorem RepD0.sameV {M M' : Nat → Nat → Prop} {w' : World} {g' : Gh} (hst : Step M w M' w') (hg : ∀ r x, g r = some x → ∃ x', g' r = some x' ∧ x'.v = x.v) {d : D} {v : Value} (h : RepD0 M w g d v) : RepD0 M' w' g' d v := by
  cases d with
  | box r o => obtain ⟨x, b, h1, h2, h3⟩ := h; obtain ⟨x', h4, h5⟩ := hg r x h1; exact ⟨x', b, h4, h5.trans h2, h3⟩
  | mref r => obtain ⟨x, b, h1, h2, h3⟩ := h; obtain ⟨x', h4, h5⟩ := hg r x h1; exact ⟨x', b, h4, h5.trans h2, h3⟩
  | row r => obtain ⟨x, A, n, c, h1, h2, h3⟩ := h; obtain ⟨x', h4, h5⟩ := hg r x h1; exact ⟨x', A, n, c, h4, h2.trans h5.symm, h3⟩
  | elp r z i o => obtain ⟨x, b, n, c, h1, h2, h3⟩ := h; obtain ⟨x', h4, h5⟩ := hg r x h1; exact ⟨x', b, n, c, h4, h5.trans h2, h3⟩
  | tl r z i => obtain ⟨x, b, n, c, h1, h2, h3⟩ := h; obtain ⟨x', h4, h5⟩ := hg r x h1; exact ⟨x', b, n, c, h4, h5.trans h2, h3⟩
  | fnc f ns =>
    obtain ⟨cs, e, ha⟩ := h
    refine ⟨cs, e, ha.mono ?_⟩
    rintro r u ⟨x, b, h1, h2, h3⟩
    obtain ⟨x', h4, h5⟩ := hg r x h1
    exact ⟨x', b, h4, h5.trans h2, h3⟩
  | dead => trivial
  | skip => exact h
  | bl b => exact h
  | v t x => exact RepV.step hst h
  | nilS => exact h
  | nilP => exact h
  | at_ t x => obtain ⟨ad, cs, a, b, c⟩ := h; exact ⟨ad, cs, a, RepC.step hst _ _ _ b, c.step hst⟩
  | tup l => exact h.elim
/-- The row named q is used as data from now on. -/
theorem Sim.softD (hs : Sim G B0 M0 w0 gi g st a w) {q : Nat} {e : TypeId} {t : Ty} {xs : List t.den} (hb : aget st.hp q = some (.row e t true xs)) : ∃ g', Sim G B0 M0 w0 gi g' (st.setB q (.row e t false xs)) a w ∧ ∀ d v, RepD (Mof M0 g) w g d v → RepD (Mof M0 g') w g' d v := by
  obtain ⟨x, h1, hz, cs, h2, h3, h4, h5⟩ := hs.hp _ _ hb
  have h4' : x.lo = 0 := h4
  let z : GB := ⟨x.blk, xs.length * t.sz, x.v⟩
  have ht : Turn g q (some z) w w := by
    refine ⟨rfl, rfl, rfl, Nat.le_refl _, fun _ _ _ => rfl, fun z' b e1 e2 => ?_, fun x' b e1 e2 e3 => ?_, fun z' b e1 e2 e3 es c hc => ?_⟩
    · cases e1; exact ⟨(hs.low _ _ _ h1 e2).2.1, .inr ⟨x, h1, e2⟩⟩
    · rw [h1] at e1; cases e1; omega
    · cases e1
      have e4 : x.blk = some b := e2
      rw [h3] at e4
      rcases h2.2 with ⟨e5, _⟩ | ⟨gg, cap, cur, e5, _, hg, _⟩
      · rw [e5] at e4; cases e4
      · rw [e5] at e4
        have : gg = b := by simpa [Value.ownBlock] using e4
        subst this
        rw [hg] at hc; cases hc
  have hst := ht.step hs
  have hv : ∀ r y, g r = some y → ∃ y', (g.set q (some z)) r = some y' ∧ y'.v = y.v := fun r y hy => by
    by_cases hr : r = q
    · subst hr; rw [h1] at hy; cases hy; exact ⟨z, Gh.set_same _ _ _, rfl⟩
    · exact ⟨y, by rw [Gh.set_other _ _ hr]; exact hy, rfl⟩
  have := hs.turnB ht (φ := id) (fun d v h => RepD0.sameV hst hv h) (fun _ => rfl) (fun x' e1 e2 => by
    have := hs.pin q x' e1 e2
    rw [h1] at this; cases this
    obtain ⟨A, c, e3, _⟩ := Row.of_own' h2
    rw [e3] at e2; cases e2) (blk := .row e t false xs) ⟨hz, cs, h2, h3, rfl, fun i hi => RepC.step hst _ _ _ (h5 i hi)⟩
  rw [lift_id] at this
  exact ⟨_, this, fun d v h => by have := RepD.lift (f := id) (fun d v h => RepD0.sameV hst hv h) (fun _ => rfl) h; rwa [lift1_id] at this⟩
theorem Sim.soft (hs : Sim G B0 M0 w0 gi g st a w) {q : Nat} {e : TypeId} {t : Ty} {xs : List t.den} (hb : aget st.hp q = some (.row e t true xs)) : ∃ g', Sim G B0 M0 w0 gi g' (st.setB q (.row e t false xs)) a w := let ⟨g', h, _⟩ := hs.softD hb; ⟨g', h⟩
theorem softK_sound {R : Type} (hs : Sim G B0 M0 w0 gi g st a w) {d : D} {k : St → Option R} {r : R} (h : st.softK d k = some r) : ∃ g' st', Sim G B0 M0 w0 gi g' st' a w ∧ k st' = some r := by
  unfold St.softK at h
  split at h
  · split at h
    · rename_i hb
      rw [setBK_eq] at h
      obtain ⟨g', h1⟩ := hs.soft hb
      exact ⟨g', _, h1, h⟩
    · exact ⟨g, st, hs, h⟩
  · exact ⟨g, st, hs, h⟩
theorem softsK_sound {R : Type} : ∀ (l : List Operand) {g : Gh} {st : St}, Sim G B0 M0 w0 gi g st a w → ∀ {k : St → Option R} {r : R}, St.softsK l st k = some r → ∃ g' st', Sim G B0 M0 w0 gi g' st' a w ∧ k st' = some r
  | [], g, st, hs, k, r, h => ⟨g, st, hs, h⟩
  | x :: l, g, st, hs, k, r, h => by
    change st.softK (st.ev x) (fun st => St.softsK l st k) = some r at h
    obtain ⟨g', st', h1, h2⟩ := softK_sound hs h
    exact softsK_sound l h1 h2
theorem softDsK_sound {R : Type} : ∀ (l : List D) {g : Gh} {st : St}, Sim G B0 M0 w0 gi g st a w → ∀ {k : St → Option R} {r : R}, St.softDsK l st k = some r → ∃ g' st', Sim G B0 M0 w0 gi g' st' a w ∧ k st' = some r
  | [], g, st, hs, k, r, h => ⟨g, st, hs, h⟩
  | x :: l, g, st, hs, k, r, h => by
    change st.softK x (fun st => St.softDsK l st k) = some r at h
    obtain ⟨g', st', h1, h2⟩ := softK_sound hs h
    exact softDsK_sound l h1 h2
theorem ev_setB (st : St) (r : Nat) (b : Blk) (x : Operand) : (st.setB r b).ev x = st.ev x := by cases x <;> rfl
theorem softK_ev {R : Type} {d : D} {k : St → Option R} {r : R} (h : st.softK d k = some r) : ∃ st', k st' = some r ∧ (∀ x, st'.ev x = st.ev x) ∧ (st' = st ∨ ∃ q e t xs, aget st.hp q = some (.row e t true xs) ∧ st' = st.setB q (.row e t false xs)) := by
  unfold St.softK at h
  split at h
  · split at h
    · rename_i hb
      rw [setBK_eq] at h
      exact ⟨_, h, fun x => ev_setB _ _ _ x, .inr ⟨_, _, _, _, hb, rfl⟩⟩
    · exact ⟨_, h, fun _ => rfl, .inl rfl⟩
  · exact ⟨_, h, fun _ => rfl, .inl rfl⟩
/-- A new box. -/
theorem wp_box {R : Type} {o : Oper} {k : St → Option R} {r : R} {K : Act → World → Prop} {Q : Exit → Act → World → Prop} (hs : Sim G B0 M0 w0 gi g st a w) (hK : Goes G B0 M0 w0 gi k r K) {n : Nat} (hd : o.dst = some n)
    {s : Sem Value} (he : execOp a.eval o = (do pure (Next.value (← s)))) {vs : Array Value} {el : TypeId} (hrun : s.run P w = .ok (boxV w.heap.size) (w.alloc (.cells vs el)))
    {ds : List D} (hds : ∀ (g' : Gh), Step (Mof M0 g) w (Mof M0 g') (w.alloc (.cells vs el)) → (∀ q, q ≠ nm n → g' q = g q) → All2 (RepD0 (Mof M0 g') (w.alloc (.cells vs el)) g') ds vs.toList) (h : k ((st.new (nm n) (.cells ds)).put (some n) (.box (nm n) 0)) = some r) : o.wp P a w K Q := by
  refine wp_ret he hrun ?_
  rw [hd]
  have hE : Ext w (w.alloc (.cells vs el)) := (Ext.refl w).alloc _
  have hh : (w.alloc (.cells vs el)).heap[w.heap.size]? = some (.cells vs el) := heap_alloc_new _ _
  refine hK _ _ _ _ (Sim.put (hs.newB (r := nm n) (z := ⟨some w.heap.size, 0, boxV w.heap.size⟩) (Nat.le_add_right _ _) hE (blk := .cells ds) (fun b hb => ?_) (fun hst => ⟨_, vs, el, rfl, hh, hds _ hst fun q hq => Gh.set_other _ _ hq⟩)) (some n) ?_) h
  · have : w.heap.size = b := by simpa using hb
    subst this
    exact ⟨Nat.le_refl _, by simp, fun es c hc => absurd hc (Nat.lt_irrefl 0)⟩
  · exact ⟨_, _, Gh.set_same _ _ _, rfl, rfl⟩
theorem alloc_wp {R : Type} (hE : EnvOk P G B0 E) {o : Oper} {k : St → Option R} {r : R} {K : Act → World → Prop} {Q : Exit → Act → World → Prop} (hs : Sim G B0 M0 w0 gi g st a w) (hK : Goes G B0 M0 w0 gi k r K)
    {T : TypeId} (ho : o.op = .alloc T) (h : opD E o st k = some r) : o.wp P a w K Q := by
  simp only [opD, ho, putK_eq, newK_eq] at h
  split at h
  · rename_i t n hT hd
    split at h
    · rename_i cs hz
      have hok := hE.ty _ _ hT
      refine wp_box hs hK hd (s := Instr.alloc T true (.tuple #[])) (by simp only [execOp, ho]) (vs := (mkV t (zeroC t)).cells) (el := T) ?_ (ds := cs) ?_ h
      · simp [Instr.alloc, zeroValue_ok hok, newVar, newRow, boxV]
      · intro g' _ _
        rw [mkV_cells (zeroC_len t) (zeroC_one t)]
        exact flatZero_sound t cs hz
    · cases h
  · cases h
theorem repD_of0 {M : Nat → Nat → Prop} {d : D} {v : Value} (h : RepD M w g d v) (hd : ∀ l, d ≠ .tup l) : RepD0 M w g d v := (RepD.of0 hd).1 h
theorem storeOk_tup {t : Ty} {d : D} (h : storeOk t d = true) : ∀ l, d ≠ .tup l := by rintro l rfl; cases h
theorem storeOk_one {M : Nat → Nat → Prop} {t : Ty} (ht : t.isAgg = false) {d : D} {v : Value} (h : RepD M w g d v) (hd : storeOk t d = true) : v.cells.toList = [v] ∧ v.oneCell' = true := by
  have key : v.oneCell' = true → v.cells.toList = [v] ∧ v.oneCell' = true := fun h1 => ⟨by cases v <;> first | rfl | simp [Value.oneCell'] at h1, h1⟩
  refine key ?_
  cases d with
  | v t' x =>
    simp only [storeOk, decide_eq_true_eq] at hd
    subst hd
    exact RepC.one _ _ _ (RepD.v_plain ht h) v (by simp)
  | bl b => have : v = .bool b := h; subst this; rfl
  | nilS => have : v = .slice none 0 0 := h; subst this; rfl
  | nilP => have : v = .pointer none := h; subst this; rfl
  | row r => obtain ⟨x, A, n, c, _, _, rfl⟩ := h; rfl
  | mref r => obtain ⟨x, b, _, _, rfl⟩ := h; rfl
  | at_ t' x => obtain ⟨ad, cs, rfl, _⟩ := h; rfl
  | box r o => obtain ⟨x, b, _, _, rfl⟩ := h; rfl
  | _ => cases hd
theorem box_wp {R : Type} (hE : EnvOk P G B0 E) {o : Oper} {k : St → Option R} {r : R} {K : Act → World → Prop} {Q : Exit → Act → World → Prop} (hs : Sim G B0 M0 w0 gi g st a w) (hK : Goes G B0 M0 w0 gi k r K)
    {T : TypeId} {x : Operand} (ho : o.op = .box T x) (h : opD E o st k = some r) : o.wp P a w K Q := by
  simp only [opD, ho, putK_eq, newK_eq] at h
  split at h
  · rename_i t n hT hd
    cases hag : t.isAgg
    · rw [hag] at h
      dsimp only at h
      split at h
      · rename_i hso
        have hx := hs.ev x
        obtain ⟨hc1, hc2⟩ := storeOk_one hag hx hso
        refine wp_box hs hK hd (s := Instr.box T (a.eval x)) (by simp only [execOp, ho]) (vs := (a.eval x).cells) (el := T) (by simp [Instr.box, newVar, newRow, boxV]) (ds := [forget [nm n] (nob (st.ev x))]) (fun g' hst hq => ?_) h
        rw [hc1]
        have h0 : RepD0 (Mof M0 g) w g (nob (st.ev x)) (a.eval x) := nob0_sound (repD_of0 hx (storeOk_tup hso))
        exact ⟨RepD0.forget hst (fun r hr => hq r (by simpa using hr)) h0, trivial⟩
      · cases h
    · rw [hag] at h
      dsimp only at h
      obtain ⟨st', h, hev, hcase⟩ := softK_ev h
      have hs' : ∃ g', Sim G B0 M0 w0 gi g' st' a w := by
        rcases hcase with rfl | ⟨q, e, t, xs, hb, rfl⟩
        · exact ⟨g, hs⟩
        · exact hs.soft hb
      obtain ⟨g', hs'⟩ := hs'
      split at h
      · rename_i y hy
        have hr := (hs'.dat (hs'.ev x) hy).cells
        refine wp_box hs' hK hd (s := Instr.box T (a.eval x)) (by simp only [execOp, ho]) (vs := (a.eval x).cells) (el := T) (by simp [Instr.box, newVar, newRow, boxV]) (ds := flat t y) (fun g' hst hq => ?_) h
        exact flat_sound t y _ (RepC.step hst _ _ _ hr)
      · cases h
  · cases h
theorem makeMap_wp {R : Type} (hE : EnvOk P G B0 E) {o : Oper} {k : St → Option R} {r : R} {K : Act → World → Prop} {Q : Exit → Act → World → Prop} (hs : Sim G B0 M0 w0 gi g st a w) (hK : Goes G B0 M0 w0 gi k r K)
    {T : TypeId} (ho : o.op = .makeMap T none) (h : opD E o st k = some r) : o.wp P a w K Q := by
  simp only [opD, ho, putK_eq, newK_eq] at h
  split at h
  · rename_i e n hT hd
    refine wp_ret (s := Instr.makeMap T none) (v := .map (some w.heap.size)) (w' := w.alloc (.map #[] 0)) (by simp only [execOp, ho, Option.map_none]) (by simp [Instr.makeMap]) ?_
    rw [hd]
    have hE : Ext w (w.alloc (.map #[] 0)) := (Ext.refl w).alloc _
    refine hK _ _ _ _ (Sim.put (hs.newB (r := nm n) (z := ⟨some w.heap.size, 0, .map (some w.heap.size)⟩) (Nat.le_add_right _ _) hE (blk := .map e []) (fun b hb => ?_) (fun hst => ⟨_, #[], 0, rfl, heap_alloc_new _ _, trivial⟩)) (some n) ?_) h
    · have : w.heap.size = b := by simpa using hb
      subst this
      exact ⟨Nat.le_refl _, by simp, fun es c hc => absurd hc (Nat.lt_irrefl 0)⟩
    · exact ⟨_, _, Gh.set_same _ _ _, rfl, rfl⟩
  · cases h
/-- A box's or a map's block has another content. -/
theorem Sim.setObj (hs : Sim G B0 M0 w0 gi g st a w) {r b : Nat} {v : Value} (hx : g r = some ⟨some b, 0, v⟩) {w' : World} (hos : w'.os = w.os) (htp : w'.tape = w.tape) (hout : w'.output = w.output) (hsize : w'.heap.size = w.heap.size)
    (hother : ∀ j, j ≠ b → w'.heap[j]? = w.heap[j]?) {blk : Blk} (hblk : Step (Mof M0 g) w (Mof M0 g) w' → RepB (Mof M0 g) w' g ⟨some b, 0, v⟩ blk) : Sim G B0 M0 w0 gi g (st.setB r blk) a w' :=
  hs.setB hx hos htp hout (by omega) (fun j _ hj => hother j fun e => hj (by rw [e])) (fun _ _ h => absurd h (by simp)) hblk
theorem storeB_wp {R : Type} (hE : EnvOk P G B0 E) {o : Oper} {k : St → Option R} {r : R} {K : Act → World → Prop} {Q : Exit → Act → World → Prop} (hs : Sim G B0 M0 w0 gi g st a w) (hK : Goes G B0 M0 w0 gi k r K)
    {T : TypeId} {x y : Operand} (ho : o.op = .store T x y) (h : opD E o st k = some r) (help : ∀ r' z i off, st.ev x = .elp r' z i off → o.wp P a w K Q) : o.wp P a w K Q := by
  have hx := hs.ev x
  simp only [opD, ho, setBK_eq] at h
  split at h
  · rename_i t r' off hdst hT hd
    rw [hd] at hx
    obtain ⟨gx, b, hg, hgv, ex⟩ := hx
    split at h
    · rename_i cs hcs
      obtain ⟨gx', hg', b', vs, el, e1, h1, h2⟩ := hs.hp _ _ hcs
      rw [hg] at hg'
      cases hg'
      subst e1
      have e3 : b' = b := by simpa [boxV] using hgv
      subst e3
      have hok := hE.ty _ _ hT
      have hlen : cs.length = vs.size := by simpa using h2.len
      -- the store, of cells c behind off
      have key : ∀ (c : List Value) (ds' : List D), (a.eval y).cells.toList = c → c.length = t.sz → (∀ u ∈ c, u.oneCell' = true) → off + t.sz ≤ vs.size →
          (∀ (w' : World), Step (Mof M0 g) w (Mof M0 g) w' → All2 (RepD0 (Mof M0 g) w' g) ds' (vs.toList.take off ++ c ++ vs.toList.drop (off + t.sz))) →
          k (st.setB r' (.cells ds')) = some r → o.wp P a w K Q := by
        intro c ds' hc hcl h1c hle hall hk
        have hst0 := run_storeCells_at P b' off el c 0 vs w h1 (by rw [hcl]; omega) h1c
        rw [Nat.add_zero, hcl] at hst0
        have hsz : (a.eval y).cells.size = t.sz := by rw [← Array.length_toList, hc, hcl]
        have hrun : (Instr.storeAt T (a.eval x) (a.eval y)).run P w = .ok () (w.setRow b' (vs.toList.take off ++ c ++ vs.toList.drop (off + t.sz)).toArray) := by
          simp [Instr.storeAt, ex, Instr.sureAddr, storeVar, run_sizeOf_ok hok, hsz, hc, hst0]
        refine wp_skip_ (s := Instr.storeAt T (a.eval x) (a.eval y)) (by simp only [execOp, ho]) hrun ?_
        rw [hdst]
        refine hK _ _ _ _ (hs.setObj (w' := w.setRow b' (vs.toList.take off ++ c ++ vs.toList.drop (off + t.sz)).toArray) hg rfl rfl rfl (by simp [World.setRow]) (fun j hj => setRow_other w b' j _ hj) (blk := .cells ds') fun hst => ⟨b', _, el, rfl, setRow_heap w b' vs _ el _ h1, ?_⟩) hk
        have := hall _ hst
        simpa using this
      cases hagg : t.isAgg
      · rw [hagg] at h
        dsimp only at h
        have hsz1 := sz_of_plain hagg
        split at h
        · rename_i hso
          split at h
          · rename_i hlt
            obtain ⟨hc1, hc2⟩ := storeOk_one hagg (hs.ev y) hso
            refine key _ _ hc1 (by rw [hsz1]; rfl) (List.forall_mem_singleton.2 hc2) (by omega) (fun w' hst => ?_) h
            have h2' := h2.mono (R' := RepD0 (Mof M0 g) w' g) fun _ _ => RepD0.step hst
            rw [hsz1]
            have e1 : vs.toList.take off ++ [a.eval y] ++ vs.toList.drop (off + 1) = vs.toList.set off (a.eval y) := by
              rw [List.set_eq_take_append_cons_drop, if_pos (by rw [Array.length_toList]; omega)]
              simp
            rw [e1]
            exact h2'.set off (RepD0.step hst (nob0_sound (repD_of0 (hs.ev y) (storeOk_tup hso))))
          · cases h
        · cases h
      · rw [hagg] at h
        dsimp only at h
        split at h
        · rename_i z hz
          have hr := (hs.dat (hs.ev y) hz).cells
          split at h
          · rename_i hle
            refine key _ _ rfl (RepC.len _ _ _ hr) (RepC.one _ _ _ hr) (by omega) (fun w' hst => ?_) h
            have h2' := h2.mono (R' := RepD0 (Mof M0 g) w' g) fun _ _ => RepD0.step hst
            exact ((h2'.take off).append (flat_sound t z _ (RepC.step hst _ _ _ hr))).append (h2'.drop _)
          · cases h
        · cases h
    · cases h
  · rename_i t r' z i off hdst hT hd
    exact help _ _ _ _ hd
  · cases h
theorem mapUpdate_wp {R : Type} (hE : EnvOk P G B0 E) {o : Oper} {k : St → Option R} {r : R} {K : Act → World → Prop} {Q : Exit → Act → World → Prop} (hs : Sim G B0 M0 w0 gi g st a w) (hK : Goes G B0 M0 w0 gi k r K)
    {T : TypeId} {m key x : Operand} (ho : o.op = .mapUpdate T m key x) (h : opD E o st k = some r) : o.wp P a w K Q := by
  simp only [opD, ho, setBK_eq] at h
  split at h
  · rename_i e0 r' s hdst hT hd hdk
    obtain ⟨st', h, hev, hcase⟩ := softK_ev h
    have hs' : ∃ g', Sim G B0 M0 w0 gi g' st' a w := by
      rcases hcase with rfl | ⟨q, e, t, xs, hb, rfl⟩
      · exact ⟨g, hs⟩
      · exact hs.soft hb
    obtain ⟨g, hs⟩ := hs'
    have hm := hs.ev m
    have hk := hs.ev key
    rw [hev, hd] at hm
    rw [hev, hdk] at hk
    obtain ⟨gx, b, hg, hgv, em⟩ := hm
    have ek := RepD.str hk
    split at h
    · rename_i e mm hcs
      split at h
      · rename_i e1
        subst e1
        split at h
        · rename_i y hy
          obtain ⟨gx', hg', b', es, c, e2, h1, h2⟩ := hs.hp _ _ hcs
          rw [hg] at hg'
          cases hg'
          subst e2
          have e3 : b' = b := by simpa using hgv
          subst e3
          have hr := hs.dat (hs.ev x) hy
          obtain ⟨kt, el, hu, huk, hel⟩ := hE.mp _ _ hT
          have hgo : (getObj b').run P w = .ok (.map es c) w := by simp [getObj, Sem.run, h1]
          have hck := run_checkKey (P := P) (w := w) (s := ⟨s.toArray⟩) false huk 9999
          have hbl := lt_of_map h1
          have key2 : ∀ (es' : Array MapEntry) (c' : Nat), (Instr.mapUpdate T (.map (some b')) (.string ⟨s.toArray⟩) (a.eval x)).run P w = .ok () { w with heap := w.heap.setIfInBounds b' (.map es' c') } →
              (∀ (w' : World), Step (Mof M0 g) w (Mof M0 g) w' → All2 (fun x y => y.key = .string ⟨x.1.toArray⟩ ∧ RepV (Mof M0 g) w' e0 x.2 y.val) (mset mm s y) es'.toList) → o.wp P a w K Q := by
            intro es' c' hrun hall
            refine wp_skip_ (s := Instr.mapUpdate T (a.eval m) (a.eval key) (a.eval x)) (w' := { w with heap := w.heap.setIfInBounds b' (.map es' c') }) (by simp only [execOp, ho]) (by rw [em, ek]; exact hrun) ?_
            rw [hdst]
            have hother : ∀ j, j ≠ b' → (w.heap.setIfInBounds b' (.map es' c'))[j]? = w.heap[j]? := fun j hj => by rw [Array.getElem?_setIfInBounds, if_neg (Ne.symm hj)]
            refine hK _ _ _ _ (hs.setObj (w' := { w with heap := w.heap.setIfInBounds b' (.map es' c') }) hg rfl rfl rfl (by simp) hother (blk := .map e0 (mset mm s y)) fun hst => ⟨b', es', c', rfl, ?_, hall _ hst⟩) h
            show (w.heap.setIfInBounds b' (.map es' c'))[b']? = _
            rw [Array.getElem?_setIfInBounds, if_pos rfl, if_pos hbl]
          rcases findNow_get s mm es.toList 0 h2 with ⟨a1, a2⟩ | ⟨j, z, en, a1, a2, a3, a4, a5, a6⟩
          · refine key2 (es.push { key := .string ⟨s.toArray⟩, val := a.eval x, born := c }) (c + 1) ?_ ?_
            · simp [Instr.mapUpdate, run_underlying hu, hgo, hck, Instr.findKey, run_underlying huk, a2, setObj, Sem.run, h1]
            · intro w' hst
              rw [mset_new _ _ _ a1, Array.toList_push]
              exact (h2.mono fun _ _ ⟨h6, h7⟩ => ⟨h6, h7.step hst⟩).append ⟨⟨rfl, hr.step hst⟩, trivial⟩
          · rw [Array.getElem?_toList] at a2
            refine key2 (es.modify j fun q => { q with key := .string ⟨s.toArray⟩, val := a.eval x }) c ?_ ?_
            · have hsame : Instr.sameBits 10000 (.string ⟨s.toArray⟩) (.string ⟨s.toArray⟩) = true := by
                show ((⟨s.toArray⟩ : ByteArray) == ⟨s.toArray⟩) = true
                rw [bytes_beq]; simp
              have hstay : (Instr.keyThatStays (.string ⟨s.toArray⟩) (.string ⟨s.toArray⟩)).run P w = .ok (.string ⟨s.toArray⟩) w := by
                simp only [Instr.keyThatStays, hsame, if_true, Sem.run_pure]
              simp [Instr.mapUpdate, run_underlying hu, hgo, hck, Instr.findKey, run_underlying huk, a4, setObj, Sem.run, h1, a2, a3, hstay]
            · intro w' hst
              have h2' := h2.mono (R' := fun x y => y.key = .string ⟨x.1.toArray⟩ ∧ RepV (Mof M0 g) w' e0 x.2 y.val) fun _ _ ⟨h6, h7⟩ => ⟨h6, h7.step hst⟩
              rw [a6 y]
              have em2 : (es.modify j fun q => { q with key := .string ⟨s.toArray⟩, val := a.eval x }).toList = es.toList.set j { en with key := .string ⟨s.toArray⟩, val := a.eval x } := by
                apply List.ext_getElem?
                intro i
                rw [Array.getElem?_toList, Array.getElem?_modify, List.getElem?_set]
                by_cases hij : j = i
                · subst hij
                  rw [if_pos rfl, if_pos rfl, a2, if_pos (by rw [Array.length_toList]; exact (Array.getElem?_eq_some_iff.1 a2).1)]
                  rfl
                · rw [if_neg hij, if_neg hij, Array.getElem?_toList]
              rw [em2]
              exact h2'.set j ⟨rfl, hr.step hst⟩
        · cases h
      · cases h
    · cases h
  · cases h
end
end Go.Proofs.YtbekhaioddmliaaDoor
