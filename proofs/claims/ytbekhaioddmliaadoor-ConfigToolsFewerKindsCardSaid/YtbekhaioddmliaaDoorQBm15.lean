/- A function whose code the machine of values runs does what the machine computes. -/
import Derived.Test.YtbekhaioddmliaaDoorQBmE
namespace Go.Proofs.YtbekhaioddmliaaDoor
set_option linter.unusedVariables false
set_option linter.unusedSimpArgs false
open Go Go.RowKit
section
variable {P : Program} {G : World → Prop} {B0 : Nat} {E : Env} {M : Nat → Nat → Prop} {M0 : Nat → Nat → Prop} {w0 : World} {gi g : Gh} {st : St} {a : Act} {w : World}
/-- The values that are handed back. -/
def resVals (P : Program) (w : World) (tmps : Array Value) : List ResultVar → List Value → Prop
  | [], vs => vs = []
  | .tmp t :: l, vs => ∃ vs', vs = tmps.getD t undef :: vs' ∧ resVals P w tmps l vs'
  | .cell x T :: l, vs => ∃ ad v vs', tmps.getD x undef = .pointer (some ad) ∧ (loadVar T ad).run P w = .ok v w ∧ vs = v :: vs' ∧ resVals P w tmps l vs'
theorem run_mapM_list {α β : Type} (f : α → Sem β) (w : World) (R : List α → List β → Prop) (h0 : R [] []) (hc : ∀ a l bs, R (a :: l) bs → ∃ b bs', bs = b :: bs' ∧ (f a).run P w = .ok b w ∧ R l bs') (hn : ∀ bs, R [] bs → bs = []) :
    ∀ (l : List α) (bs : List β), R l bs → (l.mapM f).run P w = .ok bs w
  | [], bs, h => by rw [hn bs h]; rfl
  | a :: l, bs, h => by
    obtain ⟨b, bs', rfl, h1, h2⟩ := hc _ _ _ h
    simp [List.mapM_cons, h1, run_mapM_list f w R h0 hc hn l bs' h2]
def resF (tmps : Array Value) : ResultVar → Sem Value
  | .tmp t => pure (tmps.getD t undef)
  | .cell a t => do loadVar t (← asAddr (tmps.getD a undef))
theorem results_eq (fn : Func) (tmps : Array Value) : results fn tmps = (fn.results.mapM (resF tmps) >>= fun vs => pure (if h : vs.size = 1 then vs[0] else .tuple vs)) := by
  unfold results
  congr 1
theorem run_results {fn : Func} {tmps : Array Value} {vs : List Value} (h : resVals P w tmps fn.results.toList vs) : (results fn tmps).run P w = .ok (if h : vs.length = 1 then vs[0] else .tuple vs.toArray) w := by
  have hm : (fn.results.toList.mapM (resF tmps)).run P w = .ok vs w := by
    refine run_mapM_list _ w (resVals P w tmps) rfl ?_ (fun bs h => h) _ _ h
    intro a l bs h
    cases a with
    | tmp t =>
      obtain ⟨vs', rfl, h2⟩ := h
      exact ⟨_, vs', rfl, rfl, h2⟩
    | cell x T =>
      obtain ⟨ad, v, vs', h1, h2, rfl, h3⟩ := h
      exact ⟨v, vs', rfl, by simp [resF, h1, asAddr, h2], h3⟩
  rw [results_eq, Array.mapM_eq_mapM_toList]
  have : ∀ (s : Sem (List Value)), s.run P w = .ok vs w → ((List.toArray <$> s : Sem (Array Value))).run P w = .ok vs.toArray w := fun s hs => by
    simp [hs]
  simp only [Sem.run_bind, this _ hm, Result.andThen_ok, Sem.run_pure]
  simp
theorem resDs_sound {R : Type} (hE : EnvOk P G B0 E) (hs : Sim G B0 M0 w0 gi g st a w) : ∀ (l : List ResultVar) (ds0 : List D) {k : List D → Option R} {r : R}, resDs E st l ds0 k = some r →
    ∃ ds vs, k (ds0 ++ ds) = some r ∧ resVals P w a.tmps l vs ∧ All2 (RepD (Mof M0 g) w g) ds vs
  | [], ds0, k, r, h => ⟨[], [], by rw [List.append_nil]; exact h, rfl, trivial⟩
  | .tmp t :: l, ds0, k, r, h => by
    simp only [resDs, withD_eq] at h
    obtain ⟨ds, vs, h1, h2, h3⟩ := resDs_sound hE hs l _ h
    exact ⟨st.ev (.tmp t) :: ds, a.tmps.getD t undef :: vs, by rw [List.append_assoc] at h1; exact h1, ⟨vs, rfl, h2⟩, hs.ev (.tmp t), h3⟩
  | .cell x T :: l, ds0, k, r, h => by
    simp only [resDs, withD_eq] at h
    obtain ⟨d, ad, v, h0, e, hr, hrun⟩ := loadD_sound hE hs (hs.ev (.tmp x)) h
    obtain ⟨ds, vs, h1, h2, h3⟩ := resDs_sound hE hs l _ h0
    exact ⟨d :: ds, v :: vs, by rw [List.append_assoc] at h1; exact h1, ⟨ad, v, vs, e, hrun w (KeepR.of_ext (Ext.refl w)), rfl, h2⟩, hr, h3⟩
theorem upto_get : ∀ {n j : Nat}, j < n → (upto n)[j]? = some j
  | 0, _, h => by omega
  | n + 1, j, h => by
    have hl : ∀ n, (upto n).length = n := fun n => by induction n with
      | zero => rfl
      | succ n ih => simp [upto, ih]
    simp only [upto]
    by_cases hj : j < n
    · rw [List.getElem?_append_left (by rw [hl]; exact hj)]; exact upto_get hj
    · have : j = n := by omega
      subst this
      rw [List.getElem?_append_right (by rw [hl]; exact Nat.le_refl _), hl]; simp
theorem upto_nodup : ∀ n, (upto n).Nodup
  | 0 => by simp [upto]
  | n + 1 => by
    have hm : ∀ n x, x ∈ upto n → x < n := fun n => by induction n with
      | zero => intro x h; simp [upto] at h
      | succ n ih =>
        intro x h
        simp only [upto, List.mem_append, List.mem_singleton] at h
        rcases h with h | h
        · have := ih x h; omega
        · omega
    simp only [upto]
    rw [List.nodup_append]
    refine ⟨upto_nodup n, by simp, fun x hx y hy e => ?_⟩
    have := hm n x hx
    have h2 : y = n := by simpa using hy
    omega
/-- What is handed back, at the end. -/
theorem resD_sound (hE : EnvOk P G B0 E) (hs : Sim G B0 (fun b o => M b o ∧ ¬ Xof gi b) w0 gi g st a w) {fn : Func} {F : AF} {pack : SV F.rs → BV F.cs → F.R} (hpack : ∀ x y, F.out (pack x y) = (x, y)) (hdom : ∀ r x, gi r = some x → r < F.bs.length)
    (hM : ∀ b o, Mof (fun b o => M b o ∧ ¬ Xof gi b) gi b o ↔ M b o) {z : F.R} (h : resD E fn F pack st = some z) :
    ∃ vs' g', (results fn a.tmps).run P w = .ok (rets vs') w ∧ ExtX (Xof gi) w0 w ∧ Step M w0 (Mafter M gi g') w ∧ Frag B0 (Mafter M gi g') w g' F.rs F.cs (F.out z).1 (F.out z).2 vs' ∧
      (∀ r x, gi r = some x → isBM x.v = true → g' r = some x) ∧ ∀ b, Xof g' b → Xof gi b ∨ w0.heap.size ≤ b := by
  unfold resD at h
  obtain ⟨ds, vs, h1, hvals, hds⟩ := resDs_sound hE hs _ _ h
  rw [List.nil_append] at h1
  obtain ⟨x, ρ1, β1, h2, hp1, hn1, _, hx⟩ := mtsK_sound hs F.rs ds vs hds (upto_nodup _) h1
  obtain ⟨y, ρ, β, h3, hp2, hn2, hβ2, hy⟩ := mbsK_sound hs F.cs 0 hn1 h2
  split at h3
  · rename_i hβ hlen
    cases h3
    have hρl := Nat.eq_of_beq_eq_true hlen
    rw [hpack]
    have hβρ : ∀ r, r ∈ β → r ∉ ρ := fun r hr hr2 => List.any_eq_false.1 hβ r hr (memN_iff.2 hr2)
    have hg : ∀ {r x}, gsub g ρ r = some x → ∃ r', ρ[r]? = some r' ∧ g r' = some x := by
      intro r x h
      unfold gsub at h
      cases h1 : ρ[r]? with
      | none => rw [h1] at h; cases h
      | some r' => rw [h1] at h; exact ⟨r', rfl, h⟩
    have hin : ∀ r, r < F.bs.length → gsub g ρ r = g r := fun r hr => gsub_pre (hp1.trans hp2) (upto_get hr)
    have hsub : ∀ b o, Mafter M gi (gsub g ρ) b o → Mlend (fun b o => M b o ∧ ¬ Xof gi b) g β b o := by
      rintro b o (h | ⟨j, x, h4, h5, h6⟩)
      · exact ⟨.inl h, fun ⟨r, _, x, h4, h5⟩ => hs.m0x h h4 h5⟩
      · obtain ⟨r', e1, e2⟩ := hg h4
        refine ⟨.inr ⟨r', x, e2, h5, h6⟩, fun ⟨r, hr, x', h7, h8⟩ => ?_⟩
        have := hs.inj _ _ _ _ _ e2 h7 h5 h8
        subst this
        exact hβρ _ hr (List.mem_of_getElem? e1)
    have hst2 : Step (Mlend (fun b o => M b o ∧ ¬ Xof gi b) g β) w (Mafter M gi (gsub g ρ)) w := ⟨fun _ _ h hm => ⟨h, fun h' => hm (hsub _ _ h')⟩, fun _ _ _ h hm => ⟨h, fun h' => hm (hsub _ _ h')⟩⟩
    refine ⟨vs, gsub g ρ, ?_, hs.ext, ?_, ⟨?_, ?_, ?_, ?_, ?_, ?_, ?_, ?_⟩, ?_, ?_⟩
    · have := run_results hvals
      rw [this]; rfl
    · have h4 := hs.stp
      have e : Mof (fun b o => M b o ∧ ¬ Xof gi b) gi = M := funext fun b => funext fun o => propext (hM b o)
      rw [e] at h4
      exact h4.trans ((Mlend.step β).trans hst2)
    · exact (hx ρ β hp2 hβ2).mono fun _ _ h => RepD0.step hst2 h
    · intro r blk hblk
      obtain ⟨gx, h4, h5⟩ := hy ρ β (List.prefix_refl _) (fun _ h => h) r blk hblk
      rw [Nat.zero_add] at h4
      exact ⟨gx, h4, RepB.step hst2 (fun _ _ => rfl) h5⟩
    · intro r gx h
      obtain ⟨r', e1, _⟩ := hg h
      rw [← hρl]; exact (List.getElem?_eq_some_iff.1 e1).1
    · intro r r' x x' b h1 h2 h3 h4
      obtain ⟨q, e1, e2⟩ := hg h1
      obtain ⟨q', e3, e4⟩ := hg h2
      have := hs.inj _ _ _ _ _ e2 e4 h3 h4
      subst this
      exact (List.getElem?_inj (List.getElem?_eq_some_iff.1 e1).1 hn2).1 (e1.trans e3.symm)
    · intro r x b h1 h2
      obtain ⟨q, e1, e2⟩ := hg h1
      have := hs.low _ _ _ e2 h2
      exact ⟨this.1, this.2.1⟩
    · intro r x b o h1 h2
      obtain ⟨q, e1, e2⟩ := hg h1
      exact ⟨fun h => (hs.chg e2 h2).1 (hsub _ _ h).1, fun h => .inr ⟨r, x, h1, h2, h⟩⟩
    · exact fun b o h => hs.mlt (hsub _ _ h).1
    · intro r x b h1 h2
      obtain ⟨q, e1, e2⟩ := hg h1
      exact hs.row _ _ _ e2 h2
    · intro r x h1 h2
      rw [hin r (hdom r x h1)]; exact hs.pin r x h1 h2
    · rintro b ⟨r, x, h1, h2⟩
      obtain ⟨q, e1, e2⟩ := hg h1
      exact (hs.low _ _ _ e2 h2).2.2
  · cases h3
theorem prms_get {M : Nat → Nat → Prop} : ∀ (l : List Sl) (i : Nat) (x : SV l) (vs : List Value), All2 (RepD0 M w g) (lays id l x) vs → ∀ t d, aget (start.prms l i x) t = some d → i ≤ t ∧ ∃ v, vs[t - i]? = some v ∧ RepD M w g d v
  | [], i, x, vs, _, t, d, h => by cases h
  | s :: l, i, x, [], ha, t, d, h => ha.elim
  | s :: l, i, x, v :: vs, ha, t, d, h => by
    have rest : ∀ {x : SV l}, All2 (RepD0 M w g) (lays id l x) vs → aget (start.prms l (i + 1) x) t = some d → i ≤ t ∧ ∃ v', (v :: vs)[t - i]? = some v' ∧ RepD M w g d v' := by
      intro x ha h
      obtain ⟨h1, v', h2, h3⟩ := prms_get l (i + 1) x vs ha t d h
      refine ⟨by omega, v', ?_, h3⟩
      rw [show t - i = (t - (i + 1)) + 1 by omega]; simpa using h2
    have cons : ∀ {d0 : D} {x : SV l}, RepD0 M w g d0 v → All2 (RepD0 M w g) (lays id l x) vs → aget ((i, d0) :: start.prms l (i + 1) x) t = some d → i ≤ t ∧ ∃ v', (v :: vs)[t - i]? = some v' ∧ RepD M w g d v' := by
      intro d0 x h0 ha hh
      rw [aget_cons] at hh
      split at hh
      · rename_i e
        have e2 := Nat.eq_of_beq_eq_true e
        have e3 : d0 = d := by simpa using hh
        rw [← e3]
        have e4 : i = t := e2
        exact ⟨Nat.le_of_eq e4, v, by rw [← e4]; simp, h0.toD⟩
      · exact rest ha hh
    cases s with
    | v ty =>
      cases ty with
      | ptr ty =>
        obtain ⟨ad, es, e, h1, h2⟩ := RepV.plain (t := .ptr ty) rfl ha.1
        simp only [List.cons.injEq, and_true] at e
        exact cons (d0 := .at_ ty x.1) ⟨ad, es, e, h1, h2⟩ ha.2 h
      | un => exact rest ha.2 h
      | _ => exact cons ha.1 ha.2 h
    | _ => exact cons ha.1 ha.2 h
theorem blks_get : ∀ (l : List Sb) (i : Nat) (y : BV l) (r : Nat) (blk : Blk), aget (start.blks l i y) r = some blk → i ≤ r ∧ blkAt id l y (r - i) = some blk
  | [], _, _, _, _, h => by cases h
  | s :: l, i, y, r, blk, h => by
    have rest : aget (start.blks l (i + 1) y.2) r = some blk → i ≤ r ∧ blkAt id (s :: l) y (r - i) = some blk := by
      intro h
      obtain ⟨h1, h2⟩ := blks_get l (i + 1) y.2 r blk h
      refine ⟨by omega, ?_⟩
      rw [show r - i = (r - (i + 1)) + 1 by omega]; exact h2
    unfold start.blks at h
    split at h
    · rename_i b hb
      rw [aget_cons] at h
      split at h
      · rename_i e
        have := Nat.eq_of_beq_eq_true e
        simp only at this
        subst this
        cases h
        exact ⟨Nat.le_refl _, by rw [Nat.sub_self]; exact hb⟩
      · exact rest h
    · exact rest h
theorem amap_id {l : List (Nat × D)} : amap id l = l := by
  induction l with
  | nil => rfl
  | cons p l ih => show (p.1, id p.2) :: amap id l = _; rw [ih]; rfl
theorem amapB_id {l : List (Nat × Blk)} : amap (Blk.lift id) l = l := by
  induction l with
  | nil => rfl
  | cons p l ih => show (p.1, Blk.lift id p.2) :: amap (Blk.lift id) l = _; rw [ih, blk_lift_id]
/-- The whole function. -/
theorem runD_sound (hE : EnvOk P G B0 E) {f : FuncId} {fn : Func} {c : Code} (hf : P.funcs[f]? = some fn) (hb : fn.body = some c) (hcall : ∀ (args : Array Value) (w : World), (callFunc f args).run P w = .ok (.enter f args) w)
    (F : AF) (pack : SV F.rs → BV F.cs → F.R) (hpack : ∀ x y, F.out (pack x y) = (x, y)) (N : Nat) (hrunD : ∀ x y z, F.f x y = some z → runD E N fn F pack x y = some z) : Sound P G B0 f F := by
  refine ⟨hcall, fun M w g vs x y z hG hB hfr hrun => ?_⟩
  refine calls_of_wp hf hb ?_
  have hrun := hrunD x y z hrun
  unfold runD at hrun
  rw [hb] at hrun
  split at hrun
  · rename_i c' hc' hps hbs
    cases hc'
    simp only [amapK_eq, amapBK_eq, amap_id, amapB_id] at hrun
    have hlen : vs.length = F.ps.length := by
      have := hfr.args.len
      rw [← this]
      have hl : ∀ (l : List Sl) (x : SV l), (lays id l x).length = l.length := fun l => by
        induction l with
        | nil => intro _; rfl
        | cons s l ih => intro x; show (lays id l x.2).length + 1 = _; rw [ih]; rfl
      exact hl _ _
    have hps' : vs.length ≤ fn.ntmps := by rw [hlen]; exact Nat.le_of_ble_eq_true hps
    have hbs' : F.bs.length ≤ 1000 := Nat.le_of_ble_eq_true hbs
    have hM : ∀ b o, Mof (fun b o => M b o ∧ ¬ Xof g b) g b o ↔ M b o := by
      intro b o
      constructor
      · rintro (h | ⟨r, x, h1, h2, h3⟩)
        · exact h.1
        · exact (hfr.chg _ _ _ _ h1 h2).2 h3
      · intro h
        by_cases hX : Xof g b
        · obtain ⟨r, x, h1, h2⟩ := hX
          exact .inr ⟨r, x, h1, h2, (hfr.chg _ _ _ _ h1 h2).1 h⟩
        · exact .inl ⟨h, hX⟩
    have eM : Mof (fun b o => M b o ∧ ¬ Xof g b) g = M := funext fun b => funext fun o => propext (hM b o)
    have hsim : Sim G B0 (fun b o => M b o ∧ ¬ Xof g b) w g g (start fn F.ps F.bs x y) { tmps := vs.toArray ++ Array.replicate (fn.ntmps - vs.toArray.size) undef, defers := [] } w := by
      refine { defers := rfl, sz := ?_, fr := ?_, inb := ?_, hp := ?_, low := ?_, inj := hfr.inj, row := hfr.row, m0 := fun b o h => ⟨hfr.mlt _ _ h.1, h.2⟩, pin := fun _ _ h _ => h, gin := fun r x h _ => Nat.lt_of_lt_of_le (hfr.dom r x h) hbs', gil := fun b ⟨r, x, h1, h2⟩ => (hfr.low _ _ _ h1 h2).1, ext := ExtX.refl _ _, stp := Step.refl _ _, gg := hG, b0 := hB }
      · show (vs.toArray ++ Array.replicate (fn.ntmps - vs.toArray.size) undef).size = fn.ntmps
        simp; omega
      · intro t d h
        rw [eM]
        obtain ⟨_, v, h1, h2⟩ := prms_get F.ps 0 x vs hfr.args t d h
        rw [Nat.sub_zero] at h1
        have hlt := (List.getElem?_eq_some_iff.1 h1).1
        have : (vs.toArray ++ Array.replicate (fn.ntmps - vs.toArray.size) undef).getD t undef = v := by
          rw [Array.getD_eq_getD_getElem?, Array.getElem?_append_left (by simpa using hlt), List.getElem?_toArray, h1]; rfl
        show RepD M w g d ((vs.toArray ++ Array.replicate (fn.ntmps - vs.toArray.size) undef).getD t undef)
        rw [this]; exact h2
      · intro t d h
        obtain ⟨_, v, h1, _⟩ := prms_get F.ps 0 x vs hfr.args t d h
        rw [Nat.sub_zero] at h1
        have hlt := (List.getElem?_eq_some_iff.1 h1).1
        show t < fn.ntmps
        omega
      · intro r blk h
        rw [eM]
        obtain ⟨_, h1⟩ := blks_get F.bs 0 y r blk h
        rw [Nat.sub_zero] at h1
        exact hfr.res r blk h1
      · exact fun r x b h1 h2 => ⟨(hfr.low _ _ _ h1 h2).1, (hfr.low _ _ _ h1 h2).2, .inl ⟨r, x, h1, h2⟩⟩
    refine exec_sound hE N c 0 (r := z) ?_ _ _ _ _ hsim hrun
    intro e g' st a w' hs h
    have fin : resD E fn F pack st = some z → a.defers = [] ∧ ∃ v, (results fn a.tmps).run P w' = .ok v w' ∧ ∃ vs' g'', Ending.returned v = .returned (rets vs') ∧ ExtX (Xof g) w w' ∧ Step M w (Mafter M g g'') w' ∧ Frag B0 (Mafter M g g'') w' g'' F.rs F.cs (F.out z).1 (F.out z).2 vs' ∧
      (∀ r x, g r = some x → isBM x.v = true → g'' r = some x) ∧ ∀ b, Xof g'' b → Xof g b ∨ w.heap.size ≤ b := by
      intro h
      obtain ⟨vs', g'', h1, h2⟩ := resD_sound hE hs hpack hfr.dom hM h
      exact ⟨hs.defers, _, h1, vs', g'', rfl, h2⟩
    cases e with
    | normal => exact fin h
    | ret => exact fin h
    | exit id => cases h
  · cases hrun
end
end Go.Proofs.YtbekhaioddmliaaDoor
