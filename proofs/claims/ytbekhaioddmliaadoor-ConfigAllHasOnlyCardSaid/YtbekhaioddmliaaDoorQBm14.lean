/- The machine of values is right about whole functions. -/
import Derived.Test.YtbekhaioddmliaaDoorQBm13
import Derived.Deep.Quiet
namespace Go.Proofs.YtbekhaioddmliaaDoor
set_option linter.unusedVariables false
set_option linter.unusedSimpArgs false
open Go Go.RowKit
section
variable {P : Program} {G : World → Prop} {B0 : Nat} {E : Env} {M : Nat → Nat → Prop} {M0 : Nat → Nat → Prop} {w0 : World} {gi g : Gh} {st : St} {a : Act} {w : World}
theorem opD_sound {R : Type} (hE : EnvOk P G B0 E) {o : Oper} {k : St → Option R} {r : R} {K : Act → World → Prop} {Q : Exit → Act → World → Prop} (hs : Sim G B0 M0 w0 gi g st a w) (hK : Goes G B0 M0 w0 gi k r K)
    (h : opD E o st k = some r) : o.wp P a w K Q := by
  have h0 := h
  unfold opD at h
  simp only [putK_eq] at h
  split at h
  · rename_i ho; exact nil_wp hE hs hK ho h0
  · rename_i T ho; exact alloc_wp hE hs hK ho h0
  · rename_i T x ho; exact box_wp hE hs hK ho h0
  · rename_i T x v ho; exact store_wp hE hs hK ho h0
  · rename_i f first caps ho; exact makeFunc_wp hs hK ho h0
  · rename_i T ho; exact makeMap_wp hE hs hK ho h0
  · rename_i T m key x ho; exact mapUpdate_wp hE hs hK ho h0
  · rename_i T n c ho; exact makeSlice_wp hE hs hK ho h0
  · rename_i T n ps ho; exact buildSlice_wp hE hs hK ho h0
  · rename_i T ps ho; exact buildO_wp hE hs hK ho h0
  · rename_i T x hi ho; exact trunc_wp hE hs hK ho h0
  · rename_i T x lo ho; exact tail_wp hE hs hK ho h0
  · rename_i T x ho
    obtain ⟨g', st', hs', h'⟩ := load_soft hs ho h0
    exact wp_val hE hs' hK h'
  · rename_i c ho
    split at h
    · rename_i f hc; exact call_wp hE hs hK ho hc h0
    · rename_i hc; exact clear_wp hE hs hK ho hc h0
    · rename_i t hc; exact callT_wp hE hs hK ho hc h0
    · rename_i hc; exact append_wp hE hs hK ho hc h0
    · exact wp_val hE hs hK (by rw [ho] at h ⊢; exact h)
  · exact wp_val hE hs hK h
theorem evt (hs : Sim G B0 M0 w0 gi g st a w) {t : Nat} {d : D} (h : st.ev (.tmp t) = d) : RepD (Mof M0 g) w g d (a.tmps.getD t undef) := by
  have := hs.ev (.tmp t)
  rw [h] at this; exact this
theorem slot_lt (hs : Sim G B0 M0 w0 gi g st a w) {t : Nat} {d : D} (h : st.ev (.tmp t) = d) (hd : d ≠ .dead := by intro h; cases h) : t < a.tmps.size := by
  rw [hs.sz]
  simp only [St.ev] at h
  split at h
  · rename_i d' hd'
    exact hs.inb t d' hd'
  · exact absurd h.symm hd
theorem getD_of {l : Array Value} {t : Nat} {v : Value} (h : l.getD t undef = v) (hl : t < l.size) : l[t]? = some v := by
  rw [Array.getD_eq_getD_getElem?, Array.getElem?_eq_getElem hl] at h
  rw [Array.getElem?_eq_getElem hl]
  simpa using h
/-- The condition of an operation. -/
theorem guardD_cases {R : Type} {ops : Array Oper} {o : Oper} {run k : St → Option R} {r : R} (hs : Sim G B0 M0 w0 gi g st a w) (h : guardD ops.toList o st run k = some r) :
    (Region.wanted o (yielded ops a.tmps) = true ∧ ∃ st', Sim G B0 M0 w0 gi g st' a w ∧ run st' = some r) ∨
    (Region.wanted o (yielded ops a.tmps) = false ∧ ∃ st', Sim G B0 M0 w0 gi g st' a w ∧ k (st'.put o.dst .skip) = some r) := by
  unfold guardD at h
  simp only [putK_eq] at h
  split at h
  · rename_i hg; exact .inl ⟨by simp [Region.wanted, hg], st, hs, h⟩
  · rename_i j b hg
    split at h
    · rename_i oj hj
      split at h
      · rename_i t ht
        split at h
        · rename_i c hc
          have hv := RepD.bool (evt hs hc)
          have hlt2 : t < a.tmps.size := slot_lt hs hc
          have hy : yielded ops a.tmps j = some c := by
            rw [Array.getElem?_toList] at hj
            simp only [yielded, hj, Option.bind_some, ht, getD_of hv hlt2]
          have hw : Region.wanted o (yielded ops a.tmps) = (c == b) := by
            simp only [Region.wanted, hg, hy]
            cases c <;> cases b <;> rfl
          have hre : Sim G B0 M0 w0 gi g (st.put (some t) (.bl c)) a w := hs.reput (RepD0.toD (d := .bl c) hv)
          rcases br_some h with ⟨e, h2⟩ | ⟨e, h2⟩
          · subst e
            cases b
            · exact .inr ⟨by rw [hw]; rfl, _, hre, h2⟩
            · exact .inl ⟨by rw [hw]; rfl, _, hre, h2⟩
          · subst e
            cases b
            · exact .inl ⟨by rw [hw]; rfl, _, hre, h2⟩
            · exact .inr ⟨by rw [hw]; rfl, _, hre, h2⟩
        · rename_i hc
          have hv : a.tmps.getD t undef = .bool true := evt hs hc
          have hlt2 : t < a.tmps.size := slot_lt hs hc
          have hy : yielded ops a.tmps j = some true := by
            rw [Array.getElem?_toList] at hj
            simp only [yielded, hj, Option.bind_some, ht, getD_of hv hlt2]
          cases b
          · exact .inr ⟨by simp [Region.wanted, hg, hy], st, hs, h⟩
          · exact .inl ⟨by simp [Region.wanted, hg, hy], st, hs, h⟩
        · rename_i hc
          have hv : a.tmps.getD t undef = .bool false := evt hs hc
          have hlt2 : t < a.tmps.size := slot_lt hs hc
          have hy : yielded ops a.tmps j = some false := by
            rw [Array.getElem?_toList] at hj
            simp only [yielded, hj, Option.bind_some, ht, getD_of hv hlt2]
          cases b
          · exact .inl ⟨by simp [Region.wanted, hg, hy], st, hs, h⟩
          · exact .inr ⟨by simp [Region.wanted, hg, hy], st, hs, h⟩
        · rename_i hc
          have hv : a.tmps.getD t undef = undef := evt hs hc
          have hlt2 : t < a.tmps.size := slot_lt hs hc
          have hy : yielded ops a.tmps j = none := by
            rw [Array.getElem?_toList] at hj
            simp only [yielded, hj, Option.bind_some, ht, getD_of hv hlt2]
            rfl
          exact .inr ⟨by simp [Region.wanted, hg, hy], st, hs, h⟩
        · cases h
      · cases h
    · cases h
theorem opsD_sound {R : Type} (hE : EnvOk P G B0 E) {ops : Array Oper} {k : St → Option R} {r : R} {Q : Exit → Act → World → Prop} (hK : Goes G B0 M0 w0 gi k r (Q .normal)) : ∀ (l : List Oper) (g : Gh) (st : St) (a : Act) (w : World),
    Sim G B0 M0 w0 gi g st a w → opsD E ops.toList l st k = some r → wpList P ops Q l a w
  | [], g, st, a, w, hs, h => hK _ _ _ _ hs h
  | o :: l, g, st, a, w, hs, h => by
    unfold wpList
    have h : guardD ops.toList o st (fun st => opD E o st (fun st => opsD E ops.toList l st k)) (fun st => opsD E ops.toList l st k) = some r := h
    rcases guardD_cases hs h with ⟨hw, st', hs', h⟩ | ⟨hw, st', hs', h⟩
    · rw [if_pos hw]
      exact .inl (opD_sound hE hs' (fun g st a w hs h => opsD_sound hE hK l g st a w hs h) h)
    · rw [if_neg (by rw [hw]; simp)]
      exact opsD_sound hE hK l g _ _ w (hs'.put _ (d := .skip) (v := undef) rfl) h
theorem quiet_val {R : Type} (hE : EnvOk P G B0 E) {o : Oper} {k : D → Option R} {r : R} {K : Act → Prop} (hs : Sim G B0 M0 w0 gi g st a w) (h : valD E o.op o.type st k = some r)
    (hK : ∀ d v, RepD (Mof M0 g) w g d v → k d = some r → K (a.put o.dst v)) : o.quiet P a (fun w' => Ext w w') K := by
  obtain ⟨d, v, h1, h2, h3⟩ := valD_sound hE hs h
  refine ⟨v, fun w' hE' => ?_, hK d v h2 h1⟩
  unfold Oper.quietAt
  rw [h3 w' hE']
  exact ⟨rfl, rfl⟩
theorem plainRes_two (t u : Sl) (l : List Sl) : plainRes (t :: u :: l) = false := by
  cases t with
  | v ty => cases ty <;> rfl
  | _ => rfl
/-- A result that is no memory is the same in every world. -/
theorem quiet_ret : ∀ (rs : List Sl) (y : SV rs), plainRes rs = true → ∃ v d, lays id rs y = [d] ∧ (∀ (M : Nat → Nat → Prop) (w : World) (g : Gh), RepD M w g d v) ∧ ∀ (M : Nat → Nat → Prop) (w : World) (g : Gh) (vs : List Value), All2 (RepD0 M w g) (lays id rs y) vs → rets vs = v
  | [.v .u8], y, _ => ⟨.int .u8 (UInt8.toNat y.1), .v .u8 y.1, rfl, fun _ _ _ => repU8 _, fun M w g vs h => by
    obtain ⟨v, rfl, h2⟩ := one_of h; exact RepD.u8 (g := g) h2⟩
  | [.v (.int i)], y, _ => ⟨.int i y.1, .v (.int i) y.1, rfl, fun _ _ _ => repInt i _, fun M w g vs h => by
    obtain ⟨v, rfl, h2⟩ := one_of h; exact RepD.int (g := g) h2⟩
  | [.v .bool], y, _ => ⟨.bool y.1, .v .bool y.1, rfl, fun _ _ _ => repBool _, fun M w g vs h => by
    obtain ⟨v, rfl, h2⟩ := one_of h; exact RepD.bool (g := g) h2⟩
  | [.v .str], y, _ => ⟨.string ⟨List.toArray y.1⟩, .v .str y.1, rfl, fun _ _ _ => repStr _, fun M w g vs h => by
    obtain ⟨v, rfl, h2⟩ := one_of h; exact RepD.str (g := g) h2⟩
  | [], _, h => by cases h
  | [.v (.sl _)], _, h => by cases h
  | [.v (.pr _ _)], _, h => by cases h
  | [.v .un], _, h => by cases h
  | [.v (.mp _)], _, h => by cases h
  | [.v (.ptr _)], _, h => by cases h
  | [.v (.np _)], _, h => by cases h
  | [.v (.rc _)], _, h => by cases h
  | [.v (.clo _ _)], _, h => by cases h
  | [.dead], _, h => by cases h
  | [.skip], _, h => by cases h
  | [.nilS], _, h => by cases h
  | [.nilP], _, h => by cases h
  | [.row _], _, h => by cases h
  | [.box _ _], _, h => by cases h
  | [.at_ _], _, h => by cases h
  | [.mref _], _, h => by cases h
  | [.fnc _ _], _, h => by cases h
  | t :: u :: l, _, h => by rw [plainRes_two] at h; cases h
where
  one_of {M : Nat → Nat → Prop} {w : World} {g : Gh} {d : D} {vs : List Value} (h : All2 (RepD0 M w g) [d] vs) : ∃ v, vs = [v] ∧ RepD0 M w g d v := by
    match vs, h with
    | [v], h => exact ⟨v, rfl, h.1⟩
theorem forget_nil : forget [] = id := by
  funext d
  cases d with
  | fnc f l =>
    have : l.any (memN []) = false := by simp [memN]
    simp [forget, this]
  | _ => rfl
theorem quiet_call {R : Type} (hE : EnvOk P G B0 E) {o : Oper} {F : AF} {f : FuncId} (hF : E.fn f o.dst = some F) (hq : (plainRes F.rs && F.bs.isEmpty && F.cs.isEmpty) = true) {k : St → Option R} {r : R} {K : Act → Prop} (hs : Sim G B0 M0 w0 gi g st a w) (hK : ∀ st' a', Sim G B0 M0 w0 gi g st' a' w → k st' = some r → K a')
    {ds : List D} {vs : List Value} (hds : All2 (RepD (Mof M0 g) w g) ds vs) (hex : ∀ w', (∀ w, (callFunc f vs.toArray).run P w = .ok (.enter f vs.toArray) w) → (execOp a.eval o).run P w' = .ok (.enter f vs.toArray) w')
    (h : callD E st o.dst f ds k = some r) : o.quiet P a (fun w' => Ext w w') K := by
  unfold callD at h
  rw [hF] at h
  dsimp only at h
  simp only [Bool.and_eq_true, List.isEmpty_iff] at hq
  obtain ⟨⟨hq1, hq2⟩, hq3⟩ := hq
  obtain ⟨hcf, hcalls⟩ := hE.fn _ _ _ hF
  obtain ⟨ps, bs, rs, cs, RR, out, ff⟩ := F
  dsimp only at hq1 hq2 hq3 h hcalls
  subst hq2 hq3
  split at h
  · obtain ⟨x, ρ, β, h1, _, hn1, _, hx⟩ := mtsK_sound hs ps ds vs hds List.nodup_nil h
    simp only [mbsK] at h1
    split at h1
    · rename_i hlend hlen
      have hρl := List.eq_nil_of_length_eq_zero (Nat.eq_of_beq_eq_true hlen)
      subst hρl
      obtain ⟨z, hz, h3⟩ := bnd_eq_some h1
      dsimp only [List.length_nil, Nat.sub_zero, fresh, List.append_nil, List.nil_append, List.any_nil] at h3
      simp only [show Nat.beq 0 0 = true from rfl, List.append_nil, List.length_nil, liftK_eq, layBsK_eq, mapK_eq, List.map_id, putK_eq, layBs, stale, forget_nil, lift_id] at h3
      obtain ⟨v, d, hd, hrep, huniq⟩ := quiet_ret rs (out z).1 hq1
      have hgn : ∀ j, gsub g [] j = none := fun j => by simp [gsub]
      have hmove : ∀ l (x : SV l), plainRes l = true → lays (nameOf []) l x = lays id l x := by
        intro l x hl
        unfold plainRes at hl
        split at hl <;> first | rfl | cases hl
      rw [hmove _ _ hq1, hd] at h3
      refine ⟨v, fun w' hE' => ?_, hK _ _ (hs.put _ (hrep _ _ _)) h3⟩
      have hs' := hs.later hE'
      have hGw : G w' := hE.stable _ _ _ hs'.gg hs'.ext hs'.gil
      have hargs := (hx [] β (List.prefix_refl _) fun _ h => h).mono fun _ _ hd => RepD0.step (Step.ext hE') hd
      have hfrag := frag_of (y := ()) hs' (bs := []) (ρ := []) (β := β) List.nodup_nil rfl (fun _ => rfl) hargs (fun i blk h => by cases h)
      have hcall := hcalls _ w' _ vs x () z hGw (Nat.le_trans hs'.b0 hs'.size) hfrag hz
      unfold Oper.quietAt
      rw [hex w' (hcf _)]
      refine ⟨rfl, hcall.mono ?_⟩
      rintro e' w'' ⟨vs', g', rfl, hX, _, hfr, _⟩
      exact ⟨by rw [huniq _ _ _ _ hfr.args], hE'.trans (hX.ext fun b ⟨j, x, h1, _⟩ => by rw [hgn] at h1; cases h1)⟩
    · cases h1
  · rename_i hno
    have : rs.all Sl.flat = true := by
      unfold plainRes at hq1
      split at hq1 <;> first | rfl | cases hq1
    simp [this] at hno
theorem opD_quiet {R : Type} (hE : EnvOk P G B0 E) {o : Oper} (hq : quietOp E o = true) {k : St → Option R} {r : R} {K : Act → Prop} (hs : Sim G B0 M0 w0 gi g st a w) (hK : ∀ g' st' a', Sim G B0 M0 w0 gi g' st' a' w → k st' = some r → K a')
    (h : opD E o st k = some r) : o.quiet P a (fun w' => Ext w w') K := by
  have h0 := h
  unfold opD at h
  simp only [putK_eq] at h
  split at h
  · rename_i ho; simp [quietOp, ho] at hq
  · rename_i T ho; simp [quietOp, ho] at hq
  · rename_i T x ho; simp [quietOp, ho] at hq
  · rename_i T x v ho; simp [quietOp, ho] at hq
  · rename_i f first caps ho; simp [quietOp, ho] at hq
  · rename_i T ho; simp [quietOp, ho] at hq
  · rename_i T m key x ho; simp [quietOp, ho] at hq
  · rename_i T n c ho; simp [quietOp, ho] at hq
  · rename_i T n ps ho; simp [quietOp, ho] at hq
  · rename_i T ps ho; simp [quietOp, ho] at hq
  · rename_i T x hi ho; simp [quietOp, ho] at hq
  · rename_i T x lo ho; simp [quietOp, ho] at hq
  · rename_i T x ho
    obtain ⟨g', st', hs', h'⟩ := load_soft hs ho h0
    exact quiet_val hE hs' (k := fun d => k (st'.put o.dst d)) h' fun d v hr hk => hK _ _ _ (hs'.put _ hr) hk
  · rename_i c ho
    split at h
    · rename_i f hc
      simp only [quietOp, ho, hc] at hq
      cases hF : E.fn f o.dst with
      | none => rw [hF] at hq; cases hq
      | some F =>
        rw [hF] at hq
        have harr : (c.args.toList.map a.eval).toArray = c.args.map a.eval := by
          apply Array.ext'
          simp
        refine quiet_call hE hF hq hs (fun st a => hK _ st a) (evs_sound hs c.args.toList) (fun w' hcf => ?_) h
        have := hcf w'
        rw [harr] at this ⊢
        simp [execOp, ho, resolve, hc, Act.eval, Deferred.ofValue, invoke, this]
    · rename_i hc; simp [quietOp, ho, hc] at hq
    · rename_i hc; simp [quietOp, ho, hc] at hq
    · rename_i hc; simp [quietOp, ho, hc] at hq
    · exact quiet_val hE hs (k := fun d => k (st.put o.dst d)) (by rw [ho] at h ⊢; exact h) fun d v hr hk => hK _ _ _ (hs.put _ hr) hk
  · exact quiet_val hE hs (k := fun d => k (st.put o.dst d)) h fun d v hr hk => hK _ _ _ (hs.put _ hr) hk
theorem opsD_quiet {R : Type} (hE : EnvOk P G B0 E) {ops : Array Oper} {k : St → Option R} {r : R} {Q : Exit → Act → World → Prop} (hK : Goes G B0 M0 w0 gi k r (Q .normal)) : ∀ (l : List Oper) (g : Gh) (st : St) (a : Act), l.all (quietOp E) = true →
    Sim G B0 M0 w0 gi g st a w → opsD E ops.toList l st k = some r → wpQuiet P ops (fun w' => Ext w w') (fun a' => ∀ w', Ext w w' → Q .normal a' w') l a
  | [], g, st, a, _, hs, h => fun w' hE' => hK _ _ _ _ (hs.later hE') h
  | o :: l, g, st, a, hq, hs, h => by
    simp only [List.all_cons, Bool.and_eq_true] at hq
    unfold wpQuiet
    have h : guardD ops.toList o st (fun st => opD E o st (fun st => opsD E ops.toList l st k)) (fun st => opsD E ops.toList l st k) = some r := h
    rcases guardD_cases hs h with ⟨hw, st', hs', h⟩ | ⟨hw, st', hs', h⟩
    · rw [if_pos hw]
      exact opD_quiet hE hq.1 hs' (fun _ st a hs h => opsD_quiet hE hK l _ st a hq.2 hs h) h
    · rw [if_neg (by rw [hw]; simp)]
      exact opsD_quiet hE hK l _ _ _ hq.2 (hs'.put _ (d := .skip) (v := undef) rfl) h
/-- How the machine's ways out of a piece of code answer the model's. -/
def Ex.toExit : Ex → Exit
  | .normal => .normal
  | .exit id => .exit id
  | .ret => .ret
def Leaves {R : Type} (G : World → Prop) (B0 : Nat) (M0 : Nat → Nat → Prop) (w0 : World) (gi : Gh) (k : Ex → St → Option R) (r : R) (Q : Exit → Act → World → Prop) : Prop :=
  ∀ e g st a w, Sim G B0 M0 w0 gi g st a w → k e st = some r → Q e.toExit a w

/-- The row in a slot does not change any more. -/
theorem Sim.hard (hs : Sim G B0 M0 w0 gi g st a w) (s : Nat) : ∃ g', Sim G B0 M0 w0 gi g' (st.hard s) a w := by
  unfold St.hard
  split
  · rename_i q hd
    split
    · rename_i e t ex xs hb
      obtain ⟨gx, hg, hz, cs, hown, hblk, hlo, hel⟩ := hs.hp _ _ hb
      have hnb := own_notBM hown
      refine ⟨_, hs.gone (fun x h1 h2 => ?_) (φ := snap q t xs) (fun d v hst hdv => ?_) fun _ => rfl⟩
      · have := hs.pin q x h1 h2
        rw [hg] at this; cases this
        exact hnb h2
      · refine RepD0.snap hg hst (fun r hr => Gh.set_other _ _ hr) hnb ?_ hdv
        refine RepC.toV (t := .sl t) rfl (RepC.of_own hz hown (fun b o hb2 _ hm => ?_) fun i hi => RepC.step hst _ _ _ (hel i hi))
        rcases hm with h | ⟨r', y, h1, h2, h3⟩
        · exact hs.m0x h hg (by rw [hblk]; exact hb2)
        · by_cases hr : r' = q
          · subst hr; rw [Gh.set_same] at h1; cases h1
          · rw [Gh.set_other _ _ hr] at h1
            exact hr (hs.inj _ _ _ _ _ h1 hg h2 (by rw [hblk]; exact hb2))
    · exact ⟨g, hs⟩
  · exact ⟨g, hs⟩
theorem Sim.hards : ∀ (l : List Nat) {g : Gh} {st : St}, Sim G B0 M0 w0 gi g st a w → ∃ g', Sim G B0 M0 w0 gi g' (St.hards l st) a w
  | [], g, _, h => ⟨g, h⟩
  | s :: l, _, st, h => by
    obtain ⟨g', h'⟩ := h.hard s
    exact Sim.hards l h'
theorem Sim.keep (hs : Sim G B0 M0 w0 gi g st a w) (f h : List Nat) : Sim G B0 M0 w0 gi g (st.keep f h) a w :=
  { hs with
    fr := fun t d hd => by
      obtain ⟨x, h1, rfl⟩ := aget_akeep f nob st.fr t d hd
      exact nob_sound (hs.fr t x h1)
    inb := fun t d hd => by
      obtain ⟨x, h1, _⟩ := aget_akeep f nob st.fr t d hd
      exact hs.inb t x h1
    hp := fun r blk hb => by
      obtain ⟨x, h1, e⟩ := aget_akeep h id st.hp r blk hb
      have e2 : blk = x := e
      subst e2
      exact hs.hp r _ h1 }
theorem Sim.head (h : Sim G B0 M0 w0 gi g st a w) (hh : Hint) : ∃ g', Sim G B0 M0 w0 gi g' (st.head hh) a w := by
  obtain ⟨g', h'⟩ := h.hards hh.dm
  exact ⟨g', h'.keep _ _⟩
theorem Sim.tail (h : Sim G B0 M0 w0 gi g st a w) (hh : Hint) : Sim G B0 M0 w0 gi g (st.tail hh) a w := h.keep _ _
theorem exec_sound {R : Type} (hE : EnvOk P G B0 E) (N : Nat) : ∀ (c : Code) (i : Nat) {k : Ex → St → Option R} {r : R} {Q : Exit → Act → World → Prop}, Leaves G B0 M0 w0 gi k r Q → ∀ (g : Gh) (st : St) (a : Act) (w : World),
    Sim G B0 M0 w0 gi g st a w → exec E N c i st k = some r → c.wp P Q a w
  | .skip, i, k, r, Q, hK, g, st, a, w, hs, h => wp_skip (hK .normal _ _ _ _ hs h)
  | .region id ops false, i, k, r, Q, hK, g, st, a, w, hs, h => wp_region_list (opsD_sound hE (fun _ _ _ _ hs h => hK .normal _ _ _ _ hs h) _ _ _ _ _ hs h)
  | .region id ops true, i, k, r, Q, hK, g, st, a, w, hs, h => by
    rw [exec_draw] at h
    split at h
    · rename_i hq
      simp only [Bool.and_eq_true] at hq
      exact wp_region_quiet (C := fun w' => Ext w w') hE.mixed hq.2 (Ext.refl w).drew (opsD_quiet hE (fun _ _ _ _ hs h => hK .normal _ _ _ _ hs h) _ _ _ _ hq.1 hs h)
    · cases h
  | .seq x y, i, k, r, Q, hK, g, st, a, w, hs, h => by
    refine wp_seq (exec_sound hE N x i ?_ _ _ _ _ hs h)
    intro e g st a w hs h
    cases e with
    | normal => exact exec_sound hE N y i hK _ _ _ _ hs h
    | exit id => exact hK (.exit id) _ _ _ _ hs h
    | ret => exact hK .ret _ _ _ _ hs h
  | .cond c x y, i, k, r, Q, hK, g, st, a, w, hs, h => by
    rw [exec_cond] at h
    have hc := hs.ev c
    split at h
    · rename_i b hd
      rw [hd] at hc
      refine wp_cond (t := b) (RepD.bool hc) ?_
      rcases br_some h with ⟨e, h2⟩ | ⟨e, h2⟩
      · subst e; exact exec_sound hE N x i hK _ _ _ _ hs h2
      · subst e; exact exec_sound hE N y i hK _ _ _ _ hs h2
    · rename_i hd
      rw [hd] at hc
      exact wp_cond (t := true) hc (exec_sound hE N x i hK _ _ _ _ hs h)
    · rename_i hd
      rw [hd] at hc
      exact wp_cond (t := false) hc (exec_sound hE N y i hK _ _ _ _ hs h)
    · cases h
  | .block id c, i, k, r, Q, hK, g, st, a, w, hs, h => by
    refine wp_block (exec_sound hE N c id ?_ _ _ _ _ hs h)
    intro e g st a w hs h
    cases e with
    | normal => exact hK .normal _ _ _ _ hs h
    | exit j =>
      simp only at h
      show (if j = id then Q .normal a w else Q (.exit j) a w)
      split at h
      · rename_i e; rw [if_pos e]; exact hK .normal _ _ _ _ hs h
      · rename_i e; rw [if_neg e]; exact hK (.exit j) _ _ _ _ hs h
    | ret => exact hK .ret _ _ _ _ hs h
  | .loop c, i, k, r, Q, hK, g, st, a, w, hs, h => by
    rw [exec_loop] at h
    simp only [headK_eq] at h
    have key : ∀ (n : Nat) (g : Gh) (st : St) (a : Act) (w : World), Sim G B0 M0 w0 gi g st a w → iter (E.hint i) (exec E N c i) n st k = some r → Code.rounds P c Q n a w := by
      intro n
      induction n with
      | zero => intro g st a w hs h; cases h
      | succ n ih =>
        intro g st a w hs h
        refine exec_sound hE N c i ?_ _ _ _ _ hs h
        intro e g st a w hs h
        cases e with
        | normal => simp only [headK_eq] at h; exact (let ⟨g', hs'⟩ := hs.head (E.hint i); ih g' _ _ _ hs' h)
        | exit id => simp only [tailK_eq] at h; exact hK (.exit id) _ _ _ _ (hs.tail _) h
        | ret => exact hK .ret _ _ _ _ hs h
    obtain ⟨g', hs'⟩ := hs.head (E.hint i)
    exact wp_loop_rounds N (key N _ _ _ _ hs' h)
  | .exit id, i, k, r, Q, hK, g, st, a, w, hs, h => wp_exit (hK (.exit id) _ _ _ _ hs h)
  | .ret, i, k, r, Q, hK, g, st, a, w, hs, h => Go.wp_ret (hK .ret _ _ _ _ hs h)
  | .rangeFunc _ _ _ _, i, k, r, Q, hK, g, st, a, w, hs, h => by cases h
  | .scope _, i, k, r, Q, hK, g, st, a, w, hs, h => by cases h
  | .label _, i, k, r, Q, hK, g, st, a, w, hs, h => by cases h
  | .goto _, i, k, r, Q, hK, g, st, a, w, hs, h => by cases h
  | .refuse _, i, k, r, Q, hK, g, st, a, w, hs, h => by cases h
end
end Go.Proofs.YtbekhaioddmliaaDoor
