/- What a change of one block keeps. -/
import Derived.Test.YtbekhaioddmliaaDoorQBm3
namespace Go.Proofs.YtbekhaioddmliaaDoor
set_option linter.unusedVariables false
set_option linter.unusedSimpArgs false
open Go Go.RowKit
section
variable {P : Program} {G : World → Prop} {B0 : Nat} {E : Env} {M0 : Nat → Nat → Prop} {w0 : World} {gi g : Gh} {st : St} {a : Act} {w : World}
/-- A world in which only the block of the name r is another one. -/
structure Turn (g : Gh) (r : Nat) (y : Option GB) (w w' : World) : Prop where
  os : w'.os = w.os
  tape : w'.tape = w.tape
  output : w'.output = w.output
  size : w.heap.size ≤ w'.heap.size
  other : ∀ b, b < w.heap.size → (∀ x, g r = some x → x.blk ≠ some b) → w'.heap[b]? = w.heap[b]?
  blk : ∀ z b, y = some z → z.blk = some b → b < w'.heap.size ∧ (w.heap.size ≤ b ∨ ∃ x, g r = some x ∧ x.blk = some b)
  keep : ∀ x b, g r = some x → x.blk = some b → 0 < x.lo → (∀ o u s, o < x.lo → w.cell? ⟨b, o, s⟩ = some u → w'.cell? ⟨b, o, s⟩ = some u) ∧ ∀ z, y = some z → z.blk = some b → x.lo ≤ z.lo
  row : ∀ z b, y = some z → z.blk = some b → 0 < z.lo → ∀ es c, w'.heap[b]? ≠ some (.map es c)
theorem Turn.step (hs : Sim G B0 M0 w0 gi g st a w) {r : Nat} {y : Option GB} {w' : World} (ht : Turn g r y w w') : Step (Mof M0 g) w (Mof M0 (g.set r y)) w' := by
  have hnot : ∀ b o, b < w.heap.size → ¬ Mof M0 g b o → ¬ Mof M0 (g.set r y) b o := by
    intro b o hb hm h
    rcases h with h | ⟨r', z, h1, h2, h3⟩
    · exact hm (.inl h)
    · by_cases hr : r' = r
      · subst hr
        rw [Gh.set_same] at h1
        rcases (ht.blk z b h1 h2).2 with h4 | ⟨x, h4, h5⟩
        · omega
        · have h6 : ¬ x.lo ≤ o := fun h6 => hm (.inr ⟨_, x, h4, h5, h6⟩)
          have := (ht.keep x b h4 h5 (by omega)).2 z h1 h2
          omega
      · rw [Gh.set_other _ _ hr] at h1
        exact hm (.inr ⟨r', z, h1, h2, h3⟩)
  refine ⟨fun ad u hc hm => ⟨?_, hnot _ _ (World.block_lt_of_cell? w ad hc) hm⟩, fun b es c hc hm => ⟨?_, hnot _ _ (lt_of_map hc) hm⟩⟩
  · by_cases hx : ∃ x, g r = some x ∧ x.blk = some ad.block
    · obtain ⟨x, h1, h2⟩ := hx
      have h6 : ¬ x.lo ≤ ad.off := fun h6 => hm (.inr ⟨_, x, h1, h2, h6⟩)
      have hlt : ad.off < x.lo := by omega
      exact (ht.keep x _ h1 h2 (by omega)).1 _ u _ hlt hc
    · rw [cell_of_block (ht.other _ (World.block_lt_of_cell? w ad hc) fun x h1 h2 => hx ⟨x, h1, h2⟩)]; exact hc
  · by_cases hx : ∃ x, g r = some x ∧ x.blk = some b
    · obtain ⟨x, h1, h2⟩ := hx
      have h6 : ¬ x.lo ≤ 0 := fun h6 => hm (.inr ⟨_, x, h1, h2, h6⟩)
      exact absurd hc (hs.row _ _ _ h1 h2 (by omega) _ _)
    · rw [ht.other _ (lt_of_map hc) fun x h1 h2 => hx ⟨x, h1, h2⟩]; exact hc
/-- What is known of the blocks of other names. -/
theorem RepB.turn (hs : Sim G B0 M0 w0 gi g st a w) {r : Nat} {y : Option GB} {w' : World} (ht : Turn g r y w w') {φ : D → D} (hφ : ∀ d v, RepD0 (Mof M0 g) w g d v → RepD0 (Mof M0 (g.set r y)) w' (g.set r y) (φ d) v)
    {r' : Nat} {x : GB} (hr : r' ≠ r) (hx : g r' = some x) {blk : Blk} (h : RepB (Mof M0 g) w g x blk) : RepB (Mof M0 (g.set r y)) w' (g.set r y) x (blk.lift φ) := by
  have hst := ht.step hs
  have hb : ∀ b, x.blk = some b → w'.heap[b]? = w.heap[b]? := fun b h1 => ht.other b (hs.low _ _ _ hx h1).2.1 fun x' h2 h3 => hr (hs.inj _ _ _ _ _ hx h2 h1 h3)
  cases blk with
  | cells ds =>
    obtain ⟨b, vs, el, e, h1, h2⟩ := h
    exact ⟨b, vs, el, e, (hb b (by rw [e])).trans h1, h2.mapL φ hφ⟩
  | map e m => exact RepB.step (blk := .map e m) hst hb h |> fun ⟨b, es, c, h1, h2, h3⟩ => ⟨b, es, c, h1, h2, h3⟩
  | row e t ex xs => exact RepB.step (g := g) (blk := .row e t ex xs) hst hb h
/-- The name r stands for something else from now on, or its block holds something else. -/
theorem Sim.turn (hs : Sim G B0 M0 w0 gi g st a w) {r : Nat} {y : Option GB} {w' : World} (ht : Turn g r y w w') {φ : D → D} (hφ : ∀ d v, RepD0 (Mof M0 g) w g d v → RepD0 (Mof M0 (g.set r y)) w' (g.set r y) (φ d) v)
    (hφt : ∀ l, φ (.tup l) = .tup l) (hpin : ∀ x, gi r = some x → isBM x.v = true → y = some x) {st' : St} (hn : st'.n = st.n) (hfr : ∀ t d, aget st'.fr t = some d → ∃ d0, aget st.fr t = some d0 ∧ d = lift1 φ d0)
    (hhp : ∀ r' blk, aget st'.hp r' = some blk → (r' = r ∧ ∃ z, y = some z ∧ RepB (Mof M0 (g.set r y)) w' (g.set r y) z blk) ∨ (r' ≠ r ∧ ∃ blk0, aget st.hp r' = some blk0 ∧ blk = blk0.lift φ)) :
    Sim G B0 M0 w0 gi (g.set r y) st' a w' := by
  have hb0 := hs.b0
  have hsz := hs.size
  refine { defers := hs.defers, sz := hs.sz.trans hn.symm, inb := fun t d h => by obtain ⟨d0, h1, _⟩ := hfr t d h; rw [hn]; exact hs.inb t d0 h1, fr := ?_, hp := ?_, low := ?_, inj := ?_, row := ?_, m0 := hs.m0, pin := ?_, gin := hs.gin, gil := hs.gil, ext := ?_, stp := hs.stp.trans (ht.step hs), gg := hs.gg, b0 := hb0 }
  · intro t d h
    obtain ⟨d0, h1, rfl⟩ := hfr t d h
    exact RepD.lift hφ hφt (hs.fr t d0 h1)
  · intro r' blk h
    rcases hhp r' blk h with ⟨rfl, z, h1, h2⟩ | ⟨hr, blk0, h1, rfl⟩
    · exact ⟨z, by rw [Gh.set_same]; exact h1, h2⟩
    · obtain ⟨x, h2, h3⟩ := hs.hp _ _ h1
      exact ⟨x, by rw [Gh.set_other _ _ hr]; exact h2, RepB.turn hs ht hφ hr h2 h3⟩
  · intro r' x b h1 h2
    by_cases hr : r' = r
    · subst hr
      rw [Gh.set_same] at h1
      obtain ⟨h3, h4⟩ := ht.blk x b h1 h2
      rcases h4 with h4 | ⟨x', h4, h5⟩
      · exact ⟨by omega, h3, .inr (by omega)⟩
      · have := hs.low _ _ _ h4 h5
        exact ⟨this.1, h3, this.2.2⟩
    · rw [Gh.set_other _ _ hr] at h1
      have := hs.low _ _ _ h1 h2
      exact ⟨this.1, Nat.lt_of_lt_of_le this.2.1 ht.size, this.2.2⟩
  · have key : ∀ r' x z b, r' ≠ r → g r' = some x → y = some z → x.blk = some b → z.blk = some b → False := by
      intro r' x z b hr h1 h2 h3 h4
      rcases (ht.blk z b h2 h4).2 with h5 | ⟨x', h5, h6⟩
      · have := (hs.low _ _ _ h1 h3).2.1; omega
      · exact hr (hs.inj _ _ _ _ _ h1 h5 h3 h6)
    intro r1 r2 x1 x2 b h1 h2 h3 h4
    by_cases hr1 : r1 = r <;> by_cases hr2 : r2 = r
    · rw [hr1, hr2]
    · subst hr1
      rw [Gh.set_same] at h1
      rw [Gh.set_other _ _ hr2] at h2
      exact (key _ _ _ _ hr2 h2 h1 h4 h3).elim
    · subst hr2
      rw [Gh.set_same] at h2
      rw [Gh.set_other _ _ hr1] at h1
      exact (key _ _ _ _ hr1 h1 h2 h3 h4).elim
    · rw [Gh.set_other _ _ hr1] at h1
      rw [Gh.set_other _ _ hr2] at h2
      exact hs.inj _ _ _ _ _ h1 h2 h3 h4
  · intro r' x b h1 h2 h3 es c
    by_cases hr : r' = r
    · subst hr
      rw [Gh.set_same] at h1
      exact ht.row x b h1 h2 h3 es c
    · rw [Gh.set_other _ _ hr] at h1
      rw [ht.other b (hs.low _ _ _ h1 h2).2.1 fun x' h4 h5 => hr (hs.inj _ _ _ _ _ h1 h4 h2 h5)]
      exact hs.row r' x b h1 h2 h3 es c
  · intro r' x h1 h2
    by_cases hr : r' = r
    · subst hr; rw [Gh.set_same]; exact hpin x h1 h2
    · rw [Gh.set_other _ _ hr]; exact hs.pin r' x h1 h2
  · refine hs.ext.trans (b := w) (Y := fun b => ∃ x, g r = some x ∧ x.blk = some b) ⟨ht.os, ht.tape, ht.output, ht.size, fun k hk hx => ht.other k hk fun x h1 h2 => hx ⟨x, h1, h2⟩⟩ ?_
    rintro b hb ⟨x, h1, h2⟩
    rcases (hs.low _ _ _ h1 h2).2.2 with h3 | h3
    · exact h3
    · omega
theorem lift_fr {φ : D → D} {t : Nat} {d : D} (h : aget (st.lift φ).fr t = some d) : ∃ d0, aget st.fr t = some d0 ∧ d = lift1 φ d0 := by
  change aget (amap (lift1 φ) st.fr) t = some d at h
  rw [aget_amap] at h
  cases h0 : aget st.fr t with
  | none => rw [h0] at h; cases h
  | some d0 => rw [h0] at h; cases h; exact ⟨d0, rfl, rfl⟩
theorem lift_hp {φ : D → D} {r : Nat} {b : Blk} (h : aget (st.lift φ).hp r = some b) : ∃ b0, aget st.hp r = some b0 ∧ b = b0.lift φ := by
  change aget (amap (Blk.lift φ) st.hp) r = some b at h
  rw [aget_amap] at h
  cases h0 : aget st.hp r with
  | none => rw [h0] at h; cases h
  | some d0 => rw [h0] at h; cases h; exact ⟨d0, rfl, rfl⟩
/-- The same, of a state of the common form. -/
theorem Sim.turnB (hs : Sim G B0 M0 w0 gi g st a w) {r : Nat} {z : GB} {w' : World} (ht : Turn g r (some z) w w') {φ : D → D} (hφ : ∀ d v, RepD0 (Mof M0 g) w g d v → RepD0 (Mof M0 (g.set r (some z))) w' (g.set r (some z)) (φ d) v)
    (hφt : ∀ l, φ (.tup l) = .tup l) (hpin : ∀ x, gi r = some x → isBM x.v = true → z = x) {blk : Blk} (hblk : RepB (Mof M0 (g.set r (some z))) w' (g.set r (some z)) z blk) :
    Sim G B0 M0 w0 gi (g.set r (some z)) ((st.lift φ).setB r blk) a w' := by
  refine hs.turn ht hφ hφt (fun x h1 h2 => by rw [hpin x h1 h2]) rfl (fun t d h => lift_fr h) fun r' b h => ?_
  change aget (aset (st.lift φ).hp r blk) r' = some b at h
  by_cases hr : r' = r
  · subst hr
    rw [aget_aset_same] at h
    cases h
    exact .inl ⟨rfl, z, rfl, hblk⟩
  · rw [aget_aset_other _ _ hr] at h
    exact .inr ⟨hr, lift_hp h⟩
theorem lift1_id (d : D) : lift1 id d = d := by cases d <;> simp [lift1]
theorem blk_lift_id (b : Blk) : b.lift id = b := by cases b <;> simp [Blk.lift]
theorem lift_id (st : St) : st.lift id = st := by
  obtain ⟨n, fr, hp⟩ := st
  have h1 : ∀ l : List (Nat × D), amap (lift1 id) l = l := fun l => by
    induction l with
    | nil => rfl
    | cons p l ih => show (p.1, lift1 id p.2) :: amap (lift1 id) l = _; rw [ih, lift1_id]
  have h2 : ∀ l : List (Nat × Blk), amap (Blk.lift id) l = l := fun l => by
    induction l with
    | nil => rfl
    | cons p l ih => show (p.1, Blk.lift id p.2) :: amap (Blk.lift id) l = _; rw [ih, blk_lift_id]
  show St.mk n (amap (lift1 id) fr) (amap (Blk.lift id) hp) = _
  rw [h1, h2]
/-- The block of a name holds something else; the name stands for the same. -/
theorem Sim.setB (hs : Sim G B0 M0 w0 gi g st a w) {r : Nat} {x : GB} (hx : g r = some x) {w' : World} (hos : w'.os = w.os) (htp : w'.tape = w.tape) (hout : w'.output = w.output) (hsize : w.heap.size ≤ w'.heap.size)
    (hother : ∀ b, b < w.heap.size → x.blk ≠ some b → w'.heap[b]? = w.heap[b]?)
    (hkeep : ∀ b, x.blk = some b → 0 < x.lo → (∀ o u s, o < x.lo → w.cell? ⟨b, o, s⟩ = some u → w'.cell? ⟨b, o, s⟩ = some u) ∧ (∀ es c, w'.heap[b]? ≠ some (.map es c)))
    {blk : Blk} (hblk : Step (Mof M0 g) w (Mof M0 g) w' → RepB (Mof M0 g) w' g x blk) : Sim G B0 M0 w0 gi g (st.setB r blk) a w' := by
  have hg : g.set r (some x) = g := Gh.set_self g r hx
  have ht : Turn g r (some x) w w' := ⟨hos, htp, hout, hsize, fun b hb h => hother b hb (h x hx), fun z b h1 h2 => by
      cases h1
      exact ⟨Nat.lt_of_lt_of_le (hs.low _ _ _ hx h2).2.1 hsize, .inr ⟨x, hx, h2⟩⟩, fun x' b h1 h2 h3 => by
      rw [hx] at h1; cases h1
      exact ⟨(hkeep b h2 h3).1, fun z h4 _ => by cases h4; exact Nat.le_refl _⟩, fun z b h1 h2 h3 => by cases h1; exact (hkeep b h2 h3).2⟩
  have hst := ht.step hs
  rw [hg] at hst
  have := hs.turnB (φ := id) ht (fun d v h => by rw [hg]; exact RepD0.step hst h) (fun _ => rfl) (fun x' h1 h2 => by have := hs.pin r x' h1 h2; rw [hx] at this; cases this; rfl) (blk := blk) (by rw [hg]; exact hblk hst)
  rw [hg, lift_id] at this
  exact this
theorem memN_iff {l : List Nat} {i : Nat} : memN l i = true ↔ i ∈ l := by
  induction l with
  | nil => simp [memN]
  | cons j l ih =>
    unfold memN
    split
    · rename_i h; have := Nat.eq_of_beq_eq_true h; subst this; simp
    · rename_i h
      have hne : ¬ i = j := fun e => by subst e; simp at h
      rw [ih]; simp [hne]
/-- What has not to do with the forgotten names. -/
theorem RepD0.forget' {M M' : Nat → Nat → Prop} {w' : World} {g' : Gh} {l : List Nat} (hst : Step M w M' w') (hg : ∀ r, r ∉ l → ∀ x, g r = some x → g' r = some x) {d : D} {v : Value} (h : RepD0 M w g d v) : RepD0 M' w' g' (forget l d) v := by
  have hne : ∀ r, memN l r = false → ∀ x, g r = some x → g' r = some x := fun r hr => hg r fun hm => by rw [memN_iff.2 hm] at hr; cases hr
  cases d with
  | box r o =>
    simp only [Go.Proofs.YtbekhaioddmliaaDoor.forget]
    split
    · trivial
    · rename_i hr; obtain ⟨x, b, h1, h2⟩ := h; exact ⟨x, b, hne r hr x h1, h2⟩
  | mref r =>
    simp only [Go.Proofs.YtbekhaioddmliaaDoor.forget]
    split
    · trivial
    · rename_i hr; obtain ⟨x, b, h1, h2⟩ := h; exact ⟨x, b, hne r hr x h1, h2⟩
  | row r =>
    simp only [Go.Proofs.YtbekhaioddmliaaDoor.forget]
    split
    · trivial
    · rename_i hr; obtain ⟨x, A, n, c, h1, h2⟩ := h; exact ⟨x, A, n, c, hne r hr x h1, h2⟩
  | elp r z i o =>
    simp only [Go.Proofs.YtbekhaioddmliaaDoor.forget]
    split
    · trivial
    · rename_i hr; obtain ⟨x, b, n, c, h1, h2⟩ := h; exact ⟨x, b, n, c, hne r hr x h1, h2⟩
  | tl r z i =>
    simp only [Go.Proofs.YtbekhaioddmliaaDoor.forget]
    split
    · trivial
    · rename_i hr; obtain ⟨x, b, n, c, h1, h2⟩ := h; exact ⟨x, b, n, c, hne r hr x h1, h2⟩
  | fnc f ns =>
    simp only [Go.Proofs.YtbekhaioddmliaaDoor.forget]
    split
    · trivial
    · rename_i hr
      obtain ⟨cs, e, ha⟩ := h
      refine ⟨cs, e, ?_⟩
      clear e
      revert hr ha
      generalize cs.toList = us
      induction ns generalizing us with
      | nil => intro _ ha; cases us with | nil => trivial | cons _ _ => exact ha.elim
      | cons n ns ih =>
        intro hr ha
        cases us with
        | nil => exact ha.elim
        | cons u us =>
          simp only [List.any_cons, Bool.or_eq_false_iff] at hr
          obtain ⟨⟨x, b, h1, h2⟩, h3⟩ := ha
          exact ⟨⟨x, b, hne n hr.1 x h1, h2⟩, ih us hr.2 h3⟩
  | dead => trivial
  | skip => exact h
  | bl b => exact h
  | v t x => exact RepV.step hst h
  | nilS => exact h
  | nilP => exact h
  | at_ t x => obtain ⟨ad, cs, a, b, c⟩ := h; exact ⟨ad, cs, a, RepC.step hst _ _ _ b, c.step hst⟩
  | tup l => exact h.elim
theorem RepD0.forget {M M' : Nat → Nat → Prop} {w' : World} {g' : Gh} {l : List Nat} (hst : Step M w M' w') (hg : ∀ r, r ∉ l → g' r = g r) {d : D} {v : Value} (h : RepD0 M w g d v) : RepD0 M' w' g' (Go.Proofs.YtbekhaioddmliaaDoor.forget l d) v :=
  RepD0.forget' hst (fun r hr x hx => (hg r hr).trans hx) h
/-- A new block under the name r. -/
theorem Turn.new (hs : Sim G B0 M0 w0 gi g st a w) (r : Nat) {z : GB} {w' : World} (he : Ext w w') (hz : ∀ b, z.blk = some b → w.heap.size ≤ b ∧ b < w'.heap.size ∧ ∀ es c, 0 < z.lo → w'.heap[b]? ≠ some (.map es c)) : Turn g r (some z) w w' := by
  refine ⟨he.os, he.tape, he.output, he.size, fun b hb _ => he.block b hb, fun z' b h1 h2 => ?_, fun x b h1 h2 h3 => ⟨fun o u s _ hc => he.cell hc, fun z' h4 h5 => ?_⟩, fun z' b h1 h2 h3 es c => ?_⟩
  · cases h1
    exact ⟨(hz b h2).2.1, .inl (hz b h2).1⟩
  · cases h4
    have := (hs.low _ _ _ h1 h2).2.1
    have := (hz b h5).1
    omega
  · cases h1
    exact (hz b h2).2.2 es c h3
/-- What a state is whose name r stands for something new. -/
theorem Sim.newB (hs : Sim G B0 M0 w0 gi g st a w) {r : Nat} (hr : 1000 ≤ r) {z : GB} {w' : World} (he : Ext w w') (hz : ∀ b, z.blk = some b → w.heap.size ≤ b ∧ b < w'.heap.size ∧ ∀ es c, 0 < z.lo → w'.heap[b]? ≠ some (.map es c))
    {blk : Blk} (hblk : Step (Mof M0 g) w (Mof M0 (g.set r (some z))) w' → RepB (Mof M0 (g.set r (some z))) w' (g.set r (some z)) z blk) : Sim G B0 M0 w0 gi (g.set r (some z)) (st.new r blk) a w' := by
  have ht := Turn.new hs r he hz
  have hst := ht.step hs
  exact hs.turnB ht (φ := forget [r]) (fun d v h => RepD0.forget hst (fun i hi => Gh.set_other _ _ fun e => hi (by simp [e])) h) (fun _ => rfl)
    (fun x h1 h2 => absurd (hs.gin _ _ h1 h2) (by omega)) (hblk hst)
/-- Nothing is said any more of what the name r stands for; it does not change. -/
theorem Sim.gone (hs : Sim G B0 M0 w0 gi g st a w) {r : Nat} (hr : ∀ x, gi r = some x → isBM x.v = true → False) {φ : D → D} (hφ : ∀ d v, Step (Mof M0 g) w (Mof M0 (g.set r none)) w → RepD0 (Mof M0 g) w g d v → RepD0 (Mof M0 (g.set r none)) w (g.set r none) (φ d) v)
    (hφt : ∀ l, φ (.tup l) = .tup l) : Sim G B0 M0 w0 gi (g.set r none) ((st.lift φ).delB r) a w := by
  have ht : Turn g r none w w := ⟨rfl, rfl, rfl, Nat.le_refl _, fun _ _ _ => rfl, fun z b h => (by cases h), fun x b _ _ _ => ⟨fun _ _ _ _ h => h, fun z h => (by cases h)⟩, fun z b h => (by cases h)⟩
  have hst := ht.step hs
  refine hs.turn ht (φ := φ) (fun d v h => hφ d v hst h) hφt (fun x h1 h2 => (hr x h1 h2).elim) rfl (fun t d h => lift_fr h) fun r' b h => ?_
  change aget (adel (st.lift φ).hp r) r' = some b at h
  by_cases hr : r' = r
  · subst hr; rw [aget_adel_same] at h; cases h
  · rw [aget_adel_other _ hr] at h
    exact .inr ⟨hr, lift_hp h⟩
end
end Go.Proofs.YtbekhaioddmliaaDoor
