/- What has some names is put aside for a while: nothing touches it, and it is there again behind. -/
import Derived.Test.YtbekhaioddmliaaDoorQBmW
namespace Go.Proofs.YtbekhaioddmliaaDoor
set_option linter.unusedVariables false
set_option linter.unusedSimpArgs false
open Go Go.RowKit
section
variable {P : Program} {G : World → Prop} {B0 : Nat} {E : Env} {M0 : Nat → Nat → Prop} {w0 : World} {gi g : Gh} {st : St} {a : Act} {w : World}
def Gh.off (g : Gh) (l : List Nat) : Gh := fun r => match memN l r with | true => none | false => g r
def Gh.back (g g' : Gh) (l : List Nat) : Gh := fun r => match memN l r with | true => g r | false => g' r
def Gh.base (g : Gh) : Gh := fun r => (g r).map fun x => if r < 1000 then x else ⟨x.blk, x.lo, undef⟩
def Mapart (M0 : Nat → Nat → Prop) (g : Gh) (l : List Nat) (b o : Nat) : Prop := M0 b o ∨ ∃ r x, memN l r = true ∧ g r = some x ∧ x.blk = some b ∧ x.lo ≤ o
theorem Gh.off_some {l : List Nat} {r : Nat} {x : GB} (h : g.off l r = some x) : memN l r = false ∧ g r = some x := by
  unfold Gh.off at h
  split at h
  · cases h
  · rename_i hm; exact ⟨hm, h⟩
theorem Gh.off_of {l : List Nat} {r : Nat} (hm : memN l r = false) : g.off l r = g r := by unfold Gh.off; rw [hm]
theorem Gh.base_some {r : Nat} {x : GB} (h : g.base r = some x) : ∃ y, g r = some y ∧ x.blk = y.blk ∧ x.lo = y.lo ∧ (isBM x.v = true → r < 1000 ∧ x = y) := by
  unfold Gh.base at h
  cases hy : g r with
  | none => rw [hy] at h; cases h
  | some y =>
    rw [hy] at h
    obtain rfl := Option.some.inj h
    refine ⟨y, rfl, ?_⟩
    dsimp only
    by_cases hr : r < 1000
    · rw [if_pos hr]; exact ⟨rfl, rfl, fun _ => ⟨hr, rfl⟩⟩
    · rw [if_neg hr]; exact ⟨rfl, rfl, fun h => (by cases h)⟩
theorem Gh.base_of {r : Nat} {y : GB} (h : g r = some y) : ∃ x, g.base r = some x ∧ x.blk = y.blk ∧ x.lo = y.lo := by
  unfold Gh.base
  rw [h]
  refine ⟨_, rfl, ?_⟩
  dsimp only
  by_cases hr : r < 1000
  · rw [if_pos hr]; exact ⟨rfl, rfl⟩
  · rw [if_neg hr]; exact ⟨rfl, rfl⟩
theorem Xof_base {b : Nat} : Xof g.base b ↔ Xof g b := by
  constructor
  · rintro ⟨r, x, h1, h2⟩
    obtain ⟨y, h3, h4, _⟩ := Gh.base_some h1
    exact ⟨r, y, h3, h4 ▸ h2⟩
  · rintro ⟨r, y, h1, h2⟩
    obtain ⟨x, h3, h4, _⟩ := Gh.base_of h1
    exact ⟨r, x, h3, h4.trans h2⟩
theorem Mof_base {M : Nat → Nat → Prop} {b o : Nat} : Mof M g.base b o ↔ Mof M g b o := by
  constructor
  · rintro (h | ⟨r, x, h1, h2, h3⟩)
    · exact .inl h
    · obtain ⟨y, h4, h5, h6, _⟩ := Gh.base_some h1
      exact .inr ⟨r, y, h4, h5 ▸ h2, h6 ▸ h3⟩
  · rintro (h | ⟨r, y, h1, h2, h3⟩)
    · exact .inl h
    · obtain ⟨x, h4, h5, h6⟩ := Gh.base_of h1
      exact .inr ⟨r, x, h4, h5.trans h2, h6 ▸ h3⟩
theorem Mof_apart {l : List Nat} {b o : Nat} : Mof (Mapart M0 g l) (g.off l) b o ↔ Mof M0 g b o := by
  constructor
  · rintro ((h | ⟨r, x, _, h1, h2, h3⟩) | ⟨r, x, h1, h2, h3⟩)
    · exact .inl h
    · exact .inr ⟨r, x, h1, h2, h3⟩
    · exact .inr ⟨r, x, (Gh.off_some h1).2, h2, h3⟩
  · rintro (h | ⟨r, x, h1, h2, h3⟩)
    · exact .inl (.inl h)
    · cases hm : memN l r with
      | true => exact .inl (.inr ⟨r, x, hm, h1, h2, h3⟩)
      | false => exact .inr ⟨r, x, (Gh.off_of hm).trans h1, h2, h3⟩
/-- Less may change. -/
theorem Step.sub {M M' : Nat → Nat → Prop} (h : ∀ b o, M' b o → M b o) (w : World) : Step M w M' w :=
  ⟨fun _ _ h1 h2 => ⟨h1, fun h3 => h2 (h _ _ h3)⟩, fun _ _ _ h1 h2 => ⟨h1, fun h3 => h2 (h _ _ h3)⟩⟩
theorem aget_adrop {α : Type} (ks : List Nat) (l : List (Nat × α)) (i : Nat) : aget (adrop ks l) i = match memN ks i with | true => none | false => aget l i := by
  induction l with
  | nil => unfold adrop; rw [aget_nil]; cases memN ks i <;> rfl
  | cons p l ih =>
    obtain ⟨j, x⟩ := p
    unfold adrop
    split
    · rename_i hj
      rw [ih, aget_cons]
      cases hb : Nat.beq j i with
      | false => rfl
      | true =>
        obtain rfl := Nat.eq_of_beq_eq_true hb
        rw [hj]
    · rename_i hj
      rw [aget_cons, aget_cons, ih]
      cases hb : Nat.beq j i with
      | false => rfl
      | true =>
        obtain rfl := Nat.eq_of_beq_eq_true hb
        rw [hj]
theorem RepB.forget {M M' : Nat → Nat → Prop} {g' : Gh} {l : List Nat} {x : GB} {b0 : Blk} (hst : Step M w M' w) (hg : ∀ r, r ∉ l → g' r = g r) (h : RepB M w g x b0) : RepB M' w g' x (b0.lift (Go.Proofs.YtbekhaioddmliaaDoor.forget l)) := by
  cases b0 with
  | cells ds =>
    obtain ⟨b, vs, el, e, h1, h2⟩ := h
    exact ⟨b, vs, el, e, h1, h2.mapL _ fun d v hd => RepD0.forget hst hg hd⟩
  | map e m => exact RepB.step hst (fun _ _ => rfl) h
  | row e t ex xs => exact RepB.step hst (fun _ _ => rfl) h
/-- Some of what has a name is put aside: from here on the world at hand is the first one. -/
theorem Sim.apart (hE : EnvOk P G B0 E) (hs : Sim G B0 M0 w0 gi g st a w) (l : List Nat) : Sim G B0 (Mapart M0 g l) w (g.off l).base (g.off l) (st.aside l) a w := by
  have hst : Step (Mof M0 g) w (Mof (Mapart M0 g l) (g.off l)) w := Step.sub (fun b o h => Mof_apart.1 h) w
  have hgl : ∀ r, r ∉ l → g.off l r = g r := fun r hr => Gh.off_of (by
    cases h : memN l r with
    | false => rfl
    | true => exact absurd (memN_iff.1 h) hr)
  refine { defers := hs.defers, sz := hs.sz, fr := fun t d hd => ?_, inb := fun t d hd => ?_, hp := fun r blk hb => ?_, low := fun r x b h1 h2 => ?_, inj := fun r r' x x' b h1 h2 => hs.inj r r' x x' b (Gh.off_some h1).2 (Gh.off_some h2).2, row := fun r x b h1 => hs.row r x b (Gh.off_some h1).2, m0 := fun b o h => ?_, pin := fun r x h1 h2 => ?_, gin := fun r x h1 h2 => ?_, gil := fun b h => ?_, ext := ExtX.refl _ w, stp := Step.sub (fun b o h => Mof_base.2 h) w, gg := hE.stable w0 w _ hs.gg hs.ext hs.gil, b0 := Nat.le_trans hs.b0 hs.size }
  · obtain ⟨d0, h1, rfl⟩ := lift_fr hd
    exact RepD.lift (fun d v h => RepD0.forget hst hgl h) (fun _ => rfl) (hs.fr t d0 h1)
  · obtain ⟨d0, h1, _⟩ := lift_fr hd
    exact hs.inb t d0 h1
  · change aget (adrop l (st.lift (forget l)).hp) r = some blk at hb
    rw [aget_adrop] at hb
    cases hm : memN l r with
    | true => rw [hm] at hb; cases hb
    | false =>
      rw [hm] at hb
      obtain ⟨b0, h1, rfl⟩ := lift_hp hb
      obtain ⟨x, h2, h3⟩ := hs.hp r b0 h1
      exact ⟨x, (Gh.off_of hm).trans h2, h3.forget hst hgl⟩
  · obtain ⟨h3, h4, _⟩ := hs.low r x b (Gh.off_some h1).2 h2
    exact ⟨h3, h4, .inl (Xof_base.2 ⟨r, x, h1, h2⟩)⟩
  · rcases h with h | ⟨r, x, hm, h1, h2, h3⟩
    · refine ⟨Nat.lt_of_lt_of_le (hs.m0 b o h).1 hs.size, fun hX => ?_⟩
      obtain ⟨r, x, h1, h2⟩ := Xof_base.1 hX
      exact hs.m0x h (Gh.off_some h1).2 h2
    · refine ⟨(hs.low r x b h1 h2).2.1, fun hX => ?_⟩
      obtain ⟨r', x', h4, h5⟩ := Xof_base.1 hX
      obtain ⟨h6, h7⟩ := Gh.off_some h4
      have := hs.inj _ _ _ _ _ h1 h7 h2 h5
      rw [this, h6] at hm
      cases hm
  · obtain ⟨y, h3, _, _, h4⟩ := Gh.base_some h1
    rw [(h4 h2).2]; exact h3
  · obtain ⟨y, h3, _, _, h4⟩ := Gh.base_some h1
    exact (h4 h2).1
  · obtain ⟨r, x, h1, h2⟩ := Xof_base.1 h
    exact (hs.low r x b (Gh.off_some h1).2 h2).1
theorem backF_get {l ds : List Nat} {fr : List (Nat × D)} : ∀ (l2 acc : List (Nat × D)) (t : Nat) (d : D), aget (backF l ds fr l2 acc) t = some d → aget acc t = some d ∨ (memN ds t = false ∧ aget fr t = some d ∧ keepD l d = true)
  | [], acc, t, d, h => .inl h
  | (t', _) :: rest, acc, t, d, h => by
    unfold backF at h
    split at h
    · rename_i d' h1 h2
      split at h
      · rename_i h3
        rcases backF_get rest _ t d h with h4 | h4
        · by_cases ht : t = t'
          · subst ht
            rw [aget_aset_same] at h4
            cases h4
            exact .inr ⟨h1, h2, h3⟩
          · rw [aget_aset_other _ _ ht] at h4
            exact .inl h4
        · exact .inr h4
      · exact backF_get rest _ t d h
    · exact backF_get rest _ t d h
theorem RepD0.keepD {M : Nat → Nat → Prop} {g g' : Gh} {l : List Nat} (hg : ∀ r, r ∈ l → g' r = g r) {d : D} {v : Value} (hd : Go.Proofs.YtbekhaioddmliaaDoor.keepD l d = true) (h : RepD0 M w g d v) : RepD0 M w g' d v := by
  cases d with
  | box r o => obtain ⟨x, b, h1, h2⟩ := h; exact ⟨x, b, (hg r (memN_iff.1 hd)).trans h1, h2⟩
  | mref r => obtain ⟨x, b, h1, h2⟩ := h; exact ⟨x, b, (hg r (memN_iff.1 hd)).trans h1, h2⟩
  | row r => obtain ⟨x, A, n, c, h1, h2⟩ := h; exact ⟨x, A, n, c, (hg r (memN_iff.1 hd)).trans h1, h2⟩
  | elp r z i o => obtain ⟨x, b, n, c, h1, h2⟩ := h; exact ⟨x, b, n, c, (hg r (memN_iff.1 hd)).trans h1, h2⟩
  | tl r z i => obtain ⟨x, b, n, c, h1, h2⟩ := h; exact ⟨x, b, n, c, (hg r (memN_iff.1 hd)).trans h1, h2⟩
  | fnc f ns =>
    obtain ⟨caps, e, h1⟩ := h
    refine ⟨caps, e, ?_⟩
    have hd : ns.all (memN l) = true := hd
    clear e
    generalize caps.toList = cl at h1 ⊢
    revert cl
    induction ns with
    | nil => intro cl h1; cases cl with
      | nil => trivial
      | cons => exact h1.elim
    | cons r ns ih =>
      intro cl h1
      simp only [List.all_cons, Bool.and_eq_true] at hd
      cases cl with
      | nil => exact h1.elim
      | cons u cl =>
        obtain ⟨⟨x, b, h2, h3⟩, h4⟩ := h1
        exact ⟨⟨x, b, (hg r (memN_iff.1 hd.1)).trans h2, h3⟩, ih hd.2 hd.2 cl h4⟩
  | tup => simp [Go.Proofs.YtbekhaioddmliaaDoor.keepD] at hd
  | _ => exact h
theorem RepD.keepD {M : Nat → Nat → Prop} {g g' : Gh} {l : List Nat} (hg : ∀ r, r ∈ l → g' r = g r) {d : D} {v : Value} (hd : Go.Proofs.YtbekhaioddmliaaDoor.keepD l d = true) (h : RepD M w g d v) : RepD M w g' d v := by
  have ht : ∀ m, d ≠ .tup m := fun m e => by subst e; simp [Go.Proofs.YtbekhaioddmliaaDoor.keepD] at hd
  exact (RepD.of0 ht).2 (RepD0.keepD hg hd ((RepD.of0 ht).1 h))
theorem backB_get {l0 : List Nat} {hp : List (Nat × Blk)} : ∀ (l : List Nat) (acc : List (Nat × Blk)) (r : Nat) (b : Blk), aget (backB l0 hp l acc) r = some b → aget acc r = some b ∨ (r ∈ l ∧ aget hp r = some b ∧ keepB l0 b = true)
  | [], acc, r, b, h => .inl h
  | q :: rest, acc, r, b, h => by
    unfold backB at h
    split at h
    · rename_i b' h1
      split at h
      · rename_i h2
        rcases backB_get rest _ r b h with h3 | ⟨h3, h4⟩
        · by_cases hr : r = q
          · subst hr
            rw [aget_aset_same] at h3
            cases h3
            exact .inr ⟨by simp, h1, h2⟩
          · rw [aget_aset_other _ _ hr] at h3
            exact .inl h3
        · exact .inr ⟨by simp [h3], h4⟩
      · rcases backB_get rest _ r b h with h3 | ⟨h3, h4⟩
        · exact .inl h3
        · exact .inr ⟨by simp [h3], h4⟩
    · rcases backB_get rest _ r b h with h3 | ⟨h3, h4⟩
      · exact .inl h3
      · exact .inr ⟨by simp [h3], h4⟩
theorem All2.all {α β : Type} {R R' : α → β → Prop} {q : α → Bool} (hR : ∀ a b, q a = true → R a b → R' a b) : ∀ {l : List α} {m : List β}, l.all q = true → All2 R l m → All2 R' l m
  | [], [], _, h => h
  | x :: l, y :: m, hq, h => by
    simp only [List.all_cons, Bool.and_eq_true] at hq
    exact ⟨hR _ _ hq.1 h.1, All2.all hR hq.2 h.2⟩
theorem RepB.keepB {M : Nat → Nat → Prop} {g g' : Gh} {l : List Nat} (hg : ∀ r, r ∈ l → g' r = g r) {x : GB} {blk : Blk} (hd : Go.Proofs.YtbekhaioddmliaaDoor.keepB l blk = true) (h : RepB M w g x blk) : RepB M w g' x blk := by
  cases blk with
  | cells ds =>
    obtain ⟨b, vs, el, e, h1, h2⟩ := h
    exact ⟨b, vs, el, e, h1, All2.all (R := RepD0 M w g) (R' := RepD0 M w g') (fun d v hq h => RepD0.keepD hg hq h) hd h2⟩
  | map e m => exact h
  | row e t ex xs => exact h
/-- What was put aside is there again. -/
theorem Sim.again (hs : Sim G B0 M0 w0 gi g st a w) (l ds : List Nat) {g' : Gh} {st' : St} {a' : Act} {w' : World} (hs' : Sim G B0 (Mapart M0 g l) w (g.off l).base g' st' a' w')
    (hn : st'.n = st.n) (ht : ∀ t, memN ds t = false → a'.tmps.getD t undef = a.tmps.getD t undef) : Sim G B0 M0 w0 gi (g.back g' l) (st.again st' l ds) a' w' := by
  have hM : ∀ b o, Mof M0 (g.back g' l) b o → Mof (Mapart M0 g l) g' b o := fun b o h => by
    rcases h with h | ⟨r, x, h1, h2, h3⟩
    · exact .inl (.inl h)
    · unfold Gh.back at h1
      split at h1
      · rename_i hm; exact .inl (.inr ⟨r, x, hm, h1, h2, h3⟩)
      · exact .inr ⟨r, x, h1, h2, h3⟩
  have hst1 : Step (Mof (Mapart M0 g l) g') w' (Mof M0 (g.back g' l)) w' := Step.sub hM w'
  have hM2 : ∀ b o, Mof (Mapart M0 g l) (g.off l).base b o → Mof M0 g b o := fun b o h => Mof_apart.1 (Mof_base.1 h)
  have hst2 : Step (Mof M0 g) w (Mof M0 (g.back g' l)) w' := ((Step.sub hM2 w).trans hs'.stp).trans hst1
  have hgl : ∀ r, r ∉ l → g.back g' l r = g' r := fun r hr => by
    unfold Gh.back
    cases h : memN l r with
    | false => rfl
    | true => exact absurd (memN_iff.1 h) hr
  have hgm : ∀ {r}, memN l r = true → g.back g' l r = g r := fun {r} hr => by unfold Gh.back; rw [hr]
  have hoff : ∀ {r x b}, memN l r = true → g r = some x → x.blk = some b → ¬ Xof (g.off l).base b := fun {r x b} hm h1 h2 hX => by
    obtain ⟨r', x', h4, h5⟩ := Xof_base.1 hX
    obtain ⟨h6, h7⟩ := Gh.off_some h4
    have := hs.inj _ _ _ _ _ h1 h7 h2 h5
    rw [this, h6] at hm
    cases hm
  have hheap : ∀ {r x b}, memN l r = true → g r = some x → x.blk = some b → w'.heap[b]? = w.heap[b]? := fun {r x b} hm h1 h2 => hs'.ext.block b (hs.low r x b h1 h2).2.1 (hoff hm h1 h2)
  have hcase : ∀ {r x}, g.back g' l r = some x → (memN l r = true ∧ g r = some x) ∨ (memN l r = false ∧ g' r = some x) := fun {r x} h => by
    unfold Gh.back at h
    split at h
    · rename_i hm; exact .inl ⟨hm, h⟩
    · rename_i hm; exact .inr ⟨hm, h⟩
  have hmix : ∀ {r r' x x' b}, memN l r = true → g r = some x → g' r' = some x' → x.blk = some b → x'.blk = some b → False := fun {r r' x x' b} hm h1 h2 h3 h4 =>
    hs'.m0x (.inr ⟨r, x, hm, h1, h3, Nat.le_refl _⟩ : Mapart M0 g l b x.lo) h2 h4
  refine { defers := hs'.defers, sz := hs'.sz, fr := fun t d hd => ?_, inb := fun t d hd => ?_, hp := fun r blk hb => ?_, low := fun r x b h1 h2 => ?_, inj := fun r r' x x' b h1 h2 h3 h4 => ?_, row := fun r x b h1 h2 h3 es c => ?_, m0 := hs.m0, pin := fun r x h1 h2 => ?_, gin := hs.gin, gil := hs.gil, ext := ?_, stp := hs.stp.trans hst2, gg := hs.gg, b0 := hs.b0 }
  · rcases backF_get _ _ _ _ hd with h | ⟨h1, h2, h3⟩
    · obtain ⟨d0, h1, rfl⟩ := lift_fr h
      exact RepD.lift (fun d v h => RepD0.forget hst1 hgl h) (fun _ => rfl) (hs'.fr t d0 h1)
    · rw [ht t h1]
      exact RepD.keepD (fun r hr => hgm (memN_iff.2 hr)) h3 ((hs.fr t _ h2).step hst2)
  · show t < st'.n
    rcases backF_get _ _ _ _ hd with h | ⟨h1, h2, _⟩
    · obtain ⟨d0, h1, _⟩ := lift_fr h
      exact hs'.inb t d0 h1
    · rw [hn]; exact hs.inb t d h2
  · rcases backB_get _ _ _ _ hb with h | ⟨h1, h2, h3⟩
    · rw [aget_adrop] at h
      cases hm : memN l r with
      | true => rw [hm] at h; cases h
      | false =>
        rw [hm] at h
        obtain ⟨b0, h1, rfl⟩ := lift_hp h
        obtain ⟨x, h2, h3⟩ := hs'.hp r b0 h1
        refine ⟨x, ?_, h3.forget hst1 hgl⟩
        unfold Gh.back; rw [hm]; exact h2
    · have hm : memN l r = true := memN_iff.2 h1
      obtain ⟨x, h4, h5⟩ := hs.hp r _ h2
      exact ⟨x, (hgm hm).trans h4, RepB.keepB (fun r hr => hgm (memN_iff.2 hr)) h3 (RepB.step hst2 (fun b hb => hheap hm h4 hb) h5)⟩
  · rcases hcase h1 with ⟨hm, h3⟩ | ⟨_, h3⟩
    · obtain ⟨h4, h5, h6⟩ := hs.low r x b h3 h2
      exact ⟨h4, Nat.lt_of_lt_of_le h5 hs'.size, h6⟩
    · obtain ⟨h4, h5, h6⟩ := hs'.low r x b h3 h2
      refine ⟨h4, h5, ?_⟩
      rcases h6 with h6 | h6
      · obtain ⟨r', x', h7, h8⟩ := Xof_base.1 h6
        exact (hs.low r' x' b (Gh.off_some h7).2 h8).2.2
      · exact .inr (Nat.le_trans hs.size h6)
  · rcases hcase h1 with ⟨m1, k1⟩ | ⟨m1, k1⟩ <;> rcases hcase h2 with ⟨m2, k2⟩ | ⟨m2, k2⟩
    · exact hs.inj _ _ _ _ _ k1 k2 h3 h4
    · exact (hmix m1 k1 k2 h3 h4).elim
    · exact (hmix m2 k2 k1 h4 h3).elim
    · exact hs'.inj _ _ _ _ _ k1 k2 h3 h4
  · rcases hcase h1 with ⟨hm, k1⟩ | ⟨_, k1⟩
    · rw [hheap hm k1 h2]; exact hs.row r x b k1 h2 h3 es c
    · exact hs'.row r x b k1 h2 h3 es c
  · have h3 := hs.pin r x h1 h2
    cases hm : memN l r with
    | true => exact (hgm hm).trans h3
    | false =>
      unfold Gh.back; rw [hm]
      refine hs'.pin r x ?_ h2
      unfold Gh.base
      rw [Gh.off_of hm, h3]
      dsimp only [Option.map]
      rw [if_pos (hs.gin r x h1 h2)]
  · refine hs.ext.trans hs'.ext fun n hn hX => ?_
    obtain ⟨r', x', h7, h8⟩ := Xof_base.1 hX
    rcases (hs.low r' x' n (Gh.off_some h7).2 h8).2.2 with h9 | h9
    · exact h9
    · omega
end
end Go.Proofs.YtbekhaioddmliaaDoor
