/- What has some names is put aside for a while: nothing touches it, and it is there again behind. -/
import Derived.Test.YtjiddcchklaiiaaGreatDoorQBmW
import Derived.Laws.IdiomRangeMap
import Derived.Maps.RangeRun
import Derived.Deep.Quiet
import Derived.Laws.IdiomStrings
namespace Go.Proofs.YtjiddcchklaiiaaGreatDoor
set_option linter.unusedVariables false
set_option linter.unusedSimpArgs false
open Go Go.RowKit
section
variable {P : Program} {df : List Deferred} {G : World → Prop} {B0 : Nat} {E : Env} {M0 : Nat → Nat → Prop} {w0 : World} {gi g : Gh} {st : St} {a : Act} {w : World}
def Gh.off (g : Gh) (l : List Nat) : Gh := fun r => match memN l r with | true => none | false => g r
def Gh.back (g g' : Gh) (l : List Nat) : Gh := fun r => match memN l r with | true => g r | false => g' r
def Gh.base (g : Gh) : Gh := fun r => (g r).map fun x => if r < 1000 then x else ⟨x.blk, x.lo, undef⟩
def Mapart (M0 : Nat → Nat → Prop) (g : Gh) (l : List Nat) (b o : Nat) : Prop := M0 b o ∨ ∃ r x, memN l r = true ∧ g r = some x ∧ x.blk = some b ∧ x.lo ≤ o
theorem Gh.off_some {l : List Nat} {r : Nat} {x : GB} (h : g.off l r = some x) : memN l r = false ∧ g r = some x := by
 unfold Gh.off at h
 split at h
 · cases h
 · rename_i hm; exact ⟨hm, h⟩
theorem Gh.off_of {l : List Nat} {r : Nat} (hm : memN l r = false) : g.off l r = g r := by unfold Gh.off; rw [hm]
theorem Gh.base_some {r : Nat} {x : GB} (h : g.base r = some x) : ∃ y, g r = some y ∧ x.blk = y.blk ∧ x.lo = y.lo ∧ (isBM x.v = true ∨ r = 0 → r < 1000 ∧ x = y) := by
 unfold Gh.base at h
 cases hy : g r with
 | none => rw [hy] at h; cases h
 | some y =>
   rw [hy] at h
   obtain rfl := Option.some.inj h
   refine ⟨y, rfl, ?_⟩
   dsimp only
   by_cases hr : r < 1000
   · rw [if_pos hr]; exact ⟨rfl, rfl, fun _ => ⟨hr, rfl⟩⟩
   · rw [if_neg hr]; exact ⟨rfl, rfl, fun h => h.elim (fun h => by cases h) fun h => absurd h (by omega)⟩
theorem Gh.base_of {r : Nat} {y : GB} (h : g r = some y) : ∃ x, g.base r = some x ∧ x.blk = y.blk ∧ x.lo = y.lo := by
 unfold Gh.base
 rw [h]
 refine ⟨_, rfl, ?_⟩
 dsimp only
 by_cases hr : r < 1000
 · rw [if_pos hr]; exact ⟨rfl, rfl⟩
 · rw [if_neg hr]; exact ⟨rfl, rfl⟩
theorem Xof_base {b : Nat} : Xof g.base b ↔ Xof g b := by
 constructor
 · rintro ⟨r, x, h1, h2⟩
   obtain ⟨y, h3, h4, _⟩ := Gh.base_some h1
   exact ⟨r, y, h3, h4 ▸ h2⟩
 · rintro ⟨r, y, h1, h2⟩
   obtain ⟨x, h3, h4, _⟩ := Gh.base_of h1
   exact ⟨r, x, h3, h4.trans h2⟩
theorem Mof_base {M : Nat → Nat → Prop} {b o : Nat} : Mof M g.base b o ↔ Mof M g b o := by
 constructor
 · rintro (h | ⟨r, x, h1, h2, h3⟩)
   · exact .inl h
   · obtain ⟨y, h4, h5, h6, _⟩ := Gh.base_some h1
     exact .inr ⟨r, y, h4, h5 ▸ h2, h6 ▸ h3⟩
 · rintro (h | ⟨r, y, h1, h2, h3⟩)
   · exact .inl h
   · obtain ⟨x, h4, h5, h6⟩ := Gh.base_of h1
     exact .inr ⟨r, x, h4, h5.trans h2, h6 ▸ h3⟩
theorem Mof_apart {l : List Nat} {b o : Nat} : Mof (Mapart M0 g l) (g.off l) b o ↔ Mof M0 g b o := by
 constructor
 · rintro ((h | ⟨r, x, _, h1, h2, h3⟩) | ⟨r, x, h1, h2, h3⟩)
   · exact .inl h
   · exact .inr ⟨r, x, h1, h2, h3⟩
   · exact .inr ⟨r, x, (Gh.off_some h1).2, h2, h3⟩
 · rintro (h | ⟨r, x, h1, h2, h3⟩)
   · exact .inl (.inl h)
   · cases hm : memN l r with
     | true => exact .inl (.inr ⟨r, x, hm, h1, h2, h3⟩)
     | false => exact .inr ⟨r, x, (Gh.off_of hm).trans h1, h2, h3⟩
theorem Step.sub {M M' : Nat → Nat → Prop} (h : ∀ b o, M' b o → M b o) (w : World) : Step M w M' w :=
 ⟨fun _ _ h1 h2 => ⟨h1, fun h3 => h2 (h _ _ h3)⟩, fun _ _ _ h1 h2 => ⟨h1, fun h3 => h2 (h _ _ h3)⟩⟩
theorem aget_adrop {α : Type} (ks : List Nat) (l : List (Nat × α)) (i : Nat) : aget (adrop ks l) i = match memN ks i with | true => none | false => aget l i := by
 induction l with
 | nil => unfold adrop; rw [aget_nil]; cases memN ks i <;> rfl
 | cons p l ih =>
   obtain ⟨j, x⟩ := p
   unfold adrop
   split
   · rename_i hj
     rw [ih, aget_cons]
     cases hb : Nat.beq j i with
     | false => rfl
     | true =>
       obtain rfl := Nat.eq_of_beq_eq_true hb
       rw [hj]
   · rename_i hj
     rw [aget_cons, aget_cons, ih]
     cases hb : Nat.beq j i with
     | false => rfl
     | true =>
       obtain rfl := Nat.eq_of_beq_eq_true hb
       rw [hj]
theorem RepB.forget {M M' : Nat → Nat → Prop} {g' : Gh} {l : List Nat} {x : GB} {b0 : Blk} (hst : Step M w M' w) (hg : ∀ r, r ∉ l → g' r = g r) (h : RepB M w g x b0) : RepB M' w g' x (b0.lift (Go.Proofs.YtjiddcchklaiiaaGreatDoor.forget l)) := by
 cases b0 with
 | cells ds =>
   obtain ⟨b, vs, el, e, h1, h2⟩ := h
   exact ⟨b, vs, el, e, h1, h2.mapL _ fun d v hd => RepD0.forget hst hg hd⟩
 | bld T ds =>
   obtain ⟨b, p, vs, e, h1, h0, h2⟩ := h
   exact ⟨b, p, vs, e, h1, h0, h2.mapL _ fun d v hd => RepD0.forget hst hg hd⟩
 | map e m => exact RepB.step hst (fun _ _ => rfl) h
 | row e t ex xs => exact RepB.step hst (fun _ _ => rfl) h
 | iter e l => exact RepB.step hst (fun _ _ => rfl) h
 | que e t xs => exact RepB.step hst (fun _ _ => rfl) h
theorem Sim.apart (hE : EnvOk P G B0 E) (hs : Sim df G B0 M0 w0 gi g st a w) (l : List Nat) : Sim df G B0 (Mapart M0 g l) w (g.off l).base (g.off l) (st.aside l) a w := by
 have hst : Step (Mof M0 g) w (Mof (Mapart M0 g l) (g.off l)) w := Step.sub (fun b o h => Mof_apart.1 h) w
 have hgl : ∀ r, r ∉ l → g.off l r = g r := fun r hr => Gh.off_of (by
   cases h : memN l r with
   | false => rfl
   | true => exact absurd (memN_iff.1 h) hr)
 refine { defers := hs.defers, sz := hs.sz, fr := fun t d hd => ?_, inb := fun t d hd => ?_, hp := fun r blk hb => ?_, low := fun r x b h1 h2 => ?_, inj := fun r r' x x' b h1 h2 => hs.inj r r' x x' b (Gh.off_some h1).2 (Gh.off_some h2).2, row := fun r x b h1 => hs.row r x b (Gh.off_some h1).2, m0 := fun b o h => ?_, pin := fun r x h1 h2 => ?_, gin := fun r x h1 h2 => ?_, gil := fun b h => ?_, ext := ExtX.refl _ w, stp := Step.sub (fun b o h => Mof_base.2 h) w, gg := hE.stable w0 w _ hs.gg hs.ext hs.gil, b0 := Nat.le_trans hs.b0 hs.size }
 · obtain ⟨d0, h1, rfl⟩ := lift_fr hd
   exact RepD.lift (fun d v h => RepD0.forget hst hgl h) (fun _ _ => rfl) (hs.fr t d0 h1)
 · obtain ⟨d0, h1, _⟩ := lift_fr hd
   exact hs.inb t d0 h1
 · change aget (adrop l (st.lift (forget l)).hp) r = some blk at hb
   rw [aget_adrop] at hb
   cases hm : memN l r with
   | true => rw [hm] at hb; cases hb
   | false =>
     rw [hm] at hb
     obtain ⟨b0, h1, rfl⟩ := lift_hp hb
     obtain ⟨x, h2, h3⟩ := hs.hp r b0 h1
     exact ⟨x, (Gh.off_of hm).trans h2, h3.forget hst hgl⟩
 · obtain ⟨h3, h4, _⟩ := hs.low r x b (Gh.off_some h1).2 h2
   exact ⟨h3, h4, .inl (Xof_base.2 ⟨r, x, h1, h2⟩)⟩
 · rcases h with h | ⟨r, x, hm, h1, h2, h3⟩
   · refine ⟨Nat.lt_of_lt_of_le (hs.m0 b o h).1 hs.size, fun hX => ?_⟩
     obtain ⟨r, x, h1, h2⟩ := Xof_base.1 hX
     exact hs.m0x h (Gh.off_some h1).2 h2
   · refine ⟨(hs.low r x b h1 h2).2.1, fun hX => ?_⟩
     obtain ⟨r', x', h4, h5⟩ := Xof_base.1 hX
     obtain ⟨h6, h7⟩ := Gh.off_some h4
     have := hs.inj _ _ _ _ _ h1 h7 h2 h5
     rw [this, h6] at hm
     cases hm
 · obtain ⟨y, h3, _, _, h4⟩ := Gh.base_some h1
   rw [(h4 h2).2]; exact h3
 · obtain ⟨y, h3, _, _, h4⟩ := Gh.base_some h1
   exact (h4 h2).1
 · obtain ⟨r, x, h1, h2⟩ := Xof_base.1 h
   exact (hs.low r x b (Gh.off_some h1).2 h2).1
theorem backF_get {l ds : List Nat} {fr : List (Nat × D)} : ∀ (l2 acc : List (Nat × D)) (t : Nat) (d : D), aget (backF l ds fr l2 acc) t = some d → aget acc t = some d ∨ (memN ds t = false ∧ aget fr t = some d ∧ keepD l d = true)
 | [], acc, t, d, h => .inl h
 | (t', _) :: rest, acc, t, d, h => by
   unfold backF at h
   split at h
   · rename_i d' h1 h2
     split at h
     · rename_i h3
       rcases backF_get rest _ t d h with h4 | h4
       · by_cases ht : t = t'
         · subst ht
           rw [aget_aset_same] at h4
           cases h4
           exact .inr ⟨h1, h2, h3⟩
         · rw [aget_aset_other _ _ ht] at h4
           exact .inl h4
       · exact .inr h4
     · exact backF_get rest _ t d h
   · exact backF_get rest _ t d h
theorem RepD0.keepD {M : Nat → Nat → Prop} {g g' : Gh} {l : List Nat} (hg : ∀ r, r ∈ l → g' r = g r) {d : D} {v : Value} (hd : Go.Proofs.YtjiddcchklaiiaaGreatDoor.keepD l d = true) (h : RepD0 M w g d v) : RepD0 M w g' d v := by
 cases d with
 | box r o => obtain ⟨x, b, h1, h2⟩ := h; exact ⟨x, b, (hg r (memN_iff.1 hd)).trans h1, h2⟩
 | mref r => obtain ⟨x, b, h1, h2⟩ := h; exact ⟨x, b, (hg r (memN_iff.1 hd)).trans h1, h2⟩
 | row r => obtain ⟨x, A, n, c, h1, h2⟩ := h; exact ⟨x, A, n, c, (hg r (memN_iff.1 hd)).trans h1, h2⟩
 | elp r z i o => obtain ⟨x, b, n, c, h1, h2⟩ := h; exact ⟨x, b, n, c, (hg r (memN_iff.1 hd)).trans h1, h2⟩
 | tl r z i => obtain ⟨x, b, n, c, h1, h2⟩ := h; exact ⟨x, b, n, c, (hg r (memN_iff.1 hd)).trans h1, h2⟩
 | fnc f ns =>
   obtain ⟨caps, e, h1⟩ := h
   refine ⟨caps, e, ?_⟩
   have hd : ns.all (memN l) = true := hd
   clear e
   generalize caps.toList = cl at h1 ⊢
   revert cl
   induction ns with
   | nil => intro cl h1; cases cl with
     | nil => trivial
     | cons => exact h1.elim
   | cons r ns ih =>
     intro cl h1
     simp only [List.all_cons, Bool.and_eq_true] at hd
     cases cl with
     | nil => exact h1.elim
     | cons u cl =>
       obtain ⟨⟨x, b, h2, h3⟩, h4⟩ := h1
       exact ⟨⟨x, b, (hg r (memN_iff.1 hd.1)).trans h2, h3⟩, ih hd.2 hd.2 cl h4⟩
 | tup => simp [Go.Proofs.YtjiddcchklaiiaaGreatDoor.keepD] at hd
 | _ => exact h
theorem RepD.keepD {M : Nat → Nat → Prop} {g g' : Gh} {l : List Nat} (hg : ∀ r, r ∈ l → g' r = g r) {d : D} {v : Value} (hd : Go.Proofs.YtjiddcchklaiiaaGreatDoor.keepD l d = true) (h : RepD M w g d v) : RepD M w g' d v := by
 have ht : ∀ b m, d ≠ .tup b m := fun b m e => by subst e; simp [Go.Proofs.YtjiddcchklaiiaaGreatDoor.keepD] at hd
 exact (RepD.of0 ht).2 (RepD0.keepD hg hd ((RepD.of0 ht).1 h))
theorem backB_get {l0 : List Nat} {hp : List (Nat × Blk)} : ∀ (l : List Nat) (acc : List (Nat × Blk)) (r : Nat) (b : Blk), aget (backB l0 hp l acc) r = some b → aget acc r = some b ∨ (r ∈ l ∧ aget hp r = some b ∧ keepB l0 b = true)
 | [], acc, r, b, h => .inl h
 | q :: rest, acc, r, b, h => by
   unfold backB at h
   split at h
   · rename_i b' h1
     split at h
     · rename_i h2
       rcases backB_get rest _ r b h with h3 | ⟨h3, h4⟩
       · by_cases hr : r = q
         · subst hr
           rw [aget_aset_same] at h3
           cases h3
           exact .inr ⟨by simp, h1, h2⟩
         · rw [aget_aset_other _ _ hr] at h3
           exact .inl h3
       · exact .inr ⟨by simp [h3], h4⟩
     · rcases backB_get rest _ r b h with h3 | ⟨h3, h4⟩
       · exact .inl h3
       · exact .inr ⟨by simp [h3], h4⟩
   · rcases backB_get rest _ r b h with h3 | ⟨h3, h4⟩
     · exact .inl h3
     · exact .inr ⟨by simp [h3], h4⟩
theorem All2.all {α β : Type} {R R' : α → β → Prop} {q : α → Bool} (hR : ∀ a b, q a = true → R a b → R' a b) : ∀ {l : List α} {m : List β}, l.all q = true → All2 R l m → All2 R' l m
 | [], [], _, h => h
 | x :: l, y :: m, hq, h => by
   simp only [List.all_cons, Bool.and_eq_true] at hq
   exact ⟨hR _ _ hq.1 h.1, All2.all hR hq.2 h.2⟩
theorem RepB.keepB {M : Nat → Nat → Prop} {g g' : Gh} {l : List Nat} (hg : ∀ r, r ∈ l → g' r = g r) {x : GB} {blk : Blk} (hd : Go.Proofs.YtjiddcchklaiiaaGreatDoor.keepB l blk = true) (h : RepB M w g x blk) : RepB M w g' x blk := by
 cases blk with
 | cells ds =>
   obtain ⟨b, vs, el, e, h1, h2⟩ := h
   exact ⟨b, vs, el, e, h1, All2.all (R := RepD0 M w g) (R' := RepD0 M w g') (fun d v hq h => RepD0.keepD hg hq h) hd h2⟩
 | bld T ds =>
   obtain ⟨b, p, vs, e, h1, h0, h2⟩ := h
   exact ⟨b, p, vs, e, h1, h0, All2.all (R := RepD0 M w g) (R' := RepD0 M w g') (fun d v hq h => RepD0.keepD hg hq h) hd h2⟩
 | map e m => exact h
 | row e t ex xs => exact h
 | iter e l => exact h
 | que e t xs => exact h
theorem Sim.again (hs : Sim df G B0 M0 w0 gi g st a w) (l ds : List Nat) {g' : Gh} {st' : St} {a' : Act} {w' : World} (hs' : Sim df G B0 (Mapart M0 g l) w (g.off l).base g' st' a' w')
   (hn : st'.n = st.n) (ht : ∀ t, memN ds t = false → a'.tmps.getD t undef = a.tmps.getD t undef) : Sim df G B0 M0 w0 gi (g.back g' l) (st.again st' l ds) a' w' := by
 have hM : ∀ b o, Mof M0 (g.back g' l) b o → Mof (Mapart M0 g l) g' b o := fun b o h => by
   rcases h with h | ⟨r, x, h1, h2, h3⟩
   · exact .inl (.inl h)
   · unfold Gh.back at h1
     split at h1
     · rename_i hm; exact .inl (.inr ⟨r, x, hm, h1, h2, h3⟩)
     · exact .inr ⟨r, x, h1, h2, h3⟩
 have hst1 : Step (Mof (Mapart M0 g l) g') w' (Mof M0 (g.back g' l)) w' := Step.sub hM w'
 have hM2 : ∀ b o, Mof (Mapart M0 g l) (g.off l).base b o → Mof M0 g b o := fun b o h => Mof_apart.1 (Mof_base.1 h)
 have hst2 : Step (Mof M0 g) w (Mof M0 (g.back g' l)) w' := ((Step.sub hM2 w).trans hs'.stp).trans hst1
 have hgl : ∀ r, r ∉ l → g.back g' l r = g' r := fun r hr => by
   unfold Gh.back
   cases h : memN l r with
   | false => rfl
   | true => exact absurd (memN_iff.1 h) hr
 have hgm : ∀ {r}, memN l r = true → g.back g' l r = g r := fun {r} hr => by unfold Gh.back; rw [hr]
 have hoff : ∀ {r x b}, memN l r = true → g r = some x → x.blk = some b → ¬ Xof (g.off l).base b := fun {r x b} hm h1 h2 hX => by
   obtain ⟨r', x', h4, h5⟩ := Xof_base.1 hX
   obtain ⟨h6, h7⟩ := Gh.off_some h4
   have := hs.inj _ _ _ _ _ h1 h7 h2 h5
   rw [this, h6] at hm
   cases hm
 have hheap : ∀ {r x b}, memN l r = true → g r = some x → x.blk = some b → w'.heap[b]? = w.heap[b]? := fun {r x b} hm h1 h2 => hs'.ext.block b (hs.low r x b h1 h2).2.1 (hoff hm h1 h2)
 have hcase : ∀ {r x}, g.back g' l r = some x → (memN l r = true ∧ g r = some x) ∨ (memN l r = false ∧ g' r = some x) := fun {r x} h => by
   unfold Gh.back at h
   split at h
   · rename_i hm; exact .inl ⟨hm, h⟩
   · rename_i hm; exact .inr ⟨hm, h⟩
 have hmix : ∀ {r r' x x' b}, memN l r = true → g r = some x → g' r' = some x' → x.blk = some b → x'.blk = some b → False := fun {r r' x x' b} hm h1 h2 h3 h4 =>
   hs'.m0x (.inr ⟨r, x, hm, h1, h3, Nat.le_refl _⟩ : Mapart M0 g l b x.lo) h2 h4
 refine { defers := hs'.defers, sz := hs'.sz, fr := fun t d hd => ?_, inb := fun t d hd => ?_, hp := fun r blk hb => ?_, low := fun r x b h1 h2 => ?_, inj := fun r r' x x' b h1 h2 h3 h4 => ?_, row := fun r x b h1 h2 h3 es c => ?_, m0 := hs.m0, pin := fun r x h1 h2 => ?_, gin := hs.gin, gil := hs.gil, ext := ?_, stp := hs.stp.trans hst2, gg := hs.gg, b0 := hs.b0 }
 · rcases backF_get _ _ _ _ hd with h | ⟨h1, h2, h3⟩
   · obtain ⟨d0, h1, rfl⟩ := lift_fr h
     exact RepD.lift (fun d v h => RepD0.forget hst1 hgl h) (fun _ _ => rfl) (hs'.fr t d0 h1)
   · rw [ht t h1]
     exact RepD.keepD (fun r hr => hgm (memN_iff.2 hr)) h3 ((hs.fr t _ h2).step hst2)
 · show t < st'.n
   rcases backF_get _ _ _ _ hd with h | ⟨h1, h2, _⟩
   · obtain ⟨d0, h1, _⟩ := lift_fr h
     exact hs'.inb t d0 h1
   · rw [hn]; exact hs.inb t d h2
 · rcases backB_get _ _ _ _ hb with h | ⟨h1, h2, h3⟩
   · rw [aget_adrop] at h
     cases hm : memN l r with
     | true => rw [hm] at h; cases h
     | false =>
       rw [hm] at h
       obtain ⟨b0, h1, rfl⟩ := lift_hp h
       obtain ⟨x, h2, h3⟩ := hs'.hp r b0 h1
       refine ⟨x, ?_, h3.forget hst1 hgl⟩
       unfold Gh.back; rw [hm]; exact h2
   · have hm : memN l r = true := memN_iff.2 h1
     obtain ⟨x, h4, h5⟩ := hs.hp r _ h2
     exact ⟨x, (hgm hm).trans h4, RepB.keepB (fun r hr => hgm (memN_iff.2 hr)) h3 (RepB.step hst2 (fun b hb => hheap hm h4 hb) h5)⟩
 · rcases hcase h1 with ⟨hm, h3⟩ | ⟨_, h3⟩
   · obtain ⟨h4, h5, h6⟩ := hs.low r x b h3 h2
     exact ⟨h4, Nat.lt_of_lt_of_le h5 hs'.size, h6⟩
   · obtain ⟨h4, h5, h6⟩ := hs'.low r x b h3 h2
     refine ⟨h4, h5, ?_⟩
     rcases h6 with h6 | h6
     · obtain ⟨r', x', h7, h8⟩ := Xof_base.1 h6
       exact (hs.low r' x' b (Gh.off_some h7).2 h8).2.2
     · exact .inr (Nat.le_trans hs.size h6)
 · rcases hcase h1 with ⟨m1, k1⟩ | ⟨m1, k1⟩ <;> rcases hcase h2 with ⟨m2, k2⟩ | ⟨m2, k2⟩
   · exact hs.inj _ _ _ _ _ k1 k2 h3 h4
   · exact (hmix m1 k1 k2 h3 h4).elim
   · exact (hmix m2 k2 k1 h4 h3).elim
   · exact hs'.inj _ _ _ _ _ k1 k2 h3 h4
 · rcases hcase h1 with ⟨hm, k1⟩ | ⟨_, k1⟩
   · rw [hheap hm k1 h2]; exact hs.row r x b k1 h2 h3 es c
   · exact hs'.row r x b k1 h2 h3 es c
 · have h3 := hs.pin r x h1 h2
   cases hm : memN l r with
   | true => exact (hgm hm).trans h3
   | false =>
     unfold Gh.back; rw [hm]
     refine hs'.pin r x ?_ h2
     unfold Gh.base
     rw [Gh.off_of hm, h3]
     dsimp only [Option.map]
     rw [if_pos (hs.gin r x h1 h2)]
 · refine hs.ext.trans hs'.ext fun n hn hX => ?_
   obtain ⟨r', x', h7, h8⟩ := Xof_base.1 hX
   rcases (hs.low r' x' n (Gh.off_some h7).2 h8).2.2 with h9 | h9
   · exact h9
   · omega
end
end Go.Proofs.YtjiddcchklaiiaaGreatDoor


/- A loop over a map: 'range' begins one, 'next' hands out one of the entries that are left, whichever. -/
namespace Go.Proofs.YtjiddcchklaiiaaGreatDoor
set_option linter.unusedVariables false
set_option linter.unusedSimpArgs false
open Go Go.RowKit
section
variable {P : Program} {df : List Deferred} {G : World → Prop} {B0 : Nat} {E : Env} {M : Nat → Nat → Prop} {M0 : Nat → Nat → Prop} {w0 : World} {gi g : Gh} {st : St} {a : Act} {w : World}
theorem All2.erase {α β : Type} {R : α → β → Prop} : ∀ {l : List α} {m : List β}, All2 R l m → ∀ i, All2 R (l.eraseIdx i) (m.eraseIdx i)
 | [], [], _, _ => trivial
 | _ :: _, _ :: _, h, 0 => h.2
 | _ :: _, _ :: _, h, i + 1 => ⟨h.1, All2.erase h.2 i⟩
 | [], _ :: _, h, _ => h.elim
 | _ :: _, [], h, _ => h.elim
theorem filter_erase : ∀ (l : List MapEntry) (i : Nat) (en : MapEntry), (l.map (·.born)).Nodup → l[i]? = some en → l.filter (fun y => !(y.born == en.born)) = l.eraseIdx i
 | [], _, _, _, h => by cases h
 | x :: l, 0, en, hn, h => by
   have hx : x = en := by simpa using h
   subst hx
   have hn' := List.nodup_cons.1 hn
   rw [List.filter_cons]
   simp only [beq_self_eq_true, Bool.not_true, Bool.false_eq_true, if_false, List.eraseIdx_cons_zero]
   rw [List.filter_eq_self]
   intro y hy
   have : y.born ≠ x.born := fun e => hn'.1 (List.mem_map.2 ⟨y, hy, e⟩)
   simp [this]
 | x :: l, i + 1, en, hn, h => by
   have hn' := List.nodup_cons.1 hn
   have h' : l[i]? = some en := by simpa using h
   have hx : x.born ≠ en.born := fun e => hn'.1 (List.mem_map.2 ⟨en, List.mem_of_getElem? h', e.symm⟩)
   rw [List.filter_cons]
   have hb : (!(x.born == en.born)) = true := by simp [hx]
   rw [if_pos hb, List.eraseIdx_cons_succ, filter_erase l i en hn'.2 h']
theorem rangeGo {R : Type} [BothC R] (hE : EnvOk P G B0 E) {o : Oper} {k : St → Option R} {r : R} {K : Act → World → Prop} {Q : Exit → Act → World → Prop} (hK : Goes df G B0 M0 w0 gi k r K) {g : Gh} {st : St} (hs : Sim df G B0 M0 w0 gi g st a w)
   {T : TypeId} {x : Operand} (ho : o.op = .range T x) {e : Ty} (hT : E.ty T = some (.mp e)) {q : Nat} (hd : o.dst = some q) {b : Nat} {es : Array MapEntry} {c : Nat} {m : List (List UInt8 × e.den)} (hev : a.eval x = .map (some b)) (hb : w.heap[b]? = some (.map es c)) (hnot : ¬ Mof M0 g b 0)
   (ha : All2 (fun x y => y.key = .string ⟨x.1.toArray⟩ ∧ RepV (Mof M0 g) w e x.2 y.val) m es.toList) (hsp : MapKept.Stamped es c) (h : k ((st.new (nm q) (.iter e m none)).put (some q) (.box (nm q) 0)) = some r) : o.wp P a w K Q := by
 obtain ⟨kt, el, hu, huk, hel⟩ := hE.mp _ _ hT
 have hrun := run_range_map w T kt el b es c hu hb
 refine wp_ret (s := Instr.range T (a.eval x)) (v := .pointer (some ⟨w.heap.size, 0, none⟩)) (w' := w.alloc (.mapIter (some b) c #[] c)) (by simp only [execOp, ho]) (by rw [hev]; exact hrun) ?_
 rw [hd]
 have hE' : Ext w (w.alloc (.mapIter (some b) c #[] c)) := (Ext.refl w).alloc _
 refine hK _ _ _ _ (Sim.put (hs.newB (r := nm q) (z := ⟨some w.heap.size, 0, boxV w.heap.size⟩) (Nat.le_add_right _ _) hE' (blk := .iter e m none) (fun b' hb' => ?_) (fun hst => ?_)) (some q) ?_) h
 · have : w.heap.size = b' := by simpa using hb'
   subst this
   exact ⟨Nat.le_refl _, by simp, fun es c hc => absurd hc (Nat.lt_irrefl 0)⟩
 · obtain ⟨h12, h13⟩ := hst.2 _ _ _ hb hnot
   refine ⟨_, b, es, c, c, #[], c, rfl, heap_alloc_new _ _, h12, h13, hsp.1, Nat.le_refl _, Nat.le_refl _, hsp, ?_, fun p hp => by cases hp⟩
   have : es.toList.filter (fun y => !(#[] : Array Nat).contains y.born) = es.toList := by simp
   rw [this]
   exact ha.mono fun _ _ ⟨a, b⟩ => ⟨a, b.step hst⟩
 · exact ⟨_, _, Gh.set_same _ _ _, rfl, rfl⟩
theorem range_wp {R : Type} [BothC R] (hE : EnvOk P G B0 E) {o : Oper} {k : St → Option R} {r : R} {K : Act → World → Prop} {Q : Exit → Act → World → Prop} (hs : Sim df G B0 M0 w0 gi g st a w) (hK : Goes df G B0 M0 w0 gi k r K)
   {T : TypeId} {x : Operand} (ho : o.op = .range T x) (h : opD E o st k = some r) : o.wp P a w K Q := by
 simp only [opD, ho, putK_eq, newK_eq, liftK_eq, delBK_eq] at h
 have hx := hs.ev x
 split at h
 · rename_i e q e' m hT hd hev
   rw [hev] at hx
   split at h
   · rename_i e1
     subst e1
     obtain ⟨b, es, c, e1, h1, h2, h3, h4⟩ := RepV.plain (t := .mp e') rfl hx
     simp only [List.cons.injEq, and_true] at e1
     exact rangeGo hE hK hs ho hT hd e1 h1 h2 h3 h4 h
   · cases h
 · rename_i e q r' hT hd hev
   rw [hev] at hx
   obtain ⟨gx, b, hg, hgv, ev⟩ := hx
   split at h
   · cases h
   · rename_i hlt
     split at h
     · rename_i e' m hcs
       split at h
       · rename_i e1
         subst e1
         obtain ⟨gx', hg', b', es, c, e2, h1, h2, h3⟩ := hs.hp _ _ hcs
         rw [hg] at hg'
         cases hg'
         subst e2
         have e3 : b' = b := by simpa using hgv
         subst e3
         have hr : 1000 ≤ r' := by
           rcases Nat.lt_or_ge r' 1000 with h | h
           · rw [show Nat.blt r' 1000 = true from by rw [Nat.blt_eq]; exact h] at hlt; cases hlt
           · exact h
         have hnot : ¬ Mof M0 (g.set r' none) b' 0 := by
           intro h
           rcases h with h | ⟨r'', y, h1, h2, h3⟩
           · exact hs.m0x h hg rfl
           · by_cases hr : r'' = r'
             · subst hr; rw [Gh.set_same] at h1; cases h1
             · rw [Gh.set_other _ _ hr] at h1
               exact hr (hs.inj _ _ _ _ _ h1 hg h2 rfl)
         have hs' := hs.gone (r := r') (fun x h1 h2 => absurd (hs.gin _ _ h1 h2) (by omega)) (φ := Go.Proofs.YtjiddcchklaiiaaGreatDoor.freezeM r' e' m) (fun d v hst hd => RepD0.freezeM hg rfl hst h1 hnot (h2.mono fun _ _ ⟨a, b⟩ => ⟨a, b.step hst⟩) h3 hd) fun _ _ => rfl
         have hstep : Step (Mof M0 g) w (Mof M0 (g.set r' none)) w := by
           have ht : Turn g r' none w w := ⟨rfl, rfl, rfl, Nat.le_refl _, fun _ _ _ => rfl, fun z b h => (by cases h), fun x b _ _ _ => ⟨fun _ _ _ _ h => h, fun z h => (by cases h)⟩, fun z b h => (by cases h)⟩
           exact ht.step hs
         exact rangeGo hE hK hs' ho hT hd ev h1 hnot (h2.mono fun _ _ ⟨a, b⟩ => ⟨a, b.step hstep⟩) h3 h
       · cases h
     · cases h
 · cases h
theorem next_wp {R : Type} [BothC R] (hE : EnvOk P G B0 E) {o : Oper} {k : St → Option R} {r : R} {K : Act → World → Prop} {Q : Exit → Act → World → Prop} (hs : Sim df G B0 M0 w0 gi g st a w) (hK : Goes df G B0 M0 w0 gi k r K)
   {it : Operand} (ho : o.op = .next it false) (h : opD E o st k = some r) : o.wp P a w K Q := by
 simp only [opD, ho, putK_eq, setBK_eq] at h
 have hx := hs.ev it
 split at h
 · rename_i q r' hd hev
   rw [hev] at hx
   obtain ⟨gx, b, hg, hgv, ev⟩ := hx
   split at h
   · rename_i e l cur hcs
     obtain ⟨gx', hg', ib, bm, es, c, since, seen, c0, e1, h1, h2, h3, h4, h5, h6, h7, h8, _⟩ := hs.hp _ _ hcs
     rw [hg] at hg'
     cases hg'
     subst e1
     have e3 : ib = b := by simpa [boxV] using hgv
     subst e3
     have hrun := run_next_at (P := P) w o.type ib bm since c0 seen es c h1 h2 h4 h5
     have hlf : (leftOf es seen).toList = es.toList.filter fun y => !seen.contains y.born := by simp [leftOf]
     have hsz : (leftOf es seen).size = l.length := by rw [← Array.length_toList, hlf, h8.len]
     rcases br_some h with ⟨hem, h⟩ | ⟨hem, h⟩
     · have hl0 : l = [] := List.isEmpty_iff.1 hem
       rcases hrun with ⟨_, hrun⟩ | ⟨en, hen, _⟩
       · refine wp_ret (s := Instr.next (a.eval it) false o.type) (v := .tuple #[.bool false]) (w' := w) (by simp only [execOp, ho]) (by rw [ev]; exact hrun) ?_
         rw [hd]
         exact hK _ _ _ _ (hs.put (some q) (d := .tup false [.bl false]) ⟨#[.bool false], rfl, rfl, trivial⟩) h
       · subst hl0
         have : (leftOf es seen).toList = [] := List.eq_nil_of_length_eq_zero (by rw [Array.length_toList, hsz]; rfl)
         rw [this] at hen
         cases hen
     · rcases hrun with ⟨hz, _⟩ | ⟨en, hen, w1, hw1, hrun⟩
       · have : l = [] := List.eq_nil_of_length_eq_zero (by omega)
         subst this
         cases hem
       · rw [hlf] at hen
         obtain ⟨i, hi⟩ := List.getElem?_of_mem hen
         obtain ⟨p, hp, hpk, hpv⟩ := h8.get' hi
         have hil : i < l.length := (List.getElem?_eq_some_iff.1 hp).1
         have hpi : l[i] = p := (List.getElem?_eq_some_iff.1 hp).2
         have hk := BothC.allaw h i hil
         rw [hpi] at hk
         have hbl : ib < w.heap.size := by
           rcases Nat.lt_or_ge ib w.heap.size with h | h
           · exact h
           · simp [Array.getElem?_eq_none h] at h1
         have hw1h : w1.heap = w.heap := by rcases hw1 with e | e <;> rw [e] <;> rfl
         have hw1o : w1.os = w.os := by rcases hw1 with e | e <;> rw [e] <;> rfl
         have hw1t : w1.tape = w.tape := by rcases hw1 with e | e <;> rw [e] <;> rfl
         have hw1p : w1.output = w.output := by rcases hw1 with e | e <;> rw [e] <;> rfl
         refine wp_ret (s := Instr.next (a.eval it) false o.type) (v := .tuple #[.bool true, en.key, en.val]) (w' := ChangeMaps.setBlock w1 ib (.mapIter (some bm) since (seen.push en.born) c)) (by simp only [execOp, ho]) (by rw [ev]; exact hrun) ?_
         rw [hd]
         have hheap : (ChangeMaps.setBlock w1 ib (.mapIter (some bm) since (seen.push en.born) c)).heap = w.heap.setIfInBounds ib (.mapIter (some bm) since (seen.push en.born) c) := by
           show w1.heap.setIfInBounds _ _ = _
           rw [hw1h]
         have hother : ∀ j, j ≠ ib → (ChangeMaps.setBlock w1 ib (.mapIter (some bm) since (seen.push en.born) c)).heap[j]? = w.heap[j]? := fun j hj => by rw [hheap, Array.getElem?_setIfInBounds, if_neg (Ne.symm hj)]
         have hstp : Step (Mof M0 g) w (Mof M0 g) (ChangeMaps.setBlock w1 ib (.mapIter (some bm) since (seen.push en.born) c)) := by
           have hgs := Gh.set_self g r' hg
           have ht : Turn g r' (some ⟨some ib, 0, boxV ib⟩) w (ChangeMaps.setBlock w1 ib (.mapIter (some bm) since (seen.push en.born) c)) := ⟨hw1o, hw1t, hw1p, by rw [hheap]; simp, fun b hb h => hother b fun e => h _ hg (by rw [e]), fun z b h1 h2 => by
               cases h1
               exact ⟨Nat.lt_of_lt_of_le (hs.low _ _ _ hg h2).2.1 (by rw [hheap]; simp), .inr ⟨_, hg, h2⟩⟩, fun x' b h1 h2 h3 => by
               rw [hg] at h1; cases h1
               exact absurd h3 (Nat.lt_irrefl 0), fun z b h1 h2 h3 => by cases h1; exact absurd h3 (Nat.lt_irrefl 0)⟩
           have := ht.step hs
           rw [hgs] at this
           exact this
         have hrep : ∀ (hst : Step (Mof M0 g) w (Mof M0 g) (ChangeMaps.setBlock w1 ib (.mapIter (some bm) since (seen.push en.born) c))), RepB (Mof M0 g) (ChangeMaps.setBlock w1 ib (.mapIter (some bm) since (seen.push en.born) c)) g ⟨some ib, 0, boxV ib⟩ (.iter e (l.eraseIdx i) (some p)) := by
           intro hst
           obtain ⟨h12, h13⟩ := hst.2 _ _ _ h2 h3
           refine ⟨ib, bm, es, c, since, seen.push en.born, c, rfl, ?_, h12, h13, h4, h6, h6, h7, ?_, fun p' hp' => ?_⟩
           · rw [hheap, Array.getElem?_setIfInBounds, if_pos rfl, if_pos hbl]
           · have hf : (es.toList.filter fun y => !(seen.push en.born).contains y.born) = (es.toList.filter fun y => !seen.contains y.born).eraseIdx i := by
               rw [← filter_erase _ i en ?_ hi, List.filter_filter]
               · apply List.filter_congr
                 intro y _
                 simp [Bool.and_comm]
                 rfl
               · exact List.Nodup.sublist (List.filter_sublist.map _) h7.2.1
             rw [hf]
             exact (h8.mono fun _ _ ⟨a, b⟩ => ⟨a, b.step hst⟩).erase i
           · cases hp'
             exact ⟨rfl, seen, en, rfl, (List.mem_filter.1 hen).1, hpk, hpv.step hst⟩
         refine hK _ _ _ _ (Sim.put (hs.setObj hg (w' := ChangeMaps.setBlock w1 ib (.mapIter (some bm) since (seen.push en.born) c)) hw1o hw1t hw1p (by rw [hheap]; simp) hother (blk := .iter e (l.eraseIdx i) (some p)) hrep) (some q) (d := .tup false [.bl true, .v .str p.1, .v e p.2]) ⟨#[.bool true, en.key, en.val], rfl, rfl, ⟨_, rfl, hpk⟩, hpv.step hstp, trivial⟩) hk
   · cases h
 · cases h
theorem entry_wp {R : Type} [BothC R] (hE : EnvOk P G B0 E) {o : Oper} {k : St → Option R} {r : R} {K : Act → World → Prop} {Q : Exit → Act → World → Prop} (hs : Sim df G B0 M0 w0 gi g st a w) (hK : Goes df G B0 M0 w0 gi k r K)
   {it : Operand} (ho : o.op = .entry it) (h : opD E o st k = some r) : o.wp P a w K Q := by
 simp only [opD, ho, putK_eq] at h
 have hx := hs.ev it
 split at h
 · rename_i q r' hd hev
   rw [hev] at hx
   obtain ⟨gx, b, hg, hgv, ev⟩ := hx
   split at h
   · rename_i e l p hcs
     obtain ⟨gx', hg', ib, bm, es, c, since, seen, c0, e1, h1, h2, h3, h4, h5, h6, h7, h8, h9⟩ := hs.hp _ _ hcs
     rw [hg] at hg'
     cases hg'
     subst e1
     have e3 : ib = b := by simpa [boxV] using hgv
     subst e3
     obtain ⟨e4, seen', y, e5, hy, hk, hv⟩ := h9 _ rfl
     subst e4 e5
     have hrun := run_entry_at (P := P) w ib bm since seen' es c0 y h1 h2 hy h7.2.1
     refine wp_ret (s := Instr.entry (a.eval it)) (v := .tuple #[y.key, y.val]) (w' := w) (by simp only [execOp, ho]) (by rw [ev]; exact hrun) ?_
     rw [hd]
     exact hK _ _ _ _ (hs.put (some q) (d := .tup false [.v .str p.1, .v e p.2]) ⟨#[y.key, y.val], rfl, ⟨_, rfl, hk⟩, hv, trivial⟩) h
   · cases h
 · cases h
end
end Go.Proofs.YtjiddcchklaiiaaGreatDoor


/- The machine of values is right about whole functions. -/
namespace Go.Proofs.YtjiddcchklaiiaaGreatDoor
set_option linter.unusedVariables false
set_option linter.unusedSimpArgs false
open Go Go.RowKit
section
variable {P : Program} {df : List Deferred} {G : World → Prop} {B0 : Nat} {E : Env} {M : Nat → Nat → Prop} {M0 : Nat → Nat → Prop} {w0 : World} {gi g : Gh} {st : St} {a : Act} {w : World}
theorem conv_bytes_wp {R : Type} [BothC R] (hE : EnvOk P G B0 E) {o : Oper} {k : St → Option R} {r : R} {K : Act → World → Prop} {Q : Exit → Act → World → Prop} (hs : Sim df G B0 M0 w0 gi g st a w) (hK : Goes df G B0 M0 w0 gi k r K)
   {S T : TypeId} {x : Operand} (ho : o.op = .convert S T x) {e : TypeId} {s : List UInt8} (hS : E.ty S = some .str) (hT : E.el T = some (e, .u8)) (hx : RepD (Mof M0 g) w g (.v .str s) (a.eval x))
   (hb : s.length * 24 ≤ 140737488355328) (h : k (st.put o.dst (.v (.sl .u8) s)) = some r) : o.wp P a w K Q := by
 have hx' := RepD.str hx
 obtain ⟨he, bytes, ⟨hu, _⟩, _⟩ := hE.el _ _ _ hT
 have hm : s.length ≤ maxLen := by unfold maxLen; omega
 have hrun := run_bytes_of_string (P := P) w S T e ⟨s.toArray⟩ (und_str (hE.ty _ _ hS)) hu (und_u8 he)
 have hsz : (⟨s.toArray⟩ : ByteArray).size = s.length := rfl
 have hge := grownCap_ge w s.length 0 e
 have hle := grownCap_le_maxLen w s.length 0 e hm
 rw [hsz] at hrun
 generalize hcap : grownCap w s.length 0 e = cap at hrun hge hle
 generalize hrow : bytesRow ⟨s.toArray⟩ cap = row at hrun
 have hget : ∀ j (hj : j < s.length), row[j]? = some (.int .u8 (s[j].toNat : Int)) := fun j hj => by
   rw [← hrow]
   unfold bytesRow
   rw [Array.getElem?_append_left (by simpa using hj)]
   simp [hj]
 have hext : Ext w (w.drew.alloc (.cells row e (row.size, row.size + 1))) := (Ext.refl w).drew.alloc _
 refine wp_ret (s := convert S T (.string ⟨s.toArray⟩)) (by simp [execOp, ho, hx']) hrun ?_
 refine hK _ _ _ _ ((hs.later hext).put o.dst (d := .v (.sl .u8) s) ?_) h
 refine RepC.toV (t := .sl .u8) rfl ⟨some ⟨w.heap.size, 0, none⟩, cap, rfl, hge, hle, fun i hi => ⟨⟨w.heap.size, 0, none⟩, [.int .u8 (s[i].toNat : Int)], rfl, rfl, fun j u hu => ?_⟩⟩
 match j, hu with
 | 0, hu =>
   simp only [List.getElem?_cons_zero, Option.some.injEq] at hu
   subst hu
   have e1 : ((⟨w.heap.size, 0, none⟩ : Addr).add (i * Ty.u8.sz)).add 0 = ⟨w.heap.size, i, none⟩ := by
     rw [Addr.add_box, Addr.add_box]; show (⟨w.heap.size, 0 + i * 1 + 0, none⟩ : Addr) = _; congr 1; omega
   rw [e1]
   refine ⟨?_, fun hM => ?_⟩
   · have hnew : (w.drew.alloc (.cells row e (row.size, row.size + 1))).heap[w.heap.size]? = some (.cells row e (row.size, row.size + 1)) := by
       show (w.heap.push _)[w.heap.size]? = _
       simp
     have hc : ∀ (w : World) (b o : Nat) (c : Array Value) (e : TypeId) (fr : Nat × Nat), w.heap[b]? = some (.cells c e fr) → w.cell? ⟨b, o, none⟩ = c[o]? := fun w b o c e fr h => by
       simp [World.cell?, h]
     rw [hc _ _ _ _ _ _ hnew]
     exact hget i hi
   · have := hs.mlt hM
     exact absurd this (Nat.lt_irrefl _)
theorem opD_sound {R : Type} [BothC R] (hE : EnvOk P G B0 E) {o : Oper} {k : St → Option R} {r : R} {K : Act → World → Prop} {Q : Exit → Act → World → Prop} (hs : Sim df G B0 M0 w0 gi g st a w) (hK : Goes df G B0 M0 w0 gi k r K) (hP : PansS df G B0 E.bad M0 w0 gi r Q)
   (h : opD E o st k = some r) : o.wp P a w K Q := by
 have h0 := h
 unfold opD at h
 simp only [putK_eq] at h
 split at h
 · rename_i ho; exact nil_wp hE hs hK ho h0
 · rename_i T ho; exact alloc_wp hE hs hK ho h0
 · rename_i T x ho; exact box_wp hE hs hK ho h0
 · rename_i T x v ho; exact store_wp hE hs hK ho h0
 · rename_i f first caps ho; exact makeFunc_wp hs hK ho h0
 · rename_i T ho; exact makeMap_wp hE hs hK ho h0
 · rename_i T m key x ho; exact mapUpdate_wp hE hs hK (.inl ho) h0
 · rename_i T m key x ho; exact mapUpdate_wp hE hs hK (.inr ho) h0
 · rename_i T n c ho; exact makeSlice_wp hE hs hK ho h0
 · rename_i T n ps ho; exact buildSlice_wp hE hs hK ho h0
 · rename_i T x ho; exact range_wp hE hs hK ho h0
 · rename_i it ho; exact next_wp hE hs hK ho h0
 · rename_i it ho; exact entry_wp hE hs hK ho h0
 · rename_i T ps ho; exact buildO_wp hE hs hK ho h0
 · rename_i T x hi ho; exact trunc_wp hE hs hK ho h0
 · rename_i T x lo ho; exact tail_wp hE hs hK ho h0
 · rename_i S T x ho
   split at h
   · rename_i e s hS hT hd
     rcases br_some h with ⟨hc, h⟩ | ⟨_, h⟩
     · have hx := hs.ev x
       rw [hd] at hx
       exact conv_bytes_wp hE hs hK ho hS hT hx (of_decide_eq_true hc) h
     · cases h
   · exact wp_val hE hs hK (by rw [ho] at h ⊢; exact h)
 · rename_i T x ho
   obtain ⟨g', st', hs', h'⟩ := load_soft hs ho h0
   exact wp_val hE hs' hK h'
 · rename_i c ho
   split at h
   · rename_i f hc; exact call_wp hE hs hK hP ho hc h0
   · rename_i hc; exact clear_wp hE hs hK ho hc h0
   · rename_i t hc; exact callT_wp hE hs hK hP ho hc h0
   · rename_i hc; exact append_wp hE hs hK ho hc h0
   · exact wp_val hE hs hK (by rw [ho] at h ⊢; exact h)
 · exact wp_val hE hs hK h
theorem evt (hs : Sim df G B0 M0 w0 gi g st a w) {t : Nat} {d : D} (h : st.ev (.tmp t) = d) : RepD (Mof M0 g) w g d (a.tmps.getD t undef) := by
 have := hs.ev (.tmp t)
 rw [h] at this; exact this
theorem slot_lt (hs : Sim df G B0 M0 w0 gi g st a w) {t : Nat} {d : D} (h : st.ev (.tmp t) = d) (hd : d ≠ .dead := by intro h; cases h) : t < a.tmps.size := by
 rw [hs.sz]
 simp only [St.ev] at h
 split at h
 · rename_i d' hd'
   exact hs.inb t d' hd'
 · exact absurd h.symm hd
theorem getD_of {l : Array Value} {t : Nat} {v : Value} (h : l.getD t undef = v) (hl : t < l.size) : l[t]? = some v := by
 rw [Array.getD_eq_getD_getElem?, Array.getElem?_eq_getElem hl] at h
 rw [Array.getElem?_eq_getElem hl]
 simpa using h
theorem guardD_cases {R : Type} [BothC R] {ops : Array Oper} {o : Oper} {run k : St → Option R} {r : R} (hs : Sim df G B0 M0 w0 gi g st a w) (h : guardD ops.toList o st run k = some r) :
   (Region.wanted o (yielded ops a.tmps) = true ∧ ∃ st', Sim df G B0 M0 w0 gi g st' a w ∧ run st' = some r) ∨
   (Region.wanted o (yielded ops a.tmps) = false ∧ ∃ st', Sim df G B0 M0 w0 gi g st' a w ∧ k (st'.put o.dst .skip) = some r) := by
 unfold guardD at h
 simp only [putK_eq] at h
 split at h
 · rename_i hg; exact .inl ⟨by simp [Region.wanted, hg], st, hs, h⟩
 · rename_i j b hg
   split at h
   · rename_i oj hj
     split at h
     · rename_i t ht
       split at h
       · rename_i c hc
         have hv := RepD.bool (evt hs hc)
         have hlt2 : t < a.tmps.size := slot_lt hs hc
         have hy : yielded ops a.tmps j = some c := by
           rw [Array.getElem?_toList] at hj
           simp only [yielded, hj, Option.bind_some, ht, getD_of hv hlt2]
         have hw : Region.wanted o (yielded ops a.tmps) = (c == b) := by
           simp only [Region.wanted, hg, hy]
           cases c <;> cases b <;> rfl
         have hre : Sim df G B0 M0 w0 gi g (st.put (some t) (.bl c)) a w := hs.reput (RepD0.toD (d := .bl c) hv)
         rcases br_some h with ⟨e, h2⟩ | ⟨e, h2⟩
         · subst e
           cases b
           · exact .inr ⟨by rw [hw]; rfl, _, hre, h2⟩
           · exact .inl ⟨by rw [hw]; rfl, _, hre, h2⟩
         · subst e
           cases b
           · exact .inl ⟨by rw [hw]; rfl, _, hre, h2⟩
           · exact .inr ⟨by rw [hw]; rfl, _, hre, h2⟩
       · rename_i hc
         have hv : a.tmps.getD t undef = .bool true := evt hs hc
         have hlt2 : t < a.tmps.size := slot_lt hs hc
         have hy : yielded ops a.tmps j = some true := by
           rw [Array.getElem?_toList] at hj
           simp only [yielded, hj, Option.bind_some, ht, getD_of hv hlt2]
         cases b
         · exact .inr ⟨by simp [Region.wanted, hg, hy], st, hs, h⟩
         · exact .inl ⟨by simp [Region.wanted, hg, hy], st, hs, h⟩
       · rename_i hc
         have hv : a.tmps.getD t undef = .bool false := evt hs hc
         have hlt2 : t < a.tmps.size := slot_lt hs hc
         have hy : yielded ops a.tmps j = some false := by
           rw [Array.getElem?_toList] at hj
           simp only [yielded, hj, Option.bind_some, ht, getD_of hv hlt2]
         cases b
         · exact .inl ⟨by simp [Region.wanted, hg, hy], st, hs, h⟩
         · exact .inr ⟨by simp [Region.wanted, hg, hy], st, hs, h⟩
       · rename_i hc
         have hv : a.tmps.getD t undef = undef := evt hs hc
         have hlt2 : t < a.tmps.size := slot_lt hs hc
         have hy : yielded ops a.tmps j = none := by
           rw [Array.getElem?_toList] at hj
           simp only [yielded, hj, Option.bind_some, ht, getD_of hv hlt2]
           rfl
         exact .inr ⟨by simp [Region.wanted, hg, hy], st, hs, h⟩
       · cases h
     · cases h
   · cases h
theorem opsD_sound {R : Type} [BothC R] (hE : EnvOk P G B0 E) {ops : Array Oper} {k : St → Option R} {r : R} {Q : Exit → Act → World → Prop} (hK : Goes df G B0 M0 w0 gi k r (Q .normal)) (hP : Pans df E.bad M0 w0 gi r Q) : ∀ (l : List Oper) (g : Gh) (st : St) (a : Act) (w : World),
   Sim df G B0 M0 w0 gi g st a w → opsD E ops.toList l st k = some r → wpList P ops Q l a w
 | [], g, st, a, w, hs, h => hK _ _ _ _ hs h
 | o :: l, g, st, a, w, hs, h => by
   unfold wpList
   have h : guardD ops.toList o st (fun st => opD E o st (fun st => opsD E ops.toList l st k)) (fun st => opsD E ops.toList l st k) = some r := h
   rcases guardD_cases hs h with ⟨hw, st', hs', h⟩ | ⟨hw, st', hs', h⟩
   · rw [if_pos hw]
     exact .inl (opD_sound hE hs' (fun g st a w hs h => opsD_sound hE hK hP l g st a w hs h) hP.up h)
   · rw [if_neg (by rw [hw]; simp)]
     exact opsD_sound hE hK hP l g _ _ w (hs'.put _ (d := .skip) (v := undef) rfl) h
theorem quiet_val {R : Type} [BothC R] (hE : EnvOk P G B0 E) {o : Oper} {k : D → Option R} {r : R} {K : Act → Prop} (hs : Sim df G B0 M0 w0 gi g st a w) (h : valD E o.op o.type st k = some r)
   (hK : ∀ d v, RepD (Mof M0 g) w g d v → k d = some r → K (a.put o.dst v)) : o.quiet P a (fun w' => Ext w w') K := by
 obtain ⟨d, v, h1, h2, h3⟩ := valD_sound hE hs h
 refine ⟨v, fun w' hE' => ?_, hK d v h2 h1⟩
 unfold Oper.quietAt
 rw [h3 w' (KeepR.of_ext hE')]
 exact ⟨rfl, rfl⟩
theorem plainRes_two (t u : Sl) (l : List Sl) : plainRes (t :: u :: l) = false := by
 cases t with
 | v ty => cases ty <;> rfl
 | _ => rfl
theorem quiet_ret : ∀ (rs : List Sl) (y : SV rs), plainRes rs = true → ∃ v d, lays id rs y = [d] ∧ (∀ (M : Nat → Nat → Prop) (w : World) (g : Gh), RepD M w g d v) ∧ ∀ (M : Nat → Nat → Prop) (w : World) (g : Gh) (vs : List Value), All2 (RepD0 M w g) (lays id rs y) vs → rets vs = v
 | [.v .u8], y, _ => ⟨.int .u8 (UInt8.toNat y.1), .v .u8 y.1, rfl, fun _ _ _ => repU8 _, fun M w g vs h => by
   obtain ⟨v, rfl, h2⟩ := one_of h; exact RepD.u8 (g := g) h2⟩
 | [.v (.int i)], y, _ => ⟨.int i y.1, .v (.int i) y.1, rfl, fun _ _ _ => repInt i _, fun M w g vs h => by
   obtain ⟨v, rfl, h2⟩ := one_of h; exact RepD.int (g := g) h2⟩
 | [.v .bool], y, _ => ⟨.bool y.1, .v .bool y.1, rfl, fun _ _ _ => repBool _, fun M w g vs h => by
   obtain ⟨v, rfl, h2⟩ := one_of h; exact RepD.bool (g := g) h2⟩
 | [.v .str], y, _ => ⟨.string ⟨List.toArray y.1⟩, .v .str y.1, rfl, fun _ _ _ => repStr _, fun M w g vs h => by
   obtain ⟨v, rfl, h2⟩ := one_of h; exact RepD.str (g := g) h2⟩
 | [], _, h => by cases h
 | [.v (.sl _)], _, h => by cases h
 | [.v (.pr _ _)], _, h => by cases h
 | [.v .un], _, h => by cases h
 | [.v (.mp _)], _, h => by cases h
 | [.v (.ptr _)], _, h => by cases h
 | [.v (.np _)], _, h => by cases h
 | [.v .nl], _, h => by cases h
 | [.v (.rc _)], _, h => by cases h
 | [.v (.clo _ _)], _, h => by cases h
 | [.dead], _, h => by cases h
 | [.skip], _, h => by cases h
 | [.nilS], _, h => by cases h
 | [.nilP], _, h => by cases h
 | [.row _], _, h => by cases h
 | [.box _ _], _, h => by cases h
 | [.at_ _], _, h => by cases h
 | [.mref _], _, h => by cases h
 | [.fnc _ _], _, h => by cases h
 | t :: u :: l, _, h => by rw [plainRes_two] at h; cases h
where
 one_of {M : Nat → Nat → Prop} {w : World} {g : Gh} {d : D} {vs : List Value} (h : All2 (RepD0 M w g) [d] vs) : ∃ v, vs = [v] ∧ RepD0 M w g d v := by
   match vs, h with
   | [v], h => exact ⟨v, rfl, h.1⟩
theorem forget_nil : forget [] = id := by
 funext d
 cases d with
 | fnc f l =>
   have : l.any (memN []) = false := by simp [memN]
   simp [forget, this]
 | _ => rfl
theorem quiet_call {R : Type} [BothC R] (hE : EnvOk P G B0 E) {o : Oper} {F : AF} {f : FuncId} (hF : E.fn f o.dst = some F) (hq : (plainRes F.rs && F.bs.isEmpty && F.cs.isEmpty) = true) {k : St → Option R} {r : R} {K : Act → Prop} (hs : Sim df G B0 M0 w0 gi g st a w) (hK : ∀ st' a', Sim df G B0 M0 w0 gi g st' a' w → k st' = some r → K a')
   {ds : List D} {vs : List Value} (hds : All2 (RepD (Mof M0 g) w g) ds vs) (hex : ∀ w', (∀ w, (callFunc f vs.toArray).run P w = .ok (.enter f vs.toArray) w) → (execOp a.eval o).run P w' = .ok (.enter f vs.toArray) w')
   (h : callD E st o.dst f ds k = some r) : o.quiet P a (fun w' => Ext w w') K := by
 unfold callD at h
 rw [hF] at h
 dsimp only at h
 unfold callF at h
 dsimp only at h
 simp only [Bool.and_eq_true, List.isEmpty_iff] at hq
 obtain ⟨⟨hq1, hq2⟩, hq3⟩ := hq
 obtain ⟨hcf, hcalls⟩ := hE.fn _ _ _ hF
 obtain ⟨ps, bs, rs, cs, RR, out, ff⟩ := F
 dsimp only at hq1 hq2 hq3 h hcalls
 subst hq2 hq3
 split at h
 · obtain ⟨x, ρ, β, h1, _, hn1, _, hx⟩ := mtsK_sound hs ps ds vs hds List.nodup_nil h
   simp only [mbsK] at h1
   split at h1
   · rename_i hlend hlen
     obtain ⟨hlen, _⟩ := Bool.and_eq_true_iff.1 hlen
     have hρl := List.eq_nil_of_length_eq_zero (Nat.eq_of_beq_eq_true hlen)
     subst hρl
     obtain ⟨z, hz, h3⟩ := bnd_eq_some h1
     dsimp only [List.length_nil, Nat.sub_zero, fresh, List.append_nil, List.nil_append, List.any_nil] at h3
     simp only [show Nat.beq 0 0 = true from rfl, List.append_nil, List.length_nil, liftK_eq, layBsK_eq, mapK_eq, List.map_id, putK_eq, layBs, (show stale [] [] ([] : List Nat) = [] from rfl), forget_nil, lift_id] at h3
     obtain ⟨v, d, hd, hrep, huniq⟩ := quiet_ret rs (out z).1 hq1
     have hgn : ∀ j, gsub g [] j = none := fun j => by simp [gsub]
     have hmove : ∀ l (x : SV l), plainRes l = true → lays (nameOf []) l x = lays id l x := by
       intro l x hl
       unfold plainRes at hl
       split at hl <;> first | rfl | cases hl
     rw [hmove _ _ hq1, hd] at h3
     refine ⟨v, fun w' hE' => ?_, hK _ _ (hs.put _ (hrep _ _ _)) h3⟩
     have hs' := hs.later hE'
     have hGw : G w' := hE.stable _ _ _ hs'.gg hs'.ext hs'.gil
     have hargs := (hx [] β (List.prefix_refl _) fun _ h => h).mono fun _ _ hd => RepD0.step (Step.ext hE') hd
     have hfrag := frag_of (y := ()) hs' (bs := []) (ρ := []) (β := β) List.nodup_nil rfl (fun _ _ h => by cases h) hargs (fun i blk h => by cases h)
     have hcall := hcalls _ w' _ vs x () z hGw (Nat.le_trans hs'.b0 hs'.size) hfrag hz
     unfold Oper.quietAt
     rw [hex w' (hcf _)]
     refine ⟨rfl, hcall.mono ?_⟩
     rintro e' w'' ⟨vs', g', rfl, hX, _, hfr, _⟩
     exact ⟨by rw [huniq _ _ _ _ hfr.args], hE'.trans (hX.ext fun b ⟨j, x, h1, _⟩ => by rw [hgn] at h1; cases h1)⟩
   · cases h1
 · rename_i hno
   have : rs.all Sl.flat = true := by
     unfold plainRes at hq1
     split at hq1 <;> first | rfl | cases hq1
   simp [AF.calm, this] at hno
theorem opD_quiet {R : Type} [BothC R] (hE : EnvOk P G B0 E) {o : Oper} (hq : quietOp E o = true) {k : St → Option R} {r : R} {K : Act → Prop} (hs : Sim df G B0 M0 w0 gi g st a w) (hK : ∀ g' st' a', Sim df G B0 M0 w0 gi g' st' a' w → k st' = some r → K a')
   (h : opD E o st k = some r) : o.quiet P a (fun w' => Ext w w') K := by
 have h0 := h
 unfold opD at h
 simp only [putK_eq] at h
 split at h
 · rename_i ho; simp [quietOp, ho] at hq
 · rename_i T ho; simp [quietOp, ho] at hq
 · rename_i T x ho; simp [quietOp, ho] at hq
 · rename_i T x v ho; simp [quietOp, ho] at hq
 · rename_i f first caps ho; simp [quietOp, ho] at hq
 · rename_i T ho; simp [quietOp, ho] at hq
 · rename_i T m key x ho; simp [quietOp, ho] at hq
 · rename_i T m key x ho; simp [quietOp, ho] at hq
 · rename_i T n c ho; simp [quietOp, ho] at hq
 · rename_i T n ps ho; simp [quietOp, ho] at hq
 · rename_i T x ho; simp [quietOp, ho] at hq
 · rename_i it ho; simp [quietOp, ho] at hq
 · rename_i it ho; simp [quietOp, ho] at hq
 · rename_i T ps ho; simp [quietOp, ho] at hq
 · rename_i T x hi ho; simp [quietOp, ho] at hq
 · rename_i T x lo ho; simp [quietOp, ho] at hq
 · rename_i S T x ho
   have hn : E.el T = none := by simpa [quietOp, ho] using hq
   split at h
   · rename_i hT _; rw [hn] at hT; cases hT
   · exact quiet_val hE hs (k := fun d => k (st.put o.dst d)) (by rw [ho] at h ⊢; exact h) fun d v hr hk => hK _ _ _ (hs.put _ hr) hk
 · rename_i T x ho
   obtain ⟨g', st', hs', h'⟩ := load_soft hs ho h0
   exact quiet_val hE hs' (k := fun d => k (st'.put o.dst d)) h' fun d v hr hk => hK _ _ _ (hs'.put _ hr) hk
 · rename_i c ho
   split at h
   · rename_i f hc
     simp only [quietOp, ho, hc] at hq
     cases hF : E.fn f o.dst with
     | none => rw [hF] at hq; cases hq
     | some F =>
       rw [hF] at hq
       have harr : (c.args.toList.map a.eval).toArray = c.args.map a.eval := by
         apply Array.ext'
         simp
       refine quiet_call hE hF hq hs (fun st a => hK _ st a) (evs_sound hs c.args.toList) (fun w' hcf => ?_) h
       have := hcf w'
       rw [harr] at this ⊢
       simp [execOp, ho, resolve, hc, Act.eval, Deferred.ofValue, invoke, this]
   · rename_i hc; simp [quietOp, ho, hc] at hq
   · rename_i hc; simp [quietOp, ho, hc] at hq
   · rename_i hc; simp [quietOp, ho, hc] at hq
   · exact quiet_val hE hs (k := fun d => k (st.put o.dst d)) (by rw [ho] at h ⊢; exact h) fun d v hr hk => hK _ _ _ (hs.put _ hr) hk
 · exact quiet_val hE hs (k := fun d => k (st.put o.dst d)) h fun d v hr hk => hK _ _ _ (hs.put _ hr) hk
theorem opsD_quiet {R : Type} [BothC R] (hE : EnvOk P G B0 E) {ops : Array Oper} {k : St → Option R} {r : R} {Q : Exit → Act → World → Prop} (hK : Goes df G B0 M0 w0 gi k r (Q .normal)) : ∀ (l : List Oper) (g : Gh) (st : St) (a : Act), l.all (quietOp E) = true →
   Sim df G B0 M0 w0 gi g st a w → opsD E ops.toList l st k = some r → wpQuiet P ops (fun w' => Ext w w') (fun a' => ∀ w', Ext w w' → Q .normal a' w') l a
 | [], g, st, a, _, hs, h => fun w' hE' => hK _ _ _ _ (hs.later hE') h
 | o :: l, g, st, a, hq, hs, h => by
   simp only [List.all_cons, Bool.and_eq_true] at hq
   unfold wpQuiet
   have h : guardD ops.toList o st (fun st => opD E o st (fun st => opsD E ops.toList l st k)) (fun st => opsD E ops.toList l st k) = some r := h
   rcases guardD_cases hs h with ⟨hw, st', hs', h⟩ | ⟨hw, st', hs', h⟩
   · rw [if_pos hw]
     exact opD_quiet hE hq.1 hs' (fun _ st a hs h => opsD_quiet hE hK l _ st a hq.2 hs h) h
   · rw [if_neg (by rw [hw]; simp)]
     exact opsD_quiet hE hK l _ _ _ hq.2 (hs'.put _ (d := .skip) (v := undef) rfl) h
end
end Go.Proofs.YtjiddcchklaiiaaGreatDoor


/- A region that draws its order, with effects in it: the machine, and that it is right. -/
namespace Go.Proofs.YtjiddcchklaiiaaGreatDoor
set_option linter.unusedVariables false
set_option linter.unusedSimpArgs false
open Go Go.RowKit
section
variable {P : Program} {df : List Deferred} {G : World → Prop} {B0 : Nat} {E : Env} {M0 : Nat → Nat → Prop} {w0 : World} {gi g : Gh} {st : St} {a : Act} {w : World} {R : Type} [BothC R]
theorem Oper.wp_put {o : Oper} {K : Act → World → Prop} {Q : Exit → Act → World → Prop} (hh : o.wp P a w K Q) : o.wp P a w (fun a' w' => K a' w' ∧ ∃ v, a'.tmps = (a.put o.dst v).tmps) Q := by
 unfold Oper.wp at *
 generalize (execOp a.eval o).run P w = r at *
 cases r with
 | ok n w' =>
   cases n <;> simp only [Oper.upon] at hh ⊢ <;>
     first
       | exact ⟨hh, _, rfl⟩
       | exact Calls.mono hh (fun e w'' he => by cases e <;> first | exact ⟨he, _, rfl⟩ | exact he)
       | exact Rows.mono hh (fun _ _ he => ⟨he, _, rfl⟩)
       | exact ⟨hh, undef, by cases o.dst <;> rfl⟩
       | exact hh
 | halt x w' => cases x <;> simp only [Oper.upon] at hh ⊢ <;> exact hh
def dstOf (ops : Array Oper) (i : Nat) : Option Tmp := (ops[i]?).bind (·.dst)
theorem oneD_sound {ops : Array Oper} {Q : Exit → Act → World → Prop} (hE : EnvOk P G B0 E) {K : Act → World → Prop} {k : St → Option R} {r : R} {i : Nat} (hs : Sim df G B0 M0 w0 gi g st a w) (hK : Goes df G B0 M0 w0 gi k r K) (hP : PansS df G B0 E.bad M0 w0 gi r Q) (h : oneD E ops i st k = some r) :
   wpOp P ops Q i (fun a' w' => K a' w' ∧ ∃ v, a'.tmps = (a.put (dstOf ops i) v).tmps) a w := by
 unfold oneD at h
 unfold wpOp dstOf
 cases ho : ops[i]? with
 | none => rw [ho] at h; cases h
 | some o =>
   rw [ho] at h
   dsimp only [Option.bind] at h ⊢
   rcases guardD_cases hs h with ⟨hw, st', hs', h⟩ | ⟨hw, st', hs', h⟩
   · rw [if_pos hw]
     exact .inl (Oper.wp_put (opD_sound hE hs' hK hP h))
   · rw [if_neg (by rw [hw]; simp)]
     exact ⟨hK _ _ _ _ (hs'.put o.dst (d := .skip) (v := undef) rfl) h, undef, rfl⟩
theorem still_val (hE : EnvOk P G B0 E) {o : Oper} (ho : stillOp o = true) (hs : Sim df G B0 M0 w0 gi g st a w) {k : St → Option R} {r : R} (h : opD E o st k = some r) :
   o.guard = none ∧ ∃ d v, RepD (Mof M0 g) w g d v ∧ (∀ w', (execOp a.eval o).run P w' = .ok (.value v) w') ∧ k (st.put o.dst d) = some r := by
 unfold stillOp at ho
 split at ho
 · rename_i hg
   refine ⟨hg, ?_⟩
   have hv : valD E o.op o.type st (fun d => k (st.put o.dst d)) = some r := by
     unfold opD at h
     cases hop : o.op with
     | assign x =>
       rw [hop] at h ho
       simp only [putK_eq] at h
       split at h
       case h_1 hq => cases hq; cases ho
       all_goals first
         | (rename_i hq; cases hq; done)
         | exact h
     | _ => rw [hop] at h ho; first | (cases ho; done) | (simp only [putK_eq] at h; exact h)
   obtain ⟨d, v, h1, h2, h3⟩ := valD_still hE hs ho hv
   exact ⟨d, v, h2, fun w' => h3 w' trivial, h1⟩
 · cases ho
section
theorem bothL_some {f : Nat → Option R} {r : R} : ∀ {l : List Nat}, bothL f l = some r → ∀ i ∈ l, f i = some r
 | [i], h, j, hj => by rw [List.mem_singleton.1 hj]; exact h
 | i :: j :: l, h, q, hq => by
   obtain ⟨h1, h2⟩ := BothC.law (show BothC.bo (f i) (bothL f (j :: l)) = some r from h)
   rcases List.mem_cons.1 hq with rfl | hq
   · exact h1
   · exact bothL_some h2 q hq
end
theorem still_one (hE : EnvOk P G B0 E) {ops : Array Oper} {listed : Array Bool} {j : Nat} (hj : stillB ops listed j = true) (hs : Sim df G B0 M0 w0 gi g st a w) {k : St → Option R} {r : R} (h : oneD E ops j st k = some r) :
   ∃ o d v, ops[j]? = some o ∧ Region.free .any ops listed j = true ∧ Yields P ops o v a ∧ RepD (Mof M0 g) w g d v ∧ k (st.put o.dst d) = some r := by
 unfold stillB at hj
 simp only [Bool.and_eq_true] at hj
 unfold oneD at h
 cases ho : ops[j]? with
 | none => rw [ho] at h; cases h
 | some o =>
   rw [ho] at h hj
   dsimp only at h hj
   unfold guardD at h
   have hg : o.guard = none := by
     have := hj.1
     unfold stillOp at this
     split at this
     · assumption
     · cases this
   rw [hg] at h
   dsimp only at h
   obtain ⟨_, d, v, h1, h2, h3⟩ := still_val hE hj.1 hs h
   exact ⟨o, d, v, rfl, hj.2, .inl ⟨by simp [Region.wanted, hg], h2⟩, h1, h3⟩
section
theorem ordP_sound (hE : EnvOk P G B0 E) {ops : Array Oper} (hsel : Region.noSelect ops = true) {k : St → Option R} {r : R} {Q : Exit → Act → World → Prop} (hK : Goes df G B0 M0 w0 gi k r (Q .normal)) (hP : PansS df G B0 E.bad M0 w0 gi r Q) (hQ : ∀ (i : Nat) (o : Oper), ops[i]? = some o → ∀ c a v w, Q (.panic c) (a.put o.dst v) w → Q (.panic c) a w) :
   ∀ (n : Nat) (listed : Array Bool) (g : Gh) (st : St) (a : Act) (w : World), Sim df G B0 M0 w0 gi g st a w → ordP E ops n listed st k = some r → wpAny P .any ops Q n listed a w
 | 0, listed, g, st, a, w, hs, h => by
   unfold ordP at h
   split at h
   · rename_i hr; exact ⟨hr, hK _ _ _ _ hs h⟩
   · cases h
 | n + 1, listed, g, st, a, w, hs, h => by
   unfold ordP at h
   split at h
   · rename_i hr; exact ⟨fun _ => hK _ _ _ _ hs h, fun i hi => by rw [hr] at hi; cases hi⟩
   · rename_i i rs hr
     split at h
     · rename_i j hf
       have hj := List.find?_some hf
       have hm := List.mem_of_find?_eq_some hf
       obtain ⟨o, d, v, ho, hfree, hy, hd, h⟩ := still_one hE hj hs h
       exact wpAny_take ho hsel hfree (by rw [hr]; simpa using hm) (fun c a w h => hQ _ _ ho c a _ w h) hy (ordP_sound hE hsel hK hP hQ n _ g _ _ w (hs.put o.dst hd) h)
     · refine ⟨fun h0 => (by rw [hr] at h0; cases h0), fun j hj => ?_⟩
       rw [hr] at hj
       exact wpOp_mono (fun a' w' h' => h'.1) (oneD_sound hE hs (fun g st a w hs h => ordP_sound hE hsel hK hP hQ n _ g st a w hs h) hP (bothL_some h j hj))
def KeepS (M0 : Nat → Nat → Prop) (g : Gh) (l : List Nat) (w w' : World) : Prop :=
 (∀ ad u, w.cell? ad = some u → ¬ Mof M0 g ad.block ad.off → w'.cell? ad = some u) ∧ (∀ b es c, w.heap[b]? = some (.map es c) → ¬ Mof M0 g b 0 → w'.heap[b]? = some (.map es c)) ∧ ∀ r x b, memN l r = true → g r = some x → x.blk = some b → w'.heap[b]? = w.heap[b]?
theorem KeepS.refl (M0 : Nat → Nat → Prop) (g : Gh) (l : List Nat) (w : World) : KeepS M0 g l w w := ⟨fun _ _ h _ => h, fun _ _ _ h _ => h, fun _ _ _ _ _ _ => rfl⟩
theorem Sim.keepS (hs : Sim df G B0 M0 w0 gi g st a w) {l : List Nat} {g' : Gh} {st' : St} {a' : Act} {w' : World} (hs' : Sim df G B0 (Mapart M0 g l) w (g.off l).base g' st' a' w') : KeepS M0 g l w w' := by
 refine ⟨fun ad u h1 h2 => (hs'.stp.1 ad u h1 fun h3 => h2 (Mof_apart.1 (Mof_base.1 h3))).1, fun b es c h1 h2 => (hs'.stp.2 b es c h1 fun h3 => h2 (Mof_apart.1 (Mof_base.1 h3))).1, fun r x b hm h1 h2 => hs'.ext.block b (hs.low r x b h1 h2).2.1 fun hX => ?_⟩
 obtain ⟨r', x', h4, h5⟩ := Xof_base.1 hX
 obtain ⟨h6, h7⟩ := Gh.off_some h4
 have := hs.inj _ _ _ _ _ h1 h7 h2 h5
 rw [this, h6] at hm
 cases hm
theorem put_slot {a a' : Act} {dst : Option Tmp} {v : Value} (h : a'.tmps = (a.put dst v).tmps) {ds : List Nat} (hd : ∀ d, dst = some d → memN ds d = true) : a'.tmps.size = a.tmps.size ∧ ∀ t, memN ds t = false → a'.tmps.getD t undef = a.tmps.getD t undef := by
 cases dst with
 | none =>
   have h : a'.tmps = a.tmps := h
   rw [h]; exact ⟨rfl, fun _ _ => rfl⟩
 | some d =>
   have h : a'.tmps = a.tmps.setIfInBounds d v := h
   rw [h]
   refine ⟨by simp, fun t ht => ?_⟩
   have hne : d ≠ t := fun e => by
     have := hd d rfl
     rw [e, ht] at this
     cases this
   simp [Array.getD_eq_getD_getElem?, Array.getElem?_setIfInBounds, hne]
def PanQ (df : List Deferred) (T : TypeId) (M0 : Nat → Nat → Prop) (w0 : World) (gi : Gh) (r : R) (Q : Exit → Act → World → Prop) : Exit → Act → World → Prop := fun e a w => match e with
 | .normal => Q .normal a w
 | .panic ch => ∃ c, ch = badC T c ∧ a.defers = df ∧ ExtX (Xof gi) w0 w ∧ Step (Mof M0 gi) w0 (Mof M0 gi) w ∧ ∃ ρ st, BothC.pa c ρ st = some r
 | _ => False
theorem PanQ.pans {T : TypeId} {r : R} {Q : Exit → Act → World → Prop} : Pans df T M0 w0 gi r (PanQ df T M0 w0 gi r Q) := fun c _ _ h1 h2 h3 h4 => ⟨c, rfl, h1, h2, h3, h4⟩
theorem PanQ.blind {T : TypeId} {r : R} {Q : Exit → Act → World → Prop} : ∀ c a dst v w, PanQ df T M0 w0 gi r Q (.panic c) (a.put dst v) w → PanQ df T M0 w0 gi r Q (.panic c) a w := fun c a dst v w ⟨c', h1, h2, h3⟩ => ⟨c', h1, by cases dst <;> exact h2, h3⟩
theorem PanQ.noOut {T : TypeId} {r : R} {Q : Exit → Act → World → Prop} : ¬ LetsOut (PanQ df T M0 w0 gi r Q) := fun ⟨_, _, h⟩ => h
theorem PanQ.out {T : TypeId} {r : R} {Q : Exit → Act → World → Prop} (hP : Pans df T M0 w0 gi r Q) : ∀ e a w, PanQ df T M0 w0 gi r Q e a w → Q e a w
 | .normal, _, _, h => h
 | .panic _, a, w, ⟨c, h1, h2, h3, h4, h5⟩ => by rw [h1]; exact hP c a w h2 h3 h4 h5
theorem Pans.apart {T : TypeId} {r : R} {Q : Exit → Act → World → Prop} {g0 : Gh} {st0 : St} {a0 : Act} {w1 : World} (hs0 : Sim df G B0 M0 w0 gi g0 st0 a0 w1) (l : List Nat) (hP : Pans df T M0 w0 gi r Q) : Pans df T (Mapart M0 g0 l) w1 (g0.off l).base r Q := by
 intro c a w' hd hX hS hp
 refine hP c a w' hd (hs0.ext.trans hX fun n hn hx => ?_) ⟨fun ad u hc hm => ?_, fun b es cc hc hm => ?_⟩ hp
 · obtain ⟨r', x', h4, h5⟩ := Xof_base.1 hx
   obtain ⟨h6, h7⟩ := Gh.off_some h4
   rcases (hs0.low _ _ _ h7 h5).2.2 with h8 | h8
   · exact h8
   · omega
 · obtain ⟨h4, h5⟩ := hs0.stp.1 ad u hc hm
   exact ⟨(hS.1 ad u h4 fun h' => h5 (Mof_apart.1 (Mof_base.1 h'))).1, hm⟩
 · obtain ⟨h4, h5⟩ := hs0.stp.2 b es cc hc hm
   exact ⟨(hS.2 b es cc h4 fun h' => h5 (Mof_apart.1 (Mof_base.1 h'))).1, hm⟩
theorem ordT_sound (hE : EnvOk P G B0 E) {ops : Array Oper} (hsel : Region.noSelect ops = true) {k : St → Option R} {r : R} {Q : Exit → Act → World → Prop} (hK : Goes df G B0 M0 w0 gi k r (Q .normal)) (hP : Pans df E.bad M0 w0 gi r Q) (hQ : ∀ c a dst v w, Q (.panic c) (a.put dst v) w → Q (.panic c) a w) (hL : ¬ LetsOut Q)
   {cl : List (Nat × List Nat)} (hcL : CL ops cl) {tl l ds : List Nat} {g0 : Gh} {st0 : St} {a0 : Act} {w1 : World} (hs0 : Sim df G B0 M0 w0 gi g0 st0 a0 w1) :
   ∀ (n : Nat) (listed : Array Bool), Closed ops listed → (∀ i d, listed.getD i true = false → dstOf ops i = some d → memN ds d = true) → ∀ (g : Gh) (st : St) (a : Act) (w : World), Sim df G B0 (Mapart M0 g0 l) w1 (g0.off l).base g st a w → a.tmps.size = a0.tmps.size → (∀ t, memN ds t = false → a.tmps.getD t undef = a0.tmps.getD t undef) →
     ordT E ops cl tl l ds st0 n listed st k = some r → wpAnyT P ops Q (memN tl) (KeepS M0 g0 l w1) n listed a w
 | 0, listed, hcl, hds, g, st, a, w, hs, hz, ht, h => by
   unfold ordT at h
   split at h
   · rename_i hr; exact ⟨hr, hK _ _ _ _ (hs0.again l ds hs (by rw [← hs.sz, ← hs0.sz, hz]) ht) h⟩
   · cases h
 | n + 1, listed, hcl, hds, g, st, a, w, hs, hz, ht, h => by
   have hds' : ∀ j i d, (listed.setIfInBounds j true).getD i true = false → dstOf ops i = some d → memN ds d = true := fun j i d h1 h2 => by
     refine hds i d ?_ h2
     by_cases hij : j = i
     · subst hij
       rcases Nat.lt_or_ge j listed.size with h' | h'
       · simp [Array.getD_eq_getD_getElem?, h'] at h1
       · simp [Array.getD_eq_getD_getElem?, Array.getElem?_eq_none h'] at h1
     · rw [getD_set_ne true hij] at h1; exact h1
   unfold ordT at h
   split at h
   · rename_i hr; exact ⟨fun _ => hK _ _ _ _ (hs0.again l ds hs (by rw [← hs.sz, ← hs0.sz, hz]) ht) h, fun i hi => by rw [hr] at hi; cases hi⟩
   · rename_i i rs hr
     split at h
     · rename_i hall
       have hPP := ordP_sound hE hsel hK hP.up (fun _ _ _ c a v w => hQ c a _ v w) _ listed _ _ _ _ (hs0.again l ds hs (by rw [← hs.sz, ← hs0.sz, hz]) ht) h
       rcases Bool.or_eq_true_iff.1 hall with hall | hall
       · refine wpAnyT_tail (fun j hj => ?_) hPP
         rw [hr] at hj
         exact List.all_eq_true.1 hall j hj
       · refine wpAnyT_calm _ _ _ _ (fun j o h1 h2 h3 => ?_) (hs0.keepS hs) hL hPP
         have := List.all_eq_true.1 hall j (List.mem_range.2 (Array.getElem?_eq_some_iff.1 h3).1)
         rw [h1, h2, h3] at this
         simpa using this
     · split at h
       · rename_i j hf
         have hj := List.find?_some hf
         have hm := List.mem_of_find?_eq_some hf
         simp only [Bool.and_eq_true] at hj
         obtain ⟨o, d, v, ho, hfree, hy, hd, h⟩ := still_one hE hj.1.1 hs h
         have hsl := put_slot (a := a) (a' := a.put o.dst v) (dst := o.dst) (v := v) rfl (ds := ds) fun d hd => hds j d (mem_ready.1 (by rw [hr]; simpa using hm)).1 (by unfold dstOf; rw [ho]; exact hd)
         exact wpAnyT_take hcL hcl ho hsel hfree (by rw [hr]; simpa using hm) hj.1.2 (fun c a w h => hQ c a _ _ w h) hy.yieldsIf (hs0.keepS hs) (ordT_sound hE hsel hK hP hQ hL hcL hs0 n _ (hcl.next (by rw [hr]; simpa using hm)) (hds' _) g _ _ w (hs.put o.dst hd) (hsl.1.trans hz) (fun t h => (hsl.2 t h).trans (ht t h)) h)
       · refine ⟨fun h0 => (by rw [hr] at h0; cases h0), fun j hj => ?_⟩
         rw [hr] at hj
         have h := bothL_some h j hj
         cases htl : memN tl j with
         | true =>
           rw [htl] at h
           exact wpOp_mono (fun a' w' h' => .inl ⟨rfl, h'.1⟩) (oneD_sound hE (hs0.again l ds hs (by rw [← hs.sz, ← hs0.sz, hz]) ht) (fun g st a w hs h => ordP_sound hE hsel hK hP.up (fun _ _ _ c a v w => hQ c a _ v w) n _ g st a w hs h) hP.up h)
         | false =>
           rw [htl] at h
           refine wpOp_mono (fun a' w' h' => .inr ⟨rfl, ?_⟩) (oneD_sound hE hs (K := fun a' w' => ∃ g' st', Sim df G B0 (Mapart M0 g0 l) w1 (g0.off l).base g' st' a' w' ∧ ordT E ops cl tl l ds st0 n (listed.setIfInBounds j true) st' k = some r) (fun g st a w hs h => ⟨g, st, hs, h⟩) (Pans.apart hs0 l hP).up h)
           obtain ⟨⟨g', st', hs', h'⟩, v, hv⟩ := h'
           have hsl := put_slot hv (ds := ds) fun d hd => hds j d (mem_ready.1 (by rw [hr]; exact hj)).1 hd
           exact ⟨hs0.keepS hs', ordT_sound hE hsel hK hP hQ hL hcL hs0 n _ (hcl.next (by rw [hr]; exact hj)) (hds' _) g' st' a' w' hs' (hsl.1.trans hz) (fun t h => (hsl.2 t h).trans (ht t h)) h'⟩
theorem aget_akeepB {l : List Nat} {hp : List (Nat × Blk)} {r : Nat} {b : Blk} (h : aget (akeep l id hp) r = some b) : memN l r = true ∧ aget hp r = some b := by
 obtain ⟨x, h1, e⟩ := aget_akeep l id hp r b h
 have e2 : b = x := e
 subst e2
 refine ⟨?_, h1⟩
 clear h1 e
 induction hp with
 | nil => cases h
 | cons p hp ih =>
   obtain ⟨j, y⟩ := p
   unfold akeep at h
   split at h
   · rename_i hm
     rw [aget_cons] at h
     cases hb : Nat.beq j r with
     | true => obtain rfl := Nat.eq_of_beq_eq_true hb; exact hm
     | false => rw [hb] at h; exact ih h
   · exact ih h
theorem KeepS.keepR {l : List Nat} {w' : World} (h : KeepS M0 g l w w') : KeepR (Mof M0 g) g (akeep l id st.hp) w w' :=
 ⟨h.1, h.2.1, fun r blk x b h1 h2 h3 _ => h.2.2 r x b (aget_akeepB h1).1 h2 h3⟩
theorem Sim.only (hs : Sim df G B0 M0 w0 gi g st a w) (l : List Nat) : Sim df G B0 M0 w0 gi g { st with hp := akeep l id st.hp } a w :=
 { hs with hp := fun r blk hb => hs.hp r blk (aget_akeepB hb).2 }
end
theorem takeOneD_sound (hE : EnvOk P G B0 E) (hs : Sim df G B0 M0 w0 gi g st a w) {l : List Nat} {ops : Array Oper} {o : Oper} {k : St → Option R} {r : R} (h : takeOneD E l o st k = some r) :
   ∃ d v, YieldsIf P ops (KeepS M0 g l w) o v a ∧ RepD (Mof M0 g) w g d v ∧ k (st.put o.dst d) = some r := by
 unfold takeOneD at h
 split at h
 · rename_i ho
   have hg : o.guard = none := by
     unfold takeable at ho
     split at ho
     · assumption
     · cases ho
   simp only [putK_eq] at h
   obtain ⟨d, v, h1, h2, h3⟩ := valD_sound hE (hs.only l) h
   exact ⟨d, v, .inl ⟨by simp [Region.wanted, hg], fun w' hS => h3 w' (KeepS.keepR hS)⟩, h2, h1⟩
 · cases h
section
end
theorem takeD_sound (hE : EnvOk P G B0 E) {ops : Array Oper} (hsel : Region.noSelect ops = true) {Q : Exit → Act → World → Prop} (hQ : ∀ c a dst v w, Q (.panic c) (a.put dst v) w → Q (.panic c) a w) {cl : List (Nat × List Nat)} (hcL : CL ops cl) {tl l : List Nat} {kk : Nat → Array Bool → St → Option R} {r : R}
   (hK : ∀ n listed st a, Closed ops listed → Sim df G B0 M0 w0 gi g st a w → kk n listed st = some r → wpAnyT P ops Q (memN tl) (KeepS M0 g l w) n listed a w) :
   ∀ (as : List Nat) (n : Nat) (listed : Array Bool) (st : St) (a : Act), Closed ops listed → Sim df G B0 M0 w0 gi g st a w → takeD E ops cl tl l as n listed st kk = some r → wpAnyT P ops Q (memN tl) (KeepS M0 g l w) n listed a w
 | [], n, listed, st, a, hcl, hs, h => hK n listed st a hcl hs h
 | i :: rest, 0, listed, st, a, hcl, hs, h => by unfold takeD at h; cases h
 | i :: rest, n + 1, listed, st, a, hcl, hs, h => by
   unfold takeD at h
   split at h
   · rename_i hb
     simp only [Bool.and_eq_true] at hb
     split at h
     · rename_i o ho
       obtain ⟨d, v, hy, hd, h⟩ := takeOneD_sound (ops := ops) hE hs h
       exact wpAnyT_take hcL hcl ho hsel hb.1.1 hb.1.2 hb.2 (fun c a w h => hQ c a _ _ w h) hy (KeepS.refl _ _ _ _) (takeD_sound hE hsel hQ hcL hK rest n _ _ _ (hcl.next (by simpa using hb.1.2)) (hs.put o.dst hd) h)
     · cases h
   · cases h
section
theorem drawD_sound (hE : EnvOk P G B0 E) {id : Nat} {ops : Array Oper} (hsel : Region.noSelect ops = true) {l : List Nat} {k : St → Option R} {r : R} {Q : Exit → Act → World → Prop} (hK : Goes df G B0 M0 w0 gi k r (Q .normal)) (hs : Sim df G B0 M0 w0 gi g st a w)
   (h : drawD E ops l st k = some r) : (Code.region id ops true).wp P (PanQ df E.bad M0 w0 gi r Q) a w := by
 have hs1 := hs.later (Ext.refl w).drew
 have hds : ∀ (listed : Array Bool) i d, listed.getD i true = false → dstOf ops i = some d → memN (dsts ops listed) d = true := fun listed i d hl hd => by
   unfold dstOf at hd
   cases ho : ops[i]? with
   | none => rw [ho] at hd; cases hd
   | some o =>
     refine memN_iff.2 (List.mem_filterMap.2 ⟨i, List.mem_range.2 (Array.getElem?_eq_some_iff.1 ho).1, ?_⟩)
     rw [hl]
     exact hd
 unfold drawD at h
 simp only [closK_eq, natsK_eq] at h
 have hcL := closOf_sound (ops := ops) (List.range ops.size) [] fun i j h => by cases h
 refine wp_region_T (tail := memN (tailsOf ops (closOf ops (List.range ops.size) []) (takesOf E ops))) (S := KeepS M0 g l { w with drawn := w.drawn + 1 }) hE.mixed ?_
 refine takeD_sound hE hsel (Q := PanQ df E.bad M0 w0 gi r Q) PanQ.blind hcL (fun n listed st a hcl hs h => ?_) _ _ _ _ _ Closed.start hs1 h
 exact ordT_sound hE hsel (Q := PanQ df E.bad M0 w0 gi r Q) (fun g st a w hs h => hK g st a w hs h) PanQ.pans PanQ.blind PanQ.noOut hcL hs n listed hcl (hds listed) _ _ _ _ (hs.apart hE l) rfl (fun _ _ => rfl) h
theorem drawL_sound (hE : EnvOk P G B0 E) {id : Nat} {ops : Array Oper} (hsel : Region.noSelect ops = true) {l as : List Nat} {k : St → Option R} {r : R} {Q : Exit → Act → World → Prop} (hK : Goes df G B0 M0 w0 gi k r (Q .normal)) (hs : Sim df G B0 M0 w0 gi g st a w)
   (h : drawL E ops l as st k = some r) : (Code.region id ops true).wp P (PanQ df E.bad M0 w0 gi r Q) a w := by
 have hs1 := hs.later (Ext.refl w).drew
 have hds : ∀ (listed : Array Bool) i d, listed.getD i true = false → dstOf ops i = some d → memN (dsts ops listed) d = true := fun listed i d hl hd => by
   unfold dstOf at hd
   cases ho : ops[i]? with
   | none => rw [ho] at hd; cases hd
   | some o =>
     refine memN_iff.2 (List.mem_filterMap.2 ⟨i, List.mem_range.2 (Array.getElem?_eq_some_iff.1 ho).1, ?_⟩)
     rw [hl]
     exact hd
 unfold drawL at h
 simp only [closK_eq, natsK_eq] at h
 have hcL := closOf_sound (ops := ops) (List.range ops.size) [] fun i j h => by cases h
 refine wp_region_T (tail := memN (tailsOf ops (closOf ops (List.range ops.size) []) as)) (S := KeepS M0 g l { w with drawn := w.drawn + 1 }) hE.mixed ?_
 refine takeD_sound hE hsel (Q := PanQ df E.bad M0 w0 gi r Q) PanQ.blind hcL (fun n listed st a hcl hs h => ?_) _ _ _ _ _ Closed.start hs1 h
 exact ordT_sound hE hsel (Q := PanQ df E.bad M0 w0 gi r Q) (fun g st a w hs h => hK g st a w hs h) PanQ.pans PanQ.blind PanQ.noOut hcL hs n listed hcl (hds listed) _ _ _ _ (hs.apart hE l) rfl (fun _ _ => rfl) h
theorem wpAnyT_mono {P : Program} {ops : Array Oper} {Q : Exit → Act → World → Prop} {S : World → Prop} {tail tail' : Nat → Bool} (ht : ∀ i, tail i = true → tail' i = true) : ∀ (fuel : Nat) (listed : Array Bool) (a : Act) (w : World), wpAnyT P ops Q tail S fuel listed a w → wpAnyT P ops Q tail' S fuel listed a w
 | 0, _, _, _, h => h
 | fuel + 1, _, _, _, h => ⟨h.1, fun i hi => wpOp_mono (fun a' w' h' => by
     cases ht' : tail' i with
     | true =>
       rcases h' with h' | h'
       · exact .inl ⟨rfl, h'.2⟩
       · exact .inl ⟨rfl, wpAny_of_T _ _ _ _ h'.2.2⟩
     | false =>
       rcases h' with h' | h'
       · rw [ht i h'.1] at ht'; cases ht'
       · exact .inr ⟨rfl, h'.2.1, wpAnyT_mono ht fuel _ a' w' h'.2.2⟩) (h.2 i hi)⟩
theorem guardKnown_wanted {ops : Array Oper} {o : Oper} {c : Bool} (hs : Sim df G B0 M0 w0 gi g st a w) (h : guardKnown ops o st = some c) : Region.wanted o (yielded ops a.tmps) = c := by
 unfold guardKnown at h
 split at h
 · rename_i hg
   cases h
   simp [Region.wanted, hg]
 · rename_i j b hg
   split at h
   · rename_i oj hj
     split at h
     · rename_i t ht
       split at h
       · rename_i hc
         have e := Option.some.inj h
         rw [← e]
         have hv : a.tmps.getD t undef = .bool true := evt hs hc
         have hlt2 : t < a.tmps.size := slot_lt hs hc
         have hy : yielded ops a.tmps j = some true := by
           simp only [yielded, hj, Option.bind_some, ht, getD_of hv hlt2]
         cases b <;> simp [Region.wanted, hg, hy]
       · rename_i hc
         have e := Option.some.inj h
         rw [← e]
         have hv : a.tmps.getD t undef = .bool false := evt hs hc
         have hlt2 : t < a.tmps.size := slot_lt hs hc
         have hy : yielded ops a.tmps j = some false := by
           simp only [yielded, hj, Option.bind_some, ht, getD_of hv hlt2]
         cases b <;> simp [Region.wanted, hg, hy]
       · rename_i hc
         cases h
         have hv : a.tmps.getD t undef = undef := evt hs hc
         have hlt2 : t < a.tmps.size := slot_lt hs hc
         have hy : yielded ops a.tmps j = none := by
           simp only [yielded, hj, Option.bind_some, ht, getD_of hv hlt2]
           rfl
         simp [Region.wanted, hg, hy]
       · cases h
     · cases h
   · cases h
end
theorem takeOneG_sound (hE : EnvOk P G B0 E) (hs : Sim df G B0 M0 w0 gi g st a w) {l : List Nat} {ops : Array Oper} {o : Oper} {k : St → Option R} {r : R} (h : takeOneG E ops l o st k = some r) :
   ∃ d v, YieldsIf P ops (KeepS M0 g l w) o v a ∧ RepD (Mof M0 g) w g d v ∧ k (st.put o.dst d) = some r := by
 unfold takeOneG at h
 split at h
 · rename_i hg
   have hw := guardKnown_wanted hs hg
   split at h
   · simp only [putK_eq] at h
     obtain ⟨d, v, h1, h2, h3⟩ := valD_sound hE (hs.only l) h
     exact ⟨d, v, .inl ⟨hw, fun w' hS => h3 w' (KeepS.keepR hS)⟩, h2, h1⟩
   · cases h
 · rename_i hg
   have hw := guardKnown_wanted hs hg
   simp only [putK_eq] at h
   exact ⟨.skip, undef, .inr ⟨hw, rfl⟩, rfl, h⟩
 · cases h
section
end
theorem takeG_sound (hE : EnvOk P G B0 E) {ops : Array Oper} (hsel : Region.noSelect ops = true) {Q : Exit → Act → World → Prop} (hQ : ∀ c a dst v w, Q (.panic c) (a.put dst v) w → Q (.panic c) a w) {cl : List (Nat × List Nat)} (hcL : CL ops cl) {tl l : List Nat} {kk : Nat → Array Bool → St → Option R} {r : R}
   (hK : ∀ n listed st a, Closed ops listed → Sim df G B0 M0 w0 gi g st a w → kk n listed st = some r → wpAnyT P ops Q (memN tl) (KeepS M0 g l w) n listed a w) :
   ∀ (as : List Nat) (n : Nat) (listed : Array Bool) (st : St) (a : Act), Closed ops listed → Sim df G B0 M0 w0 gi g st a w → takeG E ops cl tl l as n listed st kk = some r → wpAnyT P ops Q (memN tl) (KeepS M0 g l w) n listed a w
 | [], n, listed, st, a, hcl, hs, h => hK n listed st a hcl hs h
 | i :: rest, 0, listed, st, a, hcl, hs, h => by unfold takeG at h; cases h
 | i :: rest, n + 1, listed, st, a, hcl, hs, h => by
   unfold takeG at h
   split at h
   · rename_i hb
     simp only [Bool.and_eq_true] at hb
     split at h
     · rename_i o ho
       obtain ⟨d, v, hy, hd, h⟩ := takeOneG_sound (ops := ops) hE hs h
       exact wpAnyT_take hcL hcl ho hsel hb.1.1 hb.1.2 hb.2 (fun c a w h => hQ c a _ _ w h) hy (KeepS.refl _ _ _ _) (takeG_sound hE hsel hQ hcL hK rest n _ _ _ (hcl.next (by simpa using hb.1.2)) (hs.put o.dst hd) h)
     · cases h
   · cases h
section
theorem memN_filter {q : Nat → Bool} {l : List Nat} {i : Nat} (h : memN (l.filter q) i = true) : memN l i = true := memN_iff.2 (List.mem_filter.1 (memN_iff.1 h)).1
theorem dsts_all (ops : Array Oper) (listed : Array Bool) : ∀ i d, listed.getD i true = false → dstOf ops i = some d → memN (dsts ops listed) d = true := fun i d hl hd => by
 unfold dstOf at hd
 cases ho : ops[i]? with
 | none => rw [ho] at hd; cases hd
 | some o =>
   refine memN_iff.2 (List.mem_filterMap.2 ⟨i, List.mem_range.2 (Array.getElem?_eq_some_iff.1 ho).1, ?_⟩)
   rw [hl]
   exact hd
theorem roundD_sound (hE : EnvOk P G B0 E) {ops : Array Oper} (hsel : Region.noSelect ops = true) {Q : Exit → Act → World → Prop} {k : St → Option R} {r : R} (hK : Goes df G B0 M0 w0 gi k r (Q .normal)) (hP : Pans df E.bad M0 w0 gi r Q) (hQ : ∀ c a dst v w, Q (.panic c) (a.put dst v) w → Q (.panic c) a w) (hL : ¬ LetsOut Q)
   {cl : List (Nat × List Nat)} (hcL : CL ops cl) {l : List Nat} : ∀ (f : Nat) (tl0 : List Nat) (n : Nat) (listed : Array Bool) (st : St) (a : Act), Closed ops listed → Sim df G B0 M0 w0 gi g st a w → roundD E ops cl l f tl0 n listed st k = some r → wpAnyT P ops Q (memN tl0) (KeepS M0 g l w) n listed a w
 | 0, _, _, _, _, _, _, _, h => by unfold roundD at h; cases h
 | f + 1, tl0, n, listed, st, a, hcl, hs, h => by
   unfold roundD at h
   simp only [natsK_eq] at h
   refine wpAnyT_mono (tail := memN (tailsIn cl tl0 (takesIn E ops listed st))) (fun i hi => memN_filter hi) _ _ _ _ ?_
   refine takeG_sound hE hsel hQ hcL (fun n listed st a hcl hs h => ?_) _ _ _ _ _ hcl hs h
   split at h
   · rename_i t _
     split at h
     · rename_i c hc
       simp only [putK_eq] at h
       have hv := RepD.bool (evt hs hc)
       have hre : Sim df G B0 M0 w0 gi g (st.put (some t) (.bl c)) a w := hs.reput (RepD0.toD (d := .bl c) hv)
       rcases br_some h with ⟨e, h2⟩ | ⟨e, h2⟩
       · subst e; exact roundD_sound hE hsel hK hP hQ hL hcL f _ _ _ _ _ hcl hre h2
       · subst e; exact roundD_sound hE hsel hK hP hQ hL hcL f _ _ _ _ _ hcl hre h2
     · cases h
   · split at h
     · exact ordT_sound hE hsel hK hP hQ hL hcL hs n listed hcl (dsts_all ops listed) _ _ _ _ (hs.apart hE l) rfl (fun _ _ => rfl) h
     · exact roundD_sound hE hsel hK hP hQ hL hcL f _ _ _ _ _ hcl hs h
theorem drawG_sound (hE : EnvOk P G B0 E) {id : Nat} {ops : Array Oper} (hsel : Region.noSelect ops = true) {l : List Nat} {k : St → Option R} {r : R} {Q : Exit → Act → World → Prop} (hK : Goes df G B0 M0 w0 gi k r (Q .normal)) (hs : Sim df G B0 M0 w0 gi g st a w)
   (h : drawG E ops l st k = some r) : (Code.region id ops true).wp P (PanQ df E.bad M0 w0 gi r Q) a w := by
 have hs1 := hs.later (Ext.refl w).drew
 unfold drawG at h
 simp only [closK_eq] at h
 have hcL := closOf_sound (ops := ops) (List.range ops.size) [] fun i j h => by cases h
 refine wp_region_T (tail := memN (List.range ops.size)) (S := KeepS M0 g l { w with drawn := w.drawn + 1 }) hE.mixed ?_
 exact roundD_sound hE hsel (Q := PanQ df E.bad M0 w0 gi r Q) (fun g st a w hs h => hK g st a w hs h) PanQ.pans PanQ.blind PanQ.noOut hcL _ _ _ _ _ _ Closed.start hs1 h
theorem ordX_sound (hE : EnvOk P G B0 E) {id : Nat} {ops : Array Oper} (hsel : Region.noSelect ops = true) {k : St → Option R} {r : R} {Q : Exit → Act → World → Prop} (hK : Goes df G B0 M0 w0 gi k r (Q .normal)) (hs : Sim df G B0 M0 w0 gi g st a w)
   (h : ordP E ops ops.size (Array.replicate ops.size false) st k = some r) : (Code.region id ops true).wp P (PanQ df E.bad M0 w0 gi r Q) a w := by
 have hs1 := hs.later (Ext.refl w).drew
 exact wp_region_any hE.mixed (ordP_sound hE hsel (Q := PanQ df E.bad M0 w0 gi r Q) (fun g st a w hs h => hK g st a w hs h) PanQ.pans.up (fun _ _ _ c a v w => PanQ.blind c a _ v w) _ _ _ _ _ _ hs1 h)
theorem drawX_sound (hE : EnvOk P G B0 E) {id : Nat} {ops : Array Oper} (hsel : Region.noSelect ops = true) {hh : Hint} {k : St → Option R} {r : R} {Q : Exit → Act → World → Prop} (hK : Goes df G B0 M0 w0 gi k r (Q .normal)) (hs : Sim df G B0 M0 w0 gi g st a w)
   (h : drawX E ops hh st k = some r) : (Code.region id ops true).wp P (PanQ df E.bad M0 w0 gi r Q) a w := by
 unfold drawX at h
 split at h
 · exact drawD_sound hE hsel hK hs h
 · exact drawG_sound hE hsel hK hs h
 · exact ordX_sound hE hsel hK hs h
 · exact drawL_sound hE hsel hK hs h
end
end
end Go.Proofs.YtjiddcchklaiiaaGreatDoor

