/- What a state hands to a function: a fragment of memory that has a shape. -/
import Derived.Test.YtbekhaioddmliaaDoorQBm10
namespace Go.Proofs.YtbekhaioddmliaaDoor
set_option linter.unusedVariables false
set_option linter.unusedSimpArgs false
open Go Go.RowKit
section
variable {P : Program} {G : World → Prop} {B0 : Nat} {E : Env} {M : Nat → Nat → Prop} {M0 : Nat → Nat → Prop} {w0 : World} {gi g : Gh} {st : St} {a : Act} {w : World}
/-- What may change, but for what is lent. -/
def Mlend (M0 : Nat → Nat → Prop) (g : Gh) (β : List Nat) (b o : Nat) : Prop := Mof M0 g b o ∧ ¬ ∃ r, r ∈ β ∧ ∃ x, g r = some x ∧ x.blk = some b
/-- What the callee's names stand for. -/
def gsub (g : Gh) (ρ : List Nat) : Gh := fun j => (ρ[j]?).bind g
theorem gsub_pre {ρ ρf : List Nat} (h : ρ <+: ρf) {j r : Nat} (hj : ρ[j]? = some r) : gsub g ρf j = g r := by
  obtain ⟨t, rfl⟩ := h
  have hlt : j < ρ.length := (List.getElem?_eq_some_iff.1 hj).1
  simp only [gsub, List.getElem?_append_left hlt, hj, Option.bind_some]
theorem Mlend.step (β : List Nat) : Step (Mof M0 g) w (Mlend M0 g β) w := ⟨fun _ _ h hm => ⟨h, fun h' => hm h'.1⟩, fun _ _ _ h hm => ⟨h, fun h' => hm h'.1⟩⟩
theorem nmK_sound {R : Type} {ρ : List Nat} {j r : Nat} {k : List Nat → Option R} {res : R} (hn : ρ.Nodup) (h : nmK ρ j r k = some res) : ∃ ρ', k ρ' = some res ∧ ρ <+: ρ' ∧ ρ'.Nodup ∧ ρ'[j]? = some r := by
  unfold nmK at h
  split at h
  · rename_i r' hr
    split at h
    · rename_i e
      have := Nat.eq_of_beq_eq_true e
      subst this
      exact ⟨ρ, h, List.prefix_refl _, hn, hr⟩
    · cases h
  · split at h
    · rename_i hj
      have := Nat.eq_of_beq_eq_true hj
      subst this
      split at h
      · cases h
      · rename_i hm
        have hnot : r ∉ ρ := fun h' => by rw [memN_iff.2 h'] at hm; cases hm
        refine ⟨_, h, List.prefix_append _ _, ?_, by simp⟩
        rw [List.nodup_append]
        refine ⟨hn, by simp, ?_⟩
        intro a ha b hb e
        have hbr : b = r := by simpa using hb
        exact hnot (by rw [← hbr, ← e]; exact ha)
    · cases h
theorem lent_v (hs : Sim G B0 M0 w0 gi g st a w) {t : Ty} {d : D} {v : Value} (hd : RepD (Mof M0 g) w g d v) {x : t.den} (h : st.lent t d = some x) :
    (∃ r, (d = .mref r ∨ d = .row r) ∧ ∀ β, r ∈ β → RepV (Mlend M0 g β) w t x v) := by
  cases d with
  | mref r =>
    refine ⟨r, .inl rfl, fun β hr => ?_⟩
    simp only [St.lent] at h
    split at h
    · rename_i e m hb
      split at h
      · rename_i e1
        subst e1
        cases h
        obtain ⟨x, b, h1, h1', rfl⟩ := hd
        obtain ⟨x', h2, b', es, c, e2, h3, h4⟩ := hs.hp _ _ hb
        rw [h1] at h2
        cases h2
        subst e2
        have e3 : b' = b := by simpa using h1'
        subst e3
        refine RepC.toV (t := .mp e) rfl ⟨b', es, c, rfl, h3, fun hm => hm.2 ⟨r, hr, _, h1, rfl⟩, h4.mono fun _ _ ⟨h6, cs, h7, h8⟩ => ⟨h6, cs, RepC.step (Mlend.step β) _ _ _ h7, h8⟩⟩
      · cases h
    · cases h
  | row r =>
    refine ⟨r, .inr rfl, fun β hr => ?_⟩
    simp only [St.lent] at h
    split at h
    · rename_i e t' xs hb
      split at h
      · rename_i e'
        subst e'
        cases h
        obtain ⟨gx, h1, hz, cs, h2, h3, h4, h5⟩ := hs.hp _ _ hb
        obtain ⟨gx', _, _, _, h6, h7, _⟩ := hd
        rw [h1] at h6
        cases h6
        subst h7
        exact RepC.toV (t := .sl t') rfl (RepC.of_own hz h2 (fun b o hb _ hm => hm.2 ⟨r, hr, gx, h1, by rw [h3]; exact hb⟩) fun i hi => RepC.step (Mlend.step β) _ _ _ (h5 i hi))
      · cases h
    · cases h
  | _ => simp [St.lent] at h
theorem nmsK_sound {R : Type} : ∀ (js rs : List Nat) {ρ : List Nat} {k : List Nat → Option R} {res : R}, ρ.Nodup → nmsK js rs ρ k = some res →
    ∃ ρ', k ρ' = some res ∧ ρ <+: ρ' ∧ ρ'.Nodup ∧ All2 (fun j r => ρ'[j]? = some r) js rs
  | [], [], ρ, k, res, hn, h => ⟨ρ, h, List.prefix_refl _, hn, trivial⟩
  | j :: js, r :: rs, ρ, k, res, hn, h => by
    obtain ⟨ρ1, h1, h2, h3, h4⟩ := nmK_sound hn h
    obtain ⟨ρ2, h5, h6, h7, h8⟩ := nmsK_sound js rs h3 h1
    refine ⟨ρ2, h5, h2.trans h6, h7, ?_, h8⟩
    obtain ⟨t, rfl⟩ := h6
    rw [List.getElem?_append_left (List.getElem?_eq_some_iff.1 h4).1]; exact h4
  | [], _ :: _, _, _, _, _, h => by cases h
  | _ :: _, [], _, _, _, _, h => by cases h
theorem pre_get {ρ ρf : List Nat} (h : ρ <+: ρf) {j r : Nat} (hj : ρ[j]? = some r) : ρf[j]? = some r := by
  obtain ⟨t, rfl⟩ := h
  rw [List.getElem?_append_left (List.getElem?_eq_some_iff.1 hj).1]; exact hj
theorem names_all {ρ' ρf : List Nat} (hp : ρ' <+: ρf) : ∀ {l l' : List Nat} {us : List Value}, All2 (fun j r => ρ'[j]? = some r) l l' → All2 (fun r u => ∃ x b, g r = some x ∧ x.v = boxV b ∧ u = boxV b) l' us →
    All2 (fun r u => ∃ x b, gsub g ρf r = some x ∧ x.v = boxV b ∧ u = boxV b) l us
  | [], [], [], _, _ => trivial
  | j :: l, r :: l', u :: us, h, ha => by
    obtain ⟨x, b, h5, h6⟩ := ha.1
    exact ⟨⟨x, b, (gsub_pre hp h.1).trans h5, h6⟩, names_all hp h.2 ha.2⟩
  | [], [], _ :: _, _, ha => ha.elim
  | _ :: _, _ :: _, [], _, ha => ha.elim
  | [], _ :: _, _, h, _ => h.elim
  | _ :: _, [], _, h, _ => h.elim
/-- A slot's content, matched against a shape. -/
theorem mtK_sound {R : Type} (hs : Sim G B0 M0 w0 gi g st a w) {s : Sl} {d : D} {v : Value} (hd : RepD (Mof M0 g) w g d v) {ρ β : List Nat} {k : s.den → List Nat → List Nat → Option R} {res : R} (hn : ρ.Nodup) (h : mtK st s d ρ β k = some res) :
    ∃ x ρ' β', k x ρ' β' = some res ∧ ρ <+: ρ' ∧ ρ'.Nodup ∧ (∀ r, r ∈ β → r ∈ β') ∧ ∀ ρf βf, ρ' <+: ρf → (∀ r, r ∈ β' → r ∈ βf) → RepD0 (Mlend M0 g βf) w (gsub g ρf) (lay1 id s x) v := by
  cases s with
  | dead => exact ⟨(), ρ, β, h, List.prefix_refl _, hn, fun _ h => h, fun _ _ _ _ => trivial⟩
  | skip =>
    simp only [mtK] at h
    split at h
    · exact ⟨(), ρ, β, h, List.prefix_refl _, hn, fun _ h => h, fun _ _ _ _ => hd⟩
    · cases h
  | nilS =>
    simp only [mtK] at h
    split at h
    · exact ⟨(), ρ, β, h, List.prefix_refl _, hn, fun _ h => h, fun _ _ _ _ => hd⟩
    · cases h
  | nilP =>
    simp only [mtK] at h
    split at h
    · exact ⟨(), ρ, β, h, List.prefix_refl _, hn, fun _ h => h, fun _ _ _ _ => hd⟩
    · cases h
  | v t =>
    simp only [mtK] at h
    split at h
    · rename_i x hx
      exact ⟨x, ρ, β, h, List.prefix_refl _, hn, fun _ h => h, fun _ βf _ _ => RepV.step (Mlend.step βf) (hs.dat hd hx)⟩
    · split at h
      · rename_i x hx
        obtain ⟨r, hr, hrep⟩ := lent_v hs hd hx
        rcases hr with rfl | rfl
        · exact ⟨x, ρ, r :: β, h, List.prefix_refl _, hn, fun _ h => List.mem_cons_of_mem _ h, fun _ βf _ hβ => hrep βf (hβ r List.mem_cons_self)⟩
        · exact ⟨x, ρ, r :: β, h, List.prefix_refl _, hn, fun _ h => List.mem_cons_of_mem _ h, fun _ βf _ hβ => hrep βf (hβ r List.mem_cons_self)⟩
      · cases h
  | at_ t =>
    simp only [mtK] at h
    split at h
    · split at h
      · rename_i e
        subst e
        obtain ⟨ad, cs, rfl, h1, h2⟩ := hd
        exact ⟨_, ρ, β, h, List.prefix_refl _, hn, fun _ h => h, fun _ βf _ _ => ⟨ad, cs, rfl, RepC.step (Mlend.step βf) _ _ _ h1, h2.step (Mlend.step βf)⟩⟩
      · cases h
    · cases h
  | row r =>
    simp only [mtK] at h
    split at h
    · rename_i r'
      obtain ⟨ρ', h1, h2, h3, h4⟩ := nmK_sound hn h
      refine ⟨(), ρ', β, h1, h2, h3, fun _ h => h, fun ρf βf hp _ => ?_⟩
      obtain ⟨x, A, n, c, h5, h6⟩ := hd
      exact ⟨x, A, n, c, (gsub_pre hp h4).trans h5, h6⟩
    · cases h
  | mref r =>
    simp only [mtK] at h
    split at h
    · rename_i r'
      obtain ⟨ρ', h1, h2, h3, h4⟩ := nmK_sound hn h
      refine ⟨(), ρ', β, h1, h2, h3, fun _ h => h, fun ρf βf hp _ => ?_⟩
      obtain ⟨x, b, h5, h6⟩ := hd
      exact ⟨x, b, (gsub_pre hp h4).trans h5, h6⟩
    · cases h
  | box r o =>
    simp only [mtK] at h
    split at h
    · rename_i r' o'
      split at h
      · rename_i e
        have := Nat.eq_of_beq_eq_true e
        subst this
        obtain ⟨ρ', h1, h2, h3, h4⟩ := nmK_sound hn h
        refine ⟨(), ρ', β, h1, h2, h3, fun _ h => h, fun ρf βf hp _ => ?_⟩
        obtain ⟨x, b, h5, h6⟩ := hd
        exact ⟨x, b, (gsub_pre hp h4).trans h5, h6⟩
      · cases h
    · cases h
  | fnc f l =>
    simp only [mtK] at h
    split at h
    · rename_i f' l'
      split at h
      · rename_i e
        have := Nat.eq_of_beq_eq_true e
        subst this
        obtain ⟨ρ', h1, h2, h3, h4⟩ := nmsK_sound _ _ hn h
        refine ⟨(), ρ', β, h1, h2, h3, fun _ h => h, fun ρf βf hp _ => ?_⟩
        obtain ⟨cs, e, ha⟩ := hd
        refine ⟨cs, e, ?_⟩
        show All2 _ (l.map id) _
        rw [List.map_id]
        exact names_all hp h4 ha
      · cases h
    · cases h
theorem mtsK_sound {R : Type} (hs : Sim G B0 M0 w0 gi g st a w) : ∀ (l : List Sl) (ds : List D) (vs : List Value) {ρ β : List Nat} {k : SV l → List Nat → List Nat → Option R} {res : R}, All2 (RepD (Mof M0 g) w g) ds vs → ρ.Nodup → mtsK st l ds ρ β k = some res →
    ∃ x ρ' β', k x ρ' β' = some res ∧ ρ <+: ρ' ∧ ρ'.Nodup ∧ (∀ r, r ∈ β → r ∈ β') ∧ ∀ ρf βf, ρ' <+: ρf → (∀ r, r ∈ β' → r ∈ βf) → All2 (RepD0 (Mlend M0 g βf) w (gsub g ρf)) (lays id l x) vs
  | [], [], [], ρ, β, k, res, _, hn, h => ⟨(), ρ, β, h, List.prefix_refl _, hn, fun _ h => h, fun _ _ _ _ => trivial⟩
  | s :: l, d :: ds, v :: vs, ρ, β, k, res, ha, hn, h => by
    obtain ⟨x, ρ1, β1, h1, h2, h3, h4, h5⟩ := mtK_sound hs ha.1 hn h
    obtain ⟨y, ρ2, β2, h6, h7, h8, h9, h10⟩ := mtsK_sound hs l ds vs ha.2 h3 h1
    exact ⟨(x, y), ρ2, β2, h6, h2.trans h7, h8, fun r hr => h9 r (h4 r hr), fun ρf βf hp hβ => ⟨h5 ρf βf (h7.trans hp) fun r hr => hβ r (h9 r hr), h10 ρf βf hp hβ⟩⟩
  | [], [], _ :: _, _, _, _, _, ha, _, _ => ha.elim
  | _ :: _, _ :: _, [], _, _, _, _, ha, _, _ => ha.elim
  | [], _ :: _, _, _, _, _, _, _, _, h => by cases h
  | _ :: _, [], _, _, _, _, _, _, _, h => by cases h
theorem All2.toD {M : Nat → Nat → Prop} {ds : List D} {vs : List Value} (h : All2 (RepD0 M w g) ds vs) : All2 (RepD M w g) ds vs := h.mono fun _ _ => RepD0.toD
theorem mbK_sound {R : Type} (hs : Sim G B0 M0 w0 gi g st a w) {s : Sb} {r : Nat} {ρ β : List Nat} {k : s.den → List Nat → List Nat → Option R} {res : R} (hn : ρ.Nodup) (h : mbK st s r ρ β k = some res) :
    ∃ x ρ' β', k x ρ' β' = some res ∧ ρ <+: ρ' ∧ ρ'.Nodup ∧ (∀ r, r ∈ β → r ∈ β') ∧ ∀ ρf βf, ρ' <+: ρf → (∀ r, r ∈ β' → r ∈ βf) → ∀ blk, layB id s x = some blk → ∃ gx, g r = some gx ∧ RepB (Mlend M0 g βf) w (gsub g ρf) gx blk := by
  cases s with
  | none => exact ⟨(), ρ, β, h, List.prefix_refl _, hn, fun _ h => h, fun _ _ _ _ _ h => by cases h⟩
  | cells l =>
    simp only [mbK] at h
    split at h
    · rename_i ds hb
      obtain ⟨gx, h1, b, vs, el, e, h2, h3⟩ := hs.hp _ _ hb
      obtain ⟨x, ρ', β', h4, h5, h6, h7, h8⟩ := mtsK_sound hs l ds vs.toList h3.toD hn h
      refine ⟨x, ρ', β', h4, h5, h6, h7, fun ρf βf hp hβ blk hblk => ⟨gx, h1, ?_⟩⟩
      cases hblk
      exact ⟨b, vs, el, e, h2, h8 ρf βf hp hβ⟩
    · cases h
  | map e =>
    simp only [mbK] at h
    split at h
    · rename_i e' m hb
      split at h
      · rename_i e1
        subst e1
        obtain ⟨gx, h1, b, es, c, e, h2, h3⟩ := hs.hp _ _ hb
        refine ⟨_, ρ, β, h, List.prefix_refl _, hn, fun _ h => h, fun ρf βf _ _ blk hblk => ⟨gx, h1, ?_⟩⟩
        cases hblk
        exact ⟨b, es, c, e, h2, h3.mono fun _ _ ⟨h4, h5⟩ => ⟨h4, h5.step (Mlend.step βf)⟩⟩
      · cases h
    · cases h
  | row e t ex =>
    simp only [mbK] at h
    split at h
    · rename_i e' t' ex' xs hb
      split at h
      · rename_i e1
        subst e1
        split at h
        · rename_i e2
          obtain ⟨rfl, rfl⟩ := e2
          obtain ⟨gx, h1, hz, cs, h2, h3, h4, h5⟩ := hs.hp _ _ hb
          refine ⟨_, ρ, β, h, List.prefix_refl _, hn, fun _ h => h, fun ρf βf _ _ blk hblk => ⟨gx, h1, ?_⟩⟩
          cases hblk
          exact ⟨hz, cs, h2, h3, h4, fun i hi => RepC.step (Mlend.step βf) _ _ _ (h5 i hi)⟩
        · cases h
      · cases h
    · cases h
theorem mbsK_sound {R : Type} (hs : Sim G B0 M0 w0 gi g st a w) : ∀ (l : List Sb) (j : Nat) {ρ β : List Nat} {k : BV l → List Nat → List Nat → Option R} {res : R}, ρ.Nodup → mbsK st l j ρ β k = some res →
    ∃ x ρ' β', k x ρ' β' = some res ∧ ρ <+: ρ' ∧ ρ'.Nodup ∧ (∀ r, r ∈ β → r ∈ β') ∧ ∀ ρf βf, ρ' <+: ρf → (∀ r, r ∈ β' → r ∈ βf) → ∀ i blk, blkAt id l x i = some blk → ∃ gx, gsub g ρf (j + i) = some gx ∧ RepB (Mlend M0 g βf) w (gsub g ρf) gx blk
  | [], j, ρ, β, k, res, hn, h => ⟨(), ρ, β, h, List.prefix_refl _, hn, fun _ h => h, fun _ _ _ _ i _ h => by cases h⟩
  | s :: l, j, ρ, β, k, res, hn, h => by
    simp only [mbsK] at h
    split at h
    · rename_i r hr
      obtain ⟨x, ρ1, β1, h1, h2, h3, h4, h5⟩ := mbK_sound hs hn h
      obtain ⟨y, ρ2, β2, h6, h7, h8, h9, h10⟩ := mbsK_sound hs l (j + 1) h3 h1
      refine ⟨(x, y), ρ2, β2, h6, h2.trans h7, h8, fun r hr => h9 r (h4 r hr), fun ρf βf hp hβ i blk hblk => ?_⟩
      cases i with
      | zero =>
        obtain ⟨gx, h11, h12⟩ := h5 ρf βf (h7.trans hp) (fun r hr => hβ r (h9 r hr)) blk hblk
        exact ⟨gx, by rw [Nat.add_zero, gsub_pre (h2.trans (h7.trans hp)) hr]; exact h11, h12⟩
      | succ i =>
        obtain ⟨gx, h11, h12⟩ := h10 ρf βf hp hβ i blk hblk
        exact ⟨gx, by rw [show j + (i + 1) = j + 1 + i by omega]; exact h11, h12⟩
    · cases h
/-- The fragment that a function is called with. -/
theorem frag_of (hs : Sim G B0 M0 w0 gi g st a w) {ps : List Sl} {bs : List Sb} {x : SV ps} {y : BV bs} {vs : List Value} {ρ β : List Nat} (hn : ρ.Nodup) (hl : ρ.length = bs.length) (hβ : β ≠ [] → bs = [])
    (ha : All2 (RepD0 (Mlend M0 g β) w (gsub g ρ)) (lays id ps x) vs) (hb : ∀ i blk, blkAt id bs y i = some blk → ∃ gx, gsub g ρ i = some gx ∧ RepB (Mlend M0 g β) w (gsub g ρ) gx blk) : Frag B0 (Mlend M0 g β) w (gsub g ρ) ps bs x y vs := by
  have hg : ∀ {r x}, gsub g ρ r = some x → ∃ r', ρ[r]? = some r' ∧ g r' = some x := by
    intro r x h
    unfold gsub at h
    cases h1 : ρ[r]? with
    | none => rw [h1] at h; cases h
    | some r' => rw [h1] at h; exact ⟨r', rfl, h⟩
  refine ⟨ha, hb, fun r gx h => ?_, fun r r' x x' b h1 h2 h3 h4 => ?_, fun r x b h1 h2 => ?_, fun r x b o h1 h2 => ?_, fun b o h => hs.mlt h.1, fun r x b h1 h2 => ?_⟩
  · obtain ⟨r', h1, _⟩ := hg h
    rw [← hl]; exact (List.getElem?_eq_some_iff.1 h1).1
  · obtain ⟨q, e1, e2⟩ := hg h1
    obtain ⟨q', e3, e4⟩ := hg h2
    have := hs.inj _ _ _ _ _ e2 e4 h3 h4
    subst this
    exact (List.getElem?_inj (List.getElem?_eq_some_iff.1 e1).1 hn).1 (e1.trans e3.symm)
  · obtain ⟨q, e1, e2⟩ := hg h1
    have := hs.low _ _ _ e2 h2
    exact ⟨this.1, this.2.1⟩
  · obtain ⟨q, e1, e2⟩ := hg h1
    have hb0 : β = [] := by
      by_cases h : β = []
      · exact h
      · have := hβ h
        subst this
        have : ρ = [] := List.eq_nil_of_length_eq_zero hl
        subst this
        cases e1
    subst hb0
    exact ⟨fun h => (hs.chg e2 h2).1 h.1, fun h => ⟨(hs.chg e2 h2).2 h, fun ⟨_, h', _⟩ => by cases h'⟩⟩
  · obtain ⟨q, e1, e2⟩ := hg h1
    exact hs.row _ _ _ e2 h2
end
end Go.Proofs.YtbekhaioddmliaaDoor
