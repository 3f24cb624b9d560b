/- The machine of values is right about calls. -/
import Derived.Test.YtjiddcchklaiiaaGreatDoorQBm11
namespace Go.Proofs.YtjiddcchklaiiaaGreatDoor
set_option linter.unusedVariables false
set_option linter.unusedSimpArgs false
open Go Go.RowKit
section
variable {P : Program} {df : List Deferred} {G : World → Prop} {B0 : Nat} {E : Env} {M : Nat → Nat → Prop} {M0 : Nat → Nat → Prop} {w0 : World} {gi g : Gh} {st : St} {a : Act} {w : World}
theorem RepG.monoC {RR RR' : (i : RC) → i.den → List Value → Prop} {M M' : Nat → Nat → Prop} {w' : World} (hs : ∀ ad u, w.cell? ad = some u → ¬ M ad.block ad.off → w'.cell? ad = some u ∧ ¬ M' ad.block ad.off) (hR : ∀ i x cs, RR i x cs → RR' i x cs) :
   ∀ (t : Ty) (x : t.den) (cs : List Value), hasMap t = false → RepG RR M w t x cs → RepG RR' M' w' t x cs
 | .u8, _, _, _, h => h
 | .int _, _, _, _, h => h
 | .bool, _, _, _, h => h
 | .str, _, _, _, h => h
 | .sl t, _, _, ht, h => by
   obtain ⟨A, c, rfl, h1, h2, h3⟩ := h
   refine ⟨A, c, rfl, h1, h2, fun i hi => ?_⟩
   obtain ⟨ad, es, e, hr, hp⟩ := h3 i hi
   exact ⟨ad, es, e, RepG.monoC hs hR t _ _ ht hr, fun j u hu => let ⟨a, b⟩ := hp j u hu; hs _ _ a b⟩
 | .pr a b, x, _, ht, h => by
   obtain ⟨c1, c2, rfl, h1, h2⟩ := h
   simp only [hasMap, Bool.or_eq_false_iff] at ht
   exact ⟨c1, c2, rfl, RepG.monoC hs hR a _ _ ht.1 h1, RepG.monoC hs hR b _ _ ht.2 h2⟩
 | .un, _, _, _, h => h
 | .mp e, _, _, ht, h => by cases ht
 | .ptr t, _, _, ht, h => by
   obtain ⟨ad, es, rfl, h1, h2⟩ := h
   exact ⟨ad, es, rfl, RepG.monoC hs hR t _ _ ht h1, fun j u hu => let ⟨a, b⟩ := h2 j u hu; hs _ _ a b⟩
 | .np t, x, _, ht, h => by
   cases x with
   | none => exact h
   | some x =>
     obtain ⟨ad, es, rfl, h1, h2⟩ := h
     exact ⟨ad, es, rfl, RepG.monoC hs hR t _ _ ht h1, fun j u hu => let ⟨a, b⟩ := h2 j u hu; hs _ _ a b⟩
 | .nl, _, _, _, h => h
 | .clo _ t, _, _, ht, h => by
   obtain ⟨c, rfl, h1⟩ := h
   exact ⟨c, rfl, RepG.monoC hs hR t _ _ ht h1⟩
 | .rc i, x, cs, _, h => hR i x cs h
theorem RepC.stepC {M M' : Nat → Nat → Prop} {w' : World} (hs : ∀ ad u, w.cell? ad = some u → ¬ M ad.block ad.off → w'.cell? ad = some u ∧ ¬ M' ad.block ad.off) (t : Ty) (x : t.den) (cs : List Value) (ht : hasMap t = false) (h : RepC M w t x cs) : RepC M' w' t x cs :=
 RepG.monoC hs (fun _ _ _ h => h (fun i x cs => RRs M' w' i x cs) fun j _ _ h' => RRs.intro (RepG.monoC hs (fun _ _ _ h => h) _ _ _ (by cases j <;> rfl) h')) t x cs ht h
def Good (M' M'' : Nat → Nat → Prop) (w : World) (t : Ty) : Prop := ∀ (x : t.den) cs, RepC M' w t x cs → RepC M'' w t x cs
def GoodPl (M' M'' : Nat → Nat → Prop) (w : World) : Prop := ∀ ad cs, Pl M' w ad cs → Pl M'' w ad cs
def slGood (M' M'' : Nat → Nat → Prop) (w : World) : Sl → Prop
 | .v t => Good M' M'' w t
 | .at_ t => Good M' M'' w t ∧ GoodPl M' M'' w
 | _ => True
def sbGood (M' M'' : Nat → Nat → Prop) (w : World) : Sb → Prop
 | .none => True
 | .cells l => ∀ s ∈ l, slGood M' M'' w s
 | .map e => Good M' M'' w e
 | .row _ t _ => Good M' M'' w t
 | .iter _ => True
 | .que _ _ => True
 | .bld _ l => ∀ s ∈ l, slGood M' M'' w s
theorem lay1_move {M' M'' : Nat → Nat → Prop} {g' G' : Gh} {ν : Nat → Nat} (hν : ∀ j x, g' j = some x → G' (ν j) = some x) {s : Sl} (hG : slGood M' M'' w s) {x : s.den} {v : Value} (h : RepD0 M' w g' (lay1 id s x) v) : RepD0 M'' w G' (lay1 ν s x) v := by
 cases s with
 | v t => obtain ⟨cs, h1, h2⟩ := h; exact ⟨cs, hG _ _ h1, h2⟩
 | at_ t => obtain ⟨ad, cs, h1, h2, h3⟩ := h; exact ⟨ad, cs, h1, hG.1 _ _ h2, hG.2 _ _ h3⟩
 | row r => obtain ⟨x, A, n, c, h1, h2⟩ := h; exact ⟨x, A, n, c, hν _ _ h1, h2⟩
 | mref r => obtain ⟨x, b, h1, h2⟩ := h; exact ⟨x, b, hν _ _ h1, h2⟩
 | box r o => obtain ⟨x, b, h1, h2⟩ := h; exact ⟨x, b, hν _ _ h1, h2⟩
 | fnc f l =>
   obtain ⟨cs, e, ha⟩ := h
   refine ⟨cs, e, ?_⟩
   change All2 _ (l.map id) cs.toList at ha
   show All2 _ (l.map ν) cs.toList
   rw [List.map_id] at ha
   exact ha.mapL ν fun r u ⟨x, b, h1, h2⟩ => ⟨x, b, hν _ _ h1, h2⟩
 | dead => trivial
 | skip => exact h
 | nilS => exact h
 | nilP => exact h
theorem lays_move {M' M'' : Nat → Nat → Prop} {g' G' : Gh} {ν : Nat → Nat} (hν : ∀ j x, g' j = some x → G' (ν j) = some x) : ∀ {l : List Sl}, (∀ s ∈ l, slGood M' M'' w s) → ∀ {x : SV l} {vs : List Value}, All2 (RepD0 M' w g') (lays id l x) vs → All2 (RepD0 M'' w G') (lays ν l x) vs
 | [], _, _, [], _ => trivial
 | [], _, _, _ :: _, h => h.elim
 | s :: l, hG, x, [], h => h.elim
 | s :: l, hG, x, v :: vs, h => ⟨lay1_move hν (hG s List.mem_cons_self) h.1, lays_move hν (fun s hs => hG s (List.mem_cons_of_mem _ hs)) h.2⟩
theorem layB_move {M' M'' : Nat → Nat → Prop} {g' G' : Gh} {ν : Nat → Nat} (hν : ∀ j x, g' j = some x → G' (ν j) = some x) {s : Sb} (hG : sbGood M' M'' w s) {x : s.den} {blk : Blk} (hb : layB ν s x = some blk) {gx : GB} (h : ∀ blk, layB id s x = some blk → ∃ gx', gx' = gx ∧ RepB M' w g' gx' blk) : RepB M'' w G' gx blk := by
 cases s with
 | none => cases hb
 | cells l =>
   cases hb
   obtain ⟨_, rfl, b, vs, el, h1, h2, h3⟩ := h _ rfl
   exact ⟨b, vs, el, h1, h2, lays_move hν hG h3⟩
 | bld T l =>
   cases hb
   obtain ⟨_, rfl, b, p, vs, h1, h2, h0, h3⟩ := h _ rfl
   exact ⟨b, p, vs, h1, h2, h0, lays_move hν hG h3⟩
 | map e =>
   cases hb
   obtain ⟨_, rfl, b, es, c, h1, h2, h3, h7⟩ := h _ rfl
   exact ⟨b, es, c, h1, h2, h3.mono fun _ _ ⟨h4, cs, h5, h6⟩ => ⟨h4, cs, hG _ _ h5, h6⟩, h7⟩
 | row e t ex =>
   cases hb
   obtain ⟨_, rfl, hz, cs, h1, h2, h3, h4⟩ := h _ rfl
   exact ⟨hz, cs, h1, h2, h3, fun i hi => hG _ _ (h4 i hi)⟩
 | iter e => cases hb
 | que e t => cases hb
theorem blkAt_move {M' M'' : Nat → Nat → Prop} {g' G' : Gh} {ν : Nat → Nat} (hν : ∀ j x, g' j = some x → G' (ν j) = some x) : ∀ {l : List Sb}, (∀ s ∈ l, sbGood M' M'' w s) → ∀ {y : BV l} {i : Nat} {blk : Blk}, blkAt ν l y i = some blk → ∀ {f : Nat → GB}, (∀ blk, blkAt id l y i = some blk → ∃ gx', gx' = f i ∧ RepB M' w g' gx' blk) → RepB M'' w G' (f i) blk
 | [], _, _, _, _, hb, _, _ => by cases hb
 | s :: l, hG, y, 0, blk, hb, f, h => layB_move hν (hG s List.mem_cons_self) hb h
 | s :: l, hG, y, i + 1, blk, hb, f, h => blkAt_move hν (l := l) (fun s hs => hG s (List.mem_cons_of_mem _ hs)) hb (f := fun j => f (j + 1)) h
theorem blkAt_id {ν : Nat → Nat} : ∀ {l : List Sb} {y : BV l} {i : Nat} {blk : Blk}, blkAt ν l y i = some blk → i < l.length ∧ ∃ blk', blkAt id l y i = some blk'
 | [], _, _, _, h => by cases h
 | s :: l, y, 0, blk, h => by
   refine ⟨Nat.zero_lt_succ _, ?_⟩
   cases s with
   | none => cases h
   | iter e => cases h
   | que e t => cases h
   | _ => exact ⟨_, rfl⟩
 | s :: l, y, i + 1, blk, h => by
   obtain ⟨h1, h2⟩ := blkAt_id (l := l) (y := y.2) (i := i) h
   exact ⟨Nat.succ_lt_succ h1, h2⟩
theorem layBs_fr (ν : Nat → Nat) : ∀ (l : List Sb) (j : Nat) (y : BV l) (st : St), (layBs ν l j y st).fr = st.fr ∧ (layBs ν l j y st).n = st.n
 | [], _, _, _ => ⟨rfl, rfl⟩
 | s :: l, j, y, st => by
   unfold layBs
   split
   · exact layBs_fr ν l (j + 1) y.2 _
   · exact layBs_fr ν l (j + 1) y.2 _
theorem layBs_other (ν : Nat → Nat) {r : Nat} : ∀ (l : List Sb) (j : Nat) (y : BV l) (st : St), (∀ i, i < l.length → ν (j + i) ≠ r) → aget (layBs ν l j y st).hp r = aget st.hp r
 | [], _, _, _, _ => rfl
 | s :: l, j, y, st, h => by
   have h0 : ν j ≠ r := h 0 (Nat.zero_lt_succ _)
   have h1 : ∀ i, i < l.length → ν (j + 1 + i) ≠ r := fun i hi => by rw [show j + 1 + i = j + (i + 1) by omega]; exact h _ (Nat.succ_lt_succ hi)
   unfold layBs
   split
   · rw [layBs_other ν l (j + 1) y.2 _ h1]; exact aget_aset_other _ _ (Ne.symm h0)
   · rw [layBs_other ν l (j + 1) y.2 _ h1]; exact aget_adel_other _ (Ne.symm h0)
theorem layBs_at (ν : Nat → Nat) : ∀ (l : List Sb) (j : Nat) (y : BV l) (st : St) (i : Nat), i < l.length → (∀ i', i' < l.length → i' ≠ i → ν (j + i') ≠ ν (j + i)) → aget (layBs ν l j y st).hp (ν (j + i)) = blkAt ν l y i
 | [], _, _, _, _, h, _ => by cases h
 | s :: l, j, y, st, 0, _, h => by
   have h1 : ∀ i, i < l.length → ν (j + 1 + i) ≠ ν j := fun i hi => by rw [show j + 1 + i = j + (i + 1) by omega]; exact h _ (Nat.succ_lt_succ hi) (by omega)
   unfold layBs
   show _ = layB ν s y.1
   split
   · rename_i b hb
     rw [hb]
     exact (layBs_other ν l (j + 1) y.2 (st.setB (ν j) b) h1).trans (aget_aset_same _ _ _)
   · rename_i hb
     rw [hb]
     exact (layBs_other ν l (j + 1) y.2 (st.delB (ν j)) h1).trans (aget_adel_same _ _)
 | s :: l, j, y, st, i + 1, hi, h => by
   have h1 : ∀ i', i' < l.length → i' ≠ i → ν (j + 1 + i') ≠ ν (j + 1 + i) := fun i' hi' hne => by
     rw [show j + 1 + i' = j + (i' + 1) by omega, show j + 1 + i = j + (i + 1) by omega]
     exact h _ (Nat.succ_lt_succ hi') (by omega)
   have hi' : i < l.length := Nat.lt_of_succ_lt_succ hi
   unfold layBs
   show _ = blkAt ν l y.2 i
   rw [show j + (i + 1) = j + 1 + i by omega]
   split
   · exact layBs_at ν l (j + 1) y.2 _ i hi' h1
   · exact layBs_at ν l (j + 1) y.2 _ i hi' h1
def pos : List Nat → Nat → Option Nat
 | [], _ => none
 | b :: l, r => if b = r then some 0 else (pos l r).map (· + 1)
theorem pos_some : ∀ {l : List Nat} {r j : Nat}, pos l r = some j → l[j]? = some r
 | [], _, _, h => by cases h
 | b :: l, r, j, h => by
   unfold pos at h
   split at h
   · rename_i e; cases h; simp [e]
   · cases h1 : pos l r with
     | none => rw [h1] at h; cases h
     | some i => rw [h1] at h; cases h; simpa using pos_some h1
theorem pos_none : ∀ {l : List Nat} {r : Nat}, pos l r = none → r ∉ l
 | [], _, _ => by simp
 | b :: l, r, h => by
   unfold pos at h
   split at h
   · cases h
   · rename_i hne
     cases h1 : pos l r with
     | none => have := pos_none h1; simp [this, Ne.symm hne]
     | some i => rw [h1] at h; cases h
theorem pos_get {l : List Nat} (hn : l.Nodup) {r j : Nat} (h : l[j]? = some r) : pos l r = some j := by
 cases h1 : pos l r with
 | none => exact absurd (List.mem_of_getElem? h) (pos_none h1)
 | some i =>
   have := pos_some h1
   exact congrArg some ((List.getElem?_inj (List.getElem?_eq_some_iff.1 this).1 hn).1 (this.trans h.symm))
theorem mem_fresh {b : Nat} : ∀ {n r : Nat}, r ∈ fresh b n ↔ b ≤ r ∧ r < b + n
 | 0, r => by simp [fresh]
 | n + 1, r => by
   simp only [fresh, List.mem_append, mem_fresh (n := n), List.mem_singleton]; omega
theorem nodup_fresh (b : Nat) : ∀ n, (fresh b n).Nodup
 | 0 => by simp [fresh]
 | n + 1 => by
   simp only [fresh]
   rw [List.nodup_append]
   refine ⟨nodup_fresh b n, by simp, fun x hx y hy e => ?_⟩
   have := mem_fresh.1 hx
   have h2 : y = b + n := by simpa using hy
   omega
def gput (g : Gh) (ν : List Nat) (g' : Gh) : Gh := fun r => match pos ν r with
 | some j => g' j
 | none => g r
theorem gput_at {ν : List Nat} {g' : Gh} (hn : ν.Nodup) {j r : Nat} (h : ν[j]? = some r) : gput g ν g' r = g' j := by unfold gput; rw [pos_get hn h]
theorem gput_other {ν : List Nat} {g' : Gh} {r : Nat} (h : r ∉ ν) : gput g ν g' r = g r := by
 unfold gput
 split
 · rename_i j hj; exact absurd (List.mem_of_getElem? (pos_some hj)) h
 · rfl
theorem stale_mem : ∀ {bs cs : List Sb} {ν : List Nat} {j r : Nat}, cs.length = ν.length → ν[j]? = some r → (∀ s, bs[j]? = some s → (∀ l, s ≠ .cells l) ∧ (∀ e, s ≠ .map e) ∧ ∀ T l, s ≠ .bld T l) → r ∈ stale0 bs cs ν
 | [], cs, ν, j, r, _, h, _ => by
   have : stale0 [] cs ν = ν := by cases cs <;> rfl
   rw [this]; exact List.mem_of_getElem? h
 | b :: bs, [], ν, j, r, hl, h, _ => by
   have : ν = [] := List.eq_nil_of_length_eq_zero hl.symm
   subst this; simp at h
 | b :: bs, c :: cs, [], j, r, hl, h, _ => by simp at h
 | b :: bs, c :: cs, n :: ν, 0, r, hl, h, hb => by
   have hr : n = r := by simpa using h
   subst hr
   have := hb b rfl
   cases b with
   | cells l => exact absurd rfl (this.1 l)
   | map e => exact absurd rfl (this.2.1 e)
   | bld T l => exact absurd rfl (this.2.2 T l)
   | none => exact List.mem_cons_self
   | row _ _ _ => exact List.mem_cons_self
   | iter _ => exact List.mem_cons_self
   | que _ _ => exact List.mem_cons_self
 | b :: bs, c :: cs, n :: ν, j + 1, r, hl, h, hb => by
   have ih := stale_mem (bs := bs) (cs := cs) (ν := ν) (j := j) (r := r) (by simpa using hl) (by simpa using h) (fun s hs => hb s (by simpa using hs))
   cases b with
   | cells l => exact ih
   | bld _ _ => exact ih
   | map e => exact ih
   | none => exact List.mem_cons_of_mem _ ih
   | row _ _ _ => exact List.mem_cons_of_mem _ ih
   | iter _ => exact List.mem_cons_of_mem _ ih
   | que _ _ => exact List.mem_cons_of_mem _ ih
theorem softArgsK_sound {R : Type} [BothC R] : ∀ (l : List Sl) (ds : List D) {g : Gh} {st : St}, Sim df G B0 M0 w0 gi g st a w → ∀ {k : St → Option R} {r : R}, softArgsK l ds st k = some r →
   ∃ g' st', Sim df G B0 M0 w0 gi g' st' a w ∧ k st' = some r ∧ (∀ x v, RepD (Mof M0 g) w g x v → RepD (Mof M0 g') w g' x v)
 | [], ds, g, st, hs, k, r, h => ⟨g, st, hs, by cases ds <;> exact h, fun _ _ h => h⟩
 | .v t :: l, d :: ds, g, st, hs, k, r, h => by
   change st.softK d (fun st => softArgsK l ds st k) = some r at h
   have h1 : ∃ g1 st1, Sim df G B0 M0 w0 gi g1 st1 a w ∧ softArgsK l ds st1 k = some r ∧ (∀ x v, RepD (Mof M0 g) w g x v → RepD (Mof M0 g1) w g1 x v) := by
     obtain ⟨g', st1, h1, h2, _, h3⟩ := softK_full hs h
     exact ⟨g', st1, h1, h2, h3⟩
   obtain ⟨g1, st1, h2, h3, h4⟩ := h1
   obtain ⟨g2, st2, h5, h6, h7⟩ := softArgsK_sound l ds h2 h3
   exact ⟨g2, st2, h5, h6, fun x v hx => h7 x v (h4 x v hx)⟩
 | .v t :: l, [], g, st, hs, k, r, h => ⟨g, st, hs, h, fun _ _ h => h⟩
 | s :: l, [], g, st, hs, k, r, h => ⟨g, st, hs, by cases s <;> exact h, fun _ _ h => h⟩
 | .dead :: l, d :: ds, g, st, hs, k, r, h => softArgsK_sound l ds hs h
 | .skip :: l, d :: ds, g, st, hs, k, r, h => softArgsK_sound l ds hs h
 | .nilS :: l, d :: ds, g, st, hs, k, r, h => softArgsK_sound l ds hs h
 | .nilP :: l, d :: ds, g, st, hs, k, r, h => softArgsK_sound l ds hs h
 | .row _ :: l, d :: ds, g, st, hs, k, r, h => softArgsK_sound l ds hs h
 | .box _ _ :: l, d :: ds, g, st, hs, k, r, h => softArgsK_sound l ds hs h
 | .at_ _ :: l, d :: ds, g, st, hs, k, r, h => softArgsK_sound l ds hs h
 | .mref _ :: l, d :: ds, g, st, hs, k, r, h => softArgsK_sound l ds hs h
 | .fnc _ _ :: l, d :: ds, g, st, hs, k, r, h => softArgsK_sound l ds hs h
theorem okZ_at : ∀ {bs cs : List Sb} {ρ : List Nat}, okZ bs cs ρ = true → ∀ {i : Nat}, ρ[i]? = some 0 → i = 0 ∧ keptZ bs cs = true
 | _, _, [], _, _, h => by simp at h
 | bs, cs, r :: l, h, 0, h1 => by
   have h3 : (match memN l 0 with | true => false | false => match keptZ bs cs with | true => true | false => match Nat.beq r 0 with | true => false | false => true) = true := h
   have h4 : r = 0 := by simpa using h1
   subst h4
   refine ⟨rfl, ?_⟩
   split at h3
   · cases h3
   · split at h3
     · rename_i h5; exact h5
     · cases h3
 | bs, cs, r :: l, h, i + 1, h1 => by
   have h2 : (0 : Nat) ∈ l := List.mem_of_getElem? (i := i) (by simpa using h1)
   have h3 : (match memN l 0 with | true => false | false => match keptZ bs cs with | true => true | false => match Nat.beq r 0 with | true => false | false => true) = true := h
   rw [memN_iff.2 h2] at h3
   cases h3
theorem stale_memZ : ∀ {bs cs : List Sb} {ν : List Nat} {j r : Nat}, cs.length = ν.length → ν[j]? = some r → ¬ (j = 0 ∧ 0 < bs.length) → (∀ s, bs[j]? = some s → (∀ l, s ≠ .cells l) ∧ (∀ e, s ≠ .map e) ∧ ∀ T l, s ≠ .bld T l) → r ∈ (match true, bs, cs, ν with
     | true, _ :: bs, _ :: cs, _ :: ν => stale0 bs cs ν
     | true, _, _, ν => ν
     | false, bs, cs, ν => stale0 bs cs ν)
 | [], _, _, _, _, _, h, _, _ => List.mem_of_getElem? h
 | _ :: _, [], [], _, _, _, h, _, _ => by simp at h
 | _ :: _, [], _ :: _, _, _, hl, _, _, _ => by simp at hl
 | _ :: _, _ :: _, [], _, _, _, h, _, _ => by simp at h
 | _ :: _, _ :: _, _ :: _, 0, _, _, _, hn, _ => absurd ⟨rfl, by simp⟩ hn
 | _ :: _, _ :: _, _ :: _, _ + 1, _, hl, h, _, hb => stale_mem (by simpa using hl) (by simpa using h) (fun s hs => hb s (by simpa using hs))
theorem stale_mem' {bs cs : List Sb} {ν : List Nat} {j r : Nat} (hl : cs.length = ν.length) (h : ν[j]? = some r) (hn : ¬ ((j = 0 ∧ 0 < bs.length) ∧ keptZ bs cs = true)) (hb : ∀ s, bs[j]? = some s → (∀ l, s ≠ .cells l) ∧ (∀ e, s ≠ .map e) ∧ ∀ T l, s ≠ .bld T l) : r ∈ stale bs cs ν := by
 unfold stale
 cases hk : keptZ bs cs with
 | true => exact stale_memZ hl h (fun h => hn ⟨h, hk⟩) hb
 | false => exact stale_mem hl h hb
theorem after_call (hs : Sim df G B0 M0 w0 gi g st a w) {F : AF} {ρ ν β : List Nat} {y : BV F.bs} {z : F.R} (hn : ν.Nodup) (hl : ν.length = F.cs.length) (hρ : ρ <+: ν) (hρl : ρ.length = F.bs.length) (hge : ∀ r, r ∈ ν → r ∉ ρ → 1000 ≤ r)
   (hbs : ∀ i blk, blkAt id F.bs y i = some blk → ∃ gx, gsub g ρ i = some gx ∧ RepB (Mlend M0 g β) w (gsub g ρ) gx blk)
   {w' : World} {vs : List Value} {g' : Gh} (hX : ExtX (Xof (gsub g ρ)) w w') (hS : Step (Mlend M0 g β) w (Mafter (Mlend M0 g β) (gsub g ρ) g') w') (hfr : Frag B0 (Mafter (Mlend M0 g β) (gsub g ρ) g') w' g' F.rs F.cs (F.out z).1 (F.out z).2 vs)
   (hkeep : ∀ r x, gsub g ρ r = some x → (isBM x.v = true ∨ r = 0 ∧ keptZ F.bs F.cs = true) → g' r = some x) (hnew : ∀ b, Xof g' b → Xof (gsub g ρ) b ∨ w.heap.size ≤ b)
   (hz : okZ F.bs F.cs ρ = true) (hgood : (∀ s ∈ F.rs, slGood (Mafter (Mlend M0 g β) (gsub g ρ) g') (Mof M0 (gput g ν g')) w' s) ∧ ∀ s ∈ F.cs, sbGood (Mafter (Mlend M0 g β) (gsub g ρ) g') (Mof M0 (gput g ν g')) w' s) :
   Sim df G B0 M0 w0 gi (gput g ν g') (layBs (nameOf ν) F.cs 0 (F.out z).2 (st.lift (forget (stale F.bs F.cs ν)))) a w' ∧ All2 (RepD0 (Mof M0 (gput g ν g')) w' (gput g ν g')) (lays (nameOf ν) F.rs (F.out z).1) vs := by
 have hname : ∀ {j r}, ν[j]? = some r → nameOf ν j = r := fun {j r} h => by unfold nameOf; rw [h]
 have hg'n : ∀ j x, g' j = some x → gput g ν g' (nameOf ν j) = some x := by
   intro j x h
   have hj : j < ν.length := by rw [hl]; exact hfr.dom j x h
   have h1 : ν[j]? = some ν[j] := List.getElem?_eq_getElem hj
   rw [hname h1, gput_at hn h1]; exact h
 have hsubget : ∀ {j x}, gsub g ρ j = some x → ∃ r, ρ[j]? = some r ∧ ν[j]? = some r ∧ g r = some x := by
   intro j x h
   unfold gsub at h
   cases h1 : ρ[j]? with
   | none => rw [h1] at h; cases h
   | some r => rw [h1] at h; exact ⟨r, rfl, pre_get hρ h1, h⟩
 have hXg : ∀ b, Xof (gsub g ρ) b → ∃ r, r ∈ ρ ∧ ∃ x, g r = some x ∧ x.blk = some b := by
   rintro b ⟨j, x, h1, h2⟩
   obtain ⟨r, h3, _, h4⟩ := hsubget h1
   exact ⟨r, List.mem_of_getElem? h3, x, h4, h2⟩
 have hρν : ∀ r, r ∈ ρ → r ∈ ν := fun r hr => hρ.subset hr
 -- what may change
 have hM : ∀ b o, b < w.heap.size ∨ Xof g' b → Mof M0 (gput g ν g') b o → Mafter (Mlend M0 g β) (gsub g ρ) g' b o ∨ Mof M0 g b o ∧ ¬ Xof (gsub g ρ) b := by
   intro b o _ h
   rcases h with h | ⟨r, x, h1, h2, h3⟩
   · refine .inr ⟨.inl h, fun hx => ?_⟩
     obtain ⟨r, _, x, h4, h5⟩ := hXg b hx
     exact hs.m0x h h4 h5
   · by_cases hr : r ∈ ν
     · obtain ⟨j, hj⟩ := List.getElem?_of_mem hr
       rw [gput_at hn hj] at h1
       exact .inl (.inr ⟨j, x, h1, h2, h3⟩)
     · rw [gput_other hr] at h1
       refine .inr ⟨.inr ⟨r, x, h1, h2, h3⟩, fun hx => ?_⟩
       obtain ⟨r', h4, x', h5, h6⟩ := hXg b hx
       have := hs.inj _ _ _ _ _ h1 h5 h2 h6
       subst this
       exact hr (hρν _ h4)
 have hMl : ∀ b o, ¬ Mof M0 g b o → ¬ Mlend M0 g β b o := fun b o h h' => h h'.1
 have hstep : Step (Mof M0 g) w (Mof M0 (gput g ν g')) w' := by
   refine ⟨fun ad u hc hm => ?_, fun b es c hc hm => ?_⟩
   · obtain ⟨h1, h2⟩ := hS.1 ad u hc (hMl _ _ hm)
     refine ⟨h1, fun h3 => ?_⟩
     rcases hM _ _ (.inl (World.block_lt_of_cell? w ad hc)) h3 with h4 | h4
     · exact h2 h4
     · exact hm h4.1
   · obtain ⟨h1, h2⟩ := hS.2 b es c hc (hMl _ _ hm)
     refine ⟨h1, fun h3 => ?_⟩
     rcases hM _ _ (.inl (lt_of_map hc)) h3 with h4 | h4
     · exact h2 h4
     · exact hm h4.1
 have hφ : ∀ r, r ∉ stale F.bs F.cs ν → ∀ x, g r = some x → gput g ν g' r = some x := by
   intro r hr x hx
   by_cases hrν : r ∈ ν
   · obtain ⟨j, hj⟩ := List.getElem?_of_mem hrν
     rw [gput_at hn hj]
     by_cases h0 : (j = 0 ∧ 0 < F.bs.length) ∧ keptZ F.bs F.cs = true
     · have hjl : j < ρ.length := by rw [hρl]; omega
       have hjρ : ρ[j]? = some r := by
         have h1 : ρ[j]? = some ρ[j] := List.getElem?_eq_getElem hjl
         have h2 := pre_get hρ h1
         rw [hj] at h2
         rw [h1]; exact h2.symm
       have hsub : gsub g ρ j = some x := by simp only [gsub, hjρ, Option.bind_some]; exact hx
       exact hkeep j x hsub (.inr ⟨h0.1.1, h0.2⟩)
     -- its shape is that of a box or a map
     have hsh : ∃ s, F.bs[j]? = some s ∧ ((∃ l, s = .cells l) ∨ (∃ e, s = .map e) ∨ ∃ T l, s = .bld T l) := by
       by_cases h1 : ∃ s, F.bs[j]? = some s ∧ ((∃ l, s = .cells l) ∨ (∃ e, s = .map e) ∨ ∃ T l, s = .bld T l)
       · exact h1
       · refine absurd (stale_mem' hl.symm hj h0 fun s hs => ⟨fun l e => h1 ⟨s, hs, .inl ⟨l, e⟩⟩, fun e e' => h1 ⟨s, hs, .inr (.inl ⟨e, e'⟩)⟩, fun T l e' => h1 ⟨s, hs, .inr (.inr ⟨T, l, e'⟩)⟩⟩) hr
     obtain ⟨s, hs1, hs2⟩ := hsh
     have hjl : j < ρ.length := by rw [hρl]; exact (List.getElem?_eq_some_iff.1 hs1).1
     have hjρ : ρ[j]? = some r := by
       have h1 : ρ[j]? = some ρ[j] := List.getElem?_eq_getElem hjl
       have h2 := pre_get hρ h1
       rw [hj] at h2
       rw [h1]; exact h2.symm
     have hsub : gsub g ρ j = some x := by simp only [gsub, hjρ, Option.bind_some]; exact hx
     refine hkeep j x hsub (.inl ?_)
     have hblk : ∃ blk, blkAt id F.bs y j = some blk ∧ ((∃ l, blk = .cells l) ∨ (∃ e m, blk = .map e m) ∨ ∃ T l, blk = .bld T l) := by
       have gen : ∀ (l : List Sb) (y : BV l) (j : Nat), l[j]? = some s → ∃ blk, blkAt id l y j = some blk ∧ ((∃ l, blk = .cells l) ∨ (∃ e m, blk = .map e m) ∨ ∃ T l, blk = .bld T l) := by
         intro l
         induction l with
         | nil => intro y j h; simp at h
         | cons s' l ih =>
           intro y j h
           cases j with
           | zero =>
             have : s' = s := by simpa using h
             subst this
             rcases hs2 with ⟨l, rfl⟩ | ⟨e, rfl⟩ | ⟨T, l, rfl⟩
             · exact ⟨_, rfl, .inl ⟨_, rfl⟩⟩
             · exact ⟨_, rfl, .inr (.inl ⟨_, _, rfl⟩)⟩
             · exact ⟨_, rfl, .inr (.inr ⟨_, _, rfl⟩)⟩
           | succ j => exact ih y.2 j (by simpa using h)
       exact gen F.bs y j hs1
     obtain ⟨blk, hb1, hb2⟩ := hblk
     obtain ⟨gx, h3, h4⟩ := hbs j blk hb1
     rw [hsub] at h3
     cases h3
     rcases hb2 with ⟨l, rfl⟩ | ⟨e, m, rfl⟩ | ⟨T, l, rfl⟩
     · obtain ⟨b, vs, el, e, _⟩ := h4; rw [e]; rfl
     · obtain ⟨b, es, c, e, _⟩ := h4; rw [e]; rfl
     · obtain ⟨b, p, vs, e, _⟩ := h4; rw [e]; rfl
   · rw [gput_other hrν]; exact hx
 have hother : ∀ r x b, r ∉ ν → g r = some x → x.blk = some b → w'.heap[b]? = w.heap[b]? := by
   intro r x b hr h1 h2
   refine hX.block b (hs.low _ _ _ h1 h2).2.1 fun hx => ?_
   obtain ⟨r', h4, x', h5, h6⟩ := hXg b hx
   have := hs.inj _ _ _ _ _ h1 h5 h2 h6
   subst this
   exact hr (hρν _ h4)
 have hinj' : ∀ i i', i < F.cs.length → i' < F.cs.length → i' ≠ i → nameOf ν i' ≠ nameOf ν i := by
   intro i i' hi hi' hne e
   have h1 : ν[i]? = some ν[i] := List.getElem?_eq_getElem (by omega)
   have h2 : ν[i']? = some ν[i'] := List.getElem?_eq_getElem (by omega)
   rw [hname h1, hname h2] at e
   exact hne ((List.getElem?_inj (by omega) hn).1 (by rw [h1, h2, e]))
 have hres : All2 (RepD0 (Mof M0 (gput g ν g')) w' (gput g ν g')) (lays (nameOf ν) F.rs (F.out z).1) vs := lays_move hg'n hgood.1 hfr.args
 refine ⟨{ defers := hs.defers, sz := ?_, inb := fun t d h => by rw [(layBs_fr (nameOf ν) F.cs 0 (F.out z).2 _).1] at h; obtain ⟨d0, h1, _⟩ := lift_fr h; rw [(layBs_fr (nameOf ν) F.cs 0 (F.out z).2 _).2]; exact hs.inb t d0 h1, fr := ?_, hp := ?_, low := ?_, inj := ?_, row := ?_, m0 := hs.m0, pin := ?_, gin := hs.gin, gil := hs.gil, ext := ?_, stp := hs.stp.trans hstep, gg := hs.gg, b0 := hs.b0 }, hres⟩
 · rw [(layBs_fr (nameOf ν) F.cs 0 (F.out z).2 _).2]; exact hs.sz
 · intro t d h
   rw [(layBs_fr (nameOf ν) F.cs 0 (F.out z).2 _).1] at h
   obtain ⟨d0, h1, rfl⟩ := lift_fr h
   exact RepD.lift (fun d v hd => RepD0.forget' hstep hφ hd) (fun _ _ => rfl) (hs.fr t d0 h1)
 · intro r blk h
   by_cases hr : r ∈ ν
   · obtain ⟨j, hj⟩ := List.getElem?_of_mem hr
     have hjl : j < F.cs.length := by rw [← hl]; exact (List.getElem?_eq_some_iff.1 hj).1
     have h1 := layBs_at (nameOf ν) F.cs 0 (F.out z).2 (st.lift (forget (stale F.bs F.cs ν))) j hjl (fun i' hi' hne => by rw [Nat.zero_add, Nat.zero_add]; exact hinj' j i' hjl hi' hne)
     rw [Nat.zero_add, hname hj, h] at h1
     obtain ⟨_, blk', h2⟩ := blkAt_id h1.symm
     obtain ⟨gx, h3, h4⟩ := hfr.res j blk' h2
     refine ⟨gx, by rw [gput_at hn hj]; exact h3, ?_⟩
     refine blkAt_move hg'n hgood.2 (i := j) h1.symm (f := fun _ => gx) fun blk'' h5 => ⟨gx, rfl, ?_⟩
     rw [h2] at h5
     cases h5
     exact h4
   · rw [layBs_other (nameOf ν) F.cs 0 (F.out z).2 _ (fun i hi e => hr (by
       rw [Nat.zero_add] at e
       have h1 : ν[i]? = some ν[i] := List.getElem?_eq_getElem (by omega)
       rw [hname h1] at e
       rw [← e]; exact List.getElem_mem _))] at h
     obtain ⟨b0, h1, rfl⟩ := lift_hp h
     obtain ⟨x, h2, h3⟩ := hs.hp _ _ h1
     refine ⟨x, by rw [gput_other hr]; exact h2, ?_⟩
     have hb := fun b (e : x.blk = some b) => hother r x b hr h2 e
     cases b0 with
     | cells ds =>
       obtain ⟨b, vs, el, e, h4, h5⟩ := h3
       exact ⟨b, vs, el, e, (hb b (by rw [e])).trans h4, h5.mapL (forget (stale F.bs F.cs ν)) fun _ _ hd => RepD0.forget' hstep hφ hd⟩
     | bld T ds =>
       obtain ⟨b, p, vs, e, h4, h0, h5⟩ := h3
       exact ⟨b, p, vs, e, (hb b (by rw [e])).trans h4, h0, h5.mapL (forget (stale F.bs F.cs ν)) fun _ _ hd => RepD0.forget' hstep hφ hd⟩
     | map e m =>
       obtain ⟨b, es, c, e, h4, h5, hsp⟩ := h3
       exact ⟨b, es, c, e, (hb b (by rw [e])).trans h4, h5.mono fun _ _ ⟨h6, h7⟩ => ⟨h6, h7.step hstep⟩, hsp⟩
     | row e t ex xs =>
       obtain ⟨hz, cs, h4, h5, h6, h7⟩ := h3
       refine ⟨hz, cs, ⟨h4.1, ?_⟩, h5, h6, fun i hi => RepC.step hstep _ _ _ (h7 i hi)⟩
       rcases h4.2 with h0 | ⟨gg, cap, cur, h8, h9, h10, h11⟩
       · exact .inl h0
       · exact .inr ⟨gg, cap, cur, h8, h9, (hb gg (by rw [h5, h8]; rfl)).trans h10, h11⟩
     | iter e l cur => exact RepB.step (blk := .iter e l cur) hstep hb h3
     | que e t xs => exact RepB.step (blk := .que e t xs) hstep hb h3
 · intro r x b h1 h2
   by_cases hr : r ∈ ν
   · obtain ⟨j, hj⟩ := List.getElem?_of_mem hr
     rw [gput_at hn hj] at h1
     obtain ⟨h3, h4⟩ := hfr.low _ _ _ h1 h2
     refine ⟨h3, h4, ?_⟩
     rcases hnew b ⟨j, x, h1, h2⟩ with h5 | h5
     · obtain ⟨r', h6, x', h7, h8⟩ := hXg b h5
       exact (hs.low _ _ _ h7 h8).2.2
     · exact .inr (Nat.le_trans hs.size h5)
   · rw [gput_other hr] at h1
     have := hs.low _ _ _ h1 h2
     exact ⟨this.1, Nat.lt_of_lt_of_le this.2.1 hX.size, this.2.2⟩
 · have key : ∀ r1 j x1 x2 b, r1 ∉ ν → g r1 = some x1 → g' j = some x2 → x1.blk = some b → x2.blk = some b → False := by
     intro r1 j x1 x2 b hr h1 h2 h3 h4
     rcases hnew b ⟨j, x2, h2, h4⟩ with h5 | h5
     · obtain ⟨r', h6, x', h7, h8⟩ := hXg b h5
       have := hs.inj _ _ _ _ _ h1 h7 h3 h8
       subst this
       exact hr (hρν _ h6)
     · have := (hs.low _ _ _ h1 h3).2.1; omega
   intro r1 r2 x1 x2 b h1 h2 h3 h4
   by_cases hr1 : r1 ∈ ν <;> by_cases hr2 : r2 ∈ ν
   · obtain ⟨j1, hj1⟩ := List.getElem?_of_mem hr1
     obtain ⟨j2, hj2⟩ := List.getElem?_of_mem hr2
     rw [gput_at hn hj1] at h1
     rw [gput_at hn hj2] at h2
     have := hfr.inj _ _ _ _ _ h1 h2 h3 h4
     subst this
     rw [hj1] at hj2
     injection hj2
   · obtain ⟨j1, hj1⟩ := List.getElem?_of_mem hr1
     rw [gput_at hn hj1] at h1
     rw [gput_other hr2] at h2
     exact (key _ _ _ _ _ hr2 h2 h1 h4 h3).elim
   · obtain ⟨j2, hj2⟩ := List.getElem?_of_mem hr2
     rw [gput_at hn hj2] at h2
     rw [gput_other hr1] at h1
     exact (key _ _ _ _ _ hr1 h1 h2 h3 h4).elim
   · rw [gput_other hr1] at h1
     rw [gput_other hr2] at h2
     exact hs.inj _ _ _ _ _ h1 h2 h3 h4
 · intro r x b h1 h2 h3
   by_cases hr : r ∈ ν
   · obtain ⟨j, hj⟩ := List.getElem?_of_mem hr
     rw [gput_at hn hj] at h1
     exact hfr.row _ _ _ h1 h2 h3
   · rw [gput_other hr] at h1
     rw [hother r x b hr h1 h2]
     exact hs.row _ _ _ h1 h2 h3
 · intro r x h1 h2
   have h3 := hs.pin r x h1 h2
   by_cases hr : r ∈ ν
   · obtain ⟨j, hj⟩ := List.getElem?_of_mem hr
     rw [gput_at hn hj]
     by_cases hρm : r ∈ ρ
     · obtain ⟨i, hi⟩ := List.getElem?_of_mem hρm
       have hij : ν[i]? = some r := pre_get hρ hi
       have : i = j := (List.getElem?_inj (List.getElem?_eq_some_iff.1 hij).1 hn).1 (hij.trans hj.symm)
       subst this
       exact hkeep i x (by simp only [gsub, hi, Option.bind_some]; exact h3) (h2.imp id fun e => okZ_at hz (by rw [hi, e]))
     · have := hge r hr hρm
       have := hs.gin r x h1 h2
       omega
   · rw [gput_other hr]; exact h3
 · refine hs.ext.trans hX fun n hn' hx => ?_
   obtain ⟨r, _, x, h4, h5⟩ := hXg n hx
   rcases (hs.low _ _ _ h4 h5).2.2 with h6 | h6
   · exact h6
   · omega
end
end Go.Proofs.YtjiddcchklaiiaaGreatDoor

