/- The machine of values is right about all operations. -/
import Derived.Test.YtjiddcchklaiiaaGreatDoorQBm12
import Derived.OrdersHeld
namespace Go.Proofs.YtjiddcchklaiiaaGreatDoor
set_option linter.unusedVariables false
set_option linter.unusedSimpArgs false
open Go Go.RowKit
section
variable {P : Program} {df : List Deferred} {G : World → Prop} {B0 : Nat} {E : Env} {M : Nat → Nat → Prop} {M0 : Nat → Nat → Prop} {w0 : World} {gi g : Gh} {st : St} {a : Act} {w : World}
theorem rets_sound {M : Nat → Nat → Prop} : ∀ {ds : List D} {vs : List Value}, All2 (RepD0 M w g) ds vs → RepD M w g (res1 ds) (rets vs)
 | [], [], _ => ⟨#[], rfl, trivial⟩
 | [d], [v], h => h.1.toD
 | d :: d' :: ds, v :: v' :: vs, h => by
   have e : rets (v :: v' :: vs) = .tuple (v :: v' :: vs).toArray := dif_neg (by simp)
   rw [e]
   exact ⟨_, rfl, h⟩
 | [], _ :: _, h => h.elim
 | _ :: _, [], h => h.elim
 | [_], _ :: _ :: _, h => h.2.elim
 | _ :: _ :: _, [_], h => h.2.elim
theorem flat_good {M' M'' : Nat → Nat → Prop} {t : Ty} (h : flatTy t = true) : Good M' M'' w t := by
 intro x cs hr
 cases t <;> first | exact hr | cases h
theorem after_M (hs : Sim df G B0 M0 w0 gi g st a w) {ρ ν β : List Nat} {g' : Gh} (hn : ν.Nodup) (hρ : ρ <+: ν) {b o : Nat} (h : Mof M0 (gput g ν g') b o) : Mafter (Mlend M0 g β) (gsub g ρ) g' b o ∨ Mof M0 g b o ∧ ¬ Xof (gsub g ρ) b := by
 have hXg : ∀ b, Xof (gsub g ρ) b → ∃ r, r ∈ ρ ∧ ∃ x, g r = some x ∧ x.blk = some b := by
   rintro b ⟨j, x, h1, h2⟩
   unfold gsub at h1
   cases h3 : ρ[j]? with
   | none => rw [h3] at h1; cases h1
   | some r => rw [h3] at h1; exact ⟨r, List.mem_of_getElem? h3, x, h1, h2⟩
 rcases h with h | ⟨r, x, h1, h2, h3⟩
 · refine .inr ⟨.inl h, fun hx => ?_⟩
   obtain ⟨r, _, x, h4, h5⟩ := hXg b hx
   exact hs.m0x h h4 h5
 · by_cases hr : r ∈ ν
   · obtain ⟨j, hj⟩ := List.getElem?_of_mem hr
     rw [gput_at hn hj] at h1
     exact .inl (.inr ⟨j, x, h1, h2, h3⟩)
   · rw [gput_other hr] at h1
     refine .inr ⟨.inr ⟨r, x, h1, h2, h3⟩, fun hx => ?_⟩
     obtain ⟨r', h4, x', h5, h6⟩ := hXg b hx
     have := hs.inj _ _ _ _ _ h1 h5 h2 h6
     subst this
     exact hr (hρ.subset h4)
theorem good_after (hs : Sim df G B0 M0 w0 gi g st a w) {F : AF} {ρ ν β : List Nat} {g' : Gh} {w' : World} (hn : ν.Nodup) (hρ : ρ <+: ν) (hX : ExtX (Xof (gsub g ρ)) w w') (hρl : ρ.length = F.bs.length) (hl : (β.isEmpty || mayLend st F ρ β) = true) :
   (∀ s ∈ F.rs, slGood (Mafter (Mlend M0 g β) (gsub g ρ) g') (Mof M0 (gput g ν g')) w' s) ∧ ∀ s ∈ F.cs, sbGood (Mafter (Mlend M0 g β) (gsub g ρ) g') (Mof M0 (gput g ν g')) w' s := by
 by_cases hb : β = []
 · subst hb
   have hsub : ∀ b o, Mof M0 (gput g ν g') b o → Mafter (Mlend M0 g []) (gsub g ρ) g' b o := fun b o h => by
     rcases after_M hs (β := []) hn hρ h with h | h
     · exact h
     · exact .inl ⟨⟨h.1, fun ⟨_, h', _⟩ => by cases h'⟩, h.2⟩
   have hst : Step (Mafter (Mlend M0 g []) (gsub g ρ) g') w' (Mof M0 (gput g ν g')) w' := ⟨fun _ _ h hm => ⟨h, fun h' => hm (hsub _ _ h')⟩, fun _ _ _ h hm => ⟨h, fun h' => hm (hsub _ _ h')⟩⟩
   have hG : ∀ t, Good (Mafter (Mlend M0 g []) (gsub g ρ) g') (Mof M0 (gput g ν g')) w' t := fun t x cs h => RepC.step hst _ _ _ h
   have hP : GoodPl (Mafter (Mlend M0 g []) (gsub g ρ) g') (Mof M0 (gput g ν g')) w' := fun ad cs h => h.step hst
   have hsl : ∀ s, slGood (Mafter (Mlend M0 g []) (gsub g ρ) g') (Mof M0 (gput g ν g')) w' s := fun s => by
     cases s <;> first | exact hG _ | exact ⟨hG _, hP⟩ | trivial
   exact ⟨fun s _ => hsl s, fun s _ => by cases s <;> first | exact hG _ | exact fun s _ => hsl s | trivial⟩
 · have hml : mayLend st F ρ β = true := by
     have : β.isEmpty = false := by cases β <;> first | exact absurd rfl hb | rfl
     rw [this] at hl; exact hl
   unfold mayLend at hml
   split at hml
   · rename_i hbs
     have hρ0 : ρ = [] := List.eq_nil_of_length_eq_zero (by rw [hρl, hbs]; rfl)
     subst hρ0
     have hXn : ∀ b, ¬ Xof (gsub g []) b := by rintro b ⟨j, x, h1, _⟩; simp [gsub] at h1
     rw [List.all_eq_true] at hml
     by_cases hall : ∀ r, r ∈ β → ∃ e m, aget st.hp r = some (.map e m)
     · -- maps alone
       obtain ⟨r0, hr0⟩ := List.exists_mem_of_ne_nil _ hb
       obtain ⟨e0, m0, h0⟩ := hall r0 hr0
       have h1 := hml r0 hr0
       rw [h0] at h1
       simp only [Bool.and_eq_true, List.all_eq_true] at h1
       have hC : ∀ ad u, w'.cell? ad = some u → ¬ Mafter (Mlend M0 g β) (gsub g []) g' ad.block ad.off → w'.cell? ad = some u ∧ ¬ Mof M0 (gput g ν g') ad.block ad.off := by
         refine fun ad u hc hm => ⟨hc, fun h => ?_⟩
         rcases after_M hs (β := β) hn hρ h with h | h
         · exact hm h
         · refine hm (.inl ⟨⟨h.1, ?_⟩, h.2⟩)
           rintro ⟨r, hr, x, h2, h3⟩
           obtain ⟨e, m, h4⟩ := hall r hr
           obtain ⟨gx, h5, b, es, c, h6, h7, _⟩ := hs.hp _ _ h4
           rw [h2] at h5
           cases h5
           rw [h6] at h3
           have hbb : b = ad.block := by simpa using h3
           have := (hX.block b (lt_of_map h7) (hXn b)).trans h7
           rw [hbb] at this
           simp [World.cell?, this] at hc
       have hG : ∀ t, hasMap t = false → Good (Mafter (Mlend M0 g β) (gsub g []) g') (Mof M0 (gput g ν g')) w' t := fun t ht x cs h => RepC.stepC hC _ _ _ ht h
       have hP : GoodPl (Mafter (Mlend M0 g β) (gsub g []) g') (Mof M0 (gput g ν g')) w' := fun ad cs h j u hu => let ⟨a, b⟩ := h j u hu; hC _ _ a b
       have hsl : ∀ s, Sl.noMap s = true → slGood (Mafter (Mlend M0 g β) (gsub g []) g') (Mof M0 (gput g ν g')) w' s := fun s hs => by
         cases s <;> first | exact hG _ (by simpa [Sl.noMap] using hs) | exact ⟨hG _ (by simpa [Sl.noMap] using hs), hP⟩ | trivial
       refine ⟨fun s hs => hsl s (h1.1 s hs), fun s hs => ?_⟩
       have h2 := h1.2 s hs
       cases s with
       | none => trivial
       | cells l => exact fun s hs => hsl s (List.all_eq_true.1 h2 s hs)
       | map e => exact hG _ (by simpa [Sb.noMap] using h2)
       | row e t ex => exact hG _ (by simpa [Sb.noMap] using h2)
       | iter e => exact absurd h2 (by simp [Sb.noMap])
       | que e t => exact absurd h2 (by simp [Sb.noMap])
       | bld T l => exact absurd h2 (by simp [Sb.noMap])
     · -- something else: all that is handed back is flat
       obtain ⟨r0, h2⟩ := Classical.not_forall.1 hall
       obtain ⟨hr0, h3⟩ := Classical.not_imp.1 h2
       have h1 := hml r0 hr0
       have h4 : (F.rs.all Sl.flat && F.cs.isEmpty) = true := by
         split at h1
         · rename_i e m h5; exact absurd ⟨e, m, h5⟩ h3
         · exact h1
       simp only [Bool.and_eq_true, List.all_eq_true, List.isEmpty_iff] at h4
       refine ⟨fun s hs => ?_, fun s hs => by rw [h4.2] at hs; cases hs⟩
       have h5 := h4.1 s hs
       cases s <;> first | exact flat_good h5 | trivial | cases h5
   · simp only [Bool.and_eq_true, List.all_eq_true] at hml
     obtain ⟨⟨_, h1⟩, h2⟩ := hml
     refine ⟨fun s hs => ?_, fun s hs => ?_⟩
     · have h5 := h1 s hs
       cases s <;> first | exact flat_good h5 | trivial | cases h5
     · have h5 := h2 s hs
       cases s with
       | none => trivial
       | cells l =>
         intro s' hs'
         have h6 := List.all_eq_true.1 h5 s' hs'
         cases s' <;> first | exact flat_good h6 | trivial | cases h6
       | map e => exact flat_good h5
       | row e t ex => exact flat_good h5
       | iter e => cases h5
       | que e t => cases h5
       | bld T l => cases h5
theorem RepD0.freezeM {M' : Nat → Nat → Prop} {r b : Nat} {gx : GB} (hg : g r = some gx) (hgv : gx.v = .map (some b)) (hst : Step M w M' w) {e : Ty} {m : List (List UInt8 × e.den)} {es : Array MapEntry} {c : Nat} (hb : w.heap[b]? = some (.map es c)) (hnot : ¬ M' b 0)
   (ha : All2 (fun x y => y.key = .string ⟨x.1.toArray⟩ ∧ RepV M' w e x.2 y.val) m es.toList) (hsp : MapKept.Stamped es c) {d : D} {v : Value} (h : RepD0 M w g d v) : RepD0 M' w (g.set r none) (Go.Proofs.YtjiddcchklaiiaaGreatDoor.freezeM r e m d) v := by
 cases d with
 | mref r' =>
   show RepD0 _ _ _ (match Nat.beq r' r with | true => .v (.mp e) m | false => .mref r') v
   obtain ⟨x, b', h1, h1', rfl⟩ := h
   cases hr : Nat.beq r' r with
   | true =>
     have := Nat.eq_of_beq_eq_true hr
     subst this
     rw [hg] at h1
     cases h1
     have e1 : b' = b := by rw [hgv] at h1'; simpa using h1'.symm
     subst e1
     exact ⟨[.map (some b')], ⟨b', es, c, rfl, hb, hnot, ha.mono fun _ _ ⟨h6, cs, h7, h8⟩ => ⟨h6, cs, h7, h8⟩, hsp⟩, rfl⟩
   | false => exact ⟨x, b', (Gh.set_other _ _ fun e => by subst e; simp at hr).trans h1, h1', rfl⟩
 | _ => exact RepD0.forget (l := [r]) hst (fun i hi => Gh.set_other _ _ fun e => hi (by simp [e])) h
theorem frzK_sound {R : Type} [BothC R] : ∀ (l : List Nat) (ds : List D) {vs : List Value} {g : Gh} {st : St} {k : List D → St → Option R} {r : R}, Sim df G B0 M0 w0 gi g st a w → All2 (RepD (Mof M0 g) w g) ds vs → frzK l ds st k = some r →
   ∃ g' st' ds', Sim df G B0 M0 w0 gi g' st' a w ∧ All2 (RepD (Mof M0 g') w g') ds' vs ∧ k ds' st' = some r
 | [], ds, vs, g, st, k, r, hs, hd, h => ⟨g, st, ds, hs, hd, h⟩
 | q :: l, ds, vs, g, st, k, r, hs, hd, h => by
   unfold frzK at h
   split at h
   · cases h
   · rename_i hlt
     split at h
     · rename_i e m hcs
       simp only [liftK_eq, delBK_eq, mapK_eq] at h
       obtain ⟨gx', hg, b, es, c, e1, h1, h2, h3⟩ := hs.hp _ _ hcs
       have hr : 1000 ≤ q := by
         rcases Nat.lt_or_ge q 1000 with h | h
         · rw [show Nat.blt q 1000 = true from by rw [Nat.blt_eq]; exact h] at hlt; cases hlt
         · exact h
       have hgv : gx'.v = .map (some b) := by rw [e1]
       have hnot : ¬ Mof M0 (g.set q none) b 0 := by
         intro h
         rcases h with h | ⟨r'', y, k1, k2, k3⟩
         · exact hs.m0x h hg (by rw [e1])
         · by_cases hq : r'' = q
           · subst hq; rw [Gh.set_same] at k1; cases k1
           · rw [Gh.set_other _ _ hq] at k1
             exact hq (hs.inj _ _ _ _ _ k1 hg k2 (by rw [e1]))
       have hstep : Step (Mof M0 g) w (Mof M0 (g.set q none)) w := by
         have ht : Turn g q none w w := ⟨rfl, rfl, rfl, Nat.le_refl _, fun _ _ _ => rfl, fun z b h => (by cases h), fun x b _ _ _ => ⟨fun _ _ _ _ h => h, fun z h => (by cases h)⟩, fun z b h => (by cases h)⟩
         exact ht.step hs
       have hs' := hs.gone (r := q) (fun x h1 h2 => absurd (hs.gin _ _ h1 h2) (by omega)) (φ := Go.Proofs.YtjiddcchklaiiaaGreatDoor.freezeM q e m) (fun d v hst hd => RepD0.freezeM hg hgv hst h1 hnot (h2.mono fun _ _ ⟨a, b⟩ => ⟨a, b.step hst⟩) h3 hd) fun _ _ => rfl
       refine frzK_sound l _ hs' (hd.mapL _ fun d v hd => RepD.lift (fun d v hd => RepD0.freezeM hg hgv hstep h1 hnot (h2.mono fun _ _ ⟨a, b⟩ => ⟨a, b.step hstep⟩) h3 hd) (fun _ _ => rfl) hd) h
     · cases h
theorem call_core {R : Type} [BothC R] (hE : EnvOk P G B0 E) {o : Oper} {k : St → Option R} {r : R} {K : Act → World → Prop} {Q : Exit → Act → World → Prop} (hs : Sim df G B0 M0 w0 gi g st a w) (hK : Goes df G B0 M0 w0 gi k r K)
   {f : FuncId} {F : AF} (hF : Sound P G B0 f F) {ds : List D} {vs : List Value} (hds : All2 (RepD (Mof M0 g) w g) ds vs) (hex : (∀ w, (callFunc f vs.toArray).run P w = .ok (.enter f vs.toArray) w) → (execOp a.eval o).run P w = .ok (.enter f vs.toArray) w)
   (h : (mtsK st F.ps ds [] [] fun x ρ β => mbsK st F.bs 0 ρ β fun y ρ β =>
     match β.isEmpty || mayLend st F ρ β, Nat.beq ρ.length F.bs.length && okZ F.bs F.cs ρ with
     | true, true => bnd (F.f x y) fun z =>
       (fun ν => match ρ.any (memN (fresh (100000 + 100 * (match o.dst with | some t => t | none => 0)) (F.cs.length - F.bs.length))), Nat.beq ν.length F.cs.length with
         | false, true => st.liftK (forget (stale F.bs F.cs ν)) fun st => layBsK (nameOf ν) F.cs 0 (F.out z).2 st fun st =>
             mapK id (lays (nameOf ν) F.rs (F.out z).1) fun l => st.putK o.dst (res1 l) k
         | _, _ => none)
         (ρ ++ fresh (100000 + 100 * (match o.dst with | some t => t | none => 0)) (F.cs.length - F.bs.length))
     | _, _ => none) = some r) : o.wp P a w K Q := by
 obtain ⟨x, ρ1, β1, h1, _, hn1, _, hx⟩ := mtsK_sound hs F.ps ds vs hds List.nodup_nil h
 obtain ⟨y, ρ, β, h2, hp2, hn2, hβ2, hy⟩ := mbsK_sound hs F.bs 0 hn1 h1
 split at h2
 · rename_i hlend hlen
   obtain ⟨hlen, hzz⟩ := Bool.and_eq_true_iff.1 hlen
   have hρl := Nat.eq_of_beq_eq_true hlen
   obtain ⟨z, hz, h3⟩ := bnd_eq_some h2
   dsimp only at h3
   generalize hb : 100000 + 100 * (match o.dst with | some t => t | none => 0) = b at h3
   generalize hm : F.cs.length - F.bs.length = m at h3
   have hbge : 1000 ≤ b := by rw [← hb]; exact Nat.le_trans (by decide) (Nat.le_add_right 100000 _)
   split at h3
   · rename_i hdis hνl
     have hνl' := Nat.eq_of_beq_eq_true hνl
     simp only [liftK_eq, layBsK_eq, mapK_eq, List.map_id, putK_eq] at h3
     obtain ⟨hcf, hcalls⟩ := hF
     have hGw : G w := hE.stable _ _ _ hs.gg hs.ext hs.gil
     have hdis' : ∀ q, q ∈ ρ → q ∉ fresh b m := by
       intro q hq hq2
       have := List.any_eq_false.1 hdis q hq
       exact this (memN_iff.2 hq2)
     have hνn : (ρ ++ fresh b m).Nodup := by
       rw [List.nodup_append]
       exact ⟨hn2, nodup_fresh _ _, fun p hp q hq e => hdis' p hp (e ▸ hq)⟩
     have hβρ : ∀ r, r ∈ β → r ∉ ρ := by
       intro r hr hr2
       have : β.isEmpty = false := by
         cases β with
         | nil => cases hr
         | cons _ _ => rfl
       rw [this] at hlend
       change mayLend st F ρ β = true at hlend
       unfold mayLend at hlend
       split at hlend
       · rename_i e
         have : ρ = [] := List.eq_nil_of_length_eq_zero (by rw [hρl, e]; rfl)
         subst this
         cases hr2
       · simp only [Bool.and_eq_true, Bool.not_eq_true'] at hlend
         exact List.any_eq_false.1 hlend.1.1 r hr (memN_iff.2 hr2)
     have hargs := hx ρ β hp2 hβ2
     have hres := fun i blk => hy ρ β (List.prefix_refl _) (fun _ h => h) i blk
     simp only [Nat.zero_add] at hres
     have hfrag := frag_of hs hn2 hρl hβρ hargs hres
     have hcall := hcalls _ w _ vs x y z hGw (Nat.le_trans hs.b0 hs.size) hfrag hz
     unfold Oper.wp
     rw [hex (hcf vs.toArray), Oper.upon_enter]
     refine hcall.mono ?_
     rintro e w' ⟨vs', g', rfl, hX, hS, hfr, hkeep, hnew⟩
     obtain ⟨hsim, hrs⟩ := after_call (z := z) hs hνn hνl' (List.prefix_append _ _) hρl (fun q hq hq2 => by
       rcases List.mem_append.1 hq with h | h
       · exact absurd h hq2
       · exact Nat.le_trans hbge (mem_fresh.1 h).1) hres hX hS hfr hkeep hnew hzz (good_after hs hνn (List.prefix_append _ _) hX hρl hlend)
     exact hK _ _ _ _ (hsim.put _ (rets_sound hrs)) h3
   · cases h3
 · cases h2
theorem callF_wp {R : Type} [BothC R] (hE : EnvOk P G B0 E) {o : Oper} {k : St → Option R} {r : R} {K : Act → World → Prop} {Q : Exit → Act → World → Prop} {g : Gh} {st : St} (hs : Sim df G B0 M0 w0 gi g st a w) (hK : Goes df G B0 M0 w0 gi k r K)
   {f : FuncId} {F : AF} (hF : Sound P G B0 f F) {ds : List D} {vs : List Value} (hds : All2 (RepD (Mof M0 g) w g) ds vs) (hex : (∀ w, (callFunc f vs.toArray).run P w = .ok (.enter f vs.toArray) w) → (execOp a.eval o).run P w = .ok (.enter f vs.toArray) w)
   (h : callF F st o.dst ds k = some r) : o.wp P a w K Q := by
 unfold callF at h
 dsimp only at h
 split at h
 · exact call_core hE hs hK hF hds hex h
 · obtain ⟨g', st', hs', h', hd'⟩ := softArgsK_sound F.ps ds hs h
   exact call_core hE hs' hK hF (hds.mono fun d v hd => hd' d v hd) hex h'
theorem callP_core {R : Type} [BothC R] (hE : EnvOk P G B0 E) {o : Oper} {k : St → Option R} {r : R} {K : Act → World → Prop} {Q : Exit → Act → World → Prop} (hs : Sim df G B0 M0 w0 gi g st a w) (hK : Goes df G B0 M0 w0 gi k r K) (hP : PansS df G B0 E.bad M0 w0 gi r Q)
   {f : FuncId} {F : PF} (hF : SoundP P G B0 E.bad f F) {ds : List D} {vs : List Value} (hds : All2 (RepD (Mof M0 g) w g) ds vs) (hex : (∀ w, (callFunc f vs.toArray).run P w = .ok (.enter f vs.toArray) w) → (execOp a.eval o).run P w = .ok (.enter f vs.toArray) w)
   (h : (mtsK st F.ps ds [] [] fun x ρ β => mbsK st F.bs 0 ρ β fun y ρ β =>
     match β.isEmpty || mayLend st F.af ρ β, Nat.beq ρ.length F.bs.length && okZ F.bs F.cs ρ with
     | true, true => bndP (fun c => BothC.pa c ρ st) (F.f x y) fun z =>
       (fun ν => match ρ.any (memN (fresh (100000 + 100 * (match o.dst with | some t => t | none => 0)) (F.cs.length - F.bs.length))), Nat.beq ν.length F.cs.length with
         | false, true => st.liftK (forget (stale F.bs F.cs ν)) fun st => layBsK (nameOf ν) F.cs 0 (F.out z).2 st fun st =>
             mapK id (lays (nameOf ν) F.rs (F.out z).1) fun l => st.putK o.dst (res1 l) k
         | _, _ => none)
         (ρ ++ fresh (100000 + 100 * (match o.dst with | some t => t | none => 0)) (F.cs.length - F.bs.length))
     | _, _ => none) = some r) : o.wp P a w K Q := by
 obtain ⟨x, ρ1, β1, h1, _, hn1, _, hx⟩ := mtsK_sound hs F.ps ds vs hds List.nodup_nil h
 obtain ⟨y, ρ, β, h2, hp2, hn2, hβ2, hy⟩ := mbsK_sound hs F.bs 0 hn1 h1
 split at h2
 · rename_i hlend hlen
   obtain ⟨hlen, hzz⟩ := Bool.and_eq_true_iff.1 hlen
   have hρl := Nat.eq_of_beq_eq_true hlen
   obtain ⟨hcf, hcalls⟩ := hF
   have hGw : G w := hE.stable _ _ _ hs.gg hs.ext hs.gil
   have hβρ : ∀ r, r ∈ β → r ∉ ρ := by
     intro r hr hr2
     have : β.isEmpty = false := by
       cases β with
       | nil => cases hr
       | cons _ _ => rfl
     rw [this] at hlend
     change mayLend st F.af ρ β = true at hlend
     unfold mayLend at hlend
     split at hlend
     · rename_i e
       have : ρ = [] := List.eq_nil_of_length_eq_zero (by rw [hρl]; show F.af.bs.length = 0; rw [e]; rfl)
       subst this
       cases hr2
     · simp only [Bool.and_eq_true, Bool.not_eq_true'] at hlend
       exact List.any_eq_false.1 hlend.1.1 r hr (memN_iff.2 hr2)
   have hargs := hx ρ β hp2 hβ2
   have hres := fun i blk => hy ρ β (List.prefix_refl _) (fun _ h => h) i blk
   simp only [Nat.zero_add] at hres
   have hfrag := frag_of hs hn2 hρl hβρ hargs hres
   obtain ⟨hcall1, hcall2⟩ := hcalls _ w _ vs x y hGw (Nat.le_trans hs.b0 hs.size) hfrag
   rcases bndP_eq_some h2 with ⟨z, hz, h3⟩ | ⟨c, hz, h3⟩
   case inr =>
     unfold Oper.wp
     rw [hex (hcf vs.toArray), Oper.upon_enter]
     refine (hcall2 c hz).mono ?_
     rintro e w' ⟨rfl, hX, hS⟩
     refine hP c ρ g st a w w' hs (hX.wider fun b hb => ?_) ⟨fun ad u hc hm => ?_, fun b es cc hc hm => ?_⟩ h3
     · obtain ⟨j, x, h4, h5⟩ := hb
       unfold gsub at h4
       cases h6 : ρ[j]? with
       | none => rw [h6] at h4; cases h4
       | some r' =>
         rw [h6] at h4
         exact ⟨r', x, List.mem_of_getElem? h6, h4, h5⟩
     · exact ⟨(hS.1 ad u hc fun h' => hm h'.1).1, hm⟩
     · exact ⟨(hS.2 b es cc hc fun h' => hm h'.1).1, hm⟩
   dsimp only at h3
   generalize hb : 100000 + 100 * (match o.dst with | some t => t | none => 0) = b at h3
   generalize hm : F.cs.length - F.bs.length = m at h3
   have hbge : 1000 ≤ b := by rw [← hb]; exact Nat.le_trans (by decide) (Nat.le_add_right 100000 _)
   split at h3
   · rename_i hdis hνl
     have hνl' := Nat.eq_of_beq_eq_true hνl
     simp only [liftK_eq, layBsK_eq, mapK_eq, List.map_id, putK_eq] at h3
     have hdis' : ∀ q, q ∈ ρ → q ∉ fresh b m := by
       intro q hq hq2
       have := List.any_eq_false.1 hdis q hq
       exact this (memN_iff.2 hq2)
     have hνn : (ρ ++ fresh b m).Nodup := by
       rw [List.nodup_append]
       exact ⟨hn2, nodup_fresh _ _, fun p hp q hq e => hdis' p hp (e ▸ hq)⟩
     unfold Oper.wp
     rw [hex (hcf vs.toArray), Oper.upon_enter]
     refine (hcall1 z hz).mono ?_
     rintro e w' ⟨vs', g', rfl, hX, hS, hfr, hkeep, hnew⟩
     obtain ⟨hsim, hrs⟩ := after_call (F := F.af) (y := y) (z := z) hs hνn hνl' (List.prefix_append _ _) hρl (fun q hq hq2 => by
       rcases List.mem_append.1 hq with h | h
       · exact absurd h hq2
       · exact Nat.le_trans hbge (mem_fresh.1 h).1) hres hX hS hfr hkeep hnew hzz (good_after (F := F.af) hs hνn (List.prefix_append _ _) hX hρl hlend)
     exact hK _ _ _ _ (hsim.put _ (rets_sound hrs)) h3
   · cases h3
 · cases h2
theorem callP_wp {R : Type} [BothC R] (hE : EnvOk P G B0 E) {o : Oper} {k : St → Option R} {r : R} {K : Act → World → Prop} {Q : Exit → Act → World → Prop} {g : Gh} {st : St} (hs : Sim df G B0 M0 w0 gi g st a w) (hK : Goes df G B0 M0 w0 gi k r K) (hP : PansS df G B0 E.bad M0 w0 gi r Q)
   {f : FuncId} {F : PF} (hF : SoundP P G B0 E.bad f F) {ds : List D} {vs : List Value} (hds : All2 (RepD (Mof M0 g) w g) ds vs) (hex : (∀ w, (callFunc f vs.toArray).run P w = .ok (.enter f vs.toArray) w) → (execOp a.eval o).run P w = .ok (.enter f vs.toArray) w)
   (h : callP F st o.dst ds k = some r) : o.wp P a w K Q := by
 unfold callP at h
 dsimp only at h
 split at h
 · exact callP_core hE hs hK hP hF hds hex h
 · obtain ⟨g', st', hs', h', hd'⟩ := softArgsK_sound F.ps ds hs h
   exact callP_core hE hs' hK hP hF (hds.mono fun d v hd => hd' d v hd) hex h'
theorem callD_wp {R : Type} [BothC R] (hE : EnvOk P G B0 E) {o : Oper} {k : St → Option R} {r : R} {K : Act → World → Prop} {Q : Exit → Act → World → Prop} (hs : Sim df G B0 M0 w0 gi g st a w) (hK : Goes df G B0 M0 w0 gi k r K) (hP : PansS df G B0 E.bad M0 w0 gi r Q)
   {f : FuncId} {ds : List D} {vs : List Value} (hds : All2 (RepD (Mof M0 g) w g) ds vs) (hex : (∀ w, (callFunc f vs.toArray).run P w = .ok (.enter f vs.toArray) w) → (execOp a.eval o).run P w = .ok (.enter f vs.toArray) w)
   (h : callD E st o.dst f ds k = some r) : o.wp P a w K Q := by
 unfold callD at h
 split at h
 · rename_i F hF
   exact callF_wp hE hs hK (hE.fn _ _ _ hF) hds hex h
 · split at h
   · rename_i F l hF
     obtain ⟨g', st', ds', hs', hd', h'⟩ := frzK_sound l ds hs hds h
     exact callF_wp hE hs' hK (hE.dyn _ _ _ _ _ _ hF) hd' hex h'
   · split at h
     · rename_i p hp
       exact callP_wp hE hs hK hP (hE.pf _ _ _ hp) hds hex h
     · cases h
theorem evs_sound (hs : Sim df G B0 M0 w0 gi g st a w) : ∀ xs : List Operand, All2 (RepD (Mof M0 g) w g) (xs.map st.ev) (xs.map a.eval)
 | [] => trivial
 | x :: xs => ⟨hs.ev x, evs_sound hs xs⟩
theorem call_wp {R : Type} [BothC R] (hE : EnvOk P G B0 E) {o : Oper} {k : St → Option R} {r : R} {K : Act → World → Prop} {Q : Exit → Act → World → Prop} (hs : Sim df G B0 M0 w0 gi g st a w) (hK : Goes df G B0 M0 w0 gi k r K) (hP : PansS df G B0 E.bad M0 w0 gi r Q)
   {c : Call} {f : FuncId} (ho : o.op = .call c) (hc : c.callee = .value (.func f)) (h : opD E o st k = some r) : o.wp P a w K Q := by
 simp only [opD, ho, hc] at h
 have harr : (c.args.toList.map a.eval).toArray = c.args.map a.eval := by
   apply Array.ext'
   simp
 refine callD_wp hE hs hK hP (evs_sound hs c.args.toList) (fun hcf => ?_) h
 have := hcf w
 rw [harr] at this ⊢
 simp [execOp, ho, resolve, hc, Act.eval, Deferred.ofValue, invoke, this]
theorem caps_sound {M : Nat → Nat → Prop} : ∀ (t : Ty) (x : t.den) (cs : List Value), RepC M w t x cs → capsOk t = true → All2 (RepD M w g) (capsD t x) cs
 | .pr (.ptr a) b, x, cs, h, hok => by
   obtain ⟨c1, c2, rfl, h1, h2⟩ := h
   obtain ⟨ad, es, rfl, h3, h4⟩ := h1
   exact ⟨⟨ad, es, rfl, h3, h4⟩, caps_sound b x.2 c2 h2 hok⟩
 | .un, x, cs, h, _ => by rw [show cs = [] from h]; trivial
 | .u8, _, _, _, h => by cases h
 | .int _, _, _, _, h => by cases h
 | .bool, _, _, _, h => by cases h
 | .str, _, _, _, h => by cases h
 | .sl _, _, _, _, h => by cases h
 | .mp _, _, _, _, h => by cases h
 | .ptr _, _, _, _, h => by cases h
 | .np _, _, _, _, h => by cases h
 | .nl, _, _, _, h => by cases h
 | .clo _ _, _, _, _, h => by cases h
 | .rc _, _, _, _, h => by cases h
 | .pr .u8 _, _, _, _, h => by cases h
 | .pr (.int _) _, _, _, _, h => by cases h
 | .pr .bool _, _, _, _, h => by cases h
 | .pr .str _, _, _, _, h => by cases h
 | .pr (.sl _) _, _, _, _, h => by cases h
 | .pr (.mp _) _, _, _, _, h => by cases h
 | .pr (.np _) _, _, _, _, h => by cases h
 | .pr .nl _, _, _, _, h => by cases h
 | .pr (.clo _ _) _, _, _, _, h => by cases h
 | .pr (.rc _) _, _, _, _, h => by cases h
 | .pr (.pr _ _) _, _, _, _, h => by cases h
 | .pr .un _, _, _, _, h => by cases h
theorem callT_wp {R : Type} [BothC R] (hE : EnvOk P G B0 E) {o : Oper} {k : St → Option R} {r : R} {K : Act → World → Prop} {Q : Exit → Act → World → Prop} (hs : Sim df G B0 M0 w0 gi g st a w) (hK : Goes df G B0 M0 w0 gi k r K) (hP : PansS df G B0 E.bad M0 w0 gi r Q)
   {c : Call} {t : Tmp} (ho : o.op = .call c) (hc : c.callee = .value (.tmp t)) (h : opD E o st k = some r) : o.wp P a w K Q := by
 simp only [opD, ho, hc] at h
 have hr := hs.ev (.tmp t)
 split at h
 · rename_i f ct cx hd
   split at h
   case h_2 => cases h
   rename_i hok
   rw [hd] at hr
   obtain ⟨caps, hv, hcaps⟩ := RepV.plain rfl hr
   simp only [List.cons.injEq, and_true] at hv
   have harr : (c.args.toList.map a.eval ++ caps.toList).toArray = c.args.map a.eval ++ caps := by
     apply Array.ext'
     simp
   refine callD_wp hE hs hK hP ((evs_sound hs c.args.toList).append (caps_sound ct cx _ hcaps hok)) (fun hcf => ?_) h
   have := hcf w
   rw [harr] at this ⊢
   simp [execOp, ho, resolve, hc, hv, Deferred.ofValue, invoke, this]
 · rename_i f l hd
   rw [hd] at hr
   obtain ⟨caps, hv, hcaps⟩ := hr
   have harr : (c.args.toList.map a.eval ++ caps.toList).toArray = c.args.map a.eval ++ caps := by
     apply Array.ext'
     simp
   have hcaps' : All2 (RepD (Mof M0 g) w g) (l.map fun r => .box r 0) caps.toList := hcaps.mapL _ fun r u ⟨x, b, h1, h2, h3⟩ => (⟨x, b, h1, h2, h3⟩ : RepD (Mof M0 g) w g (.box r 0) u)
   refine callD_wp hE hs hK hP ((evs_sound hs c.args.toList).append hcaps') (fun hcf => ?_) h
   have := hcf w
   rw [harr] at this ⊢
   simp [execOp, ho, resolve, hc, hv, Deferred.ofValue, invoke, this]
 · cases h
theorem RepD0.freeze {M M' : Nat → Nat → Prop} {r b : Nat} {gx : GB} {t : Ty} {x : t.den} {cs : List Value} (hb : g r = some gx) (hgv : gx.v = boxV b) (hst : Step M w M' w) (hx : RepC M' w t x cs) (hp : Pl M' w ⟨b, 0, none⟩ cs) {d : D} {v : Value} (h : RepD0 M w g d v) : RepD0 M' w (g.set r none) (freeze r t x d) v := by
 have hne : ∀ q, Nat.beq q r = false → (g.set r none) q = g q := fun q hq => Gh.set_other _ _ fun e => by subst e; simp at hq
 have hnb : ∀ q y, g q = some y → (∀ b, y.v ≠ boxV b) → q ≠ r := fun q y h1 h2 e => by subst e; rw [hb] at h1; cases h1; exact h2 b hgv
 cases d with
 | box r' o =>
   simp only [Go.Proofs.YtjiddcchklaiiaaGreatDoor.freeze]
   obtain ⟨y, b', h1, h2, h3⟩ := h
   split
   · rename_i e
     have := Nat.eq_of_beq_eq_true e
     subst this
     rw [hb] at h1
     cases h1
     have : b' = b := by rw [hgv] at h2; simpa [boxV] using h2.symm
     subst this
     split
     · exact ⟨_, cs, h3, hx, hp⟩
     · trivial
   · rename_i hq
     exact ⟨y, b', (hne _ hq).trans h1, h2, h3⟩
 | mref r' => obtain ⟨y, b', h1, h2, h3⟩ := h; exact ⟨y, b', (Gh.set_other _ _ (hnb r' y h1 (by rw [h2]; intro b e; cases e))).trans h1, h2, h3⟩
 | row r' => obtain ⟨y, A, n, c, h1, h2, h3⟩ := h; exact ⟨y, A, n, c, (Gh.set_other _ _ (hnb r' y h1 (by rw [← h2, h3]; intro b e; cases e))).trans h1, h2, h3⟩
 | elp r' z i o => obtain ⟨y, b', n, c, h1, h2, h3⟩ := h; exact ⟨y, b', n, c, (Gh.set_other _ _ (hnb r' y h1 (by rw [h2]; intro b e; cases e))).trans h1, h2, h3⟩
 | tl r' z i => obtain ⟨y, b', n, c, h1, h2, h3⟩ := h; exact ⟨y, b', n, c, (Gh.set_other _ _ (hnb r' y h1 (by rw [h2]; intro b e; cases e))).trans h1, h2, h3⟩
 | fnc f ns =>
   simp only [Go.Proofs.YtjiddcchklaiiaaGreatDoor.freeze]
   split
   · trivial
   · rename_i hm
     obtain ⟨cs', e, ha⟩ := h
     refine ⟨cs', e, ?_⟩
     have hnot : r ∉ ns := fun h' => by rw [memN_iff.2 h'] at hm; cases hm
     clear e hm
     revert ha hnot
     generalize cs'.toList = us
     induction ns generalizing us with
     | nil => intro ha _; cases us with | nil => trivial | cons _ _ => exact ha.elim
     | cons n ns ih =>
       intro ha hnot
       cases us with
       | nil => exact ha.elim
       | cons u us =>
         obtain ⟨⟨y, b', h1, h2⟩, h3⟩ := ha
         refine ⟨⟨y, b', (Gh.set_other _ _ fun e => hnot (by simp [e])).trans h1, h2⟩, ih us h3 fun h' => hnot (List.mem_cons_of_mem _ h')⟩
 | dead => trivial
 | skip => exact h
 | bl b => exact h
 | v t x => exact RepV.step hst h
 | nilS => exact h
 | nilP => exact h
 | at_ t x => obtain ⟨ad, cs, a, b, c⟩ := h; exact ⟨ad, cs, a, RepC.step hst _ _ _ b, c.step hst⟩
 | tup b l => exact h.elim
theorem Sim.freeze (hs : Sim df G B0 M0 w0 gi g st a w) {r : Nat} (hr : 1000 ≤ r) {t : Ty} {x : t.den} {ds : List D} (hb : aget st.hp r = some (.cells ds)) (hu : unflat st t ds = some (x, [])) :
   Sim df G B0 M0 w0 gi (g.set r none) ((st.lift (Go.Proofs.YtjiddcchklaiiaaGreatDoor.freeze r t x)).delB r) a w := by
 obtain ⟨gx, hg, b, vs, el, e, hheap, hall⟩ := hs.hp _ _ hb
 subst e
 refine hs.gone (fun x h1 h2 => absurd (hs.gin _ _ h1 h2) (by omega)) (φ := Go.Proofs.YtjiddcchklaiiaaGreatDoor.freeze r t x) (fun d v hst hd => ?_) fun _ _ => rfl
 obtain ⟨c1, c2, e, hrep, hrest⟩ := unflat_sound hs t hall hu
 have hc2 : c2 = [] := by
   cases c2 with
   | nil => rfl
   | cons a l => exact hrest.elim
 subst hc2
 rw [List.append_nil] at e
 subst e
 have hnot : ∀ o, ¬ Mof M0 (g.set r none) b o := by
   intro o h
   rcases h with h | ⟨r', y, h1, h2, h3⟩
   · exact hs.m0x h hg rfl
   · by_cases hr : r' = r
     · subst hr; rw [Gh.set_same] at h1; cases h1
     · rw [Gh.set_other _ _ hr] at h1
       exact hr (hs.inj _ _ _ _ _ h1 hg h2 rfl)
 refine RepD0.freeze hg rfl hst (RepC.step hst _ _ _ hrep) (fun j u hu => ?_) hd
 rw [Addr.add_box, Nat.zero_add]
 refine ⟨?_, hnot _⟩
 rw [cell_box hheap, ← Array.getElem?_toList]
 exact hu
theorem capsK_sound {R : Type} [BothC R] : ∀ (ts : List Ty) (xs : List Operand) {g : Gh} {st : St} {k : St → Option R} {r : R}, Sim df G B0 M0 w0 gi g st a w → capsK ts xs st k = some r → ∃ g' st', Sim df G B0 M0 w0 gi g' st' a w ∧ k st' = some r
 | [], [], _, _, _, _, hs, h => ⟨_, _, hs, h⟩
 | .ptr t :: ts, x :: xs, _, _, _, _, hs, h => by
   simp only [capsK] at h
   split at h
   · exact capsK_sound ts xs hs h
   · split at h
     · cases h
     · rename_i hlt
       split at h
       · rename_i cs hcs
         split at h
         · rename_i y hy
           rw [liftK_eq, delBK_eq] at h
           have h1000 : 1000 ≤ _ := Nat.le_of_not_lt fun h' => by rw [← Nat.blt_eq, hlt] at h'; cases h'
           exact capsK_sound ts xs (hs.freeze h1000 hcs hy) h
         · cases h
       · cases h
   · cases h
 | [], _ :: _, _, _, _, _, _, h => by cases h
 | .ptr _ :: _, [], _, _, _, _, _, h => by cases h
 | .u8 :: _, _, _, _, _, _, _, h => by cases h
 | .int _ :: _, _, _, _, _, _, _, h => by cases h
 | .bool :: _, _, _, _, _, _, _, h => by cases h
 | .str :: _, _, _, _, _, _, _, h => by cases h
 | .sl _ :: _, _, _, _, _, _, _, h => by cases h
 | .pr _ _ :: _, _, _, _, _, _, _, h => by cases h
 | .un :: _, _, _, _, _, _, _, h => by cases h
 | .mp _ :: _, _, _, _, _, _, _, h => by cases h
 | .np _ :: _, _, _, _, _, _, _, h => by cases h
 | .nl :: _, _, _, _, _, _, _, h => by cases h
 | .rc _ :: _, _, _, _, _, _, _, h => by cases h
 | .clo _ _ :: _, _, _, _, _, _, _, h => by cases h
theorem capsV_sound {M : Nat → Nat → Prop} : ∀ (ts : List Ty) (ds : List D) (vs : List Value) (y : (t : Ty) × t.den), All2 (RepD M w g) ds vs → capsV ts ds = some y → RepC M w y.1 y.2 vs := by
 intro ts ds
 induction ts, ds using capsV.induct with
 | case1 => intro vs y ha h; cases h; cases vs with
   | nil => rfl
   | cons _ _ => exact ha.elim
 | case2 t' ts x ds z hz ih =>
   intro vs y ha h
   cases vs with
   | nil => exact ha.elim
   | cons v vs =>
     simp only [capsV, dif_pos, hz, Option.some.injEq] at h
     subst h
     obtain ⟨ad, cs, rfl, h1, h2⟩ := ha.1
     exact ⟨[_], vs, rfl, ⟨ad, cs, rfl, h1, h2⟩, ih vs z ha.2 hz⟩
 | _ => intro vs y ha h; simp_all [capsV]
theorem capsN_sound (hs : Sim df G B0 M0 w0 gi g st a w) : ∀ (xs : List Operand) (l : List Nat), capsN st xs = some l → All2 (fun r u => ∃ x b, g r = some x ∧ x.v = boxV b ∧ u = boxV b) l (xs.map a.eval)
 | [], l, h => by cases h; trivial
 | x :: xs, l, h => by
   simp only [capsN] at h
   have hx := hs.ev x
   split at h
   · rename_i r hd
     rw [hd] at hx
     split at h
     · rename_i l' hl
       cases h
       obtain ⟨y, b, h1, h2, h3⟩ := hx
       exact ⟨⟨y, b, h1, h2, h3⟩, capsN_sound hs xs l' hl⟩
     · cases h
   · cases h
theorem makeFunc_wp {R : Type} [BothC R] {o : Oper} {k : St → Option R} {r : R} {K : Act → World → Prop} {Q : Exit → Act → World → Prop} (hs : Sim df G B0 M0 w0 gi g st a w) (hK : Goes df G B0 M0 w0 gi k r K)
   {f : FuncId} {first caps : Array Operand} (ho : o.op = .makeFunc (.func f) first caps) (h : opD E o st k = some r) : o.wp P a w K Q := by
 simp only [opD, ho, putK_eq] at h
 have hex : first.toList = [] → (execOp a.eval o).run P w = .ok (.value (.func (.func f) #[] (caps.map a.eval))) w := fun hf => by
   have hf0 : first = #[] := by cases first; simp_all
   subst hf0
   simp [execOp, ho, Instr.makeFunc]
 have hmap : (caps.map a.eval).toList = caps.toList.map a.eval := by simp
 split at h
 · rename_i q hfirst hd
   split at h
   · split at h
     · rename_i l hl
       unfold Oper.wp
       rw [hex hfirst, Oper.upon_value]
       refine hK _ _ _ _ (hs.put _ (d := .fnc f l) ⟨caps.map a.eval, rfl, ?_⟩) (by rw [hd]; exact h)
       rw [hmap]; exact capsN_sound hs _ _ hl
     · cases h
   · split at h
     · rename_i F hF
       obtain ⟨g', st', hs', h⟩ := capsK_sound _ _ hs h
       split at h
       · rename_i y hy
         have hrep := capsV_sound _ _ _ y (evs_sound hs' caps.toList) hy
         unfold Oper.wp
         rw [hex hfirst, Oper.upon_value]
         refine hK _ _ _ _ (hs'.put _ (d := .v (.clo f y.1) y.2) (RepC.toV (t := .clo f y.1) rfl ⟨caps.map a.eval, rfl, ?_⟩)) (by rw [hd]; exact h)
         rw [hmap]; exact hrep
       · cases h
     · cases h
 · cases h
theorem trunc_wp {R : Type} [BothC R] (hE : EnvOk P G B0 E) {o : Oper} {k : St → Option R} {r : R} {K : Act → World → Prop} {Q : Exit → Act → World → Prop} (hs : Sim df G B0 M0 w0 gi g st a w) (hK : Goes df G B0 M0 w0 gi k r K)
   {T : TypeId} {x hi : Operand} (ho : o.op = .slice T x none (some hi) none) (h : opD E o st k = some r) : o.wp P a w K Q := by
 simp only [opD, ho, putK_eq, liftK_eq, setBK_eq] at h
 have hval : valD E o.op o.type st (fun d => k (st.put o.dst d)) = some r → o.wp P a w K Q := fun h => wp_val hE hs hK h
 rw [ho] at hval
 split at h
 · rename_i t e2 t2 q hT hel hdx
   split at h
   · rename_i e t' xs hb
     split at h
     case h_1 => cases h
     rename_i hq
     have hq := blt_ge hq
     split at h
     · rename_i n hdh
       split at h
       · rename_i htt
         obtain ⟨rfl, rfl⟩ := htt
         rcases br_some h with ⟨hcond, h⟩ | ⟨_, h⟩
         · have hx := hs.ev x
           have hh := hs.ev hi
           rw [hdx] at hx
           rw [hdh] at hh
           have hh' := RepD.int hh
           obtain ⟨N, hN⟩ : ∃ N : Int, N = n := ⟨n, rfl⟩
           have hc := of_decide_eq_true hcond
           rw [← hN] at hh' h hc
           have h0 : (0 : Int) ≤ N := hc.1
           have h1 : N ≤ (xs.length : Int) := hc.2
           clear hc hN hcond
           obtain ⟨gx, hg, hz, cs, hown, hblk, hlo, hels⟩ := hs.hp _ _ hb
           obtain ⟨gx', A0, n0, c0, hg', hv, hv2⟩ := hx
           rw [hg] at hg'
           cases hg'
           obtain ⟨A, c, hv3, hlc, hmax, hrow⟩ := Row.of_own' hown
           have hxv : a.eval x = .slice A xs.length c := hv.trans hv3
           have hu := und_sl (hE.ty _ _ hT)
           obtain ⟨hok, bytes, ⟨hu2, _⟩, _⟩ := hE.el _ _ _ hel
           have hb2 := run_sliceBounds_ok (P := P) (w := w) (isS := true) (len := xs.length) (cap := c) (lo := none) (hi := some (.int .i64 N)) (l := 0) (h := N) (.inl ⟨rfl, rfl⟩) (.inr ⟨_, rfl⟩) (Int.le_refl 0) h0 h1 hlc
           have hA : (if c = (0 : Int).toNat then A else A.map (·.add ((0 : Int).toNat * t2.sz))) = A := by
             split
             · rfl
             · cases A with
               | none => rfl
               | some ad => simp [Addr.add]
           have hrun : (Instr.sliceAt T (a.eval x) none (some (a.eval hi)) none).run P w = .ok (.slice A N.toNat c) w := by
             rw [sliceAt_of hu2 (by simp), hxv, hh']
             simp only [Instr.slice, Sem.run_bind, run_underlying hu2, Result.andThen_ok, Sem.run_pure, hb2, run_sizeOf_ok hok, hA]
             simp
           refine wp_ret (s := Instr.sliceAt T (a.eval x) none (some (a.eval hi)) none) (by simp [execOp, ho]) hrun ?_
           have hcl : (cut xs N).length = N.toNat := by simp only [cut, List.length_take]; omega
           have hle : N.toNat ≤ xs.length := by omega
           have hmul : N.toNat * t2.sz ≤ xs.length * t2.sz := Nat.mul_le_mul_right _ hle
           have hlo' : gx.lo = 0 := hlo
           have hown2 : w.ownsRow 0 e t2.sz (.slice A N.toNat c) N.toNat (cs.take (N.toNat * t2.sz)) := by
             refine ⟨by rw [List.length_take, hown.1]; omega, ?_⟩
             rcases hown.2 with ⟨e5, e6⟩ | ⟨gg, cap, cur, e5, e6, e7, e8, e9, e10, e11⟩
             · rw [hv3] at e5
               simp only [Value.slice.injEq] at e5
               obtain ⟨rfl, _, rfl⟩ := e5
               exact .inl ⟨by rw [show N.toNat = 0 by omega], by omega⟩
             · rw [hv3] at e5
               simp only [Value.slice.injEq, true_and] at e5
               obtain ⟨rfl, rfl⟩ := e5
               exact .inr ⟨gg, c, cur, rfl, e6, e7, by omega, e9, e10, by rw [← e11, List.take_take, Nat.min_eq_left hmul]⟩
           have hvo : (Value.slice A N.toNat c).ownBlock = gx.v.ownBlock := by rw [hv3]; cases A <;> rfl
           have ht : Turn g q (some ⟨gx.blk, 0, .slice A N.toNat c⟩) w w := by
             refine ⟨rfl, rfl, rfl, Nat.le_refl _, fun _ _ _ => rfl, fun z b e1 e2 => ?_, fun x b e1 e2 e3 => ?_, fun z b e1 e2 e3 => ?_⟩
             · cases e1; exact ⟨(hs.low _ _ _ hg e2).2.1, .inr ⟨gx, hg, e2⟩⟩
             · rw [hg] at e1; cases e1; omega
             · cases e1; exact absurd e3 (Nat.lt_irrefl 0)
           have hst := ht.step hs
           refine hK _ _ _ _ (Sim.put (hs.turnB ht (φ := forget [q]) (fun d v hd => RepD0.forget hst (fun i hi => Gh.set_other _ _ fun e => hi (by simp [e])) hd) (fun _ _ => rfl) (fun x' e1 e2 => (pinrow hs hq hown hg e1 e2).elim) (blk := .row e t2 true (cut xs N)) ⟨hz, cs.take (N.toNat * t2.sz), by rw [hcl]; exact hown2, by rw [hvo]; exact hblk, rfl, fun i hi => ?_⟩) o.dst ?_) h
           · rw [hcl] at hi
             have e1 : (cut xs N)[i]'(by rw [hcl]; exact hi) = xs[i] := by simp [cut]
             rw [e1]
             have hpos : i * t2.sz + t2.sz ≤ N.toNat * t2.sz := by
               have : (i + 1) * t2.sz ≤ N.toNat * t2.sz := Nat.mul_le_mul_right _ hi
               rw [Nat.add_mul] at this; omega
             have e2 : ((cs.take (N.toNat * t2.sz)).drop (i * t2.sz)).take t2.sz = (cs.drop (i * t2.sz)).take t2.sz := by
               rw [List.drop_take, List.take_take, Nat.min_eq_left (by omega)]
             rw [e2]
             exact RepC.step hst _ _ _ (hels i (by omega))
           · exact ⟨_, A, _, c, Gh.set_same _ _ _, rfl, rfl⟩
         · cases h
       · cases h
     · cases h
   · exact hval h
 · exact hval h
theorem tail_wp {R : Type} [BothC R] (hE : EnvOk P G B0 E) {o : Oper} {k : St → Option R} {r : R} {K : Act → World → Prop} {Q : Exit → Act → World → Prop} (hs : Sim df G B0 M0 w0 gi g st a w) (hK : Goes df G B0 M0 w0 gi k r K)
   {T : TypeId} {x lo : Operand} (ho : o.op = .slice T x (some lo) none none) (h : opD E o st k = some r) : o.wp P a w K Q := by
 simp only [opD, ho, putK_eq] at h
 have hval : valD E o.op o.type st (fun d => k (st.put o.dst d)) = some r → o.wp P a w K Q := fun h => wp_val hE hs hK h
 rw [ho] at hval
 split at h
 · rename_i t e2 t2 q hT hel hdx
   split at h
   · rename_i e t' xs hb
     split at h
     · rename_i n hdl
       split at h
       · rename_i htt
         obtain ⟨rfl, rfl⟩ := htt
         rcases br_some h with ⟨hcond, h⟩ | ⟨_, h⟩
         · have hx := hs.ev x
           have hh := hs.ev lo
           rw [hdx] at hx
           rw [hdl] at hh
           have hh' := RepD.int hh
           obtain ⟨N, hN⟩ : ∃ N : Int, N = n := ⟨n, rfl⟩
           have hc := of_decide_eq_true hcond
           rw [← hN] at hh' h hc
           have h0 : (0 : Int) ≤ N := hc.1
           have h1 : N ≤ (xs.length : Int) := hc.2.1
           have hpos : 0 < xs.length := hc.2.2
           clear hc hN hcond
           obtain ⟨gx, hg, hz, cs, hown, hblk, hlo, hels⟩ := hs.hp _ _ hb
           obtain ⟨gx', A0, n0, c0, hg', hv, hv2⟩ := hx
           rw [hg] at hg'
           cases hg'
           rcases hown.2 with ⟨e5, e6⟩ | ⟨gg, c, cur, e5, e6, e7, hlc, hmax, e10, e11⟩
           · exact absurd e6 (by omega)
           · have hxv : a.eval x = .slice (some ⟨gg, 0, none⟩) xs.length c := hv.trans e5
             have hu := und_sl (hE.ty _ _ hT)
             obtain ⟨hok, bytes, ⟨hu2, _⟩, _⟩ := hE.el _ _ _ hel
             have hb2 := run_sliceBounds_ok (P := P) (w := w) (isS := true) (len := xs.length) (cap := c) (lo := some (.int .i64 N)) (hi := none) (l := N) (h := (xs.length : Int)) (.inr ⟨_, rfl⟩) (.inl ⟨rfl, rfl⟩) h0 h1 (Int.le_refl _) hlc
             have hA : (if c = N.toNat then some (⟨gg, 0, none⟩ : Addr) else (some (⟨gg, 0, none⟩ : Addr)).map (·.add (N.toNat * t2.sz))) = some ⟨gg, (if c = N.toNat then 0 else N.toNat * t2.sz), none⟩ := by
               split
               · rfl
               · simp [Addr.add]; exact fun h => h.symm
             have hrun : (Instr.sliceAt T (a.eval x) (some (a.eval lo)) none none).run P w = .ok (.slice (some ⟨gg, (if c = N.toNat then 0 else N.toNat * t2.sz), none⟩) (xs.length - N.toNat) (c - N.toNat)) w := by
               rw [sliceAt_of hu2 (by simp), hxv, hh']
               simp only [Instr.slice, Sem.run_bind, run_underlying hu2, Result.andThen_ok, Sem.run_pure, hb2, run_sizeOf_ok hok, hA]
               simp
             refine wp_ret (s := Instr.sliceAt T (a.eval x) (some (a.eval lo)) none none) (by simp [execOp, ho]) hrun ?_
             exact hK _ _ _ _ (hs.put (d := .tl q t2.sz N) o.dst ⟨gx, gg, xs.length, c, hg, e5, h0, h1, rfl⟩) h
         · cases h
       · cases h
     · cases h
   · rename_i e t' xs hb
     split at h
     · rename_i j hdl hq
       have hq := blt_ge hq
       split at h
       · rename_i htt
         obtain ⟨rfl, rfl⟩ := htt
         rcases br_some h with ⟨hcond, h⟩ | ⟨_, h⟩
         · have hx := hs.ev x
           have hh := hs.ev lo
           rw [hdx] at hx
           rw [hdl] at hh
           have hh' := RepD.int hh
           obtain ⟨j', hj'⟩ : ∃ j' : Int, j' = j := ⟨j, rfl⟩
           have hc := of_decide_eq_true hcond
           rw [← hj'] at hh' h hc
           have hc0 : (0 : Int) ≤ j' := hc.1
           have hc1 : j' ≤ (xs.length : Int) := hc.2
           clear hc hcond
           obtain ⟨J, rfl⟩ := Int.eq_ofNat_of_zero_le hc0
           obtain ⟨gx, hg, b, c, i, off, zs, rfl, h9, h10, rfl, hz, cs, hown, hels⟩ := hs.hp _ _ hb
           obtain ⟨gx', A0, n0, c0, hg', hv, hv2⟩ := hx
           rw [hg] at hg'
           cases hg'
           rw [List.length_drop] at hc1
           have hnc : zs.length ≤ c := by
             rcases hown.2 with ⟨e5, _⟩ | ⟨gg, cap, cur, e5, _, _, hnc, _⟩
             · cases e5
             · injection e5 with _ _ e3; omega
           have hu := und_sl (hE.ty _ _ hT)
           obtain ⟨hok, bytes, ⟨hu2, _⟩, _⟩ := hE.el _ _ _ hel
           have hb2 := run_sliceBounds_ok (P := P) (w := w) (isS := true) (len := zs.length - i) (cap := c - i) (lo := some (.int .i64 (J : Int))) (hi := none) (l := (J : Int)) (h := ((zs.length - i : Nat) : Int)) (.inr ⟨_, rfl⟩) (.inl ⟨rfl, rfl⟩) (by omega) (by omega) (Int.le_refl _) (by omega)
           have hA : (if c - i = J then some (⟨b, off, none⟩ : Addr) else (some (⟨b, off, none⟩ : Addr)).map (·.add (J * t2.sz))) = some ⟨b, (if c - i = J then off else off + J * t2.sz), none⟩ := by
             split
             · rfl
             · simp only [Option.map_some, Addr.add_lit]
           have hrun : (Instr.sliceAt T (a.eval x) (some (a.eval lo)) none none).run P w = .ok (.slice (some ⟨b, (if c - i = J then off else off + J * t2.sz), none⟩) (zs.length - (i + J)) (c - (i + J))) w := by
             rw [sliceAt_of hu2 (by simp), hv, hh']
             simp only [Instr.slice, Sem.run_bind, run_underlying hu2, Result.andThen_ok, Sem.run_pure, hb2, run_sizeOf_ok hok, Int.toNat_natCast, hA, Nat.sub_sub]
           refine wp_ret (s := Instr.sliceAt T (a.eval x) (some (a.eval lo)) none none) (by simp [execOp, ho]) hrun ?_
           have hnb : isBM (.slice (some ⟨b, off, none⟩) (zs.length - i) (c - i)) = true → False := fun h => by cases h
           have hold : RepV (Mof M0 g) w (.sl t2) (zs.drop i) (.slice (some ⟨b, off, none⟩) (zs.length - i) (c - i)) := hs.dat (d := .row q) (RepD0.toD (d := .row q) ⟨_, _, _, _, hg, rfl, rfl⟩) (t := .sl t2) (x := zs.drop i) (by simp [St.dat, hb])
           have ht : Turn g q (some ⟨some b, zs.length * t2.sz, .slice (some ⟨b, (if c - i = J then off else off + J * t2.sz), none⟩) (zs.length - (i + J)) (c - (i + J))⟩) w w := by
             refine ⟨rfl, rfl, rfl, Nat.le_refl _, fun _ _ _ => rfl, fun z' b' e1 e2 => ?_, fun x' b' e1 e2 e3 => ?_, fun z' b' e1 e2 e3 es c hc => ?_⟩
             · cases e1
               cases e2
               exact ⟨(own_row hown rfl).1, .inr ⟨_, hg, rfl⟩⟩
             · rw [hg] at e1; cases e1
               exact ⟨fun o u s _ h => h, fun z e6 e7 => by cases e6; exact Nat.le_refl _⟩
             · cases e1
               cases e2
               exact (own_row hown rfl).2 es c hc
           have hst := ht.step hs
           simp only [Int.toNat_natCast, List.drop_drop, liftK_eq, setBK_eq] at h
           refine hK _ _ _ _ (Sim.put (hs.turnB ht (φ := Go.Proofs.YtjiddcchklaiiaaGreatDoor.snap q t2 (zs.drop i)) (fun d v hdv => ?_) (fun b l => rfl) (fun x' e1 e2 => ?_) (blk := .que e t2 (zs.drop (i + J))) ⟨b, c, i + J, _, zs, rfl, by omega, fun hcc => ?_, rfl, hz, cs, hown, fun j hj => RepC.step hst _ _ _ (hels j hj)⟩) o.dst ?_) h
           · exact RepD0.snap hg hst (fun r hr => Gh.set_other _ _ hr) hnb (hold.step hst) hdv
           · have := hs.pin q x' e1 e2
             rw [hg] at this; cases this
             rcases e2 with e2 | e2
             · exact (hnb e2).elim
             · omega
           · rw [if_neg (by omega), h10 (by omega), Nat.add_mul]
           · exact ⟨_, _, _, _, Gh.set_same _ _ _, rfl, rfl⟩
         · cases h
       · cases h
     · cases h
   · exact hval h
 · exact hval h
theorem clear_wp {R : Type} [BothC R] (hE : EnvOk P G B0 E) {o : Oper} {k : St → Option R} {r : R} {K : Act → World → Prop} {Q : Exit → Act → World → Prop} (hs : Sim df G B0 M0 w0 gi g st a w) (hK : Goes df G B0 M0 w0 gi k r K)
   {c : Call} (ho : o.op = .call c) (hc : c.callee = .builtin .clear) (h : opD E o st k = some r) : o.wp P a w K Q := by
 simp only [opD, ho, hc, setBK_eq] at h
 split at h
 · rename_i T x hts hdst hargs
   split at h
   · rename_i e0 t q z i hel hdx
     split at h
     · rename_i e t' xs cs0 hb hz0
       split at h
       · rename_i htt
         subst htt
         split at h
         · rename_i hzz
           have := Nat.eq_of_beq_eq_true hzz
           subst this
           have hx := hs.ev x
           rw [hdx] at hx
           obtain ⟨gx, b, n, cp, hg, hgv, hi0, hin, ex⟩ := hx
           obtain ⟨gx', hg', hz, cs, hown, hblk, hlo, hels⟩ := hs.hp _ _ hb
           rw [hg] at hg'
           cases hg'
           obtain ⟨hok, bytes, ⟨hu2, _⟩, _⟩ := hE.el _ _ _ hel
           rcases hown.2 with ⟨e5, e6⟩ | ⟨gg, cap, cur, e5, e6, hg1, hlc, hmax, hcs, htk⟩
           · rw [e5] at hgv; cases hgv
           · have hgg : gg = b ∧ xs.length = n ∧ cap = cp := by
               rw [e5] at hgv
               simp only [Value.slice.injEq, Option.some.injEq, Addr.mk.injEq, and_true] at hgv
               exact ⟨hgv.1, hgv.2.1, hgv.2.2⟩
             obtain ⟨rfl, rfl, rfl⟩ := hgg
             have hle : i.toNat ≤ xs.length := by omega
             have hl := hown.1
             obtain ⟨Z, hZ⟩ : ∃ Z : List Value, Z = (madeCells (zeroC t').toArray ((xs.length - i.toNat) * t'.sz)).toList := ⟨_, rfl⟩
             have hzl : (zeroC t').length = t'.sz := zeroC_len t'
             have hZl : Z.length = (xs.length - i.toNat) * t'.sz := by rw [hZ, Array.length_toList, size_madeCells]
             have hmul : i.toNat * t'.sz + (xs.length - i.toNat) * t'.sz = xs.length * t'.sz := by
               rw [← Nat.add_mul]; congr 1; omega
             have hcapm : xs.length * t'.sz ≤ cap * t'.sz := Nat.mul_le_mul_right _ hlc
             have hzs : ∀ {M' : Nat → Nat → Prop} {w' : World}, RepC M' w' t' (zero t') (zeroC t') := zero_sound t' cs0 hz0
             have hZg : ∀ k, k < Z.length → Z[k]? = (zeroC t')[k % t'.sz]? := fun k hk => by
               have hzm : k % t'.sz < (zeroC t').length := by rw [hzl]; exact Nat.mod_lt _ hz
               rw [hZ, madeCells_get, if_pos (by rw [← hZl]; exact hk)]
               simp only [List.size_toArray, hzl]
               rw [List.getElem?_eq_getElem hzm]
               simp [hzm]
             have hZ1 : ∀ v ∈ Z, v.oneCell' = true := fun v hv => by
               obtain ⟨k, hk, rfl⟩ := List.getElem_of_mem hv
               have := hZg k hk
               rw [List.getElem?_eq_getElem hk] at this
               exact RepC.one _ _ _ (hzs (M' := M0) (w' := w)) _ (List.mem_of_getElem? this.symm)
             have hrun : (Builtin.clear_ #[T] o.type #[a.eval x]).run P w = .ok (.tuple #[]) (w.setRow gg (cur.toList.take (i.toNat * t'.sz) ++ Z ++ cur.toList.drop (i.toNat * t'.sz + Z.length)).toArray) := by
               rw [ex]
               rcases Nat.eq_zero_or_pos (xs.length - i.toNat) with h0 | h0
               · have hZ0 : Z = [] := List.eq_nil_of_length_eq_zero (by rw [hZl, h0, Nat.zero_mul])
                 rw [hZ0, h0]
                 have : (cur.toList.take (i.toNat * t'.sz) ++ [] ++ cur.toList.drop (i.toNat * t'.sz + ([] : List Value).length)).toArray = cur := by simp
                 rw [this, setRow_self w gg cur e _ hg1]
                 simp [Builtin.clear_, run_underlying hu2]
               · have hne : ¬ (cap = i.toNat) := by omega
                 rw [if_neg hne]
                 have hst0 := run_storeCells_at P gg (i.toNat * t'.sz) e Z 0 cur w hg1 (by omega) hZ1
                 rw [Nat.add_zero] at hst0
                 have hzv := zeroValue_ok (w := w) (P := P) hok
                 have hzz : (Builtin.zeroCells (mkV t' (zeroC t')).cells (xs.length - i.toNat)).toList = Z := by
                   have e1 : (mkV t' (zeroC t')).cells = (zeroC t').toArray := mkV_cells (zeroC_len t') (zeroC_one t')
                   rw [hZ, e1]
                   show (madeCells (zeroC t').toArray ((xs.length - i.toNat) * (zeroC t').toArray.size)).toList = _
                   rw [List.size_toArray, hzl]
                 obtain ⟨m, hm⟩ : ∃ m, xs.length - i.toNat = m + 1 := ⟨xs.length - i.toNat - 1, by omega⟩
                 rw [hm] at hzz ⊢
                 simp [Builtin.clear_, run_underlying hu2, hzv, hzz, hst0]
             have harg : c.args = #[x] := Array.ext' (by simpa using hargs)
             have htys : c.argTypes = #[T] := Array.ext' (by simpa using hts)
             have he : execOp a.eval o = (do pure (Next.value (← Builtin.clear_ #[T] o.type #[a.eval x]))) := by
               simp [execOp, ho, resolve, hc, harg, htys, invoke, builtin]
             refine wp_ret he hrun ?_
             rw [hdst]
             have hgx : gx = ⟨some gg, 0, gx.v⟩ := by
               obtain ⟨b1, l1, v1⟩ := gx
               have e3 : b1 = some gg := hblk.trans (by rw [show v1 = _ from e5]; rfl)
               have e4 : l1 = 0 := hlo
               rw [e3, e4]
             rw [hgx] at hg
             have hcll : (clr xs i (zero t')).length = xs.length := by
               simp only [clr, List.length_append, List.length_take, List.length_replicate]; omega
             have hcutl : ∀ m : List Value, m = cur.toList → (m.take (i.toNat * t'.sz) ++ Z ++ m.drop (i.toNat * t'.sz + Z.length)).take (xs.length * t'.sz) = cs.take (i.toNat * t'.sz) ++ Z := by
               rintro m rfl
               apply List.ext_getElem?
               intro p
               have hcut0 : cs.take (i.toNat * t'.sz) = cur.toList.take (i.toNat * t'.sz) := by
                 rw [← htk, List.take_take, Nat.min_eq_left (by omega)]
               have hl2 : (cur.toList.take (i.toNat * t'.sz) ++ Z).length = xs.length * t'.sz := by
                 rw [List.length_append, List.length_take, Array.length_toList, hcs, hZl, Nat.min_eq_left (by omega)]; exact hmul
               rw [hcut0, List.getElem?_take]
               split
               · rename_i hp; rw [List.getElem?_append_left (by omega)]
               · rename_i hp; rw [List.getElem?_eq_none (by omega)]
             refine hK _ _ _ _ (hs.setObj (w' := w.setRow gg (cur.toList.take (i.toNat * t'.sz) ++ Z ++ cur.toList.drop (i.toNat * t'.sz + Z.length)).toArray) hg rfl rfl rfl (by simp [World.setRow]) (fun j hj => setRow_other w gg j _ hj) (blk := .row e t' true (clr xs i (zero t'))) fun hst =>
               ⟨hz, cs.take (i.toNat * t'.sz) ++ Z, ⟨?_, .inr ⟨gg, cap, _, ?_, Nat.zero_le _, setRow_heap w gg cur _ e _ hg1, ?_, hmax, ?_, ?_⟩⟩, ?_, rfl, ?_⟩) h
             · rw [hcll, List.length_append, List.length_take, hZl]; omega
             · rw [hcll]; exact e5
             · rw [hcll]; exact hlc
             · simp only [List.size_toArray, List.length_append, List.length_take, List.length_drop, Array.length_toList]; omega
             · rw [hcll]; exact hcutl _ rfl
             · rw [← hblk]; exact (congrArg GB.blk hgx).symm
             · intro j hj
               have hj' : j < xs.length := by rw [hcll] at hj; exact hj
               have hjm : j * t'.sz + t'.sz ≤ xs.length * t'.sz := by
                 have : (j + 1) * t'.sz ≤ xs.length * t'.sz := Nat.mul_le_mul_right _ hj'
                 rw [Nat.add_mul] at this; omega
               have htl : (cs.take (i.toNat * t'.sz)).length = i.toNat * t'.sz := by rw [List.length_take]; omega
               rcases Nat.lt_or_ge j i.toNat with hji | hji
               · have e1 : (clr xs i (zero t'))[j]'hj = xs[j] := by
                   simp only [clr]
                   rw [List.getElem_append_left (by rw [List.length_take]; omega), List.getElem_take]
                 have hjm2 : j * t'.sz + t'.sz ≤ i.toNat * t'.sz := by
                   have : (j + 1) * t'.sz ≤ i.toNat * t'.sz := Nat.mul_le_mul_right _ hji
                   rw [Nat.add_mul] at this; omega
                 have e2 : ((cs.take (i.toNat * t'.sz) ++ Z).drop (j * t'.sz)).take t'.sz = (cs.drop (j * t'.sz)).take t'.sz := by
                   apply List.ext_getElem?
                   intro m
                   rw [List.getElem?_take, List.getElem?_take]
                   split
                   · rw [List.getElem?_drop, List.getElem?_drop, List.getElem?_append_left (by omega), List.getElem?_take, if_pos (by omega)]
                   · rfl
                 rw [e1, e2]
                 exact RepC.step hst _ _ _ (hels j hj')
               · have e1 : (clr xs i (zero t'))[j]'hj = zero t' := by
                   simp only [clr]
                   rw [List.getElem_append_right (by rw [List.length_take]; omega), List.getElem_replicate]
                 have e2 : ((cs.take (i.toNat * t'.sz) ++ Z).drop (j * t'.sz)).take t'.sz = zeroC t' := by
                   apply List.ext_getElem?
                   intro m
                   rw [List.getElem?_take]
                   have hjm2 : i.toNat * t'.sz ≤ j * t'.sz := Nat.mul_le_mul_right _ hji
                   split
                   · rename_i hm
                     rw [List.getElem?_drop, List.getElem?_append_right (by omega), htl, hZg _ (by omega)]
                     congr 1
                     have : j * t'.sz + m - i.toNat * t'.sz = (j - i.toNat) * t'.sz + m := by
                       rw [Nat.sub_mul]; omega
                     rw [this, Nat.mul_add_mod_of_lt' hm]
                   · rename_i hm; rw [List.getElem?_eq_none (by omega)]
                 rw [e1, e2]
                 exact hzs
         · cases h
       · cases h
     · cases h
   · cases h
 · cases h
theorem load_soft {R : Type} [BothC R] {o : Oper} {k : St → Option R} {r : R} (hs : Sim df G B0 M0 w0 gi g st a w) {T : TypeId} {x : Operand} (ho : o.op = .load T x) (h : opD E o st k = some r) :
   ∃ g' st', Sim df G B0 M0 w0 gi g' st' a w ∧ valD E o.op o.type st' (fun d => k (st'.put o.dst d)) = some r := by
 simp only [opD, ho, putK_eq] at h
 rw [ho]
 split at h
 · split at h
   · exact softDsK_sound _ hs h
   · exact ⟨g, st, hs, h⟩
 · exact ⟨g, st, hs, h⟩
theorem buildO_wp {R : Type} [BothC R] (hE : EnvOk P G B0 E) {o : Oper} {k : St → Option R} {r : R} {K : Act → World → Prop} {Q : Exit → Act → World → Prop} (hs : Sim df G B0 M0 w0 gi g st a w) (hK : Goes df G B0 M0 w0 gi k r K)
   {T : TypeId} {ps : Array (Nat × Operand)} (ho : o.op = .build T ps) (h : opD E o st k = some r) : o.wp P a w K Q := by
 simp only [opD, ho, putK_eq] at h
 obtain ⟨g', st', hs', h'⟩ := softTsK_sound _ hs h
 exact wp_val hE hs' hK (by rw [ho]; exact h')
end
end Go.Proofs.YtjiddcchklaiiaaGreatDoor


/- A region that draws its order: operations that only read may be taken first, if what they read stays behind all that does not wait for them. -/
namespace Go.Proofs.YtjiddcchklaiiaaGreatDoor
set_option linter.unusedVariables false
set_option linter.unusedSimpArgs false
open Go Go.RowKit
section
variable {P : Program} {ops : Array Oper} {Q : Exit → Act → World → Prop} {S : World → Prop} {tail : Nat → Bool}
def wpAnyT (P : Program) (ops : Array Oper) (Q : Exit → Act → World → Prop) (tail : Nat → Bool) (S : World → Prop) : Nat → Array Bool → Act → World → Prop
 | 0, listed, a, w => Region.ready .any ops listed = [] ∧ Q .normal a w
 | fuel + 1, listed, a, w =>
   (Region.ready .any ops listed = [] → Q .normal a w) ∧
   ∀ i ∈ Region.ready .any ops listed, wpOp P ops Q i (fun a' w' => (tail i = true ∧ wpAny P .any ops Q fuel (listed.setIfInBounds i true) a' w') ∨
     (tail i = false ∧ S w' ∧ wpAnyT P ops Q tail S fuel (listed.setIfInBounds i true) a' w')) a w
theorem wpAny_of_T : ∀ (fuel : Nat) (listed : Array Bool) (a : Act) (w : World), wpAnyT P ops Q tail S fuel listed a w → wpAny P .any ops Q fuel listed a w
 | 0, _, _, _, h => h
 | fuel + 1, _, _, _, h => ⟨h.1, fun i hi => wpOp_mono (fun a' w' h' => by
     rcases h' with h' | h'
     · exact h'.2
     · exact wpAny_of_T fuel _ a' w' h'.2.2) (h.2 i hi)⟩
theorem wpAnyT_tail {fuel : Nat} {listed : Array Bool} {a : Act} {w : World} (ht : ∀ i ∈ Region.ready .any ops listed, tail i = true) (h : wpAny P .any ops Q fuel listed a w) : wpAnyT P ops Q tail S fuel listed a w := by
 cases fuel with
 | zero => exact h
 | succ fuel => exact ⟨h.1, fun i hi => wpOp_mono (fun a' w' h' => .inl ⟨ht i hi, h'⟩) (h.2 i hi)⟩
theorem calm_wp {o : Oper} (ho : calmOp o = true) {a : Act} {w : World} {K : Act → World → Prop} (h : o.wp P a w K Q) : o.wp P a w (fun a' w' => w' = w ∧ K a' w') Q := by
 unfold calmOp at ho
 split at ho
 · rename_i x hop
   unfold Oper.wp at *
   simp only [execOp, hop, Sem.run_pure, Oper.upon_value] at h ⊢
   exact ⟨trivial, h⟩
 · rename_i x hop
   unfold Oper.wp at *
   simp only [execOp, hop, Sem.run_pure, Oper.upon_value] at h ⊢
   exact ⟨trivial, h⟩
 · rename_i x j hop
   unfold Oper.wp at *
   simp only [execOp, hop, Instr.extract] at h ⊢
   split at h
   · split at h
     · simp only [Sem.run_bind, Sem.run_pure, Result.andThen_ok, Oper.upon_value] at h ⊢
       exact ⟨trivial, h⟩
     · simp [stuck, Oper.upon] at h
   · simp [stuck, Oper.upon] at h
 · cases ho
theorem wpAnyT_calm : ∀ (fuel : Nat) (listed : Array Bool) (a : Act) (w : World), (∀ j o, listed.getD j true = false → tail j = false → ops[j]? = some o → calmOp o = true) → S w → ¬ LetsOut Q → wpAny P .any ops Q fuel listed a w → wpAnyT P ops Q tail S fuel listed a w
 | 0, _, _, _, _, _, _, h => h
 | fuel + 1, listed, a, w, hc, hS, hL, h => ⟨h.1, fun i hi => by
     have h1 := h.2 i hi
     obtain ⟨hun, oi, hoi, _⟩ := mem_ready.1 hi
     have hc' : ∀ j o, (listed.setIfInBounds i true).getD j true = false → tail j = false → ops[j]? = some o → calmOp o = true := fun j o h1 h2 h3 => by
       refine hc j o ?_ h2 h3
       by_cases hij : i = j
       · subst hij; exact hun
       · rw [getD_set_ne true hij] at h1; exact h1
     cases ht : tail i with
     | true => exact wpOp_mono (fun a' w' h' => .inl ⟨rfl, h'⟩) h1
     | false =>
       have hcal := hc i oi hun ht hoi
       unfold wpOp at h1 ⊢
       rw [hoi] at h1 ⊢
       dsimp only at h1 ⊢
       split at h1
       · rename_i hw
         rw [if_pos hw]
         rcases h1 with h1 | h1
         · exact .inl (Oper.wp_mono (K := fun a' w' => w' = w ∧ wpAny P .any ops Q fuel (listed.setIfInBounds i true) a' w') (fun a' w' h' => .inr ⟨rfl, (by rw [h'.1]; exact hS), wpAnyT_calm fuel _ a' w' hc' (by rw [h'.1]; exact hS) hL h'.2⟩) (calm_wp hcal h1))
         · exact absurd h1.2 hL
       · rename_i hw
         rw [if_neg hw]
         exact .inr ⟨rfl, hS, wpAnyT_calm fuel _ _ w hc' hS hL h1⟩⟩
inductive Dep (ops : Array Oper) (i : Nat) : Nat → Prop where
 | direct {j : Nat} {oj : Oper} {e : _} : ops[j]? = some oj → e ∈ oj.after → Region.binds .any e = true → e.on = i → Dep ops i j
 | step {j : Nat} {oj : Oper} {e : _} : ops[j]? = some oj → e ∈ oj.after → Region.binds .any e = true → Dep ops i e.on → Dep ops i j
def Closed (ops : Array Oper) (listed : Array Bool) : Prop := ∀ k ok, ops[k]? = some ok → listed.getD k false = true → ∀ e ∈ ok.after, Region.binds .any e = true → listed.getD e.on false = true
theorem Closed.start {n : Nat} : Closed ops (Array.replicate n false) := fun k ok _ h => by
 simp [Array.getD_eq_getD_getElem?, Array.getElem?_replicate] at h
 split at h <;> simp at h
theorem Closed.next {listed : Array Bool} (h : Closed ops listed) {j : Nat} (hj : j ∈ Region.ready .any ops listed) : Closed ops (listed.setIfInBounds j true) := fun k ok hk hl e he hb => by
 by_cases hjk : j = k
 · subst hjk
   obtain ⟨_, oj, hoj, hall⟩ := mem_ready.1 hj
   rw [hk] at hoj
   cases hoj
   exact getD_set_true (hall e he hb)
 · rw [getD_set_ne false hjk] at hl
   exact getD_set_true (h k ok hk hl e he hb)
theorem Dep.listed {listed : Array Bool} (hc : Closed ops listed) {i j : Nat} (h : Dep ops i j) : (∀ oj, ops[j]? = some oj → ∀ e ∈ oj.after, Region.binds .any e = true → listed.getD e.on false = true) → listed.getD i false = true := by
 induction h with
 | direct h1 h2 h3 h4 => intro h; rw [← h4]; exact h _ h1 _ h2 h3
 | step h1 h2 h3 _ ih => intro h; exact ih fun oj hoj => hc _ _ hoj (h _ h1 _ h2 h3)
theorem wpAnyT_first {i : Nat} {oi : Oper} {v : Value} (hi : ops[i]? = some oi) (hsel : ∀ (j : Nat) (o : Oper) cs b, ops[j]? = some o → o.op ≠ .select cs b)
   (hQ : ∀ c a w, Q (.panic c) (a.put oi.dst v) w → Q (.panic c) a w)
   (hwait : ∀ j, tail j = true → j ≠ i → Dep ops i j) :
   ∀ (fuel : Nat) (listed : Array Bool) (a : Act) (w : World), Closed ops listed →
     (∀ j oj, ops[j]? = some oj → j ≠ i → listed.getD j true = false → (∀ e ∈ oj.after, Region.binds .any e = true → e.on ≠ i) → oi.apart ops oj = true) →
     i ∈ Region.ready .any ops listed → YieldsIf P ops S oi v a → S w →
     wpAnyT P ops Q tail S fuel (listed.setIfInBounds i true) (a.put oi.dst v) w → wpAnyT P ops Q tail S (fuel + 1) listed a w := by
 intro fuel
 have same : ∀ (fuel : Nat) (listed : Array Bool) (a : Act) (w : World), S w → wpAnyT P ops Q tail S fuel (listed.setIfInBounds i true) a w →
     (tail i = true ∧ wpAny P .any ops Q fuel (listed.setIfInBounds i true) a w) ∨ (tail i = false ∧ S w ∧ wpAnyT P ops Q tail S fuel (listed.setIfInBounds i true) a w) := fun fuel listed a w hS H => by
   cases ht : tail i with
   | true => exact .inl ⟨rfl, wpAny_of_T _ _ _ _ H⟩
   | false => exact .inr ⟨rfl, hS, H⟩
 induction fuel with
 | zero =>
   intro listed a w _ _ hr hy hS H
   refine ⟨fun h => (by rw [h] at hr; cases hr), fun j hj => ?_⟩
   by_cases hji : j = i
   · subst hji; exact hy.wpOp hi hS (same _ _ _ _ hS H)
   · have := ready_mono hj hji
     rw [H.1] at this
     cases this
 | succ fuel ih =>
   intro listed a w hcl hfree hr hy hS H
   refine ⟨fun h => (by rw [h] at hr; cases hr), fun j hj => ?_⟩
   by_cases hji : j = i
   · subst hji; exact hy.wpOp hi hS (same _ _ _ _ hS H)
   · have h1 := H.2 j (ready_mono hj hji)
     obtain ⟨hjun, oj, hoj, hall⟩ := mem_ready.1 hj
     have hnot : ∀ e ∈ oj.after, Region.binds .any e = true → e.on ≠ i := fun e he hb heq => by
       have h1 := hall e he hb
       have h0 := (mem_ready.1 hr).1
       rw [heq] at h1
       rcases Nat.lt_or_ge i listed.size with h' | h'
       · simp [h'] at h0 h1; rw [h0] at h1; cases h1
       · simp [Array.getElem?_eq_none h'] at h1
     have htj : tail j = false := by
       cases ht : tail j with
       | false => rfl
       | true =>
         have h1 := (hwait j ht hji).listed hcl fun oj' hoj' e he hb => by rw [hoj] at hoj'; cases hoj'; exact hall e he hb
         have h0 := (mem_ready.1 hr).1
         rcases Nat.lt_or_ge i listed.size with h' | h'
         · simp [h'] at h0 h1; rw [h0] at h1; cases h1
         · simp [Array.getElem?_eq_none h'] at h1
     have h2 := wpOp_putIf hoj (hfree j oj hoj hji hjun hnot) (fun cs b => hsel i oi cs b hi) (fun cs b => hsel j oj cs b hoj) hQ hy h1
     have hfree' : ∀ k ok, ops[k]? = some ok → k ≠ i → (listed.setIfInBounds j true).getD k true = false →
         (∀ e ∈ ok.after, Region.binds .any e = true → e.on ≠ i) → oi.apart ops ok = true := fun k ok hk hki hun hno => by
       refine hfree k ok hk hki ?_ hno
       by_cases hjk : j = k
       · subst hjk; exact hjun
       · rw [getD_set_ne true hjk] at hun; exact hun
     refine wpOp_mono (fun a' w' h3 => .inr ⟨htj, ?_⟩) h2
     rcases h3.2 with h4 | h4
     · rw [htj] at h4; cases h4.1
     · refine ⟨h4.2.1, ih (listed.setIfInBounds j true) a' w' (hcl.next hj) hfree' (ready_mono hr (Ne.symm hji)) h3.1 h4.2.1 ?_⟩
       rw [Array.setIfInBounds_comm _ _ hji]
       exact h4.2.2
def CL (ops : Array Oper) (cl : List (Nat × List Nat)) : Prop := ∀ i j, depB cl i j = true → Dep ops i j
theorem memN_addN {s : List Nat} {x i : Nat} (h : memN (addN s x) i = true) : memN s i = true ∨ i = x := by
 unfold addN at h
 split at h
 · exact .inl h
 · unfold memN at h
   split at h
   · rename_i hb; exact .inr (Nat.eq_of_beq_eq_true hb).symm
   · exact .inl h
theorem memN_addsN : ∀ (c s : List Nat) {i : Nat}, memN (c.foldl addN s) i = true → memN s i = true ∨ memN c i = true
 | [], _, _, h => .inl h
 | x :: c, s, i, h => by
   rcases memN_addsN c (addN s x) h with h | h
   · rcases memN_addN h with h | rfl
     · exact .inl h
     · exact .inr (memN_iff.2 (by simp))
   · exact .inr (memN_iff.2 (List.mem_cons_of_mem _ (memN_iff.1 h)))
theorem closJ_sound {cl : List (Nat × List Nat)} (hc : CL ops cl) {j : Nat} {oj : Oper} (hj : ops[j]? = some oj) {i : Nat} (h : memN (closJ ops cl j) i = true) : Dep ops i j := by
 unfold closJ at h
 rw [hj] at h
 dsimp only at h
 have key : ∀ (l : List _) (s : List Nat), (∀ e ∈ l, e ∈ oj.after) → (∀ i, memN s i = true → Dep ops i j) → ∀ i, memN (l.foldl (fun s e => match Region.binds .any e with
   | true => match aget cl e.on with
     | some c => addN (c.foldl addN s) e.on
     | none => addN s e.on
   | false => s) s) i = true → Dep ops i j := by
   intro l
   induction l with
   | nil => intro s _ hs i h; exact hs i h
   | cons e l ih =>
     intro s hl hs i h
     refine ih _ (fun e he => hl e (List.mem_cons_of_mem _ he)) (fun i hi => ?_) i h
     have hea := hl e List.mem_cons_self
     dsimp only at hi
     cases hb : Region.binds .any e with
     | false => rw [hb] at hi; exact hs i hi
     | true =>
       rw [hb] at hi
       dsimp only at hi
       split at hi
       · rename_i c hcl
         rcases memN_addN hi with hi | rfl
         · rcases memN_addsN _ _ hi with hi | hi
           · exact hs i hi
           · exact .step hj hea hb (hc i e.on (by unfold depB; rw [hcl]; exact hi))
         · exact .direct hj hea hb rfl
       · rcases memN_addN hi with hi | rfl
         · exact hs i hi
         · exact .direct hj hea hb rfl
 exact key _ [] (fun e he => by simpa using he) (fun i h => by cases h) i h
theorem closOf_sound : ∀ (r : List Nat) (cl : List (Nat × List Nat)), CL ops cl → CL ops (closOf ops r cl)
 | [], _, h => h
 | j :: r, cl, h => closOf_sound r _ fun i k hk => by
   unfold depB at hk
   rw [aget_cons] at hk
   cases hb : Nat.beq j k with
   | false => rw [hb] at hk; exact h i k hk
   | true =>
     obtain rfl := Nat.eq_of_beq_eq_true hb
     rw [hb] at hk
     dsimp only at hk
     cases ho : ops[j]? with
     | none => unfold closJ at hk; rw [ho] at hk; cases hk
     | some oj => exact closJ_sound h ho hk
theorem waitsB_spec {cl : List (Nat × List Nat)} (hc : CL ops cl) {tl : List Nat} {i : Nat} (h : waitsB cl tl i = true) (j : Nat) (ht : memN tl j = true) (hn : j ≠ i) : Dep ops i j := by
 unfold waitsB at h
 have h1 := List.all_eq_true.1 h j (memN_iff.1 ht)
 rw [beq_ff hn, Bool.false_or] at h1
 exact hc i j h1
theorem wpAnyT_take {cl : List (Nat × List Nat)} (hc : CL ops cl) {tl : List Nat} {i : Nat} {oi : Oper} {v : Value} {fuel : Nat} {listed : Array Bool} {a : Act} {w : World} (hcl : Closed ops listed) (hi : ops[i]? = some oi)
   (hs : Region.noSelect ops = true) (hf : Region.free .any ops listed i = true) (hr : (Region.ready .any ops listed).contains i = true) (hw : waitsB cl tl i = true)
   (hQ : ∀ c a w, Q (.panic c) (a.put oi.dst v) w → Q (.panic c) a w) (hy : YieldsIf P ops S oi v a) (hS : S w)
   (h : wpAnyT P ops Q (memN tl) S fuel (listed.setIfInBounds i true) (a.put oi.dst v) w) : wpAnyT P ops Q (memN tl) S (fuel + 1) listed a w :=
 wpAnyT_first hi (Region.noSelect_spec hs) hQ (waitsB_spec hc hw) fuel listed a w hcl (Region.free_spec hi hf) (by simpa using hr) hy hS h
theorem wp_region_T {id : Nat} {a : Act} {w : World} (hm : P.follows .mixedOrders = true)
   (h : wpAnyT P ops Q tail S ops.size (Array.replicate ops.size false) a { w with drawn := w.drawn + 1 }) : (Code.region id ops true).wp P Q a w :=
 wp_region_any hm (wpAny_of_T _ _ _ _ h)
end
end Go.Proofs.YtjiddcchklaiiaaGreatDoor

