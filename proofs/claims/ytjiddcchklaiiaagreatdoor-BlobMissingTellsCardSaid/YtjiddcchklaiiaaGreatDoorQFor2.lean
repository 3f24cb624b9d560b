/- The whole of a piece of code: the machine of values is right about it. -/
import Derived.Test.YtjiddcchklaiiaaGreatDoorQBmU
import Derived.Test.YtjiddcchklaiiaaGreatDoorQBm4
import Derived.Laws.StructEq
import Derived.Lib.Bytealg
import Derived.Test.YtjiddcchklaiiaaGreatDoorQBm1
namespace Go.Proofs.YtjiddcchklaiiaaGreatDoor
set_option linter.unusedVariables false
set_option linter.unusedSimpArgs false
open Go Go.RowKit
section
variable {P : Program} {df : List Deferred} {G : World → Prop} {B0 : Nat} {E : Env} {M : Nat → Nat → Prop} {M0 : Nat → Nat → Prop} {w0 : World} {gi g : Gh} {st : St} {a : Act} {w : World}
def Ex.toExit : Ex → Exit
 | .normal => .normal
 | .exit id => .exit id
 | .ret => .ret
def Leaves {R : Type} (df : List Deferred) (G : World → Prop) (B0 : Nat) (M0 : Nat → Nat → Prop) (w0 : World) (gi : Gh) (k : Ex → St → Option R) (r : R) (Q : Exit → Act → World → Prop) : Prop :=
 ∀ e g st a w, Sim df G B0 M0 w0 gi g st a w → k e st = some r → Q e.toExit a w

theorem Sim.hard (hs : Sim df G B0 M0 w0 gi g st a w) (s : Nat) : ∃ g', Sim df G B0 M0 w0 gi g' (st.hard s) a w := by
 unfold St.hard
 split
 · rename_i q hd
   split
   · rename_i e t ex xs hb
     split
     · exact ⟨g, hs⟩
     rename_i hq
     have hq := blt_ge hq
     obtain ⟨gx, hg, hz, cs, hown, hblk, hlo, hel⟩ := hs.hp _ _ hb
     have hnb := own_notBM hown
     refine ⟨_, hs.gone (fun x h1 h2 => pinrow hs hq hown hg h1 h2) (φ := snap q t xs) (fun d v hst hdv => ?_) fun _ _ => rfl⟩
     · refine RepD0.snap hg hst (fun r hr => Gh.set_other _ _ hr) hnb ?_ hdv
       refine RepC.toV (t := .sl t) rfl (RepC.of_own hz hown (fun b o hb2 _ hm => ?_) fun i hi => RepC.step hst _ _ _ (hel i hi))
       rcases hm with h | ⟨r', y, h1, h2, h3⟩
       · exact hs.m0x h hg (by rw [hblk]; exact hb2)
       · by_cases hr : r' = q
         · subst hr; rw [Gh.set_same] at h1; cases h1
         · rw [Gh.set_other _ _ hr] at h1
           exact hr (hs.inj _ _ _ _ _ h1 hg h2 (by rw [hblk]; exact hb2))
   · exact ⟨g, hs⟩
 · exact ⟨g, hs⟩
theorem Sim.hards : ∀ (l : List Nat) {g : Gh} {st : St}, Sim df G B0 M0 w0 gi g st a w → ∃ g', Sim df G B0 M0 w0 gi g' (St.hards l st) a w
 | [], g, _, h => ⟨g, h⟩
 | s :: l, _, st, h => by
   obtain ⟨g', h'⟩ := h.hard s
   exact Sim.hards l h'
theorem Sim.setNil (hs : Sim df G B0 M0 w0 gi g st a w) {r j : Nat} {d : D} (hd : RepD0 (Mof M0 g) w g d (.slice none 0 0)) : Sim df G B0 M0 w0 gi g (st.setNil r j d) a w := by
 unfold St.setNil
 split
 · rename_i cs hb
   split
   · rename_i hj
     refine { hs with hp := fun r' blk h => ?_ }
     change aget (aset st.hp r (.cells (cs.set j d))) r' = some blk at h
     by_cases hr : r' = r
     · subst hr
       rw [aget_aset_same] at h
       cases h
       obtain ⟨y, h1, b, vs, el, e, h2, h3⟩ := hs.hp _ _ hb
       obtain ⟨v, hv, hn⟩ := h3.get hj
       have hn : v = .slice none 0 0 := hn
       subst hn
       exact ⟨y, h1, b, vs, el, e, h2, h3.setL hv hd⟩
     · rw [aget_aset_other _ _ hr] at h
       exact hs.hp r' blk h
   · exact hs
 · exact hs
theorem Sim.nilRow0 (hs : Sim df G B0 M0 w0 gi g st a w) (r j q : Nat) (e : TypeId) (t : Ty) : ∃ g', Sim df G B0 M0 w0 gi g' (st.nilRow0 r j q e t) a w := by
 unfold St.nilRow0
 split
 · exact ⟨g, hs.setNil (RepC.toV (t := .sl t) rfl ⟨none, 0, rfl, Nat.le_refl _, Nat.zero_le _, fun i hi => absurd hi (by simp)⟩)⟩
 · split
   · rename_i hc
     simp only [Bool.and_eq_true, Nat.blt_eq] at hc
     refine ⟨_, Sim.setNil (hs.newB (r := q) (z := ⟨none, 0, .slice none 0 0⟩) hc.1 (Ext.refl w) (blk := .row e t (Nat.ble 950000 q) []) (fun b hb => by cases hb) (fun hst => ⟨hc.2, [], World.ownsRow_nil _ _ _ _, rfl, (by cases Nat.ble 950000 q <;> simp), fun i hi => absurd hi (by simp)⟩)) ⟨_, none, 0, 0, Gh.set_same _ _ _, rfl, rfl⟩⟩
   · exact ⟨g, hs⟩
 · exact ⟨g, hs⟩
theorem Sim.que (hs : Sim df G B0 M0 w0 gi g st a w) (r : Nat) : ∃ g', Sim df G B0 M0 w0 gi g' (st.que r) a w := by
 unfold St.que
 split
 · rename_i q hd
   split
   · rename_i e t x xs hb hq
     have hq := blt_ge hq
     obtain ⟨gx, hg, hz, cs, hown, hblk, hlo, hel⟩ := hs.hp _ _ hb
     rcases hown.2 with ⟨_, e1⟩ | ⟨gg, cap, cur, e0, _, _, hnc, _⟩
     · simp at e1
     · have hgx : gx = ⟨some gg, (x :: xs).length * t.sz, .slice (some ⟨gg, 0, none⟩) ((x :: xs).length - 0) (cap - 0)⟩ := by
         obtain ⟨b1, l1, v1⟩ := gx
         have e3 : b1 = some gg := hblk.trans (by rw [show v1 = _ from e0]; rfl)
         have e4 : l1 = (x :: xs).length * t.sz := hlo
         have e5 : v1 = .slice (some ⟨gg, 0, none⟩) (x :: xs).length cap := e0
         rw [e3, e4, e5]
         rfl
       rw [show gx.v = _ from e0] at hown
       refine ⟨g, { hs with hp := fun r' blk h => ?_ }⟩
       by_cases hr : r' = q
       · subst hr
         rw [show aget (st.setB r' (.que e t (x :: xs))).hp r' = some (.que e t (x :: xs)) from aget_aset_same _ _ _] at h
         cases h
         exact ⟨gx, hg, gg, cap, 0, 0, x :: xs, hgx, Nat.zero_le _, fun _ => by simp, rfl, hz, cs, hown, hel⟩
       · rw [show aget (st.setB q (.que e t (x :: xs))).hp r' = aget st.hp r' from aget_aset_other _ _ hr] at h
         exact hs.hp r' blk h
   · exact ⟨g, hs⟩
 · exact ⟨g, hs⟩
theorem Sim.nilRow (hs : Sim df G B0 M0 w0 gi g st a w) (r j q : Nat) (e : TypeId) (t : Ty) : ∃ g', Sim df G B0 M0 w0 gi g' (st.nilRow r j q e t) a w := by
 unfold St.nilRow
 split
 · exact hs.que r
 · exact hs.nilRow0 r j q e t
theorem Sim.nils : ∀ (l : List (Nat × Nat × Nat × TypeId × Ty)) {g : Gh} {st : St}, Sim df G B0 M0 w0 gi g st a w → ∃ g', Sim df G B0 M0 w0 gi g' (St.nils l st) a w
 | [], g, _, h => ⟨g, h⟩
 | s :: l, _, st, h => by
   obtain ⟨g', h'⟩ := h.nilRow s.1 s.2.1 s.2.2.1 s.2.2.2.1 s.2.2.2.2
   exact Sim.nils l h'
theorem Sim.keep (hs : Sim df G B0 M0 w0 gi g st a w) (f h : List Nat) : Sim df G B0 M0 w0 gi g (st.keep f h) a w :=
 { hs with
   fr := fun t d hd => by
     obtain ⟨x, h1, rfl⟩ := aget_akeep f nob st.fr t d hd
     exact nob_sound (hs.fr t x h1)
   inb := fun t d hd => by
     obtain ⟨x, h1, _⟩ := aget_akeep f nob st.fr t d hd
     exact hs.inb t x h1
   hp := fun r blk hb => by
     obtain ⟨x, h1, rfl⟩ := aget_akeep h Blk.past st.hp r blk hb
     obtain ⟨y, h2, h3⟩ := hs.hp r _ h1
     exact ⟨y, h2, h3.past⟩ }
theorem Sim.head (h : Sim df G B0 M0 w0 gi g st a w) (hh : Hint) : ∃ g', Sim df G B0 M0 w0 gi g' (st.head hh) a w := by
 obtain ⟨g', h'⟩ := h.hards hh.dm
 obtain ⟨g2, h2⟩ := h'.nils hh.nl
 exact ⟨g2, h2.keep _ _⟩
theorem Sim.tail (h : Sim df G B0 M0 w0 gi g st a w) (hh : Hint) : Sim df G B0 M0 w0 gi g (st.tail hh) a w := h.keep _ _
theorem aget_adropE {α : Type} (ks : List Nat) : ∀ (l : List (Nat × α)) (i : Nat) (y : α), aget (adrop ks l) i = some y → aget l i = some y ∧ memN ks i = false
 | [], _, _, h => by cases h
 | (j, x) :: l, i, y, h => by
   unfold adrop at h
   rw [aget_cons]
   cases hb : Nat.beq j i with
   | true =>
     obtain rfl := Nat.eq_of_beq_eq_true hb
     split at h
     · rename_i hm
       exact absurd hm (by rw [(aget_adropE ks l _ _ h).2]; simp)
     · rename_i hm
       rw [aget_cons, hb] at h
       exact ⟨h, hm⟩
   | false =>
     split at h
     · exact aget_adropE ks l i y h
     · rw [aget_cons, hb] at h
       exact aget_adropE ks l i y h
def FrameT (ds : List Nat) (a a' : Act) : Prop := a'.defers = a.defers ∧ a'.tmps.size = a.tmps.size ∧ ∀ t, memN ds t = false → a'.tmps.getD t undef = a.tmps.getD t undef
theorem FrameT.put {ds : List Nat} {a a' : Act} (h : FrameT ds a a') {dst : Option Tmp} (hd : ∀ t, dst = some t → memN ds t = true) (v : Value) : FrameT ds a (a'.put dst v) := by
 cases dst with
 | none => exact h
 | some d =>
   refine ⟨h.1, ?_, fun t ht => ?_⟩
   · show (a'.tmps.setIfInBounds d v).size = _
     rw [Array.size_setIfInBounds]; exact h.2.1
   · have hne : d ≠ t := fun e => by
       have := hd d rfl
       rw [e, ht] at this; cases this
     rw [← h.2.2 t ht]
     show (a'.tmps.setIfInBounds d v).getD t undef = _
     simp [Array.getD_eq_getD_getElem?, Array.getElem?_setIfInBounds, hne]
theorem wpQuiet_frame {ops : Array Oper} {C : World → Prop} {K : Act → Prop} {ds : List Nat} {a0 : Act} : ∀ (l : List Oper) (a : Act), (∀ o ∈ l, ∀ t, o.dst = some t → memN ds t = true) → FrameT ds a0 a → wpQuiet P ops C K l a → wpQuiet P ops C (fun a' => K a' ∧ FrameT ds a0 a') l a
 | [], a, _, hf, h => ⟨h, hf⟩
 | o :: l, a, hd, hf, h => by
   unfold wpQuiet at h ⊢
   have hd1 := hd o List.mem_cons_self
   have hd2 := fun o' (h : o' ∈ l) => hd o' (List.mem_cons_of_mem _ h)
   split
   · rename_i hw
     rw [if_pos hw] at h
     obtain ⟨v, h1, h2⟩ := h
     exact ⟨v, h1, wpQuiet_frame l _ hd2 (hf.put hd1 v) h2⟩
   · rename_i hw
     rw [if_neg hw] at h
     exact wpQuiet_frame l _ hd2 (hf.put hd1 _) h
theorem wpList_quiet {ops : Array Oper} {C : World → Prop} {Q : Exit → Act → World → Prop} : ∀ (l : List Oper) (a : Act) (w : World), C w → wpQuiet P ops C (fun a' => ∀ w', C w' → Q .normal a' w') l a → wpList P ops Q l a w
 | [], a, w, hC, h => h w hC
 | o :: l, a, w, hC, h => by
   unfold wpQuiet at h
   unfold wpList
   split
   · rename_i hw
     rw [if_pos hw] at h
     obtain ⟨v, h1, h2⟩ := h
     refine .inl ?_
     have := h1 w hC
     unfold Oper.quietAt Oper.quietUpon at this
     unfold Oper.wp
     split at this
     · rename_i u w' he
       obtain ⟨rfl, rfl⟩ := this
       rw [he]
       exact wpList_quiet l _ _ hC h2
     · rename_i w' he
       obtain ⟨rfl, rfl⟩ := this
       rw [he]
       exact wpList_quiet l _ _ hC h2
     · rename_i f args w' he
       obtain ⟨rfl, hcl⟩ := this
       rw [he, Oper.upon_enter]
       refine hcl.mono ?_
       rintro e w'' ⟨rfl, hC'⟩
       exact wpList_quiet l _ _ hC' h2
     · exact this.elim
   · rename_i hw
     rw [if_neg hw] at h
     exact wpList_quiet l _ w hC h
theorem amap_idE : ∀ {l : List (Nat × D)}, amap id l = l
 | [] => rfl
 | p :: l => by show (p.1, id p.2) :: amap id l = _; rw [amap_idE]; rfl
theorem wpQuiet_mono {ops : Array Oper} {C : World → Prop} {K K' : Act → Prop} (h : ∀ a, K a → K' a) : ∀ (l : List Oper) (a : Act), wpQuiet P ops C K l a → wpQuiet P ops C K' l a
 | [], a, hh => h a hh
 | o :: l, a, hh => by
   unfold wpQuiet at hh ⊢
   split
   · rename_i hw
     rw [if_pos hw] at hh
     exact Oper.quiet_mono (fun a => wpQuiet_mono h l a) hh
   · rename_i hw
     rw [if_neg hw] at hh
     exact wpQuiet_mono h l _ hh
theorem joinD_sound {R : Type} [BothC R] (hE : EnvOk P G B0 E) {id : Nat} {ops : Array Oper} {draw : Bool} {t : Nat} {k : St → Option R} {r : R} {Q : Exit → Act → World → Prop} (hK : Goes df G B0 M0 w0 gi k r (Q .normal)) (hs : Sim df G B0 M0 w0 gi g st a w)
   (h : joinD E ops draw t st k = some r) : (Code.region id ops draw).wp P Q a w := by
 unfold joinD at h
 split at h
 case h_2 => cases h
 rename_i hq
 simp only [Bool.and_eq_true] at hq
 obtain ⟨b, hb, h⟩ := bnd_eq_some h
 simp only [natsK_eq, amapK_eq, amap_idE, putK_eq] at h
 have hds : ∀ o ∈ ops.toList, ∀ t, o.dst = some t → memN (ops.toList.filterMap (·.dst)) t = true := fun o ho t hd => memN_iff.2 (List.mem_filterMap.2 ⟨o, ho, hd⟩)
 have key : ∀ (w' : World), Ext w w' → ∀ a', FrameT (ops.toList.filterMap (·.dst)) a a' → a'.tmps.getD t undef = .bool b → Q .normal a' w' := by
   intro w' hE' a' hf hv
   have h1 := hs.later hE'
   have h2 : Sim df G B0 M0 w0 gi g ⟨st.n, adrop (ops.toList.filterMap (·.dst)) st.fr, st.hp⟩ a' w' := { h1 with
     defers := hf.1.trans h1.defers
     sz := hf.2.1.trans h1.sz
     fr := fun t d hd => by
       obtain ⟨h2, h3⟩ := aget_adropE _ _ _ _ hd
       rw [hf.2.2 t h3]; exact h1.fr t d h2
     inb := fun t d hd => h1.inb t d (aget_adropE _ _ _ _ hd).1 }
   exact hK _ _ _ _ (h2.reput (t := t) (d := .v .bool b) (by rw [hv]; exact repBool b)) h
 have hquiet : ∀ w1, Ext w w1 → wpQuiet P ops (fun w' => Ext w1 w') (fun a' => ∀ w', Ext w1 w' → Q .normal a' w') ops.toList a := by
   intro w1 hE1
   have h1 := @opsD_quiet _ _ _ _ _ _ _ _ (w := w1) Bool (bothClassic Bool) hE ops (fun st' => boolOf (st'.ev (.tmp t))) b (fun e a' w' => e = .normal → a'.tmps.getD t undef = .bool b) (fun g st a w hs h _ => ?_) ops.toList g st a hq.1 (hs.later hE1) hb
   · have h2 := wpQuiet_frame ops.toList a hds ⟨rfl, rfl, fun _ _ => rfl⟩ h1
     exact wpQuiet_mono (fun a' hh w' hE' => key w' (hE1.trans hE') a' hh.2 (hh.1 w' hE' rfl)) _ _ h2
   · have hv := hs.ev (.tmp t)
     unfold boolOf at h
     dsimp only at h
     split at h
     · rename_i b' hd
       cases h
       rw [hd] at hv
       exact RepD.bool hv
     · rename_i b' hd
       cases h
       rw [hd] at hv
       exact hv
     · cases h
 cases draw with
 | false => exact wp_region_list (wpList_quiet (C := fun w' => Ext w w') _ _ _ (Ext.refl w) (hquiet w (Ext.refl w)))
 | true => exact wp_region_quiet (C := fun w' => Ext w w') hE.mixed hq.2 (Ext.refl w).drew (hquiet w (Ext.refl w))
theorem Sim.know {R : Type} (hs : Sim df G B0 M0 w0 gi g st a w) {c : Operand} {b : Bool} (hd : st.ev c = .v .bool b) {k : St → Option R} {r : R} (h : st.knowK c b k = some r) : ∃ st', Sim df G B0 M0 w0 gi g st' a w ∧ k st' = some r := by
 unfold St.knowK at h
 split at h
 · rename_i t
   rw [putK_eq] at h
   refine ⟨_, hs.reput (RepD0.toD (d := .bl b) ?_), h⟩
   have := hs.ev (.tmp t)
   rw [hd] at this
   exact RepD.bool this
 · exact ⟨_, hs, h⟩
theorem exec_sound {R : Type} [BothC R] (hE : EnvOk P G B0 E) (N : Nat) : ∀ (c : Code) (i : Nat) {k : Ex → St → Option R} {r : R} {Q : Exit → Act → World → Prop}, Leaves df G B0 M0 w0 gi k r Q → Pans df E.bad M0 w0 gi r Q → ∀ (g : Gh) (st : St) (a : Act) (w : World),
   Sim df G B0 M0 w0 gi g st a w → exec E N c i st k = some r → c.wp P Q a w
 | .skip, i, k, r, Q, hK, hP, g, st, a, w, hs, h => wp_skip (hK .normal _ _ _ _ hs h)
 | .region id ops draw, i, k, r, Q, hK, hP, g, st, a, w, hs, h => by
   rw [exec_region] at h
   split at h
   · exact joinD_sound hE (fun _ _ _ _ hs h => hK .normal _ _ _ _ hs h) hs h
   · unfold regD at h
     rw [nilsK_eq] at h
     obtain ⟨g, hs⟩ := hs.nils (E.hint (200000 + id)).nl
     unfold regD0 at h
     split at h
     · exact wp_region_list (opsD_sound hE (fun _ _ _ _ hs h => hK .normal _ _ _ _ hs h) hP _ _ _ _ _ hs h)
     · split at h
       · rename_i hq
         simp only [Bool.and_eq_true] at hq
         exact wp_region_quiet (C := fun w' => Ext w w') hE.mixed hq.2 (Ext.refl w).drew (opsD_quiet hE (fun _ _ _ _ hs h => hK .normal _ _ _ _ hs h) _ _ _ _ hq.1 hs h)
       · split at h
         · rename_i hsel
           exact Code.wp_mono (PanQ.out hP) (drawX_sound hE hsel (Q := Q) (fun _ _ _ _ hs h => hK .normal _ _ _ _ hs h) hs h)
         · cases h
 | .seq x y, i, k, r, Q, hK, hP, g, st, a, w, hs, h => by
   refine wp_seq (exec_sound hE N x i ?_ ?_ _ _ _ _ hs h)
   rotate_left; exact fun c a w h1 h2 h3 h4 => hP c a w h1 h2 h3 h4
   intro e g st a w hs h
   cases e with
   | normal => exact exec_sound hE N y i hK hP _ _ _ _ hs h
   | exit id => exact hK (.exit id) _ _ _ _ hs h
   | ret => exact hK .ret _ _ _ _ hs h
 | .cond c x y, i, k, r, Q, hK, hP, g, st, a, w, hs, h => by
   rw [exec_cond] at h
   have hc := hs.ev c
   split at h
   · rename_i b hd
     rw [hd] at hc
     refine wp_cond (t := b) (RepD.bool hc) ?_
     split at h
     case h_2 =>
       rcases br_some h with ⟨e, h2⟩ | ⟨e, h2⟩
       · subst e
         obtain ⟨st', hs', h2⟩ := hs.know hd h2
         exact exec_sound hE N x i hK hP _ _ _ _ hs' h2
       · subst e
         obtain ⟨st', hs', h2⟩ := hs.know hd h2
         exact exec_sound hE N y i hK hP _ _ _ _ hs' h2
     rcases br_some h with ⟨e, h2⟩ | ⟨e, h2⟩
     · subst e; exact exec_sound hE N x i hK hP _ _ _ _ hs h2
     · subst e; exact exec_sound hE N y i hK hP _ _ _ _ hs h2
   · rename_i hd
     rw [hd] at hc
     exact wp_cond (t := true) hc (exec_sound hE N x i hK hP _ _ _ _ hs h)
   · rename_i hd
     rw [hd] at hc
     exact wp_cond (t := false) hc (exec_sound hE N y i hK hP _ _ _ _ hs h)
   · cases h
 | .block id c, i, k, r, Q, hK, hP, g, st, a, w, hs, h => by
   refine wp_block (exec_sound hE N c id ?_ ?_ _ _ _ _ hs h)
   rotate_left; exact fun c a w h1 h2 h3 h4 => hP c a w h1 h2 h3 h4
   intro e g st a w hs h
   cases e with
   | normal => exact hK .normal _ _ _ _ hs h
   | exit j =>
     simp only at h
     show (if j = id then Q .normal a w else Q (.exit j) a w)
     split at h
     · rename_i e; rw [if_pos e]; exact hK .normal _ _ _ _ hs h
     · rename_i e; rw [if_neg e]; exact hK (.exit j) _ _ _ _ hs h
   | ret => exact hK .ret _ _ _ _ hs h
 | .loop c, i, k, r, Q, hK, hP, g, st, a, w, hs, h => by
   rw [exec_loop] at h
   simp only [headK_eq] at h
   have key : ∀ (n : Nat) (g : Gh) (st : St) (a : Act) (w : World), Sim df G B0 M0 w0 gi g st a w → iter (E.hint i) (exec E N c i) n st k = some r → Code.rounds P c Q n a w := by
     intro n
     induction n with
     | zero => intro g st a w hs h; cases h
     | succ n ih =>
       intro g st a w hs h
       refine exec_sound hE N c i ?_ ?_ _ _ _ _ hs h
       rotate_left; exact fun c a w h1 h2 h3 h4 => hP c a w h1 h2 h3 h4
       intro e g st a w hs h
       cases e with
       | normal => simp only [headK_eq] at h; exact (let ⟨g', hs'⟩ := hs.head (E.hint i); ih g' _ _ _ hs' h)
       | exit id => simp only [tailK_eq] at h; exact hK (.exit id) _ _ _ _ (hs.tail _) h
       | ret => exact hK .ret _ _ _ _ hs h
   obtain ⟨g', hs'⟩ := hs.head (E.hint i)
   exact wp_loop_rounds N (key N _ _ _ _ hs' h)
 | .exit id, i, k, r, Q, hK, hP, g, st, a, w, hs, h => wp_exit (hK (.exit id) _ _ _ _ hs h)
 | .ret, i, k, r, Q, hK, hP, g, st, a, w, hs, h => Go.wp_ret (hK .ret _ _ _ _ hs h)
 | .rangeFunc _ _ _ _, i, k, r, Q, hK, hP, g, st, a, w, hs, h => by cases h
 | .scope _, i, k, r, Q, hK, hP, g, st, a, w, hs, h => by cases h
 | .label _, i, k, r, Q, hK, hP, g, st, a, w, hs, h => by cases h
 | .goto _, i, k, r, Q, hK, hP, g, st, a, w, hs, h => by cases h
 | .refuse _, i, k, r, Q, hK, hP, g, st, a, w, hs, h => by cases h
end
end Go.Proofs.YtjiddcchklaiiaaGreatDoor


/- A function whose code the machine of values runs does what the machine computes. -/
namespace Go.Proofs.YtjiddcchklaiiaaGreatDoor
set_option linter.unusedVariables false
set_option linter.unusedSimpArgs false
open Go Go.RowKit
section
variable {P : Program} {df : List Deferred} {G : World → Prop} {B0 : Nat} {E : Env} {M : Nat → Nat → Prop} {M0 : Nat → Nat → Prop} {w0 : World} {gi g : Gh} {st : St} {a : Act} {w : World}
def resVals (P : Program) (w : World) (tmps : Array Value) : List ResultVar → List Value → Prop
 | [], vs => vs = []
 | .tmp t :: l, vs => ∃ vs', vs = tmps.getD t undef :: vs' ∧ resVals P w tmps l vs'
 | .cell x T :: l, vs => ∃ ad v vs', tmps.getD x undef = .pointer (some ad) ∧ (loadVar T ad).run P w = .ok v w ∧ vs = v :: vs' ∧ resVals P w tmps l vs'
theorem run_mapM_list {α β : Type} (f : α → Sem β) (w : World) (R : List α → List β → Prop) (h0 : R [] []) (hc : ∀ a l bs, R (a :: l) bs → ∃ b bs', bs = b :: bs' ∧ (f a).run P w = .ok b w ∧ R l bs') (hn : ∀ bs, R [] bs → bs = []) :
   ∀ (l : List α) (bs : List β), R l bs → (l.mapM f).run P w = .ok bs w
 | [], bs, h => by rw [hn bs h]; rfl
 | a :: l, bs, h => by
   obtain ⟨b, bs', rfl, h1, h2⟩ := hc _ _ _ h
   simp [List.mapM_cons, h1, run_mapM_list f w R h0 hc hn l bs' h2]
def resF (tmps : Array Value) : ResultVar → Sem Value
 | .tmp t => pure (tmps.getD t undef)
 | .cell a t => do loadVar t (← asAddr (tmps.getD a undef))
theorem results_eq (fn : Func) (tmps : Array Value) : results fn tmps = (fn.results.mapM (resF tmps) >>= fun vs => pure (if h : vs.size = 1 then vs[0] else .tuple vs)) := by
 unfold results
 congr 1
theorem run_results {fn : Func} {tmps : Array Value} {vs : List Value} (h : resVals P w tmps fn.results.toList vs) : (results fn tmps).run P w = .ok (if h : vs.length = 1 then vs[0] else .tuple vs.toArray) w := by
 have hm : (fn.results.toList.mapM (resF tmps)).run P w = .ok vs w := by
   refine run_mapM_list _ w (resVals P w tmps) rfl ?_ (fun bs h => h) _ _ h
   intro a l bs h
   cases a with
   | tmp t =>
     obtain ⟨vs', rfl, h2⟩ := h
     exact ⟨_, vs', rfl, rfl, h2⟩
   | cell x T =>
     obtain ⟨ad, v, vs', h1, h2, rfl, h3⟩ := h
     exact ⟨v, vs', rfl, by simp [resF, h1, asAddr, h2], h3⟩
 rw [results_eq, Array.mapM_eq_mapM_toList]
 have : ∀ (s : Sem (List Value)), s.run P w = .ok vs w → ((List.toArray <$> s : Sem (Array Value))).run P w = .ok vs.toArray w := fun s hs => by
   simp [hs]
 simp only [Sem.run_bind, this _ hm, Result.andThen_ok, Sem.run_pure]
 simp
theorem resDs_sound {R : Type} [BothC R] (hE : EnvOk P G B0 E) (hs : Sim df G B0 M0 w0 gi g st a w) : ∀ (l : List ResultVar) (ds0 : List D) {k : List D → Option R} {r : R}, resDs E st l ds0 k = some r →
   ∃ ds vs, k (ds0 ++ ds) = some r ∧ resVals P w a.tmps l vs ∧ All2 (RepD (Mof M0 g) w g) ds vs
 | [], ds0, k, r, h => ⟨[], [], by rw [List.append_nil]; exact h, rfl, trivial⟩
 | .tmp t :: l, ds0, k, r, h => by
   simp only [resDs, withD_eq] at h
   obtain ⟨ds, vs, h1, h2, h3⟩ := resDs_sound hE hs l _ h
   exact ⟨st.ev (.tmp t) :: ds, a.tmps.getD t undef :: vs, by rw [List.append_assoc] at h1; exact h1, ⟨vs, rfl, h2⟩, hs.ev (.tmp t), h3⟩
 | .cell x T :: l, ds0, k, r, h => by
   simp only [resDs, withD_eq] at h
   obtain ⟨d, ad, v, h0, e, hr, hrun⟩ := loadD_sound hE hs (hs.ev (.tmp x)) h
   obtain ⟨ds, vs, h1, h2, h3⟩ := resDs_sound hE hs l _ h0
   exact ⟨d :: ds, v :: vs, by rw [List.append_assoc] at h1; exact h1, ⟨ad, v, vs, e, hrun w (KeepR.of_ext (Ext.refl w)), rfl, h2⟩, hr, h3⟩
theorem upto_get : ∀ {n j : Nat}, j < n → (upto n)[j]? = some j
 | 0, _, h => by omega
 | n + 1, j, h => by
   have hl : ∀ n, (upto n).length = n := fun n => by induction n with
     | zero => rfl
     | succ n ih => simp [upto, ih]
   simp only [upto]
   by_cases hj : j < n
   · rw [List.getElem?_append_left (by rw [hl]; exact hj)]; exact upto_get hj
   · have : j = n := by omega
     subst this
     rw [List.getElem?_append_right (by rw [hl]; exact Nat.le_refl _), hl]; simp
theorem upto_nodup : ∀ n, (upto n).Nodup
 | 0 => by simp [upto]
 | n + 1 => by
   have hm : ∀ n x, x ∈ upto n → x < n := fun n => by induction n with
     | zero => intro x h; simp [upto] at h
     | succ n ih =>
       intro x h
       simp only [upto, List.mem_append, List.mem_singleton] at h
       rcases h with h | h
       · have := ih x h; omega
       · omega
   simp only [upto]
   rw [List.nodup_append]
   refine ⟨upto_nodup n, by simp, fun x hx y hy e => ?_⟩
   have := hm n x hx
   have h2 : y = n := by simpa using hy
   omega
theorem resD_end (hs : Sim df G B0 (fun b o => M b o ∧ ¬ Xof gi b) w0 gi g st a w) {fn : Func} {F : AF} {pack : SV F.rs → BV F.cs → F.R} (hpack : ∀ x y, F.out (pack x y) = (x, y)) (hdom : ∀ r x, gi r = some x → r < F.bs.length)
   (hM : ∀ b o, Mof (fun b o => M b o ∧ ¬ Xof gi b) gi b o ↔ M b o) {z : F.R} {ds : List D} {vs : List Value} (h1 : mtsK st F.rs ds (upto F.bs.length) [] (fun x ρ β => mbsK st F.cs 0 ρ β fun y ρ β =>
     match β.any (memN ρ), Nat.beq ρ.length F.cs.length with
     | false, true => some (pack x y)
     | _, _ => none) = some z) (hvals : resVals P w a.tmps fn.results.toList vs) (hds : All2 (RepD (Mof (fun b o => M b o ∧ ¬ Xof gi b) g) w g) ds vs) :
   (∃ x y, z = pack x y) ∧ ∃ vs' g', (results fn a.tmps).run P w = .ok (rets vs') w ∧ ExtX (Xof gi) w0 w ∧ Step M w0 (Mafter M gi g') w ∧ Frag B0 (Mafter M gi g') w g' F.rs F.cs (F.out z).1 (F.out z).2 vs' ∧
     (∀ r x, gi r = some x → (isBM x.v = true ∨ r = 0) → g' r = some x) ∧ ∀ b, Xof g' b → Xof gi b ∨ w0.heap.size ≤ b := by
 obtain ⟨x, ρ1, β1, h2, hp1, hn1, _, hx⟩ := mtsK_sound hs F.rs ds vs hds (upto_nodup _) h1
 obtain ⟨y, ρ, β, h3, hp2, hn2, hβ2, hy⟩ := mbsK_sound hs F.cs 0 hn1 h2
 split at h3
 · rename_i hβ hlen
   cases h3
   have hρl := Nat.eq_of_beq_eq_true hlen
   rw [hpack]
   have hβρ : ∀ r, r ∈ β → r ∉ ρ := fun r hr hr2 => List.any_eq_false.1 hβ r hr (memN_iff.2 hr2)
   have hg : ∀ {r x}, gsub g ρ r = some x → ∃ r', ρ[r]? = some r' ∧ g r' = some x := by
     intro r x h
     unfold gsub at h
     cases h1 : ρ[r]? with
     | none => rw [h1] at h; cases h
     | some r' => rw [h1] at h; exact ⟨r', rfl, h⟩
   have hin : ∀ r, r < F.bs.length → gsub g ρ r = g r := fun r hr => gsub_pre (hp1.trans hp2) (upto_get hr)
   have hsub : ∀ b o, Mafter M gi (gsub g ρ) b o → Mlend (fun b o => M b o ∧ ¬ Xof gi b) g β b o := by
     rintro b o (h | ⟨j, x, h4, h5, h6⟩)
     · exact ⟨.inl h, fun ⟨r, _, x, h4, h5⟩ => hs.m0x h h4 h5⟩
     · obtain ⟨r', e1, e2⟩ := hg h4
       refine ⟨.inr ⟨r', x, e2, h5, h6⟩, fun ⟨r, hr, x', h7, h8⟩ => ?_⟩
       have := hs.inj _ _ _ _ _ e2 h7 h5 h8
       subst this
       exact hβρ _ hr (List.mem_of_getElem? e1)
   have hst2 : Step (Mlend (fun b o => M b o ∧ ¬ Xof gi b) g β) w (Mafter M gi (gsub g ρ)) w := ⟨fun _ _ h hm => ⟨h, fun h' => hm (hsub _ _ h')⟩, fun _ _ _ h hm => ⟨h, fun h' => hm (hsub _ _ h')⟩⟩
   refine ⟨⟨_, _, rfl⟩, vs, gsub g ρ, ?_, hs.ext, ?_, ⟨?_, ?_, ?_, ?_, ?_, ?_, ?_, ?_⟩, ?_, ?_⟩
   · have := run_results hvals
     rw [this]; rfl
   · have h4 := hs.stp
     have e : Mof (fun b o => M b o ∧ ¬ Xof gi b) gi = M := funext fun b => funext fun o => propext (hM b o)
     rw [e] at h4
     exact h4.trans ((Mlend.step β).trans hst2)
   · exact (hx ρ β hp2 hβ2).mono fun _ _ h => RepD0.step hst2 h
   · intro r blk hblk
     obtain ⟨gx, h4, h5⟩ := hy ρ β (List.prefix_refl _) (fun _ h => h) r blk hblk
     rw [Nat.zero_add] at h4
     exact ⟨gx, h4, RepB.step hst2 (fun _ _ => rfl) h5⟩
   · intro r gx h
     obtain ⟨r', e1, _⟩ := hg h
     rw [← hρl]; exact (List.getElem?_eq_some_iff.1 e1).1
   · intro r r' x x' b h1 h2 h3 h4
     obtain ⟨q, e1, e2⟩ := hg h1
     obtain ⟨q', e3, e4⟩ := hg h2
     have := hs.inj _ _ _ _ _ e2 e4 h3 h4
     subst this
     exact (List.getElem?_inj (List.getElem?_eq_some_iff.1 e1).1 hn2).1 (e1.trans e3.symm)
   · intro r x b h1 h2
     obtain ⟨q, e1, e2⟩ := hg h1
     have := hs.low _ _ _ e2 h2
     exact ⟨this.1, this.2.1⟩
   · intro r x b o h1 h2
     obtain ⟨q, e1, e2⟩ := hg h1
     exact ⟨fun h => (hs.chg e2 h2).1 (hsub _ _ h).1, fun h => .inr ⟨r, x, h1, h2, h⟩⟩
   · exact fun b o h => hs.mlt (hsub _ _ h).1
   · intro r x b h1 h2
     obtain ⟨q, e1, e2⟩ := hg h1
     exact hs.row _ _ _ e2 h2
   · intro r x h1 h2
     rw [hin r (hdom r x h1)]; exact hs.pin r x h1 h2
   · rintro b ⟨r, x, h1, h2⟩
     obtain ⟨q, e1, e2⟩ := hg h1
     exact (hs.low _ _ _ e2 h2).2.2
 · cases h3
theorem resD_sound (hE : EnvOk P G B0 E) (hs : Sim df G B0 (fun b o => M b o ∧ ¬ Xof gi b) w0 gi g st a w) {fn : Func} {F : AF} {pack : SV F.rs → BV F.cs → F.R} (hpack : ∀ x y, F.out (pack x y) = (x, y)) (hdom : ∀ r x, gi r = some x → r < F.bs.length)
   (hM : ∀ b o, Mof (fun b o => M b o ∧ ¬ Xof gi b) gi b o ↔ M b o) {z : F.R} (h : resD E fn F pack st = some z) :
   (∃ x y, z = pack x y) ∧ ∃ vs' g', (results fn a.tmps).run P w = .ok (rets vs') w ∧ ExtX (Xof gi) w0 w ∧ Step M w0 (Mafter M gi g') w ∧ Frag B0 (Mafter M gi g') w g' F.rs F.cs (F.out z).1 (F.out z).2 vs' ∧
     (∀ r x, gi r = some x → (isBM x.v = true ∨ r = 0) → g' r = some x) ∧ ∀ b, Xof g' b → Xof gi b ∨ w0.heap.size ≤ b := by
 unfold resD at h
 obtain ⟨ds, vs, h1, hvals, hds⟩ := resDs_sound hE hs _ _ h
 rw [List.nil_append] at h1
 obtain ⟨g2, st2, hs2, h2, hd2⟩ := softArgsK_sound F.rs ds hs h1
 exact resD_end hs2 hpack hdom hM h2 hvals (hds.mono hd2)
theorem prms_get {M : Nat → Nat → Prop} : ∀ (l : List Sl) (i : Nat) (x : SV l) (vs : List Value), All2 (RepD0 M w g) (lays id l x) vs → ∀ t d, aget (start.prms l i x) t = some d → i ≤ t ∧ ∃ v, vs[t - i]? = some v ∧ RepD M w g d v
 | [], i, x, vs, _, t, d, h => by cases h
 | s :: l, i, x, [], ha, t, d, h => ha.elim
 | s :: l, i, x, v :: vs, ha, t, d, h => by
   have rest : ∀ {x : SV l}, All2 (RepD0 M w g) (lays id l x) vs → aget (start.prms l (i + 1) x) t = some d → i ≤ t ∧ ∃ v', (v :: vs)[t - i]? = some v' ∧ RepD M w g d v' := by
     intro x ha h
     obtain ⟨h1, v', h2, h3⟩ := prms_get l (i + 1) x vs ha t d h
     refine ⟨by omega, v', ?_, h3⟩
     rw [show t - i = (t - (i + 1)) + 1 by omega]; simpa using h2
   have cons : ∀ {d0 : D} {x : SV l}, RepD0 M w g d0 v → All2 (RepD0 M w g) (lays id l x) vs → aget ((i, d0) :: start.prms l (i + 1) x) t = some d → i ≤ t ∧ ∃ v', (v :: vs)[t - i]? = some v' ∧ RepD M w g d v' := by
     intro d0 x h0 ha hh
     rw [aget_cons] at hh
     split at hh
     · rename_i e
       have e2 := Nat.eq_of_beq_eq_true e
       have e3 : d0 = d := by simpa using hh
       rw [← e3]
       have e4 : i = t := e2
       exact ⟨Nat.le_of_eq e4, v, by rw [← e4]; simp, h0.toD⟩
     · exact rest ha hh
   cases s with
   | v ty =>
     cases ty with
     | ptr ty =>
       obtain ⟨ad, es, e, h1, h2⟩ := RepV.plain (t := .ptr ty) rfl ha.1
       simp only [List.cons.injEq, and_true] at e
       exact cons (d0 := .at_ ty x.1) ⟨ad, es, e, h1, h2⟩ ha.2 h
     | un => exact rest ha.2 h
     | _ => exact cons ha.1 ha.2 h
   | _ => exact cons ha.1 ha.2 h
theorem blks_get : ∀ (l : List Sb) (i : Nat) (y : BV l) (r : Nat) (blk : Blk), aget (start.blks l i y) r = some blk → i ≤ r ∧ blkAt id l y (r - i) = some blk
 | [], _, _, _, _, h => by cases h
 | s :: l, i, y, r, blk, h => by
   have rest : aget (start.blks l (i + 1) y.2) r = some blk → i ≤ r ∧ blkAt id (s :: l) y (r - i) = some blk := by
     intro h
     obtain ⟨h1, h2⟩ := blks_get l (i + 1) y.2 r blk h
     refine ⟨by omega, ?_⟩
     rw [show r - i = (r - (i + 1)) + 1 by omega]; exact h2
   unfold start.blks at h
   split at h
   · rename_i b hb
     rw [aget_cons] at h
     split at h
     · rename_i e
       have := Nat.eq_of_beq_eq_true e
       simp only at this
       subst this
       cases h
       exact ⟨Nat.le_refl _, by rw [Nat.sub_self]; exact hb⟩
     · exact rest h
   · exact rest h
theorem amap_id {l : List (Nat × D)} : amap id l = l := by
 induction l with
 | nil => rfl
 | cons p l ih => show (p.1, id p.2) :: amap id l = _; rw [ih]; rfl
theorem amapB_id {l : List (Nat × Blk)} : amap (Blk.lift id) l = l := by
 induction l with
 | nil => rfl
 | cons p l ih => show (p.1, Blk.lift id p.2) :: amap (Blk.lift id) l = _; rw [ih, blk_lift_id]
theorem runI_core (hE : EnvOk P G B0 E) {f : FuncId} {fn : Func} {c : Code} (hf : P.funcs[f]? = some fn) (hb : fn.body = some c)
   (F : AF) (I : BothC F.R) (pack : SV F.rs → BV F.cs → F.R) (hpack : ∀ x y, F.out (pack x y) = (x, y)) (N : Nat) {M : Nat → Nat → Prop} {w : World} {g : Gh} {vs : List Value} {x : SV F.ps} {y : BV F.bs} {z : F.R} (hG : G w) (hB : B0 ≤ w.heap.size) (hfr : Frag B0 M w g F.ps F.bs x y vs)
   (hrun : runDI E N fn F I pack x y = some z) {R : Ending → World → Prop}
   (hR : ∀ x1 y1 vs' g' w', z = pack x1 y1 → ExtX (Xof g) w w' → Step M w (Mafter M g g') w' → Frag B0 (Mafter M g g') w' g' F.rs F.cs (F.out z).1 (F.out z).2 vs' → (∀ r x, g r = some x → (isBM x.v = true ∨ r = 0) → g' r = some x) → (∀ b, Xof g' b → Xof g b ∨ w.heap.size ≤ b) → R (.returned (rets vs')) w')
   (hPn : ∀ c w', ExtX (Xof g) w w' → Step M w M w' → (∃ ρ st, I.pa c ρ st = some z) → R (.panicked (badC E.bad c)) w') : Calls P f vs.toArray w R := by
 refine calls_of_wp hf hb ?_
 unfold runDI at hrun
 rw [hb] at hrun
 split at hrun
 · rename_i c' hc' hps hbs
   cases hc'
   simp only [amapK_eq, amapBK_eq, amap_id, amapB_id] at hrun
   have hlen : vs.length = F.ps.length := by
     have := hfr.args.len
     rw [← this]
     have hl : ∀ (l : List Sl) (x : SV l), (lays id l x).length = l.length := fun l => by
       induction l with
       | nil => intro _; rfl
       | cons s l ih => intro x; show (lays id l x.2).length + 1 = _; rw [ih]; rfl
     exact hl _ _
   have hps' : vs.length ≤ fn.ntmps := by rw [hlen]; exact Nat.le_of_ble_eq_true hps
   have hbs' : F.bs.length ≤ 1000 := Nat.le_of_ble_eq_true hbs
   have hM : ∀ b o, Mof (fun b o => M b o ∧ ¬ Xof g b) g b o ↔ M b o := by
     intro b o
     constructor
     · rintro (h | ⟨r, x, h1, h2, h3⟩)
       · exact h.1
       · exact (hfr.chg _ _ _ _ h1 h2).2 h3
     · intro h
       by_cases hX : Xof g b
       · obtain ⟨r, x, h1, h2⟩ := hX
         exact .inr ⟨r, x, h1, h2, (hfr.chg _ _ _ _ h1 h2).1 h⟩
       · exact .inl ⟨h, hX⟩
   have eM : Mof (fun b o => M b o ∧ ¬ Xof g b) g = M := funext fun b => funext fun o => propext (hM b o)
   have hsim : Sim [] G B0 (fun b o => M b o ∧ ¬ Xof g b) w g g (start fn F.ps F.bs x y) { tmps := vs.toArray ++ Array.replicate (fn.ntmps - vs.toArray.size) undef, defers := [] } w := by
     refine { defers := rfl, sz := ?_, fr := ?_, inb := ?_, hp := ?_, low := ?_, inj := hfr.inj, row := hfr.row, m0 := fun b o h => ⟨hfr.mlt _ _ h.1, h.2⟩, pin := fun _ _ h _ => h, gin := fun r x h _ => Nat.lt_of_lt_of_le (hfr.dom r x h) hbs', gil := fun b ⟨r, x, h1, h2⟩ => (hfr.low _ _ _ h1 h2).1, ext := ExtX.refl _ _, stp := Step.refl _ _, gg := hG, b0 := hB }
     · show (vs.toArray ++ Array.replicate (fn.ntmps - vs.toArray.size) undef).size = fn.ntmps
       simp; omega
     · intro t d h
       rw [eM]
       obtain ⟨_, v, h1, h2⟩ := prms_get F.ps 0 x vs hfr.args t d h
       rw [Nat.sub_zero] at h1
       have hlt := (List.getElem?_eq_some_iff.1 h1).1
       have : (vs.toArray ++ Array.replicate (fn.ntmps - vs.toArray.size) undef).getD t undef = v := by
         rw [Array.getD_eq_getD_getElem?, Array.getElem?_append_left (by simpa using hlt), List.getElem?_toArray, h1]; rfl
       show RepD M w g d ((vs.toArray ++ Array.replicate (fn.ntmps - vs.toArray.size) undef).getD t undef)
       rw [this]; exact h2
     · intro t d h
       obtain ⟨_, v, h1, _⟩ := prms_get F.ps 0 x vs hfr.args t d h
       rw [Nat.sub_zero] at h1
       have hlt := (List.getElem?_eq_some_iff.1 h1).1
       show t < fn.ntmps
       omega
     · intro r blk h
       rw [eM]
       obtain ⟨_, h1⟩ := blks_get F.bs 0 y r blk h
       rw [Nat.sub_zero] at h1
       exact hfr.res r blk h1
     · exact fun r x b h1 h2 => ⟨(hfr.low _ _ _ h1 h2).1, (hfr.low _ _ _ h1 h2).2, .inl ⟨r, x, h1, h2⟩⟩
   refine @exec_sound _ _ _ _ _ _ _ _ F.R I hE N c 0 _ z _ ?_ ?_ _ _ _ _ hsim hrun
   · intro e g' st a w' hs h
     have fin : resD E fn F pack st = some z → a.defers = [] ∧ ∃ v, (results fn a.tmps).run P w' = .ok v w' ∧ R (.returned v) w' := by
       intro h
       obtain ⟨⟨x1, y1, hpk⟩, vs', g'', h1, h2, h3, h4, h5, h6⟩ := resD_sound hE hs hpack hfr.dom hM h
       exact ⟨hs.defers, _, h1, hR x1 y1 vs' g'' w' hpk h2 h3 h4 h5 h6⟩
     cases e with
     | normal => exact fin h
     | ret => exact fin h
     | exit id => cases h
   · intro c a w' h1 h2 h3 h4
     exact ⟨h1, hPn c w' h2 (by rw [eM] at h3; exact h3) h4⟩
 · cases hrun

theorem runD_sound (hE : EnvOk P G B0 E) {f : FuncId} {fn : Func} {c : Code} (hf : P.funcs[f]? = some fn) (hb : fn.body = some c) (hcall : ∀ (args : Array Value) (w : World), (callFunc f args).run P w = .ok (.enter f args) w)
   (F : AF) (pack : SV F.rs → BV F.cs → F.R) (hpack : ∀ x y, F.out (pack x y) = (x, y)) (N : Nat) (hrunD : ∀ x y z, F.f x y = some z → runD E N fn F pack x y = some z) (hkp : keptF F.bs F.cs = false := by rfl) : Sound P G B0 f F := by
 refine ⟨hcall, fun M w g vs x y z hG hB hfr hrun => ?_⟩
 refine runI_core hE hf hb F (bothClassic F.R) pack hpack N hG hB hfr (hrunD x y z hrun) ?_ ?_
 · intro x1 y1 vs' g'' w' _ h2 h3 h4 h5 h6
   exact ⟨vs', g'', rfl, h2, h3, h4, fun r x e1 e2 => h5 r x e1 (e2.imp id And.left), h6⟩
 · intro c w' _ _ ⟨_, _, h⟩; cases h
def RC.dflt : (i : RC) → i.den
 | .value => .mk 0 [] 0 [] []
 | .expr => .mk 0 [] 0 [] []
 | .stmt => .mk 0 [] [] [] [] (.mk 0 [] 0 [] []) [] [] 0
 | .part => .mk 0 [] 0 [] 0 []
def Ty.dflt : (t : Ty) → t.den
 | .u8 => (0 : UInt8)
 | .int _ => (0 : Int)
 | .bool => false
 | .str => ([] : List UInt8)
 | .sl _ => []
 | .pr a b => (a.dflt, b.dflt)
 | .un => ()
 | .mp _ => []
 | .ptr t => t.dflt
 | .np _ => none
 | .nl => ()
 | .clo _ t => t.dflt
 | .rc i => i.dflt
def Sl.dflt : (s : Sl) → s.den
 | .v t => t.dflt
 | .at_ t => t.dflt
 | .dead => ()
 | .skip => ()
 | .nilS => ()
 | .nilP => ()
 | .row _ => ()
 | .box _ _ => ()
 | .mref _ => ()
 | .fnc _ _ => ()
def SV.dflt : (l : List Sl) → SV l
 | [] => ()
 | s :: l => (s.dflt, SV.dflt l)
def Sb.dflt : (s : Sb) → s.den
 | .none => ()
 | .cells l => SV.dflt l
 | .map _ => []
 | .row _ _ _ => []
 | .iter _ => []
 | .que _ _ => []
 | .bld _ l => SV.dflt l
def BV.dflt : (l : List Sb) → BV l
 | [] => ()
 | s :: l => (s.dflt, BV.dflt l)
@[reducible] def PF.tf (p : PF) : AF := { ps := p.ps, bs := p.bs, rs := p.rs, cs := p.cs, R := Except Int p.R, out := fun z => match z with | .ok z => p.out z | .error _ => (SV.dflt p.rs, BV.dflt p.cs), f := p.f }
@[reducible] noncomputable def runP (E : Env) (N : Nat) (fn : Func) (p : PF) (pack : SV p.rs → BV p.cs → p.R) (x : SV p.ps) (y : BV p.bs) : Option (Except Int p.R) := runDI E N fn p.tf (bothPan p.R) (fun x y => .ok (pack x y)) x y
end
end Go.Proofs.YtjiddcchklaiiaaGreatDoor


/- Loops of the machine of values, each by a plain function: what stands at a loop's head is read by a shape. -/
namespace Go.Proofs.YtjiddcchklaiiaaGreatDoor
set_option linter.unusedVariables false
set_option linter.unusedSimpArgs false
set_option linter.unusedSectionVars false
open Go Go.RowKit
def cAt : Code → List Bool → Code
 | c, [] => c
 | .seq a _, false :: p => cAt a p
 | .seq _ b, true :: p => cAt b p
 | .cond _ a _, false :: p => cAt a p
 | .cond _ _ b, true :: p => cAt b p
 | .block _ c, _ :: p => cAt c p
 | .loop c, _ :: p => cAt c p
 | c, _ => c
def bodyOf (f : Func) : Code := match f.body with
 | some c => c
 | none => .skip
def un1 : (s : Sl) → s.den → D
 | .dead, _ => .dead
 | .skip, _ => .skip
 | .nilS, _ => .nilS
 | .nilP, _ => .nilP
 | .v t, x => .v t x
 | .at_ t, x => .at_ t x
 | .row r, _ => .row r
 | .mref r, _ => .mref r
 | .box r o, _ => .box r o
 | .fnc f l, _ => .fnc f l
def pr1 : (s : Sl) → D → Option s.den
 | .v t, d => match d with
   | .v t' x => if h : t' = t then some (h ▸ x) else none
   | _ => none
 | .at_ t, d => match d with
   | .at_ t' x => if h : t' = t then some (h ▸ x) else none
   | _ => none
 | .dead, d => match d with
   | .dead => some ()
   | _ => none
 | .skip, d => match d with
   | .skip => some ()
   | _ => none
 | .nilS, d => match d with
   | .nilS => some ()
   | _ => none
 | .nilP, d => match d with
   | .nilP => some ()
   | _ => none
 | .row r, d => match d with
   | .row r' => if r' = r then some () else none
   | _ => none
 | .box r o, d => match d with
   | .box r' o' => if r' = r then (if o' = o then some () else none) else none
   | _ => none
 | .mref r, d => match d with
   | .mref r' => if r' = r then some () else none
   | _ => none
 | .fnc f l, d => match d with
   | .fnc f' l' => if f' = f then (if l' = l then some () else none) else none
   | _ => none
theorem pr1_un (s : Sl) (d : D) (x : s.den) (h : pr1 s d = some x) : un1 s x = d := by
 cases s <;> cases d <;> simp only [pr1, reduceCtorEq] at h <;>
   (repeat' (split at h)) <;> first | (subst_vars; cases h; rfl) | cases h
def unL : (l : List Sl) → SV l → List D
 | [], _ => []
 | s :: l, x => un1 s x.1 :: unL l x.2
noncomputable def prL (l : List Sl) : List D → Option (SV l) :=
 List.rec (motive := fun l => List D → Option (SV l))
   (fun ds => match ds with | [] => some () | _ :: _ => none)
   (fun s _ ih ds => match ds with
     | d :: ds => match pr1 s d with
       | some x => match ih ds with
         | some y => some (x, y)
         | none => none
       | none => none
     | [] => none) l
theorem prL_un : ∀ (l : List Sl) (ds : List D) (x : SV l), prL l ds = some x → unL l x = ds
 | [], [], _, _ => rfl
 | [], _ :: _, _, h => by cases h
 | _ :: _, [], _, h => by cases h
 | s :: l, d :: ds, x, h => by
   change (match pr1 s d with
       | some x => match prL l ds with
         | some y => some (x, y)
         | none => none
       | none => none) = some x at h
   split at h
   · rename_i a ha
     split at h
     · rename_i b hb
       cases h
       show un1 s a :: unL l b = _
       rw [pr1_un s d a ha, prL_un l ds b hb]
     · cases h
   · cases h
@[reducible] def FV : List (Nat × Sl) → Type
 | [] => Unit
 | s :: l => s.2.den × FV l
def unF : (l : List (Nat × Sl)) → FV l → List (Nat × D)
 | [], _ => []
 | s :: l, x => (s.1, un1 s.2 x.1) :: unF l x.2
noncomputable def prF (l : List (Nat × Sl)) : List (Nat × D) → Option (FV l) :=
 List.rec (motive := fun l => List (Nat × D) → Option (FV l))
   (fun ds => match ds with | [] => some () | _ :: _ => none)
   (fun s _ ih ds => match ds with
     | d :: ds => match Nat.beq d.1 s.1, pr1 s.2 d.2 with
       | true, some x => match ih ds with
         | some y => some (x, y)
         | none => none
       | _, _ => none
     | [] => none) l
theorem prF_un : ∀ (l : List (Nat × Sl)) (ds : List (Nat × D)) (x : FV l), prF l ds = some x → unF l x = ds
 | [], [], _, _ => rfl
 | [], _ :: _, _, h => by cases h
 | _ :: _, [], _, h => by cases h
 | s :: l, d :: ds, x, h => by
   change (match Nat.beq d.1 s.1, pr1 s.2 d.2 with
       | true, some x => match prF l ds with
         | some y => some (x, y)
         | none => none
       | _, _ => none) = some x at h
   split at h
   · rename_i a he ha
     split at h
     · rename_i b hb
       cases h
       show (s.1, un1 s.2 a) :: unF l b = _
       rw [pr1_un s.2 d.2 a ha, prF_un l ds b hb, ← Nat.eq_of_beq_eq_true he]
     · cases h
   · cases h
def un2 : (s : Sb) → s.den → Blk
 | .none, _ => .cells []
 | .cells l, x => .cells (unL l x)
 | .map e, x => .map e x
 | .row e t ex, x => .row e t ex x
 | .iter e, x => .iter e x none
 | .que e t, x => .que e t x
 | .bld T l, x => .bld T (unL l x)
noncomputable def pr2 : (s : Sb) → Blk → Option s.den
 | .none, _ => none
 | .cells l, b => match b with
   | .cells ds => prL l ds
   | _ => none
 | .map e, b => match b with
   | .map e' m => if h : e' = e then some (h ▸ m) else none
   | _ => none
 | .row e t ex, b => match b with
   | .row e' t' ex' xs => if h : t' = t then (if e' = e then (if ex' = ex then some (h ▸ xs) else none) else none) else none
   | _ => none
 | .iter e, b => match b with
   | .iter e' m none => if h : e' = e then some (h ▸ m) else none
   | _ => none
 | .que e t, b => match b with
   | .que e' t' xs => if h : t' = t then (if e' = e then some (h ▸ xs) else none) else none
   | _ => none
 | .bld T l, b => match b with
   | .bld T' ds => if T' = T then prL l ds else none
   | _ => none
theorem pr2_un (s : Sb) (b : Blk) (x : s.den) (h : pr2 s b = some x) : un2 s x = b := by
 cases s with
 | none => cases h
 | cells l => cases b with
   | cells ds => show Blk.cells (unL l x) = _; rw [prL_un l ds x h]
   | map e m => cases h
   | row => cases h
   | iter => cases h
   | que => cases h
   | bld => cases h
 | bld T l => cases b with
   | bld T' ds =>
     simp only [pr2] at h
     split at h
     · subst_vars; show Blk.bld _ (unL l x) = _; rw [prL_un l ds x h]
     · cases h
   | cells ds => cases h
   | map e m => cases h
   | row => cases h
   | iter => cases h
   | que => cases h
 | map e => cases b with
   | cells ds => cases h
   | bld => cases h
   | map e' m =>
     simp only [pr2] at h
     split at h
     · subst_vars; cases h; rfl
     · cases h
   | row => cases h
   | iter => cases h
   | que => cases h
 | iter e => cases b with
   | cells ds => cases h
   | bld => cases h
   | map => cases h
   | row => cases h
   | que => cases h
   | iter e' m c =>
     cases c with
     | some p => cases h
     | none =>
       simp only [pr2] at h
       split at h
       · subst_vars; cases h; rfl
       · cases h
 | row e t ex => cases b with
   | cells ds => cases h
   | bld => cases h
   | map e' m => cases h
   | iter => cases h
   | que => cases h
   | row e' t' ex' xs =>
     simp only [pr2] at h
     split at h
     · split at h
       · split at h
         · subst_vars; cases h; rfl
         · cases h
       · cases h
     · cases h
 | que e t => cases b with
   | cells ds => cases h
   | bld => cases h
   | map e' m => cases h
   | row => cases h
   | iter => cases h
   | que e' t' xs =>
     simp only [pr2] at h
     split at h
     · split at h
       · subst_vars; cases h; rfl
       · cases h
     · cases h
@[reducible] def HV : List (Nat × Sb) → Type
 | [] => Unit
 | s :: l => s.2.den × HV l
def unH : (l : List (Nat × Sb)) → HV l → List (Nat × Blk)
 | [], _ => []
 | s :: l, x => (s.1, un2 s.2 x.1) :: unH l x.2
noncomputable def prH (l : List (Nat × Sb)) : List (Nat × Blk) → Option (HV l) :=
 List.rec (motive := fun l => List (Nat × Blk) → Option (HV l))
   (fun ds => match ds with | [] => some () | _ :: _ => none)
   (fun s _ ih ds => match ds with
     | d :: ds => match Nat.beq d.1 s.1, pr2 s.2 d.2 with
       | true, some x => match ih ds with
         | some y => some (x, y)
         | none => none
       | _, _ => none
     | [] => none) l
theorem prH_un : ∀ (l : List (Nat × Sb)) (ds : List (Nat × Blk)) (x : HV l), prH l ds = some x → unH l x = ds
 | [], [], _, _ => rfl
 | [], _ :: _, _, h => by cases h
 | _ :: _, [], _, h => by cases h
 | s :: l, d :: ds, x, h => by
   change (match Nat.beq d.1 s.1, pr2 s.2 d.2 with
       | true, some x => match prH l ds with
         | some y => some (x, y)
         | none => none
       | _, _ => none) = some x at h
   split at h
   · rename_i a he ha
     split at h
     · rename_i b hb
       cases h
       show (s.1, un2 s.2 a) :: unH l b = _
       rw [pr2_un s.2 d.2 a ha, prH_un l ds b hb, ← Nat.eq_of_beq_eq_true he]
     · cases h
   · cases h
section
variable {R : Type} [BothC R]
noncomputable def LPc (n0 : Nat) (fs : List (Nat × Sl)) (bs : List (Nat × Sb)) (F : FV fs → HV bs → (Ex → St → Option R) → Option R) (G : St → (Ex → St → Option R) → Option R) (st : St) (k : Ex → St → Option R) : Option R :=
 match st with
 | ⟨n, fr, hp⟩ => match Nat.beq n n0 with
   | true => match prF fs fr with
     | some x => match prH bs hp with
       | some y => F x y k
       | none => G st k
     | none => G st k
   | false => G st k
theorem LPc_eq (n0 : Nat) (fs : List (Nat × Sl)) (bs : List (Nat × Sb)) (F : FV fs → HV bs → (Ex → St → Option R) → Option R) (G : St → (Ex → St → Option R) → Option R) (KR : St → Option R)
   (h : ∀ x y k, (∀ st, k .ret st = KR st) → G ⟨n0, unF fs x, unH bs y⟩ k = F x y k) (G' : St → (Ex → St → Option R) → Option R) (st : St) (k : Ex → St → Option R) (hk : ∀ st, k .ret st = KR st) (hG : G' st k = G st k) : LPc n0 fs bs F G' st k = G st k := by
 obtain ⟨n, fr, hp⟩ := st
 unfold LPc
 dsimp only
 split
 · rename_i hn
   have := Nat.eq_of_beq_eq_true hn
   subst this
   split
   · rename_i x hx
     split
     · rename_i y hy
       rw [← h x y k hk, prF_un fs fr x hx, prH_un bs hp y hy]
     · exact hG
   · exact hG
 · exact hG
noncomputable def execL (LP : Nat → Code → St → (Ex → St → Option R) → Option R) (E : Env) (c : Code) : Nat → St → (Ex → St → Option R) → Option R :=
 Code.rec (motive := fun _ => Nat → St → (Ex → St → Option R) → Option R)
   (fun _ st k => k .normal st)
   (fun id ops draw _ st k => match E.jn id with
     | some t => joinD E ops draw t st (k .normal)
     | none => regD E id ops draw st (k .normal))
   (fun _ _ iha ihb i st k => iha i st fun e st => match e with
     | .normal => ihb i st k
     | .exit j => k (.exit j) st
     | .ret => k .ret st)
   (fun c _ _ iht ihe i st k => match st.ev c with
     | .v .bool b => match E.kn with
       | false => br b (iht i st k) (ihe i st k)
       | true => br b (st.knowK c true fun st => iht i st k) (st.knowK c false fun st => ihe i st k)
     | .bl true => iht i st k
     | .bl false => ihe i st k
     | _ => none)
   (fun id _ ih _ st k => ih id st fun e st => match e with
     | .normal => k .normal st
     | .exit j => if j = id then k .normal st else k (.exit j) st
     | .ret => k .ret st)
   (fun c _ i st k => st.headK (E.hint i) fun st => LP i c st k)
   (fun _ _ _ _ _ _ _ _ _ => none)
   (fun id _ st k => k (.exit id) st)
   (fun _ _ _ _ _ => none)
   (fun _ _ _ _ => none)
   (fun _ _ _ _ => none)
   (fun _ st k => k .ret st)
   (fun _ _ _ _ => none) c
noncomputable def loops (c : Code) : Nat → List (Nat × Code) :=
 Code.rec (motive := fun _ => Nat → List (Nat × Code)) (fun _ => []) (fun _ _ _ _ => []) (fun _ _ a b i => a i ++ b i) (fun _ _ _ a b i => a i ++ b i)
   (fun id _ a _ => a id) (fun c a i => (i, c) :: a i) (fun _ _ _ _ _ _ _ => []) (fun _ _ => []) (fun _ _ _ => []) (fun _ _ => []) (fun _ _ => []) (fun _ => []) (fun _ _ => []) c
def LoopsOk (LP : Nat → Code → St → (Ex → St → Option R) → Option R) (E : Env) (N : Nat) (KR : St → Option R) : List (Nat × Code) → Prop
 | [] => True
 | p :: l => (∀ st k, (∀ st, k .ret st = KR st) → LP p.1 p.2 st k = iter (E.hint p.1) (exec E N p.2 p.1) N st k) ∧ LoopsOk LP E N KR l
theorem LoopsOk.left {LP : Nat → Code → St → (Ex → St → Option R) → Option R} {E : Env} {N : Nat} {KR : St → Option R} : ∀ {l l' : List (Nat × Code)}, LoopsOk LP E N KR (l ++ l') → LoopsOk LP E N KR l
 | [], _, _ => trivial
 | _ :: _, _, h => ⟨h.1, LoopsOk.left h.2⟩
theorem LoopsOk.right {LP : Nat → Code → St → (Ex → St → Option R) → Option R} {E : Env} {N : Nat} {KR : St → Option R} : ∀ {l l' : List (Nat × Code)}, LoopsOk LP E N KR (l ++ l') → LoopsOk LP E N KR l'
 | [], _, h => h
 | _ :: l, _, h => LoopsOk.right (l := l) h.2
theorem execL_eq (LP : Nat → Code → St → (Ex → St → Option R) → Option R) (E : Env) (N : Nat) (KR : St → Option R) (c : Code) : ∀ (i : Nat), LoopsOk LP E N KR (loops c i) →
   ∀ (st : St) (k : Ex → St → Option R), (∀ st, k .ret st = KR st) → execL LP E c i st k = exec E N c i st k := by
 induction c with
 | seq a b iha ihb =>
   intro i h st k hk
   show execL LP E a i st _ = exec E N a i st _
   have e : (fun e st => match e with | .normal => execL LP E b i st k | .exit j => k (.exit j) st | .ret => k .ret st : Ex → St → Option R) = (fun e st => match e with | .normal => exec E N b i st k | .exit j => k (.exit j) st | .ret => k .ret st) := by
     funext e st
     cases e with
     | normal => exact ihb i (LoopsOk.right (l := loops a i) h) st k hk
     | exit j => rfl
     | ret => rfl
   exact (congrArg (execL LP E a i st) e).trans (iha i (LoopsOk.left h) st _ hk)
 | cond o a b iha ihb =>
   intro i h st k hk
   have e1 : ∀ st, execL LP E a i st k = exec E N a i st k := fun st => iha i (LoopsOk.left h) st k hk
   have e2 : ∀ st, execL LP E b i st k = exec E N b i st k := fun st => ihb i (LoopsOk.right (l := loops a i) h) st k hk
   show (match st.ev o with
     | .v .bool c => match E.kn with
       | false => br c (execL LP E a i st k) (execL LP E b i st k)
       | true => br c (st.knowK o true fun st => execL LP E a i st k) (st.knowK o false fun st => execL LP E b i st k)
     | .bl true => execL LP E a i st k
     | .bl false => execL LP E b i st k
     | _ => none) = (match st.ev o with
     | .v .bool c => match E.kn with
       | false => br c (exec E N a i st k) (exec E N b i st k)
       | true => br c (st.knowK o true fun st => exec E N a i st k) (st.knowK o false fun st => exec E N b i st k)
     | .bl true => exec E N a i st k
     | .bl false => exec E N b i st k
     | _ => none)
   simp only [e1, e2]
 | block id c ih =>
   intro i h st k hk
   exact ih id h st _ hk
 | loop c ih =>
   intro i h st k hk
   show st.headK (E.hint i) (fun st => LP i c st k) = st.headK (E.hint i) (fun st => iter (E.hint i) (exec E N c i) N st k)
   rw [headK_eq, headK_eq]
   exact h.1 _ k hk
 | _ => intros; rfl
noncomputable def roundK (h : Hint) (I : St → Option R) (KX : Nat → St → Option R) (KR : St → Option R) : Ex → St → Option R := fun e st => match e with
 | .normal => st.headK h I
 | .exit j => st.tailK h (KX j)
 | .ret => KR st
theorem iter_link {S : Type} (h : Hint) (b b' : St → (Ex → St → Option R) → Option R) (KR : St → Option R) (hb : ∀ st k, (∀ st, k .ret st = KR st) → b' st k = b st k) (HD : S → St) (k : Ex → St → Option R)
   (hk : ∀ st, k .ret st = KR st) (T : (S → Option R) → S → Option R) (L : Nat → S → Option R) (h0 : ∀ s, L 0 s = none) (hs : ∀ n s, L (n + 1) s = T (L n) s)
   (step : ∀ I s, b' (HD s) (roundK h I (fun j => k (.exit j)) KR) = T (fun s => I (HD s)) s) : ∀ n s, iter h b n (HD s) k = L n s := by
 intro n
 induction n with
 | zero => intro s; rw [h0]; rfl
 | succ n ih =>
   intro s
   have e : (fun e st => match e with | .normal => st.headK h fun st => iter h b n st k | .exit j => st.tailK h (k (.exit j)) | .ret => k .ret st : Ex → St → Option R) = roundK h (fun st => iter h b n st k) (fun j => k (.exit j)) KR := by
     funext e st
     cases e with
     | normal => rfl
     | exit j => rfl
     | ret => exact hk st
   have e2 : (fun s => iter h b n (HD s) k) = L n := funext ih
   exact (congrArg (b (HD s)) e).trans ((hb _ _ fun _ => rfl).symm.trans ((step _ s).trans ((congrArg (fun f => T f s) e2).trans (hs n s).symm)))
end
noncomputable def runL (E : Env) (f : Func) (F : AF) [BothC F.R] (pack : SV F.rs → BV F.cs → F.R) (LP : Nat → Code → St → (Ex → St → Option F.R) → Option F.R) (x : SV F.ps) (y : BV F.bs) : Option F.R :=
 match f.body, Nat.ble F.ps.length f.ntmps, Nat.ble F.bs.length 1000 with
 | some c, true, true => amapK id (start f F.ps F.bs x y).fr fun fr => amapBK id (start f F.ps F.bs x y).hp fun hp => execL LP E c 0 ⟨f.ntmps, fr, hp⟩ fun e st => match e with
   | .exit _ => none
   | .normal => resD E f F pack st
   | .ret => resD E f F pack st
 | _, _, _ => none
theorem runL_eq (E : Env) (N : Nat) (f : Func) (F : AF) [I : BothC F.R] (pack : SV F.rs → BV F.cs → F.R) (LP : Nat → Code → St → (Ex → St → Option F.R) → Option F.R) (h : LoopsOk LP E N (resD E f F pack) (loops (bodyOf f) 0)) (x : SV F.ps) (y : BV F.bs) :
   runDI E N f F I pack x y = runL E f F pack LP x y := by
 unfold runDI runL
 unfold bodyOf at h
 cases hb : f.body with
 | none => rfl
 | some c =>
   rw [hb] at h
   cases Nat.ble F.ps.length f.ntmps <;> cases Nat.ble F.bs.length 1000 <;> first | rfl | skip
   simp only [amapK_eq, amapBK_eq]
   exact (execL_eq LP E N (resD E f F pack) c 0 h _ _ fun _ => rfl).symm
end Go.Proofs.YtjiddcchklaiiaaGreatDoor


/- The package variables that are read on the way. -/
namespace Go.Proofs.YtjiddcchklaiiaaGreatDoor
set_option linter.unusedVariables false
set_option linter.unusedSimpArgs false
open Go Go.RowKit
def GW (w : World) : Prop := ∃ m : Int, w.cell? ⟨0, 0, none⟩ = some (.int .i64 m)
def B0G : Nat := 0 + 1
theorem GW_stable (w w' : World) (X : Nat → Prop) (h : GW w) (hX : ExtX X w w') (hB : ∀ b, X b → B0G ≤ b) : GW w' := by
 obtain ⟨m, h⟩ := h
 refine ⟨m, ?_⟩
 have hlt := World.block_lt_of_cell? w _ h
 rw [cell_of_block (hX.block _ hlt fun hx => absurd (hB _ hx) (by unfold B0G; exact Nat.not_succ_le_self _))]
 exact h
theorem GW_size {w : World} (h : GW w) : B0G ≤ w.heap.size := by
 obtain ⟨m, h⟩ := h
 exact World.block_lt_of_cell? w _ h
theorem GW.len {w : World} (h : GW w) : ∃ m : Int, w.cell? ⟨0, 0, none⟩ = some (.int .i64 m) := h
end Go.Proofs.YtjiddcchklaiiaaGreatDoor


/- The package variable that is read on the way, and shared words. -/
namespace Go.Proofs.YtjiddcchklaiiaaGreatDoor
set_option linter.unusedVariables false
set_option linter.unusedSimpArgs false
open Go Go.RowKit
abbrev Str := List UInt8
theorem Sound.never {P : Program} {G : World → Prop} {B0 : Nat} {f : FuncId} {F : AF} (hcall : ∀ (args : Array Value) (w : World), (callFunc f args).run P w = .ok (.enter f args) w) (h : ∀ x y, F.f x y = none) : Sound P G B0 f F :=
 ⟨hcall, fun _ _ _ _ x y _ _ _ _ h' => by rw [h x y] at h'; cases h'⟩
theorem SoundP.never {P : Program} {G : World → Prop} {B0 : Nat} {T : TypeId} {f : FuncId} {F : PF} (hcall : ∀ (args : Array Value) (w : World), (callFunc f args).run P w = .ok (.enter f args) w) (h : ∀ x y, F.f x y = none) : SoundP P G B0 T f F :=
 ⟨hcall, fun _ _ _ _ x y _ _ _ => ⟨fun z h' => (by rw [h x y] at h'; cases h'), fun c h' => (by rw [h x y] at h'; cases h')⟩⟩
theorem Sound.congr {P : Program} {G : World → Prop} {B0 : Nat} {f : FuncId} {ps bs rs cs} {R : Type} [BothC R] {out : R → SV rs × BV cs} {F F' : SV ps → BV bs → Option R} (h : Sound P G B0 f ⟨ps, bs, rs, cs, R, out, F⟩) (e : ∀ x y, F x y = F' x y) : Sound P G B0 f ⟨ps, bs, rs, cs, R, out, F'⟩ := by
 have : F = F' := funext fun x => funext fun y => e x y
 rw [← this]; exact h
end Go.Proofs.YtjiddcchklaiiaaGreatDoor


/- More words for memory: a slice whose elements are read by a relation; making room. No program is in sight here. -/
namespace Go.Proofs.YtjiddcchklaiiaaGreatDoor
open Go Go.RowKit
def Stop (p : Prop) : Prop := p
def SL {α : Type} (w : World) (sz : Nat) (R : List Value → α → Prop) (v : Value) (L : List α) : Prop :=
 ∃ A c, v = .slice A L.length c ∧ L.length ≤ c ∧ c ≤ maxLen ∧ ∀ i (h : i < L.length), ∃ ad vs, A = some ad ∧ vs.length = sz ∧ R vs L[i] ∧ ∀ j u, vs[j]? = some u → w.cell? (ad.add (i * sz + j)) = some u
theorem SL.ext {α : Type} {w w' : World} {sz : Nat} {R R' : List Value → α → Prop} {v : Value} {L : List α} (h : SL w sz R v L) (hE : Ext w w') (hR : ∀ vs x, R vs x → R' vs x) : SL w' sz R' v L := by
 obtain ⟨A, c, e, h1, h2, hr⟩ := h
 refine ⟨A, c, e, h1, h2, fun i hi => ?_⟩
 obtain ⟨ad, vs, a1, a2, a3, a4⟩ := hr i hi
 exact ⟨ad, vs, a1, a2, hR _ _ a3, fun j u hu => hE.cell (a4 j u hu)⟩
theorem SL.nil {α : Type} (w : World) (sz : Nat) (R : List Value → α → Prop) : SL w sz R (.slice none 0 0) [] := ⟨none, 0, rfl, Nat.le_refl _, Nat.zero_le _, fun i h => absurd h (by simp)⟩
def BsE (w : World) (vs : List Value) (l : List UInt8) : Prop := ∃ v, vs = [v] ∧ Bs w v l
theorem BsE.ext {w w' : World} {vs : List Value} {l : List UInt8} (h : BsE w vs l) (hE : Ext w w') : BsE w' vs l := let ⟨v, e, h⟩ := h; ⟨v, e, h.ext hE⟩
def BBs (w : World) (v : Value) (L : List (List UInt8)) : Prop := SL w 1 (BsE w) v L
theorem BBs.ext {w w' : World} {v : Value} {L : List (List UInt8)} (h : BBs w v L) (hE : Ext w w') : BBs w' v L := SL.ext h hE fun _ _ h => h.ext hE
theorem SL.of_own {α : Type} {w : World} {base : Nat} {e : TypeId} {v : Value} {xs : List Value} {R : List Value → α → Prop} {L : List α} (h : w.ownsRow base e 1 v L.length xs) (hR : ∀ i (h : i < L.length) u, xs[i]? = some u → R [u] L[i]) : SL w 1 R v L := by
 have hn : xs.length = L.length := by have := h.1; omega
 obtain ⟨A, c, rfl, h1, h2, hr⟩ := Row.of_own' h
 refine ⟨A, c, rfl, h1, h2, fun i hi => ?_⟩
 obtain ⟨ad, rfl, hc⟩ := hr.at_ (List.getElem?_eq_getElem (show i < xs.length by omega))
 refine ⟨ad, [xs[i]'(by omega)], rfl, rfl, hR i hi _ (List.getElem?_eq_getElem _), fun j u hu => ?_⟩
 match j, hu with
 | 0, hu => simp at hu; subst hu; simpa using hc
theorem BBs.at_ {w : World} {A : Option Addr} {n c : Nat} {L : List (List UInt8)} (h : BBs w (.slice A n c) L) {i : Nat} (hi : i < L.length) : ∃ ad B d, A = some ad ∧ w.cell? (ad.add i) = some (.slice B (L[i]'hi).length d) ∧ (L[i]'hi).length ≤ d ∧ d ≤ maxLen ∧ Row w B (bcs (L[i]'hi)) := by
 obtain ⟨A', c', e, _, _, hr⟩ := h
 obtain ⟨ad, vs, a1, a2, ⟨v, rfl, ⟨B, d, rfl, h1, h2, h3⟩⟩, a4⟩ := hr i hi
 injection e with e1 e2 e3
 subst e1
 exact ⟨ad, B, d, a1, by simpa using a4 0 _ rfl, h1, h2, h3⟩
end Go.Proofs.YtjiddcchklaiiaaGreatDoor


/- Structs of plain fields are compared as the machine compares them. -/
namespace Go.Proofs.YtjiddcchklaiiaaGreatDoor
set_option linter.unusedVariables false
set_option linter.unusedSimpArgs false
open Go Go.RowKit
inductive Sc (P : Program) : Ty → TypeId → Prop where
 | u8 {T : TypeId} : P.underlying T = some (.int .u8) → Sc P .u8 T
 | int {T : TypeId} {k : IntKind} : P.underlying T = some (.int k) → Sc P (.int k) T
 | bool {T : TypeId} : P.underlying T = some .bool → Sc P .bool T
 | str {T : TypeId} : P.underlying T = some .string → Sc P .str T
inductive FlatF (P : Program) : Ty → List Field → Nat → Prop where
 | nil {o : Nat} : FlatF P .un [] o
 | one {t : Ty} {f : Field} {o : Nat} : f.offset = o → f.name ≠ "_" → Sc P t f.type → FlatF P t [f] o
 | single {t : Ty} {f : Field} {o : Nat} : f.offset = o → f.name ≠ "_" → Sc P t f.type → FlatF P (.pr t .un) [f] o
 | cons {a b : Ty} {f : Field} {fs : List Field} {o : Nat} : f.offset = o → f.name ≠ "_" → Sc P a f.type → FlatF P b fs (o + 1) → FlatF P (.pr a b) (f :: fs) o
section
variable {P : Program} {w : World}
theorem Sc.sz {t : Ty} {T : TypeId} (h : Sc P t T) : t.sz = 1 := by cases h <;> rfl
theorem Sc.cell {t : Ty} {T : TypeId} (h : Sc P t T) (x : t.den) : ∃ c, cellsOf t x = [c] := by cases h <;> exact ⟨_, rfl⟩
theorem Sc.isAgg {t : Ty} {T : TypeId} (h : Sc P t T) : (Go.isAgg T).run P w = .ok false w := by
 cases h <;> rename_i hu <;> simp [Go.isAgg, run_underlying hu]
theorem Sc.eq {t : Ty} {T : TypeId} (h : Sc P t T) (d : Nat) {x y : t.den} {a b : Value} (ha : cellsOf t x = [a]) (hb : cellsOf t y = [b]) : (Op.equalIn (d + 1) T a b).run P w = .ok (eqb t x y) w := by
 cases h with
 | u8 hu =>
   have ha' : [Value.int .u8 (UInt8.toNat x)] = [a] := ha
   have hb' : [Value.int .u8 (UInt8.toNat y)] = [b] := hb
   injection ha' with ha'; injection hb' with hb'
   subst ha'; subst hb'
   rw [run_equalIn_int w d _ _ _ _ _ hu]
   congr 1
   show decide _ = decide _
   exact decide_eq_decide.2 ⟨fun h => UInt8.toNat_inj.1 (by omega), fun h => by rw [h]⟩
 | int hu =>
   have ha' : [Value.int _ x] = [a] := ha
   have hb' : [Value.int _ y] = [b] := hb
   injection ha' with ha'; injection hb' with hb'
   subst ha'; subst hb'
   rw [run_equalIn_int w d _ _ _ _ _ hu]
   rfl
 | bool hu =>
   have ha' : [Value.bool x] = [a] := ha
   have hb' : [Value.bool y] = [b] := hb
   injection ha' with ha'; injection hb' with hb'
   subst ha'; subst hb'
   rw [run_equalIn_bool' w d _ _ _ hu]
   rfl
 | str hu =>
   have ha' : [Value.string ⟨List.toArray x⟩] = [a] := ha
   have hb' : [Value.string ⟨List.toArray y⟩] = [b] := hb
   injection ha' with ha'; injection hb' with hb'
   subst ha'; subst hb'
   rw [run_equalIn_string w d _ _ _ hu, Lib.toList_data, Lib.toList_data]
   rfl
theorem run_part_at {T : TypeId} {xs : Array Value} {o : Nat} {c : Value} (h : (Go.isAgg T).run P w = .ok false w) (hc : xs[o]? = some c) : (part T xs o).run P w = .ok c w := by
 simp [part, h, hc]
theorem flat_eq (d : Nat) : ∀ (fs : List Field) (t : Ty) (o : Nat) (xs ys : Array Value) (x y : t.den), FlatF P t fs o → (xs.toList.drop o).take t.sz = cellsOf t x → (ys.toList.drop o).take t.sz = cellsOf t y →
   (Op.eqFields (d + 1) xs ys fs).run P w = .ok (eqb t x y) w := by
 have hone : ∀ (xs : Array Value) (o : Nat) (c : Value) (n : Nat) (l : List Value), (xs.toList.drop o).take (1 + n) = c :: l → xs[o]? = some c ∧ (xs.toList.drop (o + 1)).take n = l := fun xs o c n l h => by
   have hc : xs.toList.drop o = c :: xs.toList.drop (o + 1) := by
     cases hd : xs.toList.drop o with
     | nil => rw [hd] at h; simp at h
     | cons e r =>
       rw [hd, Nat.add_comm, List.take_succ_cons] at h
       injection h with h1 h2
       rw [h1]
       congr 1
       have := congrArg (List.drop 1) hd
       rw [List.drop_drop] at this
       simpa [Nat.add_comm] using this.symm
   refine ⟨?_, ?_⟩
   · have := congrArg (fun l => l[0]?) hc
     simpa using this
   · rw [hc, Nat.add_comm, List.take_succ_cons] at h
     injection h
 intro fs
 induction fs with
 | nil =>
   intro t o xs ys x y hf _ _
   cases hf
   simp [Op.eqFields, eqb]
 | cons f fs ih =>
   intro t o xs ys x y hf hx hy
   have hstep : ∀ (a : Ty) (xa ya : a.den) (ca cb : Value) (r : Bool), f.offset = o → f.name ≠ "_" → Sc P a f.type → cellsOf a xa = [ca] → cellsOf a ya = [cb] → xs[o]? = some ca → ys[o]? = some cb →
       (Op.eqFields (d + 1) xs ys fs).run P w = .ok r w → (Op.eqFields (d + 1) xs ys (f :: fs)).run P w = .ok (eqb a xa ya && r) w := fun a xa ya ca cb r ho hn hs h1 h2 h3 h4 h5 => by
     subst ho
     simp only [Op.eqFields, hn, ne_eq, not_false_eq_true, if_true, Sem.run_bind, run_part_at hs.isAgg h3, run_part_at hs.isAgg h4, hs.eq d h1 h2, Result.andThen_ok]
     cases eqb a xa ya with
     | true => simpa using h5
     | false => simp
   cases hf with
   | one ho hn hs =>
     obtain ⟨ca, h1⟩ := hs.cell x
     obtain ⟨cb, h2⟩ := hs.cell y
     rw [hs.sz, h1] at hx
     rw [hs.sz, h2] at hy
     have := hstep t x y ca cb true ho hn hs h1 h2 (hone xs o ca 0 [] hx).1 (hone ys o cb 0 [] hy).1 (by simp [Op.eqFields])
     simpa using this
   | single ho hn hs =>
     rename_i a
     obtain ⟨xa, u⟩ := x
     obtain ⟨ya, v⟩ := y
     obtain ⟨ca, h1⟩ := hs.cell xa
     obtain ⟨cb, h2⟩ := hs.cell ya
     have hx' : (xs.toList.drop o).take (a.sz + 0) = cellsOf a xa ++ [] := hx
     have hy' : (ys.toList.drop o).take (a.sz + 0) = cellsOf a ya ++ [] := hy
     rw [hs.sz, h1] at hx'
     rw [hs.sz, h2] at hy'
     exact hstep a xa ya ca cb true ho hn hs h1 h2 (hone xs o ca 0 [] hx').1 (hone ys o cb 0 [] hy').1 (by simp [Op.eqFields])
   | @cons a b _ _ _ ho hn hs hr =>
     obtain ⟨xa, xb⟩ := x
     obtain ⟨ya, yb⟩ := y
     obtain ⟨ca, h1⟩ := hs.cell xa
     obtain ⟨cb, h2⟩ := hs.cell ya
     have hx' : (xs.toList.drop o).take (a.sz + b.sz) = cellsOf a xa ++ cellsOf b xb := hx
     have hy' : (ys.toList.drop o).take (a.sz + b.sz) = cellsOf a ya ++ cellsOf b yb := hy
     rw [hs.sz, h1] at hx'
     rw [hs.sz, h2] at hy'
     obtain ⟨k1, k2⟩ := hone xs o ca b.sz _ hx'
     obtain ⟨k3, k4⟩ := hone ys o cb b.sz _ hy'
     exact hstep a xa ya ca cb _ ho hn hs h1 h2 k1 k3 (ih b (o + 1) xs ys xb yb hr k2 k4)
theorem FlatF.len {t : Ty} {fs : List Field} {o : Nat} (h : FlatF P t fs o) (x : t.den) : (cellsOf t x).length = t.sz := by
 induction h with
 | nil => rfl
 | one _ _ hs => obtain ⟨c, hc⟩ := hs.cell x; rw [hc, hs.sz]; rfl
 | single _ _ hs =>
   obtain ⟨xa, u⟩ := x
   obtain ⟨c, hc⟩ := hs.cell xa
   show (cellsOf _ xa ++ []).length = _ + 0
   rw [hc, hs.sz]; rfl
 | cons _ _ hs _ ih =>
   obtain ⟨xa, xb⟩ := x
   obtain ⟨c, hc⟩ := hs.cell xa
   show (cellsOf _ xa ++ cellsOf _ xb).length = _ + _
   rw [List.length_append, hc, hs.sz, ih xb]; rfl
theorem CmpOk.flat {T : TypeId} {t : Ty} {fs : Array Field} (hc : flatCmp t = true) (ha : t.isAgg = true) (hu : P.underlying T = some (.struct fs)) (hp : P.stoodInHeld T = false) (hg : P.eqGuardType P.depth T = false) (hf : FlatF P t fs.toList 0) : CmpOk P T t := by
 have hfo : P.fieldsOf T = fs := by unfold Program.fieldsOf; rw [hu]
 have heq : ∀ (x y : t.den) (w : World), (Op.equalIn 10000 T (.agg (cellsOf t x).toArray) (.agg (cellsOf t y).toArray)).run P w = .ok (eqb t x y) w := fun x y w => by
   rw [run_equalIn_agg w 9999 T _ _ (by rw [hfo]; exact hu) hp, hfo]
   refine flat_eq 9998 fs.toList t 0 _ _ x y hf ?_ ?_
   · rw [List.drop_zero, List.take_of_length_le (by simp [hf.len x])]
   · rw [List.drop_zero, List.take_of_length_le (by simp [hf.len y])]
 refine ⟨hc, ha, fun x y ox oy w => ⟨?_, ?_⟩⟩
 · simp only [Sem.run_bind, run_eqGuard_agg w _ _ _ _ _ _ hg, Result.andThen_ok, run_eql_struct, heq]
 · simp only [Sem.run_bind, run_eqGuard_agg w _ _ _ _ _ _ hg, Result.andThen_ok, run_neq_struct, heq]
end
end Go.Proofs.YtjiddcchklaiiaaGreatDoor


/- Lists in order, each name once. No program in sight. -/
namespace Go.Proofs.YtjiddcchklaiiaaGreatDoor
set_option linter.unusedVariables false
open Go
theorem perm_strict {α : Type} {R : α → α → Prop} (hirr : ∀ a b, R a b → R b a → False) : ∀ (l1 l2 : List α), l1.Perm l2 → l1.Pairwise R → l2.Pairwise R → l1 = l2
 | [], l2, h, _, _ => (List.nil_perm.1 h).symm
 | a :: l1, [], h, _, _ => by have := h.length_eq; simp at this
 | a :: l1, b :: l2, h, h1, h2 => by
   have hab : a = b := by
     apply Classical.byContradiction
     intro hne
     have ha : a ∈ b :: l2 := h.subset (List.mem_cons_self ..)
     have hb : b ∈ a :: l1 := h.symm.subset (List.mem_cons_self ..)
     rcases List.mem_cons.1 ha with e | ha
     · exact hne e
     · rcases List.mem_cons.1 hb with e | hb
       · exact hne e.symm
       · exact hirr a b ((List.pairwise_cons.1 h1).1 b hb) ((List.pairwise_cons.1 h2).1 a ha)
   subst hab
   rw [perm_strict hirr l1 l2 (List.Perm.cons_inv h) (List.pairwise_cons.1 h1).2 (List.pairwise_cons.1 h2).2]
theorem str_lt_irrefl (a : Str) : ¬ a < a := List.lt_irrefl a
theorem str_lt_trans {a b c : Str} (h1 : a < b) (h2 : b < c) : a < c := List.lt_trans h1 h2
theorem str_tri (a b : Str) (h1 : ¬ a < b) (h2 : ¬ b < a) : a = b := List.le_antisymm h2 h1
end Go.Proofs.YtjiddcchklaiiaaGreatDoor


/- Things in order by a name that each has but once: what stands for them is in order with them. No program in sight. -/
namespace Go.Proofs.YtjiddcchklaiiaaGreatDoor
set_option linter.unusedVariables false
open Go
def leKey {α : Type} (key : α → Str) (a b : α) : Bool := decide (key a ≤ key b)
theorem sorted_strictK {α : Type} {key : α → Str} {l : List α} (hn : (l.map key).Nodup) (hs : l.Pairwise fun a b => ¬ key b < key a) : l.Pairwise fun a b => key a < key b := by
 induction l with
 | nil => exact List.Pairwise.nil
 | cons a l ih =>
   rw [List.map_cons, List.nodup_cons] at hn
   obtain ⟨h1, h2⟩ := List.pairwise_cons.1 hs
   refine List.pairwise_cons.2 ⟨fun b hb => ?_, ih hn.2 h2⟩
   apply Classical.byContradiction
   intro hlt
   have := str_tri _ _ hlt (h1 b hb)
   exact hn.1 (this ▸ List.mem_map.2 ⟨b, hb, rfl⟩)
theorem mergeSort_key {α : Type} (key : α → Str) (l : List α) : (l.mergeSort (leKey key)).Pairwise fun a b => ¬ key b < key a := by
 have := List.pairwise_mergeSort (le := leKey key) (fun a b c h1 h2 => by
   simp only [leKey, decide_eq_true_eq] at *
   exact List.le_trans h1 h2) (fun a b => by
   simp only [leKey, Bool.or_eq_true, decide_eq_true_eq]
   exact List.le_total _ _) l
 exact this.imp fun h => by simpa [leKey] using h
theorem sort_uniqueK {α : Type} {key : α → Str} {l d : List α} (hn : (l.map key).Nodup) (hp : d.Perm l) (hs : d.Pairwise fun a b => ¬ key b < key a) : d = l.mergeSort (leKey key) := by
 have hp2 : d.Perm (l.mergeSort (leKey key)) := hp.trans (List.mergeSort_perm l (leKey key)).symm
 have hn1 : (d.map key).Nodup := (hp.map _).nodup_iff.2 hn
 have hn2 : ((l.mergeSort (leKey key)).map key).Nodup := ((List.mergeSort_perm l (leKey key)).map _).nodup_iff.2 hn
 exact perm_strict (R := fun a b => key a < key b) (fun a b h1 h2 => str_lt_irrefl _ (str_lt_trans h1 h2)) d _ hp2 (sorted_strictK hn1 hs) (sorted_strictK hn2 (mergeSort_key key l))
theorem perm_lift {α β : Type} (f : α → β) {d m : List β} (h : d.Perm m) : ∀ {l : List α}, l.map f = m → ∃ l' : List α, l'.Perm l ∧ l'.map f = d := by
 induction h with
 | nil => intro l e; exact ⟨[], by rw [List.map_eq_nil_iff.1 e], rfl⟩
 | cons x _ ih =>
   intro l e
   cases l with
   | nil => cases e
   | cons a l =>
     injection e with e1 e2
     obtain ⟨l', h1, h2⟩ := ih e2
     exact ⟨a :: l', h1.cons a, by rw [List.map_cons, h2, e1]⟩
 | swap x y r =>
   intro l e
   match l, e with
   | a :: b :: l, e =>
     injection e with e1 e2
     injection e2 with e2 e3
     exact ⟨b :: a :: l, List.Perm.swap .., by rw [List.map_cons, List.map_cons, e1, e2, e3]⟩
 | trans _ _ ih1 ih2 =>
   intro l e
   obtain ⟨l2, h1, h2⟩ := ih2 e
   obtain ⟨l1, h3, h4⟩ := ih1 h2
   exact ⟨l1, h3.trans h1, h4⟩
theorem All2.zip {α β : Type} {R : α → β → Prop} : ∀ {l : List α} {m : List β}, All2 R l m → (l.zip m).map (·.1) = l ∧ (l.zip m).map (·.2) = m ∧ ∀ p ∈ l.zip m, R p.1 p.2
 | [], [], _ => ⟨rfl, rfl, fun p h => by cases h⟩
 | a :: l, b :: m, h => by
   obtain ⟨h1, h2, h3⟩ := All2.zip h.2
   refine ⟨by rw [List.zip_cons_cons, List.map_cons, h1], by rw [List.zip_cons_cons, List.map_cons, h2], fun p hp => ?_⟩
   rcases List.mem_cons.1 hp with rfl | hp
   · exact h.1
   · exact h3 p hp
 | [], _ :: _, h => h.elim
 | _ :: _, [], h => h.elim
theorem All2.of_pairs {α β : Type} {R : α → β → Prop} : ∀ {l : List (α × β)}, (∀ p ∈ l, R p.1 p.2) → All2 R (l.map (·.1)) (l.map (·.2))
 | [], _ => trivial
 | p :: l, h => ⟨h p (List.mem_cons_self ..), All2.of_pairs fun q hq => h q (List.mem_cons_of_mem _ hq)⟩
theorem sort_rel {α γ : Type} {key : α → Str} {key' : γ → Str} {R : α → γ → Prop} {xs : List α} {cs d : List γ} (h : All2 R xs cs) (hk : ∀ x c, R x c → key' c = key x) (hn : (xs.map key).Nodup) (hp : d.Perm cs)
   (hs : d.Pairwise fun a b => ¬ key' b < key' a) : All2 R (xs.mergeSort (leKey key)) d := by
 obtain ⟨h1, h2, h3⟩ := h.zip
 obtain ⟨qs, hq, rfl⟩ := perm_lift (fun p : α × γ => p.2) hp h2
 have hR : ∀ p ∈ qs, R p.1 p.2 := fun p hp => h3 p (hq.subset hp)
 have e : qs.map (·.1) = xs.mergeSort (leKey key) := by
   refine sort_uniqueK hn ?_ ?_
   · have := hq.map (·.1)
     rw [h1] at this
     exact this
   · rw [List.pairwise_map] at hs ⊢
     refine List.Pairwise.imp_of_mem (fun {a b} ha hb hlt => ?_) hs
     rw [← hk _ _ (hR a ha), ← hk _ _ (hR b hb)]
     exact hlt
 rw [← e]
 exact All2.of_pairs hR
end Go.Proofs.YtjiddcchklaiiaaGreatDoor


/- How patterns fit, row by row (plain lists; no program in sight). -/
namespace Go.Proofs.YtjiddcchklaiiaaGreatDoor
set_option linter.unusedVariables false
set_option linter.unusedSimpArgs false
open Go
end Go.Proofs.YtjiddcchklaiiaaGreatDoor


/- Loops over a list, without fuel. No program in sight. -/
namespace Go.Proofs.YtjiddcchklaiiaaGreatDoor
set_option linter.unusedVariables false
set_option linter.unusedSimpArgs false
open Go Go.RowKit
def big : Nat := 18446744073709551616
theorem geti_nat {α : Type} (xs : List α) (i : Nat) : geti xs (i : Int) = xs[i]? := by unfold geti; rw [if_pos (by omega)]; rfl
theorem geti_lt {α : Type} (xs : List α) {i : Nat} (h : i < xs.length) : geti xs (i : Int) = some xs[i] := by rw [geti_nat, List.getElem?_eq_getElem h]
theorem wrap_id {n : Int} (h0 : -9223372036854775808 ≤ n) (h : n ≤ 9223372036854775807) : IntKind.i64.wrap n = n := by
 simp [IntKind.wrap, IntKind.signed, IntKind.bits]
 omega
theorem slc_take {α : Type} (xs : List α) {i : Nat} (h : i ≤ xs.length) : slc xs 0 (i : Int) = some (xs.take i) := by
 unfold slc; rw [if_pos ⟨by omega, by omega, by omega⟩]; simp
end Go.Proofs.YtjiddcchklaiiaaGreatDoor


/- More on loops over a list, without fuel. No program in sight. -/
namespace Go.Proofs.YtjiddcchklaiiaaGreatDoor
set_option linter.unusedVariables false
set_option linter.unusedSimpArgs false
open Go Go.RowKit
theorem br_pos {R : Type} {p : Prop} [Decidable p] {x y : Option R} (h : p) : br (decide p) x y = x := by rw [decide_eq_true h, br_true]
theorem br_neg {R : Type} {p : Prop} [Decidable p] {x y : Option R} (h : ¬ p) : br (decide p) x y = y := by rw [decide_eq_false h, br_false]
end Go.Proofs.YtjiddcchklaiiaaGreatDoor

