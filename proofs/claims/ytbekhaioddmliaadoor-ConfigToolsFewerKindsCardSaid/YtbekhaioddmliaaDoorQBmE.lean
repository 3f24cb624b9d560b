/- The whole of a piece of code: the machine of values is right about it. -/
import Derived.Test.YtbekhaioddmliaaDoorQBmU
namespace Go.Proofs.YtbekhaioddmliaaDoor
set_option linter.unusedVariables false
set_option linter.unusedSimpArgs false
open Go Go.RowKit
section
variable {P : Program} {G : World → Prop} {B0 : Nat} {E : Env} {M : Nat → Nat → Prop} {M0 : Nat → Nat → Prop} {w0 : World} {gi g : Gh} {st : St} {a : Act} {w : World}
/-- How the machine's ways out of a piece of code answer the model's. -/
def Ex.toExit : Ex → Exit
  | .normal => .normal
  | .exit id => .exit id
  | .ret => .ret
def Leaves {R : Type} (G : World → Prop) (B0 : Nat) (M0 : Nat → Nat → Prop) (w0 : World) (gi : Gh) (k : Ex → St → Option R) (r : R) (Q : Exit → Act → World → Prop) : Prop :=
  ∀ e g st a w, Sim G B0 M0 w0 gi g st a w → k e st = some r → Q e.toExit a w

/-- The row in a slot does not change any more. -/
theorem Sim.hard (hs : Sim G B0 M0 w0 gi g st a w) (s : Nat) : ∃ g', Sim G B0 M0 w0 gi g' (st.hard s) a w := by
  unfold St.hard
  split
  · rename_i q hd
    split
    · rename_i e t ex xs hb
      obtain ⟨gx, hg, hz, cs, hown, hblk, hlo, hel⟩ := hs.hp _ _ hb
      have hnb := own_notBM hown
      refine ⟨_, hs.gone (fun x h1 h2 => ?_) (φ := snap q t xs) (fun d v hst hdv => ?_) fun _ => rfl⟩
      · have := hs.pin q x h1 h2
        rw [hg] at this; cases this
        exact hnb h2
      · refine RepD0.snap hg hst (fun r hr => Gh.set_other _ _ hr) hnb ?_ hdv
        refine RepC.toV (t := .sl t) rfl (RepC.of_own hz hown (fun b o hb2 _ hm => ?_) fun i hi => RepC.step hst _ _ _ (hel i hi))
        rcases hm with h | ⟨r', y, h1, h2, h3⟩
        · exact hs.m0x h hg (by rw [hblk]; exact hb2)
        · by_cases hr : r' = q
          · subst hr; rw [Gh.set_same] at h1; cases h1
          · rw [Gh.set_other _ _ hr] at h1
            exact hr (hs.inj _ _ _ _ _ h1 hg h2 (by rw [hblk]; exact hb2))
    · exact ⟨g, hs⟩
  · exact ⟨g, hs⟩
theorem Sim.hards : ∀ (l : List Nat) {g : Gh} {st : St}, Sim G B0 M0 w0 gi g st a w → ∃ g', Sim G B0 M0 w0 gi g' (St.hards l st) a w
  | [], g, _, h => ⟨g, h⟩
  | s :: l, _, st, h => by
    obtain ⟨g', h'⟩ := h.hard s
    exact Sim.hards l h'
theorem Sim.keep (hs : Sim G B0 M0 w0 gi g st a w) (f h : List Nat) : Sim G B0 M0 w0 gi g (st.keep f h) a w :=
  { hs with
    fr := fun t d hd => by
      obtain ⟨x, h1, rfl⟩ := aget_akeep f nob st.fr t d hd
      exact nob_sound (hs.fr t x h1)
    inb := fun t d hd => by
      obtain ⟨x, h1, _⟩ := aget_akeep f nob st.fr t d hd
      exact hs.inb t x h1
    hp := fun r blk hb => by
      obtain ⟨x, h1, e⟩ := aget_akeep h id st.hp r blk hb
      have e2 : blk = x := e
      subst e2
      exact hs.hp r _ h1 }
theorem Sim.head (h : Sim G B0 M0 w0 gi g st a w) (hh : Hint) : ∃ g', Sim G B0 M0 w0 gi g' (st.head hh) a w := by
  obtain ⟨g', h'⟩ := h.hards hh.dm
  exact ⟨g', h'.keep _ _⟩
theorem Sim.tail (h : Sim G B0 M0 w0 gi g st a w) (hh : Hint) : Sim G B0 M0 w0 gi g (st.tail hh) a w := h.keep _ _
theorem exec_sound {R : Type} (hE : EnvOk P G B0 E) (N : Nat) : ∀ (c : Code) (i : Nat) {k : Ex → St → Option R} {r : R} {Q : Exit → Act → World → Prop}, Leaves G B0 M0 w0 gi k r Q → ∀ (g : Gh) (st : St) (a : Act) (w : World),
    Sim G B0 M0 w0 gi g st a w → exec E N c i st k = some r → c.wp P Q a w
  | .skip, i, k, r, Q, hK, g, st, a, w, hs, h => wp_skip (hK .normal _ _ _ _ hs h)
  | .region id ops false, i, k, r, Q, hK, g, st, a, w, hs, h => wp_region_list (opsD_sound hE (fun _ _ _ _ hs h => hK .normal _ _ _ _ hs h) _ _ _ _ _ hs h)
  | .region id ops true, i, k, r, Q, hK, g, st, a, w, hs, h => by
    rw [exec_draw] at h
    split at h
    · rename_i hq
      simp only [Bool.and_eq_true] at hq
      exact wp_region_quiet (C := fun w' => Ext w w') hE.mixed hq.2 (Ext.refl w).drew (opsD_quiet hE (fun _ _ _ _ hs h => hK .normal _ _ _ _ hs h) _ _ _ _ hq.1 hs h)
    · split at h
      · rename_i hsel
        refine Code.wp_mono (fun e a w hh => ?_) (drawD_sound hE hsel (Q := Q) (fun _ _ _ _ hs h => hK .normal _ _ _ _ hs h) hs h)
        rw [hh.1]; exact hh.2
      · cases h
  | .seq x y, i, k, r, Q, hK, g, st, a, w, hs, h => by
    refine wp_seq (exec_sound hE N x i ?_ _ _ _ _ hs h)
    intro e g st a w hs h
    cases e with
    | normal => exact exec_sound hE N y i hK _ _ _ _ hs h
    | exit id => exact hK (.exit id) _ _ _ _ hs h
    | ret => exact hK .ret _ _ _ _ hs h
  | .cond c x y, i, k, r, Q, hK, g, st, a, w, hs, h => by
    rw [exec_cond] at h
    have hc := hs.ev c
    split at h
    · rename_i b hd
      rw [hd] at hc
      refine wp_cond (t := b) (RepD.bool hc) ?_
      rcases br_some h with ⟨e, h2⟩ | ⟨e, h2⟩
      · subst e; exact exec_sound hE N x i hK _ _ _ _ hs h2
      · subst e; exact exec_sound hE N y i hK _ _ _ _ hs h2
    · rename_i hd
      rw [hd] at hc
      exact wp_cond (t := true) hc (exec_sound hE N x i hK _ _ _ _ hs h)
    · rename_i hd
      rw [hd] at hc
      exact wp_cond (t := false) hc (exec_sound hE N y i hK _ _ _ _ hs h)
    · cases h
  | .block id c, i, k, r, Q, hK, g, st, a, w, hs, h => by
    refine wp_block (exec_sound hE N c id ?_ _ _ _ _ hs h)
    intro e g st a w hs h
    cases e with
    | normal => exact hK .normal _ _ _ _ hs h
    | exit j =>
      simp only at h
      show (if j = id then Q .normal a w else Q (.exit j) a w)
      split at h
      · rename_i e; rw [if_pos e]; exact hK .normal _ _ _ _ hs h
      · rename_i e; rw [if_neg e]; exact hK (.exit j) _ _ _ _ hs h
    | ret => exact hK .ret _ _ _ _ hs h
  | .loop c, i, k, r, Q, hK, g, st, a, w, hs, h => by
    rw [exec_loop] at h
    simp only [headK_eq] at h
    have key : ∀ (n : Nat) (g : Gh) (st : St) (a : Act) (w : World), Sim G B0 M0 w0 gi g st a w → iter (E.hint i) (exec E N c i) n st k = some r → Code.rounds P c Q n a w := by
      intro n
      induction n with
      | zero => intro g st a w hs h; cases h
      | succ n ih =>
        intro g st a w hs h
        refine exec_sound hE N c i ?_ _ _ _ _ hs h
        intro e g st a w hs h
        cases e with
        | normal => simp only [headK_eq] at h; exact (let ⟨g', hs'⟩ := hs.head (E.hint i); ih g' _ _ _ hs' h)
        | exit id => simp only [tailK_eq] at h; exact hK (.exit id) _ _ _ _ (hs.tail _) h
        | ret => exact hK .ret _ _ _ _ hs h
    obtain ⟨g', hs'⟩ := hs.head (E.hint i)
    exact wp_loop_rounds N (key N _ _ _ _ hs' h)
  | .exit id, i, k, r, Q, hK, g, st, a, w, hs, h => wp_exit (hK (.exit id) _ _ _ _ hs h)
  | .ret, i, k, r, Q, hK, g, st, a, w, hs, h => Go.wp_ret (hK .ret _ _ _ _ hs h)
  | .rangeFunc _ _ _ _, i, k, r, Q, hK, g, st, a, w, hs, h => by cases h
  | .scope _, i, k, r, Q, hK, g, st, a, w, hs, h => by cases h
  | .label _, i, k, r, Q, hK, g, st, a, w, hs, h => by cases h
  | .goto _, i, k, r, Q, hK, g, st, a, w, hs, h => by cases h
  | .refuse _, i, k, r, Q, hK, g, st, a, w, hs, h => by cases h
end
end Go.Proofs.YtbekhaioddmliaaDoor
