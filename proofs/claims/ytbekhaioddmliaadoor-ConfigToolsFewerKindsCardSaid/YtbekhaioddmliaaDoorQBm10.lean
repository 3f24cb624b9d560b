/- The machine of values is right about rows: append, what is written into them, and cut. -/
import Derived.Test.YtbekhaioddmliaaDoorQBm9
namespace Go.Proofs.YtbekhaioddmliaaDoor
set_option linter.unusedVariables false
set_option linter.unusedSimpArgs false
open Go Go.RowKit
section
variable {P : Program} {G : World → Prop} {B0 : Nat} {E : Env} {M : Nat → Nat → Prop} {M0 : Nat → Nat → Prop} {w0 : World} {gi g : Gh} {st : St} {a : Act} {w : World}
/-- Slots that named a longer row's beginning. -/
theorem RepD0.snap {M M' : Nat → Nat → Prop} {w' : World} {g' : Gh} {q : Nat} {t : Ty} {xs : List t.den} {x : GB} (hx : g q = some x) (hst : Step M w M' w') (hg : ∀ r, r ≠ q → g' r = g r) (hnb : isBM x.v = true → False) (hdat : RepV M' w' (.sl t) xs x.v) {d : D} {v : Value} (h : RepD0 M w g d v) : RepD0 M' w' g' (snap q t xs d) v := by
  have hne : ∀ r, Nat.beq r q = false → g' r = g r := fun r hr => hg r fun e => by subst e; simp at hr
  have hbx : ∀ r y, g r = some y → isBM y.v = true → r ≠ q := fun r y h1 h2 e => by subst e; rw [hx] at h1; cases h1; exact hnb h2
  cases d with
  | row r =>
    simp only [Go.Proofs.YtbekhaioddmliaaDoor.snap]
    obtain ⟨y, A, n, c, h1, h2, h3⟩ := h
    split
    · rename_i hr
      have := Nat.eq_of_beq_eq_true hr
      subst this
      rw [hx] at h1; cases h1
      rw [h2]; exact hdat
    · rename_i hr; exact ⟨y, A, n, c, (hne r hr).trans h1, h2, h3⟩
  | elp r z i o =>
    simp only [Go.Proofs.YtbekhaioddmliaaDoor.snap]
    split
    · trivial
    · rename_i hr; obtain ⟨y, b, n, c, h1, h2⟩ := h; exact ⟨y, b, n, c, (hne r hr).trans h1, h2⟩
  | tl r z i =>
    simp only [Go.Proofs.YtbekhaioddmliaaDoor.snap]
    split
    · trivial
    · rename_i hr; obtain ⟨y, b, n, c, h1, h2⟩ := h; exact ⟨y, b, n, c, (hne r hr).trans h1, h2⟩
  | box r o => obtain ⟨y, b, h1, h2, h3⟩ := h; exact ⟨y, b, (hg r (hbx r y h1 (by rw [h2]; rfl))).trans h1, h2, h3⟩
  | mref r => obtain ⟨y, b, h1, h2, h3⟩ := h; exact ⟨y, b, (hg r (hbx r y h1 (by rw [h2]; rfl))).trans h1, h2, h3⟩
  | fnc f ns =>
    obtain ⟨cs, e, ha⟩ := h
    refine ⟨cs, e, ha.mono ?_⟩
    rintro r u ⟨y, b, h1, h2, h3⟩
    exact ⟨y, b, (hg r (hbx r y h1 (by rw [h2]; rfl))).trans h1, h2, h3⟩
  | dead => trivial
  | skip => exact h
  | bl b => exact h
  | v t x => exact RepV.step hst h
  | nilS => exact h
  | nilP => exact h
  | at_ t x => obtain ⟨ad, cs, a, b, c⟩ := h; exact ⟨ad, cs, a, RepC.step hst _ _ _ b, c.step hst⟩
  | tup l => exact h.elim
theorem append_elems {t : Ty} {xs ys : List t.den} {cx news : List Value} (hl : cx.length = xs.length * t.sz) {M' : Nat → Nat → Prop} {w' : World} (hx : ∀ i (h : i < xs.length), RepC M' w' t xs[i] ((cx.drop (i * t.sz)).take t.sz)) (hy : ∀ i (h : i < ys.length), RepC M' w' t ys[i] ((news.drop (i * t.sz)).take t.sz)) :
    ∀ i (h : i < (xs ++ ys).length), RepC M' w' t (xs ++ ys)[i] (((cx ++ news).drop (i * t.sz)).take t.sz) := by
  intro i hi
  rw [List.length_append] at hi
  by_cases hlt : i < xs.length
  · rw [List.getElem_append_left hlt]
    have hpos : i * t.sz + t.sz ≤ xs.length * t.sz := by
      have : (i + 1) * t.sz ≤ xs.length * t.sz := Nat.mul_le_mul_right _ hlt
      rw [Nat.add_mul] at this
      omega
    have : ((cx ++ news).drop (i * t.sz)).take t.sz = (cx.drop (i * t.sz)).take t.sz := by
      rw [List.drop_append_of_le_length (by omega), List.take_append_of_le_length (by rw [List.length_drop]; omega)]
    rw [this]
    exact hx i hlt
  · rw [List.getElem_append_right (by omega)]
    have : (cx ++ news).drop (i * t.sz) = news.drop ((i - xs.length) * t.sz) := by
      rw [List.drop_append, List.drop_eq_nil_of_le (by rw [hl]; exact Nat.mul_le_mul_right _ (by omega)), List.nil_append, hl, Nat.sub_mul]
    rw [this]
    exact hy _ (by omega)
def gapply (ex : Bool) (q : Nat) (t : Ty) (xs : List t.den) : D → D := match ex with | true => Go.Proofs.YtbekhaioddmliaaDoor.forget [q] | false => Go.Proofs.YtbekhaioddmliaaDoor.snap q t xs
/-- Behind a row named q: the elements of another slice. -/
theorem append_row {R : Type} (hE : EnvOk P G B0 E) {o : Oper} {k : St → Option R} {r : R} {K : Act → World → Prop} {Q : Exit → Act → World → Prop} (hs : Sim G B0 M0 w0 gi g st a w) (hK : Goes G B0 M0 w0 gi k r K)
    {T e : TypeId} {t : Ty} {n q : Nat} (hT : E.el T = some (e, t)) (hd : o.dst = some n) {u : Value} {ex : Bool} {xs ys : List t.den} {A0 : Option Addr} {n0 c0 : Nat} {gx : GB} (hgx : g q = some gx) (hv : gx.v = .slice A0 n0 c0)
    (he : execOp a.eval o = (do pure (Next.value (← Builtin.append_ #[T, T] o.type #[gx.v, u]))))
    (hb : aget st.hp q = some (.row e t ex xs)) (hu : RepC (Mof M0 g) w (.sl t) ys [u]) (hsize : (xs.length + ys.length) * (24 * t.sz) ≤ 140737488355328)
    (h : k (((st.lift (gapply ex q t xs)).setB q (.row e t ex (xs ++ ys))).put (some n) (.row q)) = some r) : o.wp P a w K Q := by
  obtain ⟨gx', hgx', hz, cx, hown, hblk, hlo, hcx⟩ := hs.hp _ _ hb
  rw [hgx] at hgx'
  cases hgx'
  obtain ⟨hok, bytes, hET, hbytes⟩ := hE.el _ _ _ hT
  have hu' := hu
  obtain ⟨A, c, e1, _⟩ := hu'
  simp only [List.cons.injEq, and_true] at e1
  subst e1
  obtain ⟨_, news, hnl, hnr, hn1, hnews⟩ := RepC.rowOf hz hu
  have hb' : (xs.length + ys.length) * bytes ≤ 140737488355328 := Nat.le_trans (Nat.mul_le_mul_left _ hbytes) hsize
  obtain ⟨v', w', hrun, h2, h3⟩ := run_append2 (P := P) w 0 T o.type e t.sz bytes hET gx.v xs.length cx hown (Nat.zero_le _) A ys.length c news hnl hnr hn1 hb'
  have hlen1 := hown.1
  refine wp_ret he hrun ?_
  have hlen2 : xs.length + ys.length = (xs ++ ys).length := by rw [List.length_append]
  have hlo' : gx.lo = loOf t ex xs.length := hlo
  have ht : Turn g q (some ⟨v'.ownBlock, loOf t ex (xs ++ ys).length, v'⟩) w w' := by
    rcases h3 with ⟨h3, h4⟩ | ⟨h3, h4⟩
    · have hcell : ∀ b o u s, gx.blk = some b → o < xs.length * t.sz → w.cell? ⟨b, o, s⟩ = some u → w'.cell? ⟨b, o, s⟩ = some u := by
        intro b o u s hb1 hlt hc
        rw [hblk] at hb1
        rcases hown.2 with ⟨e0, _⟩ | ⟨gg, cap, cur, e0, _, hg1, _, _, hcs, htk⟩
        · rw [e0] at hb1; cases hb1
        · rcases h2.2 with ⟨e5, _⟩ | ⟨gg', cap', cur', e5, _, hg2, _, _, hcs', htk'⟩
          · rw [e5] at h3; rw [← h3] at hb1; cases hb1
          · have hgg : gg = b := by rw [e0] at hb1; simpa [Value.ownBlock] using hb1
            have hgg' : gg' = b := by rw [← h3, e5] at hb1; simpa [Value.ownBlock] using hb1
            subst hgg
            rw [hgg'] at hg2
            cases s with
            | some s => simp [World.cell?, hg1] at hc
            | none =>
              rw [cell_box hg1] at hc
              rw [cell_box hg2]
              have a1 : cx[o]? = some u := by rw [← htk, List.getElem?_take, if_pos (by omega), Array.getElem?_toList]; exact hc
              have a2 : (cx ++ news)[o]? = some u := by rw [List.getElem?_append_left (by omega)]; exact a1
              rw [← htk', List.getElem?_take, Array.getElem?_toList] at a2
              split at a2
              · exact a2
              · cases a2
      refine ⟨h4.os, h4.tape, h4.output, h4.size, fun b hb1 hb2 => h4.block b hb1 fun e2 => hb2 gx hgx (by rw [hblk]; exact e2.symm), fun z b e2 e3 => ?_, fun x b e2 e3 e4 => ⟨fun o u s ho hc => ?_, fun z e5 e6 => ?_⟩, fun z b e2 e3 _ => ?_⟩
      · cases e2
        have e4 : v'.ownBlock = some b := e3
        exact ⟨(own_row h2 e4).1, .inr ⟨gx, hgx, by rw [hblk, ← h3]; exact e4⟩⟩
      · rw [hgx] at e2; cases e2
        rw [hlo'] at ho
        cases ex
        · exact hcell b o u s e3 ho hc
        · exact absurd ho (Nat.not_lt_zero _)
      · cases e5
        rw [hgx] at e2; cases e2
        rw [hlo']
        cases ex
        · exact Nat.mul_le_mul_right _ (by rw [← hlen2]; omega)
        · exact Nat.le_refl _
      · cases e2
        exact (own_row h2 e3).2
    · have hbl : ∀ b, v'.ownBlock = some b → w.heap.size ≤ b := fun b hb2 => by rw [h4] at hb2; injection hb2 with hb2; omega
      exact Turn.new hs q h3 fun b hb2 => ⟨hbl b hb2, (own_row h2 hb2).1, fun es c _ => (own_row h2 hb2).2 es c⟩
  have hst := ht.step hs
  rw [hd]
  obtain ⟨A2, c2, hv2, _⟩ := Row.of_own' h2
  refine hK _ _ _ _ (Sim.put (hs.turnB ht (φ := gapply ex q t xs) (fun d v hdv => ?_) (fun l => by cases ex <;> rfl) (fun x' e1 e2 => ?_) (blk := .row e t ex (xs ++ ys)) ⟨hz, cx ++ news, by rw [← hlen2]; exact h2, rfl, by cases ex <;> rfl, append_elems hlen1 (fun i hi => RepC.step hst _ _ _ (hcx i hi)) fun i hi => RepC.step hst _ _ _ (hnews i hi)⟩) (some n) ?_) h
  · cases ex
    · have hold : RepV (Mof M0 g) w (.sl t) xs gx.v := by
        have := hs.dat (d := .row q) (v := gx.v) (RepD0.toD (d := .row q) ⟨gx, A0, n0, c0, hgx, rfl, hv⟩) (t := .sl t) (x := xs) (by simp [St.dat, hb])
        exact this
      exact RepD0.snap hgx hst (fun r hr => Gh.set_other _ _ hr) (own_notBM hown) (hold.step hst) hdv
    · exact RepD0.forget hst (fun r hr => Gh.set_other _ _ fun e => hr (by simp [e])) hdv
  · have := hs.pin q x' e1 e2
    rw [hgx] at this; cases this
    exact (own_notBM hown e2).elim
  · exact ⟨_, A2, _, c2, Gh.set_same _ _ _, rfl, hv2⟩
theorem append_wp {R : Type} (hE : EnvOk P G B0 E) {o : Oper} {k : St → Option R} {r : R} {K : Act → World → Prop} {Q : Exit → Act → World → Prop} (hs : Sim G B0 M0 w0 gi g st a w) (hK : Goes G B0 M0 w0 gi k r K)
    {c : Call} (ho : o.op = .call c) (hc : c.callee = .builtin .append) (h : opD E o st k = some r) : o.wp P a w K Q := by
  simp only [opD, ho, hc, putK_eq, newK_eq, liftK_eq, setBK_eq] at h
  split at h
  · rename_i T T' n x y hT hd hxy
    split at h
    · rename_i e1
      subst e1
      have hargs : c.args = #[x, y] := by apply Array.ext'; simpa using hxy
      have htys : c.argTypes = #[T, T] := by apply Array.ext'; simpa using hT
      have he : execOp a.eval o = (do pure (Next.value (← Builtin.append_ #[T, T] o.type #[a.eval x, a.eval y]))) := by
        simp [execOp, ho, resolve, hc, hargs, htys, invoke, builtin]
      split at h
      · rename_i e t hel
        obtain ⟨g, st, hs, h⟩ := softK_sound hs h
        split at h
        · rename_i ys hys
          have hu := RepV.plain rfl (hs.dat (hs.ev y) hys)
          have hx := hs.ev x
          split at h
          · rename_i q hdx
            rw [hdx] at hx
            obtain ⟨gx, A, n', c', hg, hv, hv2⟩ := hx
            split at h
            · rename_i e' t' ex xs hb
              split at h
              · rename_i e1
                subst e1
                split at h
                · rename_i e2
                  subst e2
                  rcases br_some h with ⟨hcond, h⟩ | ⟨_, h⟩
                  · rw [hv] at he hv2
                    exact append_row hE hs hK hel hd hg hv2 he hb hu (of_decide_eq_true hcond) h
                  · cases h
                · cases h
              · cases h
            · cases h
          · rename_i hdx
            rw [hdx] at hx
            have hx' : a.eval x = .slice none 0 0 := hx
            rcases br_some h with ⟨hcond, h⟩ | ⟨_, h⟩
            · rw [hx'] at he
              have hz := (hE.el _ _ _ hel).pos
              obtain ⟨hok, bytes, hET, hbytes⟩ := hE.el _ _ _ hel
              have hu' := hu
              obtain ⟨A, c, e1, _⟩ := hu'
              simp only [List.cons.injEq, and_true] at e1
              rw [e1] at hu he
              obtain ⟨_, news, hnl, hnr, hn1, hnews⟩ := RepC.rowOf hz hu
              have hb' : (0 + ys.length) * bytes ≤ 140737488355328 := by
                rw [Nat.zero_add]
                exact Nat.le_trans (Nat.mul_le_mul_left _ hbytes) (of_decide_eq_true hcond)
              obtain ⟨v', w', hrun, h2, h3⟩ := run_append2 (P := P) w 0 T o.type e t.sz bytes hET (.slice none 0 0) 0 [] (World.ownsRow_nil _ _ _ _) (Nat.zero_le _) A ys.length c news hnl hnr hn1 hb'
              rw [Nat.zero_add, List.nil_append] at h2
              refine wp_ret he hrun ?_
              have hE2 : Ext w w' := by
                rcases h3 with ⟨h3, h4⟩ | ⟨h3, h4⟩
                · exact ⟨h4.os, h4.tape, h4.output, h4.size, fun k hk => h4.block k hk (by simp [Value.ownBlock])⟩
                · exact h3
              have hbl : ∀ b, v'.ownBlock = some b → w.heap.size ≤ b := fun b hb2 => by
                rcases h3 with ⟨h3, h4⟩ | ⟨h3, h4⟩
                · rw [h3] at hb2; cases hb2
                · rw [h4] at hb2; injection hb2 with hb2; omega
              exact new_row hs hK (Nat.le_add_right _ _) hd hz hE2 h2 hbl (fun M' hst i hi => RepC.step hst _ _ _ (hnews i hi)) h
            · cases h
          · cases h
        · cases h
      · cases h
    · cases h
  · cases h
/-- Some cells, with others laid over. -/
theorem lay_get {cs c : List Value} {p q : Nat} (h : p + c.length ≤ cs.length) : (cs.take p ++ c ++ cs.drop (p + c.length))[q]? = if p ≤ q ∧ q < p + c.length then c[q - p]? else cs[q]? := by
  by_cases h1 : q < p
  · rw [if_neg (by omega), List.append_assoc, List.getElem?_append_left (by rw [List.length_take]; omega), List.getElem?_take, if_pos h1]
  · by_cases h2 : q < p + c.length
    · rw [if_pos ⟨by omega, h2⟩, List.getElem?_append_left (by rw [List.length_append, List.length_take]; omega), List.getElem?_append_right (by rw [List.length_take]; omega), List.length_take]
      congr 1; omega
    · rw [if_neg (by omega), List.getElem?_append_right (by rw [List.length_append, List.length_take]; omega), List.length_append, List.length_take, List.getElem?_drop]
      congr 1; omega
theorem lay_chunk {cs c : List Value} {i j sz off n : Nat} (hoff : off + c.length ≤ sz) (hi : i < n) (hl : cs.length = n * sz) :
    ((cs.take (i * sz + off) ++ c ++ cs.drop (i * sz + off + c.length)).drop (j * sz)).take sz = if j = i then ((cs.drop (i * sz)).take sz).take off ++ c ++ ((cs.drop (i * sz)).take sz).drop (off + c.length) else (cs.drop (j * sz)).take sz := by
  have hb : i * sz + sz ≤ n * sz := by
    have : (i + 1) * sz ≤ n * sz := Nat.mul_le_mul_right _ hi
    rw [Nat.add_mul] at this; omega
  have hcl : ((cs.drop (i * sz)).take sz).length = sz := by rw [List.length_take, List.length_drop]; omega
  apply List.ext_getElem?
  intro m
  rw [List.getElem?_take]
  by_cases hm : m < sz
  · rw [if_pos hm, List.getElem?_drop, lay_get (by omega)]
    by_cases hji : j = i
    · subst hji
      rw [if_pos rfl, lay_get (by omega)]
      by_cases h1 : off ≤ m ∧ m < off + c.length
      · rw [if_pos (by omega), if_pos h1]; congr 1; omega
      · rw [if_neg (by omega), if_neg h1, List.getElem?_take, if_pos hm, List.getElem?_drop]
    · have hne : ¬ (i * sz + off ≤ j * sz + m ∧ j * sz + m < i * sz + off + c.length) := by
        rintro ⟨h1, h2⟩
        rcases Nat.lt_or_gt_of_ne hji with h3 | h3
        · have : (j + 1) * sz ≤ i * sz := Nat.mul_le_mul_right _ h3
          rw [Nat.add_mul] at this; omega
        · have : (i + 1) * sz ≤ j * sz := Nat.mul_le_mul_right _ h3
          rw [Nat.add_mul] at this; omega
      rw [if_neg hne, if_neg hji, List.getElem?_take, if_pos hm, List.getElem?_drop]
  · rw [if_neg hm]
    split
    · rw [List.getElem?_eq_none]
      rw [List.length_append, List.length_append, List.length_take, List.length_drop, hcl]; omega
    · rw [List.getElem?_take, if_neg hm]
/-- A part of an element of a row is another one. -/
theorem storeE_wp {R : Type} (hE : EnvOk P G B0 E) {o : Oper} {k : St → Option R} {r : R} {K : Act → World → Prop} {Q : Exit → Act → World → Prop} (hs : Sim G B0 M0 w0 gi g st a w) (hK : Goes G B0 M0 w0 gi k r K)
    {T : TypeId} {x y : Operand} (ho : o.op = .store T x y) (h : opD E o st k = some r) {q z : Nat} {i : Int} {off : Nat} (hd : st.ev x = .elp q z i off) : o.wp P a w K Q := by
  simp only [opD, ho, setBK_eq, hd] at h
  split at h
  · rename_i t r' off' hdst hT hd'; cases hd'
  · rename_i t q' z' i' off' hdst hT hd'
    cases hd'
    obtain ⟨st', h8, hev, hcase⟩ := softK_ev h
    clear h
    have hs' : ∃ g', Sim G B0 M0 w0 gi g' st' a w := by
      rcases hcase with rfl | ⟨q, e, t, xs, hb, rfl⟩
      · exact ⟨g, hs⟩
      · exact hs.soft hb
    obtain ⟨g, hs⟩ := hs'
    have hx := hs.ev x
    rw [hev, hd] at hx
    obtain ⟨gx, b, n, c, hg, hgv, hi0, hin, ex⟩ := hx
    clear hcase
    split at h8
    · rename_i y' e t' xs hy hb
      obtain ⟨gx', hg', hz, cs, hown, hblk, hlo, hel⟩ := hs.hp _ _ hb
      rw [hg] at hg'
      cases hg'
      split at h8
      · rename_i hzz
        have := Nat.eq_of_beq_eq_true hzz
        subst this
        obtain ⟨x0, hx0, h9⟩ := bnd_eq_some h8
        obtain ⟨_, hlt, e2⟩ := geti_some hx0
        split at h9
        · rename_i x1 hx1
          have hch := hel i.toNat hlt
          rw [e2] at hch
          have hr := (hs.dat (hs.ev y) hy).cells
          obtain ⟨hle, hnew⟩ := upd_sound _ _ _ _ _ _ _ _ hch hr hx1
          have hcl := RepC.len _ _ _ hr
          have hc1 := RepC.one _ _ _ hr
          have hl := hown.1
          have hpos : i.toNat * t'.sz + t'.sz ≤ xs.length * t'.sz := by
            have : (i.toNat + 1) * t'.sz ≤ xs.length * t'.sz := Nat.mul_le_mul_right _ hlt
            rw [Nat.add_mul] at this; omega
          rcases hown.2 with ⟨e0, e9⟩ | ⟨gg, cap, cur, e0, _, hg1, hcap, hmax, hcs, htk⟩
          · exact absurd e9 (by omega)
          · have hgg : gg = b ∧ n = xs.length ∧ c = cap := by
              rw [e0] at hgv
              simp only [Value.slice.injEq, Option.some.injEq, Addr.mk.injEq, and_true] at hgv
              exact ⟨hgv.1, hgv.2.1.symm, hgv.2.2.symm⟩
            obtain ⟨rfl, rfl, rfl⟩ := hgg
            have hok := hE.ty _ _ hT
            have hcapm : xs.length * t'.sz ≤ c * t'.sz := Nat.mul_le_mul_right _ hcap
            have hst0 := run_storeCells_at P gg (i.toNat * t'.sz + off) e (a.eval y).cells.toList 0 cur w hg1 (by omega) hc1
            rw [Nat.add_zero] at hst0
            have hsz := hcl
            rw [Array.length_toList] at hsz
            have hrun : (Instr.storeAt T (a.eval x) (a.eval y)).run P w = .ok () (w.setRow gg (cur.toList.take (i.toNat * t'.sz + off) ++ (a.eval y).cells.toList ++ cur.toList.drop (i.toNat * t'.sz + off + (a.eval y).cells.toList.length)).toArray) := by
              simp [Instr.storeAt, ex, Instr.sureAddr, storeVar, run_sizeOf_ok hok, hsz, hst0]
            refine wp_skip_ (s := Instr.storeAt T (a.eval x) (a.eval y)) (by simp only [execOp, ho]) hrun ?_
            rw [hdst]
            have hgx : gx = ⟨some gg, 0, gx.v⟩ := by
              obtain ⟨b1, l1, v1⟩ := gx
              have e3 : b1 = some gg := hblk.trans (by rw [show v1 = _ from e0]; rfl)
              have e4 : l1 = 0 := hlo
              rw [e3, e4]
            rw [hgx] at hg
            have hcutl : ∀ m : List Value, m = cur.toList → (m.take (i.toNat * t'.sz + off) ++ (a.eval y).cells.toList ++ m.drop (i.toNat * t'.sz + off + (a.eval y).cells.toList.length)).take (xs.length * t'.sz) = cs.take (i.toNat * t'.sz + off) ++ (a.eval y).cells.toList ++ cs.drop (i.toNat * t'.sz + off + (a.eval y).cells.toList.length) := by
              rintro m rfl
              apply List.ext_getElem?
              intro p
              rw [List.getElem?_take, lay_get (by simp only [Array.length_toList]; rw [hcs]; omega), lay_get (by omega)]
              by_cases hp : p < xs.length * t'.sz
              · rw [if_pos hp]
                split
                · rfl
                · rw [← htk, List.getElem?_take, if_pos hp]
              · rw [if_neg hp, if_neg (by omega), List.getElem?_eq_none (by omega)]
            refine hK _ _ _ _ (hs.setObj (w' := w.setRow gg (cur.toList.take (i.toNat * t'.sz + off) ++ (a.eval y).cells.toList ++ cur.toList.drop (i.toNat * t'.sz + off + (a.eval y).cells.toList.length)).toArray) hg rfl rfl rfl (by simp [World.setRow]) (fun j hj => setRow_other w gg j _ hj) (blk := .row e t' true (seti xs i x1)) fun hst =>
              ⟨hz, cs.take (i.toNat * t'.sz + off) ++ (a.eval y).cells.toList ++ cs.drop (i.toNat * t'.sz + off + (a.eval y).cells.toList.length), ⟨?_, .inr ⟨gg, c, _, ?_, Nat.zero_le _, setRow_heap w gg cur _ e _ hg1, ?_, hmax, ?_, ?_⟩⟩, ?_, rfl, ?_⟩) h9
            · simp only [List.length_append, List.length_take, List.length_drop, seti, List.length_set]; omega
            · simp only [seti, List.length_set]; exact e0
            · simp only [seti, List.length_set]; exact hcap
            · simp only [List.size_toArray, List.length_append, List.length_take, List.length_drop, Array.length_toList]; omega
            · simp only [seti, List.length_set]; exact hcutl _ rfl
            · rw [← hblk]; exact (congrArg GB.blk hgx).symm
            · intro j hj
              have hj' : j < xs.length := by simpa [seti] using hj
              rw [lay_chunk (n := xs.length) (by omega) hlt hl]
              by_cases hji : j = i.toNat
              · subst hji
                rw [if_pos rfl]
                have : (seti xs i x1)[i.toNat]'hj = x1 := by simp [seti]
                have hnew' := RepC.step hst _ _ _ hnew
                rw [← hcl] at hnew'
                rw [this]
                exact hnew'
              · rw [if_neg hji]
                have : (seti xs i x1)[j]'hj = xs[j] := by simp only [seti]; rw [List.getElem_set_ne (Ne.symm hji)]
                rw [this]
                exact RepC.step hst _ _ _ (hel j hj')
        · cases h9
      · cases h8
    · cases h8
  · cases h
theorem store_wp {R : Type} (hE : EnvOk P G B0 E) {o : Oper} {k : St → Option R} {r : R} {K : Act → World → Prop} {Q : Exit → Act → World → Prop} (hs : Sim G B0 M0 w0 gi g st a w) (hK : Goes G B0 M0 w0 gi k r K)
    {T : TypeId} {x y : Operand} (ho : o.op = .store T x y) (h : opD E o st k = some r) : o.wp P a w K Q :=
  storeB_wp hE hs hK ho h fun _ _ _ _ hd => storeE_wp hE hs hK ho h hd
end
end Go.Proofs.YtbekhaioddmliaaDoor
