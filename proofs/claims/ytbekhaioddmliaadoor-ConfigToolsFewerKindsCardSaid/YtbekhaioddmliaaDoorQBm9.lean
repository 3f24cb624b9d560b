/- The machine of values is right about rows: new ones, literals, and what is put behind them. -/
import Derived.Test.YtbekhaioddmliaaDoorQBm8
namespace Go.Proofs.YtbekhaioddmliaaDoor
set_option linter.unusedVariables false
set_option linter.unusedSimpArgs false
open Go Go.RowKit
theorem Nat.mul_add_mod_of_lt' {j k m : Nat} (h : m < k) : (j * k + m) % k = m := by rw [Nat.mul_comm, Nat.mul_add_mod, Nat.mod_eq_of_lt h]
section
variable {P : Program}
theorem run_append2 (w : World) (base : Nat) (t ty e : TypeId) (size bytes : Nat) (hT : ElemT P t e size bytes) (v : Value) (n : Nat) (xs : List Value) (hown : w.ownsRow base e size v n xs) (hbase : base ≤ w.heap.size)
    (A : Option Addr) (m c : Nat) (news : List Value) (hl : news.length = m * size) (hr : Row w A news) (h1 : ∀ u ∈ news, u.oneCell' = true) (hb : (n + m) * bytes ≤ 140737488355328) :
    ∃ v' w', (Builtin.append_ #[t, t] ty #[v, .slice A m c]).run P w = .ok v' w' ∧ w'.ownsRow base e size v' (n + m) (xs ++ news) ∧
      ((v'.ownBlock = v.ownBlock ∧ w.grownBy w' v.ownBlock) ∨ (Ext w w' ∧ v'.ownBlock = some w.heap.size)) := by
  by_cases hm : m = 0
  · subst hm
    have hn : news = [] := List.eq_nil_of_length_eq_zero (by simpa using hl)
    subst hn
    have hsame : (Builtin.append_ #[t, t] ty #[v, .slice A 0 c]).run P w = .ok v w := by
      rcases A with _ | ad
      · exact run_append_none P w base t ty e size bytes hT v n xs hown c
      · obtain ⟨ht, hsz, hbp, i, z, hi, hz, hsize, hby, hzs⟩ := hT
        rcases hown.2 with ⟨rfl, rfl⟩ | ⟨g, cap, cur, rfl, _, _, hnc, _⟩
        · simp [Builtin.append_, run_underlying ht, sizeOf, typeInfo, hi, Builtin.lenOf, Builtin.firstCells, loadCells, loadCellsFrom]
        · simp [Builtin.append_, run_underlying ht, sizeOf, typeInfo, hi, Builtin.lenOf, Builtin.firstCells, hnc, storeCells, loadCells, loadCellsFrom]
    exact ⟨v, w, hsame, by simpa using hown, .inl ⟨rfl, World.grownBy.refl w _⟩⟩
  · obtain ⟨ht, hsz, hbp, i, z, hi, hz, hsize, hby, hzs⟩ := hT
    have hne : news ≠ [] := by rintro rfl; have := Nat.mul_pos (Nat.pos_of_ne_zero hm) hsz; simp at hl; omega
    obtain ⟨ad, rfl, hcells⟩ := hr hne
    have h63 : n + m ≤ maxLen := by
      have : n + m ≤ (n + m) * bytes := Nat.le_mul_of_pos_right _ hbp
      unfold maxLen; omega
    have h63' : n + m ≤ 9223372036854775807 := by simp only [maxLen] at h63; omega
    obtain ⟨v', w', hrun, h2, h3, _, h5⟩ := run_append_own_at (P := P) w base t ty e i z size bytes ht hi hz hsize hby hzs hsz v n xs hown ad m c news hl hcells h1 h63 hb hbase
    subst hsize
    subst hby
    refine ⟨v', w', hrun, h2, ?_⟩
    rcases hown.2 with ⟨rfl, rfl⟩ | ⟨gg, cap, cur, rfl, hbg, hg, hnc, hcm, hcs, htake⟩
    · have h48 : m * i.bytes ≤ 281474976710656 := by simp only [Nat.zero_add] at hb; omega
      have hrun2 := run_append_nil (P := P) w t ty e i z ht hi hz ad m c news hl hcells (by omega) (by omega) h48
      rw [hrun] at hrun2
      injection hrun2 with e1 e2
      exact .inr ⟨by rw [e2]; exact (Ext.refl w).drew.alloc _, by rw [e1]; rfl⟩
    · by_cases hroom : n + m ≤ cap
      · have hfit : n * i.size + news.length ≤ cur.size := by rw [hl, hcs, ← Nat.add_mul]; exact Nat.mul_le_mul_right _ hroom
        have hrun2 := run_append_room (P := P) w t ty e i ht hi gg n cap cur hg ad m c news hl hcells h1 hroom hfit
        rw [hrun] at hrun2
        injection hrun2 with e1 e2
        exact .inl ⟨by rw [e1]; rfl, h3⟩
      · have holds : ∀ j u, xs[j]? = some u → w.cell? ((⟨gg, 0, none⟩ : Addr).add j) = some u := hown.cells (g := gg) rfl
        have hrun2 := run_append_grow (P := P) w t ty e i z ht hi hz ⟨gg, 0, none⟩ n cap xs hown.1 holds ad m c news hl hcells (by omega) (by omega) (growslice_fits (by omega) hb)
        rw [hrun] at hrun2
        injection hrun2 with e1 e2
        exact .inr ⟨by rw [e2]; exact (Ext.refl w).drew.alloc _, by rw [e1]; rfl⟩
end
section
variable {P : Program} {G : World → Prop} {B0 : Nat} {E : Env} {M : Nat → Nat → Prop} {M0 : Nat → Nat → Prop} {w0 : World} {gi g : Gh} {st : St} {a : Act} {w : World}
/-- The cells of a slice of data. -/
theorem RepC.rowOf {t : Ty} (hz : 0 < t.sz) {xs : List t.den} {A : Option Addr} {n c : Nat} (h : RepC M w (.sl t) xs [.slice A n c]) :
    n = xs.length ∧ ∃ cs, cs.length = n * t.sz ∧ Row w A cs ∧ (∀ u ∈ cs, u.oneCell' = true) ∧ ∀ i (h : i < xs.length), RepC M w t xs[i] ((cs.drop (i * t.sz)).take t.sz) := by
  obtain ⟨A', c', e, _, _, hr⟩ := h
  simp only [List.cons.injEq, Value.slice.injEq, and_true] at e
  obtain ⟨rfl, rfl, rfl⟩ := e
  refine ⟨rfl, ?_⟩
  have hex : ∀ i, ∃ es : List Value, ∀ h : i < xs.length, ∃ ad, A = some ad ∧ RepC M w t xs[i] es ∧ Pl M w (ad.add (i * t.sz)) es := fun i => by
    by_cases h : i < xs.length
    · obtain ⟨ad, es, e, h1, h2⟩ := hr i h
      exact ⟨es, fun _ => ⟨ad, e, h1, h2⟩⟩
    · exact ⟨[], fun h' => absurd h' h⟩
  obtain ⟨f, hf⟩ := Classical.axiomOfChoice hex
  let vs : List Value := (List.range xs.length).map fun i => .agg (f i).toArray
  have hvs : ∀ v ∈ vs, v.cells.size = t.sz := by
    intro v hv
    obtain ⟨i, hi, rfl⟩ := List.mem_map.1 hv
    obtain ⟨ad, _, h1, _⟩ := hf i (List.mem_range.1 hi)
    simpa [Value.cells] using RepC.len _ _ _ h1
  have hget : ∀ i j, i < xs.length → j < t.sz → (vs.flatMap fun v => v.cells.toList)[i * t.sz + j]? = (f i)[j]? := by
    intro i j hi hj
    rw [Great.flat_get hz vs hvs]
    have e1 : (i * t.sz + j) / t.sz = i := by rw [Nat.mul_comm, Nat.mul_add_div hz, Nat.div_eq_of_lt hj, Nat.add_zero]
    have e2 : (i * t.sz + j) % t.sz = j := by rw [Nat.mul_comm, Nat.mul_add_mod, Nat.mod_eq_of_lt hj]
    rw [e1, e2]
    simp [vs, hi, Value.cells]
  have hlen : (vs.flatMap fun v => v.cells.toList).length = xs.length * t.sz := by
    have : ∀ l : List Value, (∀ v ∈ l, v.cells.size = t.sz) → (l.flatMap fun v => v.cells.toList).length = l.length * t.sz := by
      intro l
      induction l with
      | nil => intro _; simp
      | cons v l ih =>
        intro h
        rw [List.flatMap_cons, List.length_append, ih (fun u hu => h u (List.mem_cons_of_mem _ hu)), Array.length_toList, h v List.mem_cons_self, List.length_cons, Nat.add_mul]
        omega
    rw [this vs hvs]
    simp [vs]
  have hslice : ∀ i, i < xs.length → ((vs.flatMap fun v => v.cells.toList).drop (i * t.sz)).take t.sz = f i := by
    intro i hi
    obtain ⟨ad, _, h1, _⟩ := hf i hi
    have hl := RepC.len _ _ _ h1
    apply List.ext_getElem?
    intro j
    rw [List.getElem?_take]
    by_cases hj : j < t.sz
    · rw [if_pos hj, List.getElem?_drop, hget i j hi hj]
    · rw [if_neg hj, List.getElem?_eq_none (by omega)]
  refine ⟨_, hlen, ?_, ?_, fun i hi => by rw [hslice i hi]; exact (hf i hi).choose_spec.2.1⟩
  · intro hne
    have h0 : 0 < xs.length := by
      rcases Nat.eq_zero_or_pos xs.length with h0 | h0
      · exact absurd (List.eq_nil_of_length_eq_zero (by rw [hlen, h0, Nat.zero_mul])) hne
      · exact h0
    obtain ⟨ad, e, _⟩ := hf 0 h0
    refine ⟨ad, e, fun k u hu => ?_⟩
    have hk : k < xs.length * t.sz := by
      rcases Nat.lt_or_ge k (vs.flatMap fun v => v.cells.toList).length with h' | h'
      · rwa [hlen] at h'
      · rw [List.getElem?_eq_none h'] at hu; cases hu
    have hi : k / t.sz < xs.length := (Nat.div_lt_iff_lt_mul hz).2 hk
    have hj : k % t.sz < t.sz := Nat.mod_lt _ hz
    have hk2 : k / t.sz * t.sz + k % t.sz = k := Nat.div_add_mod' k t.sz
    obtain ⟨ad', e', _, h2⟩ := hf _ hi
    rw [e] at e'
    injection e' with e'
    subst e'
    have hg := hget _ _ hi hj
    rw [hk2, hu] at hg
    have := (h2 _ _ hg.symm).1
    rw [add_of_add, hk2] at this
    exact this
  · intro u hu
    obtain ⟨v, hv, hu⟩ := List.mem_flatMap.1 hu
    obtain ⟨i, hi, rfl⟩ := List.mem_map.1 hv
    obtain ⟨ad, _, h1, _⟩ := hf i (List.mem_range.1 hi)
    exact RepC.one _ _ _ h1 u (by simpa [Value.cells] using hu)
theorem ElOk.pos {T e : TypeId} {t : Ty} (h : ElOk P T e t) : 0 < t.sz := by obtain ⟨_, bytes, ⟨_, h2, _⟩, _⟩ := h; exact h2
theorem flat_slices {s : Nat} (hs : 0 < s) (vs : List Value) (h : ∀ v ∈ vs, v.cells.size = s) {i : Nat} (hi : i < vs.length) : ((vs.flatMap fun v => v.cells.toList).drop (i * s)).take s = vs[i].cells.toList := by
  have hl : vs[i].cells.size = s := h _ (List.getElem_mem hi)
  apply List.ext_getElem?
  intro j
  rw [List.getElem?_take]
  by_cases hj : j < s
  · rw [if_pos hj, List.getElem?_drop, Great.flat_get hs vs h]
    have e1 : (i * s + j) / s = i := by rw [Nat.mul_comm, Nat.mul_add_div hs, Nat.div_eq_of_lt hj, Nat.add_zero]
    have e2 : (i * s + j) % s = j := by rw [Nat.mul_comm, Nat.mul_add_mod, Nat.mod_eq_of_lt hj]
    rw [e1, e2, List.getElem?_eq_getElem hi]
    simp
  · rw [if_neg hj, List.getElem?_eq_none (by rw [Array.length_toList]; omega)]
theorem flat_size {s : Nat} : ∀ (vs : List Value), (∀ v ∈ vs, v.cells.size = s) → (vs.flatMap fun v => v.cells.toList).length = vs.length * s
  | [], _ => by simp
  | v :: vs, h => by
    rw [List.flatMap_cons, List.length_append, flat_size vs (fun u hu => h u (List.mem_cons_of_mem _ hu)), Array.length_toList, h v List.mem_cons_self, List.length_cons, Nat.add_mul]
    omega
theorem litD_sound (hs : Sim G B0 M0 w0 gi g st a w) {t : Ty} : ∀ (ps : List (Nat × Operand)) (i : Nat) (xs : List t.den), litD st t ps i = some xs →
    (ps.map fun p => (p.1, a.eval p.2)) = ((ps.map fun p => a.eval p.2).zipIdx i).map (fun x => (x.2, x.1)) ∧ All2 (fun x v => RepV (Mof M0 g) w t x v) xs (ps.map fun p => a.eval p.2)
  | [], i, xs, h => by cases h; exact ⟨rfl, trivial⟩
  | (j, x) :: ps, i, xs, h => by
    simp only [litD] at h
    split at h
    · rename_i hj
      subst hj
      split at h
      · rename_i y hy
        split at h
        · rename_i ys hys
          cases h
          obtain ⟨h1, h2⟩ := litD_sound hs ps (j + 1) ys hys
          exact ⟨by simp only [List.map_cons, List.zipIdx_cons]; rw [h1], hs.dat (hs.ev x) hy, h2⟩
        · cases h
      · cases h
    · cases h
theorem own_row {base : Nat} {e : TypeId} {sz : Nat} {v : Value} {n : Nat} {cs : List Value} (h : w.ownsRow base e sz v n cs) {b : Nat} (hb : v.ownBlock = some b) : b < w.heap.size ∧ ∀ es c, w.heap[b]? ≠ some (.map es c) := by
  rcases h.2 with ⟨e5, _⟩ | ⟨gg, cap, cur, e5, _, hg, _⟩
  · rw [e5] at hb; cases hb
  · rw [e5] at hb
    have : gg = b := by simpa [Value.ownBlock] using hb
    subst this
    exact ⟨lt_of_map hg, fun es c hc => by rw [hg] at hc; cases hc⟩
theorem own_notBM {base : Nat} {e : TypeId} {sz : Nat} {v : Value} {n : Nat} {cs : List Value} (h : w.ownsRow base e sz v n cs) : isBM v = true → False := by
  obtain ⟨A, c, rfl, _⟩ := Row.of_own' h
  intro h; cases h
def loOf (t : Ty) (ex : Bool) (n : Nat) : Nat := match ex with | true => 0 | false => n * t.sz
/-- A new row under a new name, in the slot. -/
theorem new_row {R : Type} {o : Oper} {k : St → Option R} {r : R} {K : Act → World → Prop} (hs : Sim G B0 M0 w0 gi g st a w) (hK : Goes G B0 M0 w0 gi k r K) {n q : Nat} (hq : 1000 ≤ q) (hd : o.dst = some n) {e : TypeId} {t : Ty} {ex : Bool} {xs : List t.den} {w' : World} {v : Value} {cs : List Value}
    (hz : 0 < t.sz) (he : Ext w w') (hown : w'.ownsRow 0 e t.sz v xs.length cs) (hblk : ∀ b, v.ownBlock = some b → w.heap.size ≤ b)
    (hel : ∀ M', Step (Mof M0 g) w M' w' → ∀ i (h : i < xs.length), RepC M' w' t xs[i] ((cs.drop (i * t.sz)).take t.sz)) (h : k ((st.new q (.row e t ex xs)).put (some n) (.row q)) = some r) : K (a.put o.dst v) w' := by
  rw [hd]
  obtain ⟨A, c, hv, _⟩ := Row.of_own' hown
  refine hK _ _ _ _ (Sim.put (hs.newB (r := q) (z := ⟨v.ownBlock, loOf t ex xs.length, v⟩) hq he (blk := .row e t ex xs) (fun b hb => ?_) (fun hst => ⟨hz, cs, hown, rfl, by cases ex <;> rfl, hel _ hst⟩)) (some n) ?_) h
  · exact ⟨hblk b hb, (own_row hown hb).1, fun es c _ => (own_row hown hb).2 es c⟩
  · exact ⟨_, A, _, c, Gh.set_same _ _ _, rfl, hv⟩
theorem nil_wp {R : Type} (hE : EnvOk P G B0 E) {o : Oper} {k : St → Option R} {r : R} {K : Act → World → Prop} {Q : Exit → Act → World → Prop} (hs : Sim G B0 M0 w0 gi g st a w) (hK : Goes G B0 M0 w0 gi k r K)
    (ho : o.op = .assign (.const (.slice none 0 0))) (h : opD E o st k = some r) : o.wp P a w K Q := by
  simp only [opD, ho, putK_eq, newK_eq] at h
  split at h
  · rename_i e t n hT hd
    have he : execOp a.eval o = (do pure (Next.value (← (pure (.slice none 0 0) : Sem Value)))) := by simp [execOp, ho, Act.eval]
    refine wp_ret he (Sem.run_pure _ _ _) ?_
    exact new_row hs hK (Nat.le_add_right _ _) hd (hE.el _ _ _ hT).pos (Ext.refl w) (cs := []) (World.ownsRow_nil _ _ _ _) (fun b hb => by cases hb) (fun _ _ i hi => absurd hi (by simp)) h
  · cases h
theorem buildSlice_wp {R : Type} (hE : EnvOk P G B0 E) {o : Oper} {k : St → Option R} {r : R} {K : Act → World → Prop} {Q : Exit → Act → World → Prop} (hs : Sim G B0 M0 w0 gi g st a w) (hK : Goes G B0 M0 w0 gi k r K)
    {T : TypeId} {n : Nat} {ps : Array (Nat × Operand)} (ho : o.op = .buildSlice T n ps) (h : opD E o st k = some r) : o.wp P a w K Q := by
  simp only [opD, ho, putK_eq, newK_eq] at h
  split at h
  · rename_i e t q hT hd
    obtain ⟨g, st, hs, h⟩ := softsK_sound _ hs h
    split at h
    · rename_i xs hxs
      split at h
      · rename_i hn
        obtain ⟨hn, hsm⟩ := hn
        rcases Nat.eq_zero_or_pos n with h00 | h0
        · have h9 := h
          clear h
          subst h00
          have hel := hE.el _ _ _ hT
          have hz := hel.pos
          obtain ⟨hok, bytes, ⟨hu, _, _, i, z, hi, hiz, hisz, hib, hzs⟩, _⟩ := hel
          have hx0 : xs = [] := List.eq_nil_of_length_eq_zero hn
          subst hx0
          have hps : ps = #[] := by
            have hl := (litD_sound hs _ _ _ hxs).2.len
            simp only [List.length_map, Array.length_toList, List.length_nil] at hl
            exact Array.eq_empty_of_size_eq_zero hl.symm
          subst hps
          have hrun : (Instr.buildSlice T 0 (#[] : Array (Nat × Value))).run P w = .ok (.slice (some ⟨w.heap.size, 0, none⟩) 0 0) (w.alloc (.cells #[] e)) := by
            have hsz := run_sizeOf_ok (w := w) (P := P) hok
            simp [Instr.buildSlice, run_underlying hu, hsz, Instr.fill, newRow]
            rw [show Array.map (fun x => (default : Value)) (Array.range 0) = #[] from Array.eq_empty_of_size_eq_zero (by rw [Array.size_map, Array.size_range])]
          have he : execOp a.eval o = (do pure (Next.value (← Instr.buildSlice T 0 (#[] : Array (Nat × Value))))) := by simp [execOp, ho]
          refine wp_ret he hrun ?_
          refine new_row (xs := []) (cs := []) hs hK (Nat.le_add_right _ _) hd hz ((Ext.refl w).alloc _) ?_ (fun b hb => ?_) (fun M' hst j hj => (by cases hj)) h9
          · exact ⟨by simp, .inr ⟨w.heap.size, 0, _, rfl, Nat.zero_le _, heap_alloc_new _ _, Nat.le_refl _, Nat.zero_le _, by simp, by simp⟩⟩
          · simp only [Value.ownBlock, Option.some.injEq] at hb; omega
        have hel := hE.el _ _ _ hT
        have hz := hel.pos
        obtain ⟨hok, bytes, ⟨hu, _, _, i, z, hi, hiz, hisz, hib, hzs⟩, _⟩ := hel
        obtain ⟨h1, h2⟩ := litD_sound hs _ _ _ hxs
        have hlen : (ps.toList.map fun p => a.eval p.2).length = n := by rw [← hn]; exact h2.len.symm
        have hcells : ∀ v ∈ ps.toList.map (fun p => a.eval p.2), v.cells.size = t.sz := by
          intro v hv
          obtain ⟨j, hj, rfl⟩ := List.getElem_of_mem hv
          obtain ⟨x, _, hx⟩ := h2.get' (List.getElem?_eq_getElem hj)
          have := RepC.len _ _ _ hx.cells
          rwa [Array.length_toList] at this
        have hfill := Great.fill_whole hz (ps.toList.map fun p => a.eval p.2) ((Array.range (n * i.size)).map (z.cells[· % z.cells.size]!)) hcells (by rw [hlen]; simp [hisz])
        have e3 : (ps.map fun (i, x) => (i, a.eval x)).toList = ((ps.toList.map fun p => a.eval p.2).zipIdx 0).map (fun x => (x.2, x.1)) := by rw [Array.toList_map]; exact h1
        have hs1 : ¬ n * i.size > 2 ^ 24 := by rw [hisz]; exact Nat.not_lt.2 hsm
        have hs2 : ¬ n * i.size = 0 := by rw [hisz]; exact Nat.ne_of_gt (Nat.mul_pos h0 hz)
        rw [← e3] at hfill
        have hrun := run_buildSlice (P := P) w T e n (ps.map fun (i, x) => (i, a.eval x)) _ i z hu hi hiz hs1 hs2 (by rw [hisz] at hfill ⊢; exact hfill)
        have he : execOp a.eval o = (do pure (Next.value (← Instr.buildSlice T n (ps.map fun (i, x) => (i, a.eval x))))) := by simp only [execOp, ho]
        refine wp_ret he hrun ?_
        clear hrun he hfill e3
        have hown : (w.alloc (.cells ((ps.toList.map fun p => a.eval p.2).flatMap fun v => v.cells.toList).toArray e)).ownsRow 0 e t.sz (.slice (some ⟨w.heap.size, 0, none⟩) n n) n ((ps.toList.map fun p => a.eval p.2).flatMap fun v => v.cells.toList) := by
          have hfl := flat_size _ hcells
          rw [hlen] at hfl
          refine ⟨hfl, .inr ⟨w.heap.size, n, _, rfl, Nat.zero_le _, heap_alloc_new _ _, Nat.le_refl _, ?_, by simpa using hfl, ?_⟩⟩
          · have : n ≤ n * t.sz := Nat.le_mul_of_pos_right _ hz
            unfold maxLen; omega
          · rw [← hfl]; exact List.take_length
        refine new_row hs hK (Nat.le_add_right _ _) hd hz ((Ext.refl w).alloc _) (by rw [hn]; exact hown) (fun b hb => ?_) (fun M' hst j hj => ?_) h
        · simp only [Value.ownBlock, Option.some.injEq] at hb; omega
        · have hj' : j < (ps.toList.map fun p => a.eval p.2).length := by rw [hlen]; omega
          rw [flat_slices hz _ hcells hj']
          obtain ⟨v, hv, hx⟩ := h2.get (List.getElem?_eq_getElem hj)
          rw [List.getElem?_eq_getElem hj'] at hv
          injection hv with hv
          rw [hv]
          exact RepC.step hst _ _ _ hx.cells
      · cases h
    · cases h
  · cases h
theorem madeCells_get (z : Array Value) (n k : Nat) : (madeCells z n).toList[k]? = if k < n then some (z[k % z.size]!) else none := by
  simp only [madeCells, Array.toList_map, Array.toList_range, List.getElem?_map]
  by_cases h : k < n
  · rw [List.getElem?_eq_getElem (by simpa using h)]; simp [h]
  · rw [List.getElem?_eq_none (by simpa using h)]; simp [h]
theorem makeSlice_wp {R : Type} (hE : EnvOk P G B0 E) {o : Oper} {k : St → Option R} {r : R} {K : Act → World → Prop} {Q : Exit → Act → World → Prop} (hs : Sim G B0 M0 w0 gi g st a w) (hK : Goes G B0 M0 w0 gi k r K)
    {T : TypeId} {n c : Operand} (ho : o.op = .makeSlice T n c) (h : opD E o st k = some r) : o.wp P a w K Q := by
  simp only [opD, ho, putK_eq, newK_eq] at h
  split at h
  · rename_i e t q n' c' hT hd hn hc
    split at h
    · rename_i ds hz0
      rcases br_some h with ⟨hcond, h⟩ | ⟨_, h⟩
      · have hcond' := of_decide_eq_true hcond
        have hel := hE.el _ _ _ hT
        have hz := hel.pos
        obtain ⟨hok, bytes, ⟨hu, _, _, i, z, hi, hiz, hisz, hib, hzs⟩, hby⟩ := hel
        have hn1 := hs.ev n
        have hc1 := hs.ev c
        rw [hn] at hn1
        rw [hc] at hc1
        have hn2 := RepD.int hn1
        have hc2 := RepD.int hc1
        have hzc : z.cells = (zeroC t).toArray := by
          obtain ⟨d, h3, _⟩ := hok
          rw [hi] at h3
          simp only [Option.map_some, Option.some.injEq, Prod.mk.injEq] at h3
          have h4 := h3.2
          rw [hiz] at h4
          injection h4 with h4
          rw [h4, mkV_cells (zeroC_len t) (zeroC_one t)]
        obtain ⟨N, hN⟩ : ∃ N : Int, N = n' := ⟨n', rfl⟩
        obtain ⟨C, hC⟩ : ∃ C : Int, C = c' := ⟨c', rfl⟩
        rw [← hN, ← hC] at hcond'
        rw [← hN] at hn2 h
        rw [← hC] at hc2
        clear hN hC
        obtain ⟨h0', hnc', hcb'⟩ := hcond'
        have h0 : (0 : Int) ≤ N := h0'
        have hnc : N ≤ C := hnc'
        have hcb : C * (24 * t.sz : Nat) ≤ (140737488355328 : Int) := hcb'
        clear h0' hnc' hcb'
        have hzn : z.cells.size = t.sz := by rw [hzc]; simpa using zeroC_len t
        have hc24 : (i.bytes : Int) * C ≤ 281474976710656 := by
          rw [hib]
          have h5 : (bytes : Int) ≤ (24 * t.sz : Nat) := by exact_mod_cast hby
          have h6 : (bytes : Int) * C ≤ (24 * t.sz : Nat) * C := Int.mul_le_mul_of_nonneg_right h5 (by omega)
          rw [Int.mul_comm C] at hcb
          omega
        have hc63 : C ≤ 140737488355328 := by
          have h5 : C * 1 ≤ C * (24 * t.sz : Nat) := Int.mul_le_mul_of_nonneg_left (by omega) (by omega)
          omega
        have hrun := run_make (P := P) w T e i z hu hi hiz .i64 .i64 N C h0 hnc hc24 (by omega)
        have he : execOp a.eval o = (do pure (Next.value (← Instr.makeSlice T (.int .i64 N) (.int .i64 C)))) := by simp only [execOp, ho, hn2, hc2]
        refine wp_ret he hrun ?_
        clear hrun he
        rw [hisz]
        have hlen : (mk0 N (zero t)).length = N.toNat := List.length_replicate
        have hle : N.toNat ≤ C.toNat := Int.toNat_le_toNat hnc
        have hmul : N.toNat * t.sz ≤ C.toNat * t.sz := Nat.mul_le_mul_right _ hle
        refine new_row (cs := (madeCells z.cells (C.toNat * t.sz)).toList.take (N.toNat * t.sz)) hs hK (Nat.le_add_right _ _) hd hz ((Ext.refl w).alloc _) ?_ (fun b hb => ?_) (fun M' hst j hj => ?_) h
        · rw [hlen]
          refine ⟨by rw [List.length_take, Array.length_toList, size_madeCells]; omega, .inr ⟨w.heap.size, C.toNat, _, rfl, Nat.zero_le _, heap_alloc_new _ _, hle, ?_, size_madeCells _ _, rfl⟩⟩
          unfold maxLen; omega
        · simp only [Value.ownBlock, Option.some.injEq] at hb; omega
        · rw [hlen] at hj
          have e0 : (mk0 N (zero t))[j]'(by rw [hlen]; exact hj) = zero t := List.getElem_replicate _
          rw [e0]
          have e1 : (((madeCells z.cells (C.toNat * t.sz)).toList.take (N.toNat * t.sz)).drop (j * t.sz)).take t.sz = zeroC t := by
            have hj2 : j * t.sz + t.sz ≤ N.toNat * t.sz := by
              have : (j + 1) * t.sz ≤ N.toNat * t.sz := Nat.mul_le_mul_right _ hj
              rw [Nat.add_mul] at this; omega
            apply List.ext_getElem?
            intro m
            rw [List.getElem?_take]
            by_cases hm : m < t.sz
            · rw [if_pos hm, List.getElem?_drop, List.getElem?_take, if_pos (by omega), madeCells_get, if_pos (by omega), hzn, Nat.mul_add_mod_of_lt' hm, hzc]
              have : m < (zeroC t).length := by rw [zeroC_len]; exact hm
              simp [this]
            · rw [if_neg hm, List.getElem?_eq_none (by rw [zeroC_len]; omega)]
          rw [e1]
          exact RepC.step hst _ _ _ (zero_sound t ds hz0)
      · cases h
    · cases h
  · cases h
end
end Go.Proofs.YtbekhaioddmliaaDoor
