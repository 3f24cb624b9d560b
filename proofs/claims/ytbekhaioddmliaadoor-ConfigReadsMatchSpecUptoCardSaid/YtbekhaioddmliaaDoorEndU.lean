/- The arguments of a law, with how much they hold together ('bulk'). -/
import Derived.Test.YtbekhaioddmliaaDoorEnd
import Derived.Test.YtbekhaioddmliaaDoorRows
namespace Go.Proofs.YtbekhaioddmliaaDoor
set_option linter.unusedVariables false
set_option linter.unusedSimpArgs false
open Go Go.RowKit Go.ChangeShapes Go.WideShapes
/-- How many values and letters data hold. -/
def bulkG (rb : (i : RC) → i.den → Nat) : (t : Ty) → t.den → Nat
  | .u8, _ => 1
  | .int _, _ => 1
  | .bool, _ => 1
  | .str, x => x.length + 1
  | .sl t, xs => (xs.map (bulkG rb t)).sum + 1
  | .pr a b, x => bulkG rb a x.1 + bulkG rb b x.2
  | .un, _ => 0
  | .mp _, _ => 0
  | .ptr _, _ => 0
  | .np _, _ => 0
  | .clo _ _, _ => 0
  | .rc i, x => rb i x
def RbOk (rb : (i : RC) → i.den → Nat) : Prop := ∀ i x, rb i (i.mk x) ≤ bulkG rb i.body x + 1
def GValue.bulk : GValue → Nat
  | .mk _ t _ l cs => 1 + (t.length + 1 + (1 + ((l.map (·.length + 1)).sum + 1 + ((cs.attach.map (fun c => c.1.1.length + 1 + GValue.bulk c.1.2)).sum + 1)))) + 1
termination_by v => SizeOf.sizeOf v
decreasing_by
  have := List.sizeOf_lt_of_mem c.2
  have h2 : SizeOf.sizeOf c.1 = 1 + SizeOf.sizeOf c.1.1 + SizeOf.sizeOf c.1.2 := by cases c.1; rfl
  simp_wf
  omega
def GExpr.bulk : GExpr → Nat
  | .mk _ t _ l cs => 1 + (t.length + 1 + (1 + ((l.map (·.length + 1)).sum + 1 + ((cs.attach.map (fun c => GExpr.bulk c.1)).sum + 1)))) + 1
termination_by v => SizeOf.sizeOf v
decreasing_by
  have := List.sizeOf_lt_of_mem c.2
  simp_wf
  omega
def GStmt.bulk : GStmt → Nat
  | .mk _ n t l a e b f _ => 1 + (n.length + 1 + (t.length + 1 + ((l.map (·.length + 1)).sum + 1 + ((a.map (fun c => c.1.length + 1 + c.2.bulk)).sum + 1 + (e.bulk + ((b.attach.map (fun c => GStmt.bulk c.1)).sum + 1 + ((f.attach.map (fun c => GStmt.bulk c.1)).sum + 1 + 1))))))) + 1
termination_by v => SizeOf.sizeOf v
decreasing_by
  all_goals
    have := List.sizeOf_lt_of_mem c.2
    simp_wf
    omega
def rbC : (i : RC) → i.den → Nat
  | .value, x => GValue.bulk x
  | .expr, x => GExpr.bulk x
  | .stmt, x => GStmt.bulk x
theorem attach_map {α β : Type} (f : α → β) (l : List α) : l.attach.map (fun c => f c.1) = l.map f := by
  rw [show (fun c : {x // x ∈ l} => f c.1) = f ∘ Subtype.val from rfl, ← List.map_map, List.attach_map_subtype_val]
theorem rbC_ok : RbOk rbC := by
  intro i x
  cases i with
  | value =>
    obtain ⟨k, t, n, l, cs⟩ := x
    have e : GValue.bulk (.mk k t n l cs) = bulkG rbC RC.value.body ((k, t, n, l, cs) : RC.value.body.den) + 1 := by
      rw [GValue.bulk, attach_map (fun c : Str × GValue => c.1.length + 1 + GValue.bulk c.2) cs]; rfl
    exact Nat.le_of_eq e
  | expr =>
    obtain ⟨k, t, n, l, cs⟩ := x
    have e : GExpr.bulk (.mk k t n l cs) = bulkG rbC RC.expr.body ((k, t, n, l, cs) : RC.expr.body.den) + 1 := by
      rw [GExpr.bulk, attach_map (fun c : GExpr => GExpr.bulk c) cs]; rfl
    exact Nat.le_of_eq e
  | stmt =>
    obtain ⟨k, n, t, l, a, e, b, f, p⟩ := x
    have e : GStmt.bulk (.mk k n t l a e b f p) = bulkG rbC RC.stmt.body ((k, n, t, l, a, e, b, f, p) : RC.stmt.body.den) + 1 := by
      rw [GStmt.bulk, attach_map (fun c : GStmt => GStmt.bulk c) b, attach_map (fun c : GStmt => GStmt.bulk c) f]; rfl
    exact Nat.le_of_eq e
section
variable {H : Type} {enc : TypeId × Value → H} {P : Program} {w : World} {spare : Nat → Bool} {held : Bool} {R : RC → Option TypeId} {rb : (i : RC) → i.den → Nat}
theorem uptoAll_cons (d : DataW H) (r : List (DataW H)) : Rows.uptoBulkAll (d :: r) = Rows.uptoBulk d + Rows.uptoBulkAll r := by simp [Rows.uptoBulkAll]
theorem uptoAll_nil : Rows.uptoBulkAll ([] : List (DataW H)) = 0 := by simp [Rows.uptoBulkAll]
theorem sum_le {α : Type} (f : α → Nat) : ∀ (l : List α) (e : List (DataW H × List MemPlace)), l.length = e.length → (∀ i (h : i < l.length) (h' : i < e.length), f l[i] ≤ Rows.uptoBulk e[i].1) → (l.map f).sum ≤ Rows.uptoBulkAll (e.map (·.1))
  | [], e, _, _ => by simp
  | x :: l, [], h, _ => by simp at h
  | x :: l, y :: e, h, hf => by
    have h0 := hf 0 (by simp) (by simp)
    have ih := sum_le f l e (by simpa using h) (fun i h1 h2 => by have := hf (i + 1) (by simpa using h1) (by simpa using h2); simpa using this)
    simp only [List.map_cons, List.sum_cons, uptoAll_cons]
    simp only [List.getElem_cons_zero] at h0
    omega
theorem fields_bulk {fuel : Nat} {cs : List Value}
    (ih : ∀ (t : Ty) (T : TypeId) (cs : List Value) (x : DataW H × List MemPlace), Deep P R t T → DataW.trod enc P w 0 spare held fuel T cs = some x → ∃ d : t.den, RepC M00 w t d cs ∧ Fit t d ∧ bulkG rb t d ≤ Rows.uptoBulk x.1) :
    ∀ (fs : List Field) (t : Ty) (o : Nat) (xs : List (DataW H × List MemPlace)), DeepF P R t fs o →
      (fs.mapM fun f => DataW.trod enc P w 0 spare held fuel f.type ((cs.drop f.offset).take (P.cellsOf f.type))) = some xs → ∃ d : t.den, RepC M00 w t d ((cs.drop o).take t.sz) ∧ Fit t d ∧ bulkG rb t d ≤ Rows.uptoBulkAll (xs.map (·.1)) := by
  intro fs
  induction fs with
  | nil =>
    intro t o xs hd _
    cases hd
    exact ⟨(), List.take_zero, trivial, Nat.zero_le _⟩
  | cons f fs hfs =>
    intro t o xs hd hm
    obtain ⟨y, ys, hy, hys, rfl⟩ : ∃ y ys, DataW.trod enc P w 0 spare held fuel f.type ((cs.drop f.offset).take (P.cellsOf f.type)) = some y ∧ (fs.mapM fun f => DataW.trod enc P w 0 spare held fuel f.type ((cs.drop f.offset).take (P.cellsOf f.type))) = some ys ∧ xs = y :: ys := by
      rw [List.mapM_cons] at hm
      cases hy : DataW.trod enc P w 0 spare held fuel f.type ((cs.drop f.offset).take (P.cellsOf f.type)) with
      | none => rw [hy] at hm; cases hm
      | some y =>
        rw [hy] at hm
        cases hys : (fs.mapM fun f => DataW.trod enc P w 0 spare held fuel f.type ((cs.drop f.offset).take (P.cellsOf f.type))) with
        | none => rw [hys] at hm; cases hm
        | some ys => rw [hys] at hm; exact ⟨y, ys, rfl, rfl, (Option.some.inj hm).symm⟩
    rw [List.map_cons, uptoAll_cons]
    cases hd with
    | one ho hc h1 =>
      rw [ho, hc] at hy
      obtain ⟨d, h1, h2, h3⟩ := ih _ _ _ _ h1 hy
      exact ⟨d, h1, h2, by omega⟩
    | single ho hc h1 =>
      rw [ho, hc] at hy
      obtain ⟨d, hd1, hd2, hd3⟩ := ih _ _ _ _ h1 hy
      refine ⟨(d, ()), ⟨_, [], (List.append_nil _).symm, hd1, rfl⟩, ⟨hd2, trivial⟩, ?_⟩
      show bulkG rb _ d + 0 ≤ _
      omega
    | @cons a b _ _ _ ho hc h1 h2 =>
      rw [ho, hc] at hy
      obtain ⟨d, hd1, hd2, hd3⟩ := ih _ _ _ _ h1 hy
      obtain ⟨e, he1, he2, he3⟩ := hfs _ _ _ h2 hys
      refine ⟨(d, e), ⟨_, _, ?_, hd1, he1⟩, ⟨hd2, he2⟩, ?_⟩
      · show (cs.drop o).take (a.sz + b.sz) = _
        rw [List.take_add, List.drop_drop]
      · show bulkG rb a d + bulkG rb b e ≤ _
        omega
theorem trod_bulk (hR : RcOk P R) (hrb : RbOk rb) : ∀ (fuel : Nat) (t : Ty) (T : TypeId) (cs : List Value) (x : DataW H × List MemPlace), Deep P R t T → DataW.trod enc P w 0 spare held fuel T cs = some x →
    ∃ d : t.den, RepC M00 w t d cs ∧ Fit t d ∧ bulkG rb t d ≤ Rows.uptoBulk x.1 := by
  intro fuel
  induction fuel with
  | zero => intro t T cs x _ h; cases h
  | succ fuel ih =>
    intro t T cs x hd h
    have hstruct : ∀ (t : Ty) (fs : Array Field), P.underlying T = some (.struct fs) → P.cellsOf T = t.sz → DeepF P R t fs.toList 0 → ∃ d : t.den, RepC M00 w t d cs ∧ Fit t d ∧ bulkG rb t d + 1 ≤ Rows.uptoBulk x.1 := fun t fs hu hc hf => by
      unfold DataW.trod at h
      simp only [hu] at h
      split at h
      · rename_i hl
        cases hm : (fs.toList.mapM fun f => DataW.trod enc P w 0 spare held fuel f.type ((cs.drop f.offset).take (P.cellsOf f.type))) with
        | none => rw [hm] at h; cases h
        | some xs =>
          rw [hm] at h
          obtain ⟨d, h1, h2, h3⟩ := fields_bulk ih fs.toList t 0 xs hf hm
          rw [List.drop_zero, List.take_of_length_le (by omega)] at h1
          refine ⟨d, h1, h2, ?_⟩
          injection h with h
          subst h
          simp only [Rows.uptoBulk]
          omega
      · cases h
    cases hd with
    | u8 hu =>
      have hx : ∃ n, cs = [.int .u8 n] ∧ (Lit.int .u8 n).wf = true ∧ x.1 = .lit (.int .u8 n) := by
        unfold DataW.trod at h
        split at h
        all_goals try (simp_all; done)
        rename_i k' n hu2
        rw [hu] at hu2
        cases hu2
        split at h
        · rename_i hc
          obtain ⟨rfl, hc⟩ := hc
          exact ⟨n, rfl, hc, by injection h with h; rw [← h]⟩
        · cases h
      obtain ⟨n, rfl, hn, hx⟩ := hx
      refine ⟨UInt8.ofNat n.toNat, ?_, trivial, by rw [hx]; simp [Rows.uptoBulk, bulkG]⟩
      show [Value.int .u8 n] = [Value.int .u8 (UInt8.ofNat n.toNat).toNat]
      simp [Lit.wf, IntKind.min, IntKind.max, IntKind.signed, IntKind.bits] at hn
      have : ((UInt8.ofNat n.toNat).toNat : Int) = n := by simp; omega
      rw [this]
    | @int _ k hu =>
      have hx : ∃ n, cs = [.int k n] ∧ (Lit.int k n).wf = true ∧ x.1 = .lit (.int k n) := by
        unfold DataW.trod at h
        split at h
        all_goals try (simp_all; done)
        rename_i k1 k' n hu2
        rw [hu] at hu2
        cases hu2
        split at h
        · rename_i hc
          obtain ⟨rfl, hc⟩ := hc
          exact ⟨n, rfl, hc, by injection h with h; rw [← h]⟩
        · cases h
      obtain ⟨n, rfl, hn, hx⟩ := hx
      exact ⟨n, rfl, hn, by rw [hx]; simp [Rows.uptoBulk, bulkG]⟩
    | bool hu =>
      have hx : ∃ b, cs = [.bool b] ∧ x.1 = .lit (.bool b) := by
        unfold DataW.trod at h
        split at h
        all_goals try (simp_all; done)
        injection h with h
        exact ⟨_, rfl, by rw [← h]⟩
      obtain ⟨b, rfl, hx⟩ := hx
      exact ⟨b, rfl, trivial, by rw [hx]; simp [Rows.uptoBulk, bulkG]⟩
    | str hu =>
      have hx : ∃ s : ByteArray, cs = [.string s] ∧ s.size ≤ maxLen ∧ x.1 = .lit (.string s.data.toList) := by
        unfold DataW.trod at h
        split at h
        all_goals try (simp_all; done)
        split at h
        · rename_i hc
          injection h with h
          exact ⟨_, rfl, hc, by rw [← h]⟩
        · cases h
      obtain ⟨s, rfl, hn, hx⟩ := hx
      refine ⟨s.data.toList, ?_, ?_, by rw [hx]; simp [Rows.uptoBulk, bulkG]⟩
      · show [Value.string s] = [Value.string ⟨s.data.toList.toArray⟩]
        simp
      · show s.data.toList.length ≤ maxLen
        simpa using hn
    | @sl _ e t hu hc he =>
      have hx : (cs = [.slice none 0 0] ∧ x.1 = .nil) ∨ ∃ a len cap elems rest, cs = [.slice (some a) len cap] ∧ len ≤ cap ∧ cap ≤ maxLen ∧
          ((List.range len).mapM fun i => (w.cells? 0 (a.add (i * P.cellsOf e)) (P.cellsOf e)).bind (DataW.trod enc P w 0 spare held fuel e)) = some elems ∧ x.1 = .slice (elems.map (·.1)) rest := by
        unfold DataW.trod at h
        split at h
        all_goals try (simp_all; done)
        · injection h with h
          exact .inl ⟨rfl, by rw [← h]⟩
        · rename_i hu2
          rw [hu] at hu2
          cases hu2
          simp only at h
          split at h
          · rename_i hb
            right
            cases hm : ((List.range _).mapM fun i => (w.cells? 0 (Addr.add _ (i * P.cellsOf e)) (P.cellsOf e)).bind (DataW.trod enc P w 0 spare held fuel e)) with
            | none => rw [hm] at h; cases h
            | some ys =>
              rw [hm] at h
              simp only [Option.bind_some, Option.map_eq_some_iff] at h
              obtain ⟨rest, _, h⟩ := h
              exact ⟨_, _, _, ys, rest.map (·.1), rfl, hb.2.1, hb.2.2, hm, by rw [← h]⟩
          · cases h
      rcases hx with ⟨rfl, hx⟩ | ⟨a, len, cap, elems, rest, rfl, h1, h2, hm, hx⟩
      · refine ⟨[], ⟨none, 0, rfl, Nat.le_refl _, Nat.zero_le _, fun i h => absurd h (Nat.not_lt_zero _)⟩, ⟨Nat.zero_le _, fun x h => (by cases h)⟩, ?_⟩
        rw [hx]; simp [Rows.uptoBulk, bulkG]
      · have hl := mapM_some_length hm
        rw [List.length_range] at hl
        have hall : ∀ i, i < len → ∃ d : t.den, (∃ es, RepC M00 w t d es ∧ Pl M00 w (a.add (i * t.sz)) es) ∧ Fit t d ∧ ∀ h : i < elems.length, bulkG rb t d ≤ Rows.uptoBulk elems[i].1 := fun i hi => by
          have hi' : i < elems.length := by omega
          have hy := mapM_some_get hm i i (by rw [List.getElem?_range hi])
          rw [List.getElem?_eq_getElem hi'] at hy
          simp only [hc] at hy
          cases hcs : w.cells? 0 (a.add (i * t.sz)) t.sz with
          | none => rw [hcs] at hy; cases hy
          | some es =>
            rw [hcs] at hy
            obtain ⟨d, hd1, hd2, hd3⟩ := ih _ _ _ _ he hy
            exact ⟨d, ⟨es, hd1, pl_of_cells hcs⟩, hd2, fun _ => hd3⟩
        obtain ⟨l, hll, hp⟩ := choose_list len hall
        refine ⟨l, ⟨some a, cap, ?_, by omega, h2, fun i hi => ?_⟩, ⟨?_, fun x hx => ?_⟩, ?_⟩
        · rw [hll]
        · obtain ⟨⟨es, e1, e2⟩, _⟩ := hp i hi
          exact ⟨a, es, rfl, e1, e2⟩
        · show l.length ≤ maxLen; omega
        · obtain ⟨i, hi, rfl⟩ := List.getElem_of_mem hx
          exact (hp i hi).2.1
        · rw [hx]
          simp only [Rows.uptoBulk, bulkG]
          have := sum_le (bulkG rb t) l elems (by omega) (fun i h1 h2 => (hp i h1).2.2 h2)
          omega
    | st hu hc ha hf =>
      obtain ⟨d, h1, h2, h3⟩ := hstruct t _ hu hc hf
      exact ⟨d, h1, h2, by omega⟩
    | rc hr =>
      obtain ⟨fs, hu, hc, hf⟩ := hR _ _ hr
      rename_i i
      obtain ⟨d, h1, h2, h3⟩ := hstruct i.body fs hu (by rw [hc, RC.sz_body]) hf
      refine ⟨i.mk d, RepC.rc.2 (by rw [RC.un_mk]; exact h1), FitR.intro (by rw [RC.un_mk]; exact h2), ?_⟩
      have := hrb i d
      show rb i (i.mk d) ≤ _
      omega
/-- An argument, with how much it holds. -/
theorem arg_openU (hR : RcOk P R) (hrb : RbOk rb) {r : Reach} {base : Nat} {t : Ty} {T : TypeId} {v : Value} {d : DataW H} {p : List MemPlace} (hd : Deep P R t T) (hv : Value.okWide P w r base T v) (h : DataW.Trod enc P w 0 spare held T v d p) :
    ∃ x : t.den, RepV M00 w t x v ∧ Fit t x ∧ bulkG rb t x ≤ Rows.uptoBulk d := by
  obtain ⟨fuel, hf⟩ := h
  obtain ⟨x, h1, h2, h3⟩ := trod_bulk hR hrb fuel t T _ _ hd hf
  refine ⟨x, ⟨_, h1, ?_⟩, h2, h3⟩
  have hagg : ∀ fs, P.underlying T = some (.struct fs) → t.isAgg = true → v = mkV t v.cells.toList := fun fs hu ha => by
    obtain ⟨cs, rfl, _⟩ := okWide_struct hu hv
    rw [mkV_agg ha]
    simp [Value.cells]
  have hone : ∀ c : Value, v = c → c.cells = #[c] → t.isAgg = false → v = mkV t v.cells.toList := fun c e hc ha => by
    subst e
    rw [hc, mkV_plain ha]
  cases hd with
  | u8 hu => obtain ⟨n, rfl⟩ := okWide_int hu hv; exact hone _ rfl rfl rfl
  | int hu => obtain ⟨n, rfl⟩ := okWide_int hu hv; exact hone _ rfl rfl rfl
  | bool hu => obtain ⟨n, rfl⟩ := okWide_bool hu hv; exact hone _ rfl rfl rfl
  | str hu => obtain ⟨n, rfl⟩ := okWide_string hu hv; exact hone _ rfl rfl rfl
  | sl hu _ _ => obtain ⟨a, l, c, rfl⟩ := okWide_slice hu hv; exact hone _ rfl rfl rfl
  | st hu _ ha _ => exact hagg _ hu ha
  | rc hr => obtain ⟨fs, hu, _⟩ := hR _ _ hr; exact hagg _ hu rfl
end
end Go.Proofs.YtbekhaioddmliaaDoor
