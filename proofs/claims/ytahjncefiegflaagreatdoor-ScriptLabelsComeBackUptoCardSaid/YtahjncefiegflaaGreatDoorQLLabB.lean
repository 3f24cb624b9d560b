/- The arguments of a law, with how much they hold together ('bulk'). -/
import Derived.Test.YtahjncefiegflaaGreatDoorQEnd
import Derived.Test.YtahjncefiegflaaGreatDoorRows
import Derived.Test.YtahjncefiegflaaGreatDoorQFor2
namespace Go.Proofs.YtahjncefiegflaaGreatDoor
set_option linter.unusedVariables false
set_option linter.unusedSimpArgs false
open Go Go.RowKit Go.ChangeShapes Go.WideShapes
/-- How many values and letters data hold. -/
def bulkG (rb : (i : RC) → i.den → Nat) : (t : Ty) → t.den → Nat
  | .u8, _ => 1
  | .int _, _ => 1
  | .bool, _ => 1
  | .str, x => x.length + 1
  | .sl t, xs => (xs.map (bulkG rb t)).sum + 1
  | .pr a b, x => bulkG rb a x.1 + bulkG rb b x.2
  | .un, _ => 0
  | .mp _, _ => 0
  | .ptr _, _ => 0
  | .np _, _ => 0
  | .clo _ _, _ => 0
  | .rc i, x => rb i x
def RbOk (rb : (i : RC) → i.den → Nat) : Prop := ∀ i x, rb i (i.mk x) ≤ bulkG rb i.body x + 1
def GValue.bulk : GValue → Nat
  | .mk _ t _ l cs => 1 + (t.length + 1 + (1 + ((l.map (·.length + 1)).sum + 1 + ((cs.attach.map (fun c => c.1.1.length + 1 + GValue.bulk c.1.2)).sum + 1)))) + 1
termination_by v => SizeOf.sizeOf v
decreasing_by
  have := List.sizeOf_lt_of_mem c.2
  have h2 : SizeOf.sizeOf c.1 = 1 + SizeOf.sizeOf c.1.1 + SizeOf.sizeOf c.1.2 := by cases c.1; rfl
  simp_wf
  omega
def GExpr.bulk : GExpr → Nat
  | .mk _ t _ l cs => 1 + (t.length + 1 + (1 + ((l.map (·.length + 1)).sum + 1 + ((cs.attach.map (fun c => GExpr.bulk c.1)).sum + 1)))) + 1
termination_by v => SizeOf.sizeOf v
decreasing_by
  have := List.sizeOf_lt_of_mem c.2
  simp_wf
  omega
def GStmt.bulk : GStmt → Nat
  | .mk _ n t l a e b f _ => 1 + (n.length + 1 + (t.length + 1 + ((l.map (·.length + 1)).sum + 1 + ((a.map (fun c => c.1.length + 1 + c.2.bulk)).sum + 1 + (e.bulk + ((b.attach.map (fun c => GStmt.bulk c.1)).sum + 1 + ((f.attach.map (fun c => GStmt.bulk c.1)).sum + 1 + 1))))))) + 1
termination_by v => SizeOf.sizeOf v
decreasing_by
  all_goals
    have := List.sizeOf_lt_of_mem c.2
    simp_wf
    omega
def rbC : (i : RC) → i.den → Nat
  | .value, x => GValue.bulk x
  | .expr, x => GExpr.bulk x
  | .stmt, x => GStmt.bulk x
  | .part, _ => 0
theorem attach_map {α β : Type} (f : α → β) (l : List α) : l.attach.map (fun c => f c.1) = l.map f := by
  rw [show (fun c : {x // x ∈ l} => f c.1) = f ∘ Subtype.val from rfl, ← List.map_map, List.attach_map_subtype_val]
theorem rbC_ok : RbOk rbC := by
  intro i x
  cases i with
  | value =>
    obtain ⟨k, t, n, l, cs⟩ := x
    have e : GValue.bulk (.mk k t n l cs) = bulkG rbC RC.value.body ((k, t, n, l, cs) : RC.value.body.den) + 1 := by
      rw [GValue.bulk, attach_map (fun c : Str × GValue => c.1.length + 1 + GValue.bulk c.2) cs]; rfl
    exact Nat.le_of_eq e
  | expr =>
    obtain ⟨k, t, n, l, cs⟩ := x
    have e : GExpr.bulk (.mk k t n l cs) = bulkG rbC RC.expr.body ((k, t, n, l, cs) : RC.expr.body.den) + 1 := by
      rw [GExpr.bulk, attach_map (fun c : GExpr => GExpr.bulk c) cs]; rfl
    exact Nat.le_of_eq e
  | stmt =>
    obtain ⟨k, n, t, l, a, e, b, f, p⟩ := x
    have e : GStmt.bulk (.mk k n t l a e b f p) = bulkG rbC RC.stmt.body ((k, n, t, l, a, e, b, f, p) : RC.stmt.body.den) + 1 := by
      rw [GStmt.bulk, attach_map (fun c : GStmt => GStmt.bulk c) b, attach_map (fun c : GStmt => GStmt.bulk c) f]; rfl
    exact Nat.le_of_eq e
  | part => exact Nat.zero_le _
section
variable {H : Type} {enc : TypeId × Value → H} {P : Program} {w : World} {spare : Nat → Bool} {held : Bool} {R : RC → Option TypeId} {rb : (i : RC) → i.den → Nat}
theorem uptoAll_cons (d : DataW H) (r : List (DataW H)) : Rows.uptoBulkAll (d :: r) = Rows.uptoBulk d + Rows.uptoBulkAll r := by simp [Rows.uptoBulkAll]
theorem uptoAll_nil : Rows.uptoBulkAll ([] : List (DataW H)) = 0 := by simp [Rows.uptoBulkAll]
theorem sum_le {α : Type} (f : α → Nat) : ∀ (l : List α) (e : List (DataW H × List MemPlace)), l.length = e.length → (∀ i (h : i < l.length) (h' : i < e.length), f l[i] ≤ Rows.uptoBulk e[i].1) → (l.map f).sum ≤ Rows.uptoBulkAll (e.map (·.1))
  | [], e, _, _ => by simp
  | x :: l, [], h, _ => by simp at h
  | x :: l, y :: e, h, hf => by
    have h0 := hf 0 (by simp) (by simp)
    have ih := sum_le f l e (by simpa using h) (fun i h1 h2 => by have := hf (i + 1) (by simpa using h1) (by simpa using h2); simpa using this)
    simp only [List.map_cons, List.sum_cons, uptoAll_cons]
    simp only [List.getElem_cons_zero] at h0
    omega
theorem fields_bulk {fuel : Nat} {cs : List Value}
    (ih : ∀ (t : Ty) (T : TypeId) (cs : List Value) (x : DataW H × List MemPlace), Deep P R t T → DataW.trod enc P w 0 spare held fuel T cs = some x → ∃ d : t.den, RepC M00 w t d cs ∧ Fit t d ∧ bulkG rb t d ≤ Rows.uptoBulk x.1) :
    ∀ (fs : List Field) (t : Ty) (o : Nat) (xs : List (DataW H × List MemPlace)), DeepF P R t fs o →
      (fs.mapM fun f => DataW.trod enc P w 0 spare held fuel f.type ((cs.drop f.offset).take (P.cellsOf f.type))) = some xs → ∃ d : t.den, RepC M00 w t d ((cs.drop o).take t.sz) ∧ Fit t d ∧ bulkG rb t d ≤ Rows.uptoBulkAll (xs.map (·.1)) := by
  intro fs
  induction fs with
  | nil =>
    intro t o xs hd _
    cases hd
    exact ⟨(), List.take_zero, trivial, Nat.zero_le _⟩
  | cons f fs hfs =>
    intro t o xs hd hm
    obtain ⟨y, ys, hy, hys, rfl⟩ : ∃ y ys, DataW.trod enc P w 0 spare held fuel f.type ((cs.drop f.offset).take (P.cellsOf f.type)) = some y ∧ (fs.mapM fun f => DataW.trod enc P w 0 spare held fuel f.type ((cs.drop f.offset).take (P.cellsOf f.type))) = some ys ∧ xs = y :: ys := by
      rw [List.mapM_cons] at hm
      cases hy : DataW.trod enc P w 0 spare held fuel f.type ((cs.drop f.offset).take (P.cellsOf f.type)) with
      | none => rw [hy] at hm; cases hm
      | some y =>
        rw [hy] at hm
        cases hys : (fs.mapM fun f => DataW.trod enc P w 0 spare held fuel f.type ((cs.drop f.offset).take (P.cellsOf f.type))) with
        | none => rw [hys] at hm; cases hm
        | some ys => rw [hys] at hm; exact ⟨y, ys, rfl, rfl, (Option.some.inj hm).symm⟩
    rw [List.map_cons, uptoAll_cons]
    cases hd with
    | one ho hc h1 =>
      rw [ho, hc] at hy
      obtain ⟨d, h1, h2, h3⟩ := ih _ _ _ _ h1 hy
      exact ⟨d, h1, h2, by omega⟩
    | single ho hc h1 =>
      rw [ho, hc] at hy
      obtain ⟨d, hd1, hd2, hd3⟩ := ih _ _ _ _ h1 hy
      refine ⟨(d, ()), ⟨_, [], (List.append_nil _).symm, hd1, rfl⟩, ⟨hd2, trivial⟩, ?_⟩
      show bulkG rb _ d + 0 ≤ _
      omega
    | @cons a b _ _ _ ho hc h1 h2 =>
      rw [ho, hc] at hy
      obtain ⟨d, hd1, hd2, hd3⟩ := ih _ _ _ _ h1 hy
      obtain ⟨e, he1, he2, he3⟩ := hfs _ _ _ h2 hys
      refine ⟨(d, e), ⟨_, _, ?_, hd1, he1⟩, ⟨hd2, he2⟩, ?_⟩
      · show (cs.drop o).take (a.sz + b.sz) = _
        rw [List.take_add, List.drop_drop]
      · show bulkG rb a d + bulkG rb b e ≤ _
        omega
theorem trod_bulk (hR : RcOk P R) (hrb : RbOk rb) : ∀ (fuel : Nat) (t : Ty) (T : TypeId) (cs : List Value) (x : DataW H × List MemPlace), Deep P R t T → DataW.trod enc P w 0 spare held fuel T cs = some x →
    ∃ d : t.den, RepC M00 w t d cs ∧ Fit t d ∧ bulkG rb t d ≤ Rows.uptoBulk x.1 := by
  intro fuel
  induction fuel with
  | zero => intro t T cs x _ h; cases h
  | succ fuel ih =>
    intro t T cs x hd h
    have hstruct : ∀ (t : Ty) (fs : Array Field), P.underlying T = some (.struct fs) → P.cellsOf T = t.sz → DeepF P R t fs.toList 0 → ∃ d : t.den, RepC M00 w t d cs ∧ Fit t d ∧ bulkG rb t d + 1 ≤ Rows.uptoBulk x.1 := fun t fs hu hc hf => by
      unfold DataW.trod at h
      simp only [hu] at h
      split at h
      · rename_i hl
        cases hm : (fs.toList.mapM fun f => DataW.trod enc P w 0 spare held fuel f.type ((cs.drop f.offset).take (P.cellsOf f.type))) with
        | none => rw [hm] at h; cases h
        | some xs =>
          rw [hm] at h
          obtain ⟨d, h1, h2, h3⟩ := fields_bulk ih fs.toList t 0 xs hf hm
          rw [List.drop_zero, List.take_of_length_le (by omega)] at h1
          refine ⟨d, h1, h2, ?_⟩
          injection h with h
          subst h
          simp only [Rows.uptoBulk]
          omega
      · cases h
    cases hd with
    | u8 hu =>
      have hx : ∃ n, cs = [.int .u8 n] ∧ (Lit.int .u8 n).wf = true ∧ x.1 = .lit (.int .u8 n) := by
        unfold DataW.trod at h
        split at h
        all_goals try (simp_all; done)
        rename_i k' n hu2
        rw [hu] at hu2
        cases hu2
        split at h
        · rename_i hc
          obtain ⟨rfl, hc⟩ := hc
          exact ⟨n, rfl, hc, by injection h with h; rw [← h]⟩
        · cases h
      obtain ⟨n, rfl, hn, hx⟩ := hx
      refine ⟨UInt8.ofNat n.toNat, ?_, trivial, by rw [hx]; simp [Rows.uptoBulk, bulkG]⟩
      show [Value.int .u8 n] = [Value.int .u8 (UInt8.ofNat n.toNat).toNat]
      simp [Lit.wf, IntKind.min, IntKind.max, IntKind.signed, IntKind.bits] at hn
      have : ((UInt8.ofNat n.toNat).toNat : Int) = n := by simp; omega
      rw [this]
    | @int _ k hu =>
      have hx : ∃ n, cs = [.int k n] ∧ (Lit.int k n).wf = true ∧ x.1 = .lit (.int k n) := by
        unfold DataW.trod at h
        split at h
        all_goals try (simp_all; done)
        rename_i k1 k' n hu2
        rw [hu] at hu2
        cases hu2
        split at h
        · rename_i hc
          obtain ⟨rfl, hc⟩ := hc
          exact ⟨n, rfl, hc, by injection h with h; rw [← h]⟩
        · cases h
      obtain ⟨n, rfl, hn, hx⟩ := hx
      exact ⟨n, rfl, hn, by rw [hx]; simp [Rows.uptoBulk, bulkG]⟩
    | bool hu =>
      have hx : ∃ b, cs = [.bool b] ∧ x.1 = .lit (.bool b) := by
        unfold DataW.trod at h
        split at h
        all_goals try (simp_all; done)
        injection h with h
        exact ⟨_, rfl, by rw [← h]⟩
      obtain ⟨b, rfl, hx⟩ := hx
      exact ⟨b, rfl, trivial, by rw [hx]; simp [Rows.uptoBulk, bulkG]⟩
    | str hu =>
      have hx : ∃ s : ByteArray, cs = [.string s] ∧ s.size ≤ maxLen ∧ x.1 = .lit (.string s.data.toList) := by
        unfold DataW.trod at h
        split at h
        all_goals try (simp_all; done)
        split at h
        · rename_i hc
          injection h with h
          exact ⟨_, rfl, hc, by rw [← h]⟩
        · cases h
      obtain ⟨s, rfl, hn, hx⟩ := hx
      refine ⟨s.data.toList, ?_, ?_, by rw [hx]; simp [Rows.uptoBulk, bulkG]⟩
      · show [Value.string s] = [Value.string ⟨s.data.toList.toArray⟩]
        simp
      · show s.data.toList.length ≤ maxLen
        simpa using hn
    | @sl _ e t hu hc he =>
      have hx : (cs = [.slice none 0 0] ∧ x.1 = .nil) ∨ ∃ a len cap elems rest, cs = [.slice (some a) len cap] ∧ len ≤ cap ∧ cap ≤ maxLen ∧
          ((List.range len).mapM fun i => (w.cells? 0 (a.add (i * P.cellsOf e)) (P.cellsOf e)).bind (DataW.trod enc P w 0 spare held fuel e)) = some elems ∧ x.1 = .slice (elems.map (·.1)) rest := by
        unfold DataW.trod at h
        split at h
        all_goals try (simp_all; done)
        · injection h with h
          exact .inl ⟨rfl, by rw [← h]⟩
        · rename_i hu2
          rw [hu] at hu2
          cases hu2
          simp only at h
          split at h
          · rename_i hb
            right
            cases hm : ((List.range _).mapM fun i => (w.cells? 0 (Addr.add _ (i * P.cellsOf e)) (P.cellsOf e)).bind (DataW.trod enc P w 0 spare held fuel e)) with
            | none => rw [hm] at h; cases h
            | some ys =>
              rw [hm] at h
              simp only [Option.bind_some, Option.map_eq_some_iff] at h
              obtain ⟨rest, _, h⟩ := h
              exact ⟨_, _, _, ys, rest.map (·.1), rfl, hb.2.1, hb.2.2, hm, by rw [← h]⟩
          · cases h
      rcases hx with ⟨rfl, hx⟩ | ⟨a, len, cap, elems, rest, rfl, h1, h2, hm, hx⟩
      · refine ⟨[], ⟨none, 0, rfl, Nat.le_refl _, Nat.zero_le _, fun i h => absurd h (Nat.not_lt_zero _)⟩, ⟨Nat.zero_le _, fun x h => (by cases h)⟩, ?_⟩
        rw [hx]; simp [Rows.uptoBulk, bulkG]
      · have hl := mapM_some_length hm
        rw [List.length_range] at hl
        have hall : ∀ i, i < len → ∃ d : t.den, (∃ es, RepC M00 w t d es ∧ Pl M00 w (a.add (i * t.sz)) es) ∧ Fit t d ∧ ∀ h : i < elems.length, bulkG rb t d ≤ Rows.uptoBulk elems[i].1 := fun i hi => by
          have hi' : i < elems.length := by omega
          have hy := mapM_some_get hm i i (by rw [List.getElem?_range hi])
          rw [List.getElem?_eq_getElem hi'] at hy
          simp only [hc] at hy
          cases hcs : w.cells? 0 (a.add (i * t.sz)) t.sz with
          | none => rw [hcs] at hy; cases hy
          | some es =>
            rw [hcs] at hy
            obtain ⟨d, hd1, hd2, hd3⟩ := ih _ _ _ _ he hy
            exact ⟨d, ⟨es, hd1, pl_of_cells hcs⟩, hd2, fun _ => hd3⟩
        obtain ⟨l, hll, hp⟩ := choose_list len hall
        refine ⟨l, ⟨some a, cap, ?_, by omega, h2, fun i hi => ?_⟩, ⟨?_, fun x hx => ?_⟩, ?_⟩
        · rw [hll]
        · obtain ⟨⟨es, e1, e2⟩, _⟩ := hp i hi
          exact ⟨a, es, rfl, e1, e2⟩
        · show l.length ≤ maxLen; omega
        · obtain ⟨i, hi, rfl⟩ := List.getElem_of_mem hx
          exact (hp i hi).2.1
        · rw [hx]
          simp only [Rows.uptoBulk, bulkG]
          have := sum_le (bulkG rb t) l elems (by omega) (fun i h1 h2 => (hp i h1).2.2 h2)
          omega
    | st hu hc ha hf =>
      obtain ⟨d, h1, h2, h3⟩ := hstruct t _ hu hc hf
      exact ⟨d, h1, h2, by omega⟩
    | rc hr =>
      obtain ⟨fs, hu, hc, hf⟩ := hR _ _ hr
      rename_i i
      obtain ⟨d, h1, h2, h3⟩ := hstruct i.body fs hu (by rw [hc, RC.sz_body]) hf
      refine ⟨i.mk d, RepC.rc.2 (by rw [RC.un_mk]; exact h1), FitR.intro (by rw [RC.un_mk]; exact h2), ?_⟩
      have := hrb i d
      show rb i (i.mk d) ≤ _
      omega
/-- An argument, with how much it holds. -/
theorem arg_openU (hR : RcOk P R) (hrb : RbOk rb) {r : Reach} {base : Nat} {t : Ty} {T : TypeId} {v : Value} {d : DataW H} {p : List MemPlace} (hd : Deep P R t T) (hv : Value.okWide P w r base T v) (h : DataW.Trod enc P w 0 spare held T v d p) :
    ∃ x : t.den, RepV M00 w t x v ∧ Fit t x ∧ bulkG rb t x ≤ Rows.uptoBulk d := by
  obtain ⟨fuel, hf⟩ := h
  obtain ⟨x, h1, h2, h3⟩ := trod_bulk hR hrb fuel t T _ _ hd hf
  refine ⟨x, ⟨_, h1, ?_⟩, h2, h3⟩
  have hagg : ∀ fs, P.underlying T = some (.struct fs) → t.isAgg = true → v = mkV t v.cells.toList := fun fs hu ha => by
    obtain ⟨cs, rfl, _⟩ := okWide_struct hu hv
    rw [mkV_agg ha]
    simp [Value.cells]
  have hone : ∀ c : Value, v = c → c.cells = #[c] → t.isAgg = false → v = mkV t v.cells.toList := fun c e hc ha => by
    subst e
    rw [hc, mkV_plain ha]
  cases hd with
  | u8 hu => obtain ⟨n, rfl⟩ := okWide_int hu hv; exact hone _ rfl rfl rfl
  | int hu => obtain ⟨n, rfl⟩ := okWide_int hu hv; exact hone _ rfl rfl rfl
  | bool hu => obtain ⟨n, rfl⟩ := okWide_bool hu hv; exact hone _ rfl rfl rfl
  | str hu => obtain ⟨n, rfl⟩ := okWide_string hu hv; exact hone _ rfl rfl rfl
  | sl hu _ _ => obtain ⟨a, l, c, rfl⟩ := okWide_slice hu hv; exact hone _ rfl rfl rfl
  | st hu _ ha _ => exact hagg _ hu ha
  | rc hr => obtain ⟨fs, hu, _⟩ := hR _ _ hr; exact hagg _ hu rfl
end
end Go.Proofs.YtahjncefiegflaaGreatDoor


/- Labels in the program and in its reference (laws 44 and 45), in plain Lean. -/
namespace Go.Proofs.YtahjncefiegflaaGreatDoor
set_option linter.unusedVariables false
set_option linter.unusedSimpArgs false
open Go Go.RowKit
theorem slc_drop {α : Type} (xs : List α) {i : Nat} (h : i ≤ xs.length) : slc xs (i : Int) (xs.length : Int) = some (xs.drop i) := by
  unfold slc
  rw [if_pos ⟨by omega, by omega, by omega⟩]
  simp
theorem scan_loop {α R : Type} {xs : List α} (ok : α → Bool) {k bad : Option R} {f : Nat → Int → Option R} (hstep : ∀ n i (hi : i < xs.length), f (n + 1) (i : Int) = if ok xs[i] = true then f n ((i + 1 : Nat) : Int) else bad)
    (hend : ∀ n, f (n + 1) (xs.length : Int) = k) : ∀ n, xs.length < n → f n 0 = if xs.all ok = true then k else bad := by
  have gen : ∀ (d n i : Nat), i + d = xs.length → d < n → f n (i : Int) = if (xs.drop i).all ok = true then k else bad := by
    intro d
    induction d with
    | zero =>
      intro n i h hn
      obtain ⟨n, rfl⟩ : ∃ j, n = j + 1 := ⟨n - 1, by omega⟩
      obtain rfl : i = xs.length := by omega
      rw [hend, List.drop_length]; rfl
    | succ d ih =>
      intro n i h hn
      obtain ⟨n, rfl⟩ : ∃ j, n = j + 1 := ⟨n - 1, by omega⟩
      have hi : i < xs.length := by omega
      rw [hstep n i hi, ih n (i + 1) (by omega) (by omega), List.drop_eq_getElem_cons hi, List.all_cons]
      cases ok xs[i] <;> simp
  intro n hn
  have := gen xs.length n 0 (by omega) hn
  simpa using this
def byteB (c : UInt8) : Bool := (blob_inPart 0 c).getD false
theorem byte_fin : ∀ n : Fin 256, blob_inPart 0 (UInt8.ofNat n.1) = some (byteB (UInt8.ofNat n.1)) := by decide +kernel
theorem byte_eq (N : Nat) (c : UInt8) : blob_inPart N c = some (byteB c) := by
  have h := byte_fin ⟨c.toNat, c.toNat_lt⟩
  have e : UInt8.ofNat c.toNat = c := by simp
  simp only [e] at h
  exact h
theorem rb1 : ∀ n : Fin 256, ref2_isPart_L0T 0 [UInt8.ofNat n.1] 1 none (fun _ => none) 0 = if byteB (UInt8.ofNat n.1) = true then none else some false := by decide +kernel
theorem rb2 : ∀ n : Fin 256, ref2_isPart_L0T 0 [UInt8.ofNat n.1] 1 none (fun _ => some true) 0 = if byteB (UInt8.ofNat n.1) = true then some true else some false := by decide +kernel
theorem rb3 : ∀ n : Fin 256, ref2_isPart_L0T 0 [UInt8.ofNat n.1] 1 none (fun _ => some false) 0 = if byteB (UInt8.ofNat n.1) = true then some false else some false := by decide +kernel
theorem ref_byte (c : UInt8) (A : Option Bool) : ref2_isPart_L0T 0 [c] 1 none (fun _ => A) 0 = if byteB c = true then A else some false := by
  have e : UInt8.ofNat c.toNat = c := by simp
  match A with
  | none => have h := rb1 ⟨c.toNat, c.toNat_lt⟩; simp only [e] at h; exact h
  | some true => have h := rb2 ⟨c.toNat, c.toNat_lt⟩; simp only [e] at h; exact h
  | some false => have h := rb3 ⟨c.toNat, c.toNat_lt⟩; simp only [e] at h; exact h
theorem blob_scan {N : Nat} {x : Str} (hx : x.length ≤ 1048576) (k : Option Bool) : ∀ n, x.length < n → blob_isPart_L0 N x (x.length : Int) k n 0 = if x.all byteB = true then k else some false := by
  refine scan_loop byteB (fun n i hi => ?_) (fun n => ?_)
  · show blob_isPart_L0T N x _ k _ (i : Int) = _
    have hw : IntKind.i64.wrap ((i : Int) + 1) = ((i + 1 : Nat) : Int) := by rw [wrap_id (by omega) (by omega)]; omega
    unfold blob_isPart_L0T
    rw [br_pos (by omega : (i : Int) < (x.length : Int)), geti_lt x hi, bnd_some, byte_eq, bnd_some, hw]
    cases byteB x[i] <;> simp
  · show blob_isPart_L0T N x _ k _ (x.length : Int) = _
    unfold blob_isPart_L0T
    rw [br_neg (by omega)]
theorem ref_scan {N : Nat} {x : Str} (hx : x.length ≤ 1048576) (k : Option Bool) : ∀ n, x.length < n → ref2_isPart_L0 N x (x.length : Int) k n 0 = if x.all byteB = true then k else some false := by
  refine scan_loop byteB (fun n i hi => ?_) (fun n => ?_)
  · show ref2_isPart_L0T N x _ k _ (i : Int) = _
    have hw : IntKind.i64.wrap ((i : Int) + 1) = ((i + 1 : Nat) : Int) := by rw [wrap_id (by omega) (by omega)]; omega
    have h := ref_byte x[i] (ref2_isPart_L0 N x (x.length : Int) k n ((i + 1 : Nat) : Int))
    have hg : geti [x[i]] (0 : Int) = some x[i] := rfl
    unfold ref2_isPart_L0T at h ⊢
    rw [br_pos (by decide : (0 : Int) < 1), hg] at h
    rw [br_pos (by omega : (i : Int) < (x.length : Int)), geti_lt x hi, hw]
    exact h
  · show ref2_isPart_L0T N x _ k _ (x.length : Int) = _
    unfold ref2_isPart_L0T
    rw [br_neg (by omega)]
def partP (x : Str) : Bool := x.all byteB && !(x == []) && !(x == [46]) && !(x == [46, 46])
theorem blob_isPart_val {N : Nat} (hN : big ≤ N) {x : Str} (hx : x.length ≤ 1048576) : blob_isPart N x = some (partP x) := by
  have hb : (18446744073709551616 : Nat) ≤ N := hN
  unfold blob_isPart partP
  rw [blob_scan hx _ N (by omega)]
  cases x.all byteB <;> cases (x == ([] : Str)) <;> cases (x == ([46] : Str)) <;> cases (x == ([46, 46] : Str)) <;> simp
theorem ref_isPart_val {N : Nat} (hN : big ≤ N) {x : Str} (hx : x.length ≤ 1048576) : ref2_isPart N x = some (partP x) := by
  have hb : (18446744073709551616 : Nat) ≤ N := hN
  unfold ref2_isPart partP
  rw [ref_scan hx _ N (by omega)]
  cases x.all byteB <;> cases (x == ([] : Str)) <;> cases (x == ([46] : Str)) <;> cases (x == ([46, 46] : Str)) <;> simp
def pathB (x : Str) : Bool := decide (1 ≤ x.length) && (decide (x.length ≤ 200) && (splitC 47 x).all partP)
theorem parts_len {x : Str} (h : x.length ≤ 1048576) : (splitC 47 x).length ≤ 1048576 + 1 := by
  rw [splitC_len]; have : x.count 47 ≤ x.length := List.count_le_length; omega
theorem parts_le {x : Str} (h : x.length ≤ 1048576) : ∀ q ∈ splitC 47 x, q.length ≤ 1048576 := fun q hq => by
  have := (splitC_mem 47 x q hq).2; omega
theorem blob_path_loop {N : Nat} (hN : big ≤ N) {P : List Str} (hl : P.length ≤ 1048576 + 1) (hP : ∀ q ∈ P, q.length ≤ 1048576) (k : Option Bool) : blob_IsPath_L0 N P (P.length : Int) k N 0 = if P.all partP = true then k else some false := by
  have hb : (18446744073709551616 : Nat) ≤ N := hN
  refine scan_loop partP (fun n i hi => ?_) (fun n => ?_) N (by omega)
  · show blob_IsPath_L0T N P _ _ _ (i : Int) = _
    have hw : IntKind.i64.wrap ((i : Int) + 1) = ((i + 1 : Nat) : Int) := by rw [wrap_id (by omega) (by omega)]; omega
    unfold blob_IsPath_L0T
    rw [br_pos (by omega : (i : Int) < (P.length : Int)), geti_lt P hi, bnd_some, hw, blob_isPart_val hN (hP P[i] (List.getElem_mem _)), bnd_some]
    cases partP P[i] <;> simp
  · show blob_IsPath_L0T N P _ _ _ (P.length : Int) = _
    unfold blob_IsPath_L0T
    rw [br_neg (by omega)]
theorem ref_path_loop {N : Nat} (hN : big ≤ N) {P : List Str} (hl : P.length ≤ 1048576 + 1) (hP : ∀ q ∈ P, q.length ≤ 1048576) (k : Option Bool) : ref2_IsPath_L0 N P (P.length : Int) k N 0 = if P.all partP = true then k else some false := by
  have hb : (18446744073709551616 : Nat) ≤ N := hN
  refine scan_loop partP (fun n i hi => ?_) (fun n => ?_) N (by omega)
  · show ref2_IsPath_L0T N P _ _ _ (i : Int) = _
    have hw : IntKind.i64.wrap ((i : Int) + 1) = ((i + 1 : Nat) : Int) := by rw [wrap_id (by omega) (by omega)]; omega
    unfold ref2_IsPath_L0T
    rw [br_pos (by omega : (i : Int) < (P.length : Int)), geti_lt P hi, bnd_some, hw, ref_isPart_val hN (hP P[i] (List.getElem_mem _)), bnd_some]
    cases partP P[i] <;> simp
  · show ref2_IsPath_L0T N P _ _ _ (P.length : Int) = _
    unfold ref2_IsPath_L0T
    rw [br_neg (by omega)]
theorem blob_path {N : Nat} (hN : big ≤ N) {x : Str} (h : x.length ≤ 1048576) : blob_IsPath N x = some (pathB x) := by
  unfold blob_IsPath pathB
  by_cases g1 : (x.length : Int) < 1
  · rw [br_pos g1, decide_eq_false (by omega : ¬ 1 ≤ x.length)]; rfl
  · rw [br_neg g1, decide_eq_true (by omega : 1 ≤ x.length)]
    by_cases g2 : (x.length : Int) > 200
    · rw [br_pos g2, decide_eq_false (by omega : ¬ x.length ≤ 200)]; rfl
    · rw [br_neg g2, decide_eq_true (by omega : x.length ≤ 200), strings_Split_one _ _ (by omega), bnd_some, blob_path_loop hN (parts_len h) (parts_le h)]
      cases (splitC 47 x).all partP <;> simp
theorem ref_path {N : Nat} (hN : big ≤ N) {x : Str} (h : x.length ≤ 1048576) : ref2_IsPath N x = some (pathB x) := by
  unfold ref2_IsPath pathB ref2_within
  rw [strings_Split_one _ _ (by omega), bnd_some, ref_path_loop hN (parts_len h) (parts_le h)]
  by_cases g1 : 1 ≤ x.length
  · rw [br_pos (by omega : (1 : Int) ≤ (x.length : Int)), decide_eq_true g1]
    by_cases g2 : x.length ≤ 200
    · rw [decide_eq_true (by omega : (x.length : Int) ≤ 200), decide_eq_true g2]
      cases (splitC 47 x).all partP <;> simp
    · rw [decide_eq_false (by omega : ¬ (x.length : Int) ≤ 200), decide_eq_false g2]
      cases (splitC 47 x).all partP <;> simp
  · rw [br_neg (by omega : ¬ (1 : Int) ≤ (x.length : Int)), decide_eq_false g1]
    cases (splitC 47 x).all partP <;> simp
def pkgB (x : Str) : Bool := (x == []) || pathB x
theorem ref_pkg {N : Nat} (hN : big ≤ N) {x : Str} (h : x.length ≤ 1048576) : ref2_isPkg N x = some (pkgB x) := by
  unfold ref2_isPkg pkgB
  rw [ref_path hN h]
  cases (x == ([] : Str)) <;> simp
def labF (l : Str × Str) : Int := if (pkgB l.1 && pathB l.2) = true then 0 else 3
theorem script_check {N : Nat} (hN : big ≤ N) {l : Str × Str} (h1 : l.1.length ≤ 1048576) (h2 : l.2.length ≤ 1048576) : script_CheckLabel N l = some (labF l) := by
  unfold script_CheckLabel labF pkgB
  rw [blob_path hN h1, blob_path hN h2]
  cases (l.1 == ([] : Str)) <;> cases pathB l.1 <;> cases pathB l.2 <;> simp
theorem ref_check {N : Nat} (hN : big ≤ N) {l : Str × Str} (h1 : l.1.length ≤ 1048576) (h2 : l.2.length ≤ 1048576) : ref2_CheckLabel N l = some (labF l) := by
  unfold ref2_CheckLabel labF
  rw [ref_pkg hN h1, ref_path hN h2]
  cases pkgB l.1 <;> cases pathB l.2 <;> simp
theorem lastIx_loop {N : Nat} {x : Str} (c : UInt8) (hx : x.length ≤ 1048576) : ∀ (i n : Nat), i ≤ x.length → i < n → ∃ j : Int, bytealg_LastIndexByteString_L0 N x c (some (-1 : Int)) n ((i : Int) - 1) = some j ∧ -1 ≤ j ∧ j < (x.length : Int)
  | 0, n, _, hn => by
    obtain ⟨n, rfl⟩ : ∃ j, n = j + 1 := ⟨n - 1, by omega⟩
    refine ⟨-1, ?_, by omega, by omega⟩
    show bytealg_LastIndexByteString_L0T N x c _ _ _ = _
    unfold bytealg_LastIndexByteString_L0T
    rw [br_neg (by omega)]
  | i + 1, n, hi, hn => by
    obtain ⟨n, rfl⟩ : ∃ j, n = j + 1 := ⟨n - 1, by omega⟩
    obtain ⟨j, h1, h2, h3⟩ := lastIx_loop (N := N) c hx i n (by omega) (by omega)
    have e : (((i + 1 : Nat) : Int) - 1) = (i : Int) := by omega
    have hw : IntKind.i64.wrap ((i : Int) - 1) = (i : Int) - 1 := wrap_id (by omega) (by omega)
    rw [e]
    show ∃ j, bytealg_LastIndexByteString_L0T N x c _ _ _ = some j ∧ _
    unfold bytealg_LastIndexByteString_L0T
    rw [br_pos (by omega), geti_lt x (by omega), bnd_some, hw]
    cases (x[i] == c)
    · exact ⟨j, by rw [br_false]; exact h1, h2, h3⟩
    · exact ⟨i, by rw [br_true], by omega, by omega⟩
theorem last_some {N : Nat} (hN : big ≤ N) {x : Str} (hx : x.length ≤ 1048576) : ∃ y, script_last N x = some y ∧ y.length ≤ x.length := by
  have hb : (18446744073709551616 : Nat) ≤ N := hN
  obtain ⟨j, h1, h2, h3⟩ := lastIx_loop (N := N) (47 : UInt8) hx x.length N (Nat.le_refl _) (by omega)
  have hw : IntKind.i64.wrap ((x.length : Int) - 1) = (x.length : Int) - 1 := wrap_id (by omega) (by omega)
  have hw2 : IntKind.i64.wrap (j + 1) = ((j + 1).toNat : Int) := by rw [wrap_id (by omega) (by omega)]; omega
  unfold script_last strings_LastIndexByte bytealg_LastIndexByteString
  rw [hw, h1, bnd_some, bnd_some, hw2, slc_drop _ (by omega), bnd_some]
  exact ⟨_, rfl, by rw [List.length_drop]; omega⟩
theorem last_nil {N : Nat} (hN : big ≤ N) : script_last N [] = some [] := by
  obtain ⟨y, h1, h2⟩ := last_some hN (x := []) (by simp)
  rw [h1]
  have : y = [] := List.eq_nil_of_length_eq_zero (by simpa using h2)
  rw [this]
theorem cp_hit (N : Nat) (p r : Str) : strings_CutPrefix N (p ++ r) p = some (r, true) := by
  unfold strings_CutPrefix stringslite_CutPrefix stringslite_HasPrefix
  rw [br_pos (by simp; omega), slc_take _ (by simp)]
  have e : (p ++ r).take p.length = p := by simp
  rw [e, bnd_some]
  simp only [beq_self_eq_true, bnd_some, Bool.not_true, br_false]
  rw [slc_drop _ (by simp)]
  simp
theorem cp_miss (N : Nat) {p x : Str} (h : ∀ r, x ≠ p ++ r) : strings_CutPrefix N x p = some (x, false) := by
  unfold strings_CutPrefix stringslite_CutPrefix stringslite_HasPrefix
  by_cases g : p.length ≤ x.length
  · rw [br_pos (by omega), slc_take _ g, bnd_some]
    have : (x.take p.length == p) = false := by
      rw [beq_eq_false_iff_ne]
      intro e
      refine h (x.drop p.length) ?_
      rw [← e, List.length_take, Nat.min_eq_left g, List.take_append_drop]
    rw [this]; simp
  · rw [br_neg (by omega)]; simp
/-- What is read: a label that is none is an error. -/
def labR (l : Str × Str) : (Str × Str) × Int := if (labF l != 0) = true then (([], []), 10) else (l, 0)
def pkgR (p : Str) (z : (Str × Str) × Int) : (Str × Str) × Int := if pkgB p = true then z else (([], []), 3)
theorem tail_eq (l : Str × Str) : br (labF l != (0 : Int)) (some ((([] : Str), ([] : Str)), (10 : Int))) (some (l, (0 : Int))) = some (labR l) := by
  unfold labR
  cases (labF l != (0 : Int)) <;> simp
theorem tail_eq2 (a b : Str) : br (labF (a, b) != (0 : Int)) (some ((([] : Str), ([] : Str)), (10 : Int))) (some ((a, b), (0 : Int))) = some (labR (a, b)) := tail_eq _
theorem labR_nil : labR ([], []) = (([], []), 10) := by decide +kernel
/-- What stands behind the check of the package. -/
theorem pkg_script {N : Nat} (hN : big ≤ N) {p : Str} (h : p.length ≤ 1048576) {X Y : Option ((Str × Str) × Int)} {z : (Str × Str) × Int} (hX : X = some z) (hY : Y = some z) :
    br (!(p == ([] : Str))) (bnd (blob_IsPath N p) fun t16 => br (!t16) (some ((([] : Str), ([] : Str)), (3 : Int))) X) Y = some (pkgR p z) := by
  rw [blob_path hN h, hX, hY]
  unfold pkgR pkgB
  cases (p == ([] : Str)) <;> cases pathB p <;> simp
theorem pkg_ref {N : Nat} (hN : big ≤ N) {p : Str} (h : p.length ≤ 1048576) {X : Option ((Str × Str) × Int)} {z : (Str × Str) × Int} (hX : X = some z) :
    (bnd (ref2_isPkg N p) fun t13 => br (!t13) (some ((([] : Str), ([] : Str)), (3 : Int))) X) = some (pkgR p z) := by
  rw [ref_pkg hN h, hX]
  unfold pkgR
  cases pkgB p <;> simp
theorem read_named {N : Nat} (hN : big ≤ N) {h n p : Str} (hh : (58 : UInt8) ∉ h) (h1 : h.length ≤ 1048576) (h2 : n.length ≤ 1048576) (hp : p.length ≤ 1048576) :
    script_ReadLabel N ([47, 47] ++ (h ++ 58 :: n)) p = some (pkgR p (labR (h, n))) ∧ ref2_ReadLabel N ([47, 47] ++ (h ++ 58 :: n)) p = some (pkgR p (labR (h, n))) := by
  have c1 : strings_Cut (h ++ 58 :: n) [58] = some (h, n, true) := by
    unfold strings_Cut; rw [if_pos (by simp; omega), cut_hit hh]
  have c2 : strings_Cut ([47, 47] ++ (h ++ 58 :: n)) [58] = some ([47, 47] ++ h, n, true) := by
    unfold strings_Cut
    rw [if_pos (by simp; omega), ← List.append_assoc, cut_hit (by simp [hh])]
  have k1 := script_check hN (l := (h, n)) h1 h2
  have k2 := ref_check hN (l := (h, n)) h1 h2
  have m : strings_CutPrefix N ([47, 47] ++ (h ++ 58 :: n)) [58] = some ([47, 47] ++ (h ++ 58 :: n), false) := cp_miss N fun r e => by simp at e
  constructor
  · unfold script_ReadLabel
    refine pkg_script hN hp ?_ ?_ <;>
    · rw [cp_hit, m, bnd_some, bnd_some]
      simp only [br_true, c1, bnd_some, Bool.not_true, br_false, k1, tail_eq2]
  · unfold ref2_ReadLabel
    refine pkg_ref hN hp ?_
    rw [c2, bnd_some]
    have hne : (([47, 47] : Str) ++ h == []) = false := by simp
    simp only [cp_hit, bnd_some, br_true, br_false, hne, k2, tail_eq2]
theorem read_whole {N : Nat} (hN : big ≤ N) {r p y : Str} (hr : (58 : UInt8) ∉ r) (h1 : r.length ≤ 1048576) (hp : p.length ≤ 1048576) (hy : script_last N r = some y) (h2 : y.length ≤ 1048576) :
    script_ReadLabel N ([47, 47] ++ r) p = some (pkgR p (labR (r, y))) ∧ ref2_ReadLabel N ([47, 47] ++ r) p = some (pkgR p (labR (r, y))) := by
  have c1 : strings_Cut r [58] = some (r, [], false) := by
    unfold strings_Cut; rw [if_pos (by omega), cut_miss hr]
  have c2 : strings_Cut ([47, 47] ++ r) [58] = some ([47, 47] ++ r, [], false) := by
    unfold strings_Cut
    rw [if_pos (by simp; omega), cut_miss (by simp [hr])]
  have k1 := script_check hN (l := (r, y)) h1 h2
  have k2 := ref_check hN (l := (r, y)) h1 h2
  have m : strings_CutPrefix N ([47, 47] ++ r) [58] = some ([47, 47] ++ r, false) := cp_miss N fun r e => by simp at e
  have hy2 : ref2_last N r = some y := hy
  constructor
  · unfold script_ReadLabel
    refine pkg_script hN hp ?_ ?_ <;>
    · rw [cp_hit, m, bnd_some, bnd_some]
      simp only [br_true, c1, bnd_some, Bool.not_false, hy, k1, tail_eq2]
  · unfold ref2_ReadLabel
    refine pkg_ref hN hp ?_
    rw [c2, bnd_some]
    simp only [cp_hit, bnd_some, br_true, br_false, hy2, k2, tail_eq2]
    cases he : (r == ([] : Str))
    · simp
    · have : r = [] := by simpa using he
      subst this
      rw [last_nil hN] at hy
      cases hy
      rw [labR_nil]; simp
theorem read_own {N : Nat} (hN : big ≤ N) {n p : Str} (h2 : n.length ≤ 1048576) (hp : p.length ≤ 1048576) :
    script_ReadLabel N ([58] ++ n) p = some (pkgR p (labR (p, n))) ∧ ref2_ReadLabel N ([58] ++ n) p = some (pkgR p (labR (p, n))) := by
  have c2 : strings_Cut ([58] ++ n) [58] = some ([], n, true) := by
    unfold strings_Cut
    rw [if_pos (by simp; omega)]
    exact congrArg some (cut_hit (c := 58) (a := []) (by simp) n)
  have k1 := script_check hN (l := (p, n)) hp h2
  have k2 := ref_check hN (l := (p, n)) hp h2
  have m : strings_CutPrefix N ([58] ++ n) [47, 47] = some ([58] ++ n, false) := cp_miss N fun r e => by simp at e
  have m2 : strings_CutPrefix N [] [47, 47] = some ([], false) := cp_miss N fun r e => by simp at e
  constructor
  · unfold script_ReadLabel
    refine pkg_script hN hp ?_ ?_ <;>
    · rw [m, cp_hit, bnd_some, bnd_some]
      simp only [br_true, br_false, k1, bnd_some, tail_eq2]
  · unfold ref2_ReadLabel
    refine pkg_ref hN hp ?_
    rw [c2, bnd_some]
    simp only [m2, bnd_some, br_true, beq_self_eq_true, k2, tail_eq2]
theorem whole_eq {N : Nat} {l : Str × Str} (h1 : l.1.length ≤ 1048576) (h2 : l.2.length ≤ 1048576) : script_Whole N l = some ([47, 47] ++ l.1 ++ [58] ++ l.2) := by
  unfold script_Whole
  rw [br_pos (by simp; omega), br_pos (by simp; omega), br_pos (by simp; omega)]
/-- The text of a label. -/
def textR (l : Str × Str) (p y : Str) : Str × Int :=
  if (labF l != 0) = true then ([], labF l) else if pkgB p = true then
    if (l.1 == p) = true then ([58] ++ l.2, 0) else if (!(l.1 == []) && (y == l.2)) = true then ([47, 47] ++ l.1, 0) else ([47, 47] ++ l.1 ++ [58] ++ l.2, 0)
  else ([], 3)
theorem text_eq {N : Nat} (hN : big ≤ N) {l : Str × Str} {p y : Str} (h1 : l.1.length ≤ 1048576) (h2 : l.2.length ≤ 1048576) (hp : p.length ≤ 1048576) (hy : script_last N l.1 = some y) :
    script_LabelText N l p = some (textR l p y) ∧ ref2_LabelText N l p = some (textR l p y) := by
  have hy2 : ref2_last N l.1 = some y := hy
  have d1 : ([58] : Str).length + l.2.length ≤ 9223372036854775807 := by simp; omega
  have d2 : ([47, 47] : Str).length + l.1.length ≤ 9223372036854775807 := by simp; omega
  have d3 : (([47, 47] : Str) ++ l.1).length + ([58] : Str).length ≤ 9223372036854775807 := by simp; omega
  have d4 : ((([47, 47] : Str) ++ l.1) ++ ([58] : Str)).length + l.2.length ≤ 9223372036854775807 := by simp; omega
  constructor
  · unfold script_LabelText textR pkgB
    simp only [script_check hN h1 h2, blob_path hN hp, hy, whole_eq h1 h2, bnd_some, br_pos d1, br_pos d2]
    cases (labF l != 0) <;> cases (p == ([] : Str)) <;> cases pathB p <;> cases (l.1 == p) <;> cases (l.1 == ([] : Str)) <;> cases (y == l.2) <;> simp
  · unfold ref2_LabelText textR
    simp only [ref_check hN h1 h2, ref_pkg hN hp, hy2, bnd_some, br_pos d1, br_pos d2, br_pos d3, br_pos d4]
    cases (labF l != 0) <;> cases pkgB p <;> cases (l.1 == p) <;> cases (l.1 == ([] : Str)) <;> cases (y == l.2) <;> simp
theorem path_no {x : Str} (h : pathB x = true) : (58 : UInt8) ∉ x := by
  have key : ∀ x : Str, (58 : UInt8) ∈ x → ∃ q ∈ splitC 47 x, (58 : UInt8) ∈ q := by
    intro x
    induction x with
    | nil => intro h; simp at h
    | cons b s ih =>
      intro h
      unfold splitC
      rcases List.mem_cons.1 h with e | h
      · subst e
        rw [if_neg (by decide)]
        split
        · rename_i x xs _; exact ⟨_, List.mem_cons_self, List.mem_cons_self⟩
        · exact ⟨_, List.mem_cons_self, List.mem_cons_self⟩
      · obtain ⟨q, h1, h2⟩ := ih h
        split
        · exact ⟨q, List.mem_cons_of_mem _ h1, h2⟩
        · split
          · rename_i x xs e
            rw [e] at h1
            rcases List.mem_cons.1 h1 with rfl | h1
            · exact ⟨_, List.mem_cons_self, List.mem_cons_of_mem _ h2⟩
            · exact ⟨q, List.mem_cons_of_mem _ h1, h2⟩
          · rename_i e; exact absurd e (splitC_ne 47 s)
  intro hc
  obtain ⟨q, h1, h2⟩ := key x hc
  unfold pathB at h
  simp only [Bool.and_eq_true] at h
  have hq := List.all_eq_true.1 h.2.2 q h1
  unfold partP at hq
  simp only [Bool.and_eq_true] at hq
  have hb := List.all_eq_true.1 hq.1.1.1 _ h2
  exact absurd hb (by decide +kernel)
theorem pkg_no {x : Str} (h : pkgB x = true) : (58 : UInt8) ∉ x := by
  unfold pkgB at h
  rw [Bool.or_eq_true] at h
  rcases h with h | h
  · have : x = [] := by simpa using h
    subst this; simp
  · exact path_no h
theorem law_labels_back {N : Nat} (hN : big ≤ N) {l : Str × Str} {p : Str} (h1 : l.1.length ≤ 1048576) (h2 : l.2.length ≤ 1048576) (hp : p.length ≤ 1048576) : law2_ScriptLabelsComeBack N l p = some true := by
  obtain ⟨y, hy, hyl⟩ := last_some hN h1
  obtain ⟨e3, _⟩ := text_eq hN h1 h2 hp hy
  unfold law2_ScriptLabelsComeBack
  rw [e3]
  simp only [bnd_some]
  unfold textR
  by_cases g1 : (pkgB l.1 && pathB l.2) = true
  · have g0 : labF l = 0 := by unfold labF; rw [if_pos g1]
    have gR : labR l = (l, 0) := by unfold labR; rw [g0]; rfl
    rw [g0, show ((0 : Int) != 0) = false from rfl, if_neg (by decide)]
    by_cases g2 : pkgB p = true
    · rw [if_pos g2]
      have gP : ∀ z, pkgR p z = z := fun z => by unfold pkgR; rw [if_pos g2]
      have hq : eqb (.pr .str .str) l l = true := by simp [eqb]
      simp only [Bool.and_eq_true] at g1
      by_cases g3 : (l.1 == p) = true
      · rw [if_pos g3]
        have e : l.1 = p := by simpa using g3
        have := (read_own hN h2 hp).1
        rw [← e, show (l.1, l.2) = l from rfl, gR, e, gP] at this
        simp only [this]
        simp [hq, law2_awake]
      · rw [if_neg g3]
        by_cases g4 : (!(l.1 == []) && (y == l.2)) = true
        · rw [if_pos g4]
          have e : y = l.2 := by simp at g4; exact g4.2
          have := (read_whole hN (pkg_no g1.1) h1 hp hy (by omega)).1
          rw [e, show (l.1, l.2) = l from rfl, gR, gP] at this
          simp only [this]
          simp [hq, law2_awake]
        · rw [if_neg g4]
          have := (read_named hN (pkg_no g1.1) h1 h2 hp).1
          rw [show (l.1, l.2) = l from rfl, gR, gP] at this
          have e : ([47, 47] : Str) ++ l.1 ++ [58] ++ l.2 = [47, 47] ++ (l.1 ++ 58 :: l.2) := by simp
          rw [e]
          simp only [this]
          simp [hq, law2_awake]
    · rw [if_neg g2]
      simp [law2_awake]
  · have g0 : labF l = 3 := by unfold labF; rw [if_neg g1]
    rw [g0]
    simp [law2_awake]
theorem plain_ScriptLabelsComeBack (l : Str × Str) (p : Str) (_ : Fit (.pr .str .str) l) (_ : Fit .str p) (hb : bulkG rbC (.pr .str .str) l + bulkG rbC .str p ≤ 1048576) : ∃ N, law2_ScriptLabelsComeBack N l p = some true :=
  ⟨big, by simp only [bulkG] at hb; exact law_labels_back (Nat.le_refl _) (by omega) (by omega) (by omega)⟩
end Go.Proofs.YtahjncefiegflaaGreatDoor


/- The law ScriptLabelsComeBack: its plain law lies with the labels' (LLab). -/
namespace Go.Proofs.YtahjncefiegflaaGreatDoor
end Go.Proofs.YtahjncefiegflaaGreatDoor

