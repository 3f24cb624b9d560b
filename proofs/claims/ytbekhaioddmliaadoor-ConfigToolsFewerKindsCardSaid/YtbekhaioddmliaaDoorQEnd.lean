/- The arguments of a law, as the statement's reading hands them over, as data of the machine: any type. -/
import Derived.Test.YtbekhaioddmliaaDoorQBmP
import Derived.ProofKit
import Derived.OpenShut
import Derived.ShutString
import Derived.DataReads
import Derived.ChangeShapes
import Derived.WideShapes
namespace Go.Proofs.YtbekhaioddmliaaDoor
set_option linter.unusedVariables false
set_option linter.unusedSimpArgs false
open Go Go.RowKit Go.ChangeShapes Go.WideShapes
/-- Nothing is longer than Go lets it be. -/
def FitG (RR : (i : RC) → i.den → Prop) : (t : Ty) → t.den → Prop
  | .u8, _ => True
  | .int k, x => (Lit.int k x).wf = true
  | .bool, _ => True
  | .str, x => x.length ≤ maxLen
  | .sl t, xs => xs.length ≤ maxLen ∧ ∀ x ∈ xs, FitG RR t x
  | .pr a b, x => FitG RR a x.1 ∧ FitG RR b x.2
  | .un, _ => True
  | .mp _, _ => True
  | .ptr _, _ => True
  | .np _, _ => True
  | .clo _ _, _ => True
  | .rc i, x => RR i x
def FitR (i : RC) (x : i.den) : Prop := ∀ RR : (i : RC) → i.den → Prop, (∀ j y, FitG RR j.body (j.un y) → RR j y) → RR i x
def Fit : (t : Ty) → t.den → Prop := FitG FitR
theorem FitG.mono {RR RR' : (i : RC) → i.den → Prop} (hR : ∀ i x, RR i x → RR' i x) : ∀ (t : Ty) (x : t.den), FitG RR t x → FitG RR' t x
  | .u8, _, h => h
  | .int _, _, h => h
  | .bool, _, h => h
  | .str, _, h => h
  | .sl t, _, h => ⟨h.1, fun x hx => FitG.mono hR t x (h.2 x hx)⟩
  | .pr a b, _, h => ⟨FitG.mono hR a _ h.1, FitG.mono hR b _ h.2⟩
  | .un, _, h => h
  | .mp _, _, h => h
  | .ptr _, _, h => h
  | .np _, _, h => h
  | .clo _ _, _, h => h
  | .rc i, x, h => hR i x h
theorem FitR.intro {i : RC} {x : i.den} (h : Fit i.body (i.un x)) : FitR i x :=
  fun RR hc => hc i x (FitG.mono (fun j y hy => hy RR hc) _ _ h)
theorem FitR.elim {i : RC} {x : i.den} (h : FitR i x) : Fit i.body (i.un x) :=
  h (fun j y => Fit j.body (j.un y)) fun _ _ hy => FitG.mono (fun _ _ h => FitR.intro h) _ _ hy
mutual
/-- A type of the program is this one, down to its parts. -/
inductive Deep (P : Program) (R : RC → Option TypeId) : Ty → TypeId → Prop where
  | u8 {T : TypeId} : P.underlying T = some (.int .u8) → Deep P R .u8 T
  | int {T : TypeId} {k : IntKind} : P.underlying T = some (.int k) → Deep P R (.int k) T
  | bool {T : TypeId} : P.underlying T = some .bool → Deep P R .bool T
  | str {T : TypeId} : P.underlying T = some .string → Deep P R .str T
  | sl {T e : TypeId} {t : Ty} : P.underlying T = some (.slice e) → P.cellsOf e = t.sz → Deep P R t e → Deep P R (.sl t) T
  | st {T : TypeId} {t : Ty} {fs : Array Field} : P.underlying T = some (.struct fs) → P.cellsOf T = t.sz → t.isAgg = true → DeepF P R t fs.toList 0 → Deep P R t T
  | rc {T : TypeId} {i : RC} : R i = some T → Deep P R (.rc i) T
/-- The same, of fields from a place on. -/
inductive DeepF (P : Program) (R : RC → Option TypeId) : Ty → List Field → Nat → Prop where
  | nil {o : Nat} : DeepF P R .un [] o
  | one {t : Ty} {f : Field} {o : Nat} : f.offset = o → P.cellsOf f.type = t.sz → Deep P R t f.type → DeepF P R t [f] o
  | single {t : Ty} {f : Field} {o : Nat} : f.offset = o → P.cellsOf f.type = t.sz → Deep P R t f.type → DeepF P R (.pr t .un) [f] o
  | cons {a b : Ty} {f : Field} {fs : List Field} {o : Nat} : f.offset = o → P.cellsOf f.type = a.sz → Deep P R a f.type → DeepF P R b fs (o + a.sz) → DeepF P R (.pr a b) (f :: fs) o
end
def RcOk (P : Program) (R : RC → Option TypeId) : Prop := ∀ i T, R i = some T → ∃ fs, P.underlying T = some (.struct fs) ∧ P.cellsOf T = i.sz ∧ DeepF P R i.body fs.toList 0
abbrev M00 : Nat → Nat → Prop := fun _ _ => False
section
variable {H : Type} {enc : TypeId × Value → H} {P : Program} {w : World} {spare : Nat → Bool} {held : Bool} {R : RC → Option TypeId}
theorem choose_list {α : Type} {p : Nat → α → Prop} : ∀ n, (∀ i, i < n → ∃ x, p i x) → ∃ l : List α, l.length = n ∧ ∀ i (h : i < l.length), p i l[i]
  | 0, _ => ⟨[], rfl, fun i h => absurd h (Nat.not_lt_zero _)⟩
  | n + 1, h => by
    obtain ⟨l, hl, hp⟩ := choose_list n fun i hi => h i (Nat.lt_succ_of_lt hi)
    obtain ⟨x, hx⟩ := h n (Nat.lt_succ_self _)
    refine ⟨l ++ [x], by simp [hl], fun i hi => ?_⟩
    rcases Nat.lt_or_ge i l.length with h' | h'
    · rw [List.getElem_append_left h']; exact hp i h'
    · have : i = l.length := by simp at hi; omega
      subst this
      simp [hl, hx]
theorem pl_of_cells {a : Addr} {n : Nat} {cs : List Value} (h : w.cells? 0 a n = some cs) : Pl M00 w a cs := by
  intro j u hu
  refine ⟨?_, id⟩
  unfold World.cells? at h
  rw [if_pos (Nat.zero_le _)] at h
  have hl := mapM_some_length h
  have hj : j < n := by
    rcases Nat.lt_or_ge j cs.length with h' | h'
    · rw [hl, List.length_range] at h'; exact h'
    · rw [List.getElem?_eq_none h'] at hu; cases hu
  have := mapM_some_get h j j (by rw [List.getElem?_range hj])
  rw [this]; exact hu
/-- What fields read as. -/
theorem fields_rep {fuel : Nat} {cs : List Value}
    (ih : ∀ (t : Ty) (T : TypeId) (cs : List Value) (x : DataW H × List MemPlace), Deep P R t T → DataW.trod enc P w 0 spare held fuel T cs = some x → ∃ d : t.den, RepC M00 w t d cs ∧ Fit t d) :
    ∀ (fs : List Field) (t : Ty) (o : Nat) (xs : List (DataW H × List MemPlace)), DeepF P R t fs o →
      (fs.mapM fun f => DataW.trod enc P w 0 spare held fuel f.type ((cs.drop f.offset).take (P.cellsOf f.type))) = some xs → ∃ d : t.den, RepC M00 w t d ((cs.drop o).take t.sz) ∧ Fit t d := by
  intro fs
  induction fs with
  | nil =>
    intro t o xs hd _
    cases hd
    exact ⟨(), List.take_zero, trivial⟩
  | cons f fs hfs =>
    intro t o xs hd hm
    have hhead : ∃ y, DataW.trod enc P w 0 spare held fuel f.type ((cs.drop f.offset).take (P.cellsOf f.type)) = some y := by
      have := mapM_some_get hm 0 f rfl
      cases hx : xs[0]? with
      | none =>
        have hl := mapM_some_length hm
        rw [List.getElem?_eq_none_iff] at hx
        simp at hl; omega
      | some y => exact ⟨y, this.trans hx⟩
    have htail : ∃ ys, (fs.mapM fun f => DataW.trod enc P w 0 spare held fuel f.type ((cs.drop f.offset).take (P.cellsOf f.type))) = some ys := by
      rw [List.mapM_cons] at hm
      obtain ⟨y, hy⟩ := hhead
      rw [hy] at hm
      cases hys : (fs.mapM fun f => DataW.trod enc P w 0 spare held fuel f.type ((cs.drop f.offset).take (P.cellsOf f.type))) with
      | none => rw [hys] at hm; cases hm
      | some ys => exact ⟨ys, rfl⟩
    obtain ⟨y, hy⟩ := hhead
    obtain ⟨ys, hys⟩ := htail
    cases hd with
    | one ho hc h1 =>
      rw [ho, hc] at hy
      exact ih _ _ _ _ h1 hy
    | single ho hc h1 =>
      rw [ho, hc] at hy
      obtain ⟨d, hd1, hd2⟩ := ih _ _ _ _ h1 hy
      exact ⟨(d, ()), ⟨_, [], (List.append_nil _).symm, hd1, rfl⟩, hd2, trivial⟩
    | @cons a b _ _ _ ho hc h1 h2 =>
      rw [ho, hc] at hy
      obtain ⟨d, hd1, hd2⟩ := ih _ _ _ _ h1 hy
      obtain ⟨e, he1, he2⟩ := hfs _ _ _ h2 hys
      refine ⟨(d, e), ⟨_, _, ?_, hd1, he1⟩, hd2, he2⟩
      show (cs.drop o).take (a.sz + b.sz) = _
      rw [List.take_add, List.drop_drop]
theorem trod_rep (hR : RcOk P R) : ∀ (fuel : Nat) (t : Ty) (T : TypeId) (cs : List Value) (x : DataW H × List MemPlace), Deep P R t T → DataW.trod enc P w 0 spare held fuel T cs = some x →
    ∃ d : t.den, RepC M00 w t d cs ∧ Fit t d := by
  intro fuel
  induction fuel with
  | zero => intro t T cs x _ h; cases h
  | succ fuel ih =>
    intro t T cs x hd h
    have hstruct : ∀ (t : Ty) (fs : Array Field), P.underlying T = some (.struct fs) → P.cellsOf T = t.sz → DeepF P R t fs.toList 0 → ∃ d : t.den, RepC M00 w t d cs ∧ Fit t d := fun t fs hu hc hf => by
      unfold DataW.trod at h
      simp only [hu] at h
      split at h
      · rename_i hl
        cases hm : (fs.toList.mapM fun f => DataW.trod enc P w 0 spare held fuel f.type ((cs.drop f.offset).take (P.cellsOf f.type))) with
        | none => rw [hm] at h; cases h
        | some xs =>
          obtain ⟨d, h1, h2⟩ := fields_rep ih fs.toList t 0 xs hf hm
          rw [List.drop_zero, List.take_of_length_le (by omega)] at h1
          exact ⟨d, h1, h2⟩
      · cases h
    cases hd with
    | u8 hu =>
      have hx : ∃ n, cs = [.int .u8 n] ∧ (Lit.int .u8 n).wf = true := by
        unfold DataW.trod at h
        split at h <;> simp_all
      obtain ⟨n, rfl, hn⟩ := hx
      refine ⟨UInt8.ofNat n.toNat, ?_, trivial⟩
      show [Value.int .u8 n] = [Value.int .u8 (UInt8.ofNat n.toNat).toNat]
      simp [Lit.wf, IntKind.min, IntKind.max, IntKind.signed, IntKind.bits] at hn
      have : ((UInt8.ofNat n.toNat).toNat : Int) = n := by simp; omega
      rw [this]
    | @int _ k hu =>
      have hx : ∃ n, cs = [.int k n] ∧ (Lit.int k n).wf = true := by
        unfold DataW.trod at h
        split at h <;> simp_all
      obtain ⟨n, rfl, hn⟩ := hx
      exact ⟨n, rfl, hn⟩
    | bool hu =>
      have hx : ∃ b, cs = [.bool b] := by
        unfold DataW.trod at h
        split at h <;> simp_all
      obtain ⟨b, rfl⟩ := hx
      exact ⟨b, rfl, trivial⟩
    | str hu =>
      have hx : ∃ s : ByteArray, cs = [.string s] ∧ s.size ≤ maxLen := by
        unfold DataW.trod at h
        split at h <;> simp_all
      obtain ⟨s, rfl, hn⟩ := hx
      refine ⟨s.data.toList, ?_, ?_⟩
      · show [Value.string s] = [Value.string ⟨s.data.toList.toArray⟩]
        simp
      · show s.data.toList.length ≤ maxLen
        simpa using hn
    | @sl _ e t hu hc he =>
      have hx : cs = [.slice none 0 0] ∨ ∃ a len cap, cs = [.slice (some a) len cap] ∧ len ≤ cap ∧ cap ≤ maxLen ∧
          ∀ i, i < len → ∃ y, (w.cells? 0 (a.add (i * P.cellsOf e)) (P.cellsOf e)).bind (DataW.trod enc P w 0 spare held fuel e) = some y := by
        unfold DataW.trod at h
        split at h
        all_goals try (simp_all; done)
        · rename_i hu2
          rw [hu] at hu2
          cases hu2
          simp only at h
          split at h
          · rename_i hb
            right
            refine ⟨_, _, _, rfl, hb.2.1, hb.2.2, fun i hi => ?_⟩
            cases hm : ((List.range _).mapM fun i => (w.cells? 0 (Addr.add _ (i * P.cellsOf e)) (P.cellsOf e)).bind (DataW.trod enc P w 0 spare held fuel e)) with
            | none => rw [hm] at h; cases h
            | some ys =>
              have h1 := mapM_some_get hm i i (by rw [List.getElem?_range hi])
              have hl := mapM_some_length hm
              rw [List.length_range] at hl
              exact ⟨ys[i]'(by omega), h1.trans (List.getElem?_eq_getElem (by omega))⟩
          · cases h
      rcases hx with rfl | ⟨a, len, cap, rfl, h1, h2, h3⟩
      · exact ⟨[], ⟨none, 0, rfl, Nat.le_refl _, Nat.zero_le _, fun i h => absurd h (Nat.not_lt_zero _)⟩, Nat.zero_le _, fun x h => by cases h⟩
      · have hall : ∀ i, i < len → ∃ d : t.den, (∃ es, RepC M00 w t d es ∧ Pl M00 w (a.add (i * t.sz)) es) ∧ Fit t d := fun i hi => by
          obtain ⟨y, hy⟩ := h3 i hi
          rw [hc] at hy
          cases hcs : w.cells? 0 (a.add (i * t.sz)) t.sz with
          | none => rw [hcs] at hy; cases hy
          | some es =>
            rw [hcs] at hy
            obtain ⟨d, hd1, hd2⟩ := ih _ _ _ _ he hy
            exact ⟨d, ⟨es, hd1, pl_of_cells hcs⟩, hd2⟩
        obtain ⟨l, hl, hp⟩ := choose_list len hall
        refine ⟨l, ⟨some a, cap, ?_, by omega, h2, fun i hi => ?_⟩, ?_, fun x hx => ?_⟩
        · rw [hl]
        · obtain ⟨⟨es, e1, e2⟩, _⟩ := hp i hi
          exact ⟨a, es, rfl, e1, e2⟩
        · show l.length ≤ maxLen; omega
        · obtain ⟨i, hi, rfl⟩ := List.getElem_of_mem hx
          exact (hp i hi).2
    | st hu hc ha hf => exact hstruct t _ hu hc hf
    | rc hr =>
      obtain ⟨fs, hu, hc, hf⟩ := hR _ _ hr
      rename_i i
      obtain ⟨d, h1, h2⟩ := hstruct i.body fs hu (by rw [hc, RC.sz_body]) hf
      refine ⟨i.mk d, RepC.rc.2 (by rw [RC.un_mk]; exact h1), FitR.intro (by rw [RC.un_mk]; exact h2)⟩
/-- An argument. -/
theorem arg_open (hR : RcOk P R) {r : Reach} {base : Nat} {t : Ty} {T : TypeId} {v : Value} {d : DataW H} {p : List MemPlace} (hd : Deep P R t T) (hv : Value.okWide P w r base T v) (h : DataW.Trod enc P w 0 spare held T v d p) :
    ∃ x : t.den, RepV M00 w t x v ∧ Fit t x := by
  obtain ⟨fuel, hf⟩ := h
  obtain ⟨x, h1, h2⟩ := trod_rep hR fuel t T _ _ hd hf
  refine ⟨x, ⟨_, h1, ?_⟩, h2⟩
  have hagg : ∀ fs, P.underlying T = some (.struct fs) → t.isAgg = true → v = mkV t v.cells.toList := fun fs hu ha => by
    obtain ⟨cs, rfl, _⟩ := okWide_struct hu hv
    rw [mkV_agg ha]
    simp [Value.cells]
  have hone : ∀ c : Value, v = c → c.cells = #[c] → t.isAgg = false → v = mkV t v.cells.toList := fun c e hc ha => by
    subst e
    rw [hc, mkV_plain ha]
  cases hd with
  | u8 hu => obtain ⟨n, rfl⟩ := okWide_int hu hv; exact hone _ rfl rfl rfl
  | int hu => obtain ⟨n, rfl⟩ := okWide_int hu hv; exact hone _ rfl rfl rfl
  | bool hu => obtain ⟨n, rfl⟩ := okWide_bool hu hv; exact hone _ rfl rfl rfl
  | str hu => obtain ⟨n, rfl⟩ := okWide_string hu hv; exact hone _ rfl rfl rfl
  | sl hu _ _ => obtain ⟨a, l, c, rfl⟩ := okWide_slice hu hv; exact hone _ rfl rfl rfl
  | st hu _ ha _ => exact hagg _ hu ha
  | rc hr => obtain ⟨fs, hu, _⟩ := hR _ _ hr; exact hagg _ hu rfl
end
/-- A law is called. -/
theorem law_run {P : Program} {f : FuncId} {ps : List Sl} {F : SV ps → BV [] → Option Bool} {out : Bool → SV [.v .bool] × BV []} (hout : ∀ z, (out z).1 = (z, ())) (hs : Sound P GW B0G f ⟨ps, [], [.v .bool], [], Bool, out, F⟩)
    {W : World} {vs : List Value} {x : SV ps} (hg : GW W) (ha : All2 (RepD0 M00 W g0) (lays id ps x) vs) (hf : F x () = some true) : Calls P f vs.toArray W fun e W' => e = .returned (.bool true) ∧ Ext W W' := by
  refine (hs.2 M00 W g0 vs x () true hg (GW_size hg) { args := ha, res := fun r blk h => (by cases h), dom := fun r gx h => (by cases h), inj := fun _ _ _ _ _ h => (by cases h), low := fun _ _ _ h => (by cases h), chg := fun _ _ _ _ h => (by cases h), mlt := fun b o h => h.elim, row := fun _ _ _ h => (by cases h) } hf).mono fun e W' hp => ?_
  obtain ⟨vs', g', he, hE, _, hF, _⟩ := hp
  refine ⟨?_, hE.ext fun b hb => ?_⟩
  · have := hF.args
    rw [hout] at this
    match vs', this with
    | [v], ⟨h1, _⟩ =>
      have h2 := RepV.plain (t := .bool) rfl h1
      have h3 : [v] = [.bool true] := h2
      injection h3 with h3
      rw [he, h3]
      rfl
  · obtain ⟨r, x, h, _⟩ := hb
    cases h
end Go.Proofs.YtbekhaioddmliaaDoor
