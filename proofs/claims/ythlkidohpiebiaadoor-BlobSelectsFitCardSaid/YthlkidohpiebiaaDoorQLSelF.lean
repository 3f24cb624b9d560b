/- The arguments of a law, as the statement's reading hands them over, as data of the machine: any type. -/
import Derived.Test.YthlkidohpiebiaaDoorQBlT
import Derived.ProofKit
import Derived.OpenShut
import Derived.ShutString
import Derived.DataReads
import Derived.ChangeShapes
import Derived.WideShapes
import Derived.Test.YthlkidohpiebiaaDoorQSplt
import Derived.Test.YthlkidohpiebiaaDoorQAsc
import Derived.Test.YthlkidohpiebiaaDoorRows
namespace Go.Proofs.YthlkidohpiebiaaDoor
set_option linter.unusedVariables false
set_option linter.unusedSimpArgs false
open Go Go.RowKit Go.ChangeShapes Go.WideShapes
/-- Nothing is longer than Go lets it be. -/
def FitG (RR : (i : RC) → i.den → Prop) : (t : Ty) → t.den → Prop
  | .u8, _ => True
  | .int k, x => (Lit.int k x).wf = true
  | .bool, _ => True
  | .str, x => x.length ≤ maxLen
  | .sl t, xs => xs.length ≤ maxLen ∧ ∀ x ∈ xs, FitG RR t x
  | .pr a b, x => FitG RR a x.1 ∧ FitG RR b x.2
  | .un, _ => True
  | .mp _, _ => True
  | .ptr _, _ => True
  | .np _, _ => True
  | .clo _ _, _ => True
  | .rc i, x => RR i x
def FitR (i : RC) (x : i.den) : Prop := ∀ RR : (i : RC) → i.den → Prop, (∀ j y, FitG RR j.body (j.un y) → RR j y) → RR i x
def Fit : (t : Ty) → t.den → Prop := FitG FitR
theorem FitG.mono {RR RR' : (i : RC) → i.den → Prop} (hR : ∀ i x, RR i x → RR' i x) : ∀ (t : Ty) (x : t.den), FitG RR t x → FitG RR' t x
  | .u8, _, h => h
  | .int _, _, h => h
  | .bool, _, h => h
  | .str, _, h => h
  | .sl t, _, h => ⟨h.1, fun x hx => FitG.mono hR t x (h.2 x hx)⟩
  | .pr a b, _, h => ⟨FitG.mono hR a _ h.1, FitG.mono hR b _ h.2⟩
  | .un, _, h => h
  | .mp _, _, h => h
  | .ptr _, _, h => h
  | .np _, _, h => h
  | .clo _ _, _, h => h
  | .rc i, x, h => hR i x h
theorem FitR.intro {i : RC} {x : i.den} (h : Fit i.body (i.un x)) : FitR i x :=
  fun RR hc => hc i x (FitG.mono (fun j y hy => hy RR hc) _ _ h)
theorem FitR.elim {i : RC} {x : i.den} (h : FitR i x) : Fit i.body (i.un x) :=
  h (fun j y => Fit j.body (j.un y)) fun _ _ hy => FitG.mono (fun _ _ h => FitR.intro h) _ _ hy
mutual
/-- A type of the program is this one, down to its parts. -/
inductive Deep (P : Program) (R : RC → Option TypeId) : Ty → TypeId → Prop where
  | u8 {T : TypeId} : P.underlying T = some (.int .u8) → Deep P R .u8 T
  | int {T : TypeId} {k : IntKind} : P.underlying T = some (.int k) → Deep P R (.int k) T
  | bool {T : TypeId} : P.underlying T = some .bool → Deep P R .bool T
  | str {T : TypeId} : P.underlying T = some .string → Deep P R .str T
  | sl {T e : TypeId} {t : Ty} : P.underlying T = some (.slice e) → P.cellsOf e = t.sz → Deep P R t e → Deep P R (.sl t) T
  | st {T : TypeId} {t : Ty} {fs : Array Field} : P.underlying T = some (.struct fs) → P.cellsOf T = t.sz → t.isAgg = true → DeepF P R t fs.toList 0 → Deep P R t T
  | rc {T : TypeId} {i : RC} : R i = some T → Deep P R (.rc i) T
/-- The same, of fields from a place on. -/
inductive DeepF (P : Program) (R : RC → Option TypeId) : Ty → List Field → Nat → Prop where
  | nil {o : Nat} : DeepF P R .un [] o
  | one {t : Ty} {f : Field} {o : Nat} : f.offset = o → P.cellsOf f.type = t.sz → Deep P R t f.type → DeepF P R t [f] o
  | single {t : Ty} {f : Field} {o : Nat} : f.offset = o → P.cellsOf f.type = t.sz → Deep P R t f.type → DeepF P R (.pr t .un) [f] o
  | cons {a b : Ty} {f : Field} {fs : List Field} {o : Nat} : f.offset = o → P.cellsOf f.type = a.sz → Deep P R a f.type → DeepF P R b fs (o + a.sz) → DeepF P R (.pr a b) (f :: fs) o
end
def RcOk (P : Program) (R : RC → Option TypeId) : Prop := ∀ i T, R i = some T → ∃ fs, P.underlying T = some (.struct fs) ∧ P.cellsOf T = i.sz ∧ DeepF P R i.body fs.toList 0
abbrev M00 : Nat → Nat → Prop := fun _ _ => False
section
variable {H : Type} {enc : TypeId × Value → H} {P : Program} {w : World} {spare : Nat → Bool} {held : Bool} {R : RC → Option TypeId}
theorem choose_list {α : Type} {p : Nat → α → Prop} : ∀ n, (∀ i, i < n → ∃ x, p i x) → ∃ l : List α, l.length = n ∧ ∀ i (h : i < l.length), p i l[i]
  | 0, _ => ⟨[], rfl, fun i h => absurd h (Nat.not_lt_zero _)⟩
  | n + 1, h => by
    obtain ⟨l, hl, hp⟩ := choose_list n fun i hi => h i (Nat.lt_succ_of_lt hi)
    obtain ⟨x, hx⟩ := h n (Nat.lt_succ_self _)
    refine ⟨l ++ [x], by simp [hl], fun i hi => ?_⟩
    rcases Nat.lt_or_ge i l.length with h' | h'
    · rw [List.getElem_append_left h']; exact hp i h'
    · have : i = l.length := by simp at hi; omega
      subst this
      simp [hl, hx]
theorem pl_of_cells {a : Addr} {n : Nat} {cs : List Value} (h : w.cells? 0 a n = some cs) : Pl M00 w a cs := by
  intro j u hu
  refine ⟨?_, id⟩
  unfold World.cells? at h
  rw [if_pos (Nat.zero_le _)] at h
  have hl := mapM_some_length h
  have hj : j < n := by
    rcases Nat.lt_or_ge j cs.length with h' | h'
    · rw [hl, List.length_range] at h'; exact h'
    · rw [List.getElem?_eq_none h'] at hu; cases hu
  have := mapM_some_get h j j (by rw [List.getElem?_range hj])
  rw [this]; exact hu
/-- What fields read as. -/
theorem fields_rep {fuel : Nat} {cs : List Value}
    (ih : ∀ (t : Ty) (T : TypeId) (cs : List Value) (x : DataW H × List MemPlace), Deep P R t T → DataW.trod enc P w 0 spare held fuel T cs = some x → ∃ d : t.den, RepC M00 w t d cs ∧ Fit t d) :
    ∀ (fs : List Field) (t : Ty) (o : Nat) (xs : List (DataW H × List MemPlace)), DeepF P R t fs o →
      (fs.mapM fun f => DataW.trod enc P w 0 spare held fuel f.type ((cs.drop f.offset).take (P.cellsOf f.type))) = some xs → ∃ d : t.den, RepC M00 w t d ((cs.drop o).take t.sz) ∧ Fit t d := by
  intro fs
  induction fs with
  | nil =>
    intro t o xs hd _
    cases hd
    exact ⟨(), List.take_zero, trivial⟩
  | cons f fs hfs =>
    intro t o xs hd hm
    have hhead : ∃ y, DataW.trod enc P w 0 spare held fuel f.type ((cs.drop f.offset).take (P.cellsOf f.type)) = some y := by
      have := mapM_some_get hm 0 f rfl
      cases hx : xs[0]? with
      | none =>
        have hl := mapM_some_length hm
        rw [List.getElem?_eq_none_iff] at hx
        simp at hl; omega
      | some y => exact ⟨y, this.trans hx⟩
    have htail : ∃ ys, (fs.mapM fun f => DataW.trod enc P w 0 spare held fuel f.type ((cs.drop f.offset).take (P.cellsOf f.type))) = some ys := by
      rw [List.mapM_cons] at hm
      obtain ⟨y, hy⟩ := hhead
      rw [hy] at hm
      cases hys : (fs.mapM fun f => DataW.trod enc P w 0 spare held fuel f.type ((cs.drop f.offset).take (P.cellsOf f.type))) with
      | none => rw [hys] at hm; cases hm
      | some ys => exact ⟨ys, rfl⟩
    obtain ⟨y, hy⟩ := hhead
    obtain ⟨ys, hys⟩ := htail
    cases hd with
    | one ho hc h1 =>
      rw [ho, hc] at hy
      exact ih _ _ _ _ h1 hy
    | single ho hc h1 =>
      rw [ho, hc] at hy
      obtain ⟨d, hd1, hd2⟩ := ih _ _ _ _ h1 hy
      exact ⟨(d, ()), ⟨_, [], (List.append_nil _).symm, hd1, rfl⟩, hd2, trivial⟩
    | @cons a b _ _ _ ho hc h1 h2 =>
      rw [ho, hc] at hy
      obtain ⟨d, hd1, hd2⟩ := ih _ _ _ _ h1 hy
      obtain ⟨e, he1, he2⟩ := hfs _ _ _ h2 hys
      refine ⟨(d, e), ⟨_, _, ?_, hd1, he1⟩, hd2, he2⟩
      show (cs.drop o).take (a.sz + b.sz) = _
      rw [List.take_add, List.drop_drop]
theorem trod_rep (hR : RcOk P R) : ∀ (fuel : Nat) (t : Ty) (T : TypeId) (cs : List Value) (x : DataW H × List MemPlace), Deep P R t T → DataW.trod enc P w 0 spare held fuel T cs = some x →
    ∃ d : t.den, RepC M00 w t d cs ∧ Fit t d := by
  intro fuel
  induction fuel with
  | zero => intro t T cs x _ h; cases h
  | succ fuel ih =>
    intro t T cs x hd h
    have hstruct : ∀ (t : Ty) (fs : Array Field), P.underlying T = some (.struct fs) → P.cellsOf T = t.sz → DeepF P R t fs.toList 0 → ∃ d : t.den, RepC M00 w t d cs ∧ Fit t d := fun t fs hu hc hf => by
      unfold DataW.trod at h
      simp only [hu] at h
      split at h
      · rename_i hl
        cases hm : (fs.toList.mapM fun f => DataW.trod enc P w 0 spare held fuel f.type ((cs.drop f.offset).take (P.cellsOf f.type))) with
        | none => rw [hm] at h; cases h
        | some xs =>
          obtain ⟨d, h1, h2⟩ := fields_rep ih fs.toList t 0 xs hf hm
          rw [List.drop_zero, List.take_of_length_le (by omega)] at h1
          exact ⟨d, h1, h2⟩
      · cases h
    cases hd with
    | u8 hu =>
      have hx : ∃ n, cs = [.int .u8 n] ∧ (Lit.int .u8 n).wf = true := by
        unfold DataW.trod at h
        split at h <;> simp_all
      obtain ⟨n, rfl, hn⟩ := hx
      refine ⟨UInt8.ofNat n.toNat, ?_, trivial⟩
      show [Value.int .u8 n] = [Value.int .u8 (UInt8.ofNat n.toNat).toNat]
      simp [Lit.wf, IntKind.min, IntKind.max, IntKind.signed, IntKind.bits] at hn
      have : ((UInt8.ofNat n.toNat).toNat : Int) = n := by simp; omega
      rw [this]
    | @int _ k hu =>
      have hx : ∃ n, cs = [.int k n] ∧ (Lit.int k n).wf = true := by
        unfold DataW.trod at h
        split at h <;> simp_all
      obtain ⟨n, rfl, hn⟩ := hx
      exact ⟨n, rfl, hn⟩
    | bool hu =>
      have hx : ∃ b, cs = [.bool b] := by
        unfold DataW.trod at h
        split at h <;> simp_all
      obtain ⟨b, rfl⟩ := hx
      exact ⟨b, rfl, trivial⟩
    | str hu =>
      have hx : ∃ s : ByteArray, cs = [.string s] ∧ s.size ≤ maxLen := by
        unfold DataW.trod at h
        split at h <;> simp_all
      obtain ⟨s, rfl, hn⟩ := hx
      refine ⟨s.data.toList, ?_, ?_⟩
      · show [Value.string s] = [Value.string ⟨s.data.toList.toArray⟩]
        simp
      · show s.data.toList.length ≤ maxLen
        simpa using hn
    | @sl _ e t hu hc he =>
      have hx : cs = [.slice none 0 0] ∨ ∃ a len cap, cs = [.slice (some a) len cap] ∧ len ≤ cap ∧ cap ≤ maxLen ∧
          ∀ i, i < len → ∃ y, (w.cells? 0 (a.add (i * P.cellsOf e)) (P.cellsOf e)).bind (DataW.trod enc P w 0 spare held fuel e) = some y := by
        unfold DataW.trod at h
        split at h
        all_goals try (simp_all; done)
        · rename_i hu2
          rw [hu] at hu2
          cases hu2
          simp only at h
          split at h
          · rename_i hb
            right
            refine ⟨_, _, _, rfl, hb.2.1, hb.2.2, fun i hi => ?_⟩
            cases hm : ((List.range _).mapM fun i => (w.cells? 0 (Addr.add _ (i * P.cellsOf e)) (P.cellsOf e)).bind (DataW.trod enc P w 0 spare held fuel e)) with
            | none => rw [hm] at h; cases h
            | some ys =>
              have h1 := mapM_some_get hm i i (by rw [List.getElem?_range hi])
              have hl := mapM_some_length hm
              rw [List.length_range] at hl
              exact ⟨ys[i]'(by omega), h1.trans (List.getElem?_eq_getElem (by omega))⟩
          · cases h
      rcases hx with rfl | ⟨a, len, cap, rfl, h1, h2, h3⟩
      · exact ⟨[], ⟨none, 0, rfl, Nat.le_refl _, Nat.zero_le _, fun i h => absurd h (Nat.not_lt_zero _)⟩, Nat.zero_le _, fun x h => by cases h⟩
      · have hall : ∀ i, i < len → ∃ d : t.den, (∃ es, RepC M00 w t d es ∧ Pl M00 w (a.add (i * t.sz)) es) ∧ Fit t d := fun i hi => by
          obtain ⟨y, hy⟩ := h3 i hi
          rw [hc] at hy
          cases hcs : w.cells? 0 (a.add (i * t.sz)) t.sz with
          | none => rw [hcs] at hy; cases hy
          | some es =>
            rw [hcs] at hy
            obtain ⟨d, hd1, hd2⟩ := ih _ _ _ _ he hy
            exact ⟨d, ⟨es, hd1, pl_of_cells hcs⟩, hd2⟩
        obtain ⟨l, hl, hp⟩ := choose_list len hall
        refine ⟨l, ⟨some a, cap, ?_, by omega, h2, fun i hi => ?_⟩, ?_, fun x hx => ?_⟩
        · rw [hl]
        · obtain ⟨⟨es, e1, e2⟩, _⟩ := hp i hi
          exact ⟨a, es, rfl, e1, e2⟩
        · show l.length ≤ maxLen; omega
        · obtain ⟨i, hi, rfl⟩ := List.getElem_of_mem hx
          exact (hp i hi).2
    | st hu hc ha hf => exact hstruct t _ hu hc hf
    | rc hr =>
      obtain ⟨fs, hu, hc, hf⟩ := hR _ _ hr
      rename_i i
      obtain ⟨d, h1, h2⟩ := hstruct i.body fs hu (by rw [hc, RC.sz_body]) hf
      refine ⟨i.mk d, RepC.rc.2 (by rw [RC.un_mk]; exact h1), FitR.intro (by rw [RC.un_mk]; exact h2)⟩
/-- An argument. -/
theorem arg_open (hR : RcOk P R) {r : Reach} {base : Nat} {t : Ty} {T : TypeId} {v : Value} {d : DataW H} {p : List MemPlace} (hd : Deep P R t T) (hv : Value.okWide P w r base T v) (h : DataW.Trod enc P w 0 spare held T v d p) :
    ∃ x : t.den, RepV M00 w t x v ∧ Fit t x := by
  obtain ⟨fuel, hf⟩ := h
  obtain ⟨x, h1, h2⟩ := trod_rep hR fuel t T _ _ hd hf
  refine ⟨x, ⟨_, h1, ?_⟩, h2⟩
  have hagg : ∀ fs, P.underlying T = some (.struct fs) → t.isAgg = true → v = mkV t v.cells.toList := fun fs hu ha => by
    obtain ⟨cs, rfl, _⟩ := okWide_struct hu hv
    rw [mkV_agg ha]
    simp [Value.cells]
  have hone : ∀ c : Value, v = c → c.cells = #[c] → t.isAgg = false → v = mkV t v.cells.toList := fun c e hc ha => by
    subst e
    rw [hc, mkV_plain ha]
  cases hd with
  | u8 hu => obtain ⟨n, rfl⟩ := okWide_int hu hv; exact hone _ rfl rfl rfl
  | int hu => obtain ⟨n, rfl⟩ := okWide_int hu hv; exact hone _ rfl rfl rfl
  | bool hu => obtain ⟨n, rfl⟩ := okWide_bool hu hv; exact hone _ rfl rfl rfl
  | str hu => obtain ⟨n, rfl⟩ := okWide_string hu hv; exact hone _ rfl rfl rfl
  | sl hu _ _ => obtain ⟨a, l, c, rfl⟩ := okWide_slice hu hv; exact hone _ rfl rfl rfl
  | st hu _ ha _ => exact hagg _ hu ha
  | rc hr => obtain ⟨fs, hu, _⟩ := hR _ _ hr; exact hagg _ hu rfl
end
/-- A law is called. -/
theorem law_run {P : Program} {f : FuncId} {ps : List Sl} {F : SV ps → BV [] → Option Bool} {out : Bool → SV [.v .bool] × BV []} (hout : ∀ z, (out z).1 = (z, ())) (hs : Sound P GW B0G f ⟨ps, [], [.v .bool], [], Bool, out, F⟩)
    {W : World} {vs : List Value} {x : SV ps} (hg : GW W) (ha : All2 (RepD0 M00 W g0) (lays id ps x) vs) (hf : F x () = some true) : Calls P f vs.toArray W fun e W' => e = .returned (.bool true) ∧ Ext W W' := by
  refine (hs.2 M00 W g0 vs x () true hg (GW_size hg) { args := ha, res := fun r blk h => (by cases h), dom := fun r gx h => (by cases h), inj := fun _ _ _ _ _ h => (by cases h), low := fun _ _ _ h => (by cases h), chg := fun _ _ _ _ h => (by cases h), mlt := fun b o h => h.elim, row := fun _ _ _ h => (by cases h) } hf).mono fun e W' hp => ?_
  obtain ⟨vs', g', he, hE, _, hF, _⟩ := hp
  refine ⟨?_, hE.ext fun b hb => ?_⟩
  · have := hF.args
    rw [hout] at this
    match vs', this with
    | [v], ⟨h1, _⟩ =>
      have h2 := RepV.plain (t := .bool) rfl h1
      have h3 : [v] = [.bool true] := h2
      injection h3 with h3
      rw [he, h3]
      rfl
  · obtain ⟨r, x, h, _⟩ := hb
    cases h
end Go.Proofs.YthlkidohpiebiaaDoor


/- Patterns in the program and in its reference (law 6), in plain Lean. -/
namespace Go.Proofs.YthlkidohpiebiaaDoor
set_option linter.unusedVariables false
set_option linter.unusedSimpArgs false
open Go Go.RowKit
/-- What a byte of a pattern's part says of the k-th byte of a path's part. -/
def oneC (s : Str) (c : UInt8) (k : Nat) : Bool := match s[k]? with | some x => c == 63 || c == x | none => false
theorem oneC_at {s : Str} {c : UInt8} {k : Nat} (h : k < s.length) : oneC s c k = (c == 63 || c == s[k]) := by unfold oneC; rw [List.getElem?_eq_getElem h]
theorem w_put {R : Type} {r : Nat → Bool} {m k : Nat} {b : Bool} (h : k ≤ m) (hb : b = r k) (f : List Bool → Option R) :
    br (decide (0 ≤ (k : Int) ∧ (k : Int) < ((tab r m k).length : Int))) (bnd (geti (tab r m k) (k : Int)) fun _ => f (seti (tab r m k) (k : Int) b)) none = f (tab r m (k + 1)) := by
  rw [br_pos ⟨by omega, by rw [tab_len]; omega⟩, geti_lt _ (by rw [tab_len]; omega), bnd_some, tab_set r h hb]
theorem mk_row {x1 : Str} (hx : x1.length ≤ 1000000) : IntKind.i64.wrap ((x1.length : Int) + (1 : Int)) = ((x1.length + 1 : Nat) : Int) := by rw [wrap_id (by omega) (by omega)]; omega
theorem mk_cond {m : Nat} (hx : m ≤ 1000000) : 0 ≤ ((m + 1 : Nat) : Int) ∧ ((m + 1 : Nat) : Int) ≤ ((m + 1 : Nat) : Int) ∧ ((m + 1 : Nat) : Int) * (24 * Ty.sz .bool : Nat) ≤ 140737488355328 := by
  have : (24 * Ty.sz .bool : Nat) = 24 := rfl
  rw [this]
  omega
/-- The rows of the pattern's first bytes. -/
def rowsC (x0 x1 : Str) (i : Nat) : Nat → Bool := rowB (fun c : UInt8 => c == 42) (oneC x1) (x0.take i) row0B
theorem rowsC_succ {x0 x1 : Str} {i : Nat} (h : i < x0.length) : rowsC x0 x1 (i + 1) = stepB (x0[i] == 42) (oneC x1 x0[i]) (rowsC x0 x1 i) := rowB_take _ _ _ _ h
/-- What a part of a pattern says of the k-th part of a path. -/
def oneP (P : List Str) (c : Str) (k : Nat) : Bool := match P[k]? with | some x => partFitsB c x | none => false
theorem oneP_at {P : List Str} {c : Str} {k : Nat} (h : k < P.length) : oneP P c k = partFitsB c P[k] := by unfold oneP; rw [List.getElem?_eq_getElem h]
theorem mk_rowL {m : Nat} (hx : m ≤ 1000000) : IntKind.i64.wrap ((m : Int) + (1 : Int)) = ((m + 1 : Nat) : Int) := by rw [wrap_id (by omega) (by omega)]; omega
def rowsP (Q P : List Str) (i : Nat) : Nat → Bool := rowB (fun c : Str => c == [42, 42]) (oneP P) (Q.take i) row0B
theorem rowsP_succ {Q P : List Str} {i : Nat} (h : i < Q.length) : rowsP Q P (i + 1) = stepB (Q[i] == [42, 42]) (oneP P Q[i]) (rowsP Q P i) := rowB_take _ _ _ _ h
theorem parts_len {x : Str} (h : x.length < 1000000) : (splitC 47 x).length ≤ 1000000 := by
  rw [splitC_len]
  have := List.count_le_length (a := (47 : UInt8)) (l := x)
  omega
theorem parts_le {x : Str} (h : x.length < 1000000) : ∀ q ∈ splitC 47 x, q.length ≤ 1000000 := fun q hq => by
  have := (splitC_mem 47 x q hq).2
  omega
theorem tab_same {r : Nat → Bool} {m k : Nat} (h : r k = false) : tab r m k = tab r m (k + 1) := by
  unfold tab
  apply List.map_congr_left
  intro j _
  by_cases h1 : j < k
  · simp [h1, show j < k + 1 from by omega]
  · by_cases h2 : j = k
    · subst h2; simp [h]
    · simp [h1, show ¬ j < k + 1 from by omega]
/-- Whether one of the places before k fits. -/
def anyB (st : Bool) (o r : Nat → Bool) : Nat → Bool
  | 0 => false
  | k + 1 => st && stepB st o r k
theorem partFits_2_eq (N : Nat) (c x : UInt8) : blob_partFits_2 N c x = some (c == 63 || c == x) := by
  unfold blob_partFits_2
  cases h : (c == (63 : UInt8)) <;> simp [h]
theorem blob_rowC (N : Nat) {x1 : Str} {c : UInt8} (hx : x1.length ≤ 1000000) (r : Nat → Bool) (k2 : List Bool → Option Bool) : ∀ n, x1.length + 1 < n →
    blob_fits_byte_L1 N x1 (tab r x1.length (x1.length + 1)) c ((x1.length + 1 : Nat) : Int) k2 n false 0 (tab (stepB (c == 42) (oneC x1 c) r) x1.length 0) = k2 (tab (stepB (c == 42) (oneC x1 c) r) x1.length (x1.length + 1)) := by
  refine steps_loop (S := Bool × Int × List Bool) (x1.length + 1) (fun k => (anyB (c == 42) (oneC x1 c) r k, (k : Int), tab (stepB (c == 42) (oneC x1 c) r) x1.length k)) (f := fun n s => blob_fits_byte_L1 N x1 (tab r x1.length (x1.length + 1)) c ((x1.length + 1 : Nat) : Int) k2 n s.1 s.2.1 s.2.2) (fun n k hk => ?_) (fun n => ?_)
  · show blob_fits_byte_L1T N x1 _ c _ k2 (blob_fits_byte_L1 N x1 _ c _ k2 n) _ (k : Int) _ = blob_fits_byte_L1 N x1 _ c _ k2 n _ ((k + 1 : Nat) : Int) _
    have hkm : k ≤ x1.length := by omega
    have hw : IntKind.i64.wrap ((k : Int) + 1) = ((k + 1 : Nat) : Int) := by rw [wrap_id (by omega) (by omega)]; omega
    unfold blob_fits_byte_L1T
    rw [br_pos (by omega : (k : Int) < ((x1.length + 1 : Nat) : Int)), hw, show blob_partFits_1 N c = some (c == (42 : UInt8)) from rfl]
    simp only [bnd_some]
    rcases hs : (c == (42 : UInt8)) with _ | _
    rotate_left
    · simp only [hs, br_true]
      cases ha : anyB true (oneC x1 c) r k with
      | true =>
        cases k with
        | zero => cases ha
        | succ k =>
          have ha' : stepB true (oneC x1 c) r k = true := by simpa [anyB] using ha
          have h1 : stepB true (oneC x1 c) r (k + 1) = true := by rw [stepB_many, ha', Bool.or_true]
          simp only [br_true]
          rw [show anyB true (oneC x1 c) r (k + 1 + 1) = true from by simp [anyB, h1]]
          exact w_put (r := stepB true (oneC x1 c) r) hkm h1.symm (fun w => blob_fits_byte_L1 N x1 _ c _ k2 n true _ w)
      | false =>
        simp only [br_false]
        rw [tab_get r hkm (by omega), bnd_some]
        have h1 : stepB true (oneC x1 c) r k = r k := by
          cases k with
          | zero => rw [stepB_zero]; rfl
          | succ k =>
            have ha' : stepB true (oneC x1 c) r k = false := by simpa [anyB] using ha
            rw [stepB_many, ha', Bool.or_false]
        rw [show anyB true (oneC x1 c) r (k + 1) = r k from by simp [anyB, h1]]
        exact w_put (r := stepB true (oneC x1 c) r) hkm h1.symm (fun w => blob_fits_byte_L1 N x1 _ c _ k2 n (r k) _ w)
    · simp only [hs, br_false]
      have hany : ∀ j, anyB false (oneC x1 c) r j = false := fun j => by cases j <;> simp [anyB]
      rw [hany, hany]
      cases k with
      | zero =>
        rw [br_neg (by omega), tab_same (k := 0) (by rw [stepB_zero]; rfl)]
      | succ k =>
        have hp : IntKind.i64.wrap (((k + 1 : Nat) : Int) - 1) = (k : Int) := by rw [wrap_id (by omega) (by omega)]; omega
        rw [br_pos (by omega : ((k + 1 : Nat) : Int) > 0), hp, tab_get r (by omega) (by omega), bnd_some]
        cases hr : r k with
        | false =>
          simp only [br_false]
          refine w_put hkm ?_ (fun w => blob_fits_byte_L1 N x1 _ c _ k2 n false _ w)
          rw [stepB_one, hr]; rfl
        | true =>
          simp only [br_true]
          rw [geti_lt x1 (by omega), bnd_some, partFits_2_eq, bnd_some]
          refine w_put hkm ?_ (fun w => blob_fits_byte_L1 N x1 _ c _ k2 n false _ w)
          rw [stepB_one, hr, oneC_at (by omega)]; rfl
  · show blob_fits_byte_L1T N x1 _ c _ k2 _ _ ((x1.length + 1 : Nat) : Int) _ = _
    unfold blob_fits_byte_L1T
    rw [br_neg (by omega)]
theorem blob_fitsC {N : Nat} (hN : big ≤ N) {x0 x1 : Str} (h0 : x0.length ≤ 1000000) (h1 : x1.length ≤ 1000000) : blob_fits_byte N x0 x1 () () = some (partFitsB x0 x1) := by
  have hb : (18446744073709551616 : Nat) ≤ N := hN
  unfold blob_fits_byte
  rw [mk_row h1, br_pos (mk_cond h1), show zero .bool = false from rfl, tab_mk0 row0B x1.length rfl, br_pos ⟨by omega, by rw [tab_len]; omega⟩, show (0 : Int) = ((0 : Nat) : Int) from rfl, geti_lt _ (by rw [tab_len]; omega), bnd_some]
  rw [show ((0 : Nat) : Int) = (0 : Int) from rfl, tab_first]
  refine steps_loop (S := List Bool × Int) x0.length (fun i => (tab (rowsC x0 x1 i) x1.length (x1.length + 1), (i : Int))) (f := fun n s => blob_fits_byte_L0 N x1 x0 (x0.length : Int) _ n s.1 s.2) (fun n i hi => ?_) (fun n => ?_) N (by omega)
  · show blob_fits_byte_L0T N x1 x0 _ _ (blob_fits_byte_L0 N x1 x0 _ _ n) _ (i : Int) = _
    unfold blob_fits_byte_L0T
    rw [br_pos (by omega : (i : Int) < (x0.length : Int)), geti_lt x0 hi, bnd_some, tab_len, br_pos (mk_cond h1), show zero .bool = false from rfl, tab_mk0 (stepB (x0[i] == 42) (oneC x1 x0[i]) (rowsC x0 x1 i)) x1.length rfl]
    rw [blob_rowC N h1 (rowsC x0 x1 i) _ N (by omega), ← rowsC_succ hi]
    have hw : IntKind.i64.wrap ((i : Int) + 1) = ((i + 1 : Nat) : Int) := by rw [wrap_id (by omega) (by omega)]; omega
    rw [hw]
  · show blob_fits_byte_L0T N x1 x0 _ _ _ _ (x0.length : Int) = _
    unfold blob_fits_byte_L0T
    rw [br_neg (by omega)]
    show bnd (geti (tab (rowsC x0 x1 x0.length) x1.length (x1.length + 1)) (x1.length : Int)) (fun t75 => some t75) = _
    rw [tab_get _ (Nat.le_refl _) (Nat.lt_succ_self _), bnd_some]
    show some (rowsC x0 x1 x0.length x1.length) = some (partFitsB x0 x1)
    unfold rowsC
    rw [List.take_length]
    rfl
theorem blob_partFits_eq {N : Nat} (hN : big ≤ N) {x0 x1 : Str} (h0 : x0.length ≤ 1000000) (h1 : x1.length ≤ 1000000) : blob_partFits N x0 x1 = some (partFitsB x0 x1) := by
  unfold blob_partFits
  rw [br_pos (by omega), br_pos (by omega), blob_fitsC hN h0 h1, bnd_some]
theorem blob_rowP {N : Nat} (hN : big ≤ N) {x1 : List Str} {c : Str} (hx : x1.length ≤ 1000000) (hc : c.length ≤ 1000000) (hP : ∀ q ∈ x1, q.length ≤ 1000000) (r : Nat → Bool) (k2 : List Bool → Option Bool) : ∀ n, x1.length + 1 < n →
    blob_fits_string_L1 N x1 (tab r x1.length (x1.length + 1)) c ((x1.length + 1 : Nat) : Int) k2 n false 0 (tab (stepB (c == [42, 42]) (oneP x1 c) r) x1.length 0) = k2 (tab (stepB (c == [42, 42]) (oneP x1 c) r) x1.length (x1.length + 1)) := by
  refine steps_loop (S := Bool × Int × List Bool) (x1.length + 1) (fun k => (anyB (c == [42, 42]) (oneP x1 c) r k, (k : Int), tab (stepB (c == [42, 42]) (oneP x1 c) r) x1.length k)) (f := fun n s => blob_fits_string_L1 N x1 (tab r x1.length (x1.length + 1)) c ((x1.length + 1 : Nat) : Int) k2 n s.1 s.2.1 s.2.2) (fun n k hk => ?_) (fun n => ?_)
  · show blob_fits_string_L1T N x1 _ c _ k2 (blob_fits_string_L1 N x1 _ c _ k2 n) _ (k : Int) _ = blob_fits_string_L1 N x1 _ c _ k2 n _ ((k + 1 : Nat) : Int) _
    have hkm : k ≤ x1.length := by omega
    have hw : IntKind.i64.wrap ((k : Int) + 1) = ((k + 1 : Nat) : Int) := by rw [wrap_id (by omega) (by omega)]; omega
    unfold blob_fits_string_L1T
    rw [br_pos (by omega : (k : Int) < ((x1.length + 1 : Nat) : Int)), hw, show blob_pathFits_1 N c = some (c == ([42, 42] : Str)) from rfl]
    simp only [bnd_some]
    rcases hs : (c == ([42, 42] : Str)) with _ | _
    rotate_left
    · simp only [hs, br_true]
      cases ha : anyB true (oneP x1 c) r k with
      | true =>
        cases k with
        | zero => cases ha
        | succ k =>
          have ha' : stepB true (oneP x1 c) r k = true := by simpa [anyB] using ha
          have h1 : stepB true (oneP x1 c) r (k + 1) = true := by rw [stepB_many, ha', Bool.or_true]
          simp only [br_true]
          rw [show anyB true (oneP x1 c) r (k + 1 + 1) = true from by simp [anyB, h1]]
          exact w_put (r := stepB true (oneP x1 c) r) hkm h1.symm (fun w => blob_fits_string_L1 N x1 _ c _ k2 n true _ w)
      | false =>
        simp only [br_false]
        rw [tab_get r hkm (by omega), bnd_some]
        have h1 : stepB true (oneP x1 c) r k = r k := by
          cases k with
          | zero => rw [stepB_zero]; rfl
          | succ k =>
            have ha' : stepB true (oneP x1 c) r k = false := by simpa [anyB] using ha
            rw [stepB_many, ha', Bool.or_false]
        rw [show anyB true (oneP x1 c) r (k + 1) = r k from by simp [anyB, h1]]
        exact w_put (r := stepB true (oneP x1 c) r) hkm h1.symm (fun w => blob_fits_string_L1 N x1 _ c _ k2 n (r k) _ w)
    · simp only [hs, br_false]
      have hany : ∀ j, anyB false (oneP x1 c) r j = false := fun j => by cases j <;> simp [anyB]
      rw [hany, hany]
      cases k with
      | zero =>
        rw [br_neg (by omega), tab_same (k := 0) (by rw [stepB_zero]; rfl)]
      | succ k =>
        have hp : IntKind.i64.wrap (((k + 1 : Nat) : Int) - 1) = (k : Int) := by rw [wrap_id (by omega) (by omega)]; omega
        rw [br_pos (by omega : ((k + 1 : Nat) : Int) > 0), hp, tab_get r (by omega) (by omega), bnd_some]
        cases hr : r k with
        | false =>
          simp only [br_false]
          refine w_put hkm ?_ (fun w => blob_fits_string_L1 N x1 _ c _ k2 n false _ w)
          rw [stepB_one, hr]; rfl
        | true =>
          simp only [br_true]
          rw [geti_lt x1 (by omega), bnd_some, blob_partFits_eq hN hc (hP _ (List.getElem_mem _)), bnd_some]
          refine w_put hkm ?_ (fun w => blob_fits_string_L1 N x1 _ c _ k2 n false _ w)
          rw [stepB_one, hr, oneP_at (by omega)]; rfl
  · show blob_fits_string_L1T N x1 _ c _ k2 _ _ ((x1.length + 1 : Nat) : Int) _ = _
    unfold blob_fits_string_L1T
    rw [br_neg (by omega)]
theorem blob_fitsP {N : Nat} (hN : big ≤ N) {x0 x1 : List Str} (hQ : ∀ q ∈ x0, q.length ≤ 1000000) (hP : ∀ q ∈ x1, q.length ≤ 1000000) (h0 : x0.length ≤ 1000000) (h1 : x1.length ≤ 1000000) : blob_fits_string N x0 x1 () () = some (fitsB x0 x1) := by
  have hb : (18446744073709551616 : Nat) ≤ N := hN
  unfold blob_fits_string
  rw [mk_rowL h1, br_pos (mk_cond h1), show zero .bool = false from rfl, tab_mk0 row0B x1.length rfl, br_pos ⟨by omega, by rw [tab_len]; omega⟩, show (0 : Int) = ((0 : Nat) : Int) from rfl, geti_lt _ (by rw [tab_len]; omega), bnd_some]
  rw [show ((0 : Nat) : Int) = (0 : Int) from rfl, tab_first]
  refine steps_loop (S := List Bool × Int) x0.length (fun i => (tab (rowsP x0 x1 i) x1.length (x1.length + 1), (i : Int))) (f := fun n s => blob_fits_string_L0 N x1 x0 (x0.length : Int) _ n s.1 s.2) (fun n i hi => ?_) (fun n => ?_) N (by omega)
  · show blob_fits_string_L0T N x1 x0 _ _ (blob_fits_string_L0 N x1 x0 _ _ n) _ (i : Int) = _
    unfold blob_fits_string_L0T
    rw [br_pos (by omega : (i : Int) < (x0.length : Int)), geti_lt x0 hi, bnd_some, tab_len, br_pos (mk_cond h1), show zero .bool = false from rfl, tab_mk0 (stepB (x0[i] == [42, 42]) (oneP x1 x0[i]) (rowsP x0 x1 i)) x1.length rfl]
    rw [blob_rowP hN h1 (hQ _ (List.getElem_mem _)) hP (rowsP x0 x1 i) _ N (by omega), ← rowsP_succ hi]
    have hw : IntKind.i64.wrap ((i : Int) + 1) = ((i + 1 : Nat) : Int) := by rw [wrap_id (by omega) (by omega)]; omega
    rw [hw]
  · show blob_fits_string_L0T N x1 x0 _ _ _ _ (x0.length : Int) = _
    unfold blob_fits_string_L0T
    rw [br_neg (by omega)]
    show bnd (geti (tab (rowsP x0 x1 x0.length) x1.length (x1.length + 1)) (x1.length : Int)) (fun t75 => some t75) = _
    rw [tab_get _ (Nat.le_refl _) (Nat.lt_succ_self _), bnd_some]
    show some (rowsP x0 x1 x0.length x1.length) = some (fitsB x0 x1)
    unfold rowsP
    rw [List.take_length]
    rfl
theorem blob_pathFits_eq {N : Nat} (hN : big ≤ N) {x0 x1 : Str} (h0 : x0.length < 1000000) (h1 : x1.length < 1000000) : blob_pathFits N x0 x1 = some (fitsB (splitC 47 x0) (splitC 47 x1)) := by
  unfold blob_pathFits
  rw [strings_Split_one _ _ (by omega), bnd_some, strings_Split_one _ _ (by omega), bnd_some, blob_fitsP hN (parts_le h0) (parts_le h1) (parts_len h0) (parts_len h1), bnd_some]
theorem inPart_fin (N : Nat) : ∀ n : Fin 256, blob_inPart 0 (UInt8.ofNat n.1) = ref1_partByte 0 (UInt8.ofNat n.1) := by decide +kernel
theorem inPart_eq (N : Nat) (c : UInt8) : blob_inPart N c = ref1_partByte N c := by
  have h := inPart_fin 0 ⟨c.toNat, c.toNat_lt⟩
  have e : UInt8.ofNat c.toNat = c := by simp
  simp only [e] at h
  exact h
theorem isPart_eq (N : Nat) (x : Str) : blob_isPart N x = ref1_isPart N x := by
  have gen : ∀ (k : Option Bool) (n : Nat) (i : Int), blob_isPart_L0 N x (x.length : Int) k n i = ref1_isPart_L0 N x k n i := by
    intro k n
    induction n with
    | zero => intro i; rfl
    | succ n ih =>
      intro i
      show blob_isPart_L0T N x _ k _ i = ref1_isPart_L0T N x k _ i
      unfold blob_isPart_L0T ref1_isPart_L0T
      simp only [inPart_eq, ih]
  exact gen _ _ _
theorem isPath_eq (N : Nat) (x : Str) : blob_IsPath N x = ref1_IsPath N x := by
  have gen : ∀ (P : List Str) (k : Option Bool) (n : Nat) (i : Int), blob_IsPath_L0 N P (P.length : Int) k n i = ref1_IsPath_L0 N P k n i := by
    intro P k n
    induction n with
    | zero => intro i; rfl
    | succ n ih =>
      intro i
      show blob_IsPath_L0T N P _ k _ i = ref1_IsPath_L0T N P k _ i
      unfold blob_IsPath_L0T ref1_IsPath_L0T
      simp only [isPart_eq, ih]
  unfold blob_IsPath ref1_IsPath ref1_within
  simp only [gen]
  by_cases h1 : (x.length : Int) < 1
  · rw [br_pos h1, br_neg (by omega)]; simp
  · rw [br_neg h1]
    by_cases h2 : (x.length : Int) > 200
    · rw [br_pos h2, br_pos (by omega), decide_eq_false (by omega)]; simp
    · rw [br_neg h2, br_pos (by omega), decide_eq_true (by omega)]; simp
theorem scan_loop {α R : Type} {xs : List α} (ok : α → Bool) {k bad : Option R} {f : Nat → Int → Option R} (hstep : ∀ n i (hi : i < xs.length), f (n + 1) (i : Int) = if ok xs[i] = true then f n ((i + 1 : Nat) : Int) else bad)
    (hend : ∀ n, f (n + 1) (xs.length : Int) = k) : ∀ n, xs.length < n → f n 0 = if xs.all ok = true then k else bad := by
  have gen : ∀ (d n i : Nat), i + d = xs.length → d < n → f n (i : Int) = if (xs.drop i).all ok = true then k else bad := by
    intro d
    induction d with
    | zero =>
      intro n i h hn
      obtain ⟨n, rfl⟩ : ∃ j, n = j + 1 := ⟨n - 1, by omega⟩
      obtain rfl : i = xs.length := by omega
      rw [hend, List.drop_length]; rfl
    | succ d ih =>
      intro n i h hn
      obtain ⟨n, rfl⟩ : ∃ j, n = j + 1 := ⟨n - 1, by omega⟩
      have hi : i < xs.length := by omega
      rw [hstep n i hi, ih n (i + 1) (by omega) (by omega), List.drop_eq_getElem_cons hi, List.all_cons]
      cases ok xs[i] <;> simp
  intro n hn
  have := gen xs.length n 0 (by omega) hn
  simpa using this
def byteB (c : UInt8) : Bool := (ref1_partByte 0 c).getD false
theorem byte_fin : ∀ n : Fin 256, ref1_partByte 0 (UInt8.ofNat n.1) = some (byteB (UInt8.ofNat n.1)) := by decide +kernel
theorem byte_eq (N : Nat) (c : UInt8) : ref1_partByte N c = some (byteB c) := by
  have h := byte_fin ⟨c.toNat, c.toNat_lt⟩
  have e : UInt8.ofNat c.toNat = c := by simp
  simp only [e] at h
  exact h
def patB (c : UInt8) : Bool := byteB c || c == 42 || c == 63
theorem ref_patScan {N : Nat} {x : Str} (hx : x.length ≤ 1000000) (k : Option Bool) : ∀ n, x.length < n → ref1_isPatternPart_L0 N x k n 0 = if x.all patB = true then k else some false := by
  refine scan_loop patB (fun n i hi => ?_) (fun n => ?_)
  · show ref1_isPatternPart_L0T N x k _ (i : Int) = _
    have hw : IntKind.i64.wrap ((i : Int) + 1) = ((i + 1 : Nat) : Int) := by rw [wrap_id (by omega) (by omega)]; omega
    unfold ref1_isPatternPart_L0T patB
    rw [br_pos (by omega : (i : Int) < (x.length : Int)), geti_lt x hi, hw]
    simp only [bnd_some, byte_eq]
    cases byteB x[i] <;> cases h1 : (x[i] == (42 : UInt8)) <;> cases h2 : (x[i] == (63 : UInt8)) <;> simp [h1, h2, bne]
  · show ref1_isPatternPart_L0T N x k _ (x.length : Int) = _
    unfold ref1_isPatternPart_L0T
    rw [br_neg (by omega)]
theorem blob_patScan {N : Nat} {x : Str} (hx : x.length ≤ 1000000) (k : Option Int) : ∀ n, x.length < n → blob_CheckPattern_L1 N x (x.length : Int) k n 0 = if x.all patB = true then k else some 3 := by
  refine scan_loop patB (fun n i hi => ?_) (fun n => ?_)
  · show blob_CheckPattern_L1T N x _ k _ (i : Int) = _
    have hw : IntKind.i64.wrap ((i : Int) + 1) = ((i + 1 : Nat) : Int) := by rw [wrap_id (by omega) (by omega)]; omega
    unfold blob_CheckPattern_L1T patB
    rw [br_pos (by omega : (i : Int) < (x.length : Int)), geti_lt x hi, hw]
    simp only [bnd_some, inPart_eq, byte_eq]
    cases byteB x[i] <;> cases h1 : (x[i] == (42 : UInt8)) <;> cases h2 : (x[i] == (63 : UInt8)) <;> simp [h1, h2, bne]
  · show blob_CheckPattern_L1T N x _ k _ (x.length : Int) = _
    unfold blob_CheckPattern_L1T
    rw [br_neg (by omega)]
def patP (t : Str) : Bool := (t == [42, 42]) || (t.all patB && !(t == []) && !(t == [46]) && !(t == [46, 46]) && !Lib.contains t [42, 42])
theorem contains_ok {t : Str} (h : t.length ≤ 1000000) : strings_Contains t [42, 42] = some (Lib.contains t [42, 42]) := by unfold strings_Contains; rw [if_pos (by omega)]
theorem ref_part {N : Nat} (hN : big ≤ N) {t : Str} (h : t.length ≤ 1000000) : ref1_isPatternPart N t = some (patP t) := by
  have hb : (18446744073709551616 : Nat) ≤ N := hN
  unfold ref1_isPatternPart patP
  rw [ref_patScan h _ N (by omega), contains_ok h]
  cases (t == ([42, 42] : Str)) <;> cases (t == ([] : Str)) <;> cases (t == ([46] : Str)) <;> cases (t == ([46, 46] : Str)) <;> cases t.all patB <;> simp
/-- What CheckPattern says. -/
def patS (x : Str) : Int := if 1 ≤ x.length ∧ x.length ≤ 200 ∧ (splitC 47 x).all patP = true then 0 else 3
theorem checkPattern_eq {N : Nat} (hN : big ≤ N) {x : Str} (h : x.length < 1000000) : blob_CheckPattern N x = some (patS x) ∧ ref1_CheckPattern N x = some (patS x) := by
  have hb : (18446744073709551616 : Nat) ≤ N := hN
  unfold blob_CheckPattern ref1_CheckPattern ref1_within patS
  rw [strings_Split_one _ _ (by omega)]
  simp only [bnd_some]
  have hl := parts_len h
  have hP := parts_le h
  generalize splitC 47 x = P at hl hP ⊢
  have h1 : blob_CheckPattern_L0 N P (P.length : Int) (some 0) N 0 = if P.all patP = true then some 0 else some 3 := by
    refine scan_loop patP (fun n i hi => ?_) (fun n => ?_) N (by omega)
    · show blob_CheckPattern_L0T N P _ _ _ (i : Int) = _
      have hw : IntKind.i64.wrap ((i : Int) + 1) = ((i + 1 : Nat) : Int) := by rw [wrap_id (by omega) (by omega)]; omega
      have ht := hP P[i] (List.getElem_mem _)
      unfold blob_CheckPattern_L0T patP
      rw [br_pos (by omega : (i : Int) < (P.length : Int)), geti_lt P hi, bnd_some, hw, contains_ok ht, blob_patScan ht _ N (by omega)]
      cases (P[i] == ([42, 42] : Str)) <;> cases (P[i] == ([] : Str)) <;> cases (P[i] == ([46] : Str)) <;> cases (P[i] == ([46, 46] : Str)) <;> cases P[i].all patB <;> cases Lib.contains P[i] [42, 42] <;> simp
    · show blob_CheckPattern_L0T N P _ _ _ (P.length : Int) = _
      unfold blob_CheckPattern_L0T
      rw [br_neg (by omega)]
  have h2 : ref1_CheckPattern_L0 N P (some 0) N 0 = if P.all patP = true then some 0 else some 3 := by
    refine scan_loop patP (fun n i hi => ?_) (fun n => ?_) N (by omega)
    · show ref1_CheckPattern_L0T N P _ _ (i : Int) = _
      have hw : IntKind.i64.wrap ((i : Int) + 1) = ((i + 1 : Nat) : Int) := by rw [wrap_id (by omega) (by omega)]; omega
      unfold ref1_CheckPattern_L0T
      rw [br_pos (by omega : (i : Int) < (P.length : Int)), geti_lt P hi, bnd_some, hw, ref_part hN (hP P[i] (List.getElem_mem _)), bnd_some]
      cases patP P[i] <;> simp
    · show ref1_CheckPattern_L0T N P _ _ (P.length : Int) = _
      unfold ref1_CheckPattern_L0T
      rw [br_neg (by omega)]
  rw [h1, h2]
  by_cases g1 : (x.length : Int) < 1
  · rw [show (if 1 ≤ x.length ∧ x.length ≤ 200 ∧ P.all patP = true then (0 : Int) else 3) = 3 from if_neg fun h => absurd h.1 (by omega)]
    exact ⟨by rw [br_pos g1], by rw [br_neg (by omega : ¬ (x.length : Int) ≥ 1)]; simp⟩
  · rw [br_neg g1, br_pos (by omega : (x.length : Int) ≥ 1)]
    by_cases g2 : (x.length : Int) > 200
    · rw [show (if 1 ≤ x.length ∧ x.length ≤ 200 ∧ P.all patP = true then (0 : Int) else 3) = 3 from if_neg fun h => absurd h.2.1 (by omega)]
      exact ⟨by rw [br_pos g2], by rw [decide_eq_false (by omega : ¬ (x.length : Int) ≤ 200)]; simp⟩
    · rw [br_neg g2, decide_eq_true (by omega : (x.length : Int) ≤ 200)]
      cases h : P.all patP
      · rw [show (if 1 ≤ x.length ∧ x.length ≤ 200 ∧ false = true then (0 : Int) else 3) = 3 from if_neg fun h => by cases h.2.2]
        exact ⟨by simp, by simp⟩
      · rw [show (if 1 ≤ x.length ∧ x.length ≤ 200 ∧ true = true then (0 : Int) else 3) = 0 from if_pos ⟨by omega, by omega, rfl⟩]
        exact ⟨by simp, by simp⟩
theorem part_scan {N : Nat} {x : Str} (hx : x.length ≤ 1000000) (k : Option Bool) : ∀ n, x.length < n → ref1_isPart_L0 N x k n 0 = if x.all byteB = true then k else some false := by
  refine scan_loop byteB (fun n i hi => ?_) (fun n => ?_)
  · show ref1_isPart_L0T N x k _ (i : Int) = _
    have hw : IntKind.i64.wrap ((i : Int) + 1) = ((i + 1 : Nat) : Int) := by rw [wrap_id (by omega) (by omega)]; omega
    unfold ref1_isPart_L0T
    rw [br_pos (by omega : (i : Int) < (x.length : Int)), geti_lt x hi, bnd_some, byte_eq, bnd_some, hw]
    cases byteB x[i] <;> simp
  · show ref1_isPart_L0T N x k _ (x.length : Int) = _
    unfold ref1_isPart_L0T
    rw [br_neg (by omega)]
def partP (x : Str) : Bool := x.all byteB && !(x == []) && !(x == [46]) && !(x == [46, 46])
theorem isPart_val {N : Nat} (hN : big ≤ N) {x : Str} (hx : x.length ≤ 1000000) : ref1_isPart N x = some (partP x) := by
  have hb : (18446744073709551616 : Nat) ≤ N := hN
  unfold ref1_isPart partP
  rw [part_scan hx _ N (by omega)]
  cases x.all byteB <;> cases (x == ([] : Str)) <;> cases (x == ([46] : Str)) <;> cases (x == ([46, 46] : Str)) <;> simp
def pathB (x : Str) : Bool := decide (1 ≤ x.length) && (decide (x.length ≤ 200) && (splitC 47 x).all partP)
theorem isPath_val {N : Nat} (hN : big ≤ N) {x : Str} (h : x.length < 1000000) : ref1_IsPath N x = some (pathB x) := by
  have hb : (18446744073709551616 : Nat) ≤ N := hN
  unfold ref1_IsPath ref1_within pathB
  rw [strings_Split_one _ _ (by omega)]
  simp only [bnd_some]
  have hl := parts_len h
  have hP := parts_le h
  generalize splitC 47 x = P at hl hP ⊢
  have h1 : ref1_IsPath_L0 N P (some true) N 0 = if P.all partP = true then some true else some false := by
    refine scan_loop partP (fun n i hi => ?_) (fun n => ?_) N (by omega)
    · show ref1_IsPath_L0T N P _ _ (i : Int) = _
      have hw : IntKind.i64.wrap ((i : Int) + 1) = ((i + 1 : Nat) : Int) := by rw [wrap_id (by omega) (by omega)]; omega
      unfold ref1_IsPath_L0T
      rw [br_pos (by omega : (i : Int) < (P.length : Int)), geti_lt P hi, bnd_some, hw, isPart_val hN (hP P[i] (List.getElem_mem _)), bnd_some]
      cases partP P[i] <;> simp
    · show ref1_IsPath_L0T N P _ _ (P.length : Int) = _
      unfold ref1_IsPath_L0T
      rw [br_neg (by omega)]
  rw [h1]
  by_cases g0 : 1 ≤ x.length
  · rw [br_pos (by omega : (x.length : Int) ≥ 1), decide_eq_true g0]
    by_cases g1 : x.length ≤ 200
    · rw [decide_eq_true (by omega : (x.length : Int) ≤ 200), decide_eq_true g1]
      cases P.all partP <;> simp
    · rw [decide_eq_false (by omega : ¬ (x.length : Int) ≤ 200), decide_eq_false g1]; simp
  · rw [br_neg (by omega : ¬ (x.length : Int) ≥ 1), decide_eq_false g0]; simp
theorem awake_n (n : Nat) : law1_awake (n + 40) = some true := by kernel_rfl
theorem awake_ok {N : Nat} (hN : big ≤ N) : law1_awake N = some true := by
  have hb : (18446744073709551616 : Nat) ≤ N := hN
  obtain ⟨n, rfl⟩ : ∃ n, N = n + 40 := ⟨N - 40, by omega⟩
  exact awake_n n
theorem checkPattern_long {N : Nat} {x : Str} (h : ¬ x.length < 1000000) : blob_CheckPattern N x = some 3 ∧ ref1_CheckPattern N x = some 3 := by
  unfold blob_CheckPattern ref1_CheckPattern ref1_within
  rw [br_neg (by omega), br_pos (by omega), br_pos (by omega), decide_eq_false (by omega)]
  exact ⟨rfl, by simp⟩
theorem isPath_long {N : Nat} {x : Str} (h : ¬ x.length < 1000000) : ref1_IsPath N x = some false := by
  unfold ref1_IsPath ref1_within
  rw [br_pos (by omega), decide_eq_false (by omega)]
  simp
theorem isPath_all {N : Nat} (hN : big ≤ N) (x : Str) : ref1_IsPath N x = some (pathB x) := by
  by_cases h : x.length < 1000000
  · exact isPath_val hN h
  · rw [isPath_long h]; unfold pathB; rw [decide_eq_false (by omega : ¬ x.length ≤ 200)]; simp
theorem patS_long {x : Str} (h : ¬ x.length < 1000000) : patS x = 3 := if_neg fun h' => absurd h'.2.1 (by omega)
theorem checkPattern_all {N : Nat} (hN : big ≤ N) (x : Str) : blob_CheckPattern N x = some (patS x) ∧ ref1_CheckPattern N x = some (patS x) := by
  by_cases h : x.length < 1000000
  · exact checkPattern_eq hN h
  · rw [patS_long h]; exact checkPattern_long h
end Go.Proofs.YthlkidohpiebiaaDoor


/- What CheckFiles says in the program and in its reference, in plain Lean. -/
namespace Go.Proofs.YthlkidohpiebiaaDoor
set_option linter.unusedVariables false
set_option linter.unusedSimpArgs false
open Go Go.RowKit
abbrev FileT := Str × Bool × List UInt8
theorem exits_map {α β : Type} (g : α → β) (ex : Nat → Option α) : ∀ d i, exits (fun i => (ex i).map g) d i = (exits ex d i).map g
  | 0, _ => rfl
  | d + 1, i => by
    unfold exits
    cases ex i with
    | some z => rfl
    | none => exact exits_map g ex d (i + 1)
theorem exits_any {α : Type} (c : Nat → Bool) (z r : α) (m : Nat) : (exits (fun i => if c i = true then some z else none) m 0).getD r = if (List.range m).any c = true then z else r := by
  cases h : exits (fun i => if c i = true then some z else none) m 0 with
  | none =>
    have h' := exits_none.1 h
    have : (List.range m).any c = false := by
      rw [List.any_eq_false]
      intro j hj hc
      have := h' j (Nat.zero_le _) (by simpa using hj)
      rw [if_pos hc] at this; cases this
    rw [this]; rfl
  | some y =>
    obtain ⟨j, _, h2, h3, _⟩ := exits_some h
    by_cases hc : c j = true
    · rw [if_pos hc] at h3
      have : (List.range m).any c = true := List.any_eq_true.2 ⟨j, by simpa using h2, hc⟩
      rw [this, if_pos rfl]
      exact (Option.some.inj h3).symm
    · rw [if_neg hc] at h3; cases h3
/-- Whether a path lies within one that is there. -/
def clashB (has : Str → Bool) (x : Str) : Bool := (List.range x.length).any fun i => x[i]? == some 47 && has (x.take i)
theorem clash_blob {N : Nat} (hN : big ≤ N) {m : List (Str × Bool)} {has : Str → Bool} (hm : ∀ p, (mget m p).getD (zero .bool) = has p) {x : Str} (hx : x.length ≤ 1000000) : blob_clashes N m x = some (clashB has x) := by
  have hb : (18446744073709551616 : Nat) ≤ N := hN
  unfold blob_clashes clashB
  refine (exit_loop (S := Int) x.length (fun i => (i : Int)) (fun i => if (x[i]? == some 47 && has (x.take i)) = true then some (some true) else none) (f := fun n s => blob_clashes_L0 N m x (x.length : Int) (some false) n s) (r := some false) (fun n i hi => ?_) (fun n => ?_) N (by omega)).trans ?_
  · show blob_clashes_L0T N m x _ _ (blob_clashes_L0 N m x _ _ n) (i : Int) = _
    have hw : IntKind.i64.wrap ((i : Int) + 1) = ((i + 1 : Nat) : Int) := by rw [wrap_id (by omega) (by omega)]; omega
    unfold blob_clashes_L0T
    rw [br_pos (by omega : (i : Int) < (x.length : Int)), geti_lt x hi, bnd_some, hw, slc_take x (Nat.le_of_lt hi), bnd_some, hm, List.getElem?_eq_getElem hi]
    show _ = Option.getD (if ((x[i] == 47) && has (x.take i)) = true then some (some true) else none) _
    cases x[i] == 47 <;> cases has (x.take i) <;> simp
  · show blob_clashes_L0T N m x _ _ _ (x.length : Int) = _
    unfold blob_clashes_L0T
    rw [br_neg (by omega)]
  · rw [exits_any]
    split
    · rename_i h; rw [h]
    · rename_i h; rw [Bool.not_eq_true] at h; rw [h]
def hasB {α : Type} (l : List (Str × α)) (p : Str) : Bool := l.any fun x => p == x.1
/-- What is wrong at the i-th file. -/
def scanX (l : List FileT) (i : Nat) : Option Int := match l[i]? with
  | some x => if pathB x.1 = true then (if x.2.2.length ≤ 100000 then (if i = 0 then none else match l[i - 1]? with
    | some y => if y.1 < x.1 then none else some 8
    | none => none) else some 2) else some 3
  | none => none
/-- How many bytes the first i files have. -/
def totF (l : List FileT) : Nat → Int
  | 0 => 0
  | i + 1 => IntKind.i64.wrap (totF l i + match l[i]? with | some x => (x.2.2.length : Int) | none => 0)
theorem totF_succ {l : List FileT} {i : Nat} (h : i < l.length) : totF l (i + 1) = IntKind.i64.wrap (totF l i + (l[i].2.2.length : Int)) := by
  show IntKind.i64.wrap (totF l i + match l[i]? with | some x => (x.2.2.length : Int) | none => 0) = _
  rw [List.getElem?_eq_getElem h]
/-- What CheckFiles says. -/
def filesS (l : List FileT) : Int := if l.length ≤ 1000 then ((exits (scanX l) l.length 0).getD (if l.all (fun x => !clashB (hasB l) x.1) = true then (if totF l l.length > 2000000 then 2 else 0) else 12)) else 2
structure OkF (l : List FileT) : Prop where
  path : ∀ x ∈ l, pathB x.1 = true
  few : ∀ x ∈ l, x.2.2.length ≤ 100000
  asc : Asc l
theorem pathB_len {x : Str} (h : pathB x = true) : 1 ≤ x.length ∧ x.length ≤ 200 := by
  unfold pathB at h
  simp only [Bool.and_eq_true, decide_eq_true_eq] at h
  exact ⟨h.1, h.2.1⟩
theorem scan_ok (l : List FileT) : exits (scanX l) l.length 0 = none ↔ OkF l := by
  rw [exits_none]
  have key : ∀ i (hi : i < l.length), scanX l i = none ↔ pathB l[i].1 = true ∧ l[i].2.2.length ≤ 100000 ∧ ∀ y, i ≠ 0 → l[i - 1]? = some y → y.1 < l[i].1 := by
    intro i hi
    unfold scanX
    rw [List.getElem?_eq_getElem hi]
    show (if pathB l[i].1 = true then _ else _) = none ↔ _
    by_cases h1 : pathB l[i].1 = true
    · rw [if_pos h1]
      by_cases h2 : l[i].2.2.length ≤ 100000
      · rw [if_pos h2]
        by_cases h3 : i = 0
        · rw [if_pos h3]
          exact ⟨fun _ => ⟨h1, h2, fun y h _ => absurd h3 h⟩, fun _ => rfl⟩
        · rw [if_neg h3, List.getElem?_eq_getElem (by omega : i - 1 < l.length)]
          show (if _ then _ else _) = none ↔ _
          by_cases h4 : l[i - 1].1 < l[i].1
          · rw [if_pos h4]
            exact ⟨fun _ => ⟨h1, h2, fun y _ h => by rw [← Option.some.inj h]; exact h4⟩, fun _ => rfl⟩
          · rw [if_neg h4]
            exact ⟨fun h => (by cases h), fun h => absurd (h.2.2 _ h3 rfl) h4⟩
      · rw [if_neg h2]
        exact ⟨fun h => (by cases h), fun h => absurd h.2.1 h2⟩
    · rw [if_neg h1]
      exact ⟨fun h => (by cases h), fun h => absurd h.1 h1⟩
  constructor
  · intro h
    have h' : ∀ i (hi : i < l.length), _ := fun i hi => (key i hi).1 (h i (Nat.zero_le _) (by omega))
    refine ⟨fun x hx => ?_, fun x hx => ?_, (asc_iff l).1 fun i hi => (h' i hi).2.2⟩
    · obtain ⟨i, hi, rfl⟩ := List.getElem_of_mem hx; exact (h' i hi).1
    · obtain ⟨i, hi, rfl⟩ := List.getElem_of_mem hx; exact (h' i hi).2.1
  · intro h i _ hi
    have hi : i < l.length := by omega
    exact (key i hi).2 ⟨h.path _ (List.getElem_mem _), h.few _ (List.getElem_mem _), (asc_iff l).2 h.asc i hi⟩
theorem blob_CheckFiles_eq {N : Nat} (hN : big ≤ N) (l : List FileT) : blob_CheckFiles N l = some (filesS l) := by
  have hb : (18446744073709551616 : Nat) ≤ N := hN
  unfold blob_CheckFiles filesS
  by_cases h0 : l.length ≤ 1000
  case neg => rw [br_pos (by omega : (l.length : Int) > 1000), if_neg h0]
  rw [br_neg (by omega : ¬ (l.length : Int) > 1000), if_pos h0]
  refine (exit_loop (S := Int × Int × List (Str × Bool)) l.length (fun i => (totF l i, (i : Int), keysM ((l.take i).map (·.1)) [])) (fun i => (scanX l i).map some) (f := fun n s => blob_CheckFiles_L0 N l l (l.length : Int) _ n s.1 s.2.1 s.2.2) (r := blob_CheckFiles_L1 N l (l.length : Int) (keysM ((l.take l.length).map (·.1)) []) (br (decide (totF l l.length > 2000000)) (some 2) (some 0)) N 0) (fun n i hi => ?_) (fun n => ?_) N (by omega)).trans ?_
  · show blob_CheckFiles_L0T N l l _ _ (blob_CheckFiles_L0 N l l _ _ n) (totF l i) (i : Int) _ = _
    have hw : IntKind.i64.wrap ((i : Int) + 1) = ((i + 1 : Nat) : Int) := by rw [wrap_id (by omega) (by omega)]; omega
    have e2 : keysM ((l.take (i + 1)).map (·.1)) [] = mset (keysM ((l.take i).map (·.1)) []) l[i].1 true := by rw [List.take_succ_eq_append_getElem hi, List.map_append]; exact keysM_snoc _ _ _
    show _ = (Option.map some (scanX l i)).getD (blob_CheckFiles_L0 N l l _ _ n (totF l (i + 1)) ((i + 1 : Nat) : Int) (keysM ((l.take (i + 1)).map (·.1)) []))
    unfold blob_CheckFiles_L0T
    rw [br_pos (by omega : (i : Int) < (l.length : Int)), geti_lt l hi, bnd_some, isPath_eq, isPath_all hN, bnd_some, hw, e2, totF_succ hi]
    unfold scanX
    rw [List.getElem?_eq_getElem hi]
    dsimp only
    by_cases h1 : pathB l[i].1 = true
    · rw [h1, if_pos rfl, Bool.not_true, br_false]
      by_cases h2 : l[i].2.2.length ≤ 100000
      · rw [br_neg (by omega : ¬ (l[i].2.2.length : Int) > 100000), if_pos h2]
        by_cases h3 : i = 0
        · rw [br_neg (by omega : ¬ (i : Int) > 0), if_pos h3]; rfl
        · have hp : IntKind.i64.wrap ((i : Int) - 1) = ((i - 1 : Nat) : Int) := by rw [wrap_id (by omega) (by omega)]; omega
          rw [br_pos (by omega : (i : Int) > 0), if_neg h3, hp, geti_lt l (by omega : i - 1 < l.length), bnd_some, List.getElem?_eq_getElem (by omega : i - 1 < l.length), le_not]
          dsimp only
          by_cases h4 : l[i - 1].1 < l[i].1
          · rw [if_pos h4, decide_eq_true h4]; simp
          · rw [if_neg h4, decide_eq_false h4]; simp
      · rw [br_pos (by omega : (l[i].2.2.length : Int) > 100000), if_neg h2]; simp
    · rw [if_neg h1]
      rw [Bool.not_eq_true] at h1
      rw [h1]; simp
  · show blob_CheckFiles_L0T N l l _ _ _ _ (l.length : Int) _ = _
    unfold blob_CheckFiles_L0T
    rw [br_neg (by omega)]
  · rw [exits_map]
    cases h : exits (scanX l) l.length 0 with
    | some z => rfl
    | none =>
      have ok := (scan_ok l).1 h
      show blob_CheckFiles_L1 N l _ _ _ N 0 = some (if _ then _ else _)
      rw [scan_loop (xs := l) (fun x => !clashB (hasB l) x.1) (k := br (decide (totF l l.length > 2000000)) (some 2) (some 0)) (bad := some 12) (f := fun n i => blob_CheckFiles_L1 N l _ _ _ n i) (fun n i hi => ?_) (fun n => ?_) N (by omega)]
      · by_cases h5 : totF l l.length > 2000000
        · rw [br_pos h5, if_pos h5]; split <;> rfl
        · rw [br_neg h5, if_neg h5]; split <;> rfl
      · show blob_CheckFiles_L1T N l _ _ _ (blob_CheckFiles_L1 N l _ _ _ n) (i : Int) = _
        have hw : IntKind.i64.wrap ((i : Int) + 1) = ((i + 1 : Nat) : Int) := by rw [wrap_id (by omega) (by omega)]; omega
        have hlen := pathB_len (ok.path l[i] (List.getElem_mem _))
        unfold blob_CheckFiles_L1T
        rw [br_pos (by omega : (i : Int) < (l.length : Int)), geti_lt l hi, bnd_some, clash_blob hN (has := hasB l) (fun p => ?_) (by omega), bnd_some, hw]
        · cases clashB (hasB l) l[i].1 <;> simp
        · rw [keysM_get, List.take_length, List.any_map]
          show _ = l.any _
          cases h6 : l.any ((fun x => p == x) ∘ fun x => x.1) with
          | true => exact h6.symm
          | false => exact h6.symm
      · show blob_CheckFiles_L1T N l _ _ _ _ (l.length : Int) = _
        unfold blob_CheckFiles_L1T
        rw [br_neg (by omega)]
/-- What is known of right files. -/
structure FilesOk (l : List FileT) : Prop where
  len : l.length ≤ 1000
  ok : OkF l
  calm : ∀ x ∈ l, clashB (hasB l) x.1 = false
  tot : ¬ totF l l.length > 2000000
theorem files_iff (l : List FileT) : filesS l = 0 ↔ FilesOk l := by
  unfold filesS
  constructor
  · intro h
    by_cases h0 : l.length ≤ 1000
    case neg => rw [if_neg h0] at h; cases h
    rw [if_pos h0] at h
    cases hx : exits (scanX l) l.length 0 with
    | some z =>
      rw [hx] at h
      obtain ⟨j, _, h2, h3, _⟩ := exits_some hx
      have h : z = 0 := h
      subst h
      unfold scanX at h3
      split at h3
      · split at h3
        · split at h3
          · split at h3
            · cases h3
            · split at h3
              · split at h3 <;> cases h3
              · cases h3
          · cases h3
        · cases h3
      · cases h3
    | none =>
      rw [hx] at h
      have ok := (scan_ok l).1 hx
      have h : (if l.all (fun x => !clashB (hasB l) x.1) = true then (if totF l l.length > 2000000 then (2 : Int) else 0) else 12) = 0 := h
      split at h
      · rename_i h1
        split at h
        · cases h
        · rename_i h2
          exact ⟨h0, ok, fun x hx => by have := List.all_eq_true.1 h1 x hx; simpa using this, h2⟩
      · cases h
  · intro h
    rw [if_pos h.len, (scan_ok l).2 h.ok, if_pos (List.all_eq_true.2 fun x hx => by simp [h.calm x hx]), if_neg h.tot]; rfl
end Go.Proofs.YthlkidohpiebiaaDoor


/- The arguments of a law, with how much they hold together ('bulk'). -/
namespace Go.Proofs.YthlkidohpiebiaaDoor
set_option linter.unusedVariables false
set_option linter.unusedSimpArgs false
open Go Go.RowKit Go.ChangeShapes Go.WideShapes
section
variable {H : Type} {enc : TypeId × Value → H} {P : Program} {w : World} {spare : Nat → Bool} {held : Bool} {R : RC → Option TypeId} {rb : (i : RC) → i.den → Nat}
end
end Go.Proofs.YthlkidohpiebiaaDoor


/- Select, in the program and in its reference (law 8), in plain Lean. -/
namespace Go.Proofs.YthlkidohpiebiaaDoor
set_option linter.unusedVariables false
set_option linter.unusedSimpArgs false
open Go Go.RowKit
theorem Concat_two {N : Nat} (hN : big ≤ N) (a b : List Str) (ha : a.length ≤ 2000000) (hb : b.length ≤ 2000000) : slices_Concat_string_string N [a, b] = some (a ++ b) := by
  obtain ⟨d, rfl⟩ : ∃ d, N = d + 3 := ⟨N - 3, by unfold big at hN; omega⟩
  have e0 : IntKind.i64.wrap ((0 : Int) + (a.length : Int)) = (a.length : Int) := by rw [Int.zero_add]; exact wrap_id (by omega) (by omega)
  have e1 : IntKind.i64.wrap ((a.length : Int) + (b.length : Int)) = ((a.length + b.length : Nat) : Int) := by rw [Int.natCast_add]; exact wrap_id (by omega) (by omega)
  have g0 : geti [a, b] (0 : Int) = some a := rfl
  have g1 : geti [a, b] (1 : Int) = some b := rfl
  have w1 : IntKind.i64.wrap ((0 : Int) + 1) = 1 := by decide
  have w2 : IntKind.i64.wrap ((1 : Int) + 1) = 2 := by decide
  have t0 : decide ((0 : Int) < 2) = true := rfl
  have t1 : decide ((1 : Int) < 2) = true := rfl
  have t2 : decide ((2 : Int) < 2) = false := rfl
  have n0 : decide ((a.length : Int) < 0) = false := decide_eq_false (by omega)
  have n1 : decide (((a.length + b.length : Nat) : Int) < 0) = false := decide_eq_false (by omega)
  have p0 : decide ((([] : List Str).length + a.length) * (24 * Ty.sz .str) ≤ 140737488355328) = true := decide_eq_true (by show (0 + a.length) * (24 * 1) ≤ _; omega)
  have p1 : decide ((a.length + b.length) * (24 * Ty.sz .str) ≤ 140737488355328) = true := decide_eq_true (by show (a.length + b.length) * (24 * 1) ≤ _; omega)
  have h0 : ∀ k, slices_Concat_string_string_L0 (d + 3) [a, b] 2 k (d + 3) 0 0 = k ((a.length + b.length : Nat) : Int) := by
    intro k
    simp only [slices_Concat_string_string_L0, slices_Concat_string_string_L0T, t0, t1, t2, g0, g1, w1, w2, e0, e1, n0, n1, bnd_some, br_true, br_false]
  have h1 : ∀ k, slices_Concat_string_string_L1 (d + 3) [a, b] 2 k (d + 3) 0 [] = k (a ++ b) := by
    intro k
    simp only [slices_Concat_string_string_L1, slices_Concat_string_string_L1T, t0, t1, t2, g0, g1, w1, w2, p0, p1, bnd_some, br_true, br_false, List.nil_append]
  have hg : slices_Grow_string ((a.length + b.length : Nat) : Int) = some [] := by
    unfold slices_Grow_string growF
    exact if_pos ⟨by omega, by show ((a.length + b.length : Nat) : Int) * ((24 * 1 : Nat) : Int) ≤ _; omega⟩
  show slices_Concat_string_string_L0 (d + 3) [a, b] 2 _ (d + 3) 0 0 = _
  rw [h0, hg, bnd_some]
  show slices_Concat_string_string_L1 (d + 3) [a, b] 2 _ (d + 3) 0 [] = _
  rw [h1]
/-- A path fits a pattern. -/
def fitQ (p x : Str) : Bool := fitsB (splitC 47 p) (splitC 47 x)
theorem anyFit_blob {N : Nat} (hN : big ≤ N) {ps : List Str} (hl : ps.length ≤ 2000000) (hp : ∀ p ∈ ps, p.length < 1000000) {x : FileT} (hx : x.1.length < 1000000) : slices_ContainsFunc_string_string N ps (x, ()) = some (ps.any fun p => fitQ p x.1) := by
  have hb : (18446744073709551616 : Nat) ≤ N := hN
  unfold slices_ContainsFunc_string_string slices_IndexFunc_string_string
  have e := exit_loop (S := Int) (R := Int) ps.length (fun i => (i : Int)) (fun i => if (match ps[i]? with | some p => fitQ p x.1 | none => false) = true then some (some (i : Int)) else none) (f := fun n s => slices_IndexFunc_string_string_L0 N ps (x, ()) (ps.length : Int) (some (-1)) n s) (r := some (-1)) (fun n i hi => ?_) (fun n => ?_) N (by omega)
  · rw [show slices_IndexFunc_string_string_L0 N ps (x, ()) (ps.length : Int) (some (-1)) N 0 = _ from e]
    cases h : exits (fun i => if (match ps[i]? with | some p => fitQ p x.1 | none => false) = true then some (some (i : Int)) else none) ps.length 0 with
    | none =>
      have h' := exits_none.1 h
      have : ps.any (fun p => fitQ p x.1) = false := by
        rw [List.any_eq_false]
        intro p hp hc
        obtain ⟨j, hj, rfl⟩ := List.getElem_of_mem hp
        have := h' j (Nat.zero_le _) (by omega)
        rw [List.getElem?_eq_getElem hj, if_pos hc] at this; cases this
      rw [this, Option.getD_none, bnd_some, decide_eq_false (by omega : ¬ (-1 : Int) ≥ 0)]
    | some z =>
      obtain ⟨j, _, h2, h3, _⟩ := exits_some h
      have hj : j < ps.length := by omega
      rw [List.getElem?_eq_getElem hj] at h3
      by_cases hc : fitQ ps[j] x.1 = true
      · have h3 : some (some (j : Int)) = some z := by rw [← h3]; exact (if_pos hc).symm
        cases h3
        have : ps.any (fun p => fitQ p x.1) = true := List.any_eq_true.2 ⟨ps[j], List.getElem_mem _, hc⟩
        rw [this, Option.getD_some, bnd_some, decide_eq_true (by omega : (j : Int) ≥ 0)]
      · have h3 : (none : Option (Option Int)) = some z := by rw [← h3]; exact (if_neg hc).symm
        cases h3
  · show slices_IndexFunc_string_string_L0T N ps _ _ _ (slices_IndexFunc_string_string_L0 N ps _ _ _ n) (i : Int) = _
    have hw : IntKind.i64.wrap ((i : Int) + 1) = ((i + 1 : Nat) : Int) := by rw [wrap_id (by omega) (by omega)]; omega
    unfold slices_IndexFunc_string_string_L0T blob_Select_1
    rw [br_pos (by omega : (i : Int) < (ps.length : Int)), geti_lt ps hi, bnd_some, blob_pathFits_eq hN (hp _ (List.getElem_mem _)) hx, bnd_some, bnd_some, hw, List.getElem?_eq_getElem hi]
    show br (fitQ ps[i] x.1) _ _ = Option.getD (if fitQ ps[i] x.1 = true then _ else _) _
    cases fitQ ps[i] x.1 <;> simp
  · show slices_IndexFunc_string_string_L0T N ps _ _ _ _ (ps.length : Int) = _
    unfold slices_IndexFunc_string_string_L0T
    rw [br_neg (by omega)]
def selB (w wo : List Str) (x : FileT) : Bool := (w.any fun p => fitQ p x.1) && !(wo.any fun p => fitQ p x.1)
def selL (w wo : List Str) (l : List FileT) : List Str := (l.filter (selB w wo)).map (·.1)
def patsB (l : List Str) : Bool := l.all fun p => patS p == 0
/-- What Select says. -/
def selS (l : List FileT) (w wo : List Str) : Int × List Str := if filesS l = 0 then (if patsB (w ++ wo) = true then (0, selL w wo l) else (3, [])) else (filesS l, [])
theorem patS_two (x : Str) : patS x = 0 ∨ patS x = 3 := by unfold patS; split <;> simp
theorem patS_len {x : Str} (h : patS x = 0) : x.length ≤ 200 := by
  unfold patS at h
  split at h
  · rename_i h'; exact h'.2.1
  · cases h
theorem selL_take (w wo : List Str) {l : List FileT} {i : Nat} (h : i < l.length) : selL w wo (l.take (i + 1)) = if selB w wo l[i] = true then selL w wo (l.take i) ++ [l[i].1] else selL w wo (l.take i) := by
  unfold selL
  rw [List.take_succ_eq_append_getElem h, List.filter_append, List.map_append]
  by_cases hs : selB w wo l[i] = true
  · rw [if_pos hs, List.filter_cons_of_pos hs]; rfl
  · rw [if_neg hs, List.filter_cons_of_neg hs, List.filter_nil, List.map_nil, List.append_nil]
theorem selL_len (w wo : List Str) (l : List FileT) : (selL w wo l).length ≤ l.length := by
  unfold selL; rw [List.length_map]; exact List.length_filter_le _ _
theorem patsB_len {l : List Str} (h : patsB l = true) : ∀ p ∈ l, p.length < 1000000 := fun p hp => by
  have := patS_len (eq_of_beq (List.all_eq_true.1 h p hp)); omega
theorem blob_Select_eq {N : Nat} (hN : big ≤ N) (l : List FileT) (w wo : List Str) (hw : w.length ≤ 2000000) (hwo : wo.length ≤ 2000000) : blob_Select N l w wo = some ((selS l w wo).1, (selS l w wo).2) := by
  have hb : (18446744073709551616 : Nat) ≤ N := hN
  unfold blob_Select selS
  rw [blob_CheckFiles_eq hN, bnd_some]
  by_cases h0 : filesS l = 0
  case neg => rw [if_neg h0, show (filesS l != 0) = true from by simp [h0], br_true]
  rw [if_pos h0, h0, show ((0 : Int) != 0) = false from rfl, br_false, Concat_two hN _ _ hw hwo, bnd_some]
  have ok := (files_iff l).1 h0
  have hl : (w ++ wo).length ≤ 4000000 := by rw [List.length_append]; omega
  rw [scan_loop (xs := w ++ wo) (fun p => patS p == 0) (k := blob_Select_L1 N w wo l (l.length : Int) (fun o1_w1012 => some ((0 : Int), o1_w1012)) N 0 []) (bad := some (3, [])) (f := fun n i => blob_Select_L0 N ((w ++ wo).length : Int) (w ++ wo) (blob_Select_L1 N w wo l (l.length : Int) (fun o1_w1012 => some ((0 : Int), o1_w1012)) N 0 []) n i) (fun n i hi => ?_) (fun n => ?_) N (by omega)]
  · show (if patsB (w ++ wo) = true then _ else _) = _
    by_cases h1 : patsB (w ++ wo) = true
    case neg => rw [if_neg h1, if_neg h1]
    rw [if_pos h1, if_pos h1]
    have hp := patsB_len h1
    have hm : l.length ≤ maxLen := Nat.le_trans ok.len (by decide)
    refine (loop_st (S := List Str) (f := fun n i s => blob_Select_L1 N w wo l (l.length : Int) (fun o1_w1012 => some ((0 : Int), o1_w1012)) n i s) (T := fun self i s => blob_Select_L1T N w wo l (l.length : Int) (fun o1_w1012 => some ((0 : Int), o1_w1012)) self i s) (fun n i s => rfl) hm (fun i => selL w wo (l.take i)) (r := some (0, selL w wo l)) (fun self i hi hs => ?_) (fun self => ?_) hN)
    · have hx := pathB_len (ok.ok.path l[i] (List.getElem_mem _))
      have hlen := selL_len w wo (l.take i)
      rw [List.length_take] at hlen
      have h1000 := ok.len
      rw [selL_take w wo hi] at hs
      unfold blob_Select_L1T
      rw [lt_tn hi, br_true, geti_lt l hi, bnd_some, anyFit_blob hN hw (fun p h => hp p (List.mem_append_left _ h)) (by omega), bnd_some, anyFit_blob hN hwo (fun p h => hp p (List.mem_append_right _ h)) (by omega), bnd_some, wrap_s hm hi]
      have hsz : ((selL w wo (l.take i)).length + [l[i].1].length) * (24 * Ty.sz .str) ≤ 140737488355328 := by rw [List.length_singleton]; show _ * 24 ≤ _; omega
      rw [br_pos hsz]
      unfold selB at hs
      cases h3 : w.any (fun p => fitQ p l[i].1) <;> cases h4 : wo.any (fun p => fitQ p l[i].1) <;> rw [h3, h4] at hs <;> simpa using hs
    · unfold blob_Select_L1T
      rw [lt_fn, br_false, List.take_length]
  · show blob_Select_L0T N _ (w ++ wo) _ (blob_Select_L0 N _ (w ++ wo) _ n) (i : Int) = _
    have hw : IntKind.i64.wrap ((i : Int) + 1) = ((i + 1 : Nat) : Int) := by rw [wrap_id (by omega) (by omega)]; omega
    unfold blob_Select_L0T
    rw [br_pos (by omega : (i : Int) < ((w ++ wo).length : Int)), geti_lt _ hi, bnd_some, (checkPattern_all hN _).1, bnd_some, hw]
    rcases patS_two (w ++ wo)[i] with e | e <;> rw [e] <;> simp
  · show blob_Select_L0T N _ (w ++ wo) _ _ ((w ++ wo).length : Int) = _
    unfold blob_Select_L0T
    rw [br_neg (by omega)]
end Go.Proofs.YthlkidohpiebiaaDoor


/- What one pattern selects (law 7), in plain Lean. -/
namespace Go.Proofs.YthlkidohpiebiaaDoor
set_option linter.unusedVariables false
set_option linter.unusedSimpArgs false
open Go Go.RowKit
theorem fitQ_all (x : Str) : fitQ [42, 42] x = true := by
  have e : splitC 47 ([42, 42] : Str) = [[42, 42]] := splitC_no (by decide)
  unfold fitQ fitsB
  rw [e]
  show stepB (([42, 42] : Str) == [42, 42]) _ row0B _ = true
  have : ∀ (o : Nat → Bool) k, stepB true o row0B k = true := by
    intro o k
    induction k with
    | zero => rfl
    | succ k ih => rw [stepB_many, ih, Bool.or_true]
  exact this _ _
theorem patS_all : patS [42, 42] = 0 := by
  have e : splitC 47 ([42, 42] : Str) = [[42, 42]] := splitC_no (by decide)
  unfold patS
  rw [e]
  exact if_pos ⟨by decide, by decide, by simp [patP]⟩
theorem blob_Fits_eq {N : Nat} (hN : big ≤ N) {p x : Str} (hp : patS p = 0) (hx : pathB x = true) : blob_Fits N p x = some (fitQ p x, 0) := by
  unfold blob_Fits
  have h1 := patS_len hp
  have h2 := pathB_len hx
  rw [(checkPattern_all hN p).1, bnd_some, hp, show ((0 : Int) != 0) = false from rfl, br_false, isPath_eq, isPath_all hN, bnd_some, hx, Bool.not_true, br_false, blob_pathFits_eq hN (by omega) (by omega), bnd_some]
  rfl
theorem sel_split (q : FileT → Bool) (l : List FileT) {i : Nat} (h : i < l.length) (hq : q l[i] = true) : ((l.filter q).map (·.1))[((l.take i).filter q).length]? = some l[i].1 := by
  have e : l = l.take i ++ l[i] :: l.drop (i + 1) := by rw [← List.drop_eq_getElem_cons h, List.take_append_drop]
  have e2 : (l.filter q) = (l.take i).filter q ++ l[i] :: (l.drop (i + 1)).filter q := by
    conv => lhs; rw [e]
    rw [List.filter_append, List.filter_cons_of_pos hq]
  rw [e2, List.map_append, List.map_cons, List.getElem?_append_right (by simp)]
  simp
theorem filter_two (q : FileT → Bool) (l : List FileT) : (l.filter q).length + (l.filter fun x => !q x).length = l.length := by
  induction l with
  | nil => rfl
  | cons x l ih =>
    cases h : q x with
    | true =>
      rw [List.filter_cons_of_pos h, show List.filter (fun x => !q x) (x :: l) = List.filter (fun x => !q x) l from by simp [List.filter_cons, h], List.length_cons, List.length_cons]; omega
    | false =>
      rw [show List.filter q (x :: l) = List.filter q l from by simp [List.filter_cons, h], show List.filter (fun x => !q x) (x :: l) = x :: List.filter (fun x => !q x) l from by simp [List.filter_cons, h], List.length_cons, List.length_cons]; omega
theorem sel_one (p : Str) : selB [p] [] = fun x => fitQ p x.1 := by
  funext x; simp [selB]
theorem sel_not (p : Str) : selB [[42, 42]] [p] = fun x => !fitQ p x.1 := by
  funext x; simp [selB, fitQ_all]
theorem sel_none : selB [[42, 42]] [[42, 42]] = fun x => false := by
  funext x; simp [selB, fitQ_all]
theorem plain_BlobSelectsFit (l : List FileT) (p : Str) (_ : Fit (.sl (.pr .str (.pr .bool (.sl .u8)))) l) (_ : Fit .str p) : ∃ N, law1_BlobSelectsFit N l p = some true := by
  obtain ⟨N, hN⟩ : ∃ N, big ≤ N := ⟨big, Nat.le_refl _⟩
  refine ⟨N, ?_⟩
  have hb : (18446744073709551616 : Nat) ≤ N := hN
  unfold law1_BlobSelectsFit
  rw [blob_Select_eq hN l [p] [] (by simp) (by simp), bnd_some]
  by_cases h0 : filesS l = 0
  case neg =>
    have e : selS l [p] [] = (filesS l, []) := by unfold selS; rw [if_neg h0]
    rw [e]
    show br (filesS l != 0) (br (((0 : Nat) : Int) == 0) (bnd (law1_awake N) _) _) _ = _
    rw [show (filesS l != 0) = true from by simp [h0], br_true, show ((((0 : Nat) : Int)) == 0) = true from rfl, br_true, awake_ok hN, bnd_some]
  by_cases h1 : patS p = 0
  case neg =>
    have e : selS l [p] [] = (3, []) := by unfold selS; rw [if_pos h0, if_neg (by simp [patsB, h1])]
    rw [e]
    show br true (br (((0 : Nat) : Int) == 0) (bnd (law1_awake N) _) _) _ = _
    rw [br_true, show ((((0 : Nat) : Int)) == 0) = true from rfl, br_true, awake_ok hN, bnd_some]
  have ok := (files_iff l).1 h0
  have hm : l.length ≤ maxLen := Nat.le_trans ok.len (by decide)
  have hlen := ok.len
  have e1 : selS l [p] [] = (0, (l.filter fun x => fitQ p x.1).map (·.1)) := by
    unfold selS
    rw [if_pos h0, if_pos (by simp [patsB, h1])]
    unfold selL
    rw [sel_one]
  have e2 : selS l [[42, 42]] [p] = (0, (l.filter fun x => !fitQ p x.1).map (·.1)) := by
    unfold selS
    rw [if_pos h0, if_pos (by simp [patsB, h1, patS_all])]
    unfold selL
    rw [sel_not]
  have e3 : selS l [[42, 42]] [[42, 42]] = (0, []) := by
    unfold selS
    rw [if_pos h0, if_pos (by simp [patsB, patS_all])]
    unfold selL
    rw [sel_none]; simp
  rw [e1]
  show br false _ _ = _
  rw [br_false]
  have hcnt : ∀ i, ((l.take i).filter fun x => fitQ p x.1).length ≤ 1000 := fun i => by
    have h1 := List.length_filter_le (fun x : FileT => fitQ p x.1) (l.take i)
    rw [List.length_take] at h1; omega
  refine (steps_loop (S := Int × Int) (R := Bool) l.length (fun i => ((((l.take i).filter fun x => fitQ p x.1).length : Int), (i : Int))) (f := fun n s => law1_BlobSelectsFit_L0 N l p ((l.filter fun x => fitQ p x.1).map (·.1)) _ n s.1 s.2) (z := some true) (fun n i hi => ?_) (fun n => ?_) N (by omega))
  · show law1_BlobSelectsFit_L0T N l p _ _ (law1_BlobSelectsFit_L0 N l p _ _ n) _ (i : Int) = law1_BlobSelectsFit_L0 N l p _ _ n _ ((i + 1 : Nat) : Int)
    have hw : IntKind.i64.wrap ((i : Int) + 1) = ((i + 1 : Nat) : Int) := by rw [wrap_id (by omega) (by omega)]; omega
    unfold law1_BlobSelectsFit_L0T
    rw [br_pos (by omega : (i : Int) < (l.length : Int)), geti_lt l hi, bnd_some, blob_Fits_eq hN h1 (ok.ok.path _ (List.getElem_mem _)), bnd_some, hw]
    show br ((0 : Int) != 0) _ (br (fitQ p l[i].1) _ _) = _
    rw [show ((0 : Int) != 0) = false from rfl, br_false]
    have hc := hcnt i
    cases hq : fitQ p l[i].1 with
    | true =>
      have hs := sel_split (fun x => fitQ p x.1) l hi hq
      have hk : ((l.take i).filter fun x => fitQ p x.1).length < ((l.filter fun x => fitQ p x.1).map (·.1)).length := (List.getElem?_eq_some_iff.1 hs).1
      have e5 : ((l.take (i + 1)).filter fun x => fitQ p x.1).length = ((l.take i).filter fun x => fitQ p x.1).length + 1 := by
        rw [List.take_succ_eq_append_getElem hi, List.filter_append, List.filter_cons_of_pos (by simpa using hq)]
        simp
      rw [br_true, show ((((l.take i).filter fun x => fitQ p x.1).length : Int) == (((l.filter fun x => fitQ p x.1).map (·.1)).length : Int)) = false from by
        rw [beq_eq_false_iff_ne]; omega, br_false]
      rw [geti_nat, hs, bnd_some, bnd_some, beq_self_eq_true, Bool.not_true, br_false, e5]
      rw [wrap_id (by omega) (by omega)]; rfl
    | false =>
      have e5 : ((l.take (i + 1)).filter fun x => fitQ p x.1).length = ((l.take i).filter fun x => fitQ p x.1).length := by
        rw [List.take_succ_eq_append_getElem hi, List.filter_append, List.filter_cons_of_neg (by simp [hq])]
        simp
      rw [br_false, e5]
  · show law1_BlobSelectsFit_L0T N l p _ _ _ _ (l.length : Int) = _
    unfold law1_BlobSelectsFit_L0T
    rw [br_neg (by omega), blob_Select_eq hN l [[42, 42]] [p] (by simp) (by simp), blob_Select_eq hN l [[42, 42]] [[42, 42]] (by simp) (by simp)]
    dsimp only
    rw [bnd_some, bnd_some, e2, e3]
    dsimp only
    have hsum : (((l.filter fun x => fitQ p x.1).map (·.1)).length : Int) + (((l.filter fun x => !fitQ p x.1).map (·.1)).length : Int) = (l.length : Int) := by
      rw [List.length_map, List.length_map]
      have := filter_two (fun x => fitQ p x.1) l
      omega
    rw [List.take_length]
    rw [hsum, wrap_id (by omega) (by omega), List.length_map, beq_self_eq_true, beq_self_eq_true, awake_ok hN]
    simp
end Go.Proofs.YthlkidohpiebiaaDoor

