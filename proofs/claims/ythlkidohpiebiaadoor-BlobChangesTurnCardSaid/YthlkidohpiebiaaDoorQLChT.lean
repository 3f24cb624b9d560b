/- The arguments of a law, as the statement's reading hands them over, as data of the machine: any type. -/
import Derived.Test.YthlkidohpiebiaaDoorQBnF3
import Derived.ProofKit
import Derived.OpenShut
import Derived.ShutString
import Derived.DataReads
import Derived.ChangeShapes
import Derived.WideShapes
import Derived.Test.YthlkidohpiebiaaDoorQSplt
import Derived.Test.YthlkidohpiebiaaDoorQAsc
namespace Go.Proofs.YthlkidohpiebiaaDoor
set_option linter.unusedVariables false
set_option linter.unusedSimpArgs false
open Go Go.RowKit Go.ChangeShapes Go.WideShapes
/-- Nothing is longer than Go lets it be. -/
def FitG (RR : (i : RC) → i.den → Prop) : (t : Ty) → t.den → Prop
  | .u8, _ => True
  | .int k, x => (Lit.int k x).wf = true
  | .bool, _ => True
  | .str, x => x.length ≤ maxLen
  | .sl t, xs => xs.length ≤ maxLen ∧ ∀ x ∈ xs, FitG RR t x
  | .pr a b, x => FitG RR a x.1 ∧ FitG RR b x.2
  | .un, _ => True
  | .mp _, _ => True
  | .ptr _, _ => True
  | .np _, _ => True
  | .clo _ _, _ => True
  | .rc i, x => RR i x
def FitR (i : RC) (x : i.den) : Prop := ∀ RR : (i : RC) → i.den → Prop, (∀ j y, FitG RR j.body (j.un y) → RR j y) → RR i x
def Fit : (t : Ty) → t.den → Prop := FitG FitR
theorem FitG.mono {RR RR' : (i : RC) → i.den → Prop} (hR : ∀ i x, RR i x → RR' i x) : ∀ (t : Ty) (x : t.den), FitG RR t x → FitG RR' t x
  | .u8, _, h => h
  | .int _, _, h => h
  | .bool, _, h => h
  | .str, _, h => h
  | .sl t, _, h => ⟨h.1, fun x hx => FitG.mono hR t x (h.2 x hx)⟩
  | .pr a b, _, h => ⟨FitG.mono hR a _ h.1, FitG.mono hR b _ h.2⟩
  | .un, _, h => h
  | .mp _, _, h => h
  | .ptr _, _, h => h
  | .np _, _, h => h
  | .clo _ _, _, h => h
  | .rc i, x, h => hR i x h
theorem FitR.intro {i : RC} {x : i.den} (h : Fit i.body (i.un x)) : FitR i x :=
  fun RR hc => hc i x (FitG.mono (fun j y hy => hy RR hc) _ _ h)
theorem FitR.elim {i : RC} {x : i.den} (h : FitR i x) : Fit i.body (i.un x) :=
  h (fun j y => Fit j.body (j.un y)) fun _ _ hy => FitG.mono (fun _ _ h => FitR.intro h) _ _ hy
mutual
/-- A type of the program is this one, down to its parts. -/
inductive Deep (P : Program) (R : RC → Option TypeId) : Ty → TypeId → Prop where
  | u8 {T : TypeId} : P.underlying T = some (.int .u8) → Deep P R .u8 T
  | int {T : TypeId} {k : IntKind} : P.underlying T = some (.int k) → Deep P R (.int k) T
  | bool {T : TypeId} : P.underlying T = some .bool → Deep P R .bool T
  | str {T : TypeId} : P.underlying T = some .string → Deep P R .str T
  | sl {T e : TypeId} {t : Ty} : P.underlying T = some (.slice e) → P.cellsOf e = t.sz → Deep P R t e → Deep P R (.sl t) T
  | st {T : TypeId} {t : Ty} {fs : Array Field} : P.underlying T = some (.struct fs) → P.cellsOf T = t.sz → t.isAgg = true → DeepF P R t fs.toList 0 → Deep P R t T
  | rc {T : TypeId} {i : RC} : R i = some T → Deep P R (.rc i) T
/-- The same, of fields from a place on. -/
inductive DeepF (P : Program) (R : RC → Option TypeId) : Ty → List Field → Nat → Prop where
  | nil {o : Nat} : DeepF P R .un [] o
  | one {t : Ty} {f : Field} {o : Nat} : f.offset = o → P.cellsOf f.type = t.sz → Deep P R t f.type → DeepF P R t [f] o
  | single {t : Ty} {f : Field} {o : Nat} : f.offset = o → P.cellsOf f.type = t.sz → Deep P R t f.type → DeepF P R (.pr t .un) [f] o
  | cons {a b : Ty} {f : Field} {fs : List Field} {o : Nat} : f.offset = o → P.cellsOf f.type = a.sz → Deep P R a f.type → DeepF P R b fs (o + a.sz) → DeepF P R (.pr a b) (f :: fs) o
end
def RcOk (P : Program) (R : RC → Option TypeId) : Prop := ∀ i T, R i = some T → ∃ fs, P.underlying T = some (.struct fs) ∧ P.cellsOf T = i.sz ∧ DeepF P R i.body fs.toList 0
abbrev M00 : Nat → Nat → Prop := fun _ _ => False
section
variable {H : Type} {enc : TypeId × Value → H} {P : Program} {w : World} {spare : Nat → Bool} {held : Bool} {R : RC → Option TypeId}
theorem choose_list {α : Type} {p : Nat → α → Prop} : ∀ n, (∀ i, i < n → ∃ x, p i x) → ∃ l : List α, l.length = n ∧ ∀ i (h : i < l.length), p i l[i]
  | 0, _ => ⟨[], rfl, fun i h => absurd h (Nat.not_lt_zero _)⟩
  | n + 1, h => by
    obtain ⟨l, hl, hp⟩ := choose_list n fun i hi => h i (Nat.lt_succ_of_lt hi)
    obtain ⟨x, hx⟩ := h n (Nat.lt_succ_self _)
    refine ⟨l ++ [x], by simp [hl], fun i hi => ?_⟩
    rcases Nat.lt_or_ge i l.length with h' | h'
    · rw [List.getElem_append_left h']; exact hp i h'
    · have : i = l.length := by simp at hi; omega
      subst this
      simp [hl, hx]
theorem pl_of_cells {a : Addr} {n : Nat} {cs : List Value} (h : w.cells? 0 a n = some cs) : Pl M00 w a cs := by
  intro j u hu
  refine ⟨?_, id⟩
  unfold World.cells? at h
  rw [if_pos (Nat.zero_le _)] at h
  have hl := mapM_some_length h
  have hj : j < n := by
    rcases Nat.lt_or_ge j cs.length with h' | h'
    · rw [hl, List.length_range] at h'; exact h'
    · rw [List.getElem?_eq_none h'] at hu; cases hu
  have := mapM_some_get h j j (by rw [List.getElem?_range hj])
  rw [this]; exact hu
/-- What fields read as. -/
theorem fields_rep {fuel : Nat} {cs : List Value}
    (ih : ∀ (t : Ty) (T : TypeId) (cs : List Value) (x : DataW H × List MemPlace), Deep P R t T → DataW.trod enc P w 0 spare held fuel T cs = some x → ∃ d : t.den, RepC M00 w t d cs ∧ Fit t d) :
    ∀ (fs : List Field) (t : Ty) (o : Nat) (xs : List (DataW H × List MemPlace)), DeepF P R t fs o →
      (fs.mapM fun f => DataW.trod enc P w 0 spare held fuel f.type ((cs.drop f.offset).take (P.cellsOf f.type))) = some xs → ∃ d : t.den, RepC M00 w t d ((cs.drop o).take t.sz) ∧ Fit t d := by
  intro fs
  induction fs with
  | nil =>
    intro t o xs hd _
    cases hd
    exact ⟨(), List.take_zero, trivial⟩
  | cons f fs hfs =>
    intro t o xs hd hm
    have hhead : ∃ y, DataW.trod enc P w 0 spare held fuel f.type ((cs.drop f.offset).take (P.cellsOf f.type)) = some y := by
      have := mapM_some_get hm 0 f rfl
      cases hx : xs[0]? with
      | none =>
        have hl := mapM_some_length hm
        rw [List.getElem?_eq_none_iff] at hx
        simp at hl; omega
      | some y => exact ⟨y, this.trans hx⟩
    have htail : ∃ ys, (fs.mapM fun f => DataW.trod enc P w 0 spare held fuel f.type ((cs.drop f.offset).take (P.cellsOf f.type))) = some ys := by
      rw [List.mapM_cons] at hm
      obtain ⟨y, hy⟩ := hhead
      rw [hy] at hm
      cases hys : (fs.mapM fun f => DataW.trod enc P w 0 spare held fuel f.type ((cs.drop f.offset).take (P.cellsOf f.type))) with
      | none => rw [hys] at hm; cases hm
      | some ys => exact ⟨ys, rfl⟩
    obtain ⟨y, hy⟩ := hhead
    obtain ⟨ys, hys⟩ := htail
    cases hd with
    | one ho hc h1 =>
      rw [ho, hc] at hy
      exact ih _ _ _ _ h1 hy
    | single ho hc h1 =>
      rw [ho, hc] at hy
      obtain ⟨d, hd1, hd2⟩ := ih _ _ _ _ h1 hy
      exact ⟨(d, ()), ⟨_, [], (List.append_nil _).symm, hd1, rfl⟩, hd2, trivial⟩
    | @cons a b _ _ _ ho hc h1 h2 =>
      rw [ho, hc] at hy
      obtain ⟨d, hd1, hd2⟩ := ih _ _ _ _ h1 hy
      obtain ⟨e, he1, he2⟩ := hfs _ _ _ h2 hys
      refine ⟨(d, e), ⟨_, _, ?_, hd1, he1⟩, hd2, he2⟩
      show (cs.drop o).take (a.sz + b.sz) = _
      rw [List.take_add, List.drop_drop]
theorem trod_rep (hR : RcOk P R) : ∀ (fuel : Nat) (t : Ty) (T : TypeId) (cs : List Value) (x : DataW H × List MemPlace), Deep P R t T → DataW.trod enc P w 0 spare held fuel T cs = some x →
    ∃ d : t.den, RepC M00 w t d cs ∧ Fit t d := by
  intro fuel
  induction fuel with
  | zero => intro t T cs x _ h; cases h
  | succ fuel ih =>
    intro t T cs x hd h
    have hstruct : ∀ (t : Ty) (fs : Array Field), P.underlying T = some (.struct fs) → P.cellsOf T = t.sz → DeepF P R t fs.toList 0 → ∃ d : t.den, RepC M00 w t d cs ∧ Fit t d := fun t fs hu hc hf => by
      unfold DataW.trod at h
      simp only [hu] at h
      split at h
      · rename_i hl
        cases hm : (fs.toList.mapM fun f => DataW.trod enc P w 0 spare held fuel f.type ((cs.drop f.offset).take (P.cellsOf f.type))) with
        | none => rw [hm] at h; cases h
        | some xs =>
          obtain ⟨d, h1, h2⟩ := fields_rep ih fs.toList t 0 xs hf hm
          rw [List.drop_zero, List.take_of_length_le (by omega)] at h1
          exact ⟨d, h1, h2⟩
      · cases h
    cases hd with
    | u8 hu =>
      have hx : ∃ n, cs = [.int .u8 n] ∧ (Lit.int .u8 n).wf = true := by
        unfold DataW.trod at h
        split at h <;> simp_all
      obtain ⟨n, rfl, hn⟩ := hx
      refine ⟨UInt8.ofNat n.toNat, ?_, trivial⟩
      show [Value.int .u8 n] = [Value.int .u8 (UInt8.ofNat n.toNat).toNat]
      simp [Lit.wf, IntKind.min, IntKind.max, IntKind.signed, IntKind.bits] at hn
      have : ((UInt8.ofNat n.toNat).toNat : Int) = n := by simp; omega
      rw [this]
    | @int _ k hu =>
      have hx : ∃ n, cs = [.int k n] ∧ (Lit.int k n).wf = true := by
        unfold DataW.trod at h
        split at h <;> simp_all
      obtain ⟨n, rfl, hn⟩ := hx
      exact ⟨n, rfl, hn⟩
    | bool hu =>
      have hx : ∃ b, cs = [.bool b] := by
        unfold DataW.trod at h
        split at h <;> simp_all
      obtain ⟨b, rfl⟩ := hx
      exact ⟨b, rfl, trivial⟩
    | str hu =>
      have hx : ∃ s : ByteArray, cs = [.string s] ∧ s.size ≤ maxLen := by
        unfold DataW.trod at h
        split at h <;> simp_all
      obtain ⟨s, rfl, hn⟩ := hx
      refine ⟨s.data.toList, ?_, ?_⟩
      · show [Value.string s] = [Value.string ⟨s.data.toList.toArray⟩]
        simp
      · show s.data.toList.length ≤ maxLen
        simpa using hn
    | @sl _ e t hu hc he =>
      have hx : cs = [.slice none 0 0] ∨ ∃ a len cap, cs = [.slice (some a) len cap] ∧ len ≤ cap ∧ cap ≤ maxLen ∧
          ∀ i, i < len → ∃ y, (w.cells? 0 (a.add (i * P.cellsOf e)) (P.cellsOf e)).bind (DataW.trod enc P w 0 spare held fuel e) = some y := by
        unfold DataW.trod at h
        split at h
        all_goals try (simp_all; done)
        · rename_i hu2
          rw [hu] at hu2
          cases hu2
          simp only at h
          split at h
          · rename_i hb
            right
            refine ⟨_, _, _, rfl, hb.2.1, hb.2.2, fun i hi => ?_⟩
            cases hm : ((List.range _).mapM fun i => (w.cells? 0 (Addr.add _ (i * P.cellsOf e)) (P.cellsOf e)).bind (DataW.trod enc P w 0 spare held fuel e)) with
            | none => rw [hm] at h; cases h
            | some ys =>
              have h1 := mapM_some_get hm i i (by rw [List.getElem?_range hi])
              have hl := mapM_some_length hm
              rw [List.length_range] at hl
              exact ⟨ys[i]'(by omega), h1.trans (List.getElem?_eq_getElem (by omega))⟩
          · cases h
      rcases hx with rfl | ⟨a, len, cap, rfl, h1, h2, h3⟩
      · exact ⟨[], ⟨none, 0, rfl, Nat.le_refl _, Nat.zero_le _, fun i h => absurd h (Nat.not_lt_zero _)⟩, Nat.zero_le _, fun x h => by cases h⟩
      · have hall : ∀ i, i < len → ∃ d : t.den, (∃ es, RepC M00 w t d es ∧ Pl M00 w (a.add (i * t.sz)) es) ∧ Fit t d := fun i hi => by
          obtain ⟨y, hy⟩ := h3 i hi
          rw [hc] at hy
          cases hcs : w.cells? 0 (a.add (i * t.sz)) t.sz with
          | none => rw [hcs] at hy; cases hy
          | some es =>
            rw [hcs] at hy
            obtain ⟨d, hd1, hd2⟩ := ih _ _ _ _ he hy
            exact ⟨d, ⟨es, hd1, pl_of_cells hcs⟩, hd2⟩
        obtain ⟨l, hl, hp⟩ := choose_list len hall
        refine ⟨l, ⟨some a, cap, ?_, by omega, h2, fun i hi => ?_⟩, ?_, fun x hx => ?_⟩
        · rw [hl]
        · obtain ⟨⟨es, e1, e2⟩, _⟩ := hp i hi
          exact ⟨a, es, rfl, e1, e2⟩
        · show l.length ≤ maxLen; omega
        · obtain ⟨i, hi, rfl⟩ := List.getElem_of_mem hx
          exact (hp i hi).2
    | st hu hc ha hf => exact hstruct t _ hu hc hf
    | rc hr =>
      obtain ⟨fs, hu, hc, hf⟩ := hR _ _ hr
      rename_i i
      obtain ⟨d, h1, h2⟩ := hstruct i.body fs hu (by rw [hc, RC.sz_body]) hf
      refine ⟨i.mk d, RepC.rc.2 (by rw [RC.un_mk]; exact h1), FitR.intro (by rw [RC.un_mk]; exact h2)⟩
/-- An argument. -/
theorem arg_open (hR : RcOk P R) {r : Reach} {base : Nat} {t : Ty} {T : TypeId} {v : Value} {d : DataW H} {p : List MemPlace} (hd : Deep P R t T) (hv : Value.okWide P w r base T v) (h : DataW.Trod enc P w 0 spare held T v d p) :
    ∃ x : t.den, RepV M00 w t x v ∧ Fit t x := by
  obtain ⟨fuel, hf⟩ := h
  obtain ⟨x, h1, h2⟩ := trod_rep hR fuel t T _ _ hd hf
  refine ⟨x, ⟨_, h1, ?_⟩, h2⟩
  have hagg : ∀ fs, P.underlying T = some (.struct fs) → t.isAgg = true → v = mkV t v.cells.toList := fun fs hu ha => by
    obtain ⟨cs, rfl, _⟩ := okWide_struct hu hv
    rw [mkV_agg ha]
    simp [Value.cells]
  have hone : ∀ c : Value, v = c → c.cells = #[c] → t.isAgg = false → v = mkV t v.cells.toList := fun c e hc ha => by
    subst e
    rw [hc, mkV_plain ha]
  cases hd with
  | u8 hu => obtain ⟨n, rfl⟩ := okWide_int hu hv; exact hone _ rfl rfl rfl
  | int hu => obtain ⟨n, rfl⟩ := okWide_int hu hv; exact hone _ rfl rfl rfl
  | bool hu => obtain ⟨n, rfl⟩ := okWide_bool hu hv; exact hone _ rfl rfl rfl
  | str hu => obtain ⟨n, rfl⟩ := okWide_string hu hv; exact hone _ rfl rfl rfl
  | sl hu _ _ => obtain ⟨a, l, c, rfl⟩ := okWide_slice hu hv; exact hone _ rfl rfl rfl
  | st hu _ ha _ => exact hagg _ hu ha
  | rc hr => obtain ⟨fs, hu, _⟩ := hR _ _ hr; exact hagg _ hu rfl
end
/-- A law is called. -/
theorem law_run {P : Program} {f : FuncId} {ps : List Sl} {F : SV ps → BV [] → Option Bool} {out : Bool → SV [.v .bool] × BV []} (hout : ∀ z, (out z).1 = (z, ())) (hs : Sound P GW B0G f ⟨ps, [], [.v .bool], [], Bool, out, F⟩)
    {W : World} {vs : List Value} {x : SV ps} (hg : GW W) (ha : All2 (RepD0 M00 W g0) (lays id ps x) vs) (hf : F x () = some true) : Calls P f vs.toArray W fun e W' => e = .returned (.bool true) ∧ Ext W W' := by
  refine (hs.2 M00 W g0 vs x () true hg (GW_size hg) { args := ha, res := fun r blk h => (by cases h), dom := fun r gx h => (by cases h), inj := fun _ _ _ _ _ h => (by cases h), low := fun _ _ _ h => (by cases h), chg := fun _ _ _ _ h => (by cases h), mlt := fun b o h => h.elim, row := fun _ _ _ h => (by cases h) } hf).mono fun e W' hp => ?_
  obtain ⟨vs', g', he, hE, _, hF, _⟩ := hp
  refine ⟨?_, hE.ext fun b hb => ?_⟩
  · have := hF.args
    rw [hout] at this
    match vs', this with
    | [v], ⟨h1, _⟩ =>
      have h2 := RepV.plain (t := .bool) rfl h1
      have h3 : [v] = [.bool true] := h2
      injection h3 with h3
      rw [he, h3]
      rfl
  · obtain ⟨r, x, h, _⟩ := hb
    cases h
end Go.Proofs.YthlkidohpiebiaaDoor


/- Patterns in the program and in its reference (law 6), in plain Lean. -/
namespace Go.Proofs.YthlkidohpiebiaaDoor
set_option linter.unusedVariables false
set_option linter.unusedSimpArgs false
open Go Go.RowKit
theorem parts_len {x : Str} (h : x.length < 1000000) : (splitC 47 x).length ≤ 1000000 := by
  rw [splitC_len]
  have := List.count_le_length (a := (47 : UInt8)) (l := x)
  omega
theorem parts_le {x : Str} (h : x.length < 1000000) : ∀ q ∈ splitC 47 x, q.length ≤ 1000000 := fun q hq => by
  have := (splitC_mem 47 x q hq).2
  omega
theorem inPart_fin (N : Nat) : ∀ n : Fin 256, blob_inPart 0 (UInt8.ofNat n.1) = ref1_partByte 0 (UInt8.ofNat n.1) := by decide +kernel
theorem inPart_eq (N : Nat) (c : UInt8) : blob_inPart N c = ref1_partByte N c := by
  have h := inPart_fin 0 ⟨c.toNat, c.toNat_lt⟩
  have e : UInt8.ofNat c.toNat = c := by simp
  simp only [e] at h
  exact h
theorem isPart_eq (N : Nat) (x : Str) : blob_isPart N x = ref1_isPart N x := by
  have gen : ∀ (k : Option Bool) (n : Nat) (i : Int), blob_isPart_L0 N x (x.length : Int) k n i = ref1_isPart_L0 N x k n i := by
    intro k n
    induction n with
    | zero => intro i; rfl
    | succ n ih =>
      intro i
      show blob_isPart_L0T N x _ k _ i = ref1_isPart_L0T N x k _ i
      unfold blob_isPart_L0T ref1_isPart_L0T
      simp only [inPart_eq, ih]
  exact gen _ _ _
theorem isPath_eq (N : Nat) (x : Str) : blob_IsPath N x = ref1_IsPath N x := by
  have gen : ∀ (P : List Str) (k : Option Bool) (n : Nat) (i : Int), blob_IsPath_L0 N P (P.length : Int) k n i = ref1_IsPath_L0 N P k n i := by
    intro P k n
    induction n with
    | zero => intro i; rfl
    | succ n ih =>
      intro i
      show blob_IsPath_L0T N P _ k _ i = ref1_IsPath_L0T N P k _ i
      unfold blob_IsPath_L0T ref1_IsPath_L0T
      simp only [isPart_eq, ih]
  unfold blob_IsPath ref1_IsPath ref1_within
  simp only [gen]
  by_cases h1 : (x.length : Int) < 1
  · rw [br_pos h1, br_neg (by omega)]; simp
  · rw [br_neg h1]
    by_cases h2 : (x.length : Int) > 200
    · rw [br_pos h2, br_pos (by omega), decide_eq_false (by omega)]; simp
    · rw [br_neg h2, br_pos (by omega), decide_eq_true (by omega)]; simp
theorem scan_loop {α R : Type} {xs : List α} (ok : α → Bool) {k bad : Option R} {f : Nat → Int → Option R} (hstep : ∀ n i (hi : i < xs.length), f (n + 1) (i : Int) = if ok xs[i] = true then f n ((i + 1 : Nat) : Int) else bad)
    (hend : ∀ n, f (n + 1) (xs.length : Int) = k) : ∀ n, xs.length < n → f n 0 = if xs.all ok = true then k else bad := by
  have gen : ∀ (d n i : Nat), i + d = xs.length → d < n → f n (i : Int) = if (xs.drop i).all ok = true then k else bad := by
    intro d
    induction d with
    | zero =>
      intro n i h hn
      obtain ⟨n, rfl⟩ : ∃ j, n = j + 1 := ⟨n - 1, by omega⟩
      obtain rfl : i = xs.length := by omega
      rw [hend, List.drop_length]; rfl
    | succ d ih =>
      intro n i h hn
      obtain ⟨n, rfl⟩ : ∃ j, n = j + 1 := ⟨n - 1, by omega⟩
      have hi : i < xs.length := by omega
      rw [hstep n i hi, ih n (i + 1) (by omega) (by omega), List.drop_eq_getElem_cons hi, List.all_cons]
      cases ok xs[i] <;> simp
  intro n hn
  have := gen xs.length n 0 (by omega) hn
  simpa using this
def byteB (c : UInt8) : Bool := (ref1_partByte 0 c).getD false
theorem byte_fin : ∀ n : Fin 256, ref1_partByte 0 (UInt8.ofNat n.1) = some (byteB (UInt8.ofNat n.1)) := by decide +kernel
theorem byte_eq (N : Nat) (c : UInt8) : ref1_partByte N c = some (byteB c) := by
  have h := byte_fin ⟨c.toNat, c.toNat_lt⟩
  have e : UInt8.ofNat c.toNat = c := by simp
  simp only [e] at h
  exact h
theorem part_scan {N : Nat} {x : Str} (hx : x.length ≤ 1000000) (k : Option Bool) : ∀ n, x.length < n → ref1_isPart_L0 N x k n 0 = if x.all byteB = true then k else some false := by
  refine scan_loop byteB (fun n i hi => ?_) (fun n => ?_)
  · show ref1_isPart_L0T N x k _ (i : Int) = _
    have hw : IntKind.i64.wrap ((i : Int) + 1) = ((i + 1 : Nat) : Int) := by rw [wrap_id (by omega) (by omega)]; omega
    unfold ref1_isPart_L0T
    rw [br_pos (by omega : (i : Int) < (x.length : Int)), geti_lt x hi, bnd_some, byte_eq, bnd_some, hw]
    cases byteB x[i] <;> simp
  · show ref1_isPart_L0T N x k _ (x.length : Int) = _
    unfold ref1_isPart_L0T
    rw [br_neg (by omega)]
def partP (x : Str) : Bool := x.all byteB && !(x == []) && !(x == [46]) && !(x == [46, 46])
theorem isPart_val {N : Nat} (hN : big ≤ N) {x : Str} (hx : x.length ≤ 1000000) : ref1_isPart N x = some (partP x) := by
  have hb : (18446744073709551616 : Nat) ≤ N := hN
  unfold ref1_isPart partP
  rw [part_scan hx _ N (by omega)]
  cases x.all byteB <;> cases (x == ([] : Str)) <;> cases (x == ([46] : Str)) <;> cases (x == ([46, 46] : Str)) <;> simp
def pathB (x : Str) : Bool := decide (1 ≤ x.length) && (decide (x.length ≤ 200) && (splitC 47 x).all partP)
theorem isPath_val {N : Nat} (hN : big ≤ N) {x : Str} (h : x.length < 1000000) : ref1_IsPath N x = some (pathB x) := by
  have hb : (18446744073709551616 : Nat) ≤ N := hN
  unfold ref1_IsPath ref1_within pathB
  rw [strings_Split_one _ _ (by omega)]
  simp only [bnd_some]
  have hl := parts_len h
  have hP := parts_le h
  generalize splitC 47 x = P at hl hP ⊢
  have h1 : ref1_IsPath_L0 N P (some true) N 0 = if P.all partP = true then some true else some false := by
    refine scan_loop partP (fun n i hi => ?_) (fun n => ?_) N (by omega)
    · show ref1_IsPath_L0T N P _ _ (i : Int) = _
      have hw : IntKind.i64.wrap ((i : Int) + 1) = ((i + 1 : Nat) : Int) := by rw [wrap_id (by omega) (by omega)]; omega
      unfold ref1_IsPath_L0T
      rw [br_pos (by omega : (i : Int) < (P.length : Int)), geti_lt P hi, bnd_some, hw, isPart_val hN (hP P[i] (List.getElem_mem _)), bnd_some]
      cases partP P[i] <;> simp
    · show ref1_IsPath_L0T N P _ _ (P.length : Int) = _
      unfold ref1_IsPath_L0T
      rw [br_neg (by omega)]
  rw [h1]
  by_cases g0 : 1 ≤ x.length
  · rw [br_pos (by omega : (x.length : Int) ≥ 1), decide_eq_true g0]
    by_cases g1 : x.length ≤ 200
    · rw [decide_eq_true (by omega : (x.length : Int) ≤ 200), decide_eq_true g1]
      cases P.all partP <;> simp
    · rw [decide_eq_false (by omega : ¬ (x.length : Int) ≤ 200), decide_eq_false g1]; simp
  · rw [br_neg (by omega : ¬ (x.length : Int) ≥ 1), decide_eq_false g0]; simp
theorem awake_n (n : Nat) : law1_awake (n + 40) = some true := by kernel_rfl
theorem awake_ok {N : Nat} (hN : big ≤ N) : law1_awake N = some true := by
  have hb : (18446744073709551616 : Nat) ≤ N := hN
  obtain ⟨n, rfl⟩ : ∃ n, N = n + 40 := ⟨N - 40, by omega⟩
  exact awake_n n
theorem isPath_long {N : Nat} {x : Str} (h : ¬ x.length < 1000000) : ref1_IsPath N x = some false := by
  unfold ref1_IsPath ref1_within
  rw [br_pos (by omega), decide_eq_false (by omega)]
  simp
theorem isPath_all {N : Nat} (hN : big ≤ N) (x : Str) : ref1_IsPath N x = some (pathB x) := by
  by_cases h : x.length < 1000000
  · exact isPath_val hN h
  · rw [isPath_long h]; unfold pathB; rw [decide_eq_false (by omega : ¬ x.length ≤ 200)]; simp
end Go.Proofs.YthlkidohpiebiaaDoor


/- What CheckFiles says in the program and in its reference, in plain Lean. -/
namespace Go.Proofs.YthlkidohpiebiaaDoor
set_option linter.unusedVariables false
set_option linter.unusedSimpArgs false
open Go Go.RowKit
abbrev FileT := Str × Bool × List UInt8
theorem exits_map {α β : Type} (g : α → β) (ex : Nat → Option α) : ∀ d i, exits (fun i => (ex i).map g) d i = (exits ex d i).map g
  | 0, _ => rfl
  | d + 1, i => by
    unfold exits
    cases ex i with
    | some z => rfl
    | none => exact exits_map g ex d (i + 1)
theorem exits_any {α : Type} (c : Nat → Bool) (z r : α) (m : Nat) : (exits (fun i => if c i = true then some z else none) m 0).getD r = if (List.range m).any c = true then z else r := by
  cases h : exits (fun i => if c i = true then some z else none) m 0 with
  | none =>
    have h' := exits_none.1 h
    have : (List.range m).any c = false := by
      rw [List.any_eq_false]
      intro j hj hc
      have := h' j (Nat.zero_le _) (by simpa using hj)
      rw [if_pos hc] at this; cases this
    rw [this]; rfl
  | some y =>
    obtain ⟨j, _, h2, h3, _⟩ := exits_some h
    by_cases hc : c j = true
    · rw [if_pos hc] at h3
      have : (List.range m).any c = true := List.any_eq_true.2 ⟨j, by simpa using h2, hc⟩
      rw [this, if_pos rfl]
      exact (Option.some.inj h3).symm
    · rw [if_neg hc] at h3; cases h3
/-- Whether a path lies within one that is there. -/
def clashB (has : Str → Bool) (x : Str) : Bool := (List.range x.length).any fun i => x[i]? == some 47 && has (x.take i)
theorem clash_blob {N : Nat} (hN : big ≤ N) {m : List (Str × Bool)} {has : Str → Bool} (hm : ∀ p, (mget m p).getD (zero .bool) = has p) {x : Str} (hx : x.length ≤ 1000000) : blob_clashes N m x = some (clashB has x) := by
  have hb : (18446744073709551616 : Nat) ≤ N := hN
  unfold blob_clashes clashB
  refine (exit_loop (S := Int) x.length (fun i => (i : Int)) (fun i => if (x[i]? == some 47 && has (x.take i)) = true then some (some true) else none) (f := fun n s => blob_clashes_L0 N m x (x.length : Int) (some false) n s) (r := some false) (fun n i hi => ?_) (fun n => ?_) N (by omega)).trans ?_
  · show blob_clashes_L0T N m x _ _ (blob_clashes_L0 N m x _ _ n) (i : Int) = _
    have hw : IntKind.i64.wrap ((i : Int) + 1) = ((i + 1 : Nat) : Int) := by rw [wrap_id (by omega) (by omega)]; omega
    unfold blob_clashes_L0T
    rw [br_pos (by omega : (i : Int) < (x.length : Int)), geti_lt x hi, bnd_some, hw, slc_take x (Nat.le_of_lt hi), bnd_some, hm, List.getElem?_eq_getElem hi]
    show _ = Option.getD (if ((x[i] == 47) && has (x.take i)) = true then some (some true) else none) _
    cases x[i] == 47 <;> cases has (x.take i) <;> simp
  · show blob_clashes_L0T N m x _ _ _ (x.length : Int) = _
    unfold blob_clashes_L0T
    rw [br_neg (by omega)]
  · rw [exits_any]
    split
    · rename_i h; rw [h]
    · rename_i h; rw [Bool.not_eq_true] at h; rw [h]
def hasB {α : Type} (l : List (Str × α)) (p : Str) : Bool := l.any fun x => p == x.1
/-- What is wrong at the i-th file. -/
def scanX (l : List FileT) (i : Nat) : Option Int := match l[i]? with
  | some x => if pathB x.1 = true then (if x.2.2.length ≤ 100000 then (if i = 0 then none else match l[i - 1]? with
    | some y => if y.1 < x.1 then none else some 8
    | none => none) else some 2) else some 3
  | none => none
/-- How many bytes the first i files have. -/
def totF (l : List FileT) : Nat → Int
  | 0 => 0
  | i + 1 => IntKind.i64.wrap (totF l i + match l[i]? with | some x => (x.2.2.length : Int) | none => 0)
theorem totF_succ {l : List FileT} {i : Nat} (h : i < l.length) : totF l (i + 1) = IntKind.i64.wrap (totF l i + (l[i].2.2.length : Int)) := by
  show IntKind.i64.wrap (totF l i + match l[i]? with | some x => (x.2.2.length : Int) | none => 0) = _
  rw [List.getElem?_eq_getElem h]
/-- What CheckFiles says. -/
def filesS (l : List FileT) : Int := if l.length ≤ 1000 then ((exits (scanX l) l.length 0).getD (if l.all (fun x => !clashB (hasB l) x.1) = true then (if totF l l.length > 2000000 then 2 else 0) else 12)) else 2
structure OkF (l : List FileT) : Prop where
  path : ∀ x ∈ l, pathB x.1 = true
  few : ∀ x ∈ l, x.2.2.length ≤ 100000
  asc : Asc l
theorem pathB_len {x : Str} (h : pathB x = true) : 1 ≤ x.length ∧ x.length ≤ 200 := by
  unfold pathB at h
  simp only [Bool.and_eq_true, decide_eq_true_eq] at h
  exact ⟨h.1, h.2.1⟩
theorem scan_ok (l : List FileT) : exits (scanX l) l.length 0 = none ↔ OkF l := by
  rw [exits_none]
  have key : ∀ i (hi : i < l.length), scanX l i = none ↔ pathB l[i].1 = true ∧ l[i].2.2.length ≤ 100000 ∧ ∀ y, i ≠ 0 → l[i - 1]? = some y → y.1 < l[i].1 := by
    intro i hi
    unfold scanX
    rw [List.getElem?_eq_getElem hi]
    show (if pathB l[i].1 = true then _ else _) = none ↔ _
    by_cases h1 : pathB l[i].1 = true
    · rw [if_pos h1]
      by_cases h2 : l[i].2.2.length ≤ 100000
      · rw [if_pos h2]
        by_cases h3 : i = 0
        · rw [if_pos h3]
          exact ⟨fun _ => ⟨h1, h2, fun y h _ => absurd h3 h⟩, fun _ => rfl⟩
        · rw [if_neg h3, List.getElem?_eq_getElem (by omega : i - 1 < l.length)]
          show (if _ then _ else _) = none ↔ _
          by_cases h4 : l[i - 1].1 < l[i].1
          · rw [if_pos h4]
            exact ⟨fun _ => ⟨h1, h2, fun y _ h => by rw [← Option.some.inj h]; exact h4⟩, fun _ => rfl⟩
          · rw [if_neg h4]
            exact ⟨fun h => (by cases h), fun h => absurd (h.2.2 _ h3 rfl) h4⟩
      · rw [if_neg h2]
        exact ⟨fun h => (by cases h), fun h => absurd h.2.1 h2⟩
    · rw [if_neg h1]
      exact ⟨fun h => (by cases h), fun h => absurd h.1 h1⟩
  constructor
  · intro h
    have h' : ∀ i (hi : i < l.length), _ := fun i hi => (key i hi).1 (h i (Nat.zero_le _) (by omega))
    refine ⟨fun x hx => ?_, fun x hx => ?_, (asc_iff l).1 fun i hi => (h' i hi).2.2⟩
    · obtain ⟨i, hi, rfl⟩ := List.getElem_of_mem hx; exact (h' i hi).1
    · obtain ⟨i, hi, rfl⟩ := List.getElem_of_mem hx; exact (h' i hi).2.1
  · intro h i _ hi
    have hi : i < l.length := by omega
    exact (key i hi).2 ⟨h.path _ (List.getElem_mem _), h.few _ (List.getElem_mem _), (asc_iff l).2 h.asc i hi⟩
theorem blob_CheckFiles_eq {N : Nat} (hN : big ≤ N) (l : List FileT) : blob_CheckFiles N l = some (filesS l) := by
  have hb : (18446744073709551616 : Nat) ≤ N := hN
  unfold blob_CheckFiles filesS
  by_cases h0 : l.length ≤ 1000
  case neg => rw [br_pos (by omega : (l.length : Int) > 1000), if_neg h0]
  rw [br_neg (by omega : ¬ (l.length : Int) > 1000), if_pos h0]
  refine (exit_loop (S := Int × Int × List (Str × Bool)) l.length (fun i => (totF l i, (i : Int), keysM ((l.take i).map (·.1)) [])) (fun i => (scanX l i).map some) (f := fun n s => blob_CheckFiles_L0 N l l (l.length : Int) _ n s.1 s.2.1 s.2.2) (r := blob_CheckFiles_L1 N l (l.length : Int) (keysM ((l.take l.length).map (·.1)) []) (br (decide (totF l l.length > 2000000)) (some 2) (some 0)) N 0) (fun n i hi => ?_) (fun n => ?_) N (by omega)).trans ?_
  · show blob_CheckFiles_L0T N l l _ _ (blob_CheckFiles_L0 N l l _ _ n) (totF l i) (i : Int) _ = _
    have hw : IntKind.i64.wrap ((i : Int) + 1) = ((i + 1 : Nat) : Int) := by rw [wrap_id (by omega) (by omega)]; omega
    have e2 : keysM ((l.take (i + 1)).map (·.1)) [] = mset (keysM ((l.take i).map (·.1)) []) l[i].1 true := by rw [List.take_succ_eq_append_getElem hi, List.map_append]; exact keysM_snoc _ _ _
    show _ = (Option.map some (scanX l i)).getD (blob_CheckFiles_L0 N l l _ _ n (totF l (i + 1)) ((i + 1 : Nat) : Int) (keysM ((l.take (i + 1)).map (·.1)) []))
    unfold blob_CheckFiles_L0T
    rw [br_pos (by omega : (i : Int) < (l.length : Int)), geti_lt l hi, bnd_some, isPath_eq, isPath_all hN, bnd_some, hw, e2, totF_succ hi]
    unfold scanX
    rw [List.getElem?_eq_getElem hi]
    dsimp only
    by_cases h1 : pathB l[i].1 = true
    · rw [h1, if_pos rfl, Bool.not_true, br_false]
      by_cases h2 : l[i].2.2.length ≤ 100000
      · rw [br_neg (by omega : ¬ (l[i].2.2.length : Int) > 100000), if_pos h2]
        by_cases h3 : i = 0
        · rw [br_neg (by omega : ¬ (i : Int) > 0), if_pos h3]; rfl
        · have hp : IntKind.i64.wrap ((i : Int) - 1) = ((i - 1 : Nat) : Int) := by rw [wrap_id (by omega) (by omega)]; omega
          rw [br_pos (by omega : (i : Int) > 0), if_neg h3, hp, geti_lt l (by omega : i - 1 < l.length), bnd_some, List.getElem?_eq_getElem (by omega : i - 1 < l.length), le_not]
          dsimp only
          by_cases h4 : l[i - 1].1 < l[i].1
          · rw [if_pos h4, decide_eq_true h4]; simp
          · rw [if_neg h4, decide_eq_false h4]; simp
      · rw [br_pos (by omega : (l[i].2.2.length : Int) > 100000), if_neg h2]; simp
    · rw [if_neg h1]
      rw [Bool.not_eq_true] at h1
      rw [h1]; simp
  · show blob_CheckFiles_L0T N l l _ _ _ _ (l.length : Int) _ = _
    unfold blob_CheckFiles_L0T
    rw [br_neg (by omega)]
  · rw [exits_map]
    cases h : exits (scanX l) l.length 0 with
    | some z => rfl
    | none =>
      have ok := (scan_ok l).1 h
      show blob_CheckFiles_L1 N l _ _ _ N 0 = some (if _ then _ else _)
      rw [scan_loop (xs := l) (fun x => !clashB (hasB l) x.1) (k := br (decide (totF l l.length > 2000000)) (some 2) (some 0)) (bad := some 12) (f := fun n i => blob_CheckFiles_L1 N l _ _ _ n i) (fun n i hi => ?_) (fun n => ?_) N (by omega)]
      · by_cases h5 : totF l l.length > 2000000
        · rw [br_pos h5, if_pos h5]; split <;> rfl
        · rw [br_neg h5, if_neg h5]; split <;> rfl
      · show blob_CheckFiles_L1T N l _ _ _ (blob_CheckFiles_L1 N l _ _ _ n) (i : Int) = _
        have hw : IntKind.i64.wrap ((i : Int) + 1) = ((i + 1 : Nat) : Int) := by rw [wrap_id (by omega) (by omega)]; omega
        have hlen := pathB_len (ok.path l[i] (List.getElem_mem _))
        unfold blob_CheckFiles_L1T
        rw [br_pos (by omega : (i : Int) < (l.length : Int)), geti_lt l hi, bnd_some, clash_blob hN (has := hasB l) (fun p => ?_) (by omega), bnd_some, hw]
        · cases clashB (hasB l) l[i].1 <;> simp
        · rw [keysM_get, List.take_length, List.any_map]
          show _ = l.any _
          cases h6 : l.any ((fun x => p == x) ∘ fun x => x.1) with
          | true => exact h6.symm
          | false => exact h6.symm
      · show blob_CheckFiles_L1T N l _ _ _ _ (l.length : Int) = _
        unfold blob_CheckFiles_L1T
        rw [br_neg (by omega)]
/-- What is known of right files. -/
structure FilesOk (l : List FileT) : Prop where
  len : l.length ≤ 1000
  ok : OkF l
  calm : ∀ x ∈ l, clashB (hasB l) x.1 = false
  tot : ¬ totF l l.length > 2000000
theorem files_iff (l : List FileT) : filesS l = 0 ↔ FilesOk l := by
  unfold filesS
  constructor
  · intro h
    by_cases h0 : l.length ≤ 1000
    case neg => rw [if_neg h0] at h; cases h
    rw [if_pos h0] at h
    cases hx : exits (scanX l) l.length 0 with
    | some z =>
      rw [hx] at h
      obtain ⟨j, _, h2, h3, _⟩ := exits_some hx
      have h : z = 0 := h
      subst h
      unfold scanX at h3
      split at h3
      · split at h3
        · split at h3
          · split at h3
            · cases h3
            · split at h3
              · split at h3 <;> cases h3
              · cases h3
          · cases h3
        · cases h3
      · cases h3
    | none =>
      rw [hx] at h
      have ok := (scan_ok l).1 hx
      have h : (if l.all (fun x => !clashB (hasB l) x.1) = true then (if totF l l.length > 2000000 then (2 : Int) else 0) else 12) = 0 := h
      split at h
      · rename_i h1
        split at h
        · cases h
        · rename_i h2
          exact ⟨h0, ok, fun x hx => by have := List.all_eq_true.1 h1 x hx; simpa using this, h2⟩
      · cases h
  · intro h
    rw [if_pos h.len, (scan_ok l).2 h.ok, if_pos (List.all_eq_true.2 fun x hx => by simp [h.calm x hx]), if_neg h.tot]; rfl
end Go.Proofs.YthlkidohpiebiaaDoor


/- Names in order, each once; things put into order one by one. No program in sight. -/
namespace Go.Proofs.YthlkidohpiebiaaDoor
set_option linter.unusedVariables false
set_option linter.unusedSimpArgs false
open Go Go.RowKit
theorem str_ext : ∀ {a b : List Str}, a.Pairwise (· < ·) → b.Pairwise (· < ·) → (∀ n, n ∈ a ↔ n ∈ b) → a = b := fun {a b} ha hb h => by
  have e : ∀ c : List Str, c.Pairwise (· < ·) → Asc (c.map fun x => (x, ())) := fun c hc => by unfold Asc; rw [List.pairwise_map]; exact hc
  have := Asc.ext (e a ha) (e b hb) fun p => by
    simp only [List.mem_map]
    exact ⟨fun ⟨x, hx, hp⟩ => ⟨x, (h x).1 hx, hp⟩, fun ⟨x, hx, hp⟩ => ⟨x, (h x).2 hx, hp⟩⟩
  have := congrArg (List.map (·.1)) this
  simpa [List.map_map, Function.comp_def] using this
theorem sortStr_pw (xs : List Str) (hn : xs.Nodup) : (xs.mergeSort leStr).Pairwise (· < ·) := by
  have h1 := List.pairwise_mergeSort (le := leStr) (fun a b c h1 h2 => by
    simp only [leStr, decide_eq_true_eq] at *
    exact List.le_trans h1 h2) (fun a b => by
    simp only [leStr, Bool.or_eq_true, decide_eq_true_eq]
    exact List.le_total _ _) xs
  have h2 : (xs.mergeSort leStr).Nodup := (List.mergeSort_perm xs leStr).nodup_iff.2 hn
  refine (List.Pairwise.and h1 h2).imp fun {a b} ⟨hle, hne⟩ => ?_
  simp only [leStr, decide_eq_true_eq] at hle
  rcases List.le_iff_lt_or_eq.1 hle with h | h
  · exact h
  · exact absurd h hne
/-- Names that are put into a map. -/
def setM (m : List (Str × Bool)) (l : List Str) : List (Str × Bool) := l.foldl (fun m n => mset m n true) m
theorem mset_keys (m : List (Str × Bool)) (n : Str) (b : Bool) : ((m.map (·.1)).Nodup → ((mset m n b).map (·.1)).Nodup) ∧ ∀ x, x ∈ (mset m n b).map (·.1) ↔ x ∈ m.map (·.1) ∨ x = n := by
  induction m with
  | nil => exact ⟨fun _ => by simp [mset], fun x => by simp [mset]⟩
  | cons p m ih =>
    obtain ⟨k, v⟩ := p
    unfold mset
    by_cases h : n = k
    · subst h
      simp only [beq_self_eq_true, if_true]
      exact ⟨fun h => h, fun x => ⟨.inl, fun h => h.elim id fun e => by rw [e]; simp⟩⟩
    · have hb : (n == k) = false := by simpa using h
      simp only [hb, Bool.false_eq_true, if_false, List.map_cons]
      refine ⟨fun hn => ?_, fun x => ?_⟩
      · rw [List.nodup_cons] at hn ⊢
        refine ⟨fun hm => ?_, ih.1 hn.2⟩
        rcases (ih.2 k).1 hm with h1 | h1
        · exact hn.1 h1
        · exact h h1.symm
      · rw [List.mem_cons, List.mem_cons, ih.2]
        exact or_assoc.symm
theorem setM_keys : ∀ (l : List Str) (m : List (Str × Bool)), ((m.map (·.1)).Nodup → ((setM m l).map (·.1)).Nodup) ∧ ∀ x, x ∈ (setM m l).map (·.1) ↔ x ∈ m.map (·.1) ∨ x ∈ l
  | [], m => ⟨fun h => h, fun x => by simp [setM]⟩
  | n :: l, m => by
    have h1 := mset_keys m n true
    have h2 := setM_keys l (mset m n true)
    show ((m.map (·.1)).Nodup → ((setM (mset m n true) l).map (·.1)).Nodup) ∧ ∀ x, x ∈ (setM (mset m n true) l).map (·.1) ↔ _
    refine ⟨fun h => h2.1 (h1.1 h), fun x => ?_⟩
    rw [h2.2, h1.2, List.mem_cons, or_assoc]
theorem setM_app (m : List (Str × Bool)) (a b : List Str) : setM m (a ++ b) = setM (setM m a) b := by unfold setM; rw [List.foldl_append]
theorem setM_len (l : List Str) (m : List (Str × Bool)) : (setM m l).length ≤ m.length + l.length := by
  induction l generalizing m with
  | nil => exact Nat.le_refl _
  | cons n l ih =>
    have h1 : ∀ m : List (Str × Bool), (mset m n true).length ≤ m.length + 1 := fun m => by
      induction m with
      | nil => exact Nat.le_refl _
      | cons p m ih =>
        obtain ⟨k, v⟩ := p
        unfold mset
        split
        · simp
        · simp only [List.length_cons]; omega
    have h2 := ih (mset m n true)
    have h3 := h1 m
    show (setM (mset m n true) l).length ≤ _
    rw [List.length_cons]; omega
/-- The names, in order, each once. -/
def sortN (l : List Str) : List Str := ((setM [] l).map (·.1)).mergeSort leStr
theorem sortN_asc (l : List Str) : (sortN l).Pairwise (· < ·) := sortStr_pw _ ((setM_keys l []).1 List.nodup_nil)
theorem mem_sortN (l : List Str) (x : Str) : x ∈ sortN l ↔ x ∈ l := by
  unfold sortN
  rw [List.mem_mergeSort, (setM_keys l []).2]; simp
theorem sortN_of {l : List Str} {r : List Str} (h1 : r.Pairwise (· < ·)) (h2 : ∀ x, x ∈ r ↔ x ∈ l) : r = sortN l := str_ext h1 (sortN_asc l) fun x => (h2 x).trans (mem_sortN l x).symm
theorem sortN_len (l : List Str) : (sortN l).length ≤ l.length := by
  unfold sortN
  rw [List.length_mergeSort, List.length_map]
  have := setM_len l []
  simpa using this
/-- Where a row of truths ends. -/
theorem mono_split (m : Nat) (lt : Nat → Bool) (mono : ∀ i j, i ≤ j → j < m → lt j = true → lt i = true) : ∃ c, c ≤ m ∧ (∀ j, j < c → lt j = true) ∧ (∀ j, c ≤ j → j < m → lt j = false) := by
  have : ∀ d, d ≤ m → ∃ c, c ≤ d ∧ (∀ j, j < c → lt j = true) ∧ (∀ j, c ≤ j → j < d → lt j = false) := by
    intro d
    induction d with
    | zero => intro _; exact ⟨0, Nat.le_refl _, fun j h => absurd h (by omega), fun j h1 h2 => absurd h2 (by omega)⟩
    | succ d ih =>
      intro hd
      obtain ⟨c, h1, h2, h3⟩ := ih (by omega)
      cases h : lt d with
      | true => exact ⟨d + 1, Nat.le_refl _, fun j hj => mono j d (by omega) (by omega) h, fun j h4 h5 => absurd h5 (by omega)⟩
      | false =>
        refine ⟨c, by omega, h2, fun j h4 h5 => ?_⟩
        rcases Nat.eq_or_lt_of_le (Nat.le_of_lt_succ h5) with rfl | h5
        · exact h
        · exact h3 j h4 h5
  exact this m (Nat.le_refl _)
/-- The place of a name in things in order. -/
theorem place {α : Type} (key : α → Str) {l : List α} (hs : l.Pairwise fun a b => key a < key b) (s : Str) : ∃ c, c ≤ l.length ∧ (∀ j (h : j < l.length), j < c → ¬ s < key l[j]) ∧ (∀ j (h : j < l.length), c ≤ j → s < key l[j]) := by
  let lt : Nat → Bool := fun j => match l[j]? with | some x => !decide (s < key x) | none => false
  have ltv : ∀ j (h : j < l.length), lt j = !decide (s < key l[j]) := fun j h => by show (match l[j]? with | some x => !decide (s < key x) | none => false) = _; rw [List.getElem?_eq_getElem h]
  obtain ⟨c, h1, h2, h3⟩ := mono_split l.length lt fun i j hij hj h => by
    rw [ltv j hj] at h
    rw [ltv i (by omega)]
    simp only [Bool.not_eq_true', decide_eq_false_iff_not] at h ⊢
    intro h'
    rcases Nat.eq_or_lt_of_le hij with rfl | hij
    · exact h h'
    · exact h (List.lt_trans h' (List.pairwise_iff_getElem.1 hs i j (by omega) hj hij))
  refine ⟨c, h1, fun j h hj => ?_, fun j h hj => ?_⟩
  · have := h2 j hj
    rw [ltv j h] at this
    simpa using this
  · have := h3 j hj h
    rw [ltv j h] at this
    simpa using this
end Go.Proofs.YthlkidohpiebiaaDoor


/- Paths of lists, files by path, and Changes, in the program and in its reference (law 23), in plain Lean. -/
namespace Go.Proofs.YthlkidohpiebiaaDoor
set_option linter.unusedVariables false
set_option linter.unusedSimpArgs false
open Go Go.RowKit
def pathsOf (l : List FileT) : List Str := l.map (·.1)
theorem pathsOf_take {l : List FileT} {i : Nat} (h : i < l.length) : pathsOf (l.take (i + 1)) = pathsOf (l.take i) ++ [l[i].1] := by
  unfold pathsOf
  rw [List.take_succ_eq_append_getElem h, List.map_append]; rfl
/-- Files by their paths. -/
def mapF (l : List FileT) : List (Str × FileT) := l.foldl (fun m x => mset m x.1 x) []
theorem mapF_take {l : List FileT} {i : Nat} (h : i < l.length) : mapF (l.take (i + 1)) = mset (mapF (l.take i)) l[i].1 l[i] := by
  unfold mapF
  rw [List.take_succ_eq_append_getElem h, List.foldl_append]; rfl
def findF (l : List FileT) (p : Str) : Option FileT := l.find? fun x => x.1 == p
theorem findF_none {l : List FileT} {p : Str} : findF l p = none ↔ p ∉ pathsOf l := by
  unfold findF pathsOf
  rw [List.find?_eq_none]
  constructor
  · intro h hm
    obtain ⟨x, hx, e⟩ := List.mem_map.1 hm
    exact h x hx (by rw [e]; exact beq_self_eq_true p)
  · intro h x hx e
    exact h (List.mem_map.2 ⟨x, hx, eq_of_beq e⟩)
theorem findF_some {l : List FileT} {p : Str} {x : FileT} (h : findF l p = some x) : x ∈ l ∧ x.1 = p := find_mem h
theorem findF_of {l : List FileT} (ha : Asc l) {x : FileT} (hx : x ∈ l) : findF l x.1 = some x := ha.find hx
theorem mapF_get {l : List FileT} (ha : Asc l) (p : Str) : mget (mapF l) p = findF l p := by
  have gen : ∀ i, i ≤ l.length → mget (mapF (l.take i)) p = findF (l.take i) p := by
    intro i
    induction i with
    | zero => intro _; rw [List.take_zero]; rfl
    | succ i ih =>
      intro hi
      have hi' : i < l.length := by omega
      rw [mapF_take hi', mget_mset, ih (by omega)]
      have e : findF (l.take (i + 1)) p = (findF (l.take i) p).or (if (l[i].1 == p) = true then some l[i] else none) := by
        unfold findF
        rw [List.take_succ_eq_append_getElem hi', List.find?_append]
        congr 1
        cases h : l[i].1 == p <;> simp [h]
      rw [e]
      by_cases hp : p = l[i].1
      · have hn : findF (l.take i) p = none := findF_none.2 fun hm => by
          obtain ⟨x, hx, e2⟩ := List.mem_map.1 hm
          obtain ⟨j, hj, rfl⟩ := List.getElem_of_mem hx
          rw [List.length_take] at hj
          rw [List.getElem_take] at e2
          have h3 := List.pairwise_iff_getElem.1 ha j i (by omega) hi' (by omega)
          rw [e2, hp] at h3
          exact List.lt_irrefl _ h3
        have h1 : (p == l[i].1) = true := by rw [hp]; exact beq_self_eq_true _
        have h2 : (l[i].1 == p) = true := by rw [hp]; exact beq_self_eq_true _
        rw [hn, if_pos h1, if_pos h2]; rfl
      · have h1 : ¬ (p == l[i].1) = true := fun h => hp (eq_of_beq h)
        have h2 : ¬ (l[i].1 == p) = true := fun h => hp (eq_of_beq h).symm
        rw [if_neg h1, if_neg h2, Option.or_none]
  have := gen l.length (Nat.le_refl _)
  rwa [List.take_length] at this
theorem byPath_eq {N : Nat} (hN : big ≤ N) (l : List FileT) (hl : l.length ≤ 1000000) : blob_byPath N l = some (mapF l) := by
  have hb : (18446744073709551616 : Nat) ≤ N := hN
  unfold blob_byPath
  refine steps_loop (S := Int × List (Str × FileT)) l.length (fun i => ((i : Int), mapF (l.take i))) (f := fun n s => blob_byPath_L0 N l (l.length : Int) (fun o => some o) n s.1 s.2) (fun n i hi => ?_) (fun n => ?_) N (by omega)
  · show blob_byPath_L0T N l _ _ (blob_byPath_L0 N l _ _ n) (i : Int) _ = blob_byPath_L0 N l _ _ n ((i + 1 : Nat) : Int) (mapF (l.take (i + 1)))
    have hw : IntKind.i64.wrap ((i : Int) + 1) = ((i + 1 : Nat) : Int) := by rw [wrap_id (by omega) (by omega)]; omega
    unfold blob_byPath_L0T
    rw [br_pos (by omega : (i : Int) < (l.length : Int)), geti_lt l hi, bnd_some, hw, mapF_take hi]
  · show blob_byPath_L0T N l _ _ _ (l.length : Int) _ = _
    unfold blob_byPath_L0T
    rw [br_neg (by omega), List.take_length]
/-- The paths of some lists, in order, each once. -/
def pathsS (ls : List (List FileT)) : List Str := sortN (ls.flatMap pathsOf)
theorem paths_L1 {N : Nat} (hN : big ≤ N) (l : List FileT) (hl : l.length ≤ 1000000) (k : List (Str × Bool) → Option (List Str)) (m0 : List Str) : blob_paths_L1 N l (l.length : Int) k N 0 (setM [] m0) = k (setM [] (m0 ++ pathsOf l)) := by
  have hb : (18446744073709551616 : Nat) ≤ N := hN
  have := steps_loop (S := Int × List (Str × Bool)) l.length (fun i => ((i : Int), setM [] (m0 ++ pathsOf (l.take i)))) (f := fun n s => blob_paths_L1 N l (l.length : Int) k n s.1 s.2) (z := k (setM [] (m0 ++ pathsOf l))) (fun n i hi => ?_) (fun n => ?_) N (by omega)
  · simpa [pathsOf] using this
  · show blob_paths_L1T N l _ _ (blob_paths_L1 N l _ _ n) (i : Int) _ = blob_paths_L1 N l _ _ n ((i + 1 : Nat) : Int) (setM [] (m0 ++ pathsOf (l.take (i + 1))))
    have hw : IntKind.i64.wrap ((i : Int) + 1) = ((i + 1 : Nat) : Int) := by rw [wrap_id (by omega) (by omega)]; omega
    unfold blob_paths_L1T
    rw [br_pos (by omega : (i : Int) < (l.length : Int)), geti_lt l hi, bnd_some, hw, pathsOf_take hi, ← List.append_assoc, setM_app [] (m0 ++ pathsOf (l.take i))]
    rfl
  · show blob_paths_L1T N l _ _ _ (l.length : Int) _ = _
    unfold blob_paths_L1T
    rw [br_neg (by omega), List.take_length]
theorem flatMap_take {α β : Type} (f : α → List β) (c : List α) {i : Nat} (h : i < c.length) : (c.take (i + 1)).flatMap f = (c.take i).flatMap f ++ f c[i] := by
  rw [List.take_succ_eq_append_getElem h, List.flatMap_append]; simp
theorem paths_eq {N : Nat} (hN : big ≤ N) (ls : List (List FileT)) (hl : ls.length ≤ 3) (hf : ∀ l ∈ ls, l.length ≤ 1000 ∧ ∀ x ∈ l, x.1.length ≤ 1000) : blob_paths N ls = some (pathsS ls) := by
  have hb : (18446744073709551616 : Nat) ≤ N := hN
  unfold blob_paths
  refine steps_loop (S := Int × List (Str × Bool)) ls.length (fun i => ((i : Int), setM [] ((ls.take i).flatMap pathsOf))) (f := fun n s => blob_paths_L0 N ls (ls.length : Int) _ n s.1 s.2) (z := some (pathsS ls)) (fun n i hi => ?_) (fun n => ?_) N (by omega)
  · show blob_paths_L0T N ls _ _ (blob_paths_L0 N ls _ _ n) (i : Int) _ = blob_paths_L0 N ls _ _ n ((i + 1 : Nat) : Int) (setM [] ((ls.take (i + 1)).flatMap pathsOf))
    have hw : IntKind.i64.wrap ((i : Int) + 1) = ((i + 1 : Nat) : Int) := by rw [wrap_id (by omega) (by omega)]; omega
    unfold blob_paths_L0T
    rw [br_pos (by omega : (i : Int) < (ls.length : Int)), geti_lt ls hi, bnd_some, hw, paths_L1 hN _ (by have := (hf _ (List.getElem_mem hi)).1; omega), ← flatMap_take _ _ hi]
  · show blob_paths_L0T N ls _ _ _ (ls.length : Int) _ = _
    unfold blob_paths_L0T
    rw [br_neg (by omega), List.take_length]
    have hlen : (ls.flatMap pathsOf).length ≤ 3000 := by
      have : ∀ ks : List (List FileT), (∀ l ∈ ks, l.length ≤ 1000 ∧ ∀ x ∈ l, x.1.length ≤ 1000) → (ks.flatMap pathsOf).length ≤ ks.length * 1000 := by
        intro ks
        induction ks with
        | nil => intro _; simp
        | cons k ks ih =>
          intro h
          have h1 := (h k (by simp)).1
          have h2 := ih fun l hl => h l (List.mem_cons_of_mem _ hl)
          rw [List.flatMap_cons, List.length_append, List.length_cons, Nat.succ_mul]
          unfold pathsOf at *
          rw [List.length_map]; omega
      have := this ls hf
      omega
    have hsl := setM_len (ls.flatMap pathsOf) []
    simp only [List.length_nil, Nat.zero_add] at hsl
    have hkey : ∀ p ∈ setM [] (ls.flatMap pathsOf), p.1.length ≤ maxLen := fun p hp => by
      have := ((setM_keys (ls.flatMap pathsOf) []).2 p.1).1 (List.mem_map.2 ⟨p, hp, rfl⟩)
      rcases this with h | h
      · cases h
      · obtain ⟨l, hl, h⟩ := List.mem_flatMap.1 h
        obtain ⟨x, hx, e⟩ := List.mem_map.1 h
        rw [← e]
        exact Nat.le_trans ((hf l hl).2 x hx) (by decide)
    unfold maps_Keys_bool slices_Sorted_keys
    dsimp only
    rw [bnd_some, if_pos ⟨by omega, hkey⟩, bnd_some]
    rfl
/-- How a path's file differs. -/
def chg (a b : List FileT) (p : Str) : Option (Str × Int) := match findF a p with
  | none => some (p, 1)
  | some x => match findF b p with
    | none => some (p, 2)
    | some y => if x.2.2 = y.2.2 then (if x.2.1 = y.2.1 then none else some (p, 4)) else some (p, 3)
def chgL (a b : List FileT) (ps : List Str) : List (Str × Int) := ps.filterMap (chg a b)
theorem chgL_take (a b : List FileT) {ps : List Str} {i : Nat} (h : i < ps.length) : chgL a b (ps.take (i + 1)) = chgL a b (ps.take i) ++ (chg a b ps[i]).toList := by
  unfold chgL
  rw [List.take_succ_eq_append_getElem h, List.filterMap_append]
  congr 1
theorem chgL_len (a b : List FileT) (ps : List Str) : (chgL a b ps).length ≤ ps.length := List.length_filterMap_le _ _
/-- What Changes says. -/
def changesS (a b : List FileT) : Int × List (Str × Int) := if filesS a = 0 then (if filesS b = 0 then (0, chgL a b (pathsS [a, b])) else (filesS b, [])) else (filesS a, [])
theorem FilesOk.small {l : List FileT} (h : FilesOk l) : l.length ≤ 1000 ∧ ∀ x ∈ l, x.1.length ≤ 1000 := ⟨h.len, fun x hx => by have := (pathB_len (h.ok.path x hx)).2; omega⟩
theorem pathsS_len {ls : List (List FileT)} (hl : ls.length ≤ 3) (hf : ∀ l ∈ ls, l.length ≤ 1000) : (pathsS ls).length ≤ 3000 := by
  have h1 : (pathsS ls).length ≤ (ls.flatMap pathsOf).length := sortN_len _
  have : ∀ ks : List (List FileT), (∀ l ∈ ks, l.length ≤ 1000) → (ks.flatMap pathsOf).length ≤ ks.length * 1000 := by
    intro ks
    induction ks with
    | nil => intro _; simp
    | cons k ks ih =>
      intro h
      have h1 := h k (by simp)
      have h2 := ih fun l hl => h l (List.mem_cons_of_mem _ hl)
      rw [List.flatMap_cons, List.length_append, List.length_cons, Nat.succ_mul]
      unfold pathsOf at *
      rw [List.length_map]; omega
  have := this ls hf
  omega
theorem blob_Changes_eq {N : Nat} (hN : big ≤ N) (a b : List FileT) : blob_Changes N a b = some ((changesS a b).1, (changesS a b).2) := by
  have hb : (18446744073709551616 : Nat) ≤ N := hN
  unfold blob_Changes changesS
  rw [blob_CheckFiles_eq hN, bnd_some, blob_CheckFiles_eq hN, bnd_some]
  by_cases h0 : filesS a = 0
  case neg => rw [if_neg h0, show (filesS a != 0) = true from by simp [h0], br_true]
  by_cases h1 : filesS b = 0
  case neg => rw [if_pos h0, if_neg h1, show (filesS b != 0) = true from by simp [h1], show (filesS a != 0) = false from by simp [h0], br_false, br_true]
  rw [if_pos h0, if_pos h1, h0, h1, show ((0 : Int) != 0) = false from rfl, br_false, br_false]
  have oka := (files_iff a).1 h0
  have okb := (files_iff b).1 h1
  have hsm : ∀ l ∈ [a, b], l.length ≤ 1000 ∧ ∀ x ∈ l, x.1.length ≤ 1000 := fun l hl => by
    rcases List.mem_cons.1 hl with rfl | hl
    · exact oka.small
    · rw [List.mem_singleton.1 hl]; exact okb.small
  rw [byPath_eq hN a (by have := oka.len; omega), bnd_some, byPath_eq hN b (by have := okb.len; omega), bnd_some, paths_eq hN _ (by simp) hsm, bnd_some]
  have hps := pathsS_len (ls := [a, b]) (by simp) fun l hl => (hsm l hl).1
  generalize pathsS [a, b] = ps at hps ⊢
  refine steps_loop (S := Int × List (Str × Int)) ps.length (fun i => ((i : Int), chgL a b (ps.take i))) (f := fun n s => blob_Changes_L0 N (ps.length : Int) (mapF a) (mapF b) ps (fun o => some (0, o)) n s.1 s.2) (z := some (0, chgL a b ps)) (fun n i hi => ?_) (fun n => ?_) N (by omega)
  · show blob_Changes_L0T N _ (mapF a) (mapF b) ps _ (blob_Changes_L0 N _ _ _ ps _ n) (i : Int) _ = blob_Changes_L0 N _ _ _ ps _ n ((i + 1 : Nat) : Int) (chgL a b (ps.take (i + 1)))
    have hw : IntKind.i64.wrap ((i : Int) + 1) = ((i + 1 : Nat) : Int) := by rw [wrap_id (by omega) (by omega)]; omega
    have hlen := chgL_len a b (ps.take i)
    rw [List.length_take] at hlen
    have hsz : ∀ z : Str × Int, ((chgL a b (ps.take i)).length + [z].length) * (24 * Ty.sz (.pr .str (.int .i64))) ≤ 140737488355328 := fun z => by rw [List.length_singleton]; show _ * (24 * 2) ≤ _; omega
    unfold blob_Changes_L0T
    rw [br_pos (by omega : (i : Int) < (ps.length : Int)), geti_lt ps hi, bnd_some, hw, mapF_get oka.ok.asc, mapF_get okb.ok.asc, chgL_take a b hi, br_pos (hsz _), br_pos (hsz _), br_pos (hsz _), br_pos (hsz _)]
    unfold chg
    cases ha : findF a ps[i] with
    | none => simp
    | some x =>
      cases hb : findF b ps[i] with
      | none => simp
      | some y =>
        simp only [Option.isSome_some, Bool.not_true, br_false, Option.getD_some]
        by_cases e1 : x.2.2 = y.2.2
        · have b1 : (x.2.2 == y.2.2) = true := by rw [e1]; exact beq_self_eq_true _
          by_cases e2 : x.2.1 = y.2.1
          · have b2 : (x.2.1 != y.2.1) = false := by rw [e2]; exact bne_self_eq_false _
            rw [if_pos e1, if_pos e2, b1, b2]; simp
          · rw [if_pos e1, if_neg e2, b1, bne_iff_ne.2 e2]; simp
        · rw [if_neg e1, beq_eq_false_iff_ne.2 e1]; simp
  · show blob_Changes_L0T N _ _ _ ps _ _ (ps.length : Int) _ = _
    unfold blob_Changes_L0T
    rw [br_neg (by omega), List.take_length]
theorem changesS_len (a b : List FileT) : (changesS a b).2.length ≤ 3000 := by
  unfold changesS
  split
  · rename_i h1
    split
    · rename_i h2
      refine Nat.le_trans (chgL_len a b _) (pathsS_len (by simp) fun l hl => ?_)
      rcases List.mem_cons.1 hl with rfl | hl
      · exact ((files_iff _).1 h1).len
      · rw [List.mem_singleton.1 hl]; exact ((files_iff _).1 h2).len
    · exact Nat.zero_le _
  · exact Nat.zero_le _
end Go.Proofs.YthlkidohpiebiaaDoor


/- Changes the other way round (law 22), in plain Lean. -/
namespace Go.Proofs.YthlkidohpiebiaaDoor
set_option linter.unusedVariables false
set_option linter.unusedSimpArgs false
open Go Go.RowKit
theorem SameFile_eq {N : Nat} (x y : FileT) : ref1_SameFile N x y = some (decide (x = y)) := by
  obtain ⟨x1, x2, x3⟩ := x
  obtain ⟨y1, y2, y3⟩ := y
  unfold ref1_SameFile bytes_Equal
  dsimp only
  rw [bnd_some]
  by_cases h1 : x1 = y1
  · by_cases h2 : x2 = y2
    · by_cases h3 : x3 = y3
      · subst h1 h2 h3; simp
      · rw [beq_iff_eq.2 h1, beq_iff_eq.2 h2, beq_eq_false_iff_ne.2 h3, decide_eq_false (by simp [h3])]; simp
    · rw [beq_iff_eq.2 h1, beq_eq_false_iff_ne.2 h2, decide_eq_false (by simp [h2])]; simp
  · rw [beq_eq_false_iff_ne.2 h1, decide_eq_false (by simp [h1])]; simp
theorem SameFiles_eq {N : Nat} (hN : big ≤ N) (a b : List FileT) (ha : a.length ≤ 1000000) : ref1_SameFiles N a b = some (decide (a = b)) := by
  have hb : (18446744073709551616 : Nat) ≤ N := hN
  unfold ref1_SameFiles
  by_cases hl : a.length = b.length
  case neg =>
    rw [show ((a.length : Int) != (b.length : Int)) = true from by rw [bne_iff_ne]; omega, br_true, decide_eq_false (fun e => hl (by rw [e]))]
  rw [show ((a.length : Int) != (b.length : Int)) = false from by simp [hl], br_false]
  refine (exit_loop (S := Int) a.length (fun i => (i : Int)) (fun i => if (!decide (a[i]? = b[i]?)) = true then some (some false) else none) (f := fun n s => ref1_SameFiles_L0 N a b (some true) n s) (r := some true) (fun n i hi => ?_) (fun n => ?_) N (by omega)).trans ?_
  · show ref1_SameFiles_L0T N a b _ (ref1_SameFiles_L0 N a b _ n) (i : Int) = _
    have hw : IntKind.i64.wrap ((i : Int) + 1) = ((i + 1 : Nat) : Int) := by rw [wrap_id (by omega) (by omega)]; omega
    have hi2 : i < b.length := by omega
    unfold ref1_SameFiles_L0T
    rw [br_pos (by omega : (i : Int) < (a.length : Int)), geti_lt a hi, bnd_some, geti_lt b hi2, bnd_some, SameFile_eq, bnd_some, hw, List.getElem?_eq_getElem hi, List.getElem?_eq_getElem hi2]
    by_cases e : a[i] = b[i]
    · simp [e]
    · simp [e]
  · show ref1_SameFiles_L0T N a b _ _ (a.length : Int) = _
    unfold ref1_SameFiles_L0T
    rw [br_neg (by omega)]
  · rw [exits_any]
    by_cases e : a = b
    · subst e
      rw [if_neg (by simp), decide_eq_true rfl]
    · rw [if_pos, decide_eq_false e]
      rw [List.any_eq_true]
      apply Classical.byContradiction
      intro hno
      apply e
      apply List.ext_getElem?
      intro i
      by_cases hi : i < a.length
      · apply Classical.byContradiction
        intro h
        exact hno ⟨i, by simpa using hi, by simp [h]⟩
      · rw [List.getElem?_eq_none (by omega), List.getElem?_eq_none (by omega)]
/-- A change, turned. -/
def turnC (z : Str × Int) : Str × Int := (z.1, if z.2 = 1 then 2 else if z.2 = 2 then 1 else z.2)
theorem chg_turn {a b : List FileT} {p : Str} (h : p ∈ pathsOf a ∨ p ∈ pathsOf b) : chg b a p = (chg a b p).map turnC := by
  unfold chg
  cases ha : findF a p with
  | none =>
    cases hb : findF b p with
    | none => exact absurd h (fun h => h.elim (findF_none.1 ha) (findF_none.1 hb))
    | some y => rfl
  | some x =>
    cases hb : findF b p with
    | none => rfl
    | some y =>
      dsimp only
      by_cases e1 : x.2.2 = y.2.2
      · by_cases e2 : x.2.1 = y.2.1
        · rw [if_pos e1, if_pos e2, if_pos e1.symm, if_pos e2.symm]; rfl
        · rw [if_pos e1, if_neg e2, if_pos e1.symm, if_neg (Ne.symm e2)]; rfl
      · rw [if_neg e1, if_neg (Ne.symm e1)]; rfl
theorem mem_pathsS {ls : List (List FileT)} {p : Str} : p ∈ pathsS ls ↔ ∃ l ∈ ls, p ∈ pathsOf l := by
  unfold pathsS
  rw [mem_sortN, List.mem_flatMap]
theorem mem_two {a b : List FileT} {p : Str} : p ∈ pathsS [a, b] ↔ p ∈ pathsOf a ∨ p ∈ pathsOf b := by
  rw [mem_pathsS]; simp
theorem pathsS_swap (a b : List FileT) : pathsS [b, a] = pathsS [a, b] := by
  refine sortN_of (sortN_asc _) fun x => ?_
  show x ∈ pathsS [b, a] ↔ _
  rw [mem_two, or_comm]
  simp
theorem chgL_turn {a b : List FileT} : ∀ {ps : List Str}, (∀ p ∈ ps, p ∈ pathsOf a ∨ p ∈ pathsOf b) → chgL b a ps = (chgL a b ps).map turnC
  | [], _ => rfl
  | p :: ps, h => by
    have ih := chgL_turn (a := a) (b := b) (ps := ps) fun q hq => h q (List.mem_cons_of_mem _ hq)
    unfold chgL at ih ⊢
    rw [List.filterMap_cons, List.filterMap_cons, chg_turn (h p (by simp)), ih]
    cases chg a b p <;> rfl
theorem chg_none {a b : List FileT} {p : Str} : chg a b p = none ↔ ∃ x y, findF a p = some x ∧ findF b p = some y ∧ x.2 = y.2 := by
  unfold chg
  cases ha : findF a p with
  | none => simp
  | some x =>
    cases hb : findF b p with
    | none => simp
    | some y =>
      dsimp only
      constructor
      · intro h
        split at h
        · rename_i e1
          split at h
          · rename_i e2
            exact ⟨x, y, rfl, rfl, Prod.ext e2 e1⟩
          · cases h
        · cases h
      · rintro ⟨_, _, h1, h2, h3⟩
        cases h1; cases h2
        rw [if_pos (by rw [h3]), if_pos (by rw [h3])]
theorem chgL_nil {a b : List FileT} (oka : Asc a) (okb : Asc b) : chgL a b (pathsS [a, b]) = [] ↔ a = b := by
  unfold chgL
  rw [List.filterMap_eq_nil_iff]
  constructor
  · intro h
    have key : ∀ p, p ∈ pathsOf a ∨ p ∈ pathsOf b → ∃ x y, findF a p = some x ∧ findF b p = some y ∧ x.2 = y.2 := fun p hp => chg_none.1 (h p (mem_two.2 hp))
    refine Asc.ext oka okb fun x => ⟨fun hx => ?_, fun hx => ?_⟩
    · obtain ⟨x', y, h1, h2, h3⟩ := key x.1 (.inl (List.mem_map.2 ⟨x, hx, rfl⟩))
      rw [findF_of oka hx] at h1
      cases h1
      obtain ⟨h4, h5⟩ := findF_some h2
      have : x = y := Prod.ext h5.symm h3
      rw [this]; exact h4
    · obtain ⟨x', y, h1, h2, h3⟩ := key x.1 (.inr (List.mem_map.2 ⟨x, hx, rfl⟩))
      rw [findF_of okb hx] at h2
      cases h2
      obtain ⟨h4, h5⟩ := findF_some h1
      have : x = x' := Prod.ext h5.symm h3.symm
      rw [this]; exact h4
  · rintro rfl p hp
    rw [mem_two, or_self] at hp
    cases h : findF a p with
    | none => exact absurd hp (findF_none.1 h)
    | some x => exact chg_none.2 ⟨x, x, h, h, rfl⟩
theorem eqb_pair (x y : Str × Int) : eqb (.pr .str (.int .i64)) x y = decide (x = y) := by
  obtain ⟨x1, x2⟩ := x
  obtain ⟨y1, y2⟩ := y
  show ((x1 == y1) && (x2 == y2)) = _
  by_cases h1 : x1 = y1
  · by_cases h2 : x2 = y2
    · subst h1 h2; simp
    · rw [beq_eq_false_iff_ne.2 h2, decide_eq_false (by simp [h2])]; simp
  · rw [beq_eq_false_iff_ne.2 h1, decide_eq_false (by simp [h1])]; simp
theorem plain_BlobChangesTurn (a b : List FileT) (_ : Fit (.sl (.pr .str (.pr .bool (.sl .u8)))) a) (_ : Fit (.sl (.pr .str (.pr .bool (.sl .u8)))) b) : ∃ N, law1_BlobChangesTurn N a b = some true := by
  obtain ⟨N, hN⟩ : ∃ N, big ≤ N := ⟨big, Nat.le_refl _⟩
  refine ⟨N, ?_⟩
  have hbN : (18446744073709551616 : Nat) ≤ N := hN
  unfold law1_BlobChangesTurn
  rw [blob_Changes_eq hN, bnd_some, blob_Changes_eq hN b a]
  have none' : ∀ f : Int, f ≠ 0 → ∀ y, br (f != 0) (br (((([] : List (Str × Int)).length : Nat) : Int) == 0) (bnd (law1_awake N) fun t22 => some t22) (some false)) y = some true := fun f hf y => by
    rw [bne_iff_ne.2 hf, br_true, awake_ok hN]
    simp
  by_cases h0 : filesS a = 0
  case neg =>
    have e : changesS a b = (filesS a, []) := by unfold changesS; rw [if_neg h0]
    rw [e]
    exact none' _ h0 _
  by_cases h1 : filesS b = 0
  case neg =>
    have e : changesS a b = (filesS b, []) := by unfold changesS; rw [if_pos h0, if_neg h1]
    rw [e]
    exact none' _ h1 _
  have oka := (files_iff a).1 h0
  have okb := (files_iff b).1 h1
  have e1 : changesS a b = (0, chgL a b (pathsS [a, b])) := by unfold changesS; rw [if_pos h0, if_pos h1]
  have e2 : changesS b a = (0, (chgL a b (pathsS [a, b])).map turnC) := by
    unfold changesS
    rw [if_pos h0, if_pos h1, pathsS_swap, chgL_turn fun p hp => mem_two.1 hp]
  have hnil := chgL_nil oka.ok.asc okb.ok.asc
  have hlen : (chgL a b (pathsS [a, b])).length ≤ 3000 := by have := changesS_len a b; rw [e1] at this; exact this
  rw [e1, e2, SameFiles_eq hN a b (by have := oka.len; omega)]
  generalize chgL a b (pathsS [a, b]) = x at hnil hlen
  dsimp only
  rw [bnd_some, bnd_some, show ((0 : Int) != 0) = false from rfl, br_false, br_false, List.length_map, show ((x.length : Int) != (x.length : Int)) = false from by simp, br_false]
  have hz : (((x.length : Int) == 0) != decide (a = b)) = false := by
    by_cases e : a = b
    · rw [hnil.2 e, decide_eq_true e]; rfl
    · rw [decide_eq_false e]
      have : x ≠ [] := fun h => e (hnil.1 h)
      have : 0 < x.length := List.length_pos_iff.2 this
      rw [show ((x.length : Int) == 0) = false from by rw [beq_eq_false_iff_ne]; omega]; rfl
  rw [hz, br_false]
  refine steps_loop (S := Int) x.length (fun i => (i : Int)) (f := fun n s => law1_BlobChangesTurn_L0 N x (x.map turnC) (bnd (law1_awake N) fun t72 => some t72) n s) (z := some true) (fun n i hi => ?_) (fun n => ?_) N (by omega)
  · show law1_BlobChangesTurn_L0T N x _ _ (law1_BlobChangesTurn_L0 N x _ _ n) (i : Int) = law1_BlobChangesTurn_L0 N x _ _ n ((i + 1 : Nat) : Int)
    have hw : IntKind.i64.wrap ((i : Int) + 1) = ((i + 1 : Nat) : Int) := by rw [wrap_id (by omega) (by omega)]; omega
    have hg : geti (x.map turnC) (i : Int) = some (turnC x[i]) := by rw [geti_lt _ (by simpa using hi), List.getElem_map]
    unfold law1_BlobChangesTurn_L0T
    rw [br_pos (by omega : (i : Int) < (x.length : Int)), geti_lt x hi, bnd_some, hg, bnd_some, bnd_some, bnd_some, hw, eqb_pair, eqb_pair, eqb_pair]
    unfold turnC
    by_cases k1 : x[i].2 = 1
    · rw [beq_iff_eq.2 k1, br_true, if_pos k1, decide_eq_true rfl]; simp
    · rw [beq_eq_false_iff_ne.2 k1, br_false, if_neg k1]
      by_cases k2 : x[i].2 = 2
      · rw [beq_iff_eq.2 k2, br_true, if_pos k2, decide_eq_true rfl]; simp
      · rw [beq_eq_false_iff_ne.2 k2, br_false, if_neg k2, decide_eq_true rfl]; simp
  · show law1_BlobChangesTurn_L0T N x _ _ _ (x.length : Int) = _
    unfold law1_BlobChangesTurn_L0T
    rw [br_neg (by omega), awake_ok hN, bnd_some]
end Go.Proofs.YthlkidohpiebiaaDoor

