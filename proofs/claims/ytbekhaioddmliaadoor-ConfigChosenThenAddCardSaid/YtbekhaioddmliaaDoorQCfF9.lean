/- What functions of the program compute, as plain functions (printed). -/
import Derived.Test.YtbekhaioddmliaaDoorQCfF5
import Derived.Test.YtbekhaioddmliaaDoorQCfT
import Derived.ProofKit
import Derived.OpenShut
import Derived.ShutString
import Derived.DataReads
import Derived.ChangeShapes
import Derived.WideShapes
import Derived.Test.YtbekhaioddmliaaDoorQFor2
import Derived.KernelRfl
namespace Go.Proofs.YtbekhaioddmliaaDoor
open Go Go.RowKit
set_option maxRecDepth 100000
set_option linter.unusedVariables false
noncomputable section
def slices_Equal_string_string_L0T (_N : Nat) (x0 : List Str) (x1 : List Str) (c12 : Int) (k0 : Option Bool) (self : Int → Option Bool) (s13 : Int) : Option Bool :=
  br (decide (s13 < c12))
    (bnd (geti x0 s13) fun t18 =>
    bnd (geti x1 s13) fun t22 =>
    br (!(t18 == t22))
      (some false)
      (self (IntKind.i64.wrap (s13 + (1 : Int)))))
    (k0)
def slices_Equal_string_string_L0 (N : Nat) (x0 : List Str) (x1 : List Str) (c12 : Int) (k0 : Option Bool) : Nat → Int → Option Bool
  | 0, _ => none
  | n + 1, s13 => slices_Equal_string_string_L0T N x0 x1 c12 k0 (slices_Equal_string_string_L0 N x0 x1 c12 k0 n) s13
def slices_Equal_string_string (N : Nat) (x0 : List Str) (x1 : List Str) : Option Bool :=
  br ((x0.length : Int) != (x1.length : Int))
    (some false)
    (slices_Equal_string_string_L0 N x0 x1 (x0.length : Int) (some true) N (0 : Int))
abbrev slices_Equal_string_string_sg (f : SV [.v (.sl .str), .v (.sl .str)] → BV [] → Option (Bool)) : AF := { ps := [.v (.sl .str), .v (.sl .str)], bs := [], rs := [.v .bool], cs := [], R := Bool, out := fun z => ((z, ()), ()), f := f }
abbrev slices_Equal_string_string_pk : SV [.v .bool] → BV [] → Bool := fun x _ => x.1
def slices_Equal_string_string_fn (_N : Nat) : FuncId → Option Tmp → Option AF := fun f _ =>
  match f with
    | _ => none
theorem slices_Equal_string_string_fn_ok (N : Nat) : ∀ f q F, slices_Equal_string_string_fn N f q = some F → Sound Tryd.prog GW B0G f F := by
  intro f q F h
  unfold slices_Equal_string_string_fn at h
  split at h
  · cases h
def slices_Equal_string_string_h : Nat → Hint := fun i =>
  match i with
  | 0 => ⟨[], [0, 1, 12, 13], [], [], [], []⟩
  | _ => ⟨[], [], [], [], [], []⟩
abbrev slices_Equal_string_string_E (N : Nat) : Env := mkE slices_Equal_string_string_h (slices_Equal_string_string_fn N) (fun _ => false) (fun _ => false)
abbrev slices_Equal_string_string_L0_fs : List (Nat × Sl) := [(0, .v (.sl .str)), (1, .v (.sl .str)), (12, .v (.int .i64)), (13, .v (.int .i64))]
abbrev slices_Equal_string_string_L0_bs : List (Nat × Sb) := []
def slices_Equal_string_string_L0_hd (x0 : List Str) (x1 : List Str) (c12 : Int) (s13 : Int) : St := ⟨26, [(0, .v (.sl .str) x0), (1, .v (.sl .str) x1), (12, .v (.int .i64) c12), (13, .v (.int .i64) s13)], []⟩
def slices_Equal_string_string_L0_tl0 (_x0 : List Str) (_x1 : List Str) (_c12 : Int) : St := ⟨26, [], []⟩
def slices_Equal_string_string_L0_G (N : Nat) (x0 : List Str) (x1 : List Str) (c12 : Int) (s13 : Int) (k : Ex → St → Option Bool) : Option Bool :=
  slices_Equal_string_string_L0 N x0 x1 c12 (k (.exit 0) (slices_Equal_string_string_L0_tl0 x0 x1 c12)) N s13
abbrev slices_Equal_string_string_L0_F (N : Nat) : FV slices_Equal_string_string_L0_fs → HV slices_Equal_string_string_L0_bs → (Ex → St → Option Bool) → Option Bool := fun x _ k => slices_Equal_string_string_L0_G N x.1 x.2.1 x.2.2.1 x.2.2.2.1 k
noncomputable def slices_Equal_string_string_LP (N : Nat) : Nat → Code → St → (Ex → St → Option Bool) → Option Bool := fun i c =>
  match i with
  | 0 => (LPc 26 slices_Equal_string_string_L0_fs slices_Equal_string_string_L0_bs (slices_Equal_string_string_L0_F N) (fun st k => iter (slices_Equal_string_string_h 0) (exec (slices_Equal_string_string_E N) N c 0) N st k))
  | i => fun st k => iter (slices_Equal_string_string_h i) (exec (slices_Equal_string_string_E N) N c i) N st k
theorem slices_Equal_string_string_L0_step (N : Nat) (x0 : List Str) (x1 : List Str) (c12 : Int) (KX : Nat → St → Option Bool) (I : St → Option Bool) (s13 : Int) :
    execL (slices_Equal_string_string_LP N) (slices_Equal_string_string_E N) (cAt (bodyOf Tryd.f31) [true, true, false, true, false, false]) 0 (slices_Equal_string_string_L0_hd x0 x1 c12 s13) (roundK (slices_Equal_string_string_h 0) I KX (resD (slices_Equal_string_string_E N) Tryd.f31 (slices_Equal_string_string_sg fun x _ => slices_Equal_string_string N x.1 x.2.1) slices_Equal_string_string_pk)) = slices_Equal_string_string_L0T N x0 x1 c12 (KX 0 (slices_Equal_string_string_L0_tl0 x0 x1 c12)) (fun s13 => I (slices_Equal_string_string_L0_hd x0 x1 c12 s13)) s13 := by kernel_rfl
theorem slices_Equal_string_string_L0_ok (N : Nat) : ∀ x y k, (∀ st, k .ret st = (resD (slices_Equal_string_string_E N) Tryd.f31 (slices_Equal_string_string_sg fun x _ => slices_Equal_string_string N x.1 x.2.1) slices_Equal_string_string_pk) st) → iter (slices_Equal_string_string_h 0) (exec (slices_Equal_string_string_E N) N (cAt (bodyOf Tryd.f31) [true, true, false, true, false, false]) 0) N ⟨26, unF slices_Equal_string_string_L0_fs x, unH slices_Equal_string_string_L0_bs y⟩ k = slices_Equal_string_string_L0_F N x y k := fun x _ k hk =>
  iter_link (S := (Int) × Unit) (slices_Equal_string_string_h 0) _ (execL (slices_Equal_string_string_LP N) (slices_Equal_string_string_E N) (cAt (bodyOf Tryd.f31) [true, true, false, true, false, false]) 0) (resD (slices_Equal_string_string_E N) Tryd.f31 (slices_Equal_string_string_sg fun x _ => slices_Equal_string_string N x.1 x.2.1) slices_Equal_string_string_pk) (fun st k hk => execL_eq _ _ N _ (cAt (bodyOf Tryd.f31) [true, true, false, true, false, false]) 0 (show LoopsOk (slices_Equal_string_string_LP N) (slices_Equal_string_string_E N) N (resD (slices_Equal_string_string_E N) Tryd.f31 (slices_Equal_string_string_sg fun x _ => slices_Equal_string_string N x.1 x.2.1) slices_Equal_string_string_pk) [] from trivial) st k hk) (fun s => slices_Equal_string_string_L0_hd x.1 x.2.1 x.2.2.1 s.1) k hk
    (fun self s => slices_Equal_string_string_L0T N x.1 x.2.1 x.2.2.1 (k (.exit 0) (slices_Equal_string_string_L0_tl0 x.1 x.2.1 x.2.2.1)) (fun s13 => self (s13, ())) s.1) (fun n s => slices_Equal_string_string_L0 N x.1 x.2.1 x.2.2.1 (k (.exit 0) (slices_Equal_string_string_L0_tl0 x.1 x.2.1 x.2.2.1)) n s.1) (fun _ => rfl) (fun _ _ => rfl)
    (fun I s => slices_Equal_string_string_L0_step N x.1 x.2.1 x.2.2.1 (fun j => k (.exit j)) I s.1) N (x.2.2.2.1, ())
theorem slices_Equal_string_string_lp0 (N : Nat) : ∀ st k, (∀ st, k .ret st = (resD (slices_Equal_string_string_E N) Tryd.f31 (slices_Equal_string_string_sg fun x _ => slices_Equal_string_string N x.1 x.2.1) slices_Equal_string_string_pk) st) → slices_Equal_string_string_LP N 0 (cAt (bodyOf Tryd.f31) [true, true, false, true, false, false]) st k = iter (Env.hint (slices_Equal_string_string_E N) 0) (exec (slices_Equal_string_string_E N) N (cAt (bodyOf Tryd.f31) [true, true, false, true, false, false]) 0) N st k := fun st k hk => LPc_eq 26 slices_Equal_string_string_L0_fs slices_Equal_string_string_L0_bs _ _ (resD (slices_Equal_string_string_E N) Tryd.f31 (slices_Equal_string_string_sg fun x _ => slices_Equal_string_string N x.1 x.2.1) slices_Equal_string_string_pk) (slices_Equal_string_string_L0_ok N) _ st k hk (rfl)
theorem slices_Equal_string_string_core (N : Nat) (x : SV [.v (.sl .str), .v (.sl .str)]) (y : BV []) : runL (slices_Equal_string_string_E N) Tryd.f31 (slices_Equal_string_string_sg fun x _ => slices_Equal_string_string N x.1 x.2.1) slices_Equal_string_string_pk (slices_Equal_string_string_LP N) x y = slices_Equal_string_string N x.1 x.2.1 := by kernel_rfl
theorem slices_Equal_string_string_sound (N : Nat) : Sound Tryd.prog GW B0G 31 (slices_Equal_string_string_sg fun x _ => slices_Equal_string_string N x.1 x.2.1) :=
  runD_sound (mkE_ok slices_Equal_string_string_h (slices_Equal_string_string_fn N) _ _ (slices_Equal_string_string_fn_ok N)) Tryd.func31 rfl Tryd.call31 (slices_Equal_string_string_sg fun x _ => slices_Equal_string_string N x.1 x.2.1) slices_Equal_string_string_pk (fun _ _ => rfl) N (fun x y _ h => ((runL_eq (slices_Equal_string_string_E N) N Tryd.f31 (slices_Equal_string_string_sg fun x _ => slices_Equal_string_string N x.1 x.2.1) slices_Equal_string_string_pk (slices_Equal_string_string_LP N) (show LoopsOk (slices_Equal_string_string_LP N) (slices_Equal_string_string_E N) N (resD (slices_Equal_string_string_E N) Tryd.f31 (slices_Equal_string_string_sg fun x _ => slices_Equal_string_string N x.1 x.2.1) slices_Equal_string_string_pk) [(0, (cAt (bodyOf Tryd.f31) [true, true, false, true, false, false]))] from ⟨slices_Equal_string_string_lp0 N, trivial⟩) x y).trans (slices_Equal_string_string_core N x y)).trans h)
def slices_Clone_string_string (_N : Nat) (x0 : List Str) : Option (List Str) :=
  br ((x0).isEmpty)
    (both
      (some ([] : List Str))
      (br (decide ((([] : List Str).length + x0.length) * (24 * Ty.sz .str) ≤ 140737488355328))
        (some (([] : List Str) ++ x0))
        none))
    (br (decide ((([] : List Str).length + x0.length) * (24 * Ty.sz .str) ≤ 140737488355328))
      (some (([] : List Str) ++ x0))
      none)
abbrev slices_Clone_string_string_sg (f : SV [.v (.sl .str)] → BV [] → Option (List Str)) : AF := { ps := [.v (.sl .str)], bs := [], rs := [.row 0], cs := [.row 9 .str true], R := List Str, out := fun z => (((), ()), (z, ())), f := f }
abbrev slices_Clone_string_string_pk : SV [.row 0] → BV [.row 9 .str true] → (List Str) := fun _ y => y.1
def slices_Clone_string_string_fn (_N : Nat) : FuncId → Option Tmp → Option AF := fun f _ =>
  match f with
    | _ => none
theorem slices_Clone_string_string_fn_ok (N : Nat) : ∀ f q F, slices_Clone_string_string_fn N f q = some F → Sound Tryd.prog GW B0G f F := by
  intro f q F h
  unfold slices_Clone_string_string_fn at h
  split at h
  · cases h
def slices_Clone_string_string_h : Nat → Hint := fun i =>
  match i with
  | _ => ⟨[], [], [], [], [], []⟩
abbrev slices_Clone_string_string_E (N : Nat) : Env := mkE slices_Clone_string_string_h (slices_Clone_string_string_fn N) (fun i => match i with | 2 => true | 5 => true | _ => false) (fun _ => false)
noncomputable def slices_Clone_string_string_LP (N : Nat) : Nat → Code → St → (Ex → St → Option (List Str)) → Option (List Str) := fun i c =>
  match i with
  | i => fun st k => iter (slices_Clone_string_string_h i) (exec (slices_Clone_string_string_E N) N c i) N st k
theorem slices_Clone_string_string_core (N : Nat) (x : SV [.v (.sl .str)]) (y : BV []) : runL (slices_Clone_string_string_E N) Tryd.f33 (slices_Clone_string_string_sg fun x _ => slices_Clone_string_string N x.1) slices_Clone_string_string_pk (slices_Clone_string_string_LP N) x y = slices_Clone_string_string N x.1 := by kernel_rfl
theorem slices_Clone_string_string_sound (N : Nat) : Sound Tryd.prog GW B0G 33 (slices_Clone_string_string_sg fun x _ => slices_Clone_string_string N x.1) :=
  runD_sound (mkE_ok slices_Clone_string_string_h (slices_Clone_string_string_fn N) _ _ (slices_Clone_string_string_fn_ok N)) Tryd.func33 rfl Tryd.call33 (slices_Clone_string_string_sg fun x _ => slices_Clone_string_string N x.1) slices_Clone_string_string_pk (fun _ _ => rfl) N (fun x y _ h => ((runL_eq (slices_Clone_string_string_E N) N Tryd.f33 (slices_Clone_string_string_sg fun x _ => slices_Clone_string_string N x.1) slices_Clone_string_string_pk (slices_Clone_string_string_LP N) (show LoopsOk (slices_Clone_string_string_LP N) (slices_Clone_string_string_E N) N (resD (slices_Clone_string_string_E N) Tryd.f33 (slices_Clone_string_string_sg fun x _ => slices_Clone_string_string N x.1) slices_Clone_string_string_pk) [] from trivial) x y).trans (slices_Clone_string_string_core N x y)).trans h)
end
end Go.Proofs.YtbekhaioddmliaaDoor


/- The arguments of a law, as the statement's reading hands them over, as data of the machine: any type. -/
namespace Go.Proofs.YtbekhaioddmliaaDoor
set_option linter.unusedVariables false
set_option linter.unusedSimpArgs false
open Go Go.RowKit Go.ChangeShapes Go.WideShapes
/-- Nothing is longer than Go lets it be. -/
def FitG (RR : (i : RC) → i.den → Prop) : (t : Ty) → t.den → Prop
  | .u8, _ => True
  | .int k, x => (Lit.int k x).wf = true
  | .bool, _ => True
  | .str, x => x.length ≤ maxLen
  | .sl t, xs => xs.length ≤ maxLen ∧ ∀ x ∈ xs, FitG RR t x
  | .pr a b, x => FitG RR a x.1 ∧ FitG RR b x.2
  | .un, _ => True
  | .mp _, _ => True
  | .ptr _, _ => True
  | .np _, _ => True
  | .clo _ _, _ => True
  | .rc i, x => RR i x
def FitR (i : RC) (x : i.den) : Prop := ∀ RR : (i : RC) → i.den → Prop, (∀ j y, FitG RR j.body (j.un y) → RR j y) → RR i x
def Fit : (t : Ty) → t.den → Prop := FitG FitR
theorem FitG.mono {RR RR' : (i : RC) → i.den → Prop} (hR : ∀ i x, RR i x → RR' i x) : ∀ (t : Ty) (x : t.den), FitG RR t x → FitG RR' t x
  | .u8, _, h => h
  | .int _, _, h => h
  | .bool, _, h => h
  | .str, _, h => h
  | .sl t, _, h => ⟨h.1, fun x hx => FitG.mono hR t x (h.2 x hx)⟩
  | .pr a b, _, h => ⟨FitG.mono hR a _ h.1, FitG.mono hR b _ h.2⟩
  | .un, _, h => h
  | .mp _, _, h => h
  | .ptr _, _, h => h
  | .np _, _, h => h
  | .clo _ _, _, h => h
  | .rc i, x, h => hR i x h
theorem FitR.intro {i : RC} {x : i.den} (h : Fit i.body (i.un x)) : FitR i x :=
  fun RR hc => hc i x (FitG.mono (fun j y hy => hy RR hc) _ _ h)
theorem FitR.elim {i : RC} {x : i.den} (h : FitR i x) : Fit i.body (i.un x) :=
  h (fun j y => Fit j.body (j.un y)) fun _ _ hy => FitG.mono (fun _ _ h => FitR.intro h) _ _ hy
mutual
/-- A type of the program is this one, down to its parts. -/
inductive Deep (P : Program) (R : RC → Option TypeId) : Ty → TypeId → Prop where
  | u8 {T : TypeId} : P.underlying T = some (.int .u8) → Deep P R .u8 T
  | int {T : TypeId} {k : IntKind} : P.underlying T = some (.int k) → Deep P R (.int k) T
  | bool {T : TypeId} : P.underlying T = some .bool → Deep P R .bool T
  | str {T : TypeId} : P.underlying T = some .string → Deep P R .str T
  | sl {T e : TypeId} {t : Ty} : P.underlying T = some (.slice e) → P.cellsOf e = t.sz → Deep P R t e → Deep P R (.sl t) T
  | st {T : TypeId} {t : Ty} {fs : Array Field} : P.underlying T = some (.struct fs) → P.cellsOf T = t.sz → t.isAgg = true → DeepF P R t fs.toList 0 → Deep P R t T
  | rc {T : TypeId} {i : RC} : R i = some T → Deep P R (.rc i) T
/-- The same, of fields from a place on. -/
inductive DeepF (P : Program) (R : RC → Option TypeId) : Ty → List Field → Nat → Prop where
  | nil {o : Nat} : DeepF P R .un [] o
  | one {t : Ty} {f : Field} {o : Nat} : f.offset = o → P.cellsOf f.type = t.sz → Deep P R t f.type → DeepF P R t [f] o
  | single {t : Ty} {f : Field} {o : Nat} : f.offset = o → P.cellsOf f.type = t.sz → Deep P R t f.type → DeepF P R (.pr t .un) [f] o
  | cons {a b : Ty} {f : Field} {fs : List Field} {o : Nat} : f.offset = o → P.cellsOf f.type = a.sz → Deep P R a f.type → DeepF P R b fs (o + a.sz) → DeepF P R (.pr a b) (f :: fs) o
end
def RcOk (P : Program) (R : RC → Option TypeId) : Prop := ∀ i T, R i = some T → ∃ fs, P.underlying T = some (.struct fs) ∧ P.cellsOf T = i.sz ∧ DeepF P R i.body fs.toList 0
abbrev M00 : Nat → Nat → Prop := fun _ _ => False
section
variable {H : Type} {enc : TypeId × Value → H} {P : Program} {w : World} {spare : Nat → Bool} {held : Bool} {R : RC → Option TypeId}
theorem choose_list {α : Type} {p : Nat → α → Prop} : ∀ n, (∀ i, i < n → ∃ x, p i x) → ∃ l : List α, l.length = n ∧ ∀ i (h : i < l.length), p i l[i]
  | 0, _ => ⟨[], rfl, fun i h => absurd h (Nat.not_lt_zero _)⟩
  | n + 1, h => by
    obtain ⟨l, hl, hp⟩ := choose_list n fun i hi => h i (Nat.lt_succ_of_lt hi)
    obtain ⟨x, hx⟩ := h n (Nat.lt_succ_self _)
    refine ⟨l ++ [x], by simp [hl], fun i hi => ?_⟩
    rcases Nat.lt_or_ge i l.length with h' | h'
    · rw [List.getElem_append_left h']; exact hp i h'
    · have : i = l.length := by simp at hi; omega
      subst this
      simp [hl, hx]
theorem pl_of_cells {a : Addr} {n : Nat} {cs : List Value} (h : w.cells? 0 a n = some cs) : Pl M00 w a cs := by
  intro j u hu
  refine ⟨?_, id⟩
  unfold World.cells? at h
  rw [if_pos (Nat.zero_le _)] at h
  have hl := mapM_some_length h
  have hj : j < n := by
    rcases Nat.lt_or_ge j cs.length with h' | h'
    · rw [hl, List.length_range] at h'; exact h'
    · rw [List.getElem?_eq_none h'] at hu; cases hu
  have := mapM_some_get h j j (by rw [List.getElem?_range hj])
  rw [this]; exact hu
/-- What fields read as. -/
theorem fields_rep {fuel : Nat} {cs : List Value}
    (ih : ∀ (t : Ty) (T : TypeId) (cs : List Value) (x : DataW H × List MemPlace), Deep P R t T → DataW.trod enc P w 0 spare held fuel T cs = some x → ∃ d : t.den, RepC M00 w t d cs ∧ Fit t d) :
    ∀ (fs : List Field) (t : Ty) (o : Nat) (xs : List (DataW H × List MemPlace)), DeepF P R t fs o →
      (fs.mapM fun f => DataW.trod enc P w 0 spare held fuel f.type ((cs.drop f.offset).take (P.cellsOf f.type))) = some xs → ∃ d : t.den, RepC M00 w t d ((cs.drop o).take t.sz) ∧ Fit t d := by
  intro fs
  induction fs with
  | nil =>
    intro t o xs hd _
    cases hd
    exact ⟨(), List.take_zero, trivial⟩
  | cons f fs hfs =>
    intro t o xs hd hm
    have hhead : ∃ y, DataW.trod enc P w 0 spare held fuel f.type ((cs.drop f.offset).take (P.cellsOf f.type)) = some y := by
      have := mapM_some_get hm 0 f rfl
      cases hx : xs[0]? with
      | none =>
        have hl := mapM_some_length hm
        rw [List.getElem?_eq_none_iff] at hx
        simp at hl; omega
      | some y => exact ⟨y, this.trans hx⟩
    have htail : ∃ ys, (fs.mapM fun f => DataW.trod enc P w 0 spare held fuel f.type ((cs.drop f.offset).take (P.cellsOf f.type))) = some ys := by
      rw [List.mapM_cons] at hm
      obtain ⟨y, hy⟩ := hhead
      rw [hy] at hm
      cases hys : (fs.mapM fun f => DataW.trod enc P w 0 spare held fuel f.type ((cs.drop f.offset).take (P.cellsOf f.type))) with
      | none => rw [hys] at hm; cases hm
      | some ys => exact ⟨ys, rfl⟩
    obtain ⟨y, hy⟩ := hhead
    obtain ⟨ys, hys⟩ := htail
    cases hd with
    | one ho hc h1 =>
      rw [ho, hc] at hy
      exact ih _ _ _ _ h1 hy
    | single ho hc h1 =>
      rw [ho, hc] at hy
      obtain ⟨d, hd1, hd2⟩ := ih _ _ _ _ h1 hy
      exact ⟨(d, ()), ⟨_, [], (List.append_nil _).symm, hd1, rfl⟩, hd2, trivial⟩
    | @cons a b _ _ _ ho hc h1 h2 =>
      rw [ho, hc] at hy
      obtain ⟨d, hd1, hd2⟩ := ih _ _ _ _ h1 hy
      obtain ⟨e, he1, he2⟩ := hfs _ _ _ h2 hys
      refine ⟨(d, e), ⟨_, _, ?_, hd1, he1⟩, hd2, he2⟩
      show (cs.drop o).take (a.sz + b.sz) = _
      rw [List.take_add, List.drop_drop]
theorem trod_rep (hR : RcOk P R) : ∀ (fuel : Nat) (t : Ty) (T : TypeId) (cs : List Value) (x : DataW H × List MemPlace), Deep P R t T → DataW.trod enc P w 0 spare held fuel T cs = some x →
    ∃ d : t.den, RepC M00 w t d cs ∧ Fit t d := by
  intro fuel
  induction fuel with
  | zero => intro t T cs x _ h; cases h
  | succ fuel ih =>
    intro t T cs x hd h
    have hstruct : ∀ (t : Ty) (fs : Array Field), P.underlying T = some (.struct fs) → P.cellsOf T = t.sz → DeepF P R t fs.toList 0 → ∃ d : t.den, RepC M00 w t d cs ∧ Fit t d := fun t fs hu hc hf => by
      unfold DataW.trod at h
      simp only [hu] at h
      split at h
      · rename_i hl
        cases hm : (fs.toList.mapM fun f => DataW.trod enc P w 0 spare held fuel f.type ((cs.drop f.offset).take (P.cellsOf f.type))) with
        | none => rw [hm] at h; cases h
        | some xs =>
          obtain ⟨d, h1, h2⟩ := fields_rep ih fs.toList t 0 xs hf hm
          rw [List.drop_zero, List.take_of_length_le (by omega)] at h1
          exact ⟨d, h1, h2⟩
      · cases h
    cases hd with
    | u8 hu =>
      have hx : ∃ n, cs = [.int .u8 n] ∧ (Lit.int .u8 n).wf = true := by
        unfold DataW.trod at h
        split at h <;> simp_all
      obtain ⟨n, rfl, hn⟩ := hx
      refine ⟨UInt8.ofNat n.toNat, ?_, trivial⟩
      show [Value.int .u8 n] = [Value.int .u8 (UInt8.ofNat n.toNat).toNat]
      simp [Lit.wf, IntKind.min, IntKind.max, IntKind.signed, IntKind.bits] at hn
      have : ((UInt8.ofNat n.toNat).toNat : Int) = n := by simp; omega
      rw [this]
    | @int _ k hu =>
      have hx : ∃ n, cs = [.int k n] ∧ (Lit.int k n).wf = true := by
        unfold DataW.trod at h
        split at h <;> simp_all
      obtain ⟨n, rfl, hn⟩ := hx
      exact ⟨n, rfl, hn⟩
    | bool hu =>
      have hx : ∃ b, cs = [.bool b] := by
        unfold DataW.trod at h
        split at h <;> simp_all
      obtain ⟨b, rfl⟩ := hx
      exact ⟨b, rfl, trivial⟩
    | str hu =>
      have hx : ∃ s : ByteArray, cs = [.string s] ∧ s.size ≤ maxLen := by
        unfold DataW.trod at h
        split at h <;> simp_all
      obtain ⟨s, rfl, hn⟩ := hx
      refine ⟨s.data.toList, ?_, ?_⟩
      · show [Value.string s] = [Value.string ⟨s.data.toList.toArray⟩]
        simp
      · show s.data.toList.length ≤ maxLen
        simpa using hn
    | @sl _ e t hu hc he =>
      have hx : cs = [.slice none 0 0] ∨ ∃ a len cap, cs = [.slice (some a) len cap] ∧ len ≤ cap ∧ cap ≤ maxLen ∧
          ∀ i, i < len → ∃ y, (w.cells? 0 (a.add (i * P.cellsOf e)) (P.cellsOf e)).bind (DataW.trod enc P w 0 spare held fuel e) = some y := by
        unfold DataW.trod at h
        split at h
        all_goals try (simp_all; done)
        · rename_i hu2
          rw [hu] at hu2
          cases hu2
          simp only at h
          split at h
          · rename_i hb
            right
            refine ⟨_, _, _, rfl, hb.2.1, hb.2.2, fun i hi => ?_⟩
            cases hm : ((List.range _).mapM fun i => (w.cells? 0 (Addr.add _ (i * P.cellsOf e)) (P.cellsOf e)).bind (DataW.trod enc P w 0 spare held fuel e)) with
            | none => rw [hm] at h; cases h
            | some ys =>
              have h1 := mapM_some_get hm i i (by rw [List.getElem?_range hi])
              have hl := mapM_some_length hm
              rw [List.length_range] at hl
              exact ⟨ys[i]'(by omega), h1.trans (List.getElem?_eq_getElem (by omega))⟩
          · cases h
      rcases hx with rfl | ⟨a, len, cap, rfl, h1, h2, h3⟩
      · exact ⟨[], ⟨none, 0, rfl, Nat.le_refl _, Nat.zero_le _, fun i h => absurd h (Nat.not_lt_zero _)⟩, Nat.zero_le _, fun x h => by cases h⟩
      · have hall : ∀ i, i < len → ∃ d : t.den, (∃ es, RepC M00 w t d es ∧ Pl M00 w (a.add (i * t.sz)) es) ∧ Fit t d := fun i hi => by
          obtain ⟨y, hy⟩ := h3 i hi
          rw [hc] at hy
          cases hcs : w.cells? 0 (a.add (i * t.sz)) t.sz with
          | none => rw [hcs] at hy; cases hy
          | some es =>
            rw [hcs] at hy
            obtain ⟨d, hd1, hd2⟩ := ih _ _ _ _ he hy
            exact ⟨d, ⟨es, hd1, pl_of_cells hcs⟩, hd2⟩
        obtain ⟨l, hl, hp⟩ := choose_list len hall
        refine ⟨l, ⟨some a, cap, ?_, by omega, h2, fun i hi => ?_⟩, ?_, fun x hx => ?_⟩
        · rw [hl]
        · obtain ⟨⟨es, e1, e2⟩, _⟩ := hp i hi
          exact ⟨a, es, rfl, e1, e2⟩
        · show l.length ≤ maxLen; omega
        · obtain ⟨i, hi, rfl⟩ := List.getElem_of_mem hx
          exact (hp i hi).2
    | st hu hc ha hf => exact hstruct t _ hu hc hf
    | rc hr =>
      obtain ⟨fs, hu, hc, hf⟩ := hR _ _ hr
      rename_i i
      obtain ⟨d, h1, h2⟩ := hstruct i.body fs hu (by rw [hc, RC.sz_body]) hf
      refine ⟨i.mk d, RepC.rc.2 (by rw [RC.un_mk]; exact h1), FitR.intro (by rw [RC.un_mk]; exact h2)⟩
/-- An argument. -/
theorem arg_open (hR : RcOk P R) {r : Reach} {base : Nat} {t : Ty} {T : TypeId} {v : Value} {d : DataW H} {p : List MemPlace} (hd : Deep P R t T) (hv : Value.okWide P w r base T v) (h : DataW.Trod enc P w 0 spare held T v d p) :
    ∃ x : t.den, RepV M00 w t x v ∧ Fit t x := by
  obtain ⟨fuel, hf⟩ := h
  obtain ⟨x, h1, h2⟩ := trod_rep hR fuel t T _ _ hd hf
  refine ⟨x, ⟨_, h1, ?_⟩, h2⟩
  have hagg : ∀ fs, P.underlying T = some (.struct fs) → t.isAgg = true → v = mkV t v.cells.toList := fun fs hu ha => by
    obtain ⟨cs, rfl, _⟩ := okWide_struct hu hv
    rw [mkV_agg ha]
    simp [Value.cells]
  have hone : ∀ c : Value, v = c → c.cells = #[c] → t.isAgg = false → v = mkV t v.cells.toList := fun c e hc ha => by
    subst e
    rw [hc, mkV_plain ha]
  cases hd with
  | u8 hu => obtain ⟨n, rfl⟩ := okWide_int hu hv; exact hone _ rfl rfl rfl
  | int hu => obtain ⟨n, rfl⟩ := okWide_int hu hv; exact hone _ rfl rfl rfl
  | bool hu => obtain ⟨n, rfl⟩ := okWide_bool hu hv; exact hone _ rfl rfl rfl
  | str hu => obtain ⟨n, rfl⟩ := okWide_string hu hv; exact hone _ rfl rfl rfl
  | sl hu _ _ => obtain ⟨a, l, c, rfl⟩ := okWide_slice hu hv; exact hone _ rfl rfl rfl
  | st hu _ ha _ => exact hagg _ hu ha
  | rc hr => obtain ⟨fs, hu, _⟩ := hR _ _ hr; exact hagg _ hu rfl
end
/-- A law is called. -/
theorem law_run {P : Program} {f : FuncId} {ps : List Sl} {F : SV ps → BV [] → Option Bool} {out : Bool → SV [.v .bool] × BV []} (hout : ∀ z, (out z).1 = (z, ())) (hs : Sound P GW B0G f ⟨ps, [], [.v .bool], [], Bool, out, F⟩)
    {W : World} {vs : List Value} {x : SV ps} (hg : GW W) (ha : All2 (RepD0 M00 W g0) (lays id ps x) vs) (hf : F x () = some true) : Calls P f vs.toArray W fun e W' => e = .returned (.bool true) ∧ Ext W W' := by
  refine (hs.2 M00 W g0 vs x () true hg (GW_size hg) { args := ha, res := fun r blk h => (by cases h), dom := fun r gx h => (by cases h), inj := fun _ _ _ _ _ h => (by cases h), low := fun _ _ _ h => (by cases h), chg := fun _ _ _ _ h => (by cases h), mlt := fun b o h => h.elim, row := fun _ _ _ h => (by cases h) } hf).mono fun e W' hp => ?_
  obtain ⟨vs', g', he, hE, _, hF, _⟩ := hp
  refine ⟨?_, hE.ext fun b hb => ?_⟩
  · have := hF.args
    rw [hout] at this
    match vs', this with
    | [v], ⟨h1, _⟩ =>
      have h2 := RepV.plain (t := .bool) rfl h1
      have h3 : [v] = [.bool true] := h2
      injection h3 with h3
      rw [he, h3]
      rfl
  · obtain ⟨r, x, h, _⟩ := hb
    cases h
end Go.Proofs.YtbekhaioddmliaaDoor


/- What the checks of settings and configurations compute. No program in sight. -/
namespace Go.Proofs.YtbekhaioddmliaaDoor
set_option linter.unusedVariables false
set_option linter.unusedSimpArgs false
open Go Go.RowKit
variable {N : Nat}
/-- A byte of a word. -/
def wordB (b : UInt8) : Bool := [97, 98, 99, 100, 101, 102, 103, 104, 105, 106, 107, 108, 109, 110, 111, 112, 113, 114, 115, 116, 117, 118, 119, 120, 121, 122, 48, 49, 50, 51, 52, 53, 54, 55, 56, 57, 95, 45].contains b
def isWordS (s : Str) : Bool := match s with
  | [] => false
  | b :: _ => decide (s.length ≤ 40) && decide (97 ≤ b.toNat) && decide (b.toNat ≤ 122) && s.all wordB
theorem dropWhile_nil {α : Type} {p : α → Bool} : ∀ {l : List α}, l.dropWhile p = [] ↔ l.all p = true
  | [] => by simp
  | x :: l => by
    cases h : p x with
    | true => rw [List.dropWhile_cons_of_pos h]; simp [dropWhile_nil, h]
    | false => rw [List.dropWhile_cons_of_neg (by simp [h])]; simp [h]
theorem all_reverse {α : Type} (p : α → Bool) (l : List α) : l.reverse.all p = l.all p := by simp
theorem all_dropWhile {α : Type} (p : α → Bool) : ∀ l : List α, (l.dropWhile p).all p = l.all p
  | [] => rfl
  | x :: l => by
    cases h : p x with
    | true => rw [List.dropWhile_cons_of_pos h]; simp [all_dropWhile p l, h]
    | false => rw [List.dropWhile_cons_of_neg (by simp [h])]
theorem trimS_nil (s cs : Str) : (Lib.trimS s cs == []) = s.all (cs.contains ·) := by
  have h : Lib.trimS s cs = [] ↔ s.all (cs.contains ·) = true := by
    unfold Lib.trimS Lib.trimLeftS Lib.trimRightS
    rw [dropWhile_nil, all_reverse, all_dropWhile, all_reverse]
  cases hb : s.all (cs.contains ·) with
  | true => rw [h.2 hb]; rfl
  | false =>
    cases ht : Lib.trimS s cs with
    | nil => rw [h.1 ht] at hb; cases hb
    | cons => rfl
theorem config_IsWord_eq (x : Str) : config_IsWord N x = some (isWordS x) := by
  cases x with
  | nil => simp [config_IsWord, isWordS]
  | cons b x =>
    unfold config_IsWord isWordS
    simp only [geti_zero, List.getElem?_cons_zero, bnd_some]
    rw [show decide (((b :: x).length : Int) < 1) = false from decide_eq_false (by simp; omega), br_false, v8_lt, v8_gt,
      not_dec (p := b.toNat < UInt8.toNat 97) (q := 97 ≤ b.toNat) (by show b.toNat < 97 ↔ _; omega), not_dec (p := UInt8.toNat 122 < b.toNat) (q := b.toNat ≤ 122) (by show 122 < b.toNat ↔ _; omega)]
    by_cases h40 : (b :: x).length ≤ 40
    · have e5 : ∀ cs : Str, cs.length < 1000000 → cs.all (fun c => decide (c.toNat < 128)) = true → strings_Trim (b :: x) cs = some (Lib.trimS (b :: x) cs) := fun cs h1 h2 => if_pos ⟨by omega, h1, h2⟩
      rw [decide_eq_false (show ¬ ((b :: x).length : Int) > 40 by omega), br_false, e5 _ (by decide) (by decide), bnd_some, trimS_nil, decide_eq_true h40]
      show br (!decide (97 ≤ b.toNat)) (some false) (br (!decide (b.toNat ≤ 122)) (some false) (some ((b :: x).all wordB))) = some (true && decide (97 ≤ b.toNat) && decide (b.toNat ≤ 122) && (b :: x).all wordB)
      generalize (b :: x).all wordB = q
      cases decide (97 ≤ b.toNat) <;> cases decide (b.toNat ≤ 122) <;> simp
    · rw [decide_eq_true (show ((b :: x).length : Int) > 40 by omega), br_true, decide_eq_false h40]; rfl
theorem slices_Index_eq (hN : big ≤ N) (xs : List Str) (hx : xs.length ≤ maxLen) (x : Str) : slices_Index_string_string N xs x = some (idxP (x == ·) xs) := by
  unfold slices_Index_string_string
  refine loop_for (fun _ _ => rfl) xs hx (fun self i h r hr => ?_) (fun self => ?_) hN
  · simp only [slices_Index_string_string_L0T, geti_lt xs h, wrap_succ hx h, hr, bnd_some]
    rw [lt_tt h, br_true, br_ite]
  · simp [slices_Index_string_string_L0T]
theorem slices_Contains_eq (hN : big ≤ N) (xs : List Str) (hx : xs.length ≤ maxLen) (x : Str) : slices_Contains_string_string N xs x = some (xs.any (x == ·)) := by
  unfold slices_Contains_string_string
  rw [slices_Index_eq hN xs hx, bnd_some, idxP_nonneg]
theorem find_1_eq (x : Str × List Str) (n : Str) : config_find_1 N x n = some (x.1 == n) := rfl
theorem IndexFunc_eq (hN : big ≤ N) (xs : List (Str × List Str)) (hx : xs.length ≤ maxLen) (n : Str) : slices_IndexFunc_api_Setting N xs (n, ()) = some (idxP (fun x => x.1 == n) xs) := by
  unfold slices_IndexFunc_api_Setting
  refine loop_for (fun _ _ => rfl) xs hx (fun self i h r hr => ?_) (fun self => ?_) hN
  · simp only [slices_IndexFunc_api_Setting_L0T, geti_lt xs h, wrap_succ hx h, hr, bnd_some, find_1_eq]
    rw [lt_tt h, br_true, br_ite]
  · simp only [slices_IndexFunc_api_Setting_L0T, lt_ff, br_false]
theorem find_eq (hN : big ≤ N) (xs : List (Str × List Str)) (hx : xs.length ≤ maxLen) (n : Str) : config_find N xs n = some (idxP (fun x => x.1 == n) xs) := by
  unfold config_find
  rw [IndexFunc_eq hN xs hx, bnd_some]
/-- The text before an element of a list of pairs. -/
def prevS {α : Type} (l : List (Str × α)) (i : Nat) (n : Str) (r : Int) : Int := if i = 0 then r else match l[i - 1]? with | some y => if (Op.bytesLess n y.1 || n == y.1) then 8 else r | none => r
theorem prev_eq {α : Type} {l : List (Str × α)} (hx : l.length ≤ maxLen) {i : Nat} (h : i < l.length) {n : Str} {r : Int} :
    (br (decide ((i : Int) > 0)) (bnd (geti l (IntKind.i64.wrap ((i : Int) - 1))) fun y => br (Op.bytesLess n y.1 || n == y.1) (some 8) (some r)) (some r)) = some (prevS l i n r) := by
  unfold maxLen at hx
  unfold prevS
  cases i with
  | zero => simp
  | succ j =>
    rw [wrap_pred (by omega), show ((j + 1 : Nat) : Int) - 1 = (j : Int) by omega, geti_lt l (by omega), bnd_some, br_ite, decide_eq_true (show ((j + 1 : Nat) : Int) > 0 by omega), br_true, if_neg (Nat.succ_ne_zero j)]
    rw [show j + 1 - 1 = j from rfl, List.getElem?_eq_getElem (by omega)]
/-- What settings are checked for. -/
def valuesS (rest : Int) (l : List Str) : Int := forT (fun i w r => if !isWordS w then 5 else if (l.take i).any (w == ·) then 7 else r) rest l 0
def settingsB (l : List (Str × List Str)) (i : Nat) (x : Str × List Str) (r : Int) : Int :=
  if !isWordS x.1 then 5 else if x.2.length = 0 then 9 else if 20 < x.2.length then 2 else
    valuesS (prevS l i x.1 r) x.2
def settingsS (l : List (Str × List Str)) : Int := if 30 < l.length then 2 else forT (settingsB l) 0 l 0
theorem values_eq (hN : big ≤ N) (l : List Str) (hl : l.length ≤ maxLen) {k : Option Int} {r : Int} (hk : k = some r) :
    config_CheckSettings_L1 N l (l.length : Int) l k N 0 = some (valuesS r l) := by
  refine loop_for (fun _ _ => rfl) l hl (fun self i h r' hr => ?_) (fun self => ?_) hN
  · have ht : (l.take i).length ≤ maxLen := by rw [List.length_take]; omega
    simp only [config_CheckSettings_L1T, geti_lt l h, wrap_succ hl h, hr, bnd_some, config_IsWord_eq, slc_take l (Nat.le_of_lt h), slices_Contains_eq hN _ ht]
    rw [lt_tt h, br_true, br_ite, br_ite]
  · simp only [config_CheckSettings_L1T, lt_ff, br_false, hk]
theorem settings_eq (hN : big ≤ N) (l : List (Str × List Str)) (hl : Fit (.sl (.pr .str (.sl .str))) l) : config_CheckSettings N l = some (settingsS l) := by
  unfold config_CheckSettings settingsS
  have hx : l.length ≤ maxLen := hl.1
  have hL : config_CheckSettings_L0 N l l (l.length : Int) (some 0) N 0 = some (forT (settingsB l) 0 l 0) := by
    refine loop_for (fun _ _ => rfl) l hx (fun self i h r hr => ?_) (fun self => ?_) hN
    · have hv : l[i].2.length ≤ maxLen := (hl.2 _ (List.getElem_mem h)).2.1
      simp only [config_CheckSettings_L0T, geti_lt l h, wrap_succ hx h, hr, bnd_some, config_IsWord_eq]
      rw [lt_tt h, br_true]
      rw [values_eq hN _ hv (prev_eq hx h)]
      unfold settingsB
      rw [show ((l[i].2.length : Int) == 0) = decide (l[i].2.length = 0) by show decide _ = decide _; exact decide_eq_decide.2 (by omega), (decide_eq_decide.2 (by omega) : decide ((l[i].2.length : Int) > 20) = decide (20 < l[i].2.length))]
      simp only [br_ite, decide_eq_true_eq]
    · simp only [config_CheckSettings_L0T, lt_ff, br_false]
  rw [hL, (decide_eq_decide.2 (by omega) : decide ((l.length : Int) > 30) = decide (30 < l.length)), br_ite]
  simp only [decide_eq_true_eq]
/-- Where settings are right, each has a value. -/
theorem forT_keep {α : Type} {p : α → Prop} {body : Nat → α → Int → Int} (h : ∀ i x r, body i x r = 0 → p x ∧ r = 0) : ∀ (xs : List α) (j : Nat), forT body 0 xs j = 0 → ∀ x ∈ xs, p x
  | [], _, _, _, hx => by cases hx
  | y :: ys, j, h0, x, hx => by
    obtain ⟨h1, h2⟩ := h j y _ h0
    rcases List.mem_cons.1 hx with rfl | hx
    · exact h1
    · exact forT_keep h ys (j + 1) h2 x hx
theorem values_keep {r : Int} (l : List Str) (j : Nat) (l0 : List Str) : forT (fun i w r => if !isWordS w then 5 else if (l0.take i).any (w == ·) then 7 else r) r l j = 0 → r = 0 := by
  induction l generalizing j with
  | nil => exact id
  | cons w l ih =>
    intro h
    simp only [forT] at h
    split at h
    · cases h
    · split at h
      · cases h
      · exact ih _ h
theorem settings_some {l : List (Str × List Str)} (h : settingsS l = 0) : ∀ s ∈ l, s.2 ≠ [] := by
  unfold settingsS at h
  split at h
  · cases h
  · refine forT_keep (p := fun s => s.2 ≠ []) (fun i x r hb => ?_) l 0 h
    unfold settingsB at hb
    split at hb
    · cases hb
    · split at hb
      · cases hb
      · split at hb
        · cases hb
        · rename_i h1 h2 h3
          refine ⟨fun e => h2 (by rw [e]; rfl), ?_⟩
          have := values_keep _ _ _ hb
          unfold prevS at this
          split at this
          · exact this
          · split at this
            · split at this
              · cases this
              · exact this
            · exact this
/-- What a configuration is checked for; 'strict': no default may be written. -/
def pairB (l : List (Str × List Str)) (c : List (Str × Str)) (strict : Bool) (i : Nat) (x : Str × Str) (r : Int) : Int :=
  match l.find? (fun s => s.1 == x.1) with
  | none => 5
  | some s => if !(s.2.any (x.2 == ·)) then 1 else if strict && s.2.head? == some x.2 then 3 else prevS c i x.1 r
def pairsS (l : List (Str × List Str)) (c : List (Str × Str)) (strict : Bool) : Int := forT (pairB l c strict) 0 c 0
theorem checkSet_eq (hN : big ≤ N) (l : List (Str × List Str)) (hl : Fit (.sl (.pr .str (.sl .str))) l) (c : List (Str × Str)) (hc : c.length ≤ maxLen) (hs : ∀ s ∈ l, s.2 ≠ []) (strict : Bool) : config_checkSet N l c strict = some (pairsS l c strict) := by
  unfold config_checkSet
  refine loop_for (fun _ _ => rfl) c hc (fun self i h r hr => ?_) (fun self => ?_) hN
  · simp only [config_checkSet_L0T, geti_lt c h, wrap_succ hc h, hr, bnd_some, find_eq hN l hl.1]
    rw [lt_tt h, br_true]
    unfold pairB
    rcases idxP_cases (fun s : Str × List Str => s.1 == c[i].1) l with ⟨h1, h2⟩ | ⟨j, s, h1, h2, h3, h4⟩
    · rw [h2, h1]; simp
    · have hm := List.mem_of_getElem? h2
      rw [h4, h1, decide_eq_false (show ¬ ((j : Int) < 0) by omega), br_false, geti_nat, h2, bnd_some, slices_Contains_eq hN _ (hl.2 _ hm).2.1, bnd_some, prev_eq hc h]
      obtain ⟨a, t, ht⟩ : ∃ a t, s.2 = a :: t := by
        cases hq : s.2 with
        | nil => exact absurd hq (hs s hm)
        | cons a t => exact ⟨a, t, rfl⟩
      simp only [bnd_some, ht, geti_zero, List.getElem?_cons_zero, br_ite, List.head?_cons]
      have e : (some a == some c[i].2) = (c[i].2 == a) := by
        show (a == c[i].2) = _
        exact Bool.eq_iff_iff.2 ⟨fun h => by simpa using (eq_of_beq h).symm, fun h => by simpa using (eq_of_beq h).symm⟩
      rw [e]
      cases strict <;> simp
  · simp only [config_checkSet_L0T, lt_ff, br_false]
abbrev settingTy : Ty := .sl (.pr .str (.sl .str))
abbrev pairTy : Ty := .sl (.pr .str .str)
/-- CheckConfig. -/
def configS (l : List (Str × List Str)) (c : List (Str × Str)) : Int := if settingsS l ≠ 0 then settingsS l else pairsS l c true
theorem ne_zero_dec (n : Int) : (n != 0) = decide (n ≠ 0) := by
  show (!decide (n = 0)) = decide (n ≠ 0)
  cases h : decide (n = 0) with
  | true => exact (decide_eq_false (fun h' => h' (of_decide_eq_true h))).symm
  | false => exact (decide_eq_true (of_decide_eq_false h)).symm
theorem checkConfig_eq (hN : big ≤ N) (l : List (Str × List Str)) (hl : Fit settingTy l) (c : List (Str × Str)) (hc : c.length ≤ maxLen) : config_CheckConfig N l c = some (configS l c) := by
  unfold config_CheckConfig configS
  rw [settings_eq hN l hl, bnd_some, ne_zero_dec]
  by_cases h : settingsS l = 0
  · rw [decide_eq_false (by simpa using h), br_false, if_neg (by simpa using h), checkSet_eq hN l hl c hc (settings_some h), bnd_some]
  · rw [decide_eq_true h, br_true, if_pos h]
/-- The first element of which something is true, or another thing. -/
def findF {α β : Type} (p : α → Bool) (f : α → β) (d : β) (xs : List α) : β := match xs.find? p with | some x => f x | none => d
theorem forT_find {α β : Type} (p : α → Bool) (f : α → β) (d : β) : ∀ (xs : List α) (j : Nat), forT (fun _ x r => if p x = true then f x else r) d xs j = findF p f d xs
  | [], _ => rfl
  | x :: xs, j => by
    show (if p x = true then f x else forT _ _ xs (j + 1)) = _
    rw [forT_find p f d xs (j + 1)]
    unfold findF
    rw [List.find?_cons]
    cases h : p x <;> simp
/-- The value that a configuration has for a name. -/
def valueS (l : List (Str × List Str)) (c : List (Str × Str)) (n : Str) : Str := findF (fun p => p.1 == n) (fun p => p.2) (findF (fun s => s.1 == n) (fun s => s.2.headD []) [] l) c
theorem pairOf_eq (hN : big ≤ N) (c : List (Str × Str)) (hx : c.length ≤ maxLen) (n : Str) : config_pairOf N c n = some (findF (fun s => s.1 == n) (fun s => (s.2, true)) ([], false) c) := by
  unfold config_pairOf
  rw [← forT_find (fun s : Str × Str => s.1 == n) (fun s => (s.2, true)) _ c 0]
  refine loop_for (fun _ _ => rfl) c hx (fun self i h r hr => ?_) (fun self => ?_) hN
  · simp only [config_pairOf_L0T, geti_lt c h, wrap_succ hx h, hr, bnd_some]
    rw [lt_tt h, br_true, br_ite]
  · simp only [config_pairOf_L0T, lt_ff, br_false]
theorem valueOf_eq (hN : big ≤ N) (l : List (Str × List Str)) (hl : Fit settingTy l) (c : List (Str × Str)) (hc : c.length ≤ maxLen) (hs : ∀ s ∈ l, s.2 ≠ []) (n : Str) (hn : (l.find? (fun s => s.1 == n)).isSome = true) : config_valueOf N l c n = some (valueS l c n) := by
  unfold config_valueOf valueS
  rw [pairOf_eq hN c hc, bnd_some]
  unfold findF
  cases hf : c.find? (fun s => s.1 == n) with
  | some p => simp
  | none =>
    rw [br_false, find_eq hN l hl.1, bnd_some]
    rcases idxP_cases (fun s : Str × List Str => s.1 == n) l with ⟨h1, h2⟩ | ⟨j, s, h1, h2, h3, h4⟩
    · rw [h1] at hn; cases hn
    · obtain ⟨a, t, ht⟩ : ∃ a t, s.2 = a :: t := by
        cases hq : s.2 with
        | nil => exact absurd hq (hs s (List.mem_of_getElem? h2))
        | cons a t => exact ⟨a, t, rfl⟩
      rw [h4, geti_nat, h2, bnd_some, h1]
      simp [ht, geti_zero]
/-- ValueOf. -/
def valueOfS (l : List (Str × List Str)) (c : List (Str × Str)) (n : Str) : Str × Int := if configS l c ≠ 0 then ([], configS l c) else if (l.find? (fun s => s.1 == n)).isSome then (valueS l c n, 0) else ([], 5)
theorem awake_eq : law3_awake big = some true := by kernel_rfl
end Go.Proofs.YtbekhaioddmliaaDoor


/- What the checks of platforms and conditions compute, and Holds. No program in sight. -/
namespace Go.Proofs.YtbekhaioddmliaaDoor
set_option linter.unusedVariables false
set_option linter.unusedSimpArgs false
open Go Go.RowKit
variable {N : Nat}
theorem decode_low (s : ByteArray) (i : Nat) (h : (s.get! i).toNat < 128) : Utf8.decode s i = ((s.get! i).toNat, 1) := by
  unfold Utf8.decode; simp [h]
theorem decode_high (s : ByteArray) (i : Nat) (h : 128 ≤ (s.get! i).toNat) : 128 ≤ (Utf8.decode s i).1 := by
  unfold Utf8.decode
  have h0 : ¬ (s.get! i).toNat < 128 := by omega
  simp only [Nat.add_zero, Nat.reduceLT]
  rw [if_neg h0]
  repeat' split
  all_goals first | (simp only [Utf8.runeError]; omega) | (simp only [ge_iff_le, Bool.and_eq_true, decide_eq_true_eq] at *; omega) | decide
theorem idx_bad (s : Str) (q : Nat → Bool) (hq : ∀ n, q n = decide (n < 32 ∨ 126 < n)) : ∀ (f pos : Nat), s.length ≤ pos + f →
    decide (0 ≤ Lib.idxFuncFrom q true ⟨s.toArray⟩ f pos) = (s.drop pos).any (fun b => decide (b.toNat < 32 ∨ 126 < b.toNat))
  | 0, pos, h => by rw [List.drop_eq_nil_of_le (by omega)]; rfl
  | f + 1, pos, h => by
    unfold Lib.idxFuncFrom
    by_cases hp : pos < s.length
    · have hsz : pos < (⟨s.toArray⟩ : ByteArray).size := hp
      rw [if_pos hsz, List.drop_eq_getElem_cons hp, List.any_cons]
      have hg : (⟨s.toArray⟩ : ByteArray).get! pos = s[pos] := by
        show (s.toArray)[pos]! = _
        simp [hp]
      by_cases hb : s[pos].toNat < 128
      · rw [decode_low _ _ (by rw [hg]; exact hb), hg, hq]
        by_cases hc : s[pos].toNat < 32 ∨ 126 < s[pos].toNat
        · rw [decide_eq_true hc, if_pos rfl]; simp
        · rw [decide_eq_false hc, if_neg (by simp), Bool.false_or]
          exact idx_bad s q hq f (pos + 1) (by omega)
      · have := decode_high (⟨s.toArray⟩ : ByteArray) pos (by rw [hg]; omega)
        rw [hq, decide_eq_true (Or.inr (by omega)), if_pos rfl, decide_eq_true (show s[pos].toNat < 32 ∨ 126 < s[pos].toNat from Or.inr (by omega))]
        simp
    · have hsz : ¬ pos < (⟨s.toArray⟩ : ByteArray).size := hp
      rw [if_neg hsz, List.drop_eq_nil_of_le (by omega)]; rfl
/-- The name of a condition. -/
def condB (b : UInt8) : Bool := decide (b.toNat < 32 ∨ 126 < b.toNat)
def condS (s : Str) : Bool := decide (1 ≤ s.length) && decide (s.length ≤ 1000) && !(s == [100, 101, 102, 97, 117, 108, 116]) && !(s.any condB)
theorem ContainsFunc_eq (s : Str) : strings_ContainsFunc_config_CheckConditions_1 N s () = some (s.any condB) := by
  unfold strings_ContainsFunc_config_CheckConditions_1 Lib.idxFunc
  rw [idx_bad s _ (fun n => ?_) _ 0 (by rw [Nat.zero_add]; exact Nat.le_refl _)]
  · rfl
  · unfold config_CheckConditions_1
    rw [br_ite]
    show (if decide ((n : Int) < 32) = true then true else decide ((n : Int) > 126)) = _
    by_cases h1 : n < 32
    · rw [if_pos (decide_eq_true (by omega))]; exact (decide_eq_true (Or.inl h1)).symm
    · rw [if_neg (by simp; omega)]
      exact decide_eq_decide.2 (by omega)
theorem forT_guard {α β : Type} (p : α → Bool) (c k : β) : ∀ (xs : List α) (j : Nat), forT (fun _ x r => if p x = true then c else r) k xs j = if xs.any p = true then c else k
  | [], _ => by simp [forT]
  | x :: xs, j => by
    show (if p x = true then c else forT _ _ xs (j + 1)) = _
    rw [forT_guard p c k xs (j + 1), List.any_cons]
    cases h : p x <;> simp
/-- CheckPairs. -/
def pairsCheckS (l : List (Str × Str)) : Int := if 30 < l.length then 2 else forT (fun i x r => if !isWordS x.1 then 5 else if !isWordS x.2 then 1 else prevS l i x.1 r) 0 l 0
theorem CheckPairs_eq (hN : big ≤ N) (l : List (Str × Str)) (hl : l.length ≤ maxLen) : config_CheckPairs N l = some (pairsCheckS l) := by
  unfold config_CheckPairs pairsCheckS
  rw [loop_for (f := config_CheckPairs_L0 N l l (l.length : Int) (some 0)) (fun _ _ => rfl) l hl (body := fun i x r => if !isWordS x.1 then 5 else if !isWordS x.2 then 1 else prevS l i x.1 r) (k := 0)
    (fun self i h r hr => by
      simp only [config_CheckPairs_L0T, geti_lt l h, wrap_succ hl h, hr, bnd_some, config_IsWord_eq]
      rw [lt_tt h, br_true, prev_eq hl h, br_ite, br_ite])
    (fun self => by simp only [config_CheckPairs_L0T, lt_ff, br_false]) hN,
    (decide_eq_decide.2 (by omega) : decide ((l.length : Int) > 30) = decide (30 < l.length)), br_ite]
  simp only [decide_eq_true_eq]
abbrev platformTy : Ty := .sl (.pr .str (.sl (.pr .str .str)))
/-- CheckPlatforms. -/
def platformsB (l : List (Str × List (Str × Str))) (i : Nat) (x : Str × List (Str × Str)) (r : Int) : Int :=
  if !isWordS x.1 then 5 else if decide (pairsCheckS x.2 ≠ 0) then pairsCheckS x.2 else if (l.take i).any (fun y => y.1 == x.1) then 7 else r
def platformsS (l : List (Str × List (Str × Str))) : Int := if 50 < l.length then 2 else forT (platformsB l) 0 l 0
theorem IndexFunc_platform (hN : big ≤ N) (xs : List (Str × List (Str × Str))) (hx : xs.length ≤ maxLen) (q : Str × List (Str × Str)) : slices_IndexFunc_api_Platform N xs (q, ()) = some (idxP (fun x => x.1 == q.1) xs) := by
  unfold slices_IndexFunc_api_Platform
  refine loop_for (fun _ _ => rfl) xs hx (fun self i h r hr => ?_) (fun self => ?_) hN
  · simp only [slices_IndexFunc_api_Platform_L0T, geti_lt xs h, wrap_succ hx h, hr, bnd_some, config_CheckPlatforms_1]
    rw [lt_tt h, br_true, br_ite]
  · simp only [slices_IndexFunc_api_Platform_L0T, lt_ff, br_false]
theorem CheckPlatforms_eq (hN : big ≤ N) (l : List (Str × List (Str × Str))) (hl : Fit platformTy l) : config_CheckPlatforms N l = some (platformsS l) := by
  unfold config_CheckPlatforms platformsS
  rw [loop_for (f := config_CheckPlatforms_L0 N l l (l.length : Int) (some 0)) (fun _ _ => rfl) l hl.1 (body := platformsB l) (k := 0)
    (fun self i h r hr => by
      have hx := hl.2 _ (List.getElem_mem h)
      have ht : (l.take i).length ≤ maxLen := by have := hl.1; rw [List.length_take]; omega
      simp only [config_CheckPlatforms_L0T, geti_lt l h, wrap_succ hl.1 h, hr, bnd_some, config_IsWord_eq, CheckPairs_eq hN _ hx.2.1, slc_take l (Nat.le_of_lt h), slices_ContainsFunc_api_Platform, IndexFunc_platform hN _ ht, idxP_nonneg]
      rw [lt_tt h, br_true, br_ite, ne_zero_dec, br_ite, br_ite]; rfl)
    (fun self => by simp only [config_CheckPlatforms_L0T, lt_ff, br_false]) hN,
    (decide_eq_decide.2 (by omega) : decide ((l.length : Int) > 50) = decide (50 < l.length)), br_ite]
  simp only [decide_eq_true_eq]
abbrev condTy : Ty := .pr .str (.pr (.sl (.pr .str .str)) (.sl (.pr .str .str)))
/-- CheckConditions. -/
def condB1 (l : List (Str × List Str)) (m : List (Str × List (Str × Str) × List (Str × Str))) (i : Nat) (x : Str × List (Str × Str) × List (Str × Str)) (r : Int) : Int :=
  if !condS x.1 then 3 else if decide (30 < x.2.1.length) then 2 else if decide (30 < x.2.2.length) then 2 else
    if decide (pairsS l x.2.1 false ≠ 0) then pairsS l x.2.1 false else if decide (pairsCheckS x.2.2 ≠ 0) then pairsCheckS x.2.2 else prevS m i x.1 r
def conditionsS (l : List (Str × List Str)) (m : List (Str × List (Str × Str) × List (Str × Str))) : Int :=
  if settingsS l ≠ 0 then settingsS l else if 100 < m.length then 2 else forT (condB1 l m) 0 m 0
theorem CheckConditions_eq (hN : big ≤ N) (l : List (Str × List Str)) (hl : Fit settingTy l) (m : List (Str × List (Str × Str) × List (Str × Str))) (hm : Fit (.sl condTy) m) : config_CheckConditions N l m = some (conditionsS l m) := by
  unfold config_CheckConditions conditionsS
  rw [settings_eq hN l hl, bnd_some, ne_zero_dec]
  by_cases hz : settingsS l = 0
  · rw [decide_eq_false (by simpa using hz), br_false, if_neg (by simpa using hz),
      loop_for (f := config_CheckConditions_L0 N l m m (m.length : Int) (some 0)) (fun _ _ => rfl) m hm.1 (body := condB1 l m) (k := 0)
      (fun self i h r hr => by
        have hx := hm.2 _ (List.getElem_mem h)
        simp only [config_CheckConditions_L0T, geti_lt m h, wrap_succ hm.1 h, hr, bnd_some, ContainsFunc_eq, checkSet_eq hN l hl _ hx.2.1.1 (settings_some hz), CheckPairs_eq hN _ hx.2.2.1]
        rw [lt_tt h, br_true, prev_eq hm.1 h, ne_zero_dec, ne_zero_dec]
        unfold condB1 condS
        rw [(not_dec (by omega) : decide ((m[i].1.length : Int) < 1) = !decide (1 ≤ m[i].1.length)), (not_dec (by omega) : decide ((m[i].1.length : Int) > 1000) = !decide (m[i].1.length ≤ 1000)),
          (decide_eq_decide.2 (by omega) : decide ((m[i].2.1.length : Int) > 30) = decide (30 < m[i].2.1.length)), (decide_eq_decide.2 (by omega) : decide ((m[i].2.2.length : Int) > 30) = decide (30 < m[i].2.2.length))]
        simp only [br_ite]
        cases decide (1 ≤ m[i].1.length) <;> cases decide (m[i].1.length ≤ 1000) <;> cases (m[i].1 == [100, 101, 102, 97, 117, 108, 116]) <;> cases m[i].1.any condB <;> simp)
      (fun self => by simp only [config_CheckConditions_L0T, lt_ff, br_false]) hN,
      (decide_eq_decide.2 (by omega) : decide ((m.length : Int) > 100) = decide (100 < m.length)), br_ite]
    simp only [decide_eq_true_eq]
  · rw [decide_eq_true hz, br_true, if_pos hz]
/-- Whether pairs are among others. -/
def hasPair (b : List (Str × Str)) (x : Str × Str) : Bool := b.any fun y => eqb (.pr .str .str) x y
theorem Contains_pair (hN : big ≤ N) (xs : List (Str × Str)) (hx : xs.length ≤ maxLen) (x : Str × Str) : slices_Contains_api_Pair N xs x = some (hasPair xs x) := by
  unfold slices_Contains_api_Pair slices_Index_api_Pair
  have hL : slices_Index_api_Pair_L0 N xs (xs.length : Int) x.1 x.2 (some (-1)) N 0 = some (idxP (fun y => eqb (.pr .str .str) x y) xs) := by
    refine loop_for (fun _ _ => rfl) xs hx (fun self i h r hr => ?_) (fun self => ?_) hN
    · simp only [slices_Index_api_Pair_L0T, geti_lt xs h, wrap_succ hx h, hr, bnd_some]
      rw [lt_tt h, br_true, br_ite]
    · simp only [slices_Index_api_Pair_L0T, lt_ff, br_false]
  rw [hL, bnd_some, idxP_nonneg]; rfl
theorem forT_every {α : Type} (p : α → Bool) (k : Bool) : ∀ (xs : List α) (j : Nat), forT (fun _ x r => if (!p x) = true then false else r) k xs j = (xs.all p && k)
  | [], _ => by simp [forT]
  | x :: xs, j => by
    show (if (!p x) = true then false else forT _ _ xs (j + 1)) = _
    rw [forT_every p k xs (j + 1), List.all_cons]
    cases h : p x <;> simp
theorem Fit_eq (hN : big ≤ N) (a b : List (Str × Str)) (ha : a.length ≤ maxLen) (hb : b.length ≤ maxLen) : config_Fit N a b = some (a.all (hasPair b)) := by
  unfold config_Fit
  rw [show a.all (hasPair b) = (a.all (hasPair b) && true) by simp, ← forT_every _ _ _ 0]
  refine loop_for (fun _ _ => rfl) a ha (fun self i h r hr => ?_) (fun self => ?_) hN
  · simp only [config_Fit_L0T, geti_lt a h, wrap_succ ha h, hr, bnd_some, Contains_pair hN b hb]
    rw [lt_tt h, br_true, br_ite]
  · simp only [config_Fit_L0T, lt_ff, br_false]
/-- Pairs that are right name settings that there are. -/
theorem prevS_keep {α : Type} {l : List (Str × α)} {i : Nat} {n : Str} {r : Int} (h : prevS l i n r = 0) : r = 0 := by
  unfold prevS at h
  split at h
  · exact h
  · split at h
    · split at h
      · cases h
      · exact h
    · exact h
theorem pairs_found {l : List (Str × List Str)} {c : List (Str × Str)} {strict : Bool} (h : pairsS l c strict = 0) : ∀ p ∈ c, (l.find? (fun s => s.1 == p.1)).isSome = true := by
  refine forT_keep (p := fun p : Str × Str => (l.find? (fun s => s.1 == p.1)).isSome = true) (fun i x r hb => ?_) c 0 h
  unfold pairB at hb
  split at hb
  · cases hb
  · rename_i s hf
    split at hb
    · cases hb
    · split at hb
      · cases hb
      · exact ⟨by rw [hf]; rfl, prevS_keep hb⟩
theorem cond_found {l : List (Str × List Str)} {m : List (Str × List (Str × Str) × List (Str × Str))} (h : conditionsS l m = 0) : settingsS l = 0 ∧ ∀ x ∈ m, pairsS l x.2.1 false = 0 := by
  unfold conditionsS at h
  split at h
  · rename_i h'; exact absurd h h'
  · rename_i h'
    refine ⟨Classical.not_not.1 h', ?_⟩
    split at h
    · cases h
    · refine forT_keep (p := fun x : Str × List (Str × Str) × List (Str × Str) => pairsS l x.2.1 false = 0) (fun i x r hb => ?_) m 0 h
      unfold condB1 at hb
      split at hb
      · cases hb
      · split at hb
        · cases hb
        · split at hb
          · cases hb
          · split at hb
            · rename_i h1; exact absurd hb (by simpa using h1)
            · rename_i h1
              split at hb
              · rename_i h2; exact absurd hb (by simpa using h2)
              · exact ⟨by simpa using h1, prevS_keep hb⟩
/-- Whether a condition holds. -/
def holdsS (l : List (Str × List Str)) (x : Str × List (Str × Str) × List (Str × Str)) (c : List (Str × Str)) (p : Str × List (Str × Str)) : Bool :=
  x.2.1.all (fun n => valueS l c n.1 == n.2) && x.2.2.all (hasPair p.2)
theorem holds_eq (hN : big ≤ N) (l : List (Str × List Str)) (hl : Fit settingTy l) (x : Str × List (Str × Str) × List (Str × Str)) (hx : Fit condTy x) (c : List (Str × Str)) (hc : c.length ≤ maxLen) (p : Str × List (Str × Str)) (hp : p.2.length ≤ maxLen)
    (hs : settingsS l = 0) (hn : ∀ n ∈ x.2.1, (l.find? (fun s => s.1 == n.1)).isSome = true) : config_holds N l x c p = some (holdsS l x c p) := by
  unfold config_holds holdsS
  rw [← forT_every _ _ _ 0]
  refine loop_for (fun _ _ => rfl) x.2.1 hx.2.1.1 (fun self i h r hr => ?_) (fun self => ?_) hN
  · simp only [config_holds_L0T, geti_lt _ h, wrap_succ hx.2.1.1 h, hr, bnd_some, valueOf_eq hN l hl c hc (settings_some hs) _ (hn _ (List.getElem_mem h))]
    rw [lt_tt h, br_true, br_ite]
  · simp only [config_holds_L0T, lt_ff, br_false, Fit_eq hN _ _ hx.2.2.1 hp, bnd_some]
/-- Holds. -/
def HoldsS (l : List (Str × List Str)) (x : Str × List (Str × Str) × List (Str × Str)) (c : List (Str × Str)) (p : Str × List (Str × Str)) : Bool × Int :=
  if configS l c ≠ 0 then (false, configS l c) else if conditionsS l [x] ≠ 0 then (false, conditionsS l [x]) else if platformsS [p] ≠ 0 then (false, platformsS [p]) else (holdsS l x c p, 0)
theorem fit_one {t : Ty} {x : t.den} (h : Fit t x) : Fit (.sl t) [x] := ⟨by show 1 ≤ maxLen; decide, fun y hy => by rw [List.mem_singleton.1 hy]; exact h⟩
theorem br_ne {R : Type} (n : Int) (x y : Option R) : br (n != 0) x y = if n ≠ 0 then x else y := by
  rw [ne_zero_dec, br_eq_ite]; simp only [decide_eq_true_eq]
abbrev worldTy : Ty := .pr settingTy (.pr (.sl condTy) (.pr platformTy (.pr (.sl (.pr .str (.pr .str (.pr (.sl (.pr .str .str)) (.sl (.pr .str .str)))))) (.sl (.pr .str (.pr (.sl (.pr .str .str)) (.sl .str)))))))
end Go.Proofs.YtbekhaioddmliaaDoor


/- What CheckTools and Tools compute. No program in sight. -/
namespace Go.Proofs.YtbekhaioddmliaaDoor
set_option linter.unusedVariables false
set_option linter.unusedSimpArgs false
open Go Go.RowKit
variable {N : Nat}
abbrev Tool : Type := Str × Str × List (Str × Str) × List (Str × Str)
/-- CheckTools. -/
def toolsB (l : List Tool) (i : Nat) (x : Tool) (r : Int) : Int :=
  if !isWordS x.1 then 5 else if !isWordS x.2.1 then 5 else if pairsCheckS x.2.2.1 ≠ 0 then pairsCheckS x.2.2.1 else if pairsCheckS x.2.2.2 ≠ 0 then pairsCheckS x.2.2.2 else if (l.take i).any (fun y => y.1 == x.1) then 7 else r
/-- Kinds. -/
def kindE (l : List Str) (i : Nat) (x : Str) : Int := if !isWordS x then 5 else if i = 0 then 0 else match l[i - 1]? with | some y => if (Op.bytesLess x y || x == y) then 8 else 0 | none => 0
/-- Whether a tool can be taken. -/
def toolFit (kind : Str) (on tg : List (Str × Str)) (t : Tool) : Bool := t.2.1 == kind && (t.2.2.1.all (hasPair on) && t.2.2.2.all (hasPair tg))
/-- The tools for kinds, on one platform for another one. -/
def onB (l : List Tool) (on tg : List (Str × Str)) (i : Nat) (k : Str) (w : List Str) (g : List Str → Bool × List Str) : Bool × List Str := match l.find? (toolFit k on tg) with
  | some t => g (w ++ [t.1])
  | none => (false, [])
def toolsOnS (l : List Tool) (kinds : List Str) (on tg : List (Str × Str)) : Bool × List Str := forA (onB l on tg) (fun w => (true, w)) kinds 0 []
/-- Tools. -/
def toolsRun (pl : List (Str × List (Str × Str))) (l : List Tool) (kinds : List Str) (tg : List (Str × Str)) : Str × Bool × Int × List Str :=
  findF (fun p => (toolsOnS l kinds p.2 tg).1) (fun p => (p.1, (true, (0, (toolsOnS l kinds p.2 tg).2)))) ([], (false, (0, []))) pl
end Go.Proofs.YtbekhaioddmliaaDoor


/- Facts on right settings and configurations. No program in sight. -/
namespace Go.Proofs.YtbekhaioddmliaaDoor
set_option linter.unusedVariables false
set_option linter.unusedSimpArgs false
open Go Go.RowKit
/-- Names in order. -/
def Asc {α : Type} (l : List (Str × α)) : Prop := l.Pairwise fun a b => a.1 < b.1
theorem forT_zero {α : Type} {q : Nat → α → Prop} {body : Nat → α → Int → Int} (h : ∀ i x r, body i x r = 0 ↔ q i x ∧ r = 0) : ∀ (xs : List α) (j : Nat), forT body 0 xs j = 0 ↔ ∀ i (hi : i < xs.length), q (j + i) xs[i]
  | [], _ => by simp [forT]
  | x :: xs, j => by
    show body j x (forT body 0 xs (j + 1)) = 0 ↔ _
    rw [h, forT_zero h xs (j + 1)]
    constructor
    · rintro ⟨h0, h1⟩ i hi
      cases i with
      | zero => exact h0
      | succ i => have := h1 i (by simpa using hi); simpa [Nat.add_assoc, Nat.add_comm 1] using this
    · intro h'
      refine ⟨h' 0 (by simp), fun i hi => ?_⟩
      have := h' (i + 1) (by simpa using hi)
      simpa [Nat.add_assoc, Nat.add_comm 1] using this
theorem Asc.find {α : Type} {l : List (Str × α)} (h : Asc l) {s : Str × α} (hs : s ∈ l) : l.find? (fun x => x.1 == s.1) = some s := by
  induction l with
  | nil => cases hs
  | cons x l ih =>
    have hx := List.pairwise_cons.1 h
    rcases List.mem_cons.1 hs with rfl | hs
    · simp
    · have : x.1 < s.1 := hx.1 s hs
      have hne : x.1 ≠ s.1 := fun e => by rw [e] at this; exact List.lt_irrefl _ this
      rw [List.find?_cons_of_neg (by simpa using hne)]
      exact ih hx.2 hs
theorem find_mem {α : Type} {l : List (Str × α)} {n : Str} {s : Str × α} (h : l.find? (fun x => x.1 == n) = some s) : s ∈ l ∧ s.1 = n :=
  ⟨List.mem_of_find?_eq_some h, by simpa using List.find?_some h⟩
theorem Asc.inj {α : Type} {l : List (Str × α)} (h : Asc l) {s t : Str × α} (hs : s ∈ l) (ht : t ∈ l) (e : s.1 = t.1) : s = t := by
  have h1 := h.find hs
  rw [e, h.find ht] at h1
  exact (Option.some.inj h1).symm
theorem Asc.ext {α : Type} : ∀ {a b : List (Str × α)}, Asc a → Asc b → (∀ p, p ∈ a ↔ p ∈ b) → a = b
  | [], [], _, _, _ => rfl
  | [], y :: b, _, _, h => by have := (h y).2 (by simp); cases this
  | x :: a, [], _, _, h => by have := (h x).1 (by simp); cases this
  | x :: a, y :: b, ha, hb, h => by
    have ha' := List.pairwise_cons.1 ha
    have hb' := List.pairwise_cons.1 hb
    have hxy : x = y := by
      rcases List.mem_cons.1 ((h x).1 (by simp)) with e | h1
      · exact e
      · rcases List.mem_cons.1 ((h y).2 (by simp)) with e | h2
        · exact e.symm
        · exact absurd (ha'.1 y h2) (List.lt_asymm (hb'.1 x h1))
    subst hxy
    refine congrArg _ (Asc.ext ha'.2 hb'.2 fun p => ⟨fun hp => ?_, fun hp => ?_⟩)
    · rcases List.mem_cons.1 ((h p).1 (List.mem_cons_of_mem _ hp)) with rfl | h1
      · exact absurd (ha'.1 p hp) (List.lt_irrefl _)
      · exact h1
    · rcases List.mem_cons.1 ((h p).2 (List.mem_cons_of_mem _ hp)) with rfl | h1
      · exact absurd (hb'.1 p hp) (List.lt_irrefl _)
      · exact h1
theorem Asc.nodup {α : Type} {l : List (Str × α)} (h : Asc l) : (l.map (·.1)).Nodup := by
  rw [List.Nodup, List.pairwise_map]
  exact h.imp fun {a b} hab e => by
    have e : a.1 = b.1 := e
    rw [e] at hab; exact List.lt_irrefl _ hab
theorem Asc.len {α β : Type} {c : List (Str × α)} {l : List (Str × β)} (h : Asc c) (hm : ∀ p ∈ c, ∃ s ∈ l, s.1 = p.1) : c.length ≤ l.length := by
  have := h.nodup.length_le_of_subset (l₂ := l.map (·.1)) (fun n hn => by
    obtain ⟨p, hp, rfl⟩ := List.mem_map.1 hn
    obtain ⟨s, hs, e⟩ := hm p hp
    exact List.mem_map.2 ⟨s, hs, e⟩)
  simpa using this
/-- Right settings. -/
structure SetOk (l : List (Str × List Str)) : Prop where
  len : l.length ≤ 30
  asc : Asc l
  name : ∀ s ∈ l, isWordS s.1 = true
  some : ∀ s ∈ l, s.2 ≠ []
  few : ∀ s ∈ l, s.2.length ≤ 20
  word : ∀ s ∈ l, ∀ v ∈ s.2, isWordS v = true
  once : ∀ s ∈ l, s.2.Nodup
/-- A pair that says a value of a setting; 'strict': not the default. -/
def PairOk (l : List (Str × List Str)) (strict : Bool) (p : Str × Str) : Prop := ∃ s, l.find? (fun s => s.1 == p.1) = some s ∧ p.2 ∈ s.2 ∧ (strict = true → s.2.head? ≠ some p.2)
/-- A right configuration of right settings. -/
structure CfgOk (l : List (Str × List Str)) (c : List (Str × Str)) : Prop where
  set : SetOk l
  pair : ∀ p ∈ c, PairOk l true p
  asc : Asc c
theorem PairOk.mem {l : List (Str × List Str)} {strict : Bool} {p : Str × Str} (h : PairOk l strict p) : ∃ s ∈ l, s.1 = p.1 ∧ p.2 ∈ s.2 := by
  obtain ⟨s, h1, h2, _⟩ := h
  exact ⟨s, (find_mem h1).1, (find_mem h1).2, h2⟩
theorem CfgOk.len {l : List (Str × List Str)} {c : List (Str × Str)} (h : CfgOk l c) : c.length ≤ 30 :=
  Nat.le_trans (h.asc.len fun p hp => by obtain ⟨s, h1, h2, _⟩ := (h.pair p hp).mem; exact ⟨s, h1, h2⟩) h.set.len
end Go.Proofs.YtbekhaioddmliaaDoor


/- What functions of the program compute, as plain functions (printed). -/
namespace Go.Proofs.YtbekhaioddmliaaDoor
open Go Go.RowKit
set_option maxRecDepth 100000
set_option linter.unusedVariables false
noncomputable section
end
end Go.Proofs.YtbekhaioddmliaaDoor


/- What functions of the program compute, as plain functions (printed). -/
namespace Go.Proofs.YtbekhaioddmliaaDoor
open Go Go.RowKit
set_option maxRecDepth 100000
set_option linter.unusedVariables false
noncomputable section
end
end Go.Proofs.YtbekhaioddmliaaDoor


/- What functions of the program compute, as plain functions (printed). -/
namespace Go.Proofs.YtbekhaioddmliaaDoor
open Go Go.RowKit
set_option maxRecDepth 100000
set_option linter.unusedVariables false
noncomputable section
def config_checkChoice (N : Nat) (x0 : List (Str × List Str) × List (Str × List (Str × Str) × List (Str × Str)) × List (Str × List (Str × Str)) × List (Str × Str × List (Str × Str) × List (Str × Str)) × List (Str × List (Str × Str) × List Str)) (x1 : List (Str × Str)) (x2 : Str × List (Str × Str)) : Option Int :=
  bnd (config_CheckConditions N x0.1 x0.2.1) fun t13 =>
  br (t13 != (0 : Int))
    (some t13)
    (bnd (config_CheckConfig N x0.1 x1) fun t20 =>
    br (t20 != (0 : Int))
      (some t20)
      (bnd (config_CheckPlatforms N [x2]) fun t26 =>
      some t26))
abbrev config_checkChoice_sg (f : SV [.v (.pr (.sl (.pr .str (.sl .str))) (.pr (.sl (.pr .str (.pr (.sl (.pr .str .str)) (.sl (.pr .str .str))))) (.pr (.sl (.pr .str (.sl (.pr .str .str)))) (.pr (.sl (.pr .str (.pr .str (.pr (.sl (.pr .str .str)) (.sl (.pr .str .str)))))) (.sl (.pr .str (.pr (.sl (.pr .str .str)) (.sl .str)))))))), .v (.sl (.pr .str .str)), .v (.pr .str (.sl (.pr .str .str)))] → BV [] → Option (Int)) : AF := { ps := [.v (.pr (.sl (.pr .str (.sl .str))) (.pr (.sl (.pr .str (.pr (.sl (.pr .str .str)) (.sl (.pr .str .str))))) (.pr (.sl (.pr .str (.sl (.pr .str .str)))) (.pr (.sl (.pr .str (.pr .str (.pr (.sl (.pr .str .str)) (.sl (.pr .str .str)))))) (.sl (.pr .str (.pr (.sl (.pr .str .str)) (.sl .str)))))))), .v (.sl (.pr .str .str)), .v (.pr .str (.sl (.pr .str .str)))], bs := [], rs := [.v (.int .i64)], cs := [], R := Int, out := fun z => ((z, ()), ()), f := f }
abbrev config_checkChoice_pk : SV [.v (.int .i64)] → BV [] → Int := fun x _ => x.1
def config_checkChoice_fn (N : Nat) : FuncId → Option Tmp → Option AF := fun f _ =>
  match f with
    | 18 => some (config_CheckConfig_sg fun x _ => config_CheckConfig N x.1 x.2.1)
    | 23 => some (config_CheckPlatforms_sg fun x _ => config_CheckPlatforms N x.1)
    | 25 => some (config_CheckConditions_sg fun x _ => config_CheckConditions N x.1 x.2.1)
    | _ => none
theorem config_checkChoice_fn_ok (N : Nat) : ∀ f q F, config_checkChoice_fn N f q = some F → Sound Tryd.prog GW B0G f F := by
  intro f q F h
  unfold config_checkChoice_fn at h
  split at h
  · cases h; exact config_CheckConfig_sound N
  · cases h; exact config_CheckPlatforms_sound N
  · cases h; exact config_CheckConditions_sound N
  · cases h
def config_checkChoice_h : Nat → Hint := fun i =>
  match i with
  | _ => ⟨[], [], [], [], [], []⟩
abbrev config_checkChoice_E (N : Nat) : Env := mkE config_checkChoice_h (config_checkChoice_fn N) (fun _ => false) (fun _ => false)
noncomputable def config_checkChoice_LP (N : Nat) : Nat → Code → St → (Ex → St → Option Int) → Option Int := fun i c =>
  match i with
  | i => fun st k => iter (config_checkChoice_h i) (exec (config_checkChoice_E N) N c i) N st k
theorem config_checkChoice_core (N : Nat) (x : SV [.v (.pr (.sl (.pr .str (.sl .str))) (.pr (.sl (.pr .str (.pr (.sl (.pr .str .str)) (.sl (.pr .str .str))))) (.pr (.sl (.pr .str (.sl (.pr .str .str)))) (.pr (.sl (.pr .str (.pr .str (.pr (.sl (.pr .str .str)) (.sl (.pr .str .str)))))) (.sl (.pr .str (.pr (.sl (.pr .str .str)) (.sl .str)))))))), .v (.sl (.pr .str .str)), .v (.pr .str (.sl (.pr .str .str)))]) (y : BV []) : runL (config_checkChoice_E N) Tryd.f84 (config_checkChoice_sg fun x _ => config_checkChoice N x.1 x.2.1 x.2.2.1) config_checkChoice_pk (config_checkChoice_LP N) x y = config_checkChoice N x.1 x.2.1 x.2.2.1 := by kernel_rfl
theorem config_checkChoice_sound (N : Nat) : Sound Tryd.prog GW B0G 84 (config_checkChoice_sg fun x _ => config_checkChoice N x.1 x.2.1 x.2.2.1) :=
  runD_sound (mkE_ok config_checkChoice_h (config_checkChoice_fn N) _ _ (config_checkChoice_fn_ok N)) Tryd.func84 rfl Tryd.call84 (config_checkChoice_sg fun x _ => config_checkChoice N x.1 x.2.1 x.2.2.1) config_checkChoice_pk (fun _ _ => rfl) N (fun x y _ h => ((runL_eq (config_checkChoice_E N) N Tryd.f84 (config_checkChoice_sg fun x _ => config_checkChoice N x.1 x.2.1 x.2.2.1) config_checkChoice_pk (config_checkChoice_LP N) (show LoopsOk (config_checkChoice_LP N) (config_checkChoice_E N) N (resD (config_checkChoice_E N) Tryd.f84 (config_checkChoice_sg fun x _ => config_checkChoice N x.1 x.2.1 x.2.2.1) config_checkChoice_pk) [] from trivial) x y).trans (config_checkChoice_core N x y)).trans h)
end
end Go.Proofs.YtbekhaioddmliaaDoor

