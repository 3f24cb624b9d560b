/- What functions of the program compute, as plain functions (printed). -/
import Derived.Test.YtefbpbkjijbepaaDoorQBmSw
import Derived.Test.YtefbpbkjijbepaaDoorQBmOb
namespace Go.Proofs.YtefbpbkjijbepaaDoor
open Go Go.RowKit
set_option maxRecDepth 100000
set_option linter.unusedVariables false
noncomputable section
def blob_writer_dir_b_L0T (N : Nat) (r_blob_writer_dir : (List (Str × Bool × List UInt8)) → (List (Str × (List UInt8))) → Option (Str × List (Str × (List UInt8)))) (t10 : List (Str × (Option (Str × Bool × List UInt8)) × List (Str × Bool × List UInt8))) (c16 : Int) (k0 : (List (Str × (List UInt8))) → Option (Str × List (Str × (List UInt8)))) (self : Int → (List (Str × (List UInt8))) → Option (Str × List (Str × (List UInt8)))) (s17 : Int) (m1_1 : List (Str × (List UInt8))) : Option (Str × List (Str × (List UInt8))) :=
  br (decide (s17 < c16))
    (bnd (geti t10 s17) fun t19 =>
    br (!t19.2.1.isNone)
      (bnd (t19.2.1) fun t27 =>
      bnd (blob_writer_put N t27.2.2 m1_1) fun t30 =>
      self (IntKind.i64.wrap (s17 + (1 : Int))) t30.2)
      (bnd (r_blob_writer_dir t19.2.2 m1_1) fun t34 =>
      self (IntKind.i64.wrap (s17 + (1 : Int))) t34.2))
    (k0 m1_1)
def blob_writer_dir_b_L0 (N : Nat) (r_blob_writer_dir : (List (Str × Bool × List UInt8)) → (List (Str × (List UInt8))) → Option (Str × List (Str × (List UInt8)))) (t10 : List (Str × (Option (Str × Bool × List UInt8)) × List (Str × Bool × List UInt8))) (c16 : Int) (k0 : (List (Str × (List UInt8))) → Option (Str × List (Str × (List UInt8)))) : Nat → Int → (List (Str × (List UInt8))) → Option (Str × List (Str × (List UInt8)))
  | 0, _, _ => none
  | n + 1, s17, m1_1 => blob_writer_dir_b_L0T N r_blob_writer_dir t10 c16 k0 (blob_writer_dir_b_L0 N r_blob_writer_dir t10 c16 k0 n) s17 m1_1
def blob_writer_dir_b (N : Nat) (r_blob_writer_dir : (List (Str × Bool × List UInt8)) → (List (Str × (List UInt8))) → Option (Str × List (Str × (List UInt8)))) (x1 : List (Str × Bool × List UInt8)) (m1 : List (Str × (List UInt8))) : Option (Str × List (Str × (List UInt8))) :=
  bnd (blob_nodes x1) fun t10 =>
  bnd (blob_dirText N N t10) fun t13 =>
  bnd (blob_writer_put N t13 m1) fun t14 =>
  blob_writer_dir_b_L0 N r_blob_writer_dir t10 (t10.length : Int) (fun o0_m1 =>
      some (t14.1, o0_m1)) N (0 : Int) t14.2
abbrev blob_writer_dir_b_sg (f : SV [.box 0 0, .v (.sl (.pr .str (.pr .bool (.sl .u8))))] → BV [.cells [.mref 1], .map (.sl .u8)] → Option (Str × List (Str × (List UInt8)))) : AF := { ps := [.box 0 0, .v (.sl (.pr .str (.pr .bool (.sl .u8))))], bs := [.cells [.mref 1], .map (.sl .u8)], rs := [.v .str], cs := [.cells [.mref 1], .map (.sl .u8)], R := Str × List (Str × (List UInt8)), out := fun z => ((z.1, ()), (((), ()), z.2, ())), f := f }
abbrev blob_writer_dir_b_pk : SV [.v .str] → BV [.cells [.mref 1], .map (.sl .u8)] → (Str × List (Str × (List UInt8))) := fun x y => (x.1, y.2.1)
def blob_writer_dir_b_fn (N : Nat) (r_blob_writer_dir : (List (Str × Bool × List UInt8)) → (List (Str × (List UInt8))) → Option (Str × List (Str × (List UInt8)))) : FuncId → Option Tmp → Option AF := fun f _ =>
  match f with
    | 10 => some (blob_writer_dir_sg fun x y => r_blob_writer_dir x.2.1 y.2.1)
    | 22 => some (blob_nodes_sg fun x _ => blob_nodes x.1)
    | 23 => some (blob_writer_put_sg fun x y => blob_writer_put N x.2.1 y.2.1)
    | 24 => some (blob_dirText_sg fun x _ => blob_dirText N N x.1)
    | _ => none
theorem blob_writer_dir_b_fn_ok (N : Nat) (r_blob_writer_dir : (List (Str × Bool × List UInt8)) → (List (Str × (List UInt8))) → Option (Str × List (Str × (List UInt8)))) (h_blob_writer_dir : Sound Tryd.prog GW B0G 10 (blob_writer_dir_sg fun x y => r_blob_writer_dir x.2.1 y.2.1)) : ∀ f q F, blob_writer_dir_b_fn N r_blob_writer_dir f q = some F → Sound Tryd.prog GW B0G f F := by
  intro f q F h
  unfold blob_writer_dir_b_fn at h
  split at h
  · cases h; exact h_blob_writer_dir
  · cases h; exact blob_nodes_sound
  · cases h; exact blob_writer_put_sound N
  · cases h; exact blob_dirText_sound N N
  · cases h
def blob_writer_dir_b_h : Nat → Hint := fun i =>
  match i with
  | 0 => ⟨[], [0, 6, 15, 16, 17], [0, 1], [6], [0, 1], []⟩
  | _ => ⟨[], [], [], [], [], []⟩
abbrev blob_writer_dir_b_E (N : Nat) (r_blob_writer_dir : (List (Str × Bool × List UInt8)) → (List (Str × (List UInt8))) → Option (Str × List (Str × (List UInt8)))) : Env := mkE blob_writer_dir_b_h (blob_writer_dir_b_fn N r_blob_writer_dir) (fun _ => false) (fun _ => false)
abbrev blob_writer_dir_b_L0_fs : List (Nat × Sl) := [(0, .box 0 0), (6, .v .str), (15, .v (.sl (.pr .str (.pr (.np (.pr .str (.pr .bool (.sl .u8)))) (.sl (.pr .str (.pr .bool (.sl .u8)))))))), (16, .v (.int .i64)), (17, .v (.int .i64))]
abbrev blob_writer_dir_b_L0_bs : List (Nat × Sb) := [(0, .cells [.mref 1]), (1, .map (.sl .u8))]
def blob_writer_dir_b_L0_hd (c6 : Str) (t10 : List (Str × (Option (Str × Bool × List UInt8)) × List (Str × Bool × List UInt8))) (c16 : Int) (s17 : Int) (m1_1 : List (Str × (List UInt8))) : St := ⟨37, [(0, .box 0 0), (6, .v .str c6), (15, .v (.sl (.pr .str (.pr (.np (.pr .str (.pr .bool (.sl .u8)))) (.sl (.pr .str (.pr .bool (.sl .u8))))))) t10), (16, .v (.int .i64) c16), (17, .v (.int .i64) s17)], [(0, .cells [.mref 1]), (1, .map (.sl .u8) m1_1)]⟩
def blob_writer_dir_b_L0_tl0 (c6 : Str) (_t10 : List (Str × (Option (Str × Bool × List UInt8)) × List (Str × Bool × List UInt8))) (_c16 : Int) (o0_m1 : List (Str × (List UInt8))) : St := ⟨37, [(6, .v .str c6)], [(0, .cells [.mref 1]), (1, .map (.sl .u8) o0_m1)]⟩
def blob_writer_dir_b_L0_G (N : Nat) (r_blob_writer_dir : (List (Str × Bool × List UInt8)) → (List (Str × (List UInt8))) → Option (Str × List (Str × (List UInt8)))) (c6 : Str) (t10 : List (Str × (Option (Str × Bool × List UInt8)) × List (Str × Bool × List UInt8))) (c16 : Int) (s17 : Int) (m1_1 : List (Str × (List UInt8))) (k : Ex → St → Option (Str × List (Str × (List UInt8)))) : Option (Str × List (Str × (List UInt8))) :=
  blob_writer_dir_b_L0 N r_blob_writer_dir t10 c16 (fun o0_m1 => k (.exit 0) (blob_writer_dir_b_L0_tl0 c6 t10 c16 o0_m1)) N s17 m1_1
abbrev blob_writer_dir_b_L0_F (N : Nat) (r_blob_writer_dir : (List (Str × Bool × List UInt8)) → (List (Str × (List UInt8))) → Option (Str × List (Str × (List UInt8)))) : FV blob_writer_dir_b_L0_fs → HV blob_writer_dir_b_L0_bs → (Ex → St → Option (Str × List (Str × (List UInt8)))) → Option (Str × List (Str × (List UInt8))) := fun x y k => blob_writer_dir_b_L0_G N r_blob_writer_dir x.2.1 x.2.2.1 x.2.2.2.1 x.2.2.2.2.1 y.2.1 k
noncomputable def blob_writer_dir_b_LP (N : Nat) (r_blob_writer_dir : (List (Str × Bool × List UInt8)) → (List (Str × (List UInt8))) → Option (Str × List (Str × (List UInt8)))) : Nat → Code → St → (Ex → St → Option (Str × List (Str × (List UInt8)))) → Option (Str × List (Str × (List UInt8))) := fun i c =>
  match i with
  | 0 => (LPc 37 blob_writer_dir_b_L0_fs blob_writer_dir_b_L0_bs (blob_writer_dir_b_L0_F N r_blob_writer_dir) (fun st k => iter (blob_writer_dir_b_h 0) (exec (blob_writer_dir_b_E N r_blob_writer_dir) N c 0) N st k))
  | i => fun st k => iter (blob_writer_dir_b_h i) (exec (blob_writer_dir_b_E N r_blob_writer_dir) N c i) N st k
theorem blob_writer_dir_b_L0_step (N : Nat) (r_blob_writer_dir : (List (Str × Bool × List UInt8)) → (List (Str × (List UInt8))) → Option (Str × List (Str × (List UInt8)))) (c6 : Str) (t10 : List (Str × (Option (Str × Bool × List UInt8)) × List (Str × Bool × List UInt8))) (c16 : Int) (KX : Nat → St → Option (Str × List (Str × (List UInt8)))) (I : St → Option (Str × List (Str × (List UInt8)))) (s17 : Int) (m1_1 : List (Str × (List UInt8))) :
    execL (blob_writer_dir_b_LP N r_blob_writer_dir) (blob_writer_dir_b_E N r_blob_writer_dir) (cAt (bodyOf Tryd.f10) [true, true, true, false, true, false, false]) 0 (blob_writer_dir_b_L0_hd c6 t10 c16 s17 m1_1) (roundK (blob_writer_dir_b_h 0) I KX (resD (blob_writer_dir_b_E N r_blob_writer_dir) Tryd.f10 (blob_writer_dir_b_sg fun x y => blob_writer_dir_b N r_blob_writer_dir x.2.1 y.2.1) blob_writer_dir_b_pk)) = blob_writer_dir_b_L0T N r_blob_writer_dir t10 c16 (fun o0_m1 => KX 0 (blob_writer_dir_b_L0_tl0 c6 t10 c16 o0_m1)) (fun s17 m1_1 => I (blob_writer_dir_b_L0_hd c6 t10 c16 s17 m1_1)) s17 m1_1 := by kernel_rfl
theorem blob_writer_dir_b_L0_ok (N : Nat) (r_blob_writer_dir : (List (Str × Bool × List UInt8)) → (List (Str × (List UInt8))) → Option (Str × List (Str × (List UInt8)))) : ∀ x y k, (∀ st, k .ret st = (resD (blob_writer_dir_b_E N r_blob_writer_dir) Tryd.f10 (blob_writer_dir_b_sg fun x y => blob_writer_dir_b N r_blob_writer_dir x.2.1 y.2.1) blob_writer_dir_b_pk) st) → iter (blob_writer_dir_b_h 0) (exec (blob_writer_dir_b_E N r_blob_writer_dir) N (cAt (bodyOf Tryd.f10) [true, true, true, false, true, false, false]) 0) N ⟨37, unF blob_writer_dir_b_L0_fs x, unH blob_writer_dir_b_L0_bs y⟩ k = blob_writer_dir_b_L0_F N r_blob_writer_dir x y k := fun x y k hk =>
  iter_link (S := (Int) × (List (Str × (List UInt8))) × Unit) (blob_writer_dir_b_h 0) _ (execL (blob_writer_dir_b_LP N r_blob_writer_dir) (blob_writer_dir_b_E N r_blob_writer_dir) (cAt (bodyOf Tryd.f10) [true, true, true, false, true, false, false]) 0) (resD (blob_writer_dir_b_E N r_blob_writer_dir) Tryd.f10 (blob_writer_dir_b_sg fun x y => blob_writer_dir_b N r_blob_writer_dir x.2.1 y.2.1) blob_writer_dir_b_pk) (fun st k hk => execL_eq _ _ N _ (cAt (bodyOf Tryd.f10) [true, true, true, false, true, false, false]) 0 (show LoopsOk (blob_writer_dir_b_LP N r_blob_writer_dir) (blob_writer_dir_b_E N r_blob_writer_dir) N (resD (blob_writer_dir_b_E N r_blob_writer_dir) Tryd.f10 (blob_writer_dir_b_sg fun x y => blob_writer_dir_b N r_blob_writer_dir x.2.1 y.2.1) blob_writer_dir_b_pk) [] from trivial) st k hk) (fun s => blob_writer_dir_b_L0_hd x.2.1 x.2.2.1 x.2.2.2.1 s.1 s.2.1) k hk
    (fun self s => blob_writer_dir_b_L0T N r_blob_writer_dir x.2.2.1 x.2.2.2.1 (fun o0_m1 => k (.exit 0) (blob_writer_dir_b_L0_tl0 x.2.1 x.2.2.1 x.2.2.2.1 o0_m1)) (fun s17 m1_1 => self (s17, m1_1, ())) s.1 s.2.1) (fun n s => blob_writer_dir_b_L0 N r_blob_writer_dir x.2.2.1 x.2.2.2.1 (fun o0_m1 => k (.exit 0) (blob_writer_dir_b_L0_tl0 x.2.1 x.2.2.1 x.2.2.2.1 o0_m1)) n s.1 s.2.1) (fun _ => rfl) (fun _ _ => rfl)
    (fun I s => blob_writer_dir_b_L0_step N r_blob_writer_dir x.2.1 x.2.2.1 x.2.2.2.1 (fun j => k (.exit j)) I s.1 s.2.1) N (x.2.2.2.2.1, y.2.1, ())
theorem blob_writer_dir_b_lp0 (N : Nat) (r_blob_writer_dir : (List (Str × Bool × List UInt8)) → (List (Str × (List UInt8))) → Option (Str × List (Str × (List UInt8)))) : ∀ st k, (∀ st, k .ret st = (resD (blob_writer_dir_b_E N r_blob_writer_dir) Tryd.f10 (blob_writer_dir_b_sg fun x y => blob_writer_dir_b N r_blob_writer_dir x.2.1 y.2.1) blob_writer_dir_b_pk) st) → blob_writer_dir_b_LP N r_blob_writer_dir 0 (cAt (bodyOf Tryd.f10) [true, true, true, false, true, false, false]) st k = iter (Env.hint (blob_writer_dir_b_E N r_blob_writer_dir) 0) (exec (blob_writer_dir_b_E N r_blob_writer_dir) N (cAt (bodyOf Tryd.f10) [true, true, true, false, true, false, false]) 0) N st k := fun st k hk => LPc_eq 37 blob_writer_dir_b_L0_fs blob_writer_dir_b_L0_bs _ _ (resD (blob_writer_dir_b_E N r_blob_writer_dir) Tryd.f10 (blob_writer_dir_b_sg fun x y => blob_writer_dir_b N r_blob_writer_dir x.2.1 y.2.1) blob_writer_dir_b_pk) (blob_writer_dir_b_L0_ok N r_blob_writer_dir) _ st k hk (rfl)
theorem blob_writer_dir_b_core (N : Nat) (r_blob_writer_dir : (List (Str × Bool × List UInt8)) → (List (Str × (List UInt8))) → Option (Str × List (Str × (List UInt8)))) (x : SV [.box 0 0, .v (.sl (.pr .str (.pr .bool (.sl .u8))))]) (y : BV [.cells [.mref 1], .map (.sl .u8)]) : runL (blob_writer_dir_b_E N r_blob_writer_dir) Tryd.f10 (blob_writer_dir_b_sg fun x y => blob_writer_dir_b N r_blob_writer_dir x.2.1 y.2.1) blob_writer_dir_b_pk (blob_writer_dir_b_LP N r_blob_writer_dir) x y = blob_writer_dir_b N r_blob_writer_dir x.2.1 y.2.1 := by kernel_rfl
theorem blob_writer_dir_b_sound (N : Nat) (r_blob_writer_dir : (List (Str × Bool × List UInt8)) → (List (Str × (List UInt8))) → Option (Str × List (Str × (List UInt8)))) (h_blob_writer_dir : Sound Tryd.prog GW B0G 10 (blob_writer_dir_sg fun x y => r_blob_writer_dir x.2.1 y.2.1)) : Sound Tryd.prog GW B0G 10 (blob_writer_dir_b_sg fun x y => blob_writer_dir_b N r_blob_writer_dir x.2.1 y.2.1) :=
  runD_sound (mkE_ok blob_writer_dir_b_h (blob_writer_dir_b_fn N r_blob_writer_dir) _ _ (blob_writer_dir_b_fn_ok N r_blob_writer_dir h_blob_writer_dir)) Tryd.func10 rfl Tryd.call10 (blob_writer_dir_b_sg fun x y => blob_writer_dir_b N r_blob_writer_dir x.2.1 y.2.1) blob_writer_dir_b_pk (fun _ _ => rfl) N (fun x y _ h => ((runL_eq (blob_writer_dir_b_E N r_blob_writer_dir) N Tryd.f10 (blob_writer_dir_b_sg fun x y => blob_writer_dir_b N r_blob_writer_dir x.2.1 y.2.1) blob_writer_dir_b_pk (blob_writer_dir_b_LP N r_blob_writer_dir) (show LoopsOk (blob_writer_dir_b_LP N r_blob_writer_dir) (blob_writer_dir_b_E N r_blob_writer_dir) N (resD (blob_writer_dir_b_E N r_blob_writer_dir) Tryd.f10 (blob_writer_dir_b_sg fun x y => blob_writer_dir_b N r_blob_writer_dir x.2.1 y.2.1) blob_writer_dir_b_pk) [(0, (cAt (bodyOf Tryd.f10) [true, true, true, false, true, false, false]))] from ⟨blob_writer_dir_b_lp0 N r_blob_writer_dir, trivial⟩) x y).trans (blob_writer_dir_b_core N r_blob_writer_dir x y)).trans h)
def blob_writer_dir (N : Nat) : Nat → (List (Str × Bool × List UInt8)) → (List (Str × (List UInt8))) → Option (Str × List (Str × (List UInt8)))
  | 0 => fun _ _ => none
  | d + 1 => blob_writer_dir_b N (blob_writer_dir N d)
theorem blob_writer_dir_sound (N : Nat) : ∀ d, Sound Tryd.prog GW B0G 10 (blob_writer_dir_sg fun x y => blob_writer_dir N d x.2.1 y.2.1)
  | 0 => Sound.never Tryd.call10 (fun _ _ => rfl)
  | d + 1 => blob_writer_dir_b_sound N (blob_writer_dir N d) (blob_writer_dir_sound N d)
def blob_TreeOf_L0T (_N : Nat) (k0 : (List (Str × List UInt8)) → Option (Str × Int × List (Str × List UInt8))) (self : (List (Str × List UInt8)) → (List (Str × (List UInt8))) → Option (Str × Int × List (Str × List UInt8))) (w1008 : List (Str × List UInt8)) (i1032 : List (Str × (List UInt8))) : Option (Str × Int × List (Str × List UInt8)) :=
  br (i1032.isEmpty)
    (k0 w1008)
    (allC i1032 fun p33 q33 =>
    br (decide ((w1008.length + [p33].length) * (24 * Ty.sz (.pr .str (.sl .u8))) ≤ 140737488355328))
      (self (w1008 ++ [p33]) q33)
      none)
def blob_TreeOf_L0 (N : Nat) (k0 : (List (Str × List UInt8)) → Option (Str × Int × List (Str × List UInt8))) : Nat → (List (Str × List UInt8)) → (List (Str × (List UInt8))) → Option (Str × Int × List (Str × List UInt8))
  | 0, _, _ => none
  | n + 1, w1008, i1032 => blob_TreeOf_L0T N k0 (blob_TreeOf_L0 N k0 n) w1008 i1032
def blob_TreeOf (N : Nat) (x0 : List (Str × Bool × List UInt8)) : Option (Str × Int × List (Str × List UInt8)) :=
  bnd (blob_CheckFiles N x0) fun t12 =>
  br (t12 != (0 : Int))
    (some (([] : Str), (t12, ([] : List (Str × List UInt8)))))
    (bnd (blob_writer_dir N N x0 ([] : List (Str × (List UInt8)))) fun t21 =>
    br (decide ((t21.2.length : Int) > (4000 : Int)))
      (some (([] : Str), ((2 : Int), ([] : List (Str × List UInt8)))))
      (blob_TreeOf_L0 N (fun o0_w1008 =>
          bnd (slices_SortFunc_object () o0_w1008) fun t45 =>
          some (t21.1, ((0 : Int), t45))) N ([] : List (Str × List UInt8)) t21.2))
abbrev blob_TreeOf_sg (f : SV [.v (.sl (.pr .str (.pr .bool (.sl .u8))))] → BV [] → Option (Str × Int × List (Str × List UInt8))) : AF := { ps := [.v (.sl (.pr .str (.pr .bool (.sl .u8))))], bs := [], rs := [.v .str, .row 0, .v (.int .i64)], cs := [.row 38 (.pr .str (.sl .u8)) true], R := Str × Int × List (Str × List UInt8), out := fun z => ((z.1, (), z.2.1, ()), (z.2.2, ())), f := f }
abbrev blob_TreeOf_pk : SV [.v .str, .row 0, .v (.int .i64)] → BV [.row 38 (.pr .str (.sl .u8)) true] → (Str × Int × List (Str × List UInt8)) := fun x y => (x.1, x.2.2.1, y.1)
def blob_TreeOf_fn (N : Nat) : FuncId → Option Tmp → Option AF := fun f _ =>
  match f with
    | 6 => some (blob_CheckFiles_sg fun x _ => blob_CheckFiles N x.1)
    | 10 => some (blob_writer_dir_sg fun x y => blob_writer_dir N N x.2.1 y.2.1)
    | 11 => some (slices_SortFunc_object_sg fun x y => slices_SortFunc_object x.2.1 y.1)
    | _ => none
theorem blob_TreeOf_fn_ok (N : Nat) : ∀ f q F, blob_TreeOf_fn N f q = some F → Sound Tryd.prog GW B0G f F := by
  intro f q F h
  unfold blob_TreeOf_fn at h
  split at h
  · cases h; exact blob_CheckFiles_sound N
  · cases h; exact blob_writer_dir_sound N N
  · cases h; exact slices_SortFunc_object_sound
  · cases h
def blob_TreeOf_h : Nat → Hint := fun i =>
  match i with
  | 0 => ⟨[], [7, 8, 32], [1008, 1032], [7, 8], [1008], []⟩
  | _ => ⟨[], [], [], [], [], []⟩
abbrev blob_TreeOf_E (N : Nat) : Env := mkE blob_TreeOf_h (blob_TreeOf_fn N) (fun i => match i with | 2 => true | 3 => true | 4 => true | 5 => true | 6 => true | 7 => true | 8 => true | 9 => true | 10 => true | 26 => true | 42 => true | 43 => true | _ => false) (fun _ => false)
abbrev blob_TreeOf_L0_fs : List (Nat × Sl) := [(7, .v .str), (8, .row 1008), (32, .box 1032 0)]
abbrev blob_TreeOf_L0_bs : List (Nat × Sb) := [(1008, .row 38 (.pr .str (.sl .u8)) true), (1032, .iter (.sl .u8))]
def blob_TreeOf_L0_hd (c7 : Str) (w1008 : List (Str × List UInt8)) (i1032 : List (Str × (List UInt8))) : St := ⟨48, [(7, .v .str c7), (8, .row 1008), (32, .box 1032 0)], [(1008, .row 38 (.pr .str (.sl .u8)) true w1008), (1032, .iter (.sl .u8) i1032 none)]⟩
def blob_TreeOf_L0_tl0 (c7 : Str) (o0_w1008 : List (Str × List UInt8)) : St := ⟨48, [(7, .v .str c7), (8, .row 1008)], [(1008, .row 38 (.pr .str (.sl .u8)) true o0_w1008)]⟩
def blob_TreeOf_L0_G (N : Nat) (c7 : Str) (w1008 : List (Str × List UInt8)) (i1032 : List (Str × (List UInt8))) (k : Ex → St → Option (Str × Int × List (Str × List UInt8))) : Option (Str × Int × List (Str × List UInt8)) :=
  blob_TreeOf_L0 N (fun o0_w1008 => k (.exit 0) (blob_TreeOf_L0_tl0 c7 o0_w1008)) N w1008 i1032
abbrev blob_TreeOf_L0_F (N : Nat) : FV blob_TreeOf_L0_fs → HV blob_TreeOf_L0_bs → (Ex → St → Option (Str × Int × List (Str × List UInt8))) → Option (Str × Int × List (Str × List UInt8)) := fun x y k => blob_TreeOf_L0_G N x.1 y.1 y.2.1 k
noncomputable def blob_TreeOf_LP (N : Nat) : Nat → Code → St → (Ex → St → Option (Str × Int × List (Str × List UInt8))) → Option (Str × Int × List (Str × List UInt8)) := fun i c =>
  match i with
  | 0 => (LPc 48 blob_TreeOf_L0_fs blob_TreeOf_L0_bs (blob_TreeOf_L0_F N) (fun st k => iter (blob_TreeOf_h 0) (exec (blob_TreeOf_E N) N c 0) N st k))
  | i => fun st k => iter (blob_TreeOf_h i) (exec (blob_TreeOf_E N) N c i) N st k
theorem blob_TreeOf_L0_step (N : Nat) (c7 : Str) (KX : Nat → St → Option (Str × Int × List (Str × List UInt8))) (I : St → Option (Str × Int × List (Str × List UInt8))) (w1008 : List (Str × List UInt8)) (i1032 : List (Str × (List UInt8))) :
    execL (blob_TreeOf_LP N) (blob_TreeOf_E N) (cAt (bodyOf Tryd.f4) [true, true, true, true, true, true, false, true, false, false]) 0 (blob_TreeOf_L0_hd c7 w1008 i1032) (roundK (blob_TreeOf_h 0) I KX (resD (blob_TreeOf_E N) Tryd.f4 (blob_TreeOf_sg fun x _ => blob_TreeOf N x.1) blob_TreeOf_pk)) = blob_TreeOf_L0T N (fun o0_w1008 => KX 0 (blob_TreeOf_L0_tl0 c7 o0_w1008)) (fun w1008 i1032 => I (blob_TreeOf_L0_hd c7 w1008 i1032)) w1008 i1032 := by kernel_rfl
theorem blob_TreeOf_L0_ok (N : Nat) : ∀ x y k, (∀ st, k .ret st = (resD (blob_TreeOf_E N) Tryd.f4 (blob_TreeOf_sg fun x _ => blob_TreeOf N x.1) blob_TreeOf_pk) st) → iter (blob_TreeOf_h 0) (exec (blob_TreeOf_E N) N (cAt (bodyOf Tryd.f4) [true, true, true, true, true, true, false, true, false, false]) 0) N ⟨48, unF blob_TreeOf_L0_fs x, unH blob_TreeOf_L0_bs y⟩ k = blob_TreeOf_L0_F N x y k := fun x y k hk =>
  iter_link (S := (List (Str × List UInt8)) × (List (Str × (List UInt8))) × Unit) (blob_TreeOf_h 0) _ (execL (blob_TreeOf_LP N) (blob_TreeOf_E N) (cAt (bodyOf Tryd.f4) [true, true, true, true, true, true, false, true, false, false]) 0) (resD (blob_TreeOf_E N) Tryd.f4 (blob_TreeOf_sg fun x _ => blob_TreeOf N x.1) blob_TreeOf_pk) (fun st k hk => execL_eq _ _ N _ (cAt (bodyOf Tryd.f4) [true, true, true, true, true, true, false, true, false, false]) 0 (show LoopsOk (blob_TreeOf_LP N) (blob_TreeOf_E N) N (resD (blob_TreeOf_E N) Tryd.f4 (blob_TreeOf_sg fun x _ => blob_TreeOf N x.1) blob_TreeOf_pk) [] from trivial) st k hk) (fun s => blob_TreeOf_L0_hd x.1 s.1 s.2.1) k hk
    (fun self s => blob_TreeOf_L0T N (fun o0_w1008 => k (.exit 0) (blob_TreeOf_L0_tl0 x.1 o0_w1008)) (fun w1008 i1032 => self (w1008, i1032, ())) s.1 s.2.1) (fun n s => blob_TreeOf_L0 N (fun o0_w1008 => k (.exit 0) (blob_TreeOf_L0_tl0 x.1 o0_w1008)) n s.1 s.2.1) (fun _ => rfl) (fun _ _ => rfl)
    (fun I s => blob_TreeOf_L0_step N x.1 (fun j => k (.exit j)) I s.1 s.2.1) N (y.1, y.2.1, ())
theorem blob_TreeOf_lp0 (N : Nat) : ∀ st k, (∀ st, k .ret st = (resD (blob_TreeOf_E N) Tryd.f4 (blob_TreeOf_sg fun x _ => blob_TreeOf N x.1) blob_TreeOf_pk) st) → blob_TreeOf_LP N 0 (cAt (bodyOf Tryd.f4) [true, true, true, true, true, true, false, true, false, false]) st k = iter (Env.hint (blob_TreeOf_E N) 0) (exec (blob_TreeOf_E N) N (cAt (bodyOf Tryd.f4) [true, true, true, true, true, true, false, true, false, false]) 0) N st k := fun st k hk => LPc_eq 48 blob_TreeOf_L0_fs blob_TreeOf_L0_bs _ _ (resD (blob_TreeOf_E N) Tryd.f4 (blob_TreeOf_sg fun x _ => blob_TreeOf N x.1) blob_TreeOf_pk) (blob_TreeOf_L0_ok N) _ st k hk (rfl)
theorem blob_TreeOf_core (N : Nat) (x : SV [.v (.sl (.pr .str (.pr .bool (.sl .u8))))]) (y : BV []) : runL (blob_TreeOf_E N) Tryd.f4 (blob_TreeOf_sg fun x _ => blob_TreeOf N x.1) blob_TreeOf_pk (blob_TreeOf_LP N) x y = blob_TreeOf N x.1 := by kernel_rfl
theorem blob_TreeOf_sound (N : Nat) : Sound Tryd.prog GW B0G 4 (blob_TreeOf_sg fun x _ => blob_TreeOf N x.1) :=
  runD_sound (mkE_ok blob_TreeOf_h (blob_TreeOf_fn N) _ _ (blob_TreeOf_fn_ok N)) Tryd.func4 rfl Tryd.call4 (blob_TreeOf_sg fun x _ => blob_TreeOf N x.1) blob_TreeOf_pk (fun _ _ => rfl) N (fun x y _ h => ((runL_eq (blob_TreeOf_E N) N Tryd.f4 (blob_TreeOf_sg fun x _ => blob_TreeOf N x.1) blob_TreeOf_pk (blob_TreeOf_LP N) (show LoopsOk (blob_TreeOf_LP N) (blob_TreeOf_E N) N (resD (blob_TreeOf_E N) Tryd.f4 (blob_TreeOf_sg fun x _ => blob_TreeOf N x.1) blob_TreeOf_pk) [(0, (cAt (bodyOf Tryd.f4) [true, true, true, true, true, true, false, true, false, false]))] from ⟨blob_TreeOf_lp0 N, trivial⟩) x y).trans (blob_TreeOf_core N x y)).trans h)
def ref1_within (_N : Nat) (x0 : Int) (x1 : Int) (x2 : Int) : Option Bool :=
  br (decide (x0 ≥ x1))
    (some (decide (x0 ≤ x2)))
    (some false)
abbrev ref1_within_sg (f : SV [.v (.int .i64), .v (.int .i64), .v (.int .i64)] → BV [] → Option (Bool)) : AF := { ps := [.v (.int .i64), .v (.int .i64), .v (.int .i64)], bs := [], rs := [.v .bool], cs := [], R := Bool, out := fun z => ((z, ()), ()), f := f }
abbrev ref1_within_pk : SV [.v .bool] → BV [] → Bool := fun x _ => x.1
def ref1_within_fn (_N : Nat) : FuncId → Option Tmp → Option AF := fun f _ =>
  match f with
    | _ => none
theorem ref1_within_fn_ok (N : Nat) : ∀ f q F, ref1_within_fn N f q = some F → Sound Tryd.prog GW B0G f F := by
  intro f q F h
  unfold ref1_within_fn at h
  split at h
  · cases h
def ref1_within_h : Nat → Hint := fun i =>
  match i with
  | _ => ⟨[], [], [], [], [], []⟩
abbrev ref1_within_E (N : Nat) : Env := mkE ref1_within_h (ref1_within_fn N) (fun _ => false) (fun _ => false)
noncomputable def ref1_within_LP (N : Nat) : Nat → Code → St → (Ex → St → Option Bool) → Option Bool := fun i c =>
  match i with
  | i => fun st k => iter (ref1_within_h i) (exec (ref1_within_E N) N c i) N st k
theorem ref1_within_core (N : Nat) (x : SV [.v (.int .i64), .v (.int .i64), .v (.int .i64)]) (y : BV []) : runL (ref1_within_E N) Tryd.f35 (ref1_within_sg fun x _ => ref1_within N x.1 x.2.1 x.2.2.1) ref1_within_pk (ref1_within_LP N) x y = ref1_within N x.1 x.2.1 x.2.2.1 := by kernel_rfl
theorem ref1_within_sound (N : Nat) : Sound Tryd.prog GW B0G 35 (ref1_within_sg fun x _ => ref1_within N x.1 x.2.1 x.2.2.1) :=
  runD_sound (mkE_ok ref1_within_h (ref1_within_fn N) _ _ (ref1_within_fn_ok N)) Tryd.func35 rfl Tryd.call35 (ref1_within_sg fun x _ => ref1_within N x.1 x.2.1 x.2.2.1) ref1_within_pk (fun _ _ => rfl) N (fun x y _ h => ((runL_eq (ref1_within_E N) N Tryd.f35 (ref1_within_sg fun x _ => ref1_within N x.1 x.2.1 x.2.2.1) ref1_within_pk (ref1_within_LP N) (show LoopsOk (ref1_within_LP N) (ref1_within_E N) N (resD (ref1_within_E N) Tryd.f35 (ref1_within_sg fun x _ => ref1_within N x.1 x.2.1 x.2.2.1) ref1_within_pk) [] from trivial) x y).trans (ref1_within_core N x y)).trans h)
def ref1_partByte (_N : Nat) (x0 : UInt8) : Option Bool :=
  br (decide (x0 ≥ (97 : UInt8)))
    (br (decide (x0 ≤ (122 : UInt8)))
      (some true)
      (br (decide (x0 ≥ (65 : UInt8)))
        (br (decide (x0 ≤ (90 : UInt8)))
          (some true)
          (br (decide (x0 ≥ (48 : UInt8)))
            (br (decide (x0 ≤ (57 : UInt8)))
              (some true)
              (br (x0 == (46 : UInt8))
                (some true)
                (br (x0 == (95 : UInt8))
                  (some true)
                  (br (x0 == (45 : UInt8))
                    (some true)
                    (some (x0 == (43 : UInt8)))))))
            (br (x0 == (46 : UInt8))
              (some true)
              (br (x0 == (95 : UInt8))
                (some true)
                (br (x0 == (45 : UInt8))
                  (some true)
                  (some (x0 == (43 : UInt8))))))))
        (br (decide (x0 ≥ (48 : UInt8)))
          (br (decide (x0 ≤ (57 : UInt8)))
            (some true)
            (br (x0 == (46 : UInt8))
              (some true)
              (br (x0 == (95 : UInt8))
                (some true)
                (br (x0 == (45 : UInt8))
                  (some true)
                  (some (x0 == (43 : UInt8)))))))
          (br (x0 == (46 : UInt8))
            (some true)
            (br (x0 == (95 : UInt8))
              (some true)
              (br (x0 == (45 : UInt8))
                (some true)
                (some (x0 == (43 : UInt8)))))))))
    (br (decide (x0 ≥ (65 : UInt8)))
      (br (decide (x0 ≤ (90 : UInt8)))
        (some true)
        (br (decide (x0 ≥ (48 : UInt8)))
          (br (decide (x0 ≤ (57 : UInt8)))
            (some true)
            (br (x0 == (46 : UInt8))
              (some true)
              (br (x0 == (95 : UInt8))
                (some true)
                (br (x0 == (45 : UInt8))
                  (some true)
                  (some (x0 == (43 : UInt8)))))))
          (br (x0 == (46 : UInt8))
            (some true)
            (br (x0 == (95 : UInt8))
              (some true)
              (br (x0 == (45 : UInt8))
                (some true)
                (some (x0 == (43 : UInt8))))))))
      (br (decide (x0 ≥ (48 : UInt8)))
        (br (decide (x0 ≤ (57 : UInt8)))
          (some true)
          (br (x0 == (46 : UInt8))
            (some true)
            (br (x0 == (95 : UInt8))
              (some true)
              (br (x0 == (45 : UInt8))
                (some true)
                (some (x0 == (43 : UInt8)))))))
        (br (x0 == (46 : UInt8))
          (some true)
          (br (x0 == (95 : UInt8))
            (some true)
            (br (x0 == (45 : UInt8))
              (some true)
              (some (x0 == (43 : UInt8))))))))
abbrev ref1_partByte_sg (f : SV [.v .u8] → BV [] → Option (Bool)) : AF := { ps := [.v .u8], bs := [], rs := [.v .bool], cs := [], R := Bool, out := fun z => ((z, ()), ()), f := f }
abbrev ref1_partByte_pk : SV [.v .bool] → BV [] → Bool := fun x _ => x.1
def ref1_partByte_fn (_N : Nat) : FuncId → Option Tmp → Option AF := fun f _ =>
  match f with
    | _ => none
theorem ref1_partByte_fn_ok (N : Nat) : ∀ f q F, ref1_partByte_fn N f q = some F → Sound Tryd.prog GW B0G f F := by
  intro f q F h
  unfold ref1_partByte_fn at h
  split at h
  · cases h
def ref1_partByte_h : Nat → Hint := fun i =>
  match i with
  | _ => ⟨[], [], [], [], [], []⟩
abbrev ref1_partByte_E (N : Nat) : Env := mkE ref1_partByte_h (ref1_partByte_fn N) (fun _ => false) (fun _ => false)
noncomputable def ref1_partByte_LP (N : Nat) : Nat → Code → St → (Ex → St → Option Bool) → Option Bool := fun i c =>
  match i with
  | i => fun st k => iter (ref1_partByte_h i) (exec (ref1_partByte_E N) N c i) N st k
theorem ref1_partByte_core (N : Nat) (x : SV [.v .u8]) (y : BV []) : runL (ref1_partByte_E N) Tryd.f56 (ref1_partByte_sg fun x _ => ref1_partByte N x.1) ref1_partByte_pk (ref1_partByte_LP N) x y = ref1_partByte N x.1 := by kernel_rfl
theorem ref1_partByte_sound (N : Nat) : Sound Tryd.prog GW B0G 56 (ref1_partByte_sg fun x _ => ref1_partByte N x.1) :=
  runD_sound (mkE_ok ref1_partByte_h (ref1_partByte_fn N) _ _ (ref1_partByte_fn_ok N)) Tryd.func56 rfl Tryd.call56 (ref1_partByte_sg fun x _ => ref1_partByte N x.1) ref1_partByte_pk (fun _ _ => rfl) N (fun x y _ h => ((runL_eq (ref1_partByte_E N) N Tryd.f56 (ref1_partByte_sg fun x _ => ref1_partByte N x.1) ref1_partByte_pk (ref1_partByte_LP N) (show LoopsOk (ref1_partByte_LP N) (ref1_partByte_E N) N (resD (ref1_partByte_E N) Tryd.f56 (ref1_partByte_sg fun x _ => ref1_partByte N x.1) ref1_partByte_pk) [] from trivial) x y).trans (ref1_partByte_core N x y)).trans h)
def ref1_isPart_L0T (N : Nat) (x0 : Str) (k0 : Option Bool) (self : Int → Option Bool) (s3 : Int) : Option Bool :=
  br (decide (s3 < (x0.length : Int)))
    (bnd (geti x0 s3) fun t12 =>
    bnd (ref1_partByte N t12) fun t13 =>
    br (!t13)
      (some false)
      (self (IntKind.i64.wrap (s3 + (1 : Int)))))
    (k0)
def ref1_isPart_L0 (N : Nat) (x0 : Str) (k0 : Option Bool) : Nat → Int → Option Bool
  | 0, _ => none
  | n + 1, s3 => ref1_isPart_L0T N x0 k0 (ref1_isPart_L0 N x0 k0 n) s3
def ref1_isPart (N : Nat) (x0 : Str) : Option Bool :=
  ref1_isPart_L0 N x0 (br (!(x0 == ([] : Str)))
        (br (!(x0 == ([46] : Str)))
          (some (!(x0 == ([46, 46] : Str))))
          (some false))
        (some false)) N (0 : Int)
abbrev ref1_isPart_sg (f : SV [.v .str] → BV [] → Option (Bool)) : AF := { ps := [.v .str], bs := [], rs := [.v .bool], cs := [], R := Bool, out := fun z => ((z, ()), ()), f := f }
abbrev ref1_isPart_pk : SV [.v .bool] → BV [] → Bool := fun x _ => x.1
def ref1_isPart_fn (N : Nat) : FuncId → Option Tmp → Option AF := fun f _ =>
  match f with
    | 56 => some (ref1_partByte_sg fun x _ => ref1_partByte N x.1)
    | _ => none
theorem ref1_isPart_fn_ok (N : Nat) : ∀ f q F, ref1_isPart_fn N f q = some F → Sound Tryd.prog GW B0G f F := by
  intro f q F h
  unfold ref1_isPart_fn at h
  split at h
  · cases h; exact ref1_partByte_sound N
  · cases h
def ref1_isPart_h : Nat → Hint := fun i =>
  match i with
  | 0 => ⟨[], [0, 3], [], [0], [], []⟩
  | _ => ⟨[], [], [], [], [], []⟩
abbrev ref1_isPart_E (N : Nat) : Env := mkE ref1_isPart_h (ref1_isPart_fn N) (fun _ => false) (fun _ => false)
abbrev ref1_isPart_L0_fs : List (Nat × Sl) := [(0, .v .str), (3, .v (.int .i64))]
abbrev ref1_isPart_L0_bs : List (Nat × Sb) := []
def ref1_isPart_L0_hd (x0 : Str) (s3 : Int) : St := ⟨25, [(0, .v .str x0), (3, .v (.int .i64) s3)], []⟩
def ref1_isPart_L0_tl0 (x0 : Str) : St := ⟨25, [(0, .v .str x0)], []⟩
def ref1_isPart_L0_G (N : Nat) (x0 : Str) (s3 : Int) (k : Ex → St → Option Bool) : Option Bool :=
  ref1_isPart_L0 N x0 (k (.exit 0) (ref1_isPart_L0_tl0 x0)) N s3
abbrev ref1_isPart_L0_F (N : Nat) : FV ref1_isPart_L0_fs → HV ref1_isPart_L0_bs → (Ex → St → Option Bool) → Option Bool := fun x _ k => ref1_isPart_L0_G N x.1 x.2.1 k
noncomputable def ref1_isPart_LP (N : Nat) : Nat → Code → St → (Ex → St → Option Bool) → Option Bool := fun i c =>
  match i with
  | 0 => (LPc 25 ref1_isPart_L0_fs ref1_isPart_L0_bs (ref1_isPart_L0_F N) (fun st k => iter (ref1_isPart_h 0) (exec (ref1_isPart_E N) N c 0) N st k))
  | i => fun st k => iter (ref1_isPart_h i) (exec (ref1_isPart_E N) N c i) N st k
theorem ref1_isPart_L0_step (N : Nat) (x0 : Str) (KX : Nat → St → Option Bool) (I : St → Option Bool) (s3 : Int) :
    execL (ref1_isPart_LP N) (ref1_isPart_E N) (cAt (bodyOf Tryd.f36) [true, false, true, false, false]) 0 (ref1_isPart_L0_hd x0 s3) (roundK (ref1_isPart_h 0) I KX (resD (ref1_isPart_E N) Tryd.f36 (ref1_isPart_sg fun x _ => ref1_isPart N x.1) ref1_isPart_pk)) = ref1_isPart_L0T N x0 (KX 0 (ref1_isPart_L0_tl0 x0)) (fun s3 => I (ref1_isPart_L0_hd x0 s3)) s3 := by kernel_rfl
theorem ref1_isPart_L0_ok (N : Nat) : ∀ x y k, (∀ st, k .ret st = (resD (ref1_isPart_E N) Tryd.f36 (ref1_isPart_sg fun x _ => ref1_isPart N x.1) ref1_isPart_pk) st) → iter (ref1_isPart_h 0) (exec (ref1_isPart_E N) N (cAt (bodyOf Tryd.f36) [true, false, true, false, false]) 0) N ⟨25, unF ref1_isPart_L0_fs x, unH ref1_isPart_L0_bs y⟩ k = ref1_isPart_L0_F N x y k := fun x _ k hk =>
  iter_link (S := (Int) × Unit) (ref1_isPart_h 0) _ (execL (ref1_isPart_LP N) (ref1_isPart_E N) (cAt (bodyOf Tryd.f36) [true, false, true, false, false]) 0) (resD (ref1_isPart_E N) Tryd.f36 (ref1_isPart_sg fun x _ => ref1_isPart N x.1) ref1_isPart_pk) (fun st k hk => execL_eq _ _ N _ (cAt (bodyOf Tryd.f36) [true, false, true, false, false]) 0 (show LoopsOk (ref1_isPart_LP N) (ref1_isPart_E N) N (resD (ref1_isPart_E N) Tryd.f36 (ref1_isPart_sg fun x _ => ref1_isPart N x.1) ref1_isPart_pk) [] from trivial) st k hk) (fun s => ref1_isPart_L0_hd x.1 s.1) k hk
    (fun self s => ref1_isPart_L0T N x.1 (k (.exit 0) (ref1_isPart_L0_tl0 x.1)) (fun s3 => self (s3, ())) s.1) (fun n s => ref1_isPart_L0 N x.1 (k (.exit 0) (ref1_isPart_L0_tl0 x.1)) n s.1) (fun _ => rfl) (fun _ _ => rfl)
    (fun I s => ref1_isPart_L0_step N x.1 (fun j => k (.exit j)) I s.1) N (x.2.1, ())
theorem ref1_isPart_lp0 (N : Nat) : ∀ st k, (∀ st, k .ret st = (resD (ref1_isPart_E N) Tryd.f36 (ref1_isPart_sg fun x _ => ref1_isPart N x.1) ref1_isPart_pk) st) → ref1_isPart_LP N 0 (cAt (bodyOf Tryd.f36) [true, false, true, false, false]) st k = iter (Env.hint (ref1_isPart_E N) 0) (exec (ref1_isPart_E N) N (cAt (bodyOf Tryd.f36) [true, false, true, false, false]) 0) N st k := fun st k hk => LPc_eq 25 ref1_isPart_L0_fs ref1_isPart_L0_bs _ _ (resD (ref1_isPart_E N) Tryd.f36 (ref1_isPart_sg fun x _ => ref1_isPart N x.1) ref1_isPart_pk) (ref1_isPart_L0_ok N) _ st k hk (rfl)
theorem ref1_isPart_core (N : Nat) (x : SV [.v .str]) (y : BV []) : runL (ref1_isPart_E N) Tryd.f36 (ref1_isPart_sg fun x _ => ref1_isPart N x.1) ref1_isPart_pk (ref1_isPart_LP N) x y = ref1_isPart N x.1 := by kernel_rfl
theorem ref1_isPart_sound (N : Nat) : Sound Tryd.prog GW B0G 36 (ref1_isPart_sg fun x _ => ref1_isPart N x.1) :=
  runD_sound (mkE_ok ref1_isPart_h (ref1_isPart_fn N) _ _ (ref1_isPart_fn_ok N)) Tryd.func36 rfl Tryd.call36 (ref1_isPart_sg fun x _ => ref1_isPart N x.1) ref1_isPart_pk (fun _ _ => rfl) N (fun x y _ h => ((runL_eq (ref1_isPart_E N) N Tryd.f36 (ref1_isPart_sg fun x _ => ref1_isPart N x.1) ref1_isPart_pk (ref1_isPart_LP N) (show LoopsOk (ref1_isPart_LP N) (ref1_isPart_E N) N (resD (ref1_isPart_E N) Tryd.f36 (ref1_isPart_sg fun x _ => ref1_isPart N x.1) ref1_isPart_pk) [(0, (cAt (bodyOf Tryd.f36) [true, false, true, false, false]))] from ⟨ref1_isPart_lp0 N, trivial⟩) x y).trans (ref1_isPart_core N x y)).trans h)
def ref1_IsPath_L0T (N : Nat) (t10 : List Str) (k0 : Option Bool) (self : Int → Option Bool) (s4 : Int) : Option Bool :=
  br (decide (s4 < (t10.length : Int)))
    (bnd (geti t10 s4) fun t19 =>
    bnd (ref1_isPart N t19) fun t21 =>
    br (!t21)
      (some false)
      (self (IntKind.i64.wrap (s4 + (1 : Int)))))
    (k0)
def ref1_IsPath_L0 (N : Nat) (t10 : List Str) (k0 : Option Bool) : Nat → Int → Option Bool
  | 0, _ => none
  | n + 1, s4 => ref1_IsPath_L0T N t10 k0 (ref1_IsPath_L0 N t10 k0 n) s4
def ref1_IsPath (N : Nat) (x0 : Str) : Option Bool :=
  bnd (ref1_within N (x0.length : Int) (1 : Int) (200 : Int)) fun t7 =>
  br (!t7)
    (some false)
    (bnd (strings_Split x0 ([47] : Str)) fun t10 =>
    ref1_IsPath_L0 N t10 (some true) N (0 : Int))
abbrev ref1_IsPath_sg (f : SV [.v .str] → BV [] → Option (Bool)) : AF := { ps := [.v .str], bs := [], rs := [.v .bool], cs := [], R := Bool, out := fun z => ((z, ()), ()), f := f }
abbrev ref1_IsPath_pk : SV [.v .bool] → BV [] → Bool := fun x _ => x.1
def ref1_IsPath_fn (N : Nat) : FuncId → Option Tmp → Option AF := fun f _ =>
  match f with
    | 33 => some (strings_Split_sg fun x _ => strings_Split x.1 x.2.1)
    | 35 => some (ref1_within_sg fun x _ => ref1_within N x.1 x.2.1 x.2.2.1)
    | 36 => some (ref1_isPart_sg fun x _ => ref1_isPart N x.1)
    | _ => none
theorem ref1_IsPath_fn_ok (N : Nat) : ∀ f q F, ref1_IsPath_fn N f q = some F → Sound Tryd.prog GW B0G f F := by
  intro f q F h
  unfold ref1_IsPath_fn at h
  split at h
  · cases h; exact strings_Split_sound
  · cases h; exact ref1_within_sound N
  · cases h; exact ref1_isPart_sound N
  · cases h
def ref1_IsPath_h : Nat → Hint := fun i =>
  match i with
  | 0 => ⟨[], [3, 4], [], [], [], []⟩
  | _ => ⟨[], [], [], [], [], []⟩
abbrev ref1_IsPath_E (N : Nat) : Env := mkE ref1_IsPath_h (ref1_IsPath_fn N) (fun _ => false) (fun _ => false)
abbrev ref1_IsPath_L0_fs : List (Nat × Sl) := [(3, .v (.sl .str)), (4, .v (.int .i64))]
abbrev ref1_IsPath_L0_bs : List (Nat × Sb) := []
def ref1_IsPath_L0_hd (t10 : List Str) (s4 : Int) : St := ⟨23, [(3, .v (.sl .str) t10), (4, .v (.int .i64) s4)], []⟩
def ref1_IsPath_L0_tl0 (_t10 : List Str) : St := ⟨23, [], []⟩
def ref1_IsPath_L0_G (N : Nat) (t10 : List Str) (s4 : Int) (k : Ex → St → Option Bool) : Option Bool :=
  ref1_IsPath_L0 N t10 (k (.exit 0) (ref1_IsPath_L0_tl0 t10)) N s4
abbrev ref1_IsPath_L0_F (N : Nat) : FV ref1_IsPath_L0_fs → HV ref1_IsPath_L0_bs → (Ex → St → Option Bool) → Option Bool := fun x _ k => ref1_IsPath_L0_G N x.1 x.2.1 k
noncomputable def ref1_IsPath_LP (N : Nat) : Nat → Code → St → (Ex → St → Option Bool) → Option Bool := fun i c =>
  match i with
  | 0 => (LPc 23 ref1_IsPath_L0_fs ref1_IsPath_L0_bs (ref1_IsPath_L0_F N) (fun st k => iter (ref1_IsPath_h 0) (exec (ref1_IsPath_E N) N c 0) N st k))
  | i => fun st k => iter (ref1_IsPath_h i) (exec (ref1_IsPath_E N) N c i) N st k
theorem ref1_IsPath_L0_step (N : Nat) (t10 : List Str) (KX : Nat → St → Option Bool) (I : St → Option Bool) (s4 : Int) :
    execL (ref1_IsPath_LP N) (ref1_IsPath_E N) (cAt (bodyOf Tryd.f18) [true, true, true, false, true, false, false]) 0 (ref1_IsPath_L0_hd t10 s4) (roundK (ref1_IsPath_h 0) I KX (resD (ref1_IsPath_E N) Tryd.f18 (ref1_IsPath_sg fun x _ => ref1_IsPath N x.1) ref1_IsPath_pk)) = ref1_IsPath_L0T N t10 (KX 0 (ref1_IsPath_L0_tl0 t10)) (fun s4 => I (ref1_IsPath_L0_hd t10 s4)) s4 := by kernel_rfl
theorem ref1_IsPath_L0_ok (N : Nat) : ∀ x y k, (∀ st, k .ret st = (resD (ref1_IsPath_E N) Tryd.f18 (ref1_IsPath_sg fun x _ => ref1_IsPath N x.1) ref1_IsPath_pk) st) → iter (ref1_IsPath_h 0) (exec (ref1_IsPath_E N) N (cAt (bodyOf Tryd.f18) [true, true, true, false, true, false, false]) 0) N ⟨23, unF ref1_IsPath_L0_fs x, unH ref1_IsPath_L0_bs y⟩ k = ref1_IsPath_L0_F N x y k := fun x _ k hk =>
  iter_link (S := (Int) × Unit) (ref1_IsPath_h 0) _ (execL (ref1_IsPath_LP N) (ref1_IsPath_E N) (cAt (bodyOf Tryd.f18) [true, true, true, false, true, false, false]) 0) (resD (ref1_IsPath_E N) Tryd.f18 (ref1_IsPath_sg fun x _ => ref1_IsPath N x.1) ref1_IsPath_pk) (fun st k hk => execL_eq _ _ N _ (cAt (bodyOf Tryd.f18) [true, true, true, false, true, false, false]) 0 (show LoopsOk (ref1_IsPath_LP N) (ref1_IsPath_E N) N (resD (ref1_IsPath_E N) Tryd.f18 (ref1_IsPath_sg fun x _ => ref1_IsPath N x.1) ref1_IsPath_pk) [] from trivial) st k hk) (fun s => ref1_IsPath_L0_hd x.1 s.1) k hk
    (fun self s => ref1_IsPath_L0T N x.1 (k (.exit 0) (ref1_IsPath_L0_tl0 x.1)) (fun s4 => self (s4, ())) s.1) (fun n s => ref1_IsPath_L0 N x.1 (k (.exit 0) (ref1_IsPath_L0_tl0 x.1)) n s.1) (fun _ => rfl) (fun _ _ => rfl)
    (fun I s => ref1_IsPath_L0_step N x.1 (fun j => k (.exit j)) I s.1) N (x.2.1, ())
theorem ref1_IsPath_lp0 (N : Nat) : ∀ st k, (∀ st, k .ret st = (resD (ref1_IsPath_E N) Tryd.f18 (ref1_IsPath_sg fun x _ => ref1_IsPath N x.1) ref1_IsPath_pk) st) → ref1_IsPath_LP N 0 (cAt (bodyOf Tryd.f18) [true, true, true, false, true, false, false]) st k = iter (Env.hint (ref1_IsPath_E N) 0) (exec (ref1_IsPath_E N) N (cAt (bodyOf Tryd.f18) [true, true, true, false, true, false, false]) 0) N st k := fun st k hk => LPc_eq 23 ref1_IsPath_L0_fs ref1_IsPath_L0_bs _ _ (resD (ref1_IsPath_E N) Tryd.f18 (ref1_IsPath_sg fun x _ => ref1_IsPath N x.1) ref1_IsPath_pk) (ref1_IsPath_L0_ok N) _ st k hk (rfl)
theorem ref1_IsPath_core (N : Nat) (x : SV [.v .str]) (y : BV []) : runL (ref1_IsPath_E N) Tryd.f18 (ref1_IsPath_sg fun x _ => ref1_IsPath N x.1) ref1_IsPath_pk (ref1_IsPath_LP N) x y = ref1_IsPath N x.1 := by kernel_rfl
theorem ref1_IsPath_sound (N : Nat) : Sound Tryd.prog GW B0G 18 (ref1_IsPath_sg fun x _ => ref1_IsPath N x.1) :=
  runD_sound (mkE_ok ref1_IsPath_h (ref1_IsPath_fn N) _ _ (ref1_IsPath_fn_ok N)) Tryd.func18 rfl Tryd.call18 (ref1_IsPath_sg fun x _ => ref1_IsPath N x.1) ref1_IsPath_pk (fun _ _ => rfl) N (fun x y _ h => ((runL_eq (ref1_IsPath_E N) N Tryd.f18 (ref1_IsPath_sg fun x _ => ref1_IsPath N x.1) ref1_IsPath_pk (ref1_IsPath_LP N) (show LoopsOk (ref1_IsPath_LP N) (ref1_IsPath_E N) N (resD (ref1_IsPath_E N) Tryd.f18 (ref1_IsPath_sg fun x _ => ref1_IsPath N x.1) ref1_IsPath_pk) [(0, (cAt (bodyOf Tryd.f18) [true, true, true, false, true, false, false]))] from ⟨ref1_IsPath_lp0 N, trivial⟩) x y).trans (ref1_IsPath_core N x y)).trans h)
def ref1_there_L0T (_N : Nat) (x0 : List (Str × Bool × List UInt8)) (x1 : Str) (k0 : Int → Option Bool) (self : Int → Int → Option Bool) (s5 : Int) (s6 : Int) : Option Bool :=
  br (decide (s5 < s6))
    (br ((2 : Int) == 0)
      none
      (bnd (geti x0 (IntKind.i64.wrap (Int.tdiv (IntKind.i64.wrap (s5 + s6)) (2 : Int)))) fun t19 =>
      br (Op.bytesLess t19.1 x1)
        (self (IntKind.i64.wrap ((IntKind.i64.wrap (Int.tdiv (IntKind.i64.wrap (s5 + s6)) (2 : Int))) + (1 : Int))) s6)
        (self s5 (IntKind.i64.wrap (Int.tdiv (IntKind.i64.wrap (s5 + s6)) (2 : Int))))))
    (k0 s5)
def ref1_there_L0 (N : Nat) (x0 : List (Str × Bool × List UInt8)) (x1 : Str) (k0 : Int → Option Bool) : Nat → Int → Int → Option Bool
  | 0, _, _ => none
  | n + 1, s5, s6 => ref1_there_L0T N x0 x1 k0 (ref1_there_L0 N x0 x1 k0 n) s5 s6
def ref1_there (N : Nat) (x0 : List (Str × Bool × List UInt8)) (x1 : Str) : Option Bool :=
  ref1_there_L0 N x0 x1 (fun o0_5 =>
      br (decide (o0_5 < (x0.length : Int)))
        (bnd (geti x0 o0_5) fun t34 =>
        some (t34.1 == x1))
        (some false)) N (0 : Int) (x0.length : Int)
abbrev ref1_there_sg (f : SV [.v (.sl (.pr .str (.pr .bool (.sl .u8)))), .v .str] → BV [] → Option (Bool)) : AF := { ps := [.v (.sl (.pr .str (.pr .bool (.sl .u8)))), .v .str], bs := [], rs := [.v .bool], cs := [], R := Bool, out := fun z => ((z, ()), ()), f := f }
abbrev ref1_there_pk : SV [.v .bool] → BV [] → Bool := fun x _ => x.1
def ref1_there_fn (_N : Nat) : FuncId → Option Tmp → Option AF := fun f _ =>
  match f with
    | _ => none
theorem ref1_there_fn_ok (N : Nat) : ∀ f q F, ref1_there_fn N f q = some F → Sound Tryd.prog GW B0G f F := by
  intro f q F h
  unfold ref1_there_fn at h
  split at h
  · cases h
def ref1_there_h : Nat → Hint := fun i =>
  match i with
  | 0 => ⟨[], [0, 1, 5, 6], [], [0, 1, 5], [], []⟩
  | _ => ⟨[], [], [], [], [], []⟩
abbrev ref1_there_E (N : Nat) : Env := mkE ref1_there_h (ref1_there_fn N) (fun _ => false) (fun _ => false)
abbrev ref1_there_L0_fs : List (Nat × Sl) := [(0, .v (.sl (.pr .str (.pr .bool (.sl .u8))))), (1, .v .str), (5, .v (.int .i64)), (6, .v (.int .i64))]
abbrev ref1_there_L0_bs : List (Nat × Sb) := []
def ref1_there_L0_hd (x0 : List (Str × Bool × List UInt8)) (x1 : Str) (s5 : Int) (s6 : Int) : St := ⟨40, [(0, .v (.sl (.pr .str (.pr .bool (.sl .u8)))) x0), (1, .v .str x1), (5, .v (.int .i64) s5), (6, .v (.int .i64) s6)], []⟩
def ref1_there_L0_tl0 (x0 : List (Str × Bool × List UInt8)) (x1 : Str) (o0_5 : Int) : St := ⟨40, [(0, .v (.sl (.pr .str (.pr .bool (.sl .u8)))) x0), (1, .v .str x1), (5, .v (.int .i64) o0_5)], []⟩
def ref1_there_L0_G (N : Nat) (x0 : List (Str × Bool × List UInt8)) (x1 : Str) (s5 : Int) (s6 : Int) (k : Ex → St → Option Bool) : Option Bool :=
  ref1_there_L0 N x0 x1 (fun o0_5 => k (.exit 0) (ref1_there_L0_tl0 x0 x1 o0_5)) N s5 s6
abbrev ref1_there_L0_F (N : Nat) : FV ref1_there_L0_fs → HV ref1_there_L0_bs → (Ex → St → Option Bool) → Option Bool := fun x _ k => ref1_there_L0_G N x.1 x.2.1 x.2.2.1 x.2.2.2.1 k
noncomputable def ref1_there_LP (N : Nat) : Nat → Code → St → (Ex → St → Option Bool) → Option Bool := fun i c =>
  match i with
  | 0 => (LPc 40 ref1_there_L0_fs ref1_there_L0_bs (ref1_there_L0_F N) (fun st k => iter (ref1_there_h 0) (exec (ref1_there_E N) N c 0) N st k))
  | i => fun st k => iter (ref1_there_h i) (exec (ref1_there_E N) N c i) N st k
theorem ref1_there_L0_step (N : Nat) (x0 : List (Str × Bool × List UInt8)) (x1 : Str) (KX : Nat → St → Option Bool) (I : St → Option Bool) (s5 : Int) (s6 : Int) :
    execL (ref1_there_LP N) (ref1_there_E N) (cAt (bodyOf Tryd.f37) [true, true, false, false, false]) 0 (ref1_there_L0_hd x0 x1 s5 s6) (roundK (ref1_there_h 0) I KX (resD (ref1_there_E N) Tryd.f37 (ref1_there_sg fun x _ => ref1_there N x.1 x.2.1) ref1_there_pk)) = ref1_there_L0T N x0 x1 (fun o0_5 => KX 0 (ref1_there_L0_tl0 x0 x1 o0_5)) (fun s5 s6 => I (ref1_there_L0_hd x0 x1 s5 s6)) s5 s6 := by kernel_rfl
theorem ref1_there_L0_ok (N : Nat) : ∀ x y k, (∀ st, k .ret st = (resD (ref1_there_E N) Tryd.f37 (ref1_there_sg fun x _ => ref1_there N x.1 x.2.1) ref1_there_pk) st) → iter (ref1_there_h 0) (exec (ref1_there_E N) N (cAt (bodyOf Tryd.f37) [true, true, false, false, false]) 0) N ⟨40, unF ref1_there_L0_fs x, unH ref1_there_L0_bs y⟩ k = ref1_there_L0_F N x y k := fun x _ k hk =>
  iter_link (S := (Int) × (Int) × Unit) (ref1_there_h 0) _ (execL (ref1_there_LP N) (ref1_there_E N) (cAt (bodyOf Tryd.f37) [true, true, false, false, false]) 0) (resD (ref1_there_E N) Tryd.f37 (ref1_there_sg fun x _ => ref1_there N x.1 x.2.1) ref1_there_pk) (fun st k hk => execL_eq _ _ N _ (cAt (bodyOf Tryd.f37) [true, true, false, false, false]) 0 (show LoopsOk (ref1_there_LP N) (ref1_there_E N) N (resD (ref1_there_E N) Tryd.f37 (ref1_there_sg fun x _ => ref1_there N x.1 x.2.1) ref1_there_pk) [] from trivial) st k hk) (fun s => ref1_there_L0_hd x.1 x.2.1 s.1 s.2.1) k hk
    (fun self s => ref1_there_L0T N x.1 x.2.1 (fun o0_5 => k (.exit 0) (ref1_there_L0_tl0 x.1 x.2.1 o0_5)) (fun s5 s6 => self (s5, s6, ())) s.1 s.2.1) (fun n s => ref1_there_L0 N x.1 x.2.1 (fun o0_5 => k (.exit 0) (ref1_there_L0_tl0 x.1 x.2.1 o0_5)) n s.1 s.2.1) (fun _ => rfl) (fun _ _ => rfl)
    (fun I s => ref1_there_L0_step N x.1 x.2.1 (fun j => k (.exit j)) I s.1 s.2.1) N (x.2.2.1, x.2.2.2.1, ())
theorem ref1_there_lp0 (N : Nat) : ∀ st k, (∀ st, k .ret st = (resD (ref1_there_E N) Tryd.f37 (ref1_there_sg fun x _ => ref1_there N x.1 x.2.1) ref1_there_pk) st) → ref1_there_LP N 0 (cAt (bodyOf Tryd.f37) [true, true, false, false, false]) st k = iter (Env.hint (ref1_there_E N) 0) (exec (ref1_there_E N) N (cAt (bodyOf Tryd.f37) [true, true, false, false, false]) 0) N st k := fun st k hk => LPc_eq 40 ref1_there_L0_fs ref1_there_L0_bs _ _ (resD (ref1_there_E N) Tryd.f37 (ref1_there_sg fun x _ => ref1_there N x.1 x.2.1) ref1_there_pk) (ref1_there_L0_ok N) _ st k hk (rfl)
theorem ref1_there_core (N : Nat) (x : SV [.v (.sl (.pr .str (.pr .bool (.sl .u8)))), .v .str]) (y : BV []) : runL (ref1_there_E N) Tryd.f37 (ref1_there_sg fun x _ => ref1_there N x.1 x.2.1) ref1_there_pk (ref1_there_LP N) x y = ref1_there N x.1 x.2.1 := by kernel_rfl
theorem ref1_there_sound (N : Nat) : Sound Tryd.prog GW B0G 37 (ref1_there_sg fun x _ => ref1_there N x.1 x.2.1) :=
  runD_sound (mkE_ok ref1_there_h (ref1_there_fn N) _ _ (ref1_there_fn_ok N)) Tryd.func37 rfl Tryd.call37 (ref1_there_sg fun x _ => ref1_there N x.1 x.2.1) ref1_there_pk (fun _ _ => rfl) N (fun x y _ h => ((runL_eq (ref1_there_E N) N Tryd.f37 (ref1_there_sg fun x _ => ref1_there N x.1 x.2.1) ref1_there_pk (ref1_there_LP N) (show LoopsOk (ref1_there_LP N) (ref1_there_E N) N (resD (ref1_there_E N) Tryd.f37 (ref1_there_sg fun x _ => ref1_there N x.1 x.2.1) ref1_there_pk) [(0, (cAt (bodyOf Tryd.f37) [true, true, false, false, false]))] from ⟨ref1_there_lp0 N, trivial⟩) x y).trans (ref1_there_core N x y)).trans h)
def ref1_inside_L0T (N : Nat) (x0 : List (Str × Bool × List UInt8)) (x1 : Str) (k0 : Option Bool) (self : Int → Option Bool) (s5 : Int) : Option Bool :=
  br (decide (s5 < (x1.length : Int)))
    (bnd (geti x1 s5) fun t14 =>
    br (t14 == (47 : UInt8))
      (bnd (slc x1 (0 : Int) s5) fun t20 =>
      bnd (ref1_there N x0 t20) fun t21 =>
      br (t21)
        (some true)
        (self (IntKind.i64.wrap (s5 + (1 : Int)))))
      (self (IntKind.i64.wrap (s5 + (1 : Int)))))
    (k0)
def ref1_inside_L0 (N : Nat) (x0 : List (Str × Bool × List UInt8)) (x1 : Str) (k0 : Option Bool) : Nat → Int → Option Bool
  | 0, _ => none
  | n + 1, s5 => ref1_inside_L0T N x0 x1 k0 (ref1_inside_L0 N x0 x1 k0 n) s5
def ref1_inside (N : Nat) (x0 : List (Str × Bool × List UInt8)) (x1 : Str) : Option Bool :=
  ref1_inside_L0 N x0 x1 (some false) N (0 : Int)
abbrev ref1_inside_sg (f : SV [.v (.sl (.pr .str (.pr .bool (.sl .u8)))), .v .str] → BV [] → Option (Bool)) : AF := { ps := [.v (.sl (.pr .str (.pr .bool (.sl .u8)))), .v .str], bs := [], rs := [.v .bool], cs := [], R := Bool, out := fun z => ((z, ()), ()), f := f }
abbrev ref1_inside_pk : SV [.v .bool] → BV [] → Bool := fun x _ => x.1
def ref1_inside_fn (N : Nat) : FuncId → Option Tmp → Option AF := fun f _ =>
  match f with
    | 37 => some (ref1_there_sg fun x _ => ref1_there N x.1 x.2.1)
    | _ => none
theorem ref1_inside_fn_ok (N : Nat) : ∀ f q F, ref1_inside_fn N f q = some F → Sound Tryd.prog GW B0G f F := by
  intro f q F h
  unfold ref1_inside_fn at h
  split at h
  · cases h; exact ref1_there_sound N
  · cases h
def ref1_inside_h : Nat → Hint := fun i =>
  match i with
  | 0 => ⟨[], [0, 1, 5], [], [], [], []⟩
  | _ => ⟨[], [], [], [], [], []⟩
abbrev ref1_inside_E (N : Nat) : Env := mkE ref1_inside_h (ref1_inside_fn N) (fun _ => false) (fun _ => false)
abbrev ref1_inside_L0_fs : List (Nat × Sl) := [(0, .v (.sl (.pr .str (.pr .bool (.sl .u8))))), (1, .v .str), (5, .v (.int .i64))]
abbrev ref1_inside_L0_bs : List (Nat × Sb) := []
def ref1_inside_L0_hd (x0 : List (Str × Bool × List UInt8)) (x1 : Str) (s5 : Int) : St := ⟨23, [(0, .v (.sl (.pr .str (.pr .bool (.sl .u8)))) x0), (1, .v .str x1), (5, .v (.int .i64) s5)], []⟩
def ref1_inside_L0_tl0 (_x0 : List (Str × Bool × List UInt8)) (_x1 : Str) : St := ⟨23, [], []⟩
def ref1_inside_L0_G (N : Nat) (x0 : List (Str × Bool × List UInt8)) (x1 : Str) (s5 : Int) (k : Ex → St → Option Bool) : Option Bool :=
  ref1_inside_L0 N x0 x1 (k (.exit 0) (ref1_inside_L0_tl0 x0 x1)) N s5
abbrev ref1_inside_L0_F (N : Nat) : FV ref1_inside_L0_fs → HV ref1_inside_L0_bs → (Ex → St → Option Bool) → Option Bool := fun x _ k => ref1_inside_L0_G N x.1 x.2.1 x.2.2.1 k
noncomputable def ref1_inside_LP (N : Nat) : Nat → Code → St → (Ex → St → Option Bool) → Option Bool := fun i c =>
  match i with
  | 0 => (LPc 23 ref1_inside_L0_fs ref1_inside_L0_bs (ref1_inside_L0_F N) (fun st k => iter (ref1_inside_h 0) (exec (ref1_inside_E N) N c 0) N st k))
  | i => fun st k => iter (ref1_inside_h i) (exec (ref1_inside_E N) N c i) N st k
theorem ref1_inside_L0_step (N : Nat) (x0 : List (Str × Bool × List UInt8)) (x1 : Str) (KX : Nat → St → Option Bool) (I : St → Option Bool) (s5 : Int) :
    execL (ref1_inside_LP N) (ref1_inside_E N) (cAt (bodyOf Tryd.f19) [true, false, true, false, false]) 0 (ref1_inside_L0_hd x0 x1 s5) (roundK (ref1_inside_h 0) I KX (resD (ref1_inside_E N) Tryd.f19 (ref1_inside_sg fun x _ => ref1_inside N x.1 x.2.1) ref1_inside_pk)) = ref1_inside_L0T N x0 x1 (KX 0 (ref1_inside_L0_tl0 x0 x1)) (fun s5 => I (ref1_inside_L0_hd x0 x1 s5)) s5 := by kernel_rfl
theorem ref1_inside_L0_ok (N : Nat) : ∀ x y k, (∀ st, k .ret st = (resD (ref1_inside_E N) Tryd.f19 (ref1_inside_sg fun x _ => ref1_inside N x.1 x.2.1) ref1_inside_pk) st) → iter (ref1_inside_h 0) (exec (ref1_inside_E N) N (cAt (bodyOf Tryd.f19) [true, false, true, false, false]) 0) N ⟨23, unF ref1_inside_L0_fs x, unH ref1_inside_L0_bs y⟩ k = ref1_inside_L0_F N x y k := fun x _ k hk =>
  iter_link (S := (Int) × Unit) (ref1_inside_h 0) _ (execL (ref1_inside_LP N) (ref1_inside_E N) (cAt (bodyOf Tryd.f19) [true, false, true, false, false]) 0) (resD (ref1_inside_E N) Tryd.f19 (ref1_inside_sg fun x _ => ref1_inside N x.1 x.2.1) ref1_inside_pk) (fun st k hk => execL_eq _ _ N _ (cAt (bodyOf Tryd.f19) [true, false, true, false, false]) 0 (show LoopsOk (ref1_inside_LP N) (ref1_inside_E N) N (resD (ref1_inside_E N) Tryd.f19 (ref1_inside_sg fun x _ => ref1_inside N x.1 x.2.1) ref1_inside_pk) [] from trivial) st k hk) (fun s => ref1_inside_L0_hd x.1 x.2.1 s.1) k hk
    (fun self s => ref1_inside_L0T N x.1 x.2.1 (k (.exit 0) (ref1_inside_L0_tl0 x.1 x.2.1)) (fun s5 => self (s5, ())) s.1) (fun n s => ref1_inside_L0 N x.1 x.2.1 (k (.exit 0) (ref1_inside_L0_tl0 x.1 x.2.1)) n s.1) (fun _ => rfl) (fun _ _ => rfl)
    (fun I s => ref1_inside_L0_step N x.1 x.2.1 (fun j => k (.exit j)) I s.1) N (x.2.2.1, ())
theorem ref1_inside_lp0 (N : Nat) : ∀ st k, (∀ st, k .ret st = (resD (ref1_inside_E N) Tryd.f19 (ref1_inside_sg fun x _ => ref1_inside N x.1 x.2.1) ref1_inside_pk) st) → ref1_inside_LP N 0 (cAt (bodyOf Tryd.f19) [true, false, true, false, false]) st k = iter (Env.hint (ref1_inside_E N) 0) (exec (ref1_inside_E N) N (cAt (bodyOf Tryd.f19) [true, false, true, false, false]) 0) N st k := fun st k hk => LPc_eq 23 ref1_inside_L0_fs ref1_inside_L0_bs _ _ (resD (ref1_inside_E N) Tryd.f19 (ref1_inside_sg fun x _ => ref1_inside N x.1 x.2.1) ref1_inside_pk) (ref1_inside_L0_ok N) _ st k hk (rfl)
theorem ref1_inside_core (N : Nat) (x : SV [.v (.sl (.pr .str (.pr .bool (.sl .u8)))), .v .str]) (y : BV []) : runL (ref1_inside_E N) Tryd.f19 (ref1_inside_sg fun x _ => ref1_inside N x.1 x.2.1) ref1_inside_pk (ref1_inside_LP N) x y = ref1_inside N x.1 x.2.1 := by kernel_rfl
theorem ref1_inside_sound (N : Nat) : Sound Tryd.prog GW B0G 19 (ref1_inside_sg fun x _ => ref1_inside N x.1 x.2.1) :=
  runD_sound (mkE_ok ref1_inside_h (ref1_inside_fn N) _ _ (ref1_inside_fn_ok N)) Tryd.func19 rfl Tryd.call19 (ref1_inside_sg fun x _ => ref1_inside N x.1 x.2.1) ref1_inside_pk (fun _ _ => rfl) N (fun x y _ h => ((runL_eq (ref1_inside_E N) N Tryd.f19 (ref1_inside_sg fun x _ => ref1_inside N x.1 x.2.1) ref1_inside_pk (ref1_inside_LP N) (show LoopsOk (ref1_inside_LP N) (ref1_inside_E N) N (resD (ref1_inside_E N) Tryd.f19 (ref1_inside_sg fun x _ => ref1_inside N x.1 x.2.1) ref1_inside_pk) [(0, (cAt (bodyOf Tryd.f19) [true, false, true, false, false]))] from ⟨ref1_inside_lp0 N, trivial⟩) x y).trans (ref1_inside_core N x y)).trans h)
def ref1_CheckFiles_L0T (N : Nat) (x0 : List (Str × Bool × List UInt8)) (k0 : Int → Option Int) (self : Int → Int → Option Int) (s3 : Int) (s4 : Int) : Option Int :=
  br (decide (s4 < (x0.length : Int)))
    (bnd (geti x0 s4) fun t17 =>
    bnd (ref1_IsPath N t17.1) fun t20 =>
    br (!t20)
      (some (3 : Int))
      (bnd (geti x0 s4) fun t24 =>
      br (decide ((t24.2.2.length : Int) > (100000 : Int)))
        (some (2 : Int))
        (br (decide (s4 > (0 : Int)))
          (bnd (geti x0 s4) fun t34 =>
          bnd (geti x0 (IntKind.i64.wrap (s4 - (1 : Int)))) fun t40 =>
          br (Op.bytesLess t34.1 t40.1 || t34.1 == t40.1)
            (some (8 : Int))
            (bnd (geti x0 s4) fun t48 =>
            self (IntKind.i64.wrap (s3 + (t48.2.2.length : Int))) (IntKind.i64.wrap (s4 + (1 : Int)))))
          (bnd (geti x0 s4) fun t48_1 =>
          self (IntKind.i64.wrap (s3 + (t48_1.2.2.length : Int))) (IntKind.i64.wrap (s4 + (1 : Int)))))))
    (k0 s3)
def ref1_CheckFiles_L0 (N : Nat) (x0 : List (Str × Bool × List UInt8)) (k0 : Int → Option Int) : Nat → Int → Int → Option Int
  | 0, _, _ => none
  | n + 1, s3, s4 => ref1_CheckFiles_L0T N x0 k0 (ref1_CheckFiles_L0 N x0 k0 n) s3 s4
def ref1_CheckFiles_L1T (N : Nat) (x0 : List (Str × Bool × List UInt8)) (k2 : Option Int) (self : Int → Option Int) (s5 : Int) : Option Int :=
  br (decide (s5 < (x0.length : Int)))
    (bnd (geti x0 s5) fun t62 =>
    bnd (ref1_inside N x0 t62.1) fun t65 =>
    br (t65)
      (some (12 : Int))
      (self (IntKind.i64.wrap (s5 + (1 : Int)))))
    (k2)
def ref1_CheckFiles_L1 (N : Nat) (x0 : List (Str × Bool × List UInt8)) (k2 : Option Int) : Nat → Int → Option Int
  | 0, _ => none
  | n + 1, s5 => ref1_CheckFiles_L1T N x0 k2 (ref1_CheckFiles_L1 N x0 k2 n) s5
def ref1_CheckFiles (N : Nat) (x0 : List (Str × Bool × List UInt8)) : Option Int :=
  br (decide ((x0.length : Int) > (1000 : Int)))
    (some (2 : Int))
    (ref1_CheckFiles_L0 N x0 (fun o0_3 =>
        ref1_CheckFiles_L1 N x0 (br (decide (o0_3 > (2000000 : Int)))
              (some (2 : Int))
              (some (0 : Int))) N (0 : Int)) N (0 : Int) (0 : Int))
abbrev ref1_CheckFiles_sg (f : SV [.v (.sl (.pr .str (.pr .bool (.sl .u8))))] → BV [] → Option (Int)) : AF := { ps := [.v (.sl (.pr .str (.pr .bool (.sl .u8))))], bs := [], rs := [.v (.int .i64)], cs := [], R := Int, out := fun z => ((z, ()), ()), f := f }
abbrev ref1_CheckFiles_pk : SV [.v (.int .i64)] → BV [] → Int := fun x _ => x.1
def ref1_CheckFiles_fn (N : Nat) : FuncId → Option Tmp → Option AF := fun f _ =>
  match f with
    | 18 => some (ref1_IsPath_sg fun x _ => ref1_IsPath N x.1)
    | 19 => some (ref1_inside_sg fun x _ => ref1_inside N x.1 x.2.1)
    | _ => none
theorem ref1_CheckFiles_fn_ok (N : Nat) : ∀ f q F, ref1_CheckFiles_fn N f q = some F → Sound Tryd.prog GW B0G f F := by
  intro f q F h
  unfold ref1_CheckFiles_fn at h
  split at h
  · cases h; exact ref1_IsPath_sound N
  · cases h; exact ref1_inside_sound N
  · cases h
def ref1_CheckFiles_h : Nat → Hint := fun i =>
  match i with
  | 0 => ⟨[], [0, 3, 4], [], [0, 3], [], []⟩
  | 2 => ⟨[], [0, 3, 5], [], [3], [], []⟩
  | _ => ⟨[], [], [], [], [], []⟩
abbrev ref1_CheckFiles_E (N : Nat) : Env := mkE ref1_CheckFiles_h (ref1_CheckFiles_fn N) (fun _ => false) (fun _ => false)
abbrev ref1_CheckFiles_L0_fs : List (Nat × Sl) := [(0, .v (.sl (.pr .str (.pr .bool (.sl .u8))))), (3, .v (.int .i64)), (4, .v (.int .i64))]
abbrev ref1_CheckFiles_L0_bs : List (Nat × Sb) := []
def ref1_CheckFiles_L0_hd (x0 : List (Str × Bool × List UInt8)) (s3 : Int) (s4 : Int) : St := ⟨68, [(0, .v (.sl (.pr .str (.pr .bool (.sl .u8)))) x0), (3, .v (.int .i64) s3), (4, .v (.int .i64) s4)], []⟩
def ref1_CheckFiles_L0_tl0 (x0 : List (Str × Bool × List UInt8)) (o0_3 : Int) : St := ⟨68, [(0, .v (.sl (.pr .str (.pr .bool (.sl .u8)))) x0), (3, .v (.int .i64) o0_3)], []⟩
def ref1_CheckFiles_L0_G (N : Nat) (x0 : List (Str × Bool × List UInt8)) (s3 : Int) (s4 : Int) (k : Ex → St → Option Int) : Option Int :=
  ref1_CheckFiles_L0 N x0 (fun o0_3 => k (.exit 0) (ref1_CheckFiles_L0_tl0 x0 o0_3)) N s3 s4
abbrev ref1_CheckFiles_L0_F (N : Nat) : FV ref1_CheckFiles_L0_fs → HV ref1_CheckFiles_L0_bs → (Ex → St → Option Int) → Option Int := fun x _ k => ref1_CheckFiles_L0_G N x.1 x.2.1 x.2.2.1 k
abbrev ref1_CheckFiles_L1_fs : List (Nat × Sl) := [(0, .v (.sl (.pr .str (.pr .bool (.sl .u8))))), (3, .v (.int .i64)), (5, .v (.int .i64))]
abbrev ref1_CheckFiles_L1_bs : List (Nat × Sb) := []
def ref1_CheckFiles_L1_hd (x0 : List (Str × Bool × List UInt8)) (o0_3 : Int) (s5 : Int) : St := ⟨68, [(0, .v (.sl (.pr .str (.pr .bool (.sl .u8)))) x0), (3, .v (.int .i64) o0_3), (5, .v (.int .i64) s5)], []⟩
def ref1_CheckFiles_L1_tl2 (_x0 : List (Str × Bool × List UInt8)) (o0_3 : Int) : St := ⟨68, [(3, .v (.int .i64) o0_3)], []⟩
def ref1_CheckFiles_L1_G (N : Nat) (x0 : List (Str × Bool × List UInt8)) (o0_3 : Int) (s5 : Int) (k : Ex → St → Option Int) : Option Int :=
  ref1_CheckFiles_L1 N x0 (k (.exit 2) (ref1_CheckFiles_L1_tl2 x0 o0_3)) N s5
abbrev ref1_CheckFiles_L1_F (N : Nat) : FV ref1_CheckFiles_L1_fs → HV ref1_CheckFiles_L1_bs → (Ex → St → Option Int) → Option Int := fun x _ k => ref1_CheckFiles_L1_G N x.1 x.2.1 x.2.2.1 k
noncomputable def ref1_CheckFiles_LP (N : Nat) : Nat → Code → St → (Ex → St → Option Int) → Option Int := fun i c =>
  match i with
  | 0 => (LPc 68 ref1_CheckFiles_L0_fs ref1_CheckFiles_L0_bs (ref1_CheckFiles_L0_F N) (fun st k => iter (ref1_CheckFiles_h 0) (exec (ref1_CheckFiles_E N) N c 0) N st k))
  | 2 => (LPc 68 ref1_CheckFiles_L1_fs ref1_CheckFiles_L1_bs (ref1_CheckFiles_L1_F N) (fun st k => iter (ref1_CheckFiles_h 2) (exec (ref1_CheckFiles_E N) N c 2) N st k))
  | i => fun st k => iter (ref1_CheckFiles_h i) (exec (ref1_CheckFiles_E N) N c i) N st k
theorem ref1_CheckFiles_L1_step (N : Nat) (x0 : List (Str × Bool × List UInt8)) (o0_3 : Int) (KX : Nat → St → Option Int) (I : St → Option Int) (s5 : Int) :
    execL (ref1_CheckFiles_LP N) (ref1_CheckFiles_E N) (cAt (bodyOf Tryd.f7) [true, true, true, true, false, true, false, false]) 2 (ref1_CheckFiles_L1_hd x0 o0_3 s5) (roundK (ref1_CheckFiles_h 2) I KX (resD (ref1_CheckFiles_E N) Tryd.f7 (ref1_CheckFiles_sg fun x _ => ref1_CheckFiles N x.1) ref1_CheckFiles_pk)) = ref1_CheckFiles_L1T N x0 (KX 2 (ref1_CheckFiles_L1_tl2 x0 o0_3)) (fun s5 => I (ref1_CheckFiles_L1_hd x0 o0_3 s5)) s5 := by kernel_rfl
theorem ref1_CheckFiles_L1_ok (N : Nat) : ∀ x y k, (∀ st, k .ret st = (resD (ref1_CheckFiles_E N) Tryd.f7 (ref1_CheckFiles_sg fun x _ => ref1_CheckFiles N x.1) ref1_CheckFiles_pk) st) → iter (ref1_CheckFiles_h 2) (exec (ref1_CheckFiles_E N) N (cAt (bodyOf Tryd.f7) [true, true, true, true, false, true, false, false]) 2) N ⟨68, unF ref1_CheckFiles_L1_fs x, unH ref1_CheckFiles_L1_bs y⟩ k = ref1_CheckFiles_L1_F N x y k := fun x _ k hk =>
  iter_link (S := (Int) × Unit) (ref1_CheckFiles_h 2) _ (execL (ref1_CheckFiles_LP N) (ref1_CheckFiles_E N) (cAt (bodyOf Tryd.f7) [true, true, true, true, false, true, false, false]) 2) (resD (ref1_CheckFiles_E N) Tryd.f7 (ref1_CheckFiles_sg fun x _ => ref1_CheckFiles N x.1) ref1_CheckFiles_pk) (fun st k hk => execL_eq _ _ N _ (cAt (bodyOf Tryd.f7) [true, true, true, true, false, true, false, false]) 2 (show LoopsOk (ref1_CheckFiles_LP N) (ref1_CheckFiles_E N) N (resD (ref1_CheckFiles_E N) Tryd.f7 (ref1_CheckFiles_sg fun x _ => ref1_CheckFiles N x.1) ref1_CheckFiles_pk) [] from trivial) st k hk) (fun s => ref1_CheckFiles_L1_hd x.1 x.2.1 s.1) k hk
    (fun self s => ref1_CheckFiles_L1T N x.1 (k (.exit 2) (ref1_CheckFiles_L1_tl2 x.1 x.2.1)) (fun s5 => self (s5, ())) s.1) (fun n s => ref1_CheckFiles_L1 N x.1 (k (.exit 2) (ref1_CheckFiles_L1_tl2 x.1 x.2.1)) n s.1) (fun _ => rfl) (fun _ _ => rfl)
    (fun I s => ref1_CheckFiles_L1_step N x.1 x.2.1 (fun j => k (.exit j)) I s.1) N (x.2.2.1, ())
theorem ref1_CheckFiles_lp2 (N : Nat) : ∀ st k, (∀ st, k .ret st = (resD (ref1_CheckFiles_E N) Tryd.f7 (ref1_CheckFiles_sg fun x _ => ref1_CheckFiles N x.1) ref1_CheckFiles_pk) st) → ref1_CheckFiles_LP N 2 (cAt (bodyOf Tryd.f7) [true, true, true, true, false, true, false, false]) st k = iter (Env.hint (ref1_CheckFiles_E N) 2) (exec (ref1_CheckFiles_E N) N (cAt (bodyOf Tryd.f7) [true, true, true, true, false, true, false, false]) 2) N st k := fun st k hk => LPc_eq 68 ref1_CheckFiles_L1_fs ref1_CheckFiles_L1_bs _ _ (resD (ref1_CheckFiles_E N) Tryd.f7 (ref1_CheckFiles_sg fun x _ => ref1_CheckFiles N x.1) ref1_CheckFiles_pk) (ref1_CheckFiles_L1_ok N) _ st k hk (rfl)
theorem ref1_CheckFiles_L0_step (N : Nat) (x0 : List (Str × Bool × List UInt8)) (KX : Nat → St → Option Int) (I : St → Option Int) (s3 : Int) (s4 : Int) :
    execL (ref1_CheckFiles_LP N) (ref1_CheckFiles_E N) (cAt (bodyOf Tryd.f7) [true, true, true, false, true, false, false]) 0 (ref1_CheckFiles_L0_hd x0 s3 s4) (roundK (ref1_CheckFiles_h 0) I KX (resD (ref1_CheckFiles_E N) Tryd.f7 (ref1_CheckFiles_sg fun x _ => ref1_CheckFiles N x.1) ref1_CheckFiles_pk)) = ref1_CheckFiles_L0T N x0 (fun o0_3 => KX 0 (ref1_CheckFiles_L0_tl0 x0 o0_3)) (fun s3 s4 => I (ref1_CheckFiles_L0_hd x0 s3 s4)) s3 s4 := by kernel_rfl
theorem ref1_CheckFiles_L0_ok (N : Nat) : ∀ x y k, (∀ st, k .ret st = (resD (ref1_CheckFiles_E N) Tryd.f7 (ref1_CheckFiles_sg fun x _ => ref1_CheckFiles N x.1) ref1_CheckFiles_pk) st) → iter (ref1_CheckFiles_h 0) (exec (ref1_CheckFiles_E N) N (cAt (bodyOf Tryd.f7) [true, true, true, false, true, false, false]) 0) N ⟨68, unF ref1_CheckFiles_L0_fs x, unH ref1_CheckFiles_L0_bs y⟩ k = ref1_CheckFiles_L0_F N x y k := fun x _ k hk =>
  iter_link (S := (Int) × (Int) × Unit) (ref1_CheckFiles_h 0) _ (execL (ref1_CheckFiles_LP N) (ref1_CheckFiles_E N) (cAt (bodyOf Tryd.f7) [true, true, true, false, true, false, false]) 0) (resD (ref1_CheckFiles_E N) Tryd.f7 (ref1_CheckFiles_sg fun x _ => ref1_CheckFiles N x.1) ref1_CheckFiles_pk) (fun st k hk => execL_eq _ _ N _ (cAt (bodyOf Tryd.f7) [true, true, true, false, true, false, false]) 0 (show LoopsOk (ref1_CheckFiles_LP N) (ref1_CheckFiles_E N) N (resD (ref1_CheckFiles_E N) Tryd.f7 (ref1_CheckFiles_sg fun x _ => ref1_CheckFiles N x.1) ref1_CheckFiles_pk) [] from trivial) st k hk) (fun s => ref1_CheckFiles_L0_hd x.1 s.1 s.2.1) k hk
    (fun self s => ref1_CheckFiles_L0T N x.1 (fun o0_3 => k (.exit 0) (ref1_CheckFiles_L0_tl0 x.1 o0_3)) (fun s3 s4 => self (s3, s4, ())) s.1 s.2.1) (fun n s => ref1_CheckFiles_L0 N x.1 (fun o0_3 => k (.exit 0) (ref1_CheckFiles_L0_tl0 x.1 o0_3)) n s.1 s.2.1) (fun _ => rfl) (fun _ _ => rfl)
    (fun I s => ref1_CheckFiles_L0_step N x.1 (fun j => k (.exit j)) I s.1 s.2.1) N (x.2.1, x.2.2.1, ())
theorem ref1_CheckFiles_lp0 (N : Nat) : ∀ st k, (∀ st, k .ret st = (resD (ref1_CheckFiles_E N) Tryd.f7 (ref1_CheckFiles_sg fun x _ => ref1_CheckFiles N x.1) ref1_CheckFiles_pk) st) → ref1_CheckFiles_LP N 0 (cAt (bodyOf Tryd.f7) [true, true, true, false, true, false, false]) st k = iter (Env.hint (ref1_CheckFiles_E N) 0) (exec (ref1_CheckFiles_E N) N (cAt (bodyOf Tryd.f7) [true, true, true, false, true, false, false]) 0) N st k := fun st k hk => LPc_eq 68 ref1_CheckFiles_L0_fs ref1_CheckFiles_L0_bs _ _ (resD (ref1_CheckFiles_E N) Tryd.f7 (ref1_CheckFiles_sg fun x _ => ref1_CheckFiles N x.1) ref1_CheckFiles_pk) (ref1_CheckFiles_L0_ok N) _ st k hk (rfl)
theorem ref1_CheckFiles_core (N : Nat) (x : SV [.v (.sl (.pr .str (.pr .bool (.sl .u8))))]) (y : BV []) : runL (ref1_CheckFiles_E N) Tryd.f7 (ref1_CheckFiles_sg fun x _ => ref1_CheckFiles N x.1) ref1_CheckFiles_pk (ref1_CheckFiles_LP N) x y = ref1_CheckFiles N x.1 := by kernel_rfl
theorem ref1_CheckFiles_sound (N : Nat) : Sound Tryd.prog GW B0G 7 (ref1_CheckFiles_sg fun x _ => ref1_CheckFiles N x.1) :=
  runD_sound (mkE_ok ref1_CheckFiles_h (ref1_CheckFiles_fn N) _ _ (ref1_CheckFiles_fn_ok N)) Tryd.func7 rfl Tryd.call7 (ref1_CheckFiles_sg fun x _ => ref1_CheckFiles N x.1) ref1_CheckFiles_pk (fun _ _ => rfl) N (fun x y _ h => ((runL_eq (ref1_CheckFiles_E N) N Tryd.f7 (ref1_CheckFiles_sg fun x _ => ref1_CheckFiles N x.1) ref1_CheckFiles_pk (ref1_CheckFiles_LP N) (show LoopsOk (ref1_CheckFiles_LP N) (ref1_CheckFiles_E N) N (resD (ref1_CheckFiles_E N) Tryd.f7 (ref1_CheckFiles_sg fun x _ => ref1_CheckFiles N x.1) ref1_CheckFiles_pk) [(0, (cAt (bodyOf Tryd.f7) [true, true, true, false, true, false, false])), (2, (cAt (bodyOf Tryd.f7) [true, true, true, true, false, true, false, false]))] from ⟨ref1_CheckFiles_lp0 N, ref1_CheckFiles_lp2 N, trivial⟩) x y).trans (ref1_CheckFiles_core N x y)).trans h)
def stringslite_HasPrefix (_N : Nat) (x0 : Str) (x1 : Str) : Option Bool :=
  br (decide ((x0.length : Int) ≥ (x1.length : Int)))
    (bnd (slc x0 (0 : Int) (x1.length : Int)) fun t14 =>
    some (t14 == x1))
    (some false)
abbrev stringslite_HasPrefix_sg (f : SV [.v .str, .v .str] → BV [] → Option (Bool)) : AF := { ps := [.v .str, .v .str], bs := [], rs := [.v .bool], cs := [], R := Bool, out := fun z => ((z, ()), ()), f := f }
abbrev stringslite_HasPrefix_pk : SV [.v .bool] → BV [] → Bool := fun x _ => x.1
def stringslite_HasPrefix_fn (_N : Nat) : FuncId → Option Tmp → Option AF := fun f _ =>
  match f with
    | _ => none
theorem stringslite_HasPrefix_fn_ok (N : Nat) : ∀ f q F, stringslite_HasPrefix_fn N f q = some F → Sound Tryd.prog GW B0G f F := by
  intro f q F h
  unfold stringslite_HasPrefix_fn at h
  split at h
  · cases h
def stringslite_HasPrefix_h : Nat → Hint := fun i =>
  match i with
  | _ => ⟨[], [], [], [], [], []⟩
abbrev stringslite_HasPrefix_E (N : Nat) : Env := mkE stringslite_HasPrefix_h (stringslite_HasPrefix_fn N) (fun _ => false) (fun _ => false)
noncomputable def stringslite_HasPrefix_LP (N : Nat) : Nat → Code → St → (Ex → St → Option Bool) → Option Bool := fun i c =>
  match i with
  | i => fun st k => iter (stringslite_HasPrefix_h i) (exec (stringslite_HasPrefix_E N) N c i) N st k
theorem stringslite_HasPrefix_core (N : Nat) (x : SV [.v .str, .v .str]) (y : BV []) : runL (stringslite_HasPrefix_E N) Tryd.f73 (stringslite_HasPrefix_sg fun x _ => stringslite_HasPrefix N x.1 x.2.1) stringslite_HasPrefix_pk (stringslite_HasPrefix_LP N) x y = stringslite_HasPrefix N x.1 x.2.1 := by kernel_rfl
theorem stringslite_HasPrefix_sound (N : Nat) : Sound Tryd.prog GW B0G 73 (stringslite_HasPrefix_sg fun x _ => stringslite_HasPrefix N x.1 x.2.1) :=
  runD_sound (mkE_ok stringslite_HasPrefix_h (stringslite_HasPrefix_fn N) _ _ (stringslite_HasPrefix_fn_ok N)) Tryd.func73 rfl Tryd.call73 (stringslite_HasPrefix_sg fun x _ => stringslite_HasPrefix N x.1 x.2.1) stringslite_HasPrefix_pk (fun _ _ => rfl) N (fun x y _ h => ((runL_eq (stringslite_HasPrefix_E N) N Tryd.f73 (stringslite_HasPrefix_sg fun x _ => stringslite_HasPrefix N x.1 x.2.1) stringslite_HasPrefix_pk (stringslite_HasPrefix_LP N) (show LoopsOk (stringslite_HasPrefix_LP N) (stringslite_HasPrefix_E N) N (resD (stringslite_HasPrefix_E N) Tryd.f73 (stringslite_HasPrefix_sg fun x _ => stringslite_HasPrefix N x.1 x.2.1) stringslite_HasPrefix_pk) [] from trivial) x y).trans (stringslite_HasPrefix_core N x y)).trans h)
def strings_HasPrefix (N : Nat) (x0 : Str) (x1 : Str) : Option Bool :=
  bnd (stringslite_HasPrefix N x0 x1) fun t7 =>
  some t7
abbrev strings_HasPrefix_sg (f : SV [.v .str, .v .str] → BV [] → Option (Bool)) : AF := { ps := [.v .str, .v .str], bs := [], rs := [.v .bool], cs := [], R := Bool, out := fun z => ((z, ()), ()), f := f }
abbrev strings_HasPrefix_pk : SV [.v .bool] → BV [] → Bool := fun x _ => x.1
def strings_HasPrefix_fn (N : Nat) : FuncId → Option Tmp → Option AF := fun f _ =>
  match f with
    | 73 => some (stringslite_HasPrefix_sg fun x _ => stringslite_HasPrefix N x.1 x.2.1)
    | _ => none
theorem strings_HasPrefix_fn_ok (N : Nat) : ∀ f q F, strings_HasPrefix_fn N f q = some F → Sound Tryd.prog GW B0G f F := by
  intro f q F h
  unfold strings_HasPrefix_fn at h
  split at h
  · cases h; exact stringslite_HasPrefix_sound N
  · cases h
def strings_HasPrefix_h : Nat → Hint := fun i =>
  match i with
  | _ => ⟨[], [], [], [], [], []⟩
abbrev strings_HasPrefix_E (N : Nat) : Env := mkE strings_HasPrefix_h (strings_HasPrefix_fn N) (fun _ => false) (fun _ => false)
noncomputable def strings_HasPrefix_LP (N : Nat) : Nat → Code → St → (Ex → St → Option Bool) → Option Bool := fun i c =>
  match i with
  | i => fun st k => iter (strings_HasPrefix_h i) (exec (strings_HasPrefix_E N) N c i) N st k
theorem strings_HasPrefix_core (N : Nat) (x : SV [.v .str, .v .str]) (y : BV []) : runL (strings_HasPrefix_E N) Tryd.f64 (strings_HasPrefix_sg fun x _ => strings_HasPrefix N x.1 x.2.1) strings_HasPrefix_pk (strings_HasPrefix_LP N) x y = strings_HasPrefix N x.1 x.2.1 := by kernel_rfl
theorem strings_HasPrefix_sound (N : Nat) : Sound Tryd.prog GW B0G 64 (strings_HasPrefix_sg fun x _ => strings_HasPrefix N x.1 x.2.1) :=
  runD_sound (mkE_ok strings_HasPrefix_h (strings_HasPrefix_fn N) _ _ (strings_HasPrefix_fn_ok N)) Tryd.func64 rfl Tryd.call64 (strings_HasPrefix_sg fun x _ => strings_HasPrefix N x.1 x.2.1) strings_HasPrefix_pk (fun _ _ => rfl) N (fun x y _ h => ((runL_eq (strings_HasPrefix_E N) N Tryd.f64 (strings_HasPrefix_sg fun x _ => strings_HasPrefix N x.1 x.2.1) strings_HasPrefix_pk (strings_HasPrefix_LP N) (show LoopsOk (strings_HasPrefix_LP N) (strings_HasPrefix_E N) N (resD (strings_HasPrefix_E N) Tryd.f64 (strings_HasPrefix_sg fun x _ => strings_HasPrefix N x.1 x.2.1) strings_HasPrefix_pk) [] from trivial) x y).trans (strings_HasPrefix_core N x y)).trans h)
def ref1_Lies (N : Nat) (x0 : Str) (x1 : Str) : Option Bool :=
  br (decide (x1.length + ([47] : Str).length ≤ 9223372036854775807))
    (bnd (strings_HasPrefix N x0 (x1 ++ ([47] : Str))) fun t8 =>
    some t8)
    none
abbrev ref1_Lies_sg (f : SV [.v .str, .v .str] → BV [] → Option (Bool)) : AF := { ps := [.v .str, .v .str], bs := [], rs := [.v .bool], cs := [], R := Bool, out := fun z => ((z, ()), ()), f := f }
abbrev ref1_Lies_pk : SV [.v .bool] → BV [] → Bool := fun x _ => x.1
def ref1_Lies_fn (N : Nat) : FuncId → Option Tmp → Option AF := fun f _ =>
  match f with
    | 64 => some (strings_HasPrefix_sg fun x _ => strings_HasPrefix N x.1 x.2.1)
    | _ => none
theorem ref1_Lies_fn_ok (N : Nat) : ∀ f q F, ref1_Lies_fn N f q = some F → Sound Tryd.prog GW B0G f F := by
  intro f q F h
  unfold ref1_Lies_fn at h
  split at h
  · cases h; exact strings_HasPrefix_sound N
  · cases h
def ref1_Lies_h : Nat → Hint := fun i =>
  match i with
  | _ => ⟨[], [], [], [], [], []⟩
abbrev ref1_Lies_E (N : Nat) : Env := mkE ref1_Lies_h (ref1_Lies_fn N) (fun _ => false) (fun _ => false)
noncomputable def ref1_Lies_LP (N : Nat) : Nat → Code → St → (Ex → St → Option Bool) → Option Bool := fun i c =>
  match i with
  | i => fun st k => iter (ref1_Lies_h i) (exec (ref1_Lies_E N) N c i) N st k
theorem ref1_Lies_core (N : Nat) (x : SV [.v .str, .v .str]) (y : BV []) : runL (ref1_Lies_E N) Tryd.f53 (ref1_Lies_sg fun x _ => ref1_Lies N x.1 x.2.1) ref1_Lies_pk (ref1_Lies_LP N) x y = ref1_Lies N x.1 x.2.1 := by kernel_rfl
theorem ref1_Lies_sound (N : Nat) : Sound Tryd.prog GW B0G 53 (ref1_Lies_sg fun x _ => ref1_Lies N x.1 x.2.1) :=
  runD_sound (mkE_ok ref1_Lies_h (ref1_Lies_fn N) _ _ (ref1_Lies_fn_ok N)) Tryd.func53 rfl Tryd.call53 (ref1_Lies_sg fun x _ => ref1_Lies N x.1 x.2.1) ref1_Lies_pk (fun _ _ => rfl) N (fun x y _ h => ((runL_eq (ref1_Lies_E N) N Tryd.f53 (ref1_Lies_sg fun x _ => ref1_Lies N x.1 x.2.1) ref1_Lies_pk (ref1_Lies_LP N) (show LoopsOk (ref1_Lies_LP N) (ref1_Lies_E N) N (resD (ref1_Lies_E N) Tryd.f53 (ref1_Lies_sg fun x _ => ref1_Lies N x.1 x.2.1) ref1_Lies_pk) [] from trivial) x y).trans (ref1_Lies_core N x y)).trans h)
def ref1_below_L0T (N : Nat) (x0 : List (Str × Bool × List UInt8)) (x1 : Str) (k0 : (List (Str × Bool × List UInt8)) → Option (Bool × List (Str × Bool × List UInt8))) (self : Int → (List (Str × Bool × List UInt8)) → Option (Bool × List (Str × Bool × List UInt8))) (s7 : Int) (w1006 : List (Str × Bool × List UInt8)) : Option (Bool × List (Str × Bool × List UInt8)) :=
  br (decide (s7 < (x0.length : Int)))
    (bnd (geti x0 s7) fun t17 =>
    br (t17.1 == x1)
      (bnd (geti x0 s7) fun t24 =>
      some (false, [t24]))
      (bnd (geti x0 s7) fun t29 =>
      bnd (ref1_Lies N t29.1 x1) fun t33 =>
      br (t33)
        (bnd (geti x0 s7) fun t36 =>
        bnd (slc t36.1 (IntKind.i64.wrap ((x1.length : Int) + (1 : Int))) (t36.1.length : Int)) fun t43 =>
        br (decide ((w1006.length + [(t43, t36.2)].length) * (24 * Ty.sz (.pr .str (.pr .bool (.sl .u8)))) ≤ 140737488355328))
          (self (IntKind.i64.wrap (s7 + (1 : Int))) (w1006 ++ [(t43, t36.2)]))
          none)
        (self (IntKind.i64.wrap (s7 + (1 : Int))) w1006)))
    (k0 w1006)
def ref1_below_L0 (N : Nat) (x0 : List (Str × Bool × List UInt8)) (x1 : Str) (k0 : (List (Str × Bool × List UInt8)) → Option (Bool × List (Str × Bool × List UInt8))) : Nat → Int → (List (Str × Bool × List UInt8)) → Option (Bool × List (Str × Bool × List UInt8))
  | 0, _, _ => none
  | n + 1, s7, w1006 => ref1_below_L0T N x0 x1 k0 (ref1_below_L0 N x0 x1 k0 n) s7 w1006
def ref1_below (N : Nat) (x0 : List (Str × Bool × List UInt8)) (x1 : Str) : Option (Bool × List (Str × Bool × List UInt8)) :=
  ref1_below_L0 N x0 x1 (fun o0_w1006 =>
      some (true, o0_w1006)) N (0 : Int) ([] : List (Str × Bool × List UInt8))
abbrev ref1_below_sg (f : SV [.v (.sl (.pr .str (.pr .bool (.sl .u8)))), .v .str] → BV [] → Option (Bool × List (Str × Bool × List UInt8))) : AF := { ps := [.v (.sl (.pr .str (.pr .bool (.sl .u8)))), .v .str], bs := [], rs := [.row 0, .v .bool], cs := [.row 48 (.pr .str (.pr .bool (.sl .u8))) false], R := Bool × List (Str × Bool × List UInt8), out := fun z => (((), z.1, ()), (z.2, ())), f := f }
abbrev ref1_below_pk : SV [.row 0, .v .bool] → BV [.row 48 (.pr .str (.pr .bool (.sl .u8))) false] → (Bool × List (Str × Bool × List UInt8)) := fun x y => (x.2.1, y.1)
def ref1_below_fn (N : Nat) : FuncId → Option Tmp → Option AF := fun f _ =>
  match f with
    | 53 => some (ref1_Lies_sg fun x _ => ref1_Lies N x.1 x.2.1)
    | _ => none
theorem ref1_below_fn_ok (N : Nat) : ∀ f q F, ref1_below_fn N f q = some F → Sound Tryd.prog GW B0G f F := by
  intro f q F h
  unfold ref1_below_fn at h
  split at h
  · cases h; exact ref1_Lies_sound N
  · cases h
def ref1_below_h : Nat → Hint := fun i =>
  match i with
  | 0 => ⟨[], [0, 1, 6, 7], [1006], [6], [1006], []⟩
  | _ => ⟨[], [], [], [], [], []⟩
abbrev ref1_below_E (N : Nat) : Env := mkE ref1_below_h (ref1_below_fn N) (fun _ => false) (fun _ => false)
abbrev ref1_below_L0_fs : List (Nat × Sl) := [(0, .v (.sl (.pr .str (.pr .bool (.sl .u8))))), (1, .v .str), (6, .row 1006), (7, .v (.int .i64))]
abbrev ref1_below_L0_bs : List (Nat × Sb) := [(1006, .row 48 (.pr .str (.pr .bool (.sl .u8))) false)]
def ref1_below_L0_hd (x0 : List (Str × Bool × List UInt8)) (x1 : Str) (s7 : Int) (w1006 : List (Str × Bool × List UInt8)) : St := ⟨50, [(0, .v (.sl (.pr .str (.pr .bool (.sl .u8)))) x0), (1, .v .str x1), (6, .row 1006), (7, .v (.int .i64) s7)], [(1006, .row 48 (.pr .str (.pr .bool (.sl .u8))) false w1006)]⟩
def ref1_below_L0_tl0 (_x0 : List (Str × Bool × List UInt8)) (_x1 : Str) (o0_w1006 : List (Str × Bool × List UInt8)) : St := ⟨50, [(6, .row 1006)], [(1006, .row 48 (.pr .str (.pr .bool (.sl .u8))) false o0_w1006)]⟩
def ref1_below_L0_G (N : Nat) (x0 : List (Str × Bool × List UInt8)) (x1 : Str) (s7 : Int) (w1006 : List (Str × Bool × List UInt8)) (k : Ex → St → Option (Bool × List (Str × Bool × List UInt8))) : Option (Bool × List (Str × Bool × List UInt8)) :=
  ref1_below_L0 N x0 x1 (fun o0_w1006 => k (.exit 0) (ref1_below_L0_tl0 x0 x1 o0_w1006)) N s7 w1006
abbrev ref1_below_L0_F (N : Nat) : FV ref1_below_L0_fs → HV ref1_below_L0_bs → (Ex → St → Option (Bool × List (Str × Bool × List UInt8))) → Option (Bool × List (Str × Bool × List UInt8)) := fun x y k => ref1_below_L0_G N x.1 x.2.1 x.2.2.2.1 y.1 k
noncomputable def ref1_below_LP (N : Nat) : Nat → Code → St → (Ex → St → Option (Bool × List (Str × Bool × List UInt8))) → Option (Bool × List (Str × Bool × List UInt8)) := fun i c =>
  match i with
  | 0 => (LPc 50 ref1_below_L0_fs ref1_below_L0_bs (ref1_below_L0_F N) (fun st k => iter (ref1_below_h 0) (exec (ref1_below_E N) N c 0) N st k))
  | i => fun st k => iter (ref1_below_h i) (exec (ref1_below_E N) N c i) N st k
theorem ref1_below_L0_step (N : Nat) (x0 : List (Str × Bool × List UInt8)) (x1 : Str) (KX : Nat → St → Option (Bool × List (Str × Bool × List UInt8))) (I : St → Option (Bool × List (Str × Bool × List UInt8))) (s7 : Int) (w1006 : List (Str × Bool × List UInt8)) :
    execL (ref1_below_LP N) (ref1_below_E N) (cAt (bodyOf Tryd.f32) [true, true, false, true, false, false]) 0 (ref1_below_L0_hd x0 x1 s7 w1006) (roundK (ref1_below_h 0) I KX (resD (ref1_below_E N) Tryd.f32 (ref1_below_sg fun x _ => ref1_below N x.1 x.2.1) ref1_below_pk)) = ref1_below_L0T N x0 x1 (fun o0_w1006 => KX 0 (ref1_below_L0_tl0 x0 x1 o0_w1006)) (fun s7 w1006 => I (ref1_below_L0_hd x0 x1 s7 w1006)) s7 w1006 := by kernel_rfl
theorem ref1_below_L0_ok (N : Nat) : ∀ x y k, (∀ st, k .ret st = (resD (ref1_below_E N) Tryd.f32 (ref1_below_sg fun x _ => ref1_below N x.1 x.2.1) ref1_below_pk) st) → iter (ref1_below_h 0) (exec (ref1_below_E N) N (cAt (bodyOf Tryd.f32) [true, true, false, true, false, false]) 0) N ⟨50, unF ref1_below_L0_fs x, unH ref1_below_L0_bs y⟩ k = ref1_below_L0_F N x y k := fun x y k hk =>
  iter_link (S := (Int) × (List (Str × Bool × List UInt8)) × Unit) (ref1_below_h 0) _ (execL (ref1_below_LP N) (ref1_below_E N) (cAt (bodyOf Tryd.f32) [true, true, false, true, false, false]) 0) (resD (ref1_below_E N) Tryd.f32 (ref1_below_sg fun x _ => ref1_below N x.1 x.2.1) ref1_below_pk) (fun st k hk => execL_eq _ _ N _ (cAt (bodyOf Tryd.f32) [true, true, false, true, false, false]) 0 (show LoopsOk (ref1_below_LP N) (ref1_below_E N) N (resD (ref1_below_E N) Tryd.f32 (ref1_below_sg fun x _ => ref1_below N x.1 x.2.1) ref1_below_pk) [] from trivial) st k hk) (fun s => ref1_below_L0_hd x.1 x.2.1 s.1 s.2.1) k hk
    (fun self s => ref1_below_L0T N x.1 x.2.1 (fun o0_w1006 => k (.exit 0) (ref1_below_L0_tl0 x.1 x.2.1 o0_w1006)) (fun s7 w1006 => self (s7, w1006, ())) s.1 s.2.1) (fun n s => ref1_below_L0 N x.1 x.2.1 (fun o0_w1006 => k (.exit 0) (ref1_below_L0_tl0 x.1 x.2.1 o0_w1006)) n s.1 s.2.1) (fun _ => rfl) (fun _ _ => rfl)
    (fun I s => ref1_below_L0_step N x.1 x.2.1 (fun j => k (.exit j)) I s.1 s.2.1) N (x.2.2.2.1, y.1, ())
theorem ref1_below_lp0 (N : Nat) : ∀ st k, (∀ st, k .ret st = (resD (ref1_below_E N) Tryd.f32 (ref1_below_sg fun x _ => ref1_below N x.1 x.2.1) ref1_below_pk) st) → ref1_below_LP N 0 (cAt (bodyOf Tryd.f32) [true, true, false, true, false, false]) st k = iter (Env.hint (ref1_below_E N) 0) (exec (ref1_below_E N) N (cAt (bodyOf Tryd.f32) [true, true, false, true, false, false]) 0) N st k := fun st k hk => LPc_eq 50 ref1_below_L0_fs ref1_below_L0_bs _ _ (resD (ref1_below_E N) Tryd.f32 (ref1_below_sg fun x _ => ref1_below N x.1 x.2.1) ref1_below_pk) (ref1_below_L0_ok N) _ st k hk (rfl)
theorem ref1_below_core (N : Nat) (x : SV [.v (.sl (.pr .str (.pr .bool (.sl .u8)))), .v .str]) (y : BV []) : runL (ref1_below_E N) Tryd.f32 (ref1_below_sg fun x _ => ref1_below N x.1 x.2.1) ref1_below_pk (ref1_below_LP N) x y = ref1_below N x.1 x.2.1 := by kernel_rfl
theorem ref1_below_sound (N : Nat) : Sound Tryd.prog GW B0G 32 (ref1_below_sg fun x _ => ref1_below N x.1 x.2.1) :=
  runD_sound (mkE_ok ref1_below_h (ref1_below_fn N) _ _ (ref1_below_fn_ok N)) Tryd.func32 rfl Tryd.call32 (ref1_below_sg fun x _ => ref1_below N x.1 x.2.1) ref1_below_pk (fun _ _ => rfl) N (fun x y _ h => ((runL_eq (ref1_below_E N) N Tryd.f32 (ref1_below_sg fun x _ => ref1_below N x.1 x.2.1) ref1_below_pk (ref1_below_LP N) (show LoopsOk (ref1_below_LP N) (ref1_below_E N) N (resD (ref1_below_E N) Tryd.f32 (ref1_below_sg fun x _ => ref1_below N x.1 x.2.1) ref1_below_pk) [(0, (cAt (bodyOf Tryd.f32) [true, true, false, true, false, false]))] from ⟨ref1_below_lp0 N, trivial⟩) x y).trans (ref1_below_core N x y)).trans h)
end
end Go.Proofs.YtefbpbkjijbepaaDoor

