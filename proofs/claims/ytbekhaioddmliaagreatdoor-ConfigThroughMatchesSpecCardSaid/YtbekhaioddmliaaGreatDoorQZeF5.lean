/- What functions of the program compute, as plain functions (printed). -/
import Derived.Test.YtbekhaioddmliaaGreatDoorQZeF4
namespace Go.Proofs.YtbekhaioddmliaaGreatDoor
open Go Go.RowKit
set_option maxRecDepth 100000
set_option linter.unusedVariables false
noncomputable section
def slices_BinarySearchFunc_api_Pair_string_L0T (N : Nat) (x0 : List (Str × Str)) (x1 : Str) (k0 : Int → Option (Int × Bool)) (self : Int → Int → Option (Int × Bool)) (s9 : Int) (s10 : Int) : Option (Int × Bool) :=
  br (decide (s9 < s10))
    (br (decide (0 ≤ (1 : Int)))
      (bnd (geti x0 (IntKind.i64.wrap (shrI .u64 (IntKind.u64.wrap (IntKind.i64.wrap (s9 + s10))) (1 : Int)))) fun t27 =>
      bnd (config_with_2 N t27 x1) fun t30 =>
      br (decide (t30 < (0 : Int)))
        (self (IntKind.i64.wrap ((IntKind.i64.wrap (shrI .u64 (IntKind.u64.wrap (IntKind.i64.wrap (s9 + s10))) (1 : Int))) + (1 : Int))) s10)
        (self s9 (IntKind.i64.wrap (shrI .u64 (IntKind.u64.wrap (IntKind.i64.wrap (s9 + s10))) (1 : Int)))))
      none)
    (k0 s9)
def slices_BinarySearchFunc_api_Pair_string_L0 (N : Nat) (x0 : List (Str × Str)) (x1 : Str) (k0 : Int → Option (Int × Bool)) : Nat → Int → Int → Option (Int × Bool)
  | 0, _, _ => none
  | n + 1, s9, s10 => slices_BinarySearchFunc_api_Pair_string_L0T N x0 x1 k0 (slices_BinarySearchFunc_api_Pair_string_L0 N x0 x1 k0 n) s9 s10
def slices_BinarySearchFunc_api_Pair_string (N : Nat) (x0 : List (Str × Str)) (x1 : Str) (_x2 : Unit) : Option (Int × Bool) :=
  slices_BinarySearchFunc_api_Pair_string_L0 N x0 x1 (fun o0_9 =>
      br (decide (o0_9 < (x0.length : Int)))
        (bnd (geti x0 o0_9) fun t43 =>
        bnd (config_with_2 N t43 x1) fun t46 =>
        some (o0_9, t46 == (0 : Int)))
        (some (o0_9, false))) N (0 : Int) (x0.length : Int)
abbrev slices_BinarySearchFunc_api_Pair_string_sg (f : SV [.v (.sl (.pr .str .str)), .v .str, .v (.clo 97 .un)] → BV [] → Option (Int × Bool)) : AF := { ps := [.v (.sl (.pr .str .str)), .v .str, .v (.clo 97 .un)], bs := [], rs := [.v (.int .i64), .v .bool], cs := [], R := Int × Bool, out := fun z => ((z.1, z.2, ()), ()), f := f }
abbrev slices_BinarySearchFunc_api_Pair_string_pk : SV [.v (.int .i64), .v .bool] → BV [] → (Int × Bool) := fun x _ => (x.1, x.2.1)
def slices_BinarySearchFunc_api_Pair_string_fn (N : Nat) : FuncId → Option Tmp → Option AF := fun f _ =>
  match f with
    | 97 => some (config_with_2_sg fun x _ => config_with_2 N x.1 x.2.1)
    | _ => none
theorem slices_BinarySearchFunc_api_Pair_string_fn_ok (N : Nat) : ∀ f q F, slices_BinarySearchFunc_api_Pair_string_fn N f q = some F → Sound Tryz.prog GW B0G f F := by
  intro f q F h
  unfold slices_BinarySearchFunc_api_Pair_string_fn at h
  split at h
  · cases h; exact config_with_2_sound N
  · cases h
def slices_BinarySearchFunc_api_Pair_string_h : Nat → Hint := fun i =>
  match i with
  | 0 => ⟨[], [0, 1, 2, 8, 9, 10], [], [0, 1, 2, 8, 9], [], []⟩
  | _ => ⟨[], [], [], [], [], []⟩
abbrev slices_BinarySearchFunc_api_Pair_string_E (N : Nat) : Env := mkE slices_BinarySearchFunc_api_Pair_string_h (slices_BinarySearchFunc_api_Pair_string_fn N) (fun _ => false) (fun _ => false)
abbrev slices_BinarySearchFunc_api_Pair_string_L0_fs : List (Nat × Sl) := [(0, .v (.sl (.pr .str .str))), (1, .v .str), (2, .v (.clo 97 .un)), (8, .v (.int .i64)), (9, .v (.int .i64)), (10, .v (.int .i64))]
abbrev slices_BinarySearchFunc_api_Pair_string_L0_bs : List (Nat × Sb) := []
def slices_BinarySearchFunc_api_Pair_string_L0_hd (x0 : List (Str × Str)) (x1 : Str) (x2 : Unit) (c8 : Int) (s9 : Int) (s10 : Int) : St := ⟨49, [(0, .v (.sl (.pr .str .str)) x0), (1, .v .str x1), (2, .v (.clo 97 .un) x2), (8, .v (.int .i64) c8), (9, .v (.int .i64) s9), (10, .v (.int .i64) s10)], []⟩
def slices_BinarySearchFunc_api_Pair_string_L0_tl0 (x0 : List (Str × Str)) (x1 : Str) (x2 : Unit) (c8 : Int) (o0_9 : Int) : St := ⟨49, [(0, .v (.sl (.pr .str .str)) x0), (1, .v .str x1), (2, .v (.clo 97 .un) x2), (8, .v (.int .i64) c8), (9, .v (.int .i64) o0_9)], []⟩
def slices_BinarySearchFunc_api_Pair_string_L0_G (N : Nat) (x0 : List (Str × Str)) (x1 : Str) (x2 : Unit) (c8 : Int) (s9 : Int) (s10 : Int) (k : Ex → St → Option (Int × Bool)) : Option (Int × Bool) :=
  slices_BinarySearchFunc_api_Pair_string_L0 N x0 x1 (fun o0_9 => k (.exit 0) (slices_BinarySearchFunc_api_Pair_string_L0_tl0 x0 x1 x2 c8 o0_9)) N s9 s10
abbrev slices_BinarySearchFunc_api_Pair_string_L0_F (N : Nat) : FV slices_BinarySearchFunc_api_Pair_string_L0_fs → HV slices_BinarySearchFunc_api_Pair_string_L0_bs → (Ex → St → Option (Int × Bool)) → Option (Int × Bool) := fun x _ k => slices_BinarySearchFunc_api_Pair_string_L0_G N x.1 x.2.1 x.2.2.1 x.2.2.2.1 x.2.2.2.2.1 x.2.2.2.2.2.1 k
noncomputable def slices_BinarySearchFunc_api_Pair_string_LP (N : Nat) : Nat → Code → St → (Ex → St → Option (Int × Bool)) → Option (Int × Bool) := fun i c =>
  match i with
  | 0 => (LPc 49 slices_BinarySearchFunc_api_Pair_string_L0_fs slices_BinarySearchFunc_api_Pair_string_L0_bs (slices_BinarySearchFunc_api_Pair_string_L0_F N) (fun st k => iter (slices_BinarySearchFunc_api_Pair_string_h 0) (exec (slices_BinarySearchFunc_api_Pair_string_E N) N c 0) N st k))
  | i => fun st k => iter (slices_BinarySearchFunc_api_Pair_string_h i) (exec (slices_BinarySearchFunc_api_Pair_string_E N) N c i) N st k
theorem slices_BinarySearchFunc_api_Pair_string_L0_step (N : Nat) (x0 : List (Str × Str)) (x1 : Str) (x2 : Unit) (c8 : Int) (KX : Nat → St → Option (Int × Bool)) (I : St → Option (Int × Bool)) (s9 : Int) (s10 : Int) :
    execL (slices_BinarySearchFunc_api_Pair_string_LP N) (slices_BinarySearchFunc_api_Pair_string_E N) (cAt (bodyOf Tryz.f96) [true, true, true, false, false, false]) 0 (slices_BinarySearchFunc_api_Pair_string_L0_hd x0 x1 x2 c8 s9 s10) (roundK (slices_BinarySearchFunc_api_Pair_string_h 0) I KX (resD (slices_BinarySearchFunc_api_Pair_string_E N) Tryz.f96 (slices_BinarySearchFunc_api_Pair_string_sg fun x _ => slices_BinarySearchFunc_api_Pair_string N x.1 x.2.1 x.2.2.1) slices_BinarySearchFunc_api_Pair_string_pk)) = slices_BinarySearchFunc_api_Pair_string_L0T N x0 x1 (fun o0_9 => KX 0 (slices_BinarySearchFunc_api_Pair_string_L0_tl0 x0 x1 x2 c8 o0_9)) (fun s9 s10 => I (slices_BinarySearchFunc_api_Pair_string_L0_hd x0 x1 x2 c8 s9 s10)) s9 s10 := by kernel_rfl
theorem slices_BinarySearchFunc_api_Pair_string_L0_ok (N : Nat) : ∀ x y k, (∀ st, k .ret st = (resD (slices_BinarySearchFunc_api_Pair_string_E N) Tryz.f96 (slices_BinarySearchFunc_api_Pair_string_sg fun x _ => slices_BinarySearchFunc_api_Pair_string N x.1 x.2.1 x.2.2.1) slices_BinarySearchFunc_api_Pair_string_pk) st) → iter (slices_BinarySearchFunc_api_Pair_string_h 0) (exec (slices_BinarySearchFunc_api_Pair_string_E N) N (cAt (bodyOf Tryz.f96) [true, true, true, false, false, false]) 0) N ⟨49, unF slices_BinarySearchFunc_api_Pair_string_L0_fs x, unH slices_BinarySearchFunc_api_Pair_string_L0_bs y⟩ k = slices_BinarySearchFunc_api_Pair_string_L0_F N x y k := fun x _ k hk =>
  iter_link (S := (Int) × (Int) × Unit) (slices_BinarySearchFunc_api_Pair_string_h 0) _ (execL (slices_BinarySearchFunc_api_Pair_string_LP N) (slices_BinarySearchFunc_api_Pair_string_E N) (cAt (bodyOf Tryz.f96) [true, true, true, false, false, false]) 0) (resD (slices_BinarySearchFunc_api_Pair_string_E N) Tryz.f96 (slices_BinarySearchFunc_api_Pair_string_sg fun x _ => slices_BinarySearchFunc_api_Pair_string N x.1 x.2.1 x.2.2.1) slices_BinarySearchFunc_api_Pair_string_pk) (fun st k hk => execL_eq _ _ N _ (cAt (bodyOf Tryz.f96) [true, true, true, false, false, false]) 0 (show LoopsOk (slices_BinarySearchFunc_api_Pair_string_LP N) (slices_BinarySearchFunc_api_Pair_string_E N) N (resD (slices_BinarySearchFunc_api_Pair_string_E N) Tryz.f96 (slices_BinarySearchFunc_api_Pair_string_sg fun x _ => slices_BinarySearchFunc_api_Pair_string N x.1 x.2.1 x.2.2.1) slices_BinarySearchFunc_api_Pair_string_pk) [] from trivial) st k hk) (fun s => slices_BinarySearchFunc_api_Pair_string_L0_hd x.1 x.2.1 x.2.2.1 x.2.2.2.1 s.1 s.2.1) k hk
    (fun self s => slices_BinarySearchFunc_api_Pair_string_L0T N x.1 x.2.1 (fun o0_9 => k (.exit 0) (slices_BinarySearchFunc_api_Pair_string_L0_tl0 x.1 x.2.1 x.2.2.1 x.2.2.2.1 o0_9)) (fun s9 s10 => self (s9, s10, ())) s.1 s.2.1) (fun n s => slices_BinarySearchFunc_api_Pair_string_L0 N x.1 x.2.1 (fun o0_9 => k (.exit 0) (slices_BinarySearchFunc_api_Pair_string_L0_tl0 x.1 x.2.1 x.2.2.1 x.2.2.2.1 o0_9)) n s.1 s.2.1) (fun _ => rfl) (fun _ _ => rfl)
    (fun I s => slices_BinarySearchFunc_api_Pair_string_L0_step N x.1 x.2.1 x.2.2.1 x.2.2.2.1 (fun j => k (.exit j)) I s.1 s.2.1) N (x.2.2.2.2.1, x.2.2.2.2.2.1, ())
theorem slices_BinarySearchFunc_api_Pair_string_lp0 (N : Nat) : ∀ st k, (∀ st, k .ret st = (resD (slices_BinarySearchFunc_api_Pair_string_E N) Tryz.f96 (slices_BinarySearchFunc_api_Pair_string_sg fun x _ => slices_BinarySearchFunc_api_Pair_string N x.1 x.2.1 x.2.2.1) slices_BinarySearchFunc_api_Pair_string_pk) st) → slices_BinarySearchFunc_api_Pair_string_LP N 0 (cAt (bodyOf Tryz.f96) [true, true, true, false, false, false]) st k = iter (Env.hint (slices_BinarySearchFunc_api_Pair_string_E N) 0) (exec (slices_BinarySearchFunc_api_Pair_string_E N) N (cAt (bodyOf Tryz.f96) [true, true, true, false, false, false]) 0) N st k := fun st k hk => LPc_eq 49 slices_BinarySearchFunc_api_Pair_string_L0_fs slices_BinarySearchFunc_api_Pair_string_L0_bs _ _ (resD (slices_BinarySearchFunc_api_Pair_string_E N) Tryz.f96 (slices_BinarySearchFunc_api_Pair_string_sg fun x _ => slices_BinarySearchFunc_api_Pair_string N x.1 x.2.1 x.2.2.1) slices_BinarySearchFunc_api_Pair_string_pk) (slices_BinarySearchFunc_api_Pair_string_L0_ok N) _ st k hk (rfl)
theorem slices_BinarySearchFunc_api_Pair_string_core (N : Nat) (x : SV [.v (.sl (.pr .str .str)), .v .str, .v (.clo 97 .un)]) (y : BV []) : runL (slices_BinarySearchFunc_api_Pair_string_E N) Tryz.f96 (slices_BinarySearchFunc_api_Pair_string_sg fun x _ => slices_BinarySearchFunc_api_Pair_string N x.1 x.2.1 x.2.2.1) slices_BinarySearchFunc_api_Pair_string_pk (slices_BinarySearchFunc_api_Pair_string_LP N) x y = slices_BinarySearchFunc_api_Pair_string N x.1 x.2.1 x.2.2.1 := by kernel_rfl
theorem slices_BinarySearchFunc_api_Pair_string_sound (N : Nat) : Sound Tryz.prog GW B0G 96 (slices_BinarySearchFunc_api_Pair_string_sg fun x _ => slices_BinarySearchFunc_api_Pair_string N x.1 x.2.1 x.2.2.1) :=
  runD_sound (mkE_ok slices_BinarySearchFunc_api_Pair_string_h (slices_BinarySearchFunc_api_Pair_string_fn N) _ _ (slices_BinarySearchFunc_api_Pair_string_fn_ok N)) Tryz.func96 rfl Tryz.call96 (slices_BinarySearchFunc_api_Pair_string_sg fun x _ => slices_BinarySearchFunc_api_Pair_string N x.1 x.2.1 x.2.2.1) slices_BinarySearchFunc_api_Pair_string_pk (fun _ _ => rfl) N (fun x y _ h => ((runL_eq (slices_BinarySearchFunc_api_Pair_string_E N) N Tryz.f96 (slices_BinarySearchFunc_api_Pair_string_sg fun x _ => slices_BinarySearchFunc_api_Pair_string N x.1 x.2.1 x.2.2.1) slices_BinarySearchFunc_api_Pair_string_pk (slices_BinarySearchFunc_api_Pair_string_LP N) (show LoopsOk (slices_BinarySearchFunc_api_Pair_string_LP N) (slices_BinarySearchFunc_api_Pair_string_E N) N (resD (slices_BinarySearchFunc_api_Pair_string_E N) Tryz.f96 (slices_BinarySearchFunc_api_Pair_string_sg fun x _ => slices_BinarySearchFunc_api_Pair_string N x.1 x.2.1 x.2.2.1) slices_BinarySearchFunc_api_Pair_string_pk) [(0, (cAt (bodyOf Tryz.f96) [true, true, true, false, false, false]))] from ⟨slices_BinarySearchFunc_api_Pair_string_lp0 N, trivial⟩) x y).trans (slices_BinarySearchFunc_api_Pair_string_core N x y)).trans h)
def config_with (N : Nat) (x0 : List (Str × List Str)) (x1 : List (Str × Str)) (x2 : Str) (x3 : Str) : Option (List (Str × Str)) :=
  bnd (slices_Clone_api_Pair N x1) fun t13 =>
  bnd (slices_DeleteFunc_api_Pair N (x2, ()) t13) fun t15 =>
  bnd (config_find N x0 x2) fun t20 =>
  bnd (geti x0 t20) fun t21 =>
  bnd (geti t21.2 (0 : Int)) fun t24 =>
  br (x3 == t24)
    (some t15)
    (bnd (slices_BinarySearchFunc_api_Pair_string N t15 x2 ()) fun t31 =>
    bnd (slices_Insert_pair t31.1 t15 [(x2, x3)]) fun t40 =>
    some t40)
abbrev config_with_sg (f : SV [.v (.sl (.pr .str (.sl .str))), .v (.sl (.pr .str .str)), .v .str, .v .str] → BV [] → Option (List (Str × Str))) : AF := { ps := [.v (.sl (.pr .str (.sl .str))), .v (.sl (.pr .str .str)), .v .str, .v .str], bs := [], rs := [.row 0], cs := [.row 53 (.pr .str .str) true], R := List (Str × Str), out := fun z => (((), ()), (z, ())), f := f }
abbrev config_with_pk : SV [.row 0] → BV [.row 53 (.pr .str .str) true] → (List (Str × Str)) := fun _ y => y.1
def config_with_fn (N : Nat) : FuncId → Option Tmp → Option AF := fun f _ =>
  match f with
    | 54 => some (slices_Clone_api_Pair_sg fun x _ => slices_Clone_api_Pair N x.1)
    | 73 => some (config_find_sg fun x _ => config_find N x.1 x.2.1)
    | 94 => some (slices_DeleteFunc_api_Pair_sg fun x y => slices_DeleteFunc_api_Pair N x.2.1 y.1)
    | 96 => some (slices_BinarySearchFunc_api_Pair_string_sg fun x _ => slices_BinarySearchFunc_api_Pair_string N x.1 x.2.1 x.2.2.1)
    | 99 => some (slices_Insert_pair_sg fun x y => slices_Insert_pair x.2.1 y.1 y.2.1)
    | 95 => some (noneAF [.v (.ptr .str)])
    | _ => none
theorem config_with_fn_ok (N : Nat) : ∀ f q F, config_with_fn N f q = some F → Sound Tryz.prog GW B0G f F := by
  intro f q F h
  unfold config_with_fn at h
  split at h
  · cases h; exact slices_Clone_api_Pair_sound N
  · cases h; exact config_find_sound N
  · cases h; exact slices_DeleteFunc_api_Pair_sound N
  · cases h; exact slices_BinarySearchFunc_api_Pair_string_sound N
  · cases h; exact slices_Insert_pair_sound
  · cases h; exact noneAF_sound Tryz.call95 _
  · cases h
def config_with_h : Nat → Hint := fun i =>
  match i with
  | _ => ⟨[], [], [], [], [], []⟩
abbrev config_with_E (N : Nat) : Env := mkE config_with_h (config_with_fn N) (fun _ => false) (fun _ => false)
noncomputable def config_with_LP (N : Nat) : Nat → Code → St → (Ex → St → Option (List (Str × Str))) → Option (List (Str × Str)) := fun i c =>
  match i with
  | i => fun st k => iter (config_with_h i) (exec (config_with_E N) N c i) N st k
theorem config_with_core (N : Nat) (x : SV [.v (.sl (.pr .str (.sl .str))), .v (.sl (.pr .str .str)), .v .str, .v .str]) (y : BV []) : runL (config_with_E N) Tryz.f37 (config_with_sg fun x _ => config_with N x.1 x.2.1 x.2.2.1 x.2.2.2.1) config_with_pk (config_with_LP N) x y = config_with N x.1 x.2.1 x.2.2.1 x.2.2.2.1 := by kernel_rfl
theorem config_with_sound (N : Nat) : Sound Tryz.prog GW B0G 37 (config_with_sg fun x _ => config_with N x.1 x.2.1 x.2.2.1 x.2.2.2.1) :=
  runD_sound (mkE_ok config_with_h (config_with_fn N) _ _ (config_with_fn_ok N)) Tryz.func37 rfl Tryz.call37 (config_with_sg fun x _ => config_with N x.1 x.2.1 x.2.2.1 x.2.2.2.1) config_with_pk (fun _ _ => rfl) N (fun x y _ h => ((runL_eq (config_with_E N) N Tryz.f37 (config_with_sg fun x _ => config_with N x.1 x.2.1 x.2.2.1 x.2.2.2.1) config_with_pk (config_with_LP N) (show LoopsOk (config_with_LP N) (config_with_E N) N (resD (config_with_E N) Tryz.f37 (config_with_sg fun x _ => config_with N x.1 x.2.1 x.2.2.1 x.2.2.2.1) config_with_pk) [] from trivial) x y).trans (config_with_core N x y)).trans h)
def ref3_with_L0T (N : Nat) (x0 : List (Str × List Str)) (x1 : List (Str × Str)) (x2 : Str) (x3 : Str) (c13 : List (Str × List Str)) (c14 : Int) (k0 : (List (Str × Str)) → Option (List (Str × Str))) (self : Int → (List (Str × Str)) → Option (List (Str × Str))) (s15 : Int) (w1009 : List (Str × Str)) : Option (List (Str × Str)) :=
  br (decide (s15 < c14))
    (bnd (geti c13 s15) fun t17 =>
    bnd (ref3_valueOf N x0 x1 t17.1) fun t23 =>
    br (t17.1 == x2)
      (bnd (geti t17.2 (0 : Int)) fun t32 =>
      br (!(x3 == t32))
        (br (decide ((w1009.length + [(t17.1, x3)].length) * (24 * Ty.sz (.pr .str .str)) ≤ 140737488355328))
          (self (IntKind.i64.wrap (s15 + (1 : Int))) (w1009 ++ [(t17.1, x3)]))
          none)
        (self (IntKind.i64.wrap (s15 + (1 : Int))) w1009))
      (bnd (geti t17.2 (0 : Int)) fun t32_1 =>
      br (!(t23 == t32_1))
        (br (decide ((w1009.length + [(t17.1, t23)].length) * (24 * Ty.sz (.pr .str .str)) ≤ 140737488355328))
          (self (IntKind.i64.wrap (s15 + (1 : Int))) (w1009 ++ [(t17.1, t23)]))
          none)
        (self (IntKind.i64.wrap (s15 + (1 : Int))) w1009)))
    (k0 w1009)
def ref3_with_L0 (N : Nat) (x0 : List (Str × List Str)) (x1 : List (Str × Str)) (x2 : Str) (x3 : Str) (c13 : List (Str × List Str)) (c14 : Int) (k0 : (List (Str × Str)) → Option (List (Str × Str))) : Nat → Int → (List (Str × Str)) → Option (List (Str × Str))
  | 0, _, _ => none
  | n + 1, s15, w1009 => ref3_with_L0T N x0 x1 x2 x3 c13 c14 k0 (ref3_with_L0 N x0 x1 x2 x3 c13 c14 k0 n) s15 w1009
def ref3_with (N : Nat) (x0 : List (Str × List Str)) (x1 : List (Str × Str)) (x2 : Str) (x3 : Str) : Option (List (Str × Str)) :=
  ref3_with_L0 N x0 x1 x2 x3 x0 (x0.length : Int) (fun o0_w1009 =>
      some o0_w1009) N (0 : Int) ([] : List (Str × Str))
abbrev ref3_with_sg (f : SV [.v (.sl (.pr .str (.sl .str))), .v (.sl (.pr .str .str)), .v .str, .v .str] → BV [] → Option (List (Str × Str))) : AF := { ps := [.v (.sl (.pr .str (.sl .str))), .v (.sl (.pr .str .str)), .v .str, .v .str], bs := [], rs := [.row 0], cs := [.row 53 (.pr .str .str) false], R := List (Str × Str), out := fun z => (((), ()), (z, ())), f := f }
abbrev ref3_with_pk : SV [.row 0] → BV [.row 53 (.pr .str .str) false] → (List (Str × Str)) := fun _ y => y.1
def ref3_with_fn (N : Nat) : FuncId → Option Tmp → Option AF := fun f _ =>
  match f with
    | 101 => some (ref3_valueOf_sg fun x _ => ref3_valueOf N x.1 x.2.1 x.2.2.1)
    | _ => none
theorem ref3_with_fn_ok (N : Nat) : ∀ f q F, ref3_with_fn N f q = some F → Sound Tryz.prog GW B0G f F := by
  intro f q F h
  unfold ref3_with_fn at h
  split at h
  · cases h; exact ref3_valueOf_sound N
  · cases h
def ref3_with_h : Nat → Hint := fun i =>
  match i with
  | 0 => ⟨[], [0, 1, 2, 3, 9, 13, 14, 15], [1009], [9], [1009], []⟩
  | _ => ⟨[], [], [], [], [], []⟩
abbrev ref3_with_E (N : Nat) : Env := mkE ref3_with_h (ref3_with_fn N) (fun _ => false) (fun _ => false)
abbrev ref3_with_L0_fs : List (Nat × Sl) := [(0, .v (.sl (.pr .str (.sl .str)))), (1, .v (.sl (.pr .str .str))), (2, .v .str), (3, .v .str), (9, .row 1009), (13, .v (.sl (.pr .str (.sl .str)))), (14, .v (.int .i64)), (15, .v (.int .i64))]
abbrev ref3_with_L0_bs : List (Nat × Sb) := [(1009, .row 53 (.pr .str .str) false)]
def ref3_with_L0_hd (x0 : List (Str × List Str)) (x1 : List (Str × Str)) (x2 : Str) (x3 : Str) (c13 : List (Str × List Str)) (c14 : Int) (s15 : Int) (w1009 : List (Str × Str)) : St := ⟨44, [(0, .v (.sl (.pr .str (.sl .str))) x0), (1, .v (.sl (.pr .str .str)) x1), (2, .v .str x2), (3, .v .str x3), (9, .row 1009), (13, .v (.sl (.pr .str (.sl .str))) c13), (14, .v (.int .i64) c14), (15, .v (.int .i64) s15)], [(1009, .row 53 (.pr .str .str) false w1009)]⟩
def ref3_with_L0_tl0 (_x0 : List (Str × List Str)) (_x1 : List (Str × Str)) (_x2 : Str) (_x3 : Str) (_c13 : List (Str × List Str)) (_c14 : Int) (o0_w1009 : List (Str × Str)) : St := ⟨44, [(9, .row 1009)], [(1009, .row 53 (.pr .str .str) false o0_w1009)]⟩
def ref3_with_L0_G (N : Nat) (x0 : List (Str × List Str)) (x1 : List (Str × Str)) (x2 : Str) (x3 : Str) (c13 : List (Str × List Str)) (c14 : Int) (s15 : Int) (w1009 : List (Str × Str)) (k : Ex → St → Option (List (Str × Str))) : Option (List (Str × Str)) :=
  ref3_with_L0 N x0 x1 x2 x3 c13 c14 (fun o0_w1009 => k (.exit 0) (ref3_with_L0_tl0 x0 x1 x2 x3 c13 c14 o0_w1009)) N s15 w1009
abbrev ref3_with_L0_F (N : Nat) : FV ref3_with_L0_fs → HV ref3_with_L0_bs → (Ex → St → Option (List (Str × Str))) → Option (List (Str × Str)) := fun x y k => ref3_with_L0_G N x.1 x.2.1 x.2.2.1 x.2.2.2.1 x.2.2.2.2.2.1 x.2.2.2.2.2.2.1 x.2.2.2.2.2.2.2.1 y.1 k
noncomputable def ref3_with_LP (N : Nat) : Nat → Code → St → (Ex → St → Option (List (Str × Str))) → Option (List (Str × Str)) := fun i c =>
  match i with
  | 0 => (LPc 44 ref3_with_L0_fs ref3_with_L0_bs (ref3_with_L0_F N) (fun st k => iter (ref3_with_h 0) (exec (ref3_with_E N) N c 0) N st k))
  | i => fun st k => iter (ref3_with_h i) (exec (ref3_with_E N) N c i) N st k
theorem ref3_with_L0_step (N : Nat) (x0 : List (Str × List Str)) (x1 : List (Str × Str)) (x2 : Str) (x3 : Str) (c13 : List (Str × List Str)) (c14 : Int) (KX : Nat → St → Option (List (Str × Str))) (I : St → Option (List (Str × Str))) (s15 : Int) (w1009 : List (Str × Str)) :
    execL (ref3_with_LP N) (ref3_with_E N) (cAt (bodyOf Tryz.f40) [true, true, false, true, false, false]) 0 (ref3_with_L0_hd x0 x1 x2 x3 c13 c14 s15 w1009) (roundK (ref3_with_h 0) I KX (resD (ref3_with_E N) Tryz.f40 (ref3_with_sg fun x _ => ref3_with N x.1 x.2.1 x.2.2.1 x.2.2.2.1) ref3_with_pk)) = ref3_with_L0T N x0 x1 x2 x3 c13 c14 (fun o0_w1009 => KX 0 (ref3_with_L0_tl0 x0 x1 x2 x3 c13 c14 o0_w1009)) (fun s15 w1009 => I (ref3_with_L0_hd x0 x1 x2 x3 c13 c14 s15 w1009)) s15 w1009 := by kernel_rfl
theorem ref3_with_L0_ok (N : Nat) : ∀ x y k, (∀ st, k .ret st = (resD (ref3_with_E N) Tryz.f40 (ref3_with_sg fun x _ => ref3_with N x.1 x.2.1 x.2.2.1 x.2.2.2.1) ref3_with_pk) st) → iter (ref3_with_h 0) (exec (ref3_with_E N) N (cAt (bodyOf Tryz.f40) [true, true, false, true, false, false]) 0) N ⟨44, unF ref3_with_L0_fs x, unH ref3_with_L0_bs y⟩ k = ref3_with_L0_F N x y k := fun x y k hk =>
  iter_link (S := (Int) × (List (Str × Str)) × Unit) (ref3_with_h 0) _ (execL (ref3_with_LP N) (ref3_with_E N) (cAt (bodyOf Tryz.f40) [true, true, false, true, false, false]) 0) (resD (ref3_with_E N) Tryz.f40 (ref3_with_sg fun x _ => ref3_with N x.1 x.2.1 x.2.2.1 x.2.2.2.1) ref3_with_pk) (fun st k hk => execL_eq _ _ N _ (cAt (bodyOf Tryz.f40) [true, true, false, true, false, false]) 0 (show LoopsOk (ref3_with_LP N) (ref3_with_E N) N (resD (ref3_with_E N) Tryz.f40 (ref3_with_sg fun x _ => ref3_with N x.1 x.2.1 x.2.2.1 x.2.2.2.1) ref3_with_pk) [] from trivial) st k hk) (fun s => ref3_with_L0_hd x.1 x.2.1 x.2.2.1 x.2.2.2.1 x.2.2.2.2.2.1 x.2.2.2.2.2.2.1 s.1 s.2.1) k hk
    (fun self s => ref3_with_L0T N x.1 x.2.1 x.2.2.1 x.2.2.2.1 x.2.2.2.2.2.1 x.2.2.2.2.2.2.1 (fun o0_w1009 => k (.exit 0) (ref3_with_L0_tl0 x.1 x.2.1 x.2.2.1 x.2.2.2.1 x.2.2.2.2.2.1 x.2.2.2.2.2.2.1 o0_w1009)) (fun s15 w1009 => self (s15, w1009, ())) s.1 s.2.1) (fun n s => ref3_with_L0 N x.1 x.2.1 x.2.2.1 x.2.2.2.1 x.2.2.2.2.2.1 x.2.2.2.2.2.2.1 (fun o0_w1009 => k (.exit 0) (ref3_with_L0_tl0 x.1 x.2.1 x.2.2.1 x.2.2.2.1 x.2.2.2.2.2.1 x.2.2.2.2.2.2.1 o0_w1009)) n s.1 s.2.1) (fun _ => rfl) (fun _ _ => rfl)
    (fun I s => ref3_with_L0_step N x.1 x.2.1 x.2.2.1 x.2.2.2.1 x.2.2.2.2.2.1 x.2.2.2.2.2.2.1 (fun j => k (.exit j)) I s.1 s.2.1) N (x.2.2.2.2.2.2.2.1, y.1, ())
theorem ref3_with_lp0 (N : Nat) : ∀ st k, (∀ st, k .ret st = (resD (ref3_with_E N) Tryz.f40 (ref3_with_sg fun x _ => ref3_with N x.1 x.2.1 x.2.2.1 x.2.2.2.1) ref3_with_pk) st) → ref3_with_LP N 0 (cAt (bodyOf Tryz.f40) [true, true, false, true, false, false]) st k = iter (Env.hint (ref3_with_E N) 0) (exec (ref3_with_E N) N (cAt (bodyOf Tryz.f40) [true, true, false, true, false, false]) 0) N st k := fun st k hk => LPc_eq 44 ref3_with_L0_fs ref3_with_L0_bs _ _ (resD (ref3_with_E N) Tryz.f40 (ref3_with_sg fun x _ => ref3_with N x.1 x.2.1 x.2.2.1 x.2.2.2.1) ref3_with_pk) (ref3_with_L0_ok N) _ st k hk (rfl)
theorem ref3_with_core (N : Nat) (x : SV [.v (.sl (.pr .str (.sl .str))), .v (.sl (.pr .str .str)), .v .str, .v .str]) (y : BV []) : runL (ref3_with_E N) Tryz.f40 (ref3_with_sg fun x _ => ref3_with N x.1 x.2.1 x.2.2.1 x.2.2.2.1) ref3_with_pk (ref3_with_LP N) x y = ref3_with N x.1 x.2.1 x.2.2.1 x.2.2.2.1 := by kernel_rfl
theorem ref3_with_sound (N : Nat) : Sound Tryz.prog GW B0G 40 (ref3_with_sg fun x _ => ref3_with N x.1 x.2.1 x.2.2.1 x.2.2.2.1) :=
  runD_sound (mkE_ok ref3_with_h (ref3_with_fn N) _ _ (ref3_with_fn_ok N)) Tryz.func40 rfl Tryz.call40 (ref3_with_sg fun x _ => ref3_with N x.1 x.2.1 x.2.2.1 x.2.2.2.1) ref3_with_pk (fun _ _ => rfl) N (fun x y _ h => ((runL_eq (ref3_with_E N) N Tryz.f40 (ref3_with_sg fun x _ => ref3_with N x.1 x.2.1 x.2.2.1 x.2.2.2.1) ref3_with_pk (ref3_with_LP N) (show LoopsOk (ref3_with_LP N) (ref3_with_E N) N (resD (ref3_with_E N) Tryz.f40 (ref3_with_sg fun x _ => ref3_with N x.1 x.2.1 x.2.2.1 x.2.2.2.1) ref3_with_pk) [(0, (cAt (bodyOf Tryz.f40) [true, true, false, true, false, false]))] from ⟨ref3_with_lp0 N, trivial⟩) x y).trans (ref3_with_core N x y)).trans h)
def config_checkNames_L0T (N : Nat) (x0 : List (Str × List Str)) (x1 : List Str) (c7 : List Str) (c8 : Int) (k0 : Option Int) (self : Int → Option Int) (s9 : Int) : Option Int :=
  br (decide (s9 < c8))
    (bnd (geti c7 s9) fun t12 =>
    bnd (config_find N x0 t12) fun t16 =>
    br (decide (t16 < (0 : Int)))
      (some (5 : Int))
      (br (decide (s9 > (0 : Int)))
        (bnd (geti x1 (IntKind.i64.wrap (s9 - (1 : Int)))) fun t25 =>
        br (Op.bytesLess t12 t25 || t12 == t25)
          (some (8 : Int))
          (self (IntKind.i64.wrap (s9 + (1 : Int)))))
        (self (IntKind.i64.wrap (s9 + (1 : Int))))))
    (k0)
def config_checkNames_L0 (N : Nat) (x0 : List (Str × List Str)) (x1 : List Str) (c7 : List Str) (c8 : Int) (k0 : Option Int) : Nat → Int → Option Int
  | 0, _ => none
  | n + 1, s9 => config_checkNames_L0T N x0 x1 c7 c8 k0 (config_checkNames_L0 N x0 x1 c7 c8 k0 n) s9
def config_checkNames (N : Nat) (x0 : List (Str × List Str)) (x1 : List Str) : Option Int :=
  config_checkNames_L0 N x0 x1 x1 (x1.length : Int) (some (0 : Int)) N (0 : Int)
abbrev config_checkNames_sg (f : SV [.v (.sl (.pr .str (.sl .str))), .v (.sl .str)] → BV [] → Option (Int)) : AF := { ps := [.v (.sl (.pr .str (.sl .str))), .v (.sl .str)], bs := [], rs := [.v (.int .i64)], cs := [], R := Int, out := fun z => ((z, ()), ()), f := f }
abbrev config_checkNames_pk : SV [.v (.int .i64)] → BV [] → Int := fun x _ => x.1
def config_checkNames_fn (N : Nat) : FuncId → Option Tmp → Option AF := fun f _ =>
  match f with
    | 73 => some (config_find_sg fun x _ => config_find N x.1 x.2.1)
    | _ => none
theorem config_checkNames_fn_ok (N : Nat) : ∀ f q F, config_checkNames_fn N f q = some F → Sound Tryz.prog GW B0G f F := by
  intro f q F h
  unfold config_checkNames_fn at h
  split at h
  · cases h; exact config_find_sound N
  · cases h
def config_checkNames_h : Nat → Hint := fun i =>
  match i with
  | 0 => ⟨[], [0, 1, 7, 8, 9], [], [], [], []⟩
  | _ => ⟨[], [], [], [], [], []⟩
abbrev config_checkNames_E (N : Nat) : Env := mkE config_checkNames_h (config_checkNames_fn N) (fun _ => false) (fun _ => false)
abbrev config_checkNames_L0_fs : List (Nat × Sl) := [(0, .v (.sl (.pr .str (.sl .str)))), (1, .v (.sl .str)), (7, .v (.sl .str)), (8, .v (.int .i64)), (9, .v (.int .i64))]
abbrev config_checkNames_L0_bs : List (Nat × Sb) := []
def config_checkNames_L0_hd (x0 : List (Str × List Str)) (x1 : List Str) (c7 : List Str) (c8 : Int) (s9 : Int) : St := ⟨30, [(0, .v (.sl (.pr .str (.sl .str))) x0), (1, .v (.sl .str) x1), (7, .v (.sl .str) c7), (8, .v (.int .i64) c8), (9, .v (.int .i64) s9)], []⟩
def config_checkNames_L0_tl0 (_x0 : List (Str × List Str)) (_x1 : List Str) (_c7 : List Str) (_c8 : Int) : St := ⟨30, [], []⟩
def config_checkNames_L0_G (N : Nat) (x0 : List (Str × List Str)) (x1 : List Str) (c7 : List Str) (c8 : Int) (s9 : Int) (k : Ex → St → Option Int) : Option Int :=
  config_checkNames_L0 N x0 x1 c7 c8 (k (.exit 0) (config_checkNames_L0_tl0 x0 x1 c7 c8)) N s9
abbrev config_checkNames_L0_F (N : Nat) : FV config_checkNames_L0_fs → HV config_checkNames_L0_bs → (Ex → St → Option Int) → Option Int := fun x _ k => config_checkNames_L0_G N x.1 x.2.1 x.2.2.1 x.2.2.2.1 x.2.2.2.2.1 k
noncomputable def config_checkNames_LP (N : Nat) : Nat → Code → St → (Ex → St → Option Int) → Option Int := fun i c =>
  match i with
  | 0 => (LPc 30 config_checkNames_L0_fs config_checkNames_L0_bs (config_checkNames_L0_F N) (fun st k => iter (config_checkNames_h 0) (exec (config_checkNames_E N) N c 0) N st k))
  | i => fun st k => iter (config_checkNames_h i) (exec (config_checkNames_E N) N c i) N st k
theorem config_checkNames_L0_step (N : Nat) (x0 : List (Str × List Str)) (x1 : List Str) (c7 : List Str) (c8 : Int) (KX : Nat → St → Option Int) (I : St → Option Int) (s9 : Int) :
    execL (config_checkNames_LP N) (config_checkNames_E N) (cAt (bodyOf Tryz.f45) [true, false, true, false, false]) 0 (config_checkNames_L0_hd x0 x1 c7 c8 s9) (roundK (config_checkNames_h 0) I KX (resD (config_checkNames_E N) Tryz.f45 (config_checkNames_sg fun x _ => config_checkNames N x.1 x.2.1) config_checkNames_pk)) = config_checkNames_L0T N x0 x1 c7 c8 (KX 0 (config_checkNames_L0_tl0 x0 x1 c7 c8)) (fun s9 => I (config_checkNames_L0_hd x0 x1 c7 c8 s9)) s9 := by kernel_rfl
theorem config_checkNames_L0_ok (N : Nat) : ∀ x y k, (∀ st, k .ret st = (resD (config_checkNames_E N) Tryz.f45 (config_checkNames_sg fun x _ => config_checkNames N x.1 x.2.1) config_checkNames_pk) st) → iter (config_checkNames_h 0) (exec (config_checkNames_E N) N (cAt (bodyOf Tryz.f45) [true, false, true, false, false]) 0) N ⟨30, unF config_checkNames_L0_fs x, unH config_checkNames_L0_bs y⟩ k = config_checkNames_L0_F N x y k := fun x _ k hk =>
  iter_link (S := (Int) × Unit) (config_checkNames_h 0) _ (execL (config_checkNames_LP N) (config_checkNames_E N) (cAt (bodyOf Tryz.f45) [true, false, true, false, false]) 0) (resD (config_checkNames_E N) Tryz.f45 (config_checkNames_sg fun x _ => config_checkNames N x.1 x.2.1) config_checkNames_pk) (fun st k hk => execL_eq _ _ N _ (cAt (bodyOf Tryz.f45) [true, false, true, false, false]) 0 (show LoopsOk (config_checkNames_LP N) (config_checkNames_E N) N (resD (config_checkNames_E N) Tryz.f45 (config_checkNames_sg fun x _ => config_checkNames N x.1 x.2.1) config_checkNames_pk) [] from trivial) st k hk) (fun s => config_checkNames_L0_hd x.1 x.2.1 x.2.2.1 x.2.2.2.1 s.1) k hk
    (fun self s => config_checkNames_L0T N x.1 x.2.1 x.2.2.1 x.2.2.2.1 (k (.exit 0) (config_checkNames_L0_tl0 x.1 x.2.1 x.2.2.1 x.2.2.2.1)) (fun s9 => self (s9, ())) s.1) (fun n s => config_checkNames_L0 N x.1 x.2.1 x.2.2.1 x.2.2.2.1 (k (.exit 0) (config_checkNames_L0_tl0 x.1 x.2.1 x.2.2.1 x.2.2.2.1)) n s.1) (fun _ => rfl) (fun _ _ => rfl)
    (fun I s => config_checkNames_L0_step N x.1 x.2.1 x.2.2.1 x.2.2.2.1 (fun j => k (.exit j)) I s.1) N (x.2.2.2.2.1, ())
theorem config_checkNames_lp0 (N : Nat) : ∀ st k, (∀ st, k .ret st = (resD (config_checkNames_E N) Tryz.f45 (config_checkNames_sg fun x _ => config_checkNames N x.1 x.2.1) config_checkNames_pk) st) → config_checkNames_LP N 0 (cAt (bodyOf Tryz.f45) [true, false, true, false, false]) st k = iter (Env.hint (config_checkNames_E N) 0) (exec (config_checkNames_E N) N (cAt (bodyOf Tryz.f45) [true, false, true, false, false]) 0) N st k := fun st k hk => LPc_eq 30 config_checkNames_L0_fs config_checkNames_L0_bs _ _ (resD (config_checkNames_E N) Tryz.f45 (config_checkNames_sg fun x _ => config_checkNames N x.1 x.2.1) config_checkNames_pk) (config_checkNames_L0_ok N) _ st k hk (rfl)
theorem config_checkNames_core (N : Nat) (x : SV [.v (.sl (.pr .str (.sl .str))), .v (.sl .str)]) (y : BV []) : runL (config_checkNames_E N) Tryz.f45 (config_checkNames_sg fun x _ => config_checkNames N x.1 x.2.1) config_checkNames_pk (config_checkNames_LP N) x y = config_checkNames N x.1 x.2.1 := by kernel_rfl
theorem config_checkNames_sound (N : Nat) : Sound Tryz.prog GW B0G 45 (config_checkNames_sg fun x _ => config_checkNames N x.1 x.2.1) :=
  runD_sound (mkE_ok config_checkNames_h (config_checkNames_fn N) _ _ (config_checkNames_fn_ok N)) Tryz.func45 rfl Tryz.call45 (config_checkNames_sg fun x _ => config_checkNames N x.1 x.2.1) config_checkNames_pk (fun _ _ => rfl) N (fun x y _ h => ((runL_eq (config_checkNames_E N) N Tryz.f45 (config_checkNames_sg fun x _ => config_checkNames N x.1 x.2.1) config_checkNames_pk (config_checkNames_LP N) (show LoopsOk (config_checkNames_LP N) (config_checkNames_E N) N (resD (config_checkNames_E N) Tryz.f45 (config_checkNames_sg fun x _ => config_checkNames N x.1 x.2.1) config_checkNames_pk) [(0, (cAt (bodyOf Tryz.f45) [true, false, true, false, false]))] from ⟨config_checkNames_lp0 N, trivial⟩) x y).trans (config_checkNames_core N x y)).trans h)
def ref3_checkNames_L0T (N : Nat) (x0 : List (Str × List Str)) (x1 : List Str) (c9 : List Str) (c10 : Int) (k0 : Option Int) (self : Int → Option Int) (s11 : Int) : Option Int :=
  br (decide (s11 < c10))
    (bnd (geti c9 s11) fun t14 =>
    bnd (ref3_settingOf N x0 t14) fun t19 =>
    br (!t19.2)
      (some (5 : Int))
      (br (decide (s11 > (0 : Int)))
        (bnd (geti x1 (IntKind.i64.wrap (s11 - (1 : Int)))) fun t31 =>
        br (Op.bytesLess t14 t31 || t14 == t31)
          (some (8 : Int))
          (self (IntKind.i64.wrap (s11 + (1 : Int)))))
        (self (IntKind.i64.wrap (s11 + (1 : Int))))))
    (k0)
def ref3_checkNames_L0 (N : Nat) (x0 : List (Str × List Str)) (x1 : List Str) (c9 : List Str) (c10 : Int) (k0 : Option Int) : Nat → Int → Option Int
  | 0, _ => none
  | n + 1, s11 => ref3_checkNames_L0T N x0 x1 c9 c10 k0 (ref3_checkNames_L0 N x0 x1 c9 c10 k0 n) s11
def ref3_checkNames (N : Nat) (x0 : List (Str × List Str)) (x1 : List Str) : Option Int :=
  ref3_checkNames_L0 N x0 x1 x1 (x1.length : Int) (some (0 : Int)) N (0 : Int)
abbrev ref3_checkNames_sg (f : SV [.v (.sl (.pr .str (.sl .str))), .v (.sl .str)] → BV [] → Option (Int)) : AF := { ps := [.v (.sl (.pr .str (.sl .str))), .v (.sl .str)], bs := [], rs := [.v (.int .i64)], cs := [], R := Int, out := fun z => ((z, ()), ()), f := f }
abbrev ref3_checkNames_pk : SV [.v (.int .i64)] → BV [] → Int := fun x _ => x.1
def ref3_checkNames_fn (N : Nat) : FuncId → Option Tmp → Option AF := fun f _ =>
  match f with
    | 100 => some (ref3_settingOf_sg fun x _ => ref3_settingOf N x.1 x.2.1)
    | _ => none
theorem ref3_checkNames_fn_ok (N : Nat) : ∀ f q F, ref3_checkNames_fn N f q = some F → Sound Tryz.prog GW B0G f F := by
  intro f q F h
  unfold ref3_checkNames_fn at h
  split at h
  · cases h; exact ref3_settingOf_sound N
  · cases h
def ref3_checkNames_h : Nat → Hint := fun i =>
  match i with
  | 0 => ⟨[], [0, 1, 9, 10, 11], [], [], [], []⟩
  | _ => ⟨[], [], [], [], [], []⟩
abbrev ref3_checkNames_E (N : Nat) : Env := mkE ref3_checkNames_h (ref3_checkNames_fn N) (fun _ => false) (fun _ => false)
abbrev ref3_checkNames_L0_fs : List (Nat × Sl) := [(0, .v (.sl (.pr .str (.sl .str)))), (1, .v (.sl .str)), (9, .v (.sl .str)), (10, .v (.int .i64)), (11, .v (.int .i64))]
abbrev ref3_checkNames_L0_bs : List (Nat × Sb) := []
def ref3_checkNames_L0_hd (x0 : List (Str × List Str)) (x1 : List Str) (c9 : List Str) (c10 : Int) (s11 : Int) : St := ⟨36, [(0, .v (.sl (.pr .str (.sl .str))) x0), (1, .v (.sl .str) x1), (9, .v (.sl .str) c9), (10, .v (.int .i64) c10), (11, .v (.int .i64) s11)], []⟩
def ref3_checkNames_L0_tl0 (_x0 : List (Str × List Str)) (_x1 : List Str) (_c9 : List Str) (_c10 : Int) : St := ⟨36, [], []⟩
def ref3_checkNames_L0_G (N : Nat) (x0 : List (Str × List Str)) (x1 : List Str) (c9 : List Str) (c10 : Int) (s11 : Int) (k : Ex → St → Option Int) : Option Int :=
  ref3_checkNames_L0 N x0 x1 c9 c10 (k (.exit 0) (ref3_checkNames_L0_tl0 x0 x1 c9 c10)) N s11
abbrev ref3_checkNames_L0_F (N : Nat) : FV ref3_checkNames_L0_fs → HV ref3_checkNames_L0_bs → (Ex → St → Option Int) → Option Int := fun x _ k => ref3_checkNames_L0_G N x.1 x.2.1 x.2.2.1 x.2.2.2.1 x.2.2.2.2.1 k
noncomputable def ref3_checkNames_LP (N : Nat) : Nat → Code → St → (Ex → St → Option Int) → Option Int := fun i c =>
  match i with
  | 0 => (LPc 36 ref3_checkNames_L0_fs ref3_checkNames_L0_bs (ref3_checkNames_L0_F N) (fun st k => iter (ref3_checkNames_h 0) (exec (ref3_checkNames_E N) N c 0) N st k))
  | i => fun st k => iter (ref3_checkNames_h i) (exec (ref3_checkNames_E N) N c i) N st k
theorem ref3_checkNames_L0_step (N : Nat) (x0 : List (Str × List Str)) (x1 : List Str) (c9 : List Str) (c10 : Int) (KX : Nat → St → Option Int) (I : St → Option Int) (s11 : Int) :
    execL (ref3_checkNames_LP N) (ref3_checkNames_E N) (cAt (bodyOf Tryz.f52) [true, false, true, false, false]) 0 (ref3_checkNames_L0_hd x0 x1 c9 c10 s11) (roundK (ref3_checkNames_h 0) I KX (resD (ref3_checkNames_E N) Tryz.f52 (ref3_checkNames_sg fun x _ => ref3_checkNames N x.1 x.2.1) ref3_checkNames_pk)) = ref3_checkNames_L0T N x0 x1 c9 c10 (KX 0 (ref3_checkNames_L0_tl0 x0 x1 c9 c10)) (fun s11 => I (ref3_checkNames_L0_hd x0 x1 c9 c10 s11)) s11 := by kernel_rfl
theorem ref3_checkNames_L0_ok (N : Nat) : ∀ x y k, (∀ st, k .ret st = (resD (ref3_checkNames_E N) Tryz.f52 (ref3_checkNames_sg fun x _ => ref3_checkNames N x.1 x.2.1) ref3_checkNames_pk) st) → iter (ref3_checkNames_h 0) (exec (ref3_checkNames_E N) N (cAt (bodyOf Tryz.f52) [true, false, true, false, false]) 0) N ⟨36, unF ref3_checkNames_L0_fs x, unH ref3_checkNames_L0_bs y⟩ k = ref3_checkNames_L0_F N x y k := fun x _ k hk =>
  iter_link (S := (Int) × Unit) (ref3_checkNames_h 0) _ (execL (ref3_checkNames_LP N) (ref3_checkNames_E N) (cAt (bodyOf Tryz.f52) [true, false, true, false, false]) 0) (resD (ref3_checkNames_E N) Tryz.f52 (ref3_checkNames_sg fun x _ => ref3_checkNames N x.1 x.2.1) ref3_checkNames_pk) (fun st k hk => execL_eq _ _ N _ (cAt (bodyOf Tryz.f52) [true, false, true, false, false]) 0 (show LoopsOk (ref3_checkNames_LP N) (ref3_checkNames_E N) N (resD (ref3_checkNames_E N) Tryz.f52 (ref3_checkNames_sg fun x _ => ref3_checkNames N x.1 x.2.1) ref3_checkNames_pk) [] from trivial) st k hk) (fun s => ref3_checkNames_L0_hd x.1 x.2.1 x.2.2.1 x.2.2.2.1 s.1) k hk
    (fun self s => ref3_checkNames_L0T N x.1 x.2.1 x.2.2.1 x.2.2.2.1 (k (.exit 0) (ref3_checkNames_L0_tl0 x.1 x.2.1 x.2.2.1 x.2.2.2.1)) (fun s11 => self (s11, ())) s.1) (fun n s => ref3_checkNames_L0 N x.1 x.2.1 x.2.2.1 x.2.2.2.1 (k (.exit 0) (ref3_checkNames_L0_tl0 x.1 x.2.1 x.2.2.1 x.2.2.2.1)) n s.1) (fun _ => rfl) (fun _ _ => rfl)
    (fun I s => ref3_checkNames_L0_step N x.1 x.2.1 x.2.2.1 x.2.2.2.1 (fun j => k (.exit j)) I s.1) N (x.2.2.2.2.1, ())
theorem ref3_checkNames_lp0 (N : Nat) : ∀ st k, (∀ st, k .ret st = (resD (ref3_checkNames_E N) Tryz.f52 (ref3_checkNames_sg fun x _ => ref3_checkNames N x.1 x.2.1) ref3_checkNames_pk) st) → ref3_checkNames_LP N 0 (cAt (bodyOf Tryz.f52) [true, false, true, false, false]) st k = iter (Env.hint (ref3_checkNames_E N) 0) (exec (ref3_checkNames_E N) N (cAt (bodyOf Tryz.f52) [true, false, true, false, false]) 0) N st k := fun st k hk => LPc_eq 36 ref3_checkNames_L0_fs ref3_checkNames_L0_bs _ _ (resD (ref3_checkNames_E N) Tryz.f52 (ref3_checkNames_sg fun x _ => ref3_checkNames N x.1 x.2.1) ref3_checkNames_pk) (ref3_checkNames_L0_ok N) _ st k hk (rfl)
theorem ref3_checkNames_core (N : Nat) (x : SV [.v (.sl (.pr .str (.sl .str))), .v (.sl .str)]) (y : BV []) : runL (ref3_checkNames_E N) Tryz.f52 (ref3_checkNames_sg fun x _ => ref3_checkNames N x.1 x.2.1) ref3_checkNames_pk (ref3_checkNames_LP N) x y = ref3_checkNames N x.1 x.2.1 := by kernel_rfl
theorem ref3_checkNames_sound (N : Nat) : Sound Tryz.prog GW B0G 52 (ref3_checkNames_sg fun x _ => ref3_checkNames N x.1 x.2.1) :=
  runD_sound (mkE_ok ref3_checkNames_h (ref3_checkNames_fn N) _ _ (ref3_checkNames_fn_ok N)) Tryz.func52 rfl Tryz.call52 (ref3_checkNames_sg fun x _ => ref3_checkNames N x.1 x.2.1) ref3_checkNames_pk (fun _ _ => rfl) N (fun x y _ h => ((runL_eq (ref3_checkNames_E N) N Tryz.f52 (ref3_checkNames_sg fun x _ => ref3_checkNames N x.1 x.2.1) ref3_checkNames_pk (ref3_checkNames_LP N) (show LoopsOk (ref3_checkNames_LP N) (ref3_checkNames_E N) N (resD (ref3_checkNames_E N) Tryz.f52 (ref3_checkNames_sg fun x _ => ref3_checkNames N x.1 x.2.1) ref3_checkNames_pk) [(0, (cAt (bodyOf Tryz.f52) [true, false, true, false, false]))] from ⟨ref3_checkNames_lp0 N, trivial⟩) x y).trans (ref3_checkNames_core N x y)).trans h)
def config_spread_L2T (N : Nat) (x0 : List (Str × List Str)) (t23 : Str) (t29 : List (Str × Str)) (c37 : List Str) (c38 : Int) (k4 : (List (List (Str × Str))) → Option (List (List (Str × Str)) × Bool)) (self : Int → (List (List (Str × Str))) → Option (List (List (Str × Str)) × Bool)) (s39 : Int) (w1011_1 : List (List (Str × Str))) : Option (List (List (Str × Str)) × Bool) :=
  br (decide (s39 < c38))
    (bnd (geti c37 s39) fun t41 =>
    bnd (config_with N x0 t29 t23 t41) fun t48 =>
    br (decide ((w1011_1.length + [t48].length) * (24 * Ty.sz (.sl (.pr .str .str))) ≤ 140737488355328))
      (self (IntKind.i64.wrap (s39 + (1 : Int))) (w1011_1 ++ [t48]))
      none)
    (k4 w1011_1)
def config_spread_L2 (N : Nat) (x0 : List (Str × List Str)) (t23 : Str) (t29 : List (Str × Str)) (c37 : List Str) (c38 : Int) (k4 : (List (List (Str × Str))) → Option (List (List (Str × Str)) × Bool)) : Nat → Int → (List (List (Str × Str))) → Option (List (List (Str × Str)) × Bool)
  | 0, _, _ => none
  | n + 1, s39, w1011_1 => config_spread_L2T N x0 t23 t29 c37 c38 k4 (config_spread_L2 N x0 t23 t29 c37 c38 k4 n) s39 w1011_1
def config_spread_L1T (N : Nat) (x0 : List (Str × List Str)) (t23 : Str) (s8 : List (List (Str × Str))) (c26 : Int) (k2 : (List (List (Str × Str))) → Option (List (List (Str × Str)) × Bool)) (self : Int → (List (List (Str × Str))) → Option (List (List (Str × Str)) × Bool)) (s27 : Int) (w1011 : List (List (Str × Str))) : Option (List (List (Str × Str)) × Bool) :=
  br (decide (s27 < c26))
    (bnd (geti s8 s27) fun t29 =>
    bnd (config_find N x0 t23) fun t34 =>
    bnd (geti x0 t34) fun t35 =>
    config_spread_L2 N x0 t23 t29 t35.2 (t35.2.length : Int) (fun o2_w1011 =>
        self (IntKind.i64.wrap (s27 + (1 : Int))) o2_w1011) N (0 : Int) w1011)
    (k2 w1011)
def config_spread_L1 (N : Nat) (x0 : List (Str × List Str)) (t23 : Str) (s8 : List (List (Str × Str))) (c26 : Int) (k2 : (List (List (Str × Str))) → Option (List (List (Str × Str)) × Bool)) : Nat → Int → (List (List (Str × Str))) → Option (List (List (Str × Str)) × Bool)
  | 0, _, _ => none
  | n + 1, s27, w1011 => config_spread_L1T N x0 t23 s8 c26 k2 (config_spread_L1 N x0 t23 s8 c26 k2 n) s27 w1011
def config_spread_L0T (N : Nat) (x0 : List (Str × List Str)) (x2 : List Str) (c20 : Int) (k0 : (List (List (Str × Str))) → Option (List (List (Str × Str)) × Bool)) (self : (List (List (Str × Str))) → Int → Option (List (List (Str × Str)) × Bool)) (s8 : List (List (Str × Str))) (s21 : Int) : Option (List (List (Str × Str)) × Bool) :=
  br (decide (s21 < c20))
    (bnd (geti x2 s21) fun t23 =>
    config_spread_L1 N x0 t23 s8 (s8.length : Int) (fun o1_w1011 =>
        br (decide ((o1_w1011.length : Int) > (1000 : Int)))
          (some (([] : List (List (Str × Str))), false))
          (self o1_w1011 (IntKind.i64.wrap (s21 + (1 : Int))))) N (0 : Int) ([] : List (List (Str × Str))))
    (k0 s8)
def config_spread_L0 (N : Nat) (x0 : List (Str × List Str)) (x2 : List Str) (c20 : Int) (k0 : (List (List (Str × Str))) → Option (List (List (Str × Str)) × Bool)) : Nat → (List (List (Str × Str))) → Int → Option (List (List (Str × Str)) × Bool)
  | 0, _, _ => none
  | n + 1, s8, s21 => config_spread_L0T N x0 x2 c20 k0 (config_spread_L0 N x0 x2 c20 k0 n) s8 s21
def config_spread (N : Nat) (x0 : List (Str × List Str)) (x1 : List (Str × Str)) (x2 : List Str) : Option (List (List (Str × Str)) × Bool) :=
  bnd (slices_Clone_api_Pair N x1) fun t17 =>
  config_spread_L0 N x0 x2 (x2.length : Int) (fun o0_8 =>
      some (o0_8, true)) N [t17] (0 : Int)
abbrev config_spread_sg (f : SV [.v (.sl (.pr .str (.sl .str))), .v (.sl (.pr .str .str)), .v (.sl .str)] → BV [] → Option (List (List (Str × Str)) × Bool)) : AF := { ps := [.v (.sl (.pr .str (.sl .str))), .v (.sl (.pr .str .str)), .v (.sl .str)], bs := [], rs := [.v (.sl (.sl (.pr .str .str))), .v .bool], cs := [], R := List (List (Str × Str)) × Bool, out := fun z => ((z.1, z.2, ()), ()), f := f }
abbrev config_spread_pk : SV [.v (.sl (.sl (.pr .str .str))), .v .bool] → BV [] → (List (List (Str × Str)) × Bool) := fun x _ => (x.1, x.2.1)
def config_spread_fn (N : Nat) : FuncId → Option Tmp → Option AF := fun f _ =>
  match f with
    | 37 => some (config_with_sg fun x _ => config_with N x.1 x.2.1 x.2.2.1 x.2.2.2.1)
    | 54 => some (slices_Clone_api_Pair_sg fun x _ => slices_Clone_api_Pair N x.1)
    | 73 => some (config_find_sg fun x _ => config_find N x.1 x.2.1)
    | _ => none
theorem config_spread_fn_ok (N : Nat) : ∀ f q F, config_spread_fn N f q = some F → Sound Tryz.prog GW B0G f F := by
  intro f q F h
  unfold config_spread_fn at h
  split at h
  · cases h; exact config_with_sound N
  · cases h; exact slices_Clone_api_Pair_sound N
  · cases h; exact config_find_sound N
  · cases h
def config_spread_h : Nat → Hint := fun i =>
  match i with
  | 0 => ⟨[8], [0, 8, 19, 20, 21], [], [8], [], []⟩
  | 2 => ⟨[], [0, 10, 11, 19, 20, 21, 25, 26, 27], [1011], [0, 11, 19, 20, 21], [1011], []⟩
  | 4 => ⟨[], [0, 10, 11, 13, 19, 20, 21, 25, 26, 27, 37, 38, 39], [1011], [0, 10, 11, 19, 20, 21, 25, 26, 27], [1011], []⟩
  | _ => ⟨[], [], [], [], [], []⟩
abbrev config_spread_E (N : Nat) : Env := mkE config_spread_h (config_spread_fn N) (fun _ => false) (fun _ => false)
abbrev config_spread_L2_fs : List (Nat × Sl) := [(0, .v (.sl (.pr .str (.sl .str)))), (10, .v .str), (11, .row 1011), (13, .v (.sl (.pr .str .str))), (19, .v (.sl .str)), (20, .v (.int .i64)), (21, .v (.int .i64)), (25, .v (.sl (.sl (.pr .str .str)))), (26, .v (.int .i64)), (27, .v (.int .i64)), (37, .v (.sl .str)), (38, .v (.int .i64)), (39, .v (.int .i64))]
abbrev config_spread_L2_bs : List (Nat × Sb) := [(1011, .row 33 (.sl (.pr .str .str)) false)]
def config_spread_L2_hd (x0 : List (Str × List Str)) (t23 : Str) (t29 : List (Str × Str)) (x2 : List Str) (c20 : Int) (s21 : Int) (s8 : List (List (Str × Str))) (c26 : Int) (s27 : Int) (c37 : List Str) (c38 : Int) (s39 : Int) (w1011_1 : List (List (Str × Str))) : St := ⟨59, [(0, .v (.sl (.pr .str (.sl .str))) x0), (10, .v .str t23), (11, .row 1011), (13, .v (.sl (.pr .str .str)) t29), (19, .v (.sl .str) x2), (20, .v (.int .i64) c20), (21, .v (.int .i64) s21), (25, .v (.sl (.sl (.pr .str .str))) s8), (26, .v (.int .i64) c26), (27, .v (.int .i64) s27), (37, .v (.sl .str) c37), (38, .v (.int .i64) c38), (39, .v (.int .i64) s39)], [(1011, .row 33 (.sl (.pr .str .str)) false w1011_1)]⟩
def config_spread_L2_tl4 (x0 : List (Str × List Str)) (t23 : Str) (_t29 : List (Str × Str)) (x2 : List Str) (c20 : Int) (s21 : Int) (s8 : List (List (Str × Str))) (c26 : Int) (s27 : Int) (_c37 : List Str) (_c38 : Int) (o2_w1011 : List (List (Str × Str))) : St := ⟨59, [(0, .v (.sl (.pr .str (.sl .str))) x0), (10, .v .str t23), (11, .row 1011), (19, .v (.sl .str) x2), (20, .v (.int .i64) c20), (21, .v (.int .i64) s21), (25, .v (.sl (.sl (.pr .str .str))) s8), (26, .v (.int .i64) c26), (27, .v (.int .i64) s27)], [(1011, .row 33 (.sl (.pr .str .str)) false o2_w1011)]⟩
def config_spread_L2_G (N : Nat) (x0 : List (Str × List Str)) (t23 : Str) (t29 : List (Str × Str)) (x2 : List Str) (c20 : Int) (s21 : Int) (s8 : List (List (Str × Str))) (c26 : Int) (s27 : Int) (c37 : List Str) (c38 : Int) (s39 : Int) (w1011_1 : List (List (Str × Str))) (k : Ex → St → Option (List (List (Str × Str)) × Bool)) : Option (List (List (Str × Str)) × Bool) :=
  config_spread_L2 N x0 t23 t29 c37 c38 (fun o2_w1011 => k (.exit 4) (config_spread_L2_tl4 x0 t23 t29 x2 c20 s21 s8 c26 s27 c37 c38 o2_w1011)) N s39 w1011_1
abbrev config_spread_L2_F (N : Nat) : FV config_spread_L2_fs → HV config_spread_L2_bs → (Ex → St → Option (List (List (Str × Str)) × Bool)) → Option (List (List (Str × Str)) × Bool) := fun x y k => config_spread_L2_G N x.1 x.2.1 x.2.2.2.1 x.2.2.2.2.1 x.2.2.2.2.2.1 x.2.2.2.2.2.2.1 x.2.2.2.2.2.2.2.1 x.2.2.2.2.2.2.2.2.1 x.2.2.2.2.2.2.2.2.2.1 x.2.2.2.2.2.2.2.2.2.2.1 x.2.2.2.2.2.2.2.2.2.2.2.1 x.2.2.2.2.2.2.2.2.2.2.2.2.1 y.1 k
abbrev config_spread_L1_fs : List (Nat × Sl) := [(0, .v (.sl (.pr .str (.sl .str)))), (10, .v .str), (11, .row 1011), (19, .v (.sl .str)), (20, .v (.int .i64)), (21, .v (.int .i64)), (25, .v (.sl (.sl (.pr .str .str)))), (26, .v (.int .i64)), (27, .v (.int .i64))]
abbrev config_spread_L1_bs : List (Nat × Sb) := [(1011, .row 33 (.sl (.pr .str .str)) false)]
def config_spread_L1_hd (x0 : List (Str × List Str)) (t23 : Str) (x2 : List Str) (c20 : Int) (s21 : Int) (s8 : List (List (Str × Str))) (c26 : Int) (s27 : Int) (w1011 : List (List (Str × Str))) : St := ⟨59, [(0, .v (.sl (.pr .str (.sl .str))) x0), (10, .v .str t23), (11, .row 1011), (19, .v (.sl .str) x2), (20, .v (.int .i64) c20), (21, .v (.int .i64) s21), (25, .v (.sl (.sl (.pr .str .str))) s8), (26, .v (.int .i64) c26), (27, .v (.int .i64) s27)], [(1011, .row 33 (.sl (.pr .str .str)) false w1011)]⟩
def config_spread_L1_tl2 (x0 : List (Str × List Str)) (_t23 : Str) (x2 : List Str) (c20 : Int) (s21 : Int) (_s8 : List (List (Str × Str))) (_c26 : Int) (o1_w1011 : List (List (Str × Str))) : St := ⟨59, [(0, .v (.sl (.pr .str (.sl .str))) x0), (11, .row 1011), (19, .v (.sl .str) x2), (20, .v (.int .i64) c20), (21, .v (.int .i64) s21)], [(1011, .row 33 (.sl (.pr .str .str)) false o1_w1011)]⟩
def config_spread_L1_G (N : Nat) (x0 : List (Str × List Str)) (t23 : Str) (x2 : List Str) (c20 : Int) (s21 : Int) (s8 : List (List (Str × Str))) (c26 : Int) (s27 : Int) (w1011 : List (List (Str × Str))) (k : Ex → St → Option (List (List (Str × Str)) × Bool)) : Option (List (List (Str × Str)) × Bool) :=
  config_spread_L1 N x0 t23 s8 c26 (fun o1_w1011 => k (.exit 2) (config_spread_L1_tl2 x0 t23 x2 c20 s21 s8 c26 o1_w1011)) N s27 w1011
abbrev config_spread_L1_F (N : Nat) : FV config_spread_L1_fs → HV config_spread_L1_bs → (Ex → St → Option (List (List (Str × Str)) × Bool)) → Option (List (List (Str × Str)) × Bool) := fun x y k => config_spread_L1_G N x.1 x.2.1 x.2.2.2.1 x.2.2.2.2.1 x.2.2.2.2.2.1 x.2.2.2.2.2.2.1 x.2.2.2.2.2.2.2.1 x.2.2.2.2.2.2.2.2.1 y.1 k
abbrev config_spread_L0_fs : List (Nat × Sl) := [(0, .v (.sl (.pr .str (.sl .str)))), (8, .v (.sl (.sl (.pr .str .str)))), (19, .v (.sl .str)), (20, .v (.int .i64)), (21, .v (.int .i64))]
abbrev config_spread_L0_bs : List (Nat × Sb) := []
def config_spread_L0_hd (x0 : List (Str × List Str)) (x2 : List Str) (c20 : Int) (s8 : List (List (Str × Str))) (s21 : Int) : St := ⟨59, [(0, .v (.sl (.pr .str (.sl .str))) x0), (8, .v (.sl (.sl (.pr .str .str))) s8), (19, .v (.sl .str) x2), (20, .v (.int .i64) c20), (21, .v (.int .i64) s21)], []⟩
def config_spread_L0_tl0 (_x0 : List (Str × List Str)) (_x2 : List Str) (_c20 : Int) (o0_8 : List (List (Str × Str))) : St := ⟨59, [(8, .v (.sl (.sl (.pr .str .str))) o0_8)], []⟩
def config_spread_L0_G (N : Nat) (x0 : List (Str × List Str)) (x2 : List Str) (c20 : Int) (s8 : List (List (Str × Str))) (s21 : Int) (k : Ex → St → Option (List (List (Str × Str)) × Bool)) : Option (List (List (Str × Str)) × Bool) :=
  config_spread_L0 N x0 x2 c20 (fun o0_8 => k (.exit 0) (config_spread_L0_tl0 x0 x2 c20 o0_8)) N s8 s21
abbrev config_spread_L0_F (N : Nat) : FV config_spread_L0_fs → HV config_spread_L0_bs → (Ex → St → Option (List (List (Str × Str)) × Bool)) → Option (List (List (Str × Str)) × Bool) := fun x _ k => config_spread_L0_G N x.1 x.2.2.1 x.2.2.2.1 x.2.1 x.2.2.2.2.1 k
noncomputable def config_spread_LP (N : Nat) : Nat → Code → St → (Ex → St → Option (List (List (Str × Str)) × Bool)) → Option (List (List (Str × Str)) × Bool) := fun i c =>
  match i with
  | 0 => (LPc 59 config_spread_L0_fs config_spread_L0_bs (config_spread_L0_F N) (fun st k => iter (config_spread_h 0) (exec (config_spread_E N) N c 0) N st k))
  | 2 => (LPc 59 config_spread_L1_fs config_spread_L1_bs (config_spread_L1_F N) (fun st k => iter (config_spread_h 2) (exec (config_spread_E N) N c 2) N st k))
  | 4 => (LPc 59 config_spread_L2_fs config_spread_L2_bs (config_spread_L2_F N) (fun st k => iter (config_spread_h 4) (exec (config_spread_E N) N c 4) N st k))
  | i => fun st k => iter (config_spread_h i) (exec (config_spread_E N) N c i) N st k
theorem config_spread_L2_step (N : Nat) (x0 : List (Str × List Str)) (t23 : Str) (t29 : List (Str × Str)) (x2 : List Str) (c20 : Int) (s21 : Int) (s8 : List (List (Str × Str))) (c26 : Int) (s27 : Int) (c37 : List Str) (c38 : Int) (KX : Nat → St → Option (List (List (Str × Str)) × Bool)) (I : St → Option (List (List (Str × Str)) × Bool)) (s39 : Int) (w1011_1 : List (List (Str × Str))) :
    execL (config_spread_LP N) (config_spread_E N) (cAt (bodyOf Tryz.f38) [true, true, false, true, false, false, true, true, false, false, true, true, false, true, false, false, true, true, false, false, true, true, false, false]) 4 (config_spread_L2_hd x0 t23 t29 x2 c20 s21 s8 c26 s27 c37 c38 s39 w1011_1) (roundK (config_spread_h 4) I KX (resD (config_spread_E N) Tryz.f38 (config_spread_sg fun x _ => config_spread N x.1 x.2.1 x.2.2.1) config_spread_pk)) = config_spread_L2T N x0 t23 t29 c37 c38 (fun o2_w1011 => KX 4 (config_spread_L2_tl4 x0 t23 t29 x2 c20 s21 s8 c26 s27 c37 c38 o2_w1011)) (fun s39 w1011_1 => I (config_spread_L2_hd x0 t23 t29 x2 c20 s21 s8 c26 s27 c37 c38 s39 w1011_1)) s39 w1011_1 := by kernel_rfl
theorem config_spread_L2_ok (N : Nat) : ∀ x y k, (∀ st, k .ret st = (resD (config_spread_E N) Tryz.f38 (config_spread_sg fun x _ => config_spread N x.1 x.2.1 x.2.2.1) config_spread_pk) st) → iter (config_spread_h 4) (exec (config_spread_E N) N (cAt (bodyOf Tryz.f38) [true, true, false, true, false, false, true, true, false, false, true, true, false, true, false, false, true, true, false, false, true, true, false, false]) 4) N ⟨59, unF config_spread_L2_fs x, unH config_spread_L2_bs y⟩ k = config_spread_L2_F N x y k := fun x y k hk =>
  iter_link (S := (Int) × (List (List (Str × Str))) × Unit) (config_spread_h 4) _ (execL (config_spread_LP N) (config_spread_E N) (cAt (bodyOf Tryz.f38) [true, true, false, true, false, false, true, true, false, false, true, true, false, true, false, false, true, true, false, false, true, true, false, false]) 4) (resD (config_spread_E N) Tryz.f38 (config_spread_sg fun x _ => config_spread N x.1 x.2.1 x.2.2.1) config_spread_pk) (fun st k hk => execL_eq _ _ N _ (cAt (bodyOf Tryz.f38) [true, true, false, true, false, false, true, true, false, false, true, true, false, true, false, false, true, true, false, false, true, true, false, false]) 4 (show LoopsOk (config_spread_LP N) (config_spread_E N) N (resD (config_spread_E N) Tryz.f38 (config_spread_sg fun x _ => config_spread N x.1 x.2.1 x.2.2.1) config_spread_pk) [] from trivial) st k hk) (fun s => config_spread_L2_hd x.1 x.2.1 x.2.2.2.1 x.2.2.2.2.1 x.2.2.2.2.2.1 x.2.2.2.2.2.2.1 x.2.2.2.2.2.2.2.1 x.2.2.2.2.2.2.2.2.1 x.2.2.2.2.2.2.2.2.2.1 x.2.2.2.2.2.2.2.2.2.2.1 x.2.2.2.2.2.2.2.2.2.2.2.1 s.1 s.2.1) k hk
    (fun self s => config_spread_L2T N x.1 x.2.1 x.2.2.2.1 x.2.2.2.2.2.2.2.2.2.2.1 x.2.2.2.2.2.2.2.2.2.2.2.1 (fun o2_w1011 => k (.exit 4) (config_spread_L2_tl4 x.1 x.2.1 x.2.2.2.1 x.2.2.2.2.1 x.2.2.2.2.2.1 x.2.2.2.2.2.2.1 x.2.2.2.2.2.2.2.1 x.2.2.2.2.2.2.2.2.1 x.2.2.2.2.2.2.2.2.2.1 x.2.2.2.2.2.2.2.2.2.2.1 x.2.2.2.2.2.2.2.2.2.2.2.1 o2_w1011)) (fun s39 w1011_1 => self (s39, w1011_1, ())) s.1 s.2.1) (fun n s => config_spread_L2 N x.1 x.2.1 x.2.2.2.1 x.2.2.2.2.2.2.2.2.2.2.1 x.2.2.2.2.2.2.2.2.2.2.2.1 (fun o2_w1011 => k (.exit 4) (config_spread_L2_tl4 x.1 x.2.1 x.2.2.2.1 x.2.2.2.2.1 x.2.2.2.2.2.1 x.2.2.2.2.2.2.1 x.2.2.2.2.2.2.2.1 x.2.2.2.2.2.2.2.2.1 x.2.2.2.2.2.2.2.2.2.1 x.2.2.2.2.2.2.2.2.2.2.1 x.2.2.2.2.2.2.2.2.2.2.2.1 o2_w1011)) n s.1 s.2.1) (fun _ => rfl) (fun _ _ => rfl)
    (fun I s => config_spread_L2_step N x.1 x.2.1 x.2.2.2.1 x.2.2.2.2.1 x.2.2.2.2.2.1 x.2.2.2.2.2.2.1 x.2.2.2.2.2.2.2.1 x.2.2.2.2.2.2.2.2.1 x.2.2.2.2.2.2.2.2.2.1 x.2.2.2.2.2.2.2.2.2.2.1 x.2.2.2.2.2.2.2.2.2.2.2.1 (fun j => k (.exit j)) I s.1 s.2.1) N (x.2.2.2.2.2.2.2.2.2.2.2.2.1, y.1, ())
theorem config_spread_lp4 (N : Nat) : ∀ st k, (∀ st, k .ret st = (resD (config_spread_E N) Tryz.f38 (config_spread_sg fun x _ => config_spread N x.1 x.2.1 x.2.2.1) config_spread_pk) st) → config_spread_LP N 4 (cAt (bodyOf Tryz.f38) [true, true, false, true, false, false, true, true, false, false, true, true, false, true, false, false, true, true, false, false, true, true, false, false]) st k = iter (Env.hint (config_spread_E N) 4) (exec (config_spread_E N) N (cAt (bodyOf Tryz.f38) [true, true, false, true, false, false, true, true, false, false, true, true, false, true, false, false, true, true, false, false, true, true, false, false]) 4) N st k := fun st k hk => LPc_eq 59 config_spread_L2_fs config_spread_L2_bs _ _ (resD (config_spread_E N) Tryz.f38 (config_spread_sg fun x _ => config_spread N x.1 x.2.1 x.2.2.1) config_spread_pk) (config_spread_L2_ok N) _ st k hk (rfl)
theorem config_spread_L1_step (N : Nat) (x0 : List (Str × List Str)) (t23 : Str) (x2 : List Str) (c20 : Int) (s21 : Int) (s8 : List (List (Str × Str))) (c26 : Int) (KX : Nat → St → Option (List (List (Str × Str)) × Bool)) (I : St → Option (List (List (Str × Str)) × Bool)) (s27 : Int) (w1011 : List (List (Str × Str))) :
    execL (config_spread_LP N) (config_spread_E N) (cAt (bodyOf Tryz.f38) [true, true, false, true, false, false, true, true, false, false, true, true, false, true, false, false]) 2 (config_spread_L1_hd x0 t23 x2 c20 s21 s8 c26 s27 w1011) (roundK (config_spread_h 2) I KX (resD (config_spread_E N) Tryz.f38 (config_spread_sg fun x _ => config_spread N x.1 x.2.1 x.2.2.1) config_spread_pk)) = config_spread_L1T N x0 t23 s8 c26 (fun o1_w1011 => KX 2 (config_spread_L1_tl2 x0 t23 x2 c20 s21 s8 c26 o1_w1011)) (fun s27 w1011 => I (config_spread_L1_hd x0 t23 x2 c20 s21 s8 c26 s27 w1011)) s27 w1011 := by kernel_rfl
theorem config_spread_L1_ok (N : Nat) : ∀ x y k, (∀ st, k .ret st = (resD (config_spread_E N) Tryz.f38 (config_spread_sg fun x _ => config_spread N x.1 x.2.1 x.2.2.1) config_spread_pk) st) → iter (config_spread_h 2) (exec (config_spread_E N) N (cAt (bodyOf Tryz.f38) [true, true, false, true, false, false, true, true, false, false, true, true, false, true, false, false]) 2) N ⟨59, unF config_spread_L1_fs x, unH config_spread_L1_bs y⟩ k = config_spread_L1_F N x y k := fun x y k hk =>
  iter_link (S := (Int) × (List (List (Str × Str))) × Unit) (config_spread_h 2) _ (execL (config_spread_LP N) (config_spread_E N) (cAt (bodyOf Tryz.f38) [true, true, false, true, false, false, true, true, false, false, true, true, false, true, false, false]) 2) (resD (config_spread_E N) Tryz.f38 (config_spread_sg fun x _ => config_spread N x.1 x.2.1 x.2.2.1) config_spread_pk) (fun st k hk => execL_eq _ _ N _ (cAt (bodyOf Tryz.f38) [true, true, false, true, false, false, true, true, false, false, true, true, false, true, false, false]) 2 (show LoopsOk (config_spread_LP N) (config_spread_E N) N (resD (config_spread_E N) Tryz.f38 (config_spread_sg fun x _ => config_spread N x.1 x.2.1 x.2.2.1) config_spread_pk) [(4, (cAt (bodyOf Tryz.f38) [true, true, false, true, false, false, true, true, false, false, true, true, false, true, false, false, true, true, false, false, true, true, false, false]))] from ⟨config_spread_lp4 N, trivial⟩) st k hk) (fun s => config_spread_L1_hd x.1 x.2.1 x.2.2.2.1 x.2.2.2.2.1 x.2.2.2.2.2.1 x.2.2.2.2.2.2.1 x.2.2.2.2.2.2.2.1 s.1 s.2.1) k hk
    (fun self s => config_spread_L1T N x.1 x.2.1 x.2.2.2.2.2.2.1 x.2.2.2.2.2.2.2.1 (fun o1_w1011 => k (.exit 2) (config_spread_L1_tl2 x.1 x.2.1 x.2.2.2.1 x.2.2.2.2.1 x.2.2.2.2.2.1 x.2.2.2.2.2.2.1 x.2.2.2.2.2.2.2.1 o1_w1011)) (fun s27 w1011 => self (s27, w1011, ())) s.1 s.2.1) (fun n s => config_spread_L1 N x.1 x.2.1 x.2.2.2.2.2.2.1 x.2.2.2.2.2.2.2.1 (fun o1_w1011 => k (.exit 2) (config_spread_L1_tl2 x.1 x.2.1 x.2.2.2.1 x.2.2.2.2.1 x.2.2.2.2.2.1 x.2.2.2.2.2.2.1 x.2.2.2.2.2.2.2.1 o1_w1011)) n s.1 s.2.1) (fun _ => rfl) (fun _ _ => rfl)
    (fun I s => config_spread_L1_step N x.1 x.2.1 x.2.2.2.1 x.2.2.2.2.1 x.2.2.2.2.2.1 x.2.2.2.2.2.2.1 x.2.2.2.2.2.2.2.1 (fun j => k (.exit j)) I s.1 s.2.1) N (x.2.2.2.2.2.2.2.2.1, y.1, ())
theorem config_spread_lp2 (N : Nat) : ∀ st k, (∀ st, k .ret st = (resD (config_spread_E N) Tryz.f38 (config_spread_sg fun x _ => config_spread N x.1 x.2.1 x.2.2.1) config_spread_pk) st) → config_spread_LP N 2 (cAt (bodyOf Tryz.f38) [true, true, false, true, false, false, true, true, false, false, true, true, false, true, false, false]) st k = iter (Env.hint (config_spread_E N) 2) (exec (config_spread_E N) N (cAt (bodyOf Tryz.f38) [true, true, false, true, false, false, true, true, false, false, true, true, false, true, false, false]) 2) N st k := fun st k hk => LPc_eq 59 config_spread_L1_fs config_spread_L1_bs _ _ (resD (config_spread_E N) Tryz.f38 (config_spread_sg fun x _ => config_spread N x.1 x.2.1 x.2.2.1) config_spread_pk) (config_spread_L1_ok N) _ st k hk (rfl)
theorem config_spread_L0_step (N : Nat) (x0 : List (Str × List Str)) (x2 : List Str) (c20 : Int) (KX : Nat → St → Option (List (List (Str × Str)) × Bool)) (I : St → Option (List (List (Str × Str)) × Bool)) (s8 : List (List (Str × Str))) (s21 : Int) :
    execL (config_spread_LP N) (config_spread_E N) (cAt (bodyOf Tryz.f38) [true, true, false, true, false, false]) 0 (config_spread_L0_hd x0 x2 c20 s8 s21) (roundK (config_spread_h 0) I KX (resD (config_spread_E N) Tryz.f38 (config_spread_sg fun x _ => config_spread N x.1 x.2.1 x.2.2.1) config_spread_pk)) = config_spread_L0T N x0 x2 c20 (fun o0_8 => KX 0 (config_spread_L0_tl0 x0 x2 c20 o0_8)) (fun s8 s21 => I (config_spread_L0_hd x0 x2 c20 s8 s21)) s8 s21 := by kernel_rfl
theorem config_spread_L0_ok (N : Nat) : ∀ x y k, (∀ st, k .ret st = (resD (config_spread_E N) Tryz.f38 (config_spread_sg fun x _ => config_spread N x.1 x.2.1 x.2.2.1) config_spread_pk) st) → iter (config_spread_h 0) (exec (config_spread_E N) N (cAt (bodyOf Tryz.f38) [true, true, false, true, false, false]) 0) N ⟨59, unF config_spread_L0_fs x, unH config_spread_L0_bs y⟩ k = config_spread_L0_F N x y k := fun x _ k hk =>
  iter_link (S := (List (List (Str × Str))) × (Int) × Unit) (config_spread_h 0) _ (execL (config_spread_LP N) (config_spread_E N) (cAt (bodyOf Tryz.f38) [true, true, false, true, false, false]) 0) (resD (config_spread_E N) Tryz.f38 (config_spread_sg fun x _ => config_spread N x.1 x.2.1 x.2.2.1) config_spread_pk) (fun st k hk => execL_eq _ _ N _ (cAt (bodyOf Tryz.f38) [true, true, false, true, false, false]) 0 (show LoopsOk (config_spread_LP N) (config_spread_E N) N (resD (config_spread_E N) Tryz.f38 (config_spread_sg fun x _ => config_spread N x.1 x.2.1 x.2.2.1) config_spread_pk) [(2, (cAt (bodyOf Tryz.f38) [true, true, false, true, false, false, true, true, false, false, true, true, false, true, false, false])), (4, (cAt (bodyOf Tryz.f38) [true, true, false, true, false, false, true, true, false, false, true, true, false, true, false, false, true, true, false, false, true, true, false, false]))] from ⟨config_spread_lp2 N, config_spread_lp4 N, trivial⟩) st k hk) (fun s => config_spread_L0_hd x.1 x.2.2.1 x.2.2.2.1 s.1 s.2.1) k hk
    (fun self s => config_spread_L0T N x.1 x.2.2.1 x.2.2.2.1 (fun o0_8 => k (.exit 0) (config_spread_L0_tl0 x.1 x.2.2.1 x.2.2.2.1 o0_8)) (fun s8 s21 => self (s8, s21, ())) s.1 s.2.1) (fun n s => config_spread_L0 N x.1 x.2.2.1 x.2.2.2.1 (fun o0_8 => k (.exit 0) (config_spread_L0_tl0 x.1 x.2.2.1 x.2.2.2.1 o0_8)) n s.1 s.2.1) (fun _ => rfl) (fun _ _ => rfl)
    (fun I s => config_spread_L0_step N x.1 x.2.2.1 x.2.2.2.1 (fun j => k (.exit j)) I s.1 s.2.1) N (x.2.1, x.2.2.2.2.1, ())
theorem config_spread_lp0 (N : Nat) : ∀ st k, (∀ st, k .ret st = (resD (config_spread_E N) Tryz.f38 (config_spread_sg fun x _ => config_spread N x.1 x.2.1 x.2.2.1) config_spread_pk) st) → config_spread_LP N 0 (cAt (bodyOf Tryz.f38) [true, true, false, true, false, false]) st k = iter (Env.hint (config_spread_E N) 0) (exec (config_spread_E N) N (cAt (bodyOf Tryz.f38) [true, true, false, true, false, false]) 0) N st k := fun st k hk => LPc_eq 59 config_spread_L0_fs config_spread_L0_bs _ _ (resD (config_spread_E N) Tryz.f38 (config_spread_sg fun x _ => config_spread N x.1 x.2.1 x.2.2.1) config_spread_pk) (config_spread_L0_ok N) _ st k hk (rfl)
theorem config_spread_core (N : Nat) (x : SV [.v (.sl (.pr .str (.sl .str))), .v (.sl (.pr .str .str)), .v (.sl .str)]) (y : BV []) : runL (config_spread_E N) Tryz.f38 (config_spread_sg fun x _ => config_spread N x.1 x.2.1 x.2.2.1) config_spread_pk (config_spread_LP N) x y = config_spread N x.1 x.2.1 x.2.2.1 := by kernel_rfl
theorem config_spread_sound (N : Nat) : Sound Tryz.prog GW B0G 38 (config_spread_sg fun x _ => config_spread N x.1 x.2.1 x.2.2.1) :=
  runD_sound (mkE_ok config_spread_h (config_spread_fn N) _ _ (config_spread_fn_ok N)) Tryz.func38 rfl Tryz.call38 (config_spread_sg fun x _ => config_spread N x.1 x.2.1 x.2.2.1) config_spread_pk (fun _ _ => rfl) N (fun x y _ h => ((runL_eq (config_spread_E N) N Tryz.f38 (config_spread_sg fun x _ => config_spread N x.1 x.2.1 x.2.2.1) config_spread_pk (config_spread_LP N) (show LoopsOk (config_spread_LP N) (config_spread_E N) N (resD (config_spread_E N) Tryz.f38 (config_spread_sg fun x _ => config_spread N x.1 x.2.1 x.2.2.1) config_spread_pk) [(0, (cAt (bodyOf Tryz.f38) [true, true, false, true, false, false])), (2, (cAt (bodyOf Tryz.f38) [true, true, false, true, false, false, true, true, false, false, true, true, false, true, false, false])), (4, (cAt (bodyOf Tryz.f38) [true, true, false, true, false, false, true, true, false, false, true, true, false, true, false, false, true, true, false, false, true, true, false, false]))] from ⟨config_spread_lp0 N, config_spread_lp2 N, config_spread_lp4 N, trivial⟩) x y).trans (config_spread_core N x y)).trans h)
end
end Go.Proofs.YtbekhaioddmliaaGreatDoor

