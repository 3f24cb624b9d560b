/- What functions of the program compute, as plain functions (printed). -/
import Derived.Test.YthlkidohpiebiaaDoorQBlT
namespace Go.Proofs.YthlkidohpiebiaaDoor
open Go Go.RowKit
set_option maxRecDepth 100000
set_option linter.unusedVariables false
noncomputable section
def blob_inPart (_N : Nat) (x0 : UInt8) : Option Bool :=
  br (decide (x0 ≥ (97 : UInt8)))
    (br (decide (x0 ≤ (122 : UInt8)))
      (some true)
      (br (decide (x0 ≥ (65 : UInt8)))
        (br (decide (x0 ≤ (90 : UInt8)))
          (some true)
          (br (decide (x0 ≥ (48 : UInt8)))
            (br (decide (x0 ≤ (57 : UInt8)))
              (some true)
              (bnd (strings_IndexByte ([46, 95, 45, 43] : Str) x0) fun t27 =>
              some (decide (t27 ≥ (0 : Int)))))
            (bnd (strings_IndexByte ([46, 95, 45, 43] : Str) x0) fun t27_1 =>
            some (decide (t27_1 ≥ (0 : Int))))))
        (br (decide (x0 ≥ (48 : UInt8)))
          (br (decide (x0 ≤ (57 : UInt8)))
            (some true)
            (bnd (strings_IndexByte ([46, 95, 45, 43] : Str) x0) fun t27_2 =>
            some (decide (t27_2 ≥ (0 : Int)))))
          (bnd (strings_IndexByte ([46, 95, 45, 43] : Str) x0) fun t27_3 =>
          some (decide (t27_3 ≥ (0 : Int)))))))
    (br (decide (x0 ≥ (65 : UInt8)))
      (br (decide (x0 ≤ (90 : UInt8)))
        (some true)
        (br (decide (x0 ≥ (48 : UInt8)))
          (br (decide (x0 ≤ (57 : UInt8)))
            (some true)
            (bnd (strings_IndexByte ([46, 95, 45, 43] : Str) x0) fun t27_4 =>
            some (decide (t27_4 ≥ (0 : Int)))))
          (bnd (strings_IndexByte ([46, 95, 45, 43] : Str) x0) fun t27_5 =>
          some (decide (t27_5 ≥ (0 : Int))))))
      (br (decide (x0 ≥ (48 : UInt8)))
        (br (decide (x0 ≤ (57 : UInt8)))
          (some true)
          (bnd (strings_IndexByte ([46, 95, 45, 43] : Str) x0) fun t27_6 =>
          some (decide (t27_6 ≥ (0 : Int)))))
        (bnd (strings_IndexByte ([46, 95, 45, 43] : Str) x0) fun t27_7 =>
        some (decide (t27_7 ≥ (0 : Int))))))
abbrev blob_inPart_sg (f : SV [.v .u8] → BV [] → Option (Bool)) : AF := { ps := [.v .u8], bs := [], rs := [.v .bool], cs := [], R := Bool, out := fun z => ((z, ()), ()), f := f }
abbrev blob_inPart_pk : SV [.v .bool] → BV [] → Bool := fun x _ => x.1
def blob_inPart_fn (_N : Nat) : FuncId → Option Tmp → Option AF := fun f _ =>
  match f with
    | 90 => some (strings_IndexByte_sg fun x _ => strings_IndexByte x.1 x.2.1)
    | _ => none
theorem blob_inPart_fn_ok (N : Nat) : ∀ f q F, blob_inPart_fn N f q = some F → Sound Tryd.prog GW B0G f F := by
  intro f q F h
  unfold blob_inPart_fn at h
  split at h
  · cases h; exact strings_IndexByte_sound
  · cases h
def blob_inPart_h : Nat → Hint := fun i =>
  match i with
  | _ => ⟨[], [], [], [], [], []⟩
abbrev blob_inPart_E (N : Nat) : Env := mkE blob_inPart_h (blob_inPart_fn N) (fun _ => false) (fun _ => false)
noncomputable def blob_inPart_LP (N : Nat) : Nat → Code → St → (Ex → St → Option Bool) → Option Bool := fun i c =>
  match i with
  | i => fun st k => iter (blob_inPart_h i) (exec (blob_inPart_E N) N c i) N st k
theorem blob_inPart_core (N : Nat) (x : SV [.v .u8]) (y : BV []) : runL (blob_inPart_E N) Tryd.f44 (blob_inPart_sg fun x _ => blob_inPart N x.1) blob_inPart_pk (blob_inPart_LP N) x y = blob_inPart N x.1 := by kernel_rfl
theorem blob_inPart_sound (N : Nat) : Sound Tryd.prog GW B0G 44 (blob_inPart_sg fun x _ => blob_inPart N x.1) :=
  runD_sound (mkE_ok blob_inPart_h (blob_inPart_fn N) _ _ (blob_inPart_fn_ok N)) Tryd.func44 rfl Tryd.call44 (blob_inPart_sg fun x _ => blob_inPart N x.1) blob_inPart_pk (fun _ _ => rfl) N (fun x y _ h => ((runL_eq (blob_inPart_E N) N Tryd.f44 (blob_inPart_sg fun x _ => blob_inPart N x.1) blob_inPart_pk (blob_inPart_LP N) (show LoopsOk (blob_inPart_LP N) (blob_inPart_E N) N (resD (blob_inPart_E N) Tryd.f44 (blob_inPart_sg fun x _ => blob_inPart N x.1) blob_inPart_pk) [] from trivial) x y).trans (blob_inPart_core N x y)).trans h)
def blob_CheckPattern_L1T (N : Nat) (t19 : Str) (c38 : Int) (k2 : Option Int) (self : Int → Option Int) (s39 : Int) : Option Int :=
  br (decide (s39 < c38))
    (bnd (geti t19 s39) fun t44 =>
    bnd (blob_inPart N t44) fun t45 =>
    br (!t45)
      (bnd (geti t19 s39) fun t50 =>
      br (t50 != (42 : UInt8))
        (bnd (geti t19 s39) fun t56 =>
        br (t56 != (63 : UInt8))
          (some (3 : Int))
          (self (IntKind.i64.wrap (s39 + (1 : Int)))))
        (self (IntKind.i64.wrap (s39 + (1 : Int)))))
      (self (IntKind.i64.wrap (s39 + (1 : Int)))))
    (k2)
def blob_CheckPattern_L1 (N : Nat) (t19 : Str) (c38 : Int) (k2 : Option Int) : Nat → Int → Option Int
  | 0, _ => none
  | n + 1, s39 => blob_CheckPattern_L1T N t19 c38 k2 (blob_CheckPattern_L1 N t19 c38 k2 n) s39
def blob_CheckPattern_L0T (N : Nat) (t15 : List Str) (c16 : Int) (k0 : Option Int) (self : Int → Option Int) (s17 : Int) : Option Int :=
  br (decide (s17 < c16))
    (bnd (geti t15 s17) fun t19 =>
    br (t19 == ([42, 42] : Str))
      (self (IntKind.i64.wrap (s17 + (1 : Int))))
      (br (t19 == ([] : Str))
        (some (3 : Int))
        (br (t19 == ([46] : Str))
          (some (3 : Int))
          (br (t19 == ([46, 46] : Str))
            (some (3 : Int))
            (bnd (strings_Contains t19 ([42, 42] : Str)) fun t35 =>
            br (t35)
              (some (3 : Int))
              (blob_CheckPattern_L1 N t19 (t19.length : Int) (self (IntKind.i64.wrap (s17 + (1 : Int)))) N (0 : Int)))))))
    (k0)
def blob_CheckPattern_L0 (N : Nat) (t15 : List Str) (c16 : Int) (k0 : Option Int) : Nat → Int → Option Int
  | 0, _ => none
  | n + 1, s17 => blob_CheckPattern_L0T N t15 c16 k0 (blob_CheckPattern_L0 N t15 c16 k0 n) s17
def blob_CheckPattern (N : Nat) (x0 : Str) : Option Int :=
  br (decide ((x0.length : Int) < (1 : Int)))
    (some (3 : Int))
    (br (decide ((x0.length : Int) > (200 : Int)))
      (some (3 : Int))
      (bnd (strings_Split x0 ([47] : Str)) fun t15 =>
      blob_CheckPattern_L0 N t15 (t15.length : Int) (some (0 : Int)) N (0 : Int)))
abbrev blob_CheckPattern_sg (f : SV [.v .str] → BV [] → Option (Int)) : AF := { ps := [.v .str], bs := [], rs := [.v (.int .i64)], cs := [], R := Int, out := fun z => ((z, ()), ()), f := f }
abbrev blob_CheckPattern_pk : SV [.v (.int .i64)] → BV [] → Int := fun x _ => x.1
def blob_CheckPattern_fn (N : Nat) : FuncId → Option Tmp → Option AF := fun f _ =>
  match f with
    | 42 => some (strings_Split_sg fun x _ => strings_Split x.1 x.2.1)
    | 43 => some (strings_Contains_sg fun x _ => strings_Contains x.1 x.2.1)
    | 44 => some (blob_inPart_sg fun x _ => blob_inPart N x.1)
    | _ => none
theorem blob_CheckPattern_fn_ok (N : Nat) : ∀ f q F, blob_CheckPattern_fn N f q = some F → Sound Tryd.prog GW B0G f F := by
  intro f q F h
  unfold blob_CheckPattern_fn at h
  split at h
  · cases h; exact strings_Split_sound
  · cases h; exact strings_Contains_sound
  · cases h; exact blob_inPart_sound N
  · cases h
def blob_CheckPattern_h : Nat → Hint := fun i =>
  match i with
  | 0 => ⟨[], [15, 16, 17], [], [], [], []⟩
  | 2 => ⟨[], [4, 15, 16, 17, 26, 27, 30, 31, 34, 35, 38, 39], [], [15, 16, 17, 26, 27, 30, 31, 34, 35], [], []⟩
  | _ => ⟨[], [], [], [], [], []⟩
abbrev blob_CheckPattern_E (N : Nat) : Env := mkE blob_CheckPattern_h (blob_CheckPattern_fn N) (fun _ => false) (fun _ => false)
abbrev blob_CheckPattern_L1_fs : List (Nat × Sl) := [(4, .v .str), (15, .v (.sl .str)), (16, .v (.int .i64)), (17, .v (.int .i64)), (26, .v .str), (27, .v .bool), (30, .v .str), (31, .v .bool), (34, .v .str), (35, .v .bool), (38, .v (.int .i64)), (39, .v (.int .i64))]
abbrev blob_CheckPattern_L1_bs : List (Nat × Sb) := []
def blob_CheckPattern_L1_hd (t19 : Str) (t15 : List Str) (c16 : Int) (s17 : Int) (c26 : Str) (c27 : Bool) (c30 : Str) (c31 : Bool) (c34 : Str) (t35 : Bool) (c38 : Int) (s39 : Int) : St := ⟨61, [(4, .v .str t19), (15, .v (.sl .str) t15), (16, .v (.int .i64) c16), (17, .v (.int .i64) s17), (26, .v .str c26), (27, .v .bool c27), (30, .v .str c30), (31, .v .bool c31), (34, .v .str c34), (35, .v .bool t35), (38, .v (.int .i64) c38), (39, .v (.int .i64) s39)], []⟩
def blob_CheckPattern_L1_tl2 (_t19 : Str) (t15 : List Str) (c16 : Int) (s17 : Int) (c26 : Str) (c27 : Bool) (c30 : Str) (c31 : Bool) (c34 : Str) (t35 : Bool) (_c38 : Int) : St := ⟨61, [(15, .v (.sl .str) t15), (16, .v (.int .i64) c16), (17, .v (.int .i64) s17), (26, .v .str c26), (27, .v .bool c27), (30, .v .str c30), (31, .v .bool c31), (34, .v .str c34), (35, .v .bool t35)], []⟩
def blob_CheckPattern_L1_G (N : Nat) (t19 : Str) (t15 : List Str) (c16 : Int) (s17 : Int) (c26 : Str) (c27 : Bool) (c30 : Str) (c31 : Bool) (c34 : Str) (t35 : Bool) (c38 : Int) (s39 : Int) (k : Ex → St → Option Int) : Option Int :=
  blob_CheckPattern_L1 N t19 c38 (k (.exit 2) (blob_CheckPattern_L1_tl2 t19 t15 c16 s17 c26 c27 c30 c31 c34 t35 c38)) N s39
abbrev blob_CheckPattern_L1_F (N : Nat) : FV blob_CheckPattern_L1_fs → HV blob_CheckPattern_L1_bs → (Ex → St → Option Int) → Option Int := fun x _ k => blob_CheckPattern_L1_G N x.1 x.2.1 x.2.2.1 x.2.2.2.1 x.2.2.2.2.1 x.2.2.2.2.2.1 x.2.2.2.2.2.2.1 x.2.2.2.2.2.2.2.1 x.2.2.2.2.2.2.2.2.1 x.2.2.2.2.2.2.2.2.2.1 x.2.2.2.2.2.2.2.2.2.2.1 x.2.2.2.2.2.2.2.2.2.2.2.1 k
abbrev blob_CheckPattern_L0_fs : List (Nat × Sl) := [(15, .v (.sl .str)), (16, .v (.int .i64)), (17, .v (.int .i64))]
abbrev blob_CheckPattern_L0_bs : List (Nat × Sb) := []
def blob_CheckPattern_L0_hd (t15 : List Str) (c16 : Int) (s17 : Int) : St := ⟨61, [(15, .v (.sl .str) t15), (16, .v (.int .i64) c16), (17, .v (.int .i64) s17)], []⟩
def blob_CheckPattern_L0_tl0 (_t15 : List Str) (_c16 : Int) : St := ⟨61, [], []⟩
def blob_CheckPattern_L0_G (N : Nat) (t15 : List Str) (c16 : Int) (s17 : Int) (k : Ex → St → Option Int) : Option Int :=
  blob_CheckPattern_L0 N t15 c16 (k (.exit 0) (blob_CheckPattern_L0_tl0 t15 c16)) N s17
abbrev blob_CheckPattern_L0_F (N : Nat) : FV blob_CheckPattern_L0_fs → HV blob_CheckPattern_L0_bs → (Ex → St → Option Int) → Option Int := fun x _ k => blob_CheckPattern_L0_G N x.1 x.2.1 x.2.2.1 k
noncomputable def blob_CheckPattern_LP (N : Nat) : Nat → Code → St → (Ex → St → Option Int) → Option Int := fun i c =>
  match i with
  | 0 => (LPc 61 blob_CheckPattern_L0_fs blob_CheckPattern_L0_bs (blob_CheckPattern_L0_F N) (fun st k => iter (blob_CheckPattern_h 0) (exec (blob_CheckPattern_E N) N c 0) N st k))
  | 2 => (LPc 61 blob_CheckPattern_L1_fs blob_CheckPattern_L1_bs (blob_CheckPattern_L1_F N) (fun st k => iter (blob_CheckPattern_h 2) (exec (blob_CheckPattern_E N) N c 2) N st k))
  | i => fun st k => iter (blob_CheckPattern_h i) (exec (blob_CheckPattern_E N) N c i) N st k
theorem blob_CheckPattern_L1_step (N : Nat) (t19 : Str) (t15 : List Str) (c16 : Int) (s17 : Int) (c26 : Str) (c27 : Bool) (c30 : Str) (c31 : Bool) (c34 : Str) (t35 : Bool) (c38 : Int) (KX : Nat → St → Option Int) (I : St → Option Int) (s39 : Int) :
    execL (blob_CheckPattern_LP N) (blob_CheckPattern_E N) (cAt (bodyOf Tryd.f16) [true, true, false, true, false, false, true, true, false, false, true, true, true, true, false, false]) 2 (blob_CheckPattern_L1_hd t19 t15 c16 s17 c26 c27 c30 c31 c34 t35 c38 s39) (roundK (blob_CheckPattern_h 2) I KX (resD (blob_CheckPattern_E N) Tryd.f16 (blob_CheckPattern_sg fun x _ => blob_CheckPattern N x.1) blob_CheckPattern_pk)) = blob_CheckPattern_L1T N t19 c38 (KX 2 (blob_CheckPattern_L1_tl2 t19 t15 c16 s17 c26 c27 c30 c31 c34 t35 c38)) (fun s39 => I (blob_CheckPattern_L1_hd t19 t15 c16 s17 c26 c27 c30 c31 c34 t35 c38 s39)) s39 := by kernel_rfl
theorem blob_CheckPattern_L1_ok (N : Nat) : ∀ x y k, (∀ st, k .ret st = (resD (blob_CheckPattern_E N) Tryd.f16 (blob_CheckPattern_sg fun x _ => blob_CheckPattern N x.1) blob_CheckPattern_pk) st) → iter (blob_CheckPattern_h 2) (exec (blob_CheckPattern_E N) N (cAt (bodyOf Tryd.f16) [true, true, false, true, false, false, true, true, false, false, true, true, true, true, false, false]) 2) N ⟨61, unF blob_CheckPattern_L1_fs x, unH blob_CheckPattern_L1_bs y⟩ k = blob_CheckPattern_L1_F N x y k := fun x _ k hk =>
  iter_link (S := (Int) × Unit) (blob_CheckPattern_h 2) _ (execL (blob_CheckPattern_LP N) (blob_CheckPattern_E N) (cAt (bodyOf Tryd.f16) [true, true, false, true, false, false, true, true, false, false, true, true, true, true, false, false]) 2) (resD (blob_CheckPattern_E N) Tryd.f16 (blob_CheckPattern_sg fun x _ => blob_CheckPattern N x.1) blob_CheckPattern_pk) (fun st k hk => execL_eq _ _ N _ (cAt (bodyOf Tryd.f16) [true, true, false, true, false, false, true, true, false, false, true, true, true, true, false, false]) 2 (show LoopsOk (blob_CheckPattern_LP N) (blob_CheckPattern_E N) N (resD (blob_CheckPattern_E N) Tryd.f16 (blob_CheckPattern_sg fun x _ => blob_CheckPattern N x.1) blob_CheckPattern_pk) [] from trivial) st k hk) (fun s => blob_CheckPattern_L1_hd x.1 x.2.1 x.2.2.1 x.2.2.2.1 x.2.2.2.2.1 x.2.2.2.2.2.1 x.2.2.2.2.2.2.1 x.2.2.2.2.2.2.2.1 x.2.2.2.2.2.2.2.2.1 x.2.2.2.2.2.2.2.2.2.1 x.2.2.2.2.2.2.2.2.2.2.1 s.1) k hk
    (fun self s => blob_CheckPattern_L1T N x.1 x.2.2.2.2.2.2.2.2.2.2.1 (k (.exit 2) (blob_CheckPattern_L1_tl2 x.1 x.2.1 x.2.2.1 x.2.2.2.1 x.2.2.2.2.1 x.2.2.2.2.2.1 x.2.2.2.2.2.2.1 x.2.2.2.2.2.2.2.1 x.2.2.2.2.2.2.2.2.1 x.2.2.2.2.2.2.2.2.2.1 x.2.2.2.2.2.2.2.2.2.2.1)) (fun s39 => self (s39, ())) s.1) (fun n s => blob_CheckPattern_L1 N x.1 x.2.2.2.2.2.2.2.2.2.2.1 (k (.exit 2) (blob_CheckPattern_L1_tl2 x.1 x.2.1 x.2.2.1 x.2.2.2.1 x.2.2.2.2.1 x.2.2.2.2.2.1 x.2.2.2.2.2.2.1 x.2.2.2.2.2.2.2.1 x.2.2.2.2.2.2.2.2.1 x.2.2.2.2.2.2.2.2.2.1 x.2.2.2.2.2.2.2.2.2.2.1)) n s.1) (fun _ => rfl) (fun _ _ => rfl)
    (fun I s => blob_CheckPattern_L1_step N x.1 x.2.1 x.2.2.1 x.2.2.2.1 x.2.2.2.2.1 x.2.2.2.2.2.1 x.2.2.2.2.2.2.1 x.2.2.2.2.2.2.2.1 x.2.2.2.2.2.2.2.2.1 x.2.2.2.2.2.2.2.2.2.1 x.2.2.2.2.2.2.2.2.2.2.1 (fun j => k (.exit j)) I s.1) N (x.2.2.2.2.2.2.2.2.2.2.2.1, ())
theorem blob_CheckPattern_lp2 (N : Nat) : ∀ st k, (∀ st, k .ret st = (resD (blob_CheckPattern_E N) Tryd.f16 (blob_CheckPattern_sg fun x _ => blob_CheckPattern N x.1) blob_CheckPattern_pk) st) → blob_CheckPattern_LP N 2 (cAt (bodyOf Tryd.f16) [true, true, false, true, false, false, true, true, false, false, true, true, true, true, false, false]) st k = iter (Env.hint (blob_CheckPattern_E N) 2) (exec (blob_CheckPattern_E N) N (cAt (bodyOf Tryd.f16) [true, true, false, true, false, false, true, true, false, false, true, true, true, true, false, false]) 2) N st k := fun st k hk => LPc_eq 61 blob_CheckPattern_L1_fs blob_CheckPattern_L1_bs _ _ (resD (blob_CheckPattern_E N) Tryd.f16 (blob_CheckPattern_sg fun x _ => blob_CheckPattern N x.1) blob_CheckPattern_pk) (blob_CheckPattern_L1_ok N) _ st k hk (rfl)
theorem blob_CheckPattern_L0_step (N : Nat) (t15 : List Str) (c16 : Int) (KX : Nat → St → Option Int) (I : St → Option Int) (s17 : Int) :
    execL (blob_CheckPattern_LP N) (blob_CheckPattern_E N) (cAt (bodyOf Tryd.f16) [true, true, false, true, false, false]) 0 (blob_CheckPattern_L0_hd t15 c16 s17) (roundK (blob_CheckPattern_h 0) I KX (resD (blob_CheckPattern_E N) Tryd.f16 (blob_CheckPattern_sg fun x _ => blob_CheckPattern N x.1) blob_CheckPattern_pk)) = blob_CheckPattern_L0T N t15 c16 (KX 0 (blob_CheckPattern_L0_tl0 t15 c16)) (fun s17 => I (blob_CheckPattern_L0_hd t15 c16 s17)) s17 := by kernel_rfl
theorem blob_CheckPattern_L0_ok (N : Nat) : ∀ x y k, (∀ st, k .ret st = (resD (blob_CheckPattern_E N) Tryd.f16 (blob_CheckPattern_sg fun x _ => blob_CheckPattern N x.1) blob_CheckPattern_pk) st) → iter (blob_CheckPattern_h 0) (exec (blob_CheckPattern_E N) N (cAt (bodyOf Tryd.f16) [true, true, false, true, false, false]) 0) N ⟨61, unF blob_CheckPattern_L0_fs x, unH blob_CheckPattern_L0_bs y⟩ k = blob_CheckPattern_L0_F N x y k := fun x _ k hk =>
  iter_link (S := (Int) × Unit) (blob_CheckPattern_h 0) _ (execL (blob_CheckPattern_LP N) (blob_CheckPattern_E N) (cAt (bodyOf Tryd.f16) [true, true, false, true, false, false]) 0) (resD (blob_CheckPattern_E N) Tryd.f16 (blob_CheckPattern_sg fun x _ => blob_CheckPattern N x.1) blob_CheckPattern_pk) (fun st k hk => execL_eq _ _ N _ (cAt (bodyOf Tryd.f16) [true, true, false, true, false, false]) 0 (show LoopsOk (blob_CheckPattern_LP N) (blob_CheckPattern_E N) N (resD (blob_CheckPattern_E N) Tryd.f16 (blob_CheckPattern_sg fun x _ => blob_CheckPattern N x.1) blob_CheckPattern_pk) [(2, (cAt (bodyOf Tryd.f16) [true, true, false, true, false, false, true, true, false, false, true, true, true, true, false, false]))] from ⟨blob_CheckPattern_lp2 N, trivial⟩) st k hk) (fun s => blob_CheckPattern_L0_hd x.1 x.2.1 s.1) k hk
    (fun self s => blob_CheckPattern_L0T N x.1 x.2.1 (k (.exit 0) (blob_CheckPattern_L0_tl0 x.1 x.2.1)) (fun s17 => self (s17, ())) s.1) (fun n s => blob_CheckPattern_L0 N x.1 x.2.1 (k (.exit 0) (blob_CheckPattern_L0_tl0 x.1 x.2.1)) n s.1) (fun _ => rfl) (fun _ _ => rfl)
    (fun I s => blob_CheckPattern_L0_step N x.1 x.2.1 (fun j => k (.exit j)) I s.1) N (x.2.2.1, ())
theorem blob_CheckPattern_lp0 (N : Nat) : ∀ st k, (∀ st, k .ret st = (resD (blob_CheckPattern_E N) Tryd.f16 (blob_CheckPattern_sg fun x _ => blob_CheckPattern N x.1) blob_CheckPattern_pk) st) → blob_CheckPattern_LP N 0 (cAt (bodyOf Tryd.f16) [true, true, false, true, false, false]) st k = iter (Env.hint (blob_CheckPattern_E N) 0) (exec (blob_CheckPattern_E N) N (cAt (bodyOf Tryd.f16) [true, true, false, true, false, false]) 0) N st k := fun st k hk => LPc_eq 61 blob_CheckPattern_L0_fs blob_CheckPattern_L0_bs _ _ (resD (blob_CheckPattern_E N) Tryd.f16 (blob_CheckPattern_sg fun x _ => blob_CheckPattern N x.1) blob_CheckPattern_pk) (blob_CheckPattern_L0_ok N) _ st k hk (rfl)
theorem blob_CheckPattern_core (N : Nat) (x : SV [.v .str]) (y : BV []) : runL (blob_CheckPattern_E N) Tryd.f16 (blob_CheckPattern_sg fun x _ => blob_CheckPattern N x.1) blob_CheckPattern_pk (blob_CheckPattern_LP N) x y = blob_CheckPattern N x.1 := by kernel_rfl
theorem blob_CheckPattern_sound (N : Nat) : Sound Tryd.prog GW B0G 16 (blob_CheckPattern_sg fun x _ => blob_CheckPattern N x.1) :=
  runD_sound (mkE_ok blob_CheckPattern_h (blob_CheckPattern_fn N) _ _ (blob_CheckPattern_fn_ok N)) Tryd.func16 rfl Tryd.call16 (blob_CheckPattern_sg fun x _ => blob_CheckPattern N x.1) blob_CheckPattern_pk (fun _ _ => rfl) N (fun x y _ h => ((runL_eq (blob_CheckPattern_E N) N Tryd.f16 (blob_CheckPattern_sg fun x _ => blob_CheckPattern N x.1) blob_CheckPattern_pk (blob_CheckPattern_LP N) (show LoopsOk (blob_CheckPattern_LP N) (blob_CheckPattern_E N) N (resD (blob_CheckPattern_E N) Tryd.f16 (blob_CheckPattern_sg fun x _ => blob_CheckPattern N x.1) blob_CheckPattern_pk) [(0, (cAt (bodyOf Tryd.f16) [true, true, false, true, false, false])), (2, (cAt (bodyOf Tryd.f16) [true, true, false, true, false, false, true, true, false, false, true, true, true, true, false, false]))] from ⟨blob_CheckPattern_lp0 N, blob_CheckPattern_lp2 N, trivial⟩) x y).trans (blob_CheckPattern_core N x y)).trans h)
def blob_isPart_L0T (N : Nat) (x0 : Str) (c5 : Int) (k0 : Option Bool) (self : Int → Option Bool) (s6 : Int) : Option Bool :=
  br (decide (s6 < c5))
    (bnd (geti x0 s6) fun t11 =>
    bnd (blob_inPart N t11) fun t12 =>
    br (!t12)
      (some false)
      (self (IntKind.i64.wrap (s6 + (1 : Int)))))
    (k0)
def blob_isPart_L0 (N : Nat) (x0 : Str) (c5 : Int) (k0 : Option Bool) : Nat → Int → Option Bool
  | 0, _ => none
  | n + 1, s6 => blob_isPart_L0T N x0 c5 k0 (blob_isPart_L0 N x0 c5 k0 n) s6
def blob_isPart (N : Nat) (x0 : Str) : Option Bool :=
  blob_isPart_L0 N x0 (x0.length : Int) (br (!(x0 == ([] : Str)))
        (br (!(x0 == ([46] : Str)))
          (some (!(x0 == ([46, 46] : Str))))
          (some false))
        (some false)) N (0 : Int)
abbrev blob_isPart_sg (f : SV [.v .str] → BV [] → Option (Bool)) : AF := { ps := [.v .str], bs := [], rs := [.v .bool], cs := [], R := Bool, out := fun z => ((z, ()), ()), f := f }
abbrev blob_isPart_pk : SV [.v .bool] → BV [] → Bool := fun x _ => x.1
def blob_isPart_fn (N : Nat) : FuncId → Option Tmp → Option AF := fun f _ =>
  match f with
    | 44 => some (blob_inPart_sg fun x _ => blob_inPart N x.1)
    | _ => none
theorem blob_isPart_fn_ok (N : Nat) : ∀ f q F, blob_isPart_fn N f q = some F → Sound Tryd.prog GW B0G f F := by
  intro f q F h
  unfold blob_isPart_fn at h
  split at h
  · cases h; exact blob_inPart_sound N
  · cases h
def blob_isPart_h : Nat → Hint := fun i =>
  match i with
  | 0 => ⟨[], [0, 5, 6], [], [0], [], []⟩
  | _ => ⟨[], [], [], [], [], []⟩
abbrev blob_isPart_E (N : Nat) : Env := mkE blob_isPart_h (blob_isPart_fn N) (fun _ => false) (fun _ => false)
abbrev blob_isPart_L0_fs : List (Nat × Sl) := [(0, .v .str), (5, .v (.int .i64)), (6, .v (.int .i64))]
abbrev blob_isPart_L0_bs : List (Nat × Sb) := []
def blob_isPart_L0_hd (x0 : Str) (c5 : Int) (s6 : Int) : St := ⟨25, [(0, .v .str x0), (5, .v (.int .i64) c5), (6, .v (.int .i64) s6)], []⟩
def blob_isPart_L0_tl0 (x0 : Str) (_c5 : Int) : St := ⟨25, [(0, .v .str x0)], []⟩
def blob_isPart_L0_G (N : Nat) (x0 : Str) (c5 : Int) (s6 : Int) (k : Ex → St → Option Bool) : Option Bool :=
  blob_isPart_L0 N x0 c5 (k (.exit 0) (blob_isPart_L0_tl0 x0 c5)) N s6
abbrev blob_isPart_L0_F (N : Nat) : FV blob_isPart_L0_fs → HV blob_isPart_L0_bs → (Ex → St → Option Bool) → Option Bool := fun x _ k => blob_isPart_L0_G N x.1 x.2.1 x.2.2.1 k
noncomputable def blob_isPart_LP (N : Nat) : Nat → Code → St → (Ex → St → Option Bool) → Option Bool := fun i c =>
  match i with
  | 0 => (LPc 25 blob_isPart_L0_fs blob_isPart_L0_bs (blob_isPart_L0_F N) (fun st k => iter (blob_isPart_h 0) (exec (blob_isPart_E N) N c 0) N st k))
  | i => fun st k => iter (blob_isPart_h i) (exec (blob_isPart_E N) N c i) N st k
theorem blob_isPart_L0_step (N : Nat) (x0 : Str) (c5 : Int) (KX : Nat → St → Option Bool) (I : St → Option Bool) (s6 : Int) :
    execL (blob_isPart_LP N) (blob_isPart_E N) (cAt (bodyOf Tryd.f82) [true, false, true, false, false]) 0 (blob_isPart_L0_hd x0 c5 s6) (roundK (blob_isPart_h 0) I KX (resD (blob_isPart_E N) Tryd.f82 (blob_isPart_sg fun x _ => blob_isPart N x.1) blob_isPart_pk)) = blob_isPart_L0T N x0 c5 (KX 0 (blob_isPart_L0_tl0 x0 c5)) (fun s6 => I (blob_isPart_L0_hd x0 c5 s6)) s6 := by kernel_rfl
theorem blob_isPart_L0_ok (N : Nat) : ∀ x y k, (∀ st, k .ret st = (resD (blob_isPart_E N) Tryd.f82 (blob_isPart_sg fun x _ => blob_isPart N x.1) blob_isPart_pk) st) → iter (blob_isPart_h 0) (exec (blob_isPart_E N) N (cAt (bodyOf Tryd.f82) [true, false, true, false, false]) 0) N ⟨25, unF blob_isPart_L0_fs x, unH blob_isPart_L0_bs y⟩ k = blob_isPart_L0_F N x y k := fun x _ k hk =>
  iter_link (S := (Int) × Unit) (blob_isPart_h 0) _ (execL (blob_isPart_LP N) (blob_isPart_E N) (cAt (bodyOf Tryd.f82) [true, false, true, false, false]) 0) (resD (blob_isPart_E N) Tryd.f82 (blob_isPart_sg fun x _ => blob_isPart N x.1) blob_isPart_pk) (fun st k hk => execL_eq _ _ N _ (cAt (bodyOf Tryd.f82) [true, false, true, false, false]) 0 (show LoopsOk (blob_isPart_LP N) (blob_isPart_E N) N (resD (blob_isPart_E N) Tryd.f82 (blob_isPart_sg fun x _ => blob_isPart N x.1) blob_isPart_pk) [] from trivial) st k hk) (fun s => blob_isPart_L0_hd x.1 x.2.1 s.1) k hk
    (fun self s => blob_isPart_L0T N x.1 x.2.1 (k (.exit 0) (blob_isPart_L0_tl0 x.1 x.2.1)) (fun s6 => self (s6, ())) s.1) (fun n s => blob_isPart_L0 N x.1 x.2.1 (k (.exit 0) (blob_isPart_L0_tl0 x.1 x.2.1)) n s.1) (fun _ => rfl) (fun _ _ => rfl)
    (fun I s => blob_isPart_L0_step N x.1 x.2.1 (fun j => k (.exit j)) I s.1) N (x.2.2.1, ())
theorem blob_isPart_lp0 (N : Nat) : ∀ st k, (∀ st, k .ret st = (resD (blob_isPart_E N) Tryd.f82 (blob_isPart_sg fun x _ => blob_isPart N x.1) blob_isPart_pk) st) → blob_isPart_LP N 0 (cAt (bodyOf Tryd.f82) [true, false, true, false, false]) st k = iter (Env.hint (blob_isPart_E N) 0) (exec (blob_isPart_E N) N (cAt (bodyOf Tryd.f82) [true, false, true, false, false]) 0) N st k := fun st k hk => LPc_eq 25 blob_isPart_L0_fs blob_isPart_L0_bs _ _ (resD (blob_isPart_E N) Tryd.f82 (blob_isPart_sg fun x _ => blob_isPart N x.1) blob_isPart_pk) (blob_isPart_L0_ok N) _ st k hk (rfl)
theorem blob_isPart_core (N : Nat) (x : SV [.v .str]) (y : BV []) : runL (blob_isPart_E N) Tryd.f82 (blob_isPart_sg fun x _ => blob_isPart N x.1) blob_isPart_pk (blob_isPart_LP N) x y = blob_isPart N x.1 := by kernel_rfl
theorem blob_isPart_sound (N : Nat) : Sound Tryd.prog GW B0G 82 (blob_isPart_sg fun x _ => blob_isPart N x.1) :=
  runD_sound (mkE_ok blob_isPart_h (blob_isPart_fn N) _ _ (blob_isPart_fn_ok N)) Tryd.func82 rfl Tryd.call82 (blob_isPart_sg fun x _ => blob_isPart N x.1) blob_isPart_pk (fun _ _ => rfl) N (fun x y _ h => ((runL_eq (blob_isPart_E N) N Tryd.f82 (blob_isPart_sg fun x _ => blob_isPart N x.1) blob_isPart_pk (blob_isPart_LP N) (show LoopsOk (blob_isPart_LP N) (blob_isPart_E N) N (resD (blob_isPart_E N) Tryd.f82 (blob_isPart_sg fun x _ => blob_isPart N x.1) blob_isPart_pk) [(0, (cAt (bodyOf Tryd.f82) [true, false, true, false, false]))] from ⟨blob_isPart_lp0 N, trivial⟩) x y).trans (blob_isPart_core N x y)).trans h)
def blob_IsPath_L0T (N : Nat) (t14 : List Str) (c15 : Int) (k0 : Option Bool) (self : Int → Option Bool) (s16 : Int) : Option Bool :=
  br (decide (s16 < c15))
    (bnd (geti t14 s16) fun t18 =>
    bnd (blob_isPart N t18) fun t21 =>
    br (!t21)
      (some false)
      (self (IntKind.i64.wrap (s16 + (1 : Int)))))
    (k0)
def blob_IsPath_L0 (N : Nat) (t14 : List Str) (c15 : Int) (k0 : Option Bool) : Nat → Int → Option Bool
  | 0, _ => none
  | n + 1, s16 => blob_IsPath_L0T N t14 c15 k0 (blob_IsPath_L0 N t14 c15 k0 n) s16
def blob_IsPath (N : Nat) (x0 : Str) : Option Bool :=
  br (decide ((x0.length : Int) < (1 : Int)))
    (some false)
    (br (decide ((x0.length : Int) > (200 : Int)))
      (some false)
      (bnd (strings_Split x0 ([47] : Str)) fun t14 =>
      blob_IsPath_L0 N t14 (t14.length : Int) (some true) N (0 : Int)))
abbrev blob_IsPath_sg (f : SV [.v .str] → BV [] → Option (Bool)) : AF := { ps := [.v .str], bs := [], rs := [.v .bool], cs := [], R := Bool, out := fun z => ((z, ()), ()), f := f }
abbrev blob_IsPath_pk : SV [.v .bool] → BV [] → Bool := fun x _ => x.1
def blob_IsPath_fn (N : Nat) : FuncId → Option Tmp → Option AF := fun f _ =>
  match f with
    | 42 => some (strings_Split_sg fun x _ => strings_Split x.1 x.2.1)
    | 82 => some (blob_isPart_sg fun x _ => blob_isPart N x.1)
    | _ => none
theorem blob_IsPath_fn_ok (N : Nat) : ∀ f q F, blob_IsPath_fn N f q = some F → Sound Tryd.prog GW B0G f F := by
  intro f q F h
  unfold blob_IsPath_fn at h
  split at h
  · cases h; exact strings_Split_sound
  · cases h; exact blob_isPart_sound N
  · cases h
def blob_IsPath_h : Nat → Hint := fun i =>
  match i with
  | 0 => ⟨[], [14, 15, 16], [], [], [], []⟩
  | _ => ⟨[], [], [], [], [], []⟩
abbrev blob_IsPath_E (N : Nat) : Env := mkE blob_IsPath_h (blob_IsPath_fn N) (fun _ => false) (fun _ => false)
abbrev blob_IsPath_L0_fs : List (Nat × Sl) := [(14, .v (.sl .str)), (15, .v (.int .i64)), (16, .v (.int .i64))]
abbrev blob_IsPath_L0_bs : List (Nat × Sb) := []
def blob_IsPath_L0_hd (t14 : List Str) (c15 : Int) (s16 : Int) : St := ⟨24, [(14, .v (.sl .str) t14), (15, .v (.int .i64) c15), (16, .v (.int .i64) s16)], []⟩
def blob_IsPath_L0_tl0 (_t14 : List Str) (_c15 : Int) : St := ⟨24, [], []⟩
def blob_IsPath_L0_G (N : Nat) (t14 : List Str) (c15 : Int) (s16 : Int) (k : Ex → St → Option Bool) : Option Bool :=
  blob_IsPath_L0 N t14 c15 (k (.exit 0) (blob_IsPath_L0_tl0 t14 c15)) N s16
abbrev blob_IsPath_L0_F (N : Nat) : FV blob_IsPath_L0_fs → HV blob_IsPath_L0_bs → (Ex → St → Option Bool) → Option Bool := fun x _ k => blob_IsPath_L0_G N x.1 x.2.1 x.2.2.1 k
noncomputable def blob_IsPath_LP (N : Nat) : Nat → Code → St → (Ex → St → Option Bool) → Option Bool := fun i c =>
  match i with
  | 0 => (LPc 24 blob_IsPath_L0_fs blob_IsPath_L0_bs (blob_IsPath_L0_F N) (fun st k => iter (blob_IsPath_h 0) (exec (blob_IsPath_E N) N c 0) N st k))
  | i => fun st k => iter (blob_IsPath_h i) (exec (blob_IsPath_E N) N c i) N st k
theorem blob_IsPath_L0_step (N : Nat) (t14 : List Str) (c15 : Int) (KX : Nat → St → Option Bool) (I : St → Option Bool) (s16 : Int) :
    execL (blob_IsPath_LP N) (blob_IsPath_E N) (cAt (bodyOf Tryd.f38) [true, true, false, true, false, false]) 0 (blob_IsPath_L0_hd t14 c15 s16) (roundK (blob_IsPath_h 0) I KX (resD (blob_IsPath_E N) Tryd.f38 (blob_IsPath_sg fun x _ => blob_IsPath N x.1) blob_IsPath_pk)) = blob_IsPath_L0T N t14 c15 (KX 0 (blob_IsPath_L0_tl0 t14 c15)) (fun s16 => I (blob_IsPath_L0_hd t14 c15 s16)) s16 := by kernel_rfl
theorem blob_IsPath_L0_ok (N : Nat) : ∀ x y k, (∀ st, k .ret st = (resD (blob_IsPath_E N) Tryd.f38 (blob_IsPath_sg fun x _ => blob_IsPath N x.1) blob_IsPath_pk) st) → iter (blob_IsPath_h 0) (exec (blob_IsPath_E N) N (cAt (bodyOf Tryd.f38) [true, true, false, true, false, false]) 0) N ⟨24, unF blob_IsPath_L0_fs x, unH blob_IsPath_L0_bs y⟩ k = blob_IsPath_L0_F N x y k := fun x _ k hk =>
  iter_link (S := (Int) × Unit) (blob_IsPath_h 0) _ (execL (blob_IsPath_LP N) (blob_IsPath_E N) (cAt (bodyOf Tryd.f38) [true, true, false, true, false, false]) 0) (resD (blob_IsPath_E N) Tryd.f38 (blob_IsPath_sg fun x _ => blob_IsPath N x.1) blob_IsPath_pk) (fun st k hk => execL_eq _ _ N _ (cAt (bodyOf Tryd.f38) [true, true, false, true, false, false]) 0 (show LoopsOk (blob_IsPath_LP N) (blob_IsPath_E N) N (resD (blob_IsPath_E N) Tryd.f38 (blob_IsPath_sg fun x _ => blob_IsPath N x.1) blob_IsPath_pk) [] from trivial) st k hk) (fun s => blob_IsPath_L0_hd x.1 x.2.1 s.1) k hk
    (fun self s => blob_IsPath_L0T N x.1 x.2.1 (k (.exit 0) (blob_IsPath_L0_tl0 x.1 x.2.1)) (fun s16 => self (s16, ())) s.1) (fun n s => blob_IsPath_L0 N x.1 x.2.1 (k (.exit 0) (blob_IsPath_L0_tl0 x.1 x.2.1)) n s.1) (fun _ => rfl) (fun _ _ => rfl)
    (fun I s => blob_IsPath_L0_step N x.1 x.2.1 (fun j => k (.exit j)) I s.1) N (x.2.2.1, ())
theorem blob_IsPath_lp0 (N : Nat) : ∀ st k, (∀ st, k .ret st = (resD (blob_IsPath_E N) Tryd.f38 (blob_IsPath_sg fun x _ => blob_IsPath N x.1) blob_IsPath_pk) st) → blob_IsPath_LP N 0 (cAt (bodyOf Tryd.f38) [true, true, false, true, false, false]) st k = iter (Env.hint (blob_IsPath_E N) 0) (exec (blob_IsPath_E N) N (cAt (bodyOf Tryd.f38) [true, true, false, true, false, false]) 0) N st k := fun st k hk => LPc_eq 24 blob_IsPath_L0_fs blob_IsPath_L0_bs _ _ (resD (blob_IsPath_E N) Tryd.f38 (blob_IsPath_sg fun x _ => blob_IsPath N x.1) blob_IsPath_pk) (blob_IsPath_L0_ok N) _ st k hk (rfl)
theorem blob_IsPath_core (N : Nat) (x : SV [.v .str]) (y : BV []) : runL (blob_IsPath_E N) Tryd.f38 (blob_IsPath_sg fun x _ => blob_IsPath N x.1) blob_IsPath_pk (blob_IsPath_LP N) x y = blob_IsPath N x.1 := by kernel_rfl
theorem blob_IsPath_sound (N : Nat) : Sound Tryd.prog GW B0G 38 (blob_IsPath_sg fun x _ => blob_IsPath N x.1) :=
  runD_sound (mkE_ok blob_IsPath_h (blob_IsPath_fn N) _ _ (blob_IsPath_fn_ok N)) Tryd.func38 rfl Tryd.call38 (blob_IsPath_sg fun x _ => blob_IsPath N x.1) blob_IsPath_pk (fun _ _ => rfl) N (fun x y _ h => ((runL_eq (blob_IsPath_E N) N Tryd.f38 (blob_IsPath_sg fun x _ => blob_IsPath N x.1) blob_IsPath_pk (blob_IsPath_LP N) (show LoopsOk (blob_IsPath_LP N) (blob_IsPath_E N) N (resD (blob_IsPath_E N) Tryd.f38 (blob_IsPath_sg fun x _ => blob_IsPath N x.1) blob_IsPath_pk) [(0, (cAt (bodyOf Tryd.f38) [true, true, false, true, false, false]))] from ⟨blob_IsPath_lp0 N, trivial⟩) x y).trans (blob_IsPath_core N x y)).trans h)
def blob_pathFits_1 (_N : Nat) (x0 : Str) : Option Bool :=
  some (x0 == ([42, 42] : Str))
abbrev blob_pathFits_1_sg (f : SV [.v .str] → BV [] → Option (Bool)) : AF := { ps := [.v .str], bs := [], rs := [.v .bool], cs := [], R := Bool, out := fun z => ((z, ()), ()), f := f }
abbrev blob_pathFits_1_pk : SV [.v .bool] → BV [] → Bool := fun x _ => x.1
def blob_pathFits_1_fn (_N : Nat) : FuncId → Option Tmp → Option AF := fun f _ =>
  match f with
    | _ => none
theorem blob_pathFits_1_fn_ok (N : Nat) : ∀ f q F, blob_pathFits_1_fn N f q = some F → Sound Tryd.prog GW B0G f F := by
  intro f q F h
  unfold blob_pathFits_1_fn at h
  split at h
  · cases h
def blob_pathFits_1_h : Nat → Hint := fun i =>
  match i with
  | _ => ⟨[], [], [], [], [], []⟩
abbrev blob_pathFits_1_E (N : Nat) : Env := mkE blob_pathFits_1_h (blob_pathFits_1_fn N) (fun _ => false) (fun _ => false)
noncomputable def blob_pathFits_1_LP (N : Nat) : Nat → Code → St → (Ex → St → Option Bool) → Option Bool := fun i c =>
  match i with
  | i => fun st k => iter (blob_pathFits_1_h i) (exec (blob_pathFits_1_E N) N c i) N st k
theorem blob_pathFits_1_core (N : Nat) (x : SV [.v .str]) (y : BV []) : runL (blob_pathFits_1_E N) Tryd.f84 (blob_pathFits_1_sg fun x _ => blob_pathFits_1 N x.1) blob_pathFits_1_pk (blob_pathFits_1_LP N) x y = blob_pathFits_1 N x.1 := by kernel_rfl
theorem blob_pathFits_1_sound (N : Nat) : Sound Tryd.prog GW B0G 84 (blob_pathFits_1_sg fun x _ => blob_pathFits_1 N x.1) :=
  runD_sound (mkE_ok blob_pathFits_1_h (blob_pathFits_1_fn N) _ _ (blob_pathFits_1_fn_ok N)) Tryd.func84 rfl Tryd.call84 (blob_pathFits_1_sg fun x _ => blob_pathFits_1 N x.1) blob_pathFits_1_pk (fun _ _ => rfl) N (fun x y _ h => ((runL_eq (blob_pathFits_1_E N) N Tryd.f84 (blob_pathFits_1_sg fun x _ => blob_pathFits_1 N x.1) blob_pathFits_1_pk (blob_pathFits_1_LP N) (show LoopsOk (blob_pathFits_1_LP N) (blob_pathFits_1_E N) N (resD (blob_pathFits_1_E N) Tryd.f84 (blob_pathFits_1_sg fun x _ => blob_pathFits_1 N x.1) blob_pathFits_1_pk) [] from trivial) x y).trans (blob_pathFits_1_core N x y)).trans h)
def blob_partFits_1 (_N : Nat) (x0 : UInt8) : Option Bool :=
  some (x0 == (42 : UInt8))
abbrev blob_partFits_1_sg (f : SV [.v .u8] → BV [] → Option (Bool)) : AF := { ps := [.v .u8], bs := [], rs := [.v .bool], cs := [], R := Bool, out := fun z => ((z, ()), ()), f := f }
abbrev blob_partFits_1_pk : SV [.v .bool] → BV [] → Bool := fun x _ => x.1
def blob_partFits_1_fn (_N : Nat) : FuncId → Option Tmp → Option AF := fun f _ =>
  match f with
    | _ => none
theorem blob_partFits_1_fn_ok (N : Nat) : ∀ f q F, blob_partFits_1_fn N f q = some F → Sound Tryd.prog GW B0G f F := by
  intro f q F h
  unfold blob_partFits_1_fn at h
  split at h
  · cases h
def blob_partFits_1_h : Nat → Hint := fun i =>
  match i with
  | _ => ⟨[], [], [], [], [], []⟩
abbrev blob_partFits_1_E (N : Nat) : Env := mkE blob_partFits_1_h (blob_partFits_1_fn N) (fun _ => false) (fun _ => false)
noncomputable def blob_partFits_1_LP (N : Nat) : Nat → Code → St → (Ex → St → Option Bool) → Option Bool := fun i c =>
  match i with
  | i => fun st k => iter (blob_partFits_1_h i) (exec (blob_partFits_1_E N) N c i) N st k
theorem blob_partFits_1_core (N : Nat) (x : SV [.v .u8]) (y : BV []) : runL (blob_partFits_1_E N) Tryd.f117 (blob_partFits_1_sg fun x _ => blob_partFits_1 N x.1) blob_partFits_1_pk (blob_partFits_1_LP N) x y = blob_partFits_1 N x.1 := by kernel_rfl
theorem blob_partFits_1_sound (N : Nat) : Sound Tryd.prog GW B0G 117 (blob_partFits_1_sg fun x _ => blob_partFits_1 N x.1) :=
  runD_sound (mkE_ok blob_partFits_1_h (blob_partFits_1_fn N) _ _ (blob_partFits_1_fn_ok N)) Tryd.func117 rfl Tryd.call117 (blob_partFits_1_sg fun x _ => blob_partFits_1 N x.1) blob_partFits_1_pk (fun _ _ => rfl) N (fun x y _ h => ((runL_eq (blob_partFits_1_E N) N Tryd.f117 (blob_partFits_1_sg fun x _ => blob_partFits_1 N x.1) blob_partFits_1_pk (blob_partFits_1_LP N) (show LoopsOk (blob_partFits_1_LP N) (blob_partFits_1_E N) N (resD (blob_partFits_1_E N) Tryd.f117 (blob_partFits_1_sg fun x _ => blob_partFits_1 N x.1) blob_partFits_1_pk) [] from trivial) x y).trans (blob_partFits_1_core N x y)).trans h)
def blob_partFits_2 (_N : Nat) (x0 : UInt8) (x1 : UInt8) : Option Bool :=
  br (x0 == (63 : UInt8))
    (some true)
    (some (x0 == x1))
abbrev blob_partFits_2_sg (f : SV [.v .u8, .v .u8] → BV [] → Option (Bool)) : AF := { ps := [.v .u8, .v .u8], bs := [], rs := [.v .bool], cs := [], R := Bool, out := fun z => ((z, ()), ()), f := f }
abbrev blob_partFits_2_pk : SV [.v .bool] → BV [] → Bool := fun x _ => x.1
def blob_partFits_2_fn (_N : Nat) : FuncId → Option Tmp → Option AF := fun f _ =>
  match f with
    | _ => none
theorem blob_partFits_2_fn_ok (N : Nat) : ∀ f q F, blob_partFits_2_fn N f q = some F → Sound Tryd.prog GW B0G f F := by
  intro f q F h
  unfold blob_partFits_2_fn at h
  split at h
  · cases h
def blob_partFits_2_h : Nat → Hint := fun i =>
  match i with
  | _ => ⟨[], [], [], [], [], []⟩
abbrev blob_partFits_2_E (N : Nat) : Env := mkE blob_partFits_2_h (blob_partFits_2_fn N) (fun _ => false) (fun _ => false)
noncomputable def blob_partFits_2_LP (N : Nat) : Nat → Code → St → (Ex → St → Option Bool) → Option Bool := fun i c =>
  match i with
  | i => fun st k => iter (blob_partFits_2_h i) (exec (blob_partFits_2_E N) N c i) N st k
theorem blob_partFits_2_core (N : Nat) (x : SV [.v .u8, .v .u8]) (y : BV []) : runL (blob_partFits_2_E N) Tryd.f118 (blob_partFits_2_sg fun x _ => blob_partFits_2 N x.1 x.2.1) blob_partFits_2_pk (blob_partFits_2_LP N) x y = blob_partFits_2 N x.1 x.2.1 := by kernel_rfl
theorem blob_partFits_2_sound (N : Nat) : Sound Tryd.prog GW B0G 118 (blob_partFits_2_sg fun x _ => blob_partFits_2 N x.1 x.2.1) :=
  runD_sound (mkE_ok blob_partFits_2_h (blob_partFits_2_fn N) _ _ (blob_partFits_2_fn_ok N)) Tryd.func118 rfl Tryd.call118 (blob_partFits_2_sg fun x _ => blob_partFits_2 N x.1 x.2.1) blob_partFits_2_pk (fun _ _ => rfl) N (fun x y _ h => ((runL_eq (blob_partFits_2_E N) N Tryd.f118 (blob_partFits_2_sg fun x _ => blob_partFits_2 N x.1 x.2.1) blob_partFits_2_pk (blob_partFits_2_LP N) (show LoopsOk (blob_partFits_2_LP N) (blob_partFits_2_E N) N (resD (blob_partFits_2_E N) Tryd.f118 (blob_partFits_2_sg fun x _ => blob_partFits_2 N x.1 x.2.1) blob_partFits_2_pk) [] from trivial) x y).trans (blob_partFits_2_core N x y)).trans h)
def blob_fits_byte_L1T (N : Nat) (x1 : List UInt8) (s9 : List Bool) (t25 : UInt8) (c31 : Int) (k2 : (List Bool) → Option Bool) (self : Bool → Int → (List Bool) → Option Bool) (s13 : Bool) (s32 : Int) (w1029 : List Bool) : Option Bool :=
  br (decide (s32 < c31))
    (bnd (blob_partFits_1 N t25) fun t37 =>
    br (t37)
      (br (s13)
        (br (decide (0 ≤ s32 ∧ s32 < (w1029.length : Int)))
          (bnd (geti w1029 s32) fun _ =>
          self true (IntKind.i64.wrap (s32 + (1 : Int))) (seti w1029 s32 true))
          none)
        (bnd (geti s9 s32) fun t42 =>
        br (decide (0 ≤ s32 ∧ s32 < (w1029.length : Int)))
          (bnd (geti w1029 s32) fun _ =>
          self t42 (IntKind.i64.wrap (s32 + (1 : Int))) (seti w1029 s32 t42))
          none))
      (br (decide (s32 > (0 : Int)))
        (bnd (geti s9 (IntKind.i64.wrap (s32 - (1 : Int)))) fun t56 =>
        br (t56)
          (bnd (geti x1 (IntKind.i64.wrap (s32 - (1 : Int)))) fun t64 =>
          bnd (blob_partFits_2 N t25 t64) fun t66 =>
          br (decide (0 ≤ s32 ∧ s32 < (w1029.length : Int)))
            (bnd (geti w1029 s32) fun _ =>
            self s13 (IntKind.i64.wrap (s32 + (1 : Int))) (seti w1029 s32 t66))
            none)
          (br (decide (0 ≤ s32 ∧ s32 < (w1029.length : Int)))
            (bnd (geti w1029 s32) fun _ =>
            self s13 (IntKind.i64.wrap (s32 + (1 : Int))) (seti w1029 s32 false))
            none))
        (self s13 (IntKind.i64.wrap (s32 + (1 : Int))) w1029)))
    (k2 w1029)
def blob_fits_byte_L1 (N : Nat) (x1 : List UInt8) (s9 : List Bool) (t25 : UInt8) (c31 : Int) (k2 : (List Bool) → Option Bool) : Nat → Bool → Int → (List Bool) → Option Bool
  | 0, _, _, _ => none
  | n + 1, s13, s32, w1029 => blob_fits_byte_L1T N x1 s9 t25 c31 k2 (blob_fits_byte_L1 N x1 s9 t25 c31 k2 n) s13 s32 w1029
def blob_fits_byte_L0T (N : Nat) (x1 : List UInt8) (x0 : List UInt8) (c22 : Int) (k0 : (List Bool) → Option Bool) (self : (List Bool) → Int → Option Bool) (s9 : List Bool) (s23 : Int) : Option Bool :=
  br (decide (s23 < c22))
    (bnd (geti x0 s23) fun t25 =>
    br (decide (0 ≤ (s9.length : Int) ∧ (s9.length : Int) ≤ (s9.length : Int) ∧ (s9.length : Int) * (24 * Ty.sz .bool : Nat) ≤ 140737488355328))
      (blob_fits_byte_L1 N x1 s9 t25 (s9.length : Int) (fun o1_w1029 =>
          self o1_w1029 (IntKind.i64.wrap (s23 + (1 : Int)))) N false (0 : Int) (mk0 (s9.length : Int) (zero .bool)))
      none)
    (k0 s9)
def blob_fits_byte_L0 (N : Nat) (x1 : List UInt8) (x0 : List UInt8) (c22 : Int) (k0 : (List Bool) → Option Bool) : Nat → (List Bool) → Int → Option Bool
  | 0, _, _ => none
  | n + 1, s9, s23 => blob_fits_byte_L0T N x1 x0 c22 k0 (blob_fits_byte_L0 N x1 x0 c22 k0 n) s9 s23
def blob_fits_byte (N : Nat) (x0 : List UInt8) (x1 : List UInt8) (_x2 : Unit) (_x3 : Unit) : Option Bool :=
  br (decide (0 ≤ (IntKind.i64.wrap ((x1.length : Int) + (1 : Int))) ∧ (IntKind.i64.wrap ((x1.length : Int) + (1 : Int))) ≤ (IntKind.i64.wrap ((x1.length : Int) + (1 : Int))) ∧ (IntKind.i64.wrap ((x1.length : Int) + (1 : Int))) * (24 * Ty.sz .bool : Nat) ≤ 140737488355328))
    (br (decide (0 ≤ (0 : Int) ∧ (0 : Int) < ((mk0 (IntKind.i64.wrap ((x1.length : Int) + (1 : Int))) (zero .bool)).length : Int)))
      (bnd (geti (mk0 (IntKind.i64.wrap ((x1.length : Int) + (1 : Int))) (zero .bool)) (0 : Int)) fun _ =>
      blob_fits_byte_L0 N x1 x0 (x0.length : Int) (fun o0_9 =>
          bnd (geti o0_9 (x1.length : Int)) fun t75 =>
          some t75) N (seti (mk0 (IntKind.i64.wrap ((x1.length : Int) + (1 : Int))) (zero .bool)) (0 : Int) true) (0 : Int))
      none)
    none
abbrev blob_fits_byte_sg (f : SV [.v (.sl .u8), .v (.sl .u8), .v (.clo 117 .un), .v (.clo 118 .un)] → BV [] → Option (Bool)) : AF := { ps := [.v (.sl .u8), .v (.sl .u8), .v (.clo 117 .un), .v (.clo 118 .un)], bs := [], rs := [.v .bool], cs := [], R := Bool, out := fun z => ((z, ()), ()), f := f }
abbrev blob_fits_byte_pk : SV [.v .bool] → BV [] → Bool := fun x _ => x.1
def blob_fits_byte_fn (N : Nat) : FuncId → Option Tmp → Option AF := fun f _ =>
  match f with
    | 117 => some (blob_partFits_1_sg fun x _ => blob_partFits_1 N x.1)
    | 118 => some (blob_partFits_2_sg fun x _ => blob_partFits_2 N x.1 x.2.1)
    | _ => none
theorem blob_fits_byte_fn_ok (N : Nat) : ∀ f q F, blob_fits_byte_fn N f q = some F → Sound Tryd.prog GW B0G f F := by
  intro f q F h
  unfold blob_fits_byte_fn at h
  split at h
  · cases h; exact blob_partFits_1_sound N
  · cases h; exact blob_partFits_2_sound N
  · cases h
def blob_fits_byte_h : Nat → Hint := fun i =>
  match i with
  | 0 => ⟨[9], [1, 2, 3, 9, 21, 22, 23], [], [1, 9], [], []⟩
  | 2 => ⟨[], [1, 2, 3, 9, 11, 12, 13, 21, 22, 23, 31, 32], [1029], [1, 2, 3, 9, 12, 21, 22, 23], [1029], []⟩
  | _ => ⟨[], [], [], [], [], []⟩
abbrev blob_fits_byte_E (N : Nat) : Env := mkE blob_fits_byte_h (blob_fits_byte_fn N) (fun i => match i with | 18 => true | 29 => true | _ => false) (fun _ => false)
abbrev blob_fits_byte_L1_fs : List (Nat × Sl) := [(1, .v (.sl .u8)), (2, .v (.clo 117 .un)), (3, .v (.clo 118 .un)), (9, .v (.sl .bool)), (11, .v .u8), (12, .row 1029), (13, .v .bool), (21, .v (.sl .u8)), (22, .v (.int .i64)), (23, .v (.int .i64)), (31, .v (.int .i64)), (32, .v (.int .i64))]
abbrev blob_fits_byte_L1_bs : List (Nat × Sb) := [(1029, .row 4 .bool true)]
def blob_fits_byte_L1_hd (x1 : List UInt8) (x2 : Unit) (x3 : Unit) (s9 : List Bool) (t25 : UInt8) (x0 : List UInt8) (c22 : Int) (s23 : Int) (c31 : Int) (s13 : Bool) (s32 : Int) (w1029 : List Bool) : St := ⟨77, [(1, .v (.sl .u8) x1), (2, .v (.clo 117 .un) x2), (3, .v (.clo 118 .un) x3), (9, .v (.sl .bool) s9), (11, .v .u8 t25), (12, .row 1029), (13, .v .bool s13), (21, .v (.sl .u8) x0), (22, .v (.int .i64) c22), (23, .v (.int .i64) s23), (31, .v (.int .i64) c31), (32, .v (.int .i64) s32)], [(1029, .row 4 .bool true w1029)]⟩
def blob_fits_byte_L1_tl2 (x1 : List UInt8) (x2 : Unit) (x3 : Unit) (s9 : List Bool) (_t25 : UInt8) (x0 : List UInt8) (c22 : Int) (s23 : Int) (_c31 : Int) (o1_w1029 : List Bool) : St := ⟨77, [(1, .v (.sl .u8) x1), (2, .v (.clo 117 .un) x2), (3, .v (.clo 118 .un) x3), (9, .v (.sl .bool) s9), (12, .row 1029), (21, .v (.sl .u8) x0), (22, .v (.int .i64) c22), (23, .v (.int .i64) s23)], [(1029, .row 4 .bool true o1_w1029)]⟩
def blob_fits_byte_L1_G (N : Nat) (x1 : List UInt8) (x2 : Unit) (x3 : Unit) (s9 : List Bool) (t25 : UInt8) (x0 : List UInt8) (c22 : Int) (s23 : Int) (c31 : Int) (s13 : Bool) (s32 : Int) (w1029 : List Bool) (k : Ex → St → Option Bool) : Option Bool :=
  blob_fits_byte_L1 N x1 s9 t25 c31 (fun o1_w1029 => k (.exit 2) (blob_fits_byte_L1_tl2 x1 x2 x3 s9 t25 x0 c22 s23 c31 o1_w1029)) N s13 s32 w1029
abbrev blob_fits_byte_L1_F (N : Nat) : FV blob_fits_byte_L1_fs → HV blob_fits_byte_L1_bs → (Ex → St → Option Bool) → Option Bool := fun x y k => blob_fits_byte_L1_G N x.1 x.2.1 x.2.2.1 x.2.2.2.1 x.2.2.2.2.1 x.2.2.2.2.2.2.2.1 x.2.2.2.2.2.2.2.2.1 x.2.2.2.2.2.2.2.2.2.1 x.2.2.2.2.2.2.2.2.2.2.1 x.2.2.2.2.2.2.1 x.2.2.2.2.2.2.2.2.2.2.2.1 y.1 k
abbrev blob_fits_byte_L0_fs : List (Nat × Sl) := [(1, .v (.sl .u8)), (2, .v (.clo 117 .un)), (3, .v (.clo 118 .un)), (9, .v (.sl .bool)), (21, .v (.sl .u8)), (22, .v (.int .i64)), (23, .v (.int .i64))]
abbrev blob_fits_byte_L0_bs : List (Nat × Sb) := []
def blob_fits_byte_L0_hd (x1 : List UInt8) (x2 : Unit) (x3 : Unit) (x0 : List UInt8) (c22 : Int) (s9 : List Bool) (s23 : Int) : St := ⟨77, [(1, .v (.sl .u8) x1), (2, .v (.clo 117 .un) x2), (3, .v (.clo 118 .un) x3), (9, .v (.sl .bool) s9), (21, .v (.sl .u8) x0), (22, .v (.int .i64) c22), (23, .v (.int .i64) s23)], []⟩
def blob_fits_byte_L0_tl0 (x1 : List UInt8) (_x2 : Unit) (_x3 : Unit) (_x0 : List UInt8) (_c22 : Int) (o0_9 : List Bool) : St := ⟨77, [(1, .v (.sl .u8) x1), (9, .v (.sl .bool) o0_9)], []⟩
def blob_fits_byte_L0_G (N : Nat) (x1 : List UInt8) (x2 : Unit) (x3 : Unit) (x0 : List UInt8) (c22 : Int) (s9 : List Bool) (s23 : Int) (k : Ex → St → Option Bool) : Option Bool :=
  blob_fits_byte_L0 N x1 x0 c22 (fun o0_9 => k (.exit 0) (blob_fits_byte_L0_tl0 x1 x2 x3 x0 c22 o0_9)) N s9 s23
abbrev blob_fits_byte_L0_F (N : Nat) : FV blob_fits_byte_L0_fs → HV blob_fits_byte_L0_bs → (Ex → St → Option Bool) → Option Bool := fun x _ k => blob_fits_byte_L0_G N x.1 x.2.1 x.2.2.1 x.2.2.2.2.1 x.2.2.2.2.2.1 x.2.2.2.1 x.2.2.2.2.2.2.1 k
noncomputable def blob_fits_byte_LP (N : Nat) : Nat → Code → St → (Ex → St → Option Bool) → Option Bool := fun i c =>
  match i with
  | 0 => (LPc 77 blob_fits_byte_L0_fs blob_fits_byte_L0_bs (blob_fits_byte_L0_F N) (fun st k => iter (blob_fits_byte_h 0) (exec (blob_fits_byte_E N) N c 0) N st k))
  | 2 => (LPc 77 blob_fits_byte_L1_fs blob_fits_byte_L1_bs (blob_fits_byte_L1_F N) (fun st k => iter (blob_fits_byte_h 2) (exec (blob_fits_byte_E N) N c 2) N st k))
  | i => fun st k => iter (blob_fits_byte_h i) (exec (blob_fits_byte_E N) N c i) N st k
theorem blob_fits_byte_L1_step (N : Nat) (x1 : List UInt8) (x2 : Unit) (x3 : Unit) (s9 : List Bool) (t25 : UInt8) (x0 : List UInt8) (c22 : Int) (s23 : Int) (c31 : Int) (KX : Nat → St → Option Bool) (I : St → Option Bool) (s13 : Bool) (s32 : Int) (w1029 : List Bool) :
    execL (blob_fits_byte_LP N) (blob_fits_byte_E N) (cAt (bodyOf Tryd.f116) [true, true, true, false, true, false, false, true, true, false, false, true, true, true, false, true, false, false]) 2 (blob_fits_byte_L1_hd x1 x2 x3 s9 t25 x0 c22 s23 c31 s13 s32 w1029) (roundK (blob_fits_byte_h 2) I KX (resD (blob_fits_byte_E N) Tryd.f116 (blob_fits_byte_sg fun x _ => blob_fits_byte N x.1 x.2.1 x.2.2.1 x.2.2.2.1) blob_fits_byte_pk)) = blob_fits_byte_L1T N x1 s9 t25 c31 (fun o1_w1029 => KX 2 (blob_fits_byte_L1_tl2 x1 x2 x3 s9 t25 x0 c22 s23 c31 o1_w1029)) (fun s13 s32 w1029 => I (blob_fits_byte_L1_hd x1 x2 x3 s9 t25 x0 c22 s23 c31 s13 s32 w1029)) s13 s32 w1029 := by kernel_rfl
theorem blob_fits_byte_L1_ok (N : Nat) : ∀ x y k, (∀ st, k .ret st = (resD (blob_fits_byte_E N) Tryd.f116 (blob_fits_byte_sg fun x _ => blob_fits_byte N x.1 x.2.1 x.2.2.1 x.2.2.2.1) blob_fits_byte_pk) st) → iter (blob_fits_byte_h 2) (exec (blob_fits_byte_E N) N (cAt (bodyOf Tryd.f116) [true, true, true, false, true, false, false, true, true, false, false, true, true, true, false, true, false, false]) 2) N ⟨77, unF blob_fits_byte_L1_fs x, unH blob_fits_byte_L1_bs y⟩ k = blob_fits_byte_L1_F N x y k := fun x y k hk =>
  iter_link (S := (Bool) × (Int) × (List Bool) × Unit) (blob_fits_byte_h 2) _ (execL (blob_fits_byte_LP N) (blob_fits_byte_E N) (cAt (bodyOf Tryd.f116) [true, true, true, false, true, false, false, true, true, false, false, true, true, true, false, true, false, false]) 2) (resD (blob_fits_byte_E N) Tryd.f116 (blob_fits_byte_sg fun x _ => blob_fits_byte N x.1 x.2.1 x.2.2.1 x.2.2.2.1) blob_fits_byte_pk) (fun st k hk => execL_eq _ _ N _ (cAt (bodyOf Tryd.f116) [true, true, true, false, true, false, false, true, true, false, false, true, true, true, false, true, false, false]) 2 (show LoopsOk (blob_fits_byte_LP N) (blob_fits_byte_E N) N (resD (blob_fits_byte_E N) Tryd.f116 (blob_fits_byte_sg fun x _ => blob_fits_byte N x.1 x.2.1 x.2.2.1 x.2.2.2.1) blob_fits_byte_pk) [] from trivial) st k hk) (fun s => blob_fits_byte_L1_hd x.1 x.2.1 x.2.2.1 x.2.2.2.1 x.2.2.2.2.1 x.2.2.2.2.2.2.2.1 x.2.2.2.2.2.2.2.2.1 x.2.2.2.2.2.2.2.2.2.1 x.2.2.2.2.2.2.2.2.2.2.1 s.1 s.2.1 s.2.2.1) k hk
    (fun self s => blob_fits_byte_L1T N x.1 x.2.2.2.1 x.2.2.2.2.1 x.2.2.2.2.2.2.2.2.2.2.1 (fun o1_w1029 => k (.exit 2) (blob_fits_byte_L1_tl2 x.1 x.2.1 x.2.2.1 x.2.2.2.1 x.2.2.2.2.1 x.2.2.2.2.2.2.2.1 x.2.2.2.2.2.2.2.2.1 x.2.2.2.2.2.2.2.2.2.1 x.2.2.2.2.2.2.2.2.2.2.1 o1_w1029)) (fun s13 s32 w1029 => self (s13, s32, w1029, ())) s.1 s.2.1 s.2.2.1) (fun n s => blob_fits_byte_L1 N x.1 x.2.2.2.1 x.2.2.2.2.1 x.2.2.2.2.2.2.2.2.2.2.1 (fun o1_w1029 => k (.exit 2) (blob_fits_byte_L1_tl2 x.1 x.2.1 x.2.2.1 x.2.2.2.1 x.2.2.2.2.1 x.2.2.2.2.2.2.2.1 x.2.2.2.2.2.2.2.2.1 x.2.2.2.2.2.2.2.2.2.1 x.2.2.2.2.2.2.2.2.2.2.1 o1_w1029)) n s.1 s.2.1 s.2.2.1) (fun _ => rfl) (fun _ _ => rfl)
    (fun I s => blob_fits_byte_L1_step N x.1 x.2.1 x.2.2.1 x.2.2.2.1 x.2.2.2.2.1 x.2.2.2.2.2.2.2.1 x.2.2.2.2.2.2.2.2.1 x.2.2.2.2.2.2.2.2.2.1 x.2.2.2.2.2.2.2.2.2.2.1 (fun j => k (.exit j)) I s.1 s.2.1 s.2.2.1) N (x.2.2.2.2.2.2.1, x.2.2.2.2.2.2.2.2.2.2.2.1, y.1, ())
theorem blob_fits_byte_lp2 (N : Nat) : ∀ st k, (∀ st, k .ret st = (resD (blob_fits_byte_E N) Tryd.f116 (blob_fits_byte_sg fun x _ => blob_fits_byte N x.1 x.2.1 x.2.2.1 x.2.2.2.1) blob_fits_byte_pk) st) → blob_fits_byte_LP N 2 (cAt (bodyOf Tryd.f116) [true, true, true, false, true, false, false, true, true, false, false, true, true, true, false, true, false, false]) st k = iter (Env.hint (blob_fits_byte_E N) 2) (exec (blob_fits_byte_E N) N (cAt (bodyOf Tryd.f116) [true, true, true, false, true, false, false, true, true, false, false, true, true, true, false, true, false, false]) 2) N st k := fun st k hk => LPc_eq 77 blob_fits_byte_L1_fs blob_fits_byte_L1_bs _ _ (resD (blob_fits_byte_E N) Tryd.f116 (blob_fits_byte_sg fun x _ => blob_fits_byte N x.1 x.2.1 x.2.2.1 x.2.2.2.1) blob_fits_byte_pk) (blob_fits_byte_L1_ok N) _ st k hk (rfl)
theorem blob_fits_byte_L0_step (N : Nat) (x1 : List UInt8) (x2 : Unit) (x3 : Unit) (x0 : List UInt8) (c22 : Int) (KX : Nat → St → Option Bool) (I : St → Option Bool) (s9 : List Bool) (s23 : Int) :
    execL (blob_fits_byte_LP N) (blob_fits_byte_E N) (cAt (bodyOf Tryd.f116) [true, true, true, false, true, false, false]) 0 (blob_fits_byte_L0_hd x1 x2 x3 x0 c22 s9 s23) (roundK (blob_fits_byte_h 0) I KX (resD (blob_fits_byte_E N) Tryd.f116 (blob_fits_byte_sg fun x _ => blob_fits_byte N x.1 x.2.1 x.2.2.1 x.2.2.2.1) blob_fits_byte_pk)) = blob_fits_byte_L0T N x1 x0 c22 (fun o0_9 => KX 0 (blob_fits_byte_L0_tl0 x1 x2 x3 x0 c22 o0_9)) (fun s9 s23 => I (blob_fits_byte_L0_hd x1 x2 x3 x0 c22 s9 s23)) s9 s23 := by kernel_rfl
theorem blob_fits_byte_L0_ok (N : Nat) : ∀ x y k, (∀ st, k .ret st = (resD (blob_fits_byte_E N) Tryd.f116 (blob_fits_byte_sg fun x _ => blob_fits_byte N x.1 x.2.1 x.2.2.1 x.2.2.2.1) blob_fits_byte_pk) st) → iter (blob_fits_byte_h 0) (exec (blob_fits_byte_E N) N (cAt (bodyOf Tryd.f116) [true, true, true, false, true, false, false]) 0) N ⟨77, unF blob_fits_byte_L0_fs x, unH blob_fits_byte_L0_bs y⟩ k = blob_fits_byte_L0_F N x y k := fun x _ k hk =>
  iter_link (S := (List Bool) × (Int) × Unit) (blob_fits_byte_h 0) _ (execL (blob_fits_byte_LP N) (blob_fits_byte_E N) (cAt (bodyOf Tryd.f116) [true, true, true, false, true, false, false]) 0) (resD (blob_fits_byte_E N) Tryd.f116 (blob_fits_byte_sg fun x _ => blob_fits_byte N x.1 x.2.1 x.2.2.1 x.2.2.2.1) blob_fits_byte_pk) (fun st k hk => execL_eq _ _ N _ (cAt (bodyOf Tryd.f116) [true, true, true, false, true, false, false]) 0 (show LoopsOk (blob_fits_byte_LP N) (blob_fits_byte_E N) N (resD (blob_fits_byte_E N) Tryd.f116 (blob_fits_byte_sg fun x _ => blob_fits_byte N x.1 x.2.1 x.2.2.1 x.2.2.2.1) blob_fits_byte_pk) [(2, (cAt (bodyOf Tryd.f116) [true, true, true, false, true, false, false, true, true, false, false, true, true, true, false, true, false, false]))] from ⟨blob_fits_byte_lp2 N, trivial⟩) st k hk) (fun s => blob_fits_byte_L0_hd x.1 x.2.1 x.2.2.1 x.2.2.2.2.1 x.2.2.2.2.2.1 s.1 s.2.1) k hk
    (fun self s => blob_fits_byte_L0T N x.1 x.2.2.2.2.1 x.2.2.2.2.2.1 (fun o0_9 => k (.exit 0) (blob_fits_byte_L0_tl0 x.1 x.2.1 x.2.2.1 x.2.2.2.2.1 x.2.2.2.2.2.1 o0_9)) (fun s9 s23 => self (s9, s23, ())) s.1 s.2.1) (fun n s => blob_fits_byte_L0 N x.1 x.2.2.2.2.1 x.2.2.2.2.2.1 (fun o0_9 => k (.exit 0) (blob_fits_byte_L0_tl0 x.1 x.2.1 x.2.2.1 x.2.2.2.2.1 x.2.2.2.2.2.1 o0_9)) n s.1 s.2.1) (fun _ => rfl) (fun _ _ => rfl)
    (fun I s => blob_fits_byte_L0_step N x.1 x.2.1 x.2.2.1 x.2.2.2.2.1 x.2.2.2.2.2.1 (fun j => k (.exit j)) I s.1 s.2.1) N (x.2.2.2.1, x.2.2.2.2.2.2.1, ())
theorem blob_fits_byte_lp0 (N : Nat) : ∀ st k, (∀ st, k .ret st = (resD (blob_fits_byte_E N) Tryd.f116 (blob_fits_byte_sg fun x _ => blob_fits_byte N x.1 x.2.1 x.2.2.1 x.2.2.2.1) blob_fits_byte_pk) st) → blob_fits_byte_LP N 0 (cAt (bodyOf Tryd.f116) [true, true, true, false, true, false, false]) st k = iter (Env.hint (blob_fits_byte_E N) 0) (exec (blob_fits_byte_E N) N (cAt (bodyOf Tryd.f116) [true, true, true, false, true, false, false]) 0) N st k := fun st k hk => LPc_eq 77 blob_fits_byte_L0_fs blob_fits_byte_L0_bs _ _ (resD (blob_fits_byte_E N) Tryd.f116 (blob_fits_byte_sg fun x _ => blob_fits_byte N x.1 x.2.1 x.2.2.1 x.2.2.2.1) blob_fits_byte_pk) (blob_fits_byte_L0_ok N) _ st k hk (rfl)
theorem blob_fits_byte_core (N : Nat) (x : SV [.v (.sl .u8), .v (.sl .u8), .v (.clo 117 .un), .v (.clo 118 .un)]) (y : BV []) : runL (blob_fits_byte_E N) Tryd.f116 (blob_fits_byte_sg fun x _ => blob_fits_byte N x.1 x.2.1 x.2.2.1 x.2.2.2.1) blob_fits_byte_pk (blob_fits_byte_LP N) x y = blob_fits_byte N x.1 x.2.1 x.2.2.1 x.2.2.2.1 := by kernel_rfl
theorem blob_fits_byte_sound (N : Nat) : Sound Tryd.prog GW B0G 116 (blob_fits_byte_sg fun x _ => blob_fits_byte N x.1 x.2.1 x.2.2.1 x.2.2.2.1) :=
  runD_sound (mkE_ok blob_fits_byte_h (blob_fits_byte_fn N) _ _ (blob_fits_byte_fn_ok N)) Tryd.func116 rfl Tryd.call116 (blob_fits_byte_sg fun x _ => blob_fits_byte N x.1 x.2.1 x.2.2.1 x.2.2.2.1) blob_fits_byte_pk (fun _ _ => rfl) N (fun x y _ h => ((runL_eq (blob_fits_byte_E N) N Tryd.f116 (blob_fits_byte_sg fun x _ => blob_fits_byte N x.1 x.2.1 x.2.2.1 x.2.2.2.1) blob_fits_byte_pk (blob_fits_byte_LP N) (show LoopsOk (blob_fits_byte_LP N) (blob_fits_byte_E N) N (resD (blob_fits_byte_E N) Tryd.f116 (blob_fits_byte_sg fun x _ => blob_fits_byte N x.1 x.2.1 x.2.2.1 x.2.2.2.1) blob_fits_byte_pk) [(0, (cAt (bodyOf Tryd.f116) [true, true, true, false, true, false, false])), (2, (cAt (bodyOf Tryd.f116) [true, true, true, false, true, false, false, true, true, false, false, true, true, true, false, true, false, false]))] from ⟨blob_fits_byte_lp0 N, blob_fits_byte_lp2 N, trivial⟩) x y).trans (blob_fits_byte_core N x y)).trans h)
def blob_partFits (N : Nat) (x0 : Str) (x1 : Str) : Option Bool :=
  br (decide (x0.length * 24 ≤ 140737488355328))
    (br (decide (x1.length * 24 ≤ 140737488355328))
      (bnd (blob_fits_byte N x0 x1 () ()) fun t9 =>
      some t9)
      none)
    none
abbrev blob_partFits_sg (f : SV [.v .str, .v .str] → BV [] → Option (Bool)) : AF := { ps := [.v .str, .v .str], bs := [], rs := [.v .bool], cs := [], R := Bool, out := fun z => ((z, ()), ()), f := f }
abbrev blob_partFits_pk : SV [.v .bool] → BV [] → Bool := fun x _ => x.1
def blob_partFits_fn (N : Nat) : FuncId → Option Tmp → Option AF := fun f _ =>
  match f with
    | 116 => some (blob_fits_byte_sg fun x _ => blob_fits_byte N x.1 x.2.1 x.2.2.1 x.2.2.2.1)
    | _ => none
theorem blob_partFits_fn_ok (N : Nat) : ∀ f q F, blob_partFits_fn N f q = some F → Sound Tryd.prog GW B0G f F := by
  intro f q F h
  unfold blob_partFits_fn at h
  split at h
  · cases h; exact blob_fits_byte_sound N
  · cases h
def blob_partFits_h : Nat → Hint := fun i =>
  match i with
  | _ => ⟨[], [], [], [], [], []⟩
abbrev blob_partFits_E (N : Nat) : Env := mkE blob_partFits_h (blob_partFits_fn N) (fun _ => false) (fun _ => false)
noncomputable def blob_partFits_LP (N : Nat) : Nat → Code → St → (Ex → St → Option Bool) → Option Bool := fun i c =>
  match i with
  | i => fun st k => iter (blob_partFits_h i) (exec (blob_partFits_E N) N c i) N st k
theorem blob_partFits_core (N : Nat) (x : SV [.v .str, .v .str]) (y : BV []) : runL (blob_partFits_E N) Tryd.f85 (blob_partFits_sg fun x _ => blob_partFits N x.1 x.2.1) blob_partFits_pk (blob_partFits_LP N) x y = blob_partFits N x.1 x.2.1 := by kernel_rfl
theorem blob_partFits_sound (N : Nat) : Sound Tryd.prog GW B0G 85 (blob_partFits_sg fun x _ => blob_partFits N x.1 x.2.1) :=
  runD_sound (mkE_ok blob_partFits_h (blob_partFits_fn N) _ _ (blob_partFits_fn_ok N)) Tryd.func85 rfl Tryd.call85 (blob_partFits_sg fun x _ => blob_partFits N x.1 x.2.1) blob_partFits_pk (fun _ _ => rfl) N (fun x y _ h => ((runL_eq (blob_partFits_E N) N Tryd.f85 (blob_partFits_sg fun x _ => blob_partFits N x.1 x.2.1) blob_partFits_pk (blob_partFits_LP N) (show LoopsOk (blob_partFits_LP N) (blob_partFits_E N) N (resD (blob_partFits_E N) Tryd.f85 (blob_partFits_sg fun x _ => blob_partFits N x.1 x.2.1) blob_partFits_pk) [] from trivial) x y).trans (blob_partFits_core N x y)).trans h)
def blob_fits_string_L1T (N : Nat) (x1 : List Str) (s9 : List Bool) (t25 : Str) (c31 : Int) (k2 : (List Bool) → Option Bool) (self : Bool → Int → (List Bool) → Option Bool) (s13 : Bool) (s32 : Int) (w1029 : List Bool) : Option Bool :=
  br (decide (s32 < c31))
    (bnd (blob_pathFits_1 N t25) fun t37 =>
    br (t37)
      (br (s13)
        (br (decide (0 ≤ s32 ∧ s32 < (w1029.length : Int)))
          (bnd (geti w1029 s32) fun _ =>
          self true (IntKind.i64.wrap (s32 + (1 : Int))) (seti w1029 s32 true))
          none)
        (bnd (geti s9 s32) fun t42 =>
        br (decide (0 ≤ s32 ∧ s32 < (w1029.length : Int)))
          (bnd (geti w1029 s32) fun _ =>
          self t42 (IntKind.i64.wrap (s32 + (1 : Int))) (seti w1029 s32 t42))
          none))
      (br (decide (s32 > (0 : Int)))
        (bnd (geti s9 (IntKind.i64.wrap (s32 - (1 : Int)))) fun t56 =>
        br (t56)
          (bnd (geti x1 (IntKind.i64.wrap (s32 - (1 : Int)))) fun t64 =>
          bnd (blob_partFits N t25 t64) fun t66 =>
          br (decide (0 ≤ s32 ∧ s32 < (w1029.length : Int)))
            (bnd (geti w1029 s32) fun _ =>
            self s13 (IntKind.i64.wrap (s32 + (1 : Int))) (seti w1029 s32 t66))
            none)
          (br (decide (0 ≤ s32 ∧ s32 < (w1029.length : Int)))
            (bnd (geti w1029 s32) fun _ =>
            self s13 (IntKind.i64.wrap (s32 + (1 : Int))) (seti w1029 s32 false))
            none))
        (self s13 (IntKind.i64.wrap (s32 + (1 : Int))) w1029)))
    (k2 w1029)
def blob_fits_string_L1 (N : Nat) (x1 : List Str) (s9 : List Bool) (t25 : Str) (c31 : Int) (k2 : (List Bool) → Option Bool) : Nat → Bool → Int → (List Bool) → Option Bool
  | 0, _, _, _ => none
  | n + 1, s13, s32, w1029 => blob_fits_string_L1T N x1 s9 t25 c31 k2 (blob_fits_string_L1 N x1 s9 t25 c31 k2 n) s13 s32 w1029
def blob_fits_string_L0T (N : Nat) (x1 : List Str) (x0 : List Str) (c22 : Int) (k0 : (List Bool) → Option Bool) (self : (List Bool) → Int → Option Bool) (s9 : List Bool) (s23 : Int) : Option Bool :=
  br (decide (s23 < c22))
    (bnd (geti x0 s23) fun t25 =>
    br (decide (0 ≤ (s9.length : Int) ∧ (s9.length : Int) ≤ (s9.length : Int) ∧ (s9.length : Int) * (24 * Ty.sz .bool : Nat) ≤ 140737488355328))
      (blob_fits_string_L1 N x1 s9 t25 (s9.length : Int) (fun o1_w1029 =>
          self o1_w1029 (IntKind.i64.wrap (s23 + (1 : Int)))) N false (0 : Int) (mk0 (s9.length : Int) (zero .bool)))
      none)
    (k0 s9)
def blob_fits_string_L0 (N : Nat) (x1 : List Str) (x0 : List Str) (c22 : Int) (k0 : (List Bool) → Option Bool) : Nat → (List Bool) → Int → Option Bool
  | 0, _, _ => none
  | n + 1, s9, s23 => blob_fits_string_L0T N x1 x0 c22 k0 (blob_fits_string_L0 N x1 x0 c22 k0 n) s9 s23
def blob_fits_string (N : Nat) (x0 : List Str) (x1 : List Str) (_x2 : Unit) (_x3 : Unit) : Option Bool :=
  br (decide (0 ≤ (IntKind.i64.wrap ((x1.length : Int) + (1 : Int))) ∧ (IntKind.i64.wrap ((x1.length : Int) + (1 : Int))) ≤ (IntKind.i64.wrap ((x1.length : Int) + (1 : Int))) ∧ (IntKind.i64.wrap ((x1.length : Int) + (1 : Int))) * (24 * Ty.sz .bool : Nat) ≤ 140737488355328))
    (br (decide (0 ≤ (0 : Int) ∧ (0 : Int) < ((mk0 (IntKind.i64.wrap ((x1.length : Int) + (1 : Int))) (zero .bool)).length : Int)))
      (bnd (geti (mk0 (IntKind.i64.wrap ((x1.length : Int) + (1 : Int))) (zero .bool)) (0 : Int)) fun _ =>
      blob_fits_string_L0 N x1 x0 (x0.length : Int) (fun o0_9 =>
          bnd (geti o0_9 (x1.length : Int)) fun t75 =>
          some t75) N (seti (mk0 (IntKind.i64.wrap ((x1.length : Int) + (1 : Int))) (zero .bool)) (0 : Int) true) (0 : Int))
      none)
    none
abbrev blob_fits_string_sg (f : SV [.v (.sl .str), .v (.sl .str), .v (.clo 84 .un), .v (.clo 85 .un)] → BV [] → Option (Bool)) : AF := { ps := [.v (.sl .str), .v (.sl .str), .v (.clo 84 .un), .v (.clo 85 .un)], bs := [], rs := [.v .bool], cs := [], R := Bool, out := fun z => ((z, ()), ()), f := f }
abbrev blob_fits_string_pk : SV [.v .bool] → BV [] → Bool := fun x _ => x.1
def blob_fits_string_fn (N : Nat) : FuncId → Option Tmp → Option AF := fun f _ =>
  match f with
    | 84 => some (blob_pathFits_1_sg fun x _ => blob_pathFits_1 N x.1)
    | 85 => some (blob_partFits_sg fun x _ => blob_partFits N x.1 x.2.1)
    | _ => none
theorem blob_fits_string_fn_ok (N : Nat) : ∀ f q F, blob_fits_string_fn N f q = some F → Sound Tryd.prog GW B0G f F := by
  intro f q F h
  unfold blob_fits_string_fn at h
  split at h
  · cases h; exact blob_pathFits_1_sound N
  · cases h; exact blob_partFits_sound N
  · cases h
def blob_fits_string_h : Nat → Hint := fun i =>
  match i with
  | 0 => ⟨[9], [1, 2, 3, 9, 21, 22, 23], [], [1, 9], [], []⟩
  | 2 => ⟨[], [1, 2, 3, 9, 11, 12, 13, 21, 22, 23, 31, 32], [1029], [1, 2, 3, 9, 12, 21, 22, 23], [1029], []⟩
  | _ => ⟨[], [], [], [], [], []⟩
abbrev blob_fits_string_E (N : Nat) : Env := mkE blob_fits_string_h (blob_fits_string_fn N) (fun i => match i with | 18 => true | 29 => true | _ => false) (fun _ => false)
abbrev blob_fits_string_L1_fs : List (Nat × Sl) := [(1, .v (.sl .str)), (2, .v (.clo 84 .un)), (3, .v (.clo 85 .un)), (9, .v (.sl .bool)), (11, .v .str), (12, .row 1029), (13, .v .bool), (21, .v (.sl .str)), (22, .v (.int .i64)), (23, .v (.int .i64)), (31, .v (.int .i64)), (32, .v (.int .i64))]
abbrev blob_fits_string_L1_bs : List (Nat × Sb) := [(1029, .row 4 .bool true)]
def blob_fits_string_L1_hd (x1 : List Str) (x2 : Unit) (x3 : Unit) (s9 : List Bool) (t25 : Str) (x0 : List Str) (c22 : Int) (s23 : Int) (c31 : Int) (s13 : Bool) (s32 : Int) (w1029 : List Bool) : St := ⟨77, [(1, .v (.sl .str) x1), (2, .v (.clo 84 .un) x2), (3, .v (.clo 85 .un) x3), (9, .v (.sl .bool) s9), (11, .v .str t25), (12, .row 1029), (13, .v .bool s13), (21, .v (.sl .str) x0), (22, .v (.int .i64) c22), (23, .v (.int .i64) s23), (31, .v (.int .i64) c31), (32, .v (.int .i64) s32)], [(1029, .row 4 .bool true w1029)]⟩
def blob_fits_string_L1_tl2 (x1 : List Str) (x2 : Unit) (x3 : Unit) (s9 : List Bool) (_t25 : Str) (x0 : List Str) (c22 : Int) (s23 : Int) (_c31 : Int) (o1_w1029 : List Bool) : St := ⟨77, [(1, .v (.sl .str) x1), (2, .v (.clo 84 .un) x2), (3, .v (.clo 85 .un) x3), (9, .v (.sl .bool) s9), (12, .row 1029), (21, .v (.sl .str) x0), (22, .v (.int .i64) c22), (23, .v (.int .i64) s23)], [(1029, .row 4 .bool true o1_w1029)]⟩
def blob_fits_string_L1_G (N : Nat) (x1 : List Str) (x2 : Unit) (x3 : Unit) (s9 : List Bool) (t25 : Str) (x0 : List Str) (c22 : Int) (s23 : Int) (c31 : Int) (s13 : Bool) (s32 : Int) (w1029 : List Bool) (k : Ex → St → Option Bool) : Option Bool :=
  blob_fits_string_L1 N x1 s9 t25 c31 (fun o1_w1029 => k (.exit 2) (blob_fits_string_L1_tl2 x1 x2 x3 s9 t25 x0 c22 s23 c31 o1_w1029)) N s13 s32 w1029
abbrev blob_fits_string_L1_F (N : Nat) : FV blob_fits_string_L1_fs → HV blob_fits_string_L1_bs → (Ex → St → Option Bool) → Option Bool := fun x y k => blob_fits_string_L1_G N x.1 x.2.1 x.2.2.1 x.2.2.2.1 x.2.2.2.2.1 x.2.2.2.2.2.2.2.1 x.2.2.2.2.2.2.2.2.1 x.2.2.2.2.2.2.2.2.2.1 x.2.2.2.2.2.2.2.2.2.2.1 x.2.2.2.2.2.2.1 x.2.2.2.2.2.2.2.2.2.2.2.1 y.1 k
abbrev blob_fits_string_L0_fs : List (Nat × Sl) := [(1, .v (.sl .str)), (2, .v (.clo 84 .un)), (3, .v (.clo 85 .un)), (9, .v (.sl .bool)), (21, .v (.sl .str)), (22, .v (.int .i64)), (23, .v (.int .i64))]
abbrev blob_fits_string_L0_bs : List (Nat × Sb) := []
def blob_fits_string_L0_hd (x1 : List Str) (x2 : Unit) (x3 : Unit) (x0 : List Str) (c22 : Int) (s9 : List Bool) (s23 : Int) : St := ⟨77, [(1, .v (.sl .str) x1), (2, .v (.clo 84 .un) x2), (3, .v (.clo 85 .un) x3), (9, .v (.sl .bool) s9), (21, .v (.sl .str) x0), (22, .v (.int .i64) c22), (23, .v (.int .i64) s23)], []⟩
def blob_fits_string_L0_tl0 (x1 : List Str) (_x2 : Unit) (_x3 : Unit) (_x0 : List Str) (_c22 : Int) (o0_9 : List Bool) : St := ⟨77, [(1, .v (.sl .str) x1), (9, .v (.sl .bool) o0_9)], []⟩
def blob_fits_string_L0_G (N : Nat) (x1 : List Str) (x2 : Unit) (x3 : Unit) (x0 : List Str) (c22 : Int) (s9 : List Bool) (s23 : Int) (k : Ex → St → Option Bool) : Option Bool :=
  blob_fits_string_L0 N x1 x0 c22 (fun o0_9 => k (.exit 0) (blob_fits_string_L0_tl0 x1 x2 x3 x0 c22 o0_9)) N s9 s23
abbrev blob_fits_string_L0_F (N : Nat) : FV blob_fits_string_L0_fs → HV blob_fits_string_L0_bs → (Ex → St → Option Bool) → Option Bool := fun x _ k => blob_fits_string_L0_G N x.1 x.2.1 x.2.2.1 x.2.2.2.2.1 x.2.2.2.2.2.1 x.2.2.2.1 x.2.2.2.2.2.2.1 k
noncomputable def blob_fits_string_LP (N : Nat) : Nat → Code → St → (Ex → St → Option Bool) → Option Bool := fun i c =>
  match i with
  | 0 => (LPc 77 blob_fits_string_L0_fs blob_fits_string_L0_bs (blob_fits_string_L0_F N) (fun st k => iter (blob_fits_string_h 0) (exec (blob_fits_string_E N) N c 0) N st k))
  | 2 => (LPc 77 blob_fits_string_L1_fs blob_fits_string_L1_bs (blob_fits_string_L1_F N) (fun st k => iter (blob_fits_string_h 2) (exec (blob_fits_string_E N) N c 2) N st k))
  | i => fun st k => iter (blob_fits_string_h i) (exec (blob_fits_string_E N) N c i) N st k
theorem blob_fits_string_L1_step (N : Nat) (x1 : List Str) (x2 : Unit) (x3 : Unit) (s9 : List Bool) (t25 : Str) (x0 : List Str) (c22 : Int) (s23 : Int) (c31 : Int) (KX : Nat → St → Option Bool) (I : St → Option Bool) (s13 : Bool) (s32 : Int) (w1029 : List Bool) :
    execL (blob_fits_string_LP N) (blob_fits_string_E N) (cAt (bodyOf Tryd.f83) [true, true, true, false, true, false, false, true, true, false, false, true, true, true, false, true, false, false]) 2 (blob_fits_string_L1_hd x1 x2 x3 s9 t25 x0 c22 s23 c31 s13 s32 w1029) (roundK (blob_fits_string_h 2) I KX (resD (blob_fits_string_E N) Tryd.f83 (blob_fits_string_sg fun x _ => blob_fits_string N x.1 x.2.1 x.2.2.1 x.2.2.2.1) blob_fits_string_pk)) = blob_fits_string_L1T N x1 s9 t25 c31 (fun o1_w1029 => KX 2 (blob_fits_string_L1_tl2 x1 x2 x3 s9 t25 x0 c22 s23 c31 o1_w1029)) (fun s13 s32 w1029 => I (blob_fits_string_L1_hd x1 x2 x3 s9 t25 x0 c22 s23 c31 s13 s32 w1029)) s13 s32 w1029 := by kernel_rfl
theorem blob_fits_string_L1_ok (N : Nat) : ∀ x y k, (∀ st, k .ret st = (resD (blob_fits_string_E N) Tryd.f83 (blob_fits_string_sg fun x _ => blob_fits_string N x.1 x.2.1 x.2.2.1 x.2.2.2.1) blob_fits_string_pk) st) → iter (blob_fits_string_h 2) (exec (blob_fits_string_E N) N (cAt (bodyOf Tryd.f83) [true, true, true, false, true, false, false, true, true, false, false, true, true, true, false, true, false, false]) 2) N ⟨77, unF blob_fits_string_L1_fs x, unH blob_fits_string_L1_bs y⟩ k = blob_fits_string_L1_F N x y k := fun x y k hk =>
  iter_link (S := (Bool) × (Int) × (List Bool) × Unit) (blob_fits_string_h 2) _ (execL (blob_fits_string_LP N) (blob_fits_string_E N) (cAt (bodyOf Tryd.f83) [true, true, true, false, true, false, false, true, true, false, false, true, true, true, false, true, false, false]) 2) (resD (blob_fits_string_E N) Tryd.f83 (blob_fits_string_sg fun x _ => blob_fits_string N x.1 x.2.1 x.2.2.1 x.2.2.2.1) blob_fits_string_pk) (fun st k hk => execL_eq _ _ N _ (cAt (bodyOf Tryd.f83) [true, true, true, false, true, false, false, true, true, false, false, true, true, true, false, true, false, false]) 2 (show LoopsOk (blob_fits_string_LP N) (blob_fits_string_E N) N (resD (blob_fits_string_E N) Tryd.f83 (blob_fits_string_sg fun x _ => blob_fits_string N x.1 x.2.1 x.2.2.1 x.2.2.2.1) blob_fits_string_pk) [] from trivial) st k hk) (fun s => blob_fits_string_L1_hd x.1 x.2.1 x.2.2.1 x.2.2.2.1 x.2.2.2.2.1 x.2.2.2.2.2.2.2.1 x.2.2.2.2.2.2.2.2.1 x.2.2.2.2.2.2.2.2.2.1 x.2.2.2.2.2.2.2.2.2.2.1 s.1 s.2.1 s.2.2.1) k hk
    (fun self s => blob_fits_string_L1T N x.1 x.2.2.2.1 x.2.2.2.2.1 x.2.2.2.2.2.2.2.2.2.2.1 (fun o1_w1029 => k (.exit 2) (blob_fits_string_L1_tl2 x.1 x.2.1 x.2.2.1 x.2.2.2.1 x.2.2.2.2.1 x.2.2.2.2.2.2.2.1 x.2.2.2.2.2.2.2.2.1 x.2.2.2.2.2.2.2.2.2.1 x.2.2.2.2.2.2.2.2.2.2.1 o1_w1029)) (fun s13 s32 w1029 => self (s13, s32, w1029, ())) s.1 s.2.1 s.2.2.1) (fun n s => blob_fits_string_L1 N x.1 x.2.2.2.1 x.2.2.2.2.1 x.2.2.2.2.2.2.2.2.2.2.1 (fun o1_w1029 => k (.exit 2) (blob_fits_string_L1_tl2 x.1 x.2.1 x.2.2.1 x.2.2.2.1 x.2.2.2.2.1 x.2.2.2.2.2.2.2.1 x.2.2.2.2.2.2.2.2.1 x.2.2.2.2.2.2.2.2.2.1 x.2.2.2.2.2.2.2.2.2.2.1 o1_w1029)) n s.1 s.2.1 s.2.2.1) (fun _ => rfl) (fun _ _ => rfl)
    (fun I s => blob_fits_string_L1_step N x.1 x.2.1 x.2.2.1 x.2.2.2.1 x.2.2.2.2.1 x.2.2.2.2.2.2.2.1 x.2.2.2.2.2.2.2.2.1 x.2.2.2.2.2.2.2.2.2.1 x.2.2.2.2.2.2.2.2.2.2.1 (fun j => k (.exit j)) I s.1 s.2.1 s.2.2.1) N (x.2.2.2.2.2.2.1, x.2.2.2.2.2.2.2.2.2.2.2.1, y.1, ())
theorem blob_fits_string_lp2 (N : Nat) : ∀ st k, (∀ st, k .ret st = (resD (blob_fits_string_E N) Tryd.f83 (blob_fits_string_sg fun x _ => blob_fits_string N x.1 x.2.1 x.2.2.1 x.2.2.2.1) blob_fits_string_pk) st) → blob_fits_string_LP N 2 (cAt (bodyOf Tryd.f83) [true, true, true, false, true, false, false, true, true, false, false, true, true, true, false, true, false, false]) st k = iter (Env.hint (blob_fits_string_E N) 2) (exec (blob_fits_string_E N) N (cAt (bodyOf Tryd.f83) [true, true, true, false, true, false, false, true, true, false, false, true, true, true, false, true, false, false]) 2) N st k := fun st k hk => LPc_eq 77 blob_fits_string_L1_fs blob_fits_string_L1_bs _ _ (resD (blob_fits_string_E N) Tryd.f83 (blob_fits_string_sg fun x _ => blob_fits_string N x.1 x.2.1 x.2.2.1 x.2.2.2.1) blob_fits_string_pk) (blob_fits_string_L1_ok N) _ st k hk (rfl)
theorem blob_fits_string_L0_step (N : Nat) (x1 : List Str) (x2 : Unit) (x3 : Unit) (x0 : List Str) (c22 : Int) (KX : Nat → St → Option Bool) (I : St → Option Bool) (s9 : List Bool) (s23 : Int) :
    execL (blob_fits_string_LP N) (blob_fits_string_E N) (cAt (bodyOf Tryd.f83) [true, true, true, false, true, false, false]) 0 (blob_fits_string_L0_hd x1 x2 x3 x0 c22 s9 s23) (roundK (blob_fits_string_h 0) I KX (resD (blob_fits_string_E N) Tryd.f83 (blob_fits_string_sg fun x _ => blob_fits_string N x.1 x.2.1 x.2.2.1 x.2.2.2.1) blob_fits_string_pk)) = blob_fits_string_L0T N x1 x0 c22 (fun o0_9 => KX 0 (blob_fits_string_L0_tl0 x1 x2 x3 x0 c22 o0_9)) (fun s9 s23 => I (blob_fits_string_L0_hd x1 x2 x3 x0 c22 s9 s23)) s9 s23 := by kernel_rfl
theorem blob_fits_string_L0_ok (N : Nat) : ∀ x y k, (∀ st, k .ret st = (resD (blob_fits_string_E N) Tryd.f83 (blob_fits_string_sg fun x _ => blob_fits_string N x.1 x.2.1 x.2.2.1 x.2.2.2.1) blob_fits_string_pk) st) → iter (blob_fits_string_h 0) (exec (blob_fits_string_E N) N (cAt (bodyOf Tryd.f83) [true, true, true, false, true, false, false]) 0) N ⟨77, unF blob_fits_string_L0_fs x, unH blob_fits_string_L0_bs y⟩ k = blob_fits_string_L0_F N x y k := fun x _ k hk =>
  iter_link (S := (List Bool) × (Int) × Unit) (blob_fits_string_h 0) _ (execL (blob_fits_string_LP N) (blob_fits_string_E N) (cAt (bodyOf Tryd.f83) [true, true, true, false, true, false, false]) 0) (resD (blob_fits_string_E N) Tryd.f83 (blob_fits_string_sg fun x _ => blob_fits_string N x.1 x.2.1 x.2.2.1 x.2.2.2.1) blob_fits_string_pk) (fun st k hk => execL_eq _ _ N _ (cAt (bodyOf Tryd.f83) [true, true, true, false, true, false, false]) 0 (show LoopsOk (blob_fits_string_LP N) (blob_fits_string_E N) N (resD (blob_fits_string_E N) Tryd.f83 (blob_fits_string_sg fun x _ => blob_fits_string N x.1 x.2.1 x.2.2.1 x.2.2.2.1) blob_fits_string_pk) [(2, (cAt (bodyOf Tryd.f83) [true, true, true, false, true, false, false, true, true, false, false, true, true, true, false, true, false, false]))] from ⟨blob_fits_string_lp2 N, trivial⟩) st k hk) (fun s => blob_fits_string_L0_hd x.1 x.2.1 x.2.2.1 x.2.2.2.2.1 x.2.2.2.2.2.1 s.1 s.2.1) k hk
    (fun self s => blob_fits_string_L0T N x.1 x.2.2.2.2.1 x.2.2.2.2.2.1 (fun o0_9 => k (.exit 0) (blob_fits_string_L0_tl0 x.1 x.2.1 x.2.2.1 x.2.2.2.2.1 x.2.2.2.2.2.1 o0_9)) (fun s9 s23 => self (s9, s23, ())) s.1 s.2.1) (fun n s => blob_fits_string_L0 N x.1 x.2.2.2.2.1 x.2.2.2.2.2.1 (fun o0_9 => k (.exit 0) (blob_fits_string_L0_tl0 x.1 x.2.1 x.2.2.1 x.2.2.2.2.1 x.2.2.2.2.2.1 o0_9)) n s.1 s.2.1) (fun _ => rfl) (fun _ _ => rfl)
    (fun I s => blob_fits_string_L0_step N x.1 x.2.1 x.2.2.1 x.2.2.2.2.1 x.2.2.2.2.2.1 (fun j => k (.exit j)) I s.1 s.2.1) N (x.2.2.2.1, x.2.2.2.2.2.2.1, ())
theorem blob_fits_string_lp0 (N : Nat) : ∀ st k, (∀ st, k .ret st = (resD (blob_fits_string_E N) Tryd.f83 (blob_fits_string_sg fun x _ => blob_fits_string N x.1 x.2.1 x.2.2.1 x.2.2.2.1) blob_fits_string_pk) st) → blob_fits_string_LP N 0 (cAt (bodyOf Tryd.f83) [true, true, true, false, true, false, false]) st k = iter (Env.hint (blob_fits_string_E N) 0) (exec (blob_fits_string_E N) N (cAt (bodyOf Tryd.f83) [true, true, true, false, true, false, false]) 0) N st k := fun st k hk => LPc_eq 77 blob_fits_string_L0_fs blob_fits_string_L0_bs _ _ (resD (blob_fits_string_E N) Tryd.f83 (blob_fits_string_sg fun x _ => blob_fits_string N x.1 x.2.1 x.2.2.1 x.2.2.2.1) blob_fits_string_pk) (blob_fits_string_L0_ok N) _ st k hk (rfl)
theorem blob_fits_string_core (N : Nat) (x : SV [.v (.sl .str), .v (.sl .str), .v (.clo 84 .un), .v (.clo 85 .un)]) (y : BV []) : runL (blob_fits_string_E N) Tryd.f83 (blob_fits_string_sg fun x _ => blob_fits_string N x.1 x.2.1 x.2.2.1 x.2.2.2.1) blob_fits_string_pk (blob_fits_string_LP N) x y = blob_fits_string N x.1 x.2.1 x.2.2.1 x.2.2.2.1 := by kernel_rfl
theorem blob_fits_string_sound (N : Nat) : Sound Tryd.prog GW B0G 83 (blob_fits_string_sg fun x _ => blob_fits_string N x.1 x.2.1 x.2.2.1 x.2.2.2.1) :=
  runD_sound (mkE_ok blob_fits_string_h (blob_fits_string_fn N) _ _ (blob_fits_string_fn_ok N)) Tryd.func83 rfl Tryd.call83 (blob_fits_string_sg fun x _ => blob_fits_string N x.1 x.2.1 x.2.2.1 x.2.2.2.1) blob_fits_string_pk (fun _ _ => rfl) N (fun x y _ h => ((runL_eq (blob_fits_string_E N) N Tryd.f83 (blob_fits_string_sg fun x _ => blob_fits_string N x.1 x.2.1 x.2.2.1 x.2.2.2.1) blob_fits_string_pk (blob_fits_string_LP N) (show LoopsOk (blob_fits_string_LP N) (blob_fits_string_E N) N (resD (blob_fits_string_E N) Tryd.f83 (blob_fits_string_sg fun x _ => blob_fits_string N x.1 x.2.1 x.2.2.1 x.2.2.2.1) blob_fits_string_pk) [(0, (cAt (bodyOf Tryd.f83) [true, true, true, false, true, false, false])), (2, (cAt (bodyOf Tryd.f83) [true, true, true, false, true, false, false, true, true, false, false, true, true, true, false, true, false, false]))] from ⟨blob_fits_string_lp0 N, blob_fits_string_lp2 N, trivial⟩) x y).trans (blob_fits_string_core N x y)).trans h)
def blob_pathFits (N : Nat) (x0 : Str) (x1 : Str) : Option Bool :=
  bnd (strings_Split x0 ([47] : Str)) fun t6 =>
  bnd (strings_Split x1 ([47] : Str)) fun t8 =>
  bnd (blob_fits_string N t6 t8 () ()) fun t9 =>
  some t9
abbrev blob_pathFits_sg (f : SV [.v .str, .v .str] → BV [] → Option (Bool)) : AF := { ps := [.v .str, .v .str], bs := [], rs := [.v .bool], cs := [], R := Bool, out := fun z => ((z, ()), ()), f := f }
abbrev blob_pathFits_pk : SV [.v .bool] → BV [] → Bool := fun x _ => x.1
def blob_pathFits_fn (N : Nat) : FuncId → Option Tmp → Option AF := fun f _ =>
  match f with
    | 42 => some (strings_Split_sg fun x _ => strings_Split x.1 x.2.1)
    | 83 => some (blob_fits_string_sg fun x _ => blob_fits_string N x.1 x.2.1 x.2.2.1 x.2.2.2.1)
    | _ => none
theorem blob_pathFits_fn_ok (N : Nat) : ∀ f q F, blob_pathFits_fn N f q = some F → Sound Tryd.prog GW B0G f F := by
  intro f q F h
  unfold blob_pathFits_fn at h
  split at h
  · cases h; exact strings_Split_sound
  · cases h; exact blob_fits_string_sound N
  · cases h
def blob_pathFits_h : Nat → Hint := fun i =>
  match i with
  | _ => ⟨[], [], [], [], [], []⟩
abbrev blob_pathFits_E (N : Nat) : Env := mkE blob_pathFits_h (blob_pathFits_fn N) (fun _ => false) (fun _ => false)
noncomputable def blob_pathFits_LP (N : Nat) : Nat → Code → St → (Ex → St → Option Bool) → Option Bool := fun i c =>
  match i with
  | i => fun st k => iter (blob_pathFits_h i) (exec (blob_pathFits_E N) N c i) N st k
theorem blob_pathFits_core (N : Nat) (x : SV [.v .str, .v .str]) (y : BV []) : runL (blob_pathFits_E N) Tryd.f39 (blob_pathFits_sg fun x _ => blob_pathFits N x.1 x.2.1) blob_pathFits_pk (blob_pathFits_LP N) x y = blob_pathFits N x.1 x.2.1 := by kernel_rfl
theorem blob_pathFits_sound (N : Nat) : Sound Tryd.prog GW B0G 39 (blob_pathFits_sg fun x _ => blob_pathFits N x.1 x.2.1) :=
  runD_sound (mkE_ok blob_pathFits_h (blob_pathFits_fn N) _ _ (blob_pathFits_fn_ok N)) Tryd.func39 rfl Tryd.call39 (blob_pathFits_sg fun x _ => blob_pathFits N x.1 x.2.1) blob_pathFits_pk (fun _ _ => rfl) N (fun x y _ h => ((runL_eq (blob_pathFits_E N) N Tryd.f39 (blob_pathFits_sg fun x _ => blob_pathFits N x.1 x.2.1) blob_pathFits_pk (blob_pathFits_LP N) (show LoopsOk (blob_pathFits_LP N) (blob_pathFits_E N) N (resD (blob_pathFits_E N) Tryd.f39 (blob_pathFits_sg fun x _ => blob_pathFits N x.1 x.2.1) blob_pathFits_pk) [] from trivial) x y).trans (blob_pathFits_core N x y)).trans h)
def ref1_within (_N : Nat) (x0 : Int) (x1 : Int) (x2 : Int) : Option Bool :=
  br (decide (x0 ≥ x1))
    (some (decide (x0 ≤ x2)))
    (some false)
abbrev ref1_within_sg (f : SV [.v (.int .i64), .v (.int .i64), .v (.int .i64)] → BV [] → Option (Bool)) : AF := { ps := [.v (.int .i64), .v (.int .i64), .v (.int .i64)], bs := [], rs := [.v .bool], cs := [], R := Bool, out := fun z => ((z, ()), ()), f := f }
abbrev ref1_within_pk : SV [.v .bool] → BV [] → Bool := fun x _ => x.1
def ref1_within_fn (_N : Nat) : FuncId → Option Tmp → Option AF := fun f _ =>
  match f with
    | _ => none
theorem ref1_within_fn_ok (N : Nat) : ∀ f q F, ref1_within_fn N f q = some F → Sound Tryd.prog GW B0G f F := by
  intro f q F h
  unfold ref1_within_fn at h
  split at h
  · cases h
def ref1_within_h : Nat → Hint := fun i =>
  match i with
  | _ => ⟨[], [], [], [], [], []⟩
abbrev ref1_within_E (N : Nat) : Env := mkE ref1_within_h (ref1_within_fn N) (fun _ => false) (fun _ => false)
noncomputable def ref1_within_LP (N : Nat) : Nat → Code → St → (Ex → St → Option Bool) → Option Bool := fun i c =>
  match i with
  | i => fun st k => iter (ref1_within_h i) (exec (ref1_within_E N) N c i) N st k
theorem ref1_within_core (N : Nat) (x : SV [.v (.int .i64), .v (.int .i64), .v (.int .i64)]) (y : BV []) : runL (ref1_within_E N) Tryd.f45 (ref1_within_sg fun x _ => ref1_within N x.1 x.2.1 x.2.2.1) ref1_within_pk (ref1_within_LP N) x y = ref1_within N x.1 x.2.1 x.2.2.1 := by kernel_rfl
theorem ref1_within_sound (N : Nat) : Sound Tryd.prog GW B0G 45 (ref1_within_sg fun x _ => ref1_within N x.1 x.2.1 x.2.2.1) :=
  runD_sound (mkE_ok ref1_within_h (ref1_within_fn N) _ _ (ref1_within_fn_ok N)) Tryd.func45 rfl Tryd.call45 (ref1_within_sg fun x _ => ref1_within N x.1 x.2.1 x.2.2.1) ref1_within_pk (fun _ _ => rfl) N (fun x y _ h => ((runL_eq (ref1_within_E N) N Tryd.f45 (ref1_within_sg fun x _ => ref1_within N x.1 x.2.1 x.2.2.1) ref1_within_pk (ref1_within_LP N) (show LoopsOk (ref1_within_LP N) (ref1_within_E N) N (resD (ref1_within_E N) Tryd.f45 (ref1_within_sg fun x _ => ref1_within N x.1 x.2.1 x.2.2.1) ref1_within_pk) [] from trivial) x y).trans (ref1_within_core N x y)).trans h)
end
end Go.Proofs.YthlkidohpiebiaaDoor

