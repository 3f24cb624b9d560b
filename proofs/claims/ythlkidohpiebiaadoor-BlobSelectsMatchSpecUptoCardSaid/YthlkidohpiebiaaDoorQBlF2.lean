/- What functions of the program compute, as plain functions (printed). -/
import Derived.Test.YthlkidohpiebiaaDoorQBlF1
namespace Go.Proofs.YthlkidohpiebiaaDoor
open Go Go.RowKit
set_option maxRecDepth 100000
set_option linter.unusedVariables false
noncomputable section
def ref1_partByte (_N : Nat) (x0 : UInt8) : Option Bool :=
  br (decide (x0 ≥ (97 : UInt8)))
    (br (decide (x0 ≤ (122 : UInt8)))
      (some true)
      (br (decide (x0 ≥ (65 : UInt8)))
        (br (decide (x0 ≤ (90 : UInt8)))
          (some true)
          (br (decide (x0 ≥ (48 : UInt8)))
            (br (decide (x0 ≤ (57 : UInt8)))
              (some true)
              (br (x0 == (46 : UInt8))
                (some true)
                (br (x0 == (95 : UInt8))
                  (some true)
                  (br (x0 == (45 : UInt8))
                    (some true)
                    (some (x0 == (43 : UInt8)))))))
            (br (x0 == (46 : UInt8))
              (some true)
              (br (x0 == (95 : UInt8))
                (some true)
                (br (x0 == (45 : UInt8))
                  (some true)
                  (some (x0 == (43 : UInt8))))))))
        (br (decide (x0 ≥ (48 : UInt8)))
          (br (decide (x0 ≤ (57 : UInt8)))
            (some true)
            (br (x0 == (46 : UInt8))
              (some true)
              (br (x0 == (95 : UInt8))
                (some true)
                (br (x0 == (45 : UInt8))
                  (some true)
                  (some (x0 == (43 : UInt8)))))))
          (br (x0 == (46 : UInt8))
            (some true)
            (br (x0 == (95 : UInt8))
              (some true)
              (br (x0 == (45 : UInt8))
                (some true)
                (some (x0 == (43 : UInt8)))))))))
    (br (decide (x0 ≥ (65 : UInt8)))
      (br (decide (x0 ≤ (90 : UInt8)))
        (some true)
        (br (decide (x0 ≥ (48 : UInt8)))
          (br (decide (x0 ≤ (57 : UInt8)))
            (some true)
            (br (x0 == (46 : UInt8))
              (some true)
              (br (x0 == (95 : UInt8))
                (some true)
                (br (x0 == (45 : UInt8))
                  (some true)
                  (some (x0 == (43 : UInt8)))))))
          (br (x0 == (46 : UInt8))
            (some true)
            (br (x0 == (95 : UInt8))
              (some true)
              (br (x0 == (45 : UInt8))
                (some true)
                (some (x0 == (43 : UInt8))))))))
      (br (decide (x0 ≥ (48 : UInt8)))
        (br (decide (x0 ≤ (57 : UInt8)))
          (some true)
          (br (x0 == (46 : UInt8))
            (some true)
            (br (x0 == (95 : UInt8))
              (some true)
              (br (x0 == (45 : UInt8))
                (some true)
                (some (x0 == (43 : UInt8)))))))
        (br (x0 == (46 : UInt8))
          (some true)
          (br (x0 == (95 : UInt8))
            (some true)
            (br (x0 == (45 : UInt8))
              (some true)
              (some (x0 == (43 : UInt8))))))))
abbrev ref1_partByte_sg (f : SV [.v .u8] → BV [] → Option (Bool)) : AF := { ps := [.v .u8], bs := [], rs := [.v .bool], cs := [], R := Bool, out := fun z => ((z, ()), ()), f := f }
abbrev ref1_partByte_pk : SV [.v .bool] → BV [] → Bool := fun x _ => x.1
def ref1_partByte_fn (_N : Nat) : FuncId → Option Tmp → Option AF := fun f _ =>
  match f with
    | _ => none
theorem ref1_partByte_fn_ok (N : Nat) : ∀ f q F, ref1_partByte_fn N f q = some F → Sound Tryd.prog GW B0G f F := by
  intro f q F h
  unfold ref1_partByte_fn at h
  split at h
  · cases h
def ref1_partByte_h : Nat → Hint := fun i =>
  match i with
  | _ => ⟨[], [], [], [], [], []⟩
abbrev ref1_partByte_E (N : Nat) : Env := mkE ref1_partByte_h (ref1_partByte_fn N) (fun _ => false) (fun _ => false)
noncomputable def ref1_partByte_LP (N : Nat) : Nat → Code → St → (Ex → St → Option Bool) → Option Bool := fun i c =>
  match i with
  | i => fun st k => iter (ref1_partByte_h i) (exec (ref1_partByte_E N) N c i) N st k
theorem ref1_partByte_core (N : Nat) (x : SV [.v .u8]) (y : BV []) : runL (ref1_partByte_E N) Tryd.f91 (ref1_partByte_sg fun x _ => ref1_partByte N x.1) ref1_partByte_pk (ref1_partByte_LP N) x y = ref1_partByte N x.1 := by kernel_rfl
theorem ref1_partByte_sound (N : Nat) : Sound Tryd.prog GW B0G 91 (ref1_partByte_sg fun x _ => ref1_partByte N x.1) :=
  runD_sound (mkE_ok ref1_partByte_h (ref1_partByte_fn N) _ _ (ref1_partByte_fn_ok N)) Tryd.func91 rfl Tryd.call91 (ref1_partByte_sg fun x _ => ref1_partByte N x.1) ref1_partByte_pk (fun _ _ => rfl) N (fun x y _ h => ((runL_eq (ref1_partByte_E N) N Tryd.f91 (ref1_partByte_sg fun x _ => ref1_partByte N x.1) ref1_partByte_pk (ref1_partByte_LP N) (show LoopsOk (ref1_partByte_LP N) (ref1_partByte_E N) N (resD (ref1_partByte_E N) Tryd.f91 (ref1_partByte_sg fun x _ => ref1_partByte N x.1) ref1_partByte_pk) [] from trivial) x y).trans (ref1_partByte_core N x y)).trans h)
def ref1_isPatternPart_L0T (N : Nat) (x0 : Str) (k0 : Option Bool) (self : Int → Option Bool) (s3 : Int) : Option Bool :=
  br (decide (s3 < (x0.length : Int)))
    (bnd (geti x0 s3) fun t14 =>
    bnd (ref1_partByte N t14) fun t15 =>
    br (!t15)
      (bnd (geti x0 s3) fun t20 =>
      br (t20 != (42 : UInt8))
        (bnd (geti x0 s3) fun t26 =>
        br (t26 != (63 : UInt8))
          (some false)
          (self (IntKind.i64.wrap (s3 + (1 : Int)))))
        (self (IntKind.i64.wrap (s3 + (1 : Int)))))
      (self (IntKind.i64.wrap (s3 + (1 : Int)))))
    (k0)
def ref1_isPatternPart_L0 (N : Nat) (x0 : Str) (k0 : Option Bool) : Nat → Int → Option Bool
  | 0, _ => none
  | n + 1, s3 => ref1_isPatternPart_L0T N x0 k0 (ref1_isPatternPart_L0 N x0 k0 n) s3
def ref1_isPatternPart (N : Nat) (x0 : Str) : Option Bool :=
  br (x0 == ([42, 42] : Str))
    (some true)
    (ref1_isPatternPart_L0 N x0 (br (!(x0 == ([] : Str)))
          (br (!(x0 == ([46] : Str)))
            (br (!(x0 == ([46, 46] : Str)))
              (bnd (strings_Contains x0 ([42, 42] : Str)) fun t41 =>
              some (!t41))
              (some false))
            (some false))
          (some false)) N (0 : Int))
abbrev ref1_isPatternPart_sg (f : SV [.v .str] → BV [] → Option (Bool)) : AF := { ps := [.v .str], bs := [], rs := [.v .bool], cs := [], R := Bool, out := fun z => ((z, ()), ()), f := f }
abbrev ref1_isPatternPart_pk : SV [.v .bool] → BV [] → Bool := fun x _ => x.1
def ref1_isPatternPart_fn (N : Nat) : FuncId → Option Tmp → Option AF := fun f _ =>
  match f with
    | 43 => some (strings_Contains_sg fun x _ => strings_Contains x.1 x.2.1)
    | 91 => some (ref1_partByte_sg fun x _ => ref1_partByte N x.1)
    | _ => none
theorem ref1_isPatternPart_fn_ok (N : Nat) : ∀ f q F, ref1_isPatternPart_fn N f q = some F → Sound Tryd.prog GW B0G f F := by
  intro f q F h
  unfold ref1_isPatternPart_fn at h
  split at h
  · cases h; exact strings_Contains_sound
  · cases h; exact ref1_partByte_sound N
  · cases h
def ref1_isPatternPart_h : Nat → Hint := fun i =>
  match i with
  | 0 => ⟨[], [0, 3], [], [0], [], []⟩
  | _ => ⟨[], [], [], [], [], []⟩
abbrev ref1_isPatternPart_E (N : Nat) : Env := mkE ref1_isPatternPart_h (ref1_isPatternPart_fn N) (fun _ => false) (fun _ => false)
abbrev ref1_isPatternPart_L0_fs : List (Nat × Sl) := [(0, .v .str), (3, .v (.int .i64))]
abbrev ref1_isPatternPart_L0_bs : List (Nat × Sb) := []
def ref1_isPatternPart_L0_hd (x0 : Str) (s3 : Int) : St := ⟨44, [(0, .v .str x0), (3, .v (.int .i64) s3)], []⟩
def ref1_isPatternPart_L0_tl0 (x0 : Str) : St := ⟨44, [(0, .v .str x0)], []⟩
def ref1_isPatternPart_L0_G (N : Nat) (x0 : Str) (s3 : Int) (k : Ex → St → Option Bool) : Option Bool :=
  ref1_isPatternPart_L0 N x0 (k (.exit 0) (ref1_isPatternPart_L0_tl0 x0)) N s3
abbrev ref1_isPatternPart_L0_F (N : Nat) : FV ref1_isPatternPart_L0_fs → HV ref1_isPatternPart_L0_bs → (Ex → St → Option Bool) → Option Bool := fun x _ k => ref1_isPatternPart_L0_G N x.1 x.2.1 k
noncomputable def ref1_isPatternPart_LP (N : Nat) : Nat → Code → St → (Ex → St → Option Bool) → Option Bool := fun i c =>
  match i with
  | 0 => (LPc 44 ref1_isPatternPart_L0_fs ref1_isPatternPart_L0_bs (ref1_isPatternPart_L0_F N) (fun st k => iter (ref1_isPatternPart_h 0) (exec (ref1_isPatternPart_E N) N c 0) N st k))
  | i => fun st k => iter (ref1_isPatternPart_h i) (exec (ref1_isPatternPart_E N) N c i) N st k
theorem ref1_isPatternPart_L0_step (N : Nat) (x0 : Str) (KX : Nat → St → Option Bool) (I : St → Option Bool) (s3 : Int) :
    execL (ref1_isPatternPart_LP N) (ref1_isPatternPart_E N) (cAt (bodyOf Tryd.f46) [true, true, false, true, false, false]) 0 (ref1_isPatternPart_L0_hd x0 s3) (roundK (ref1_isPatternPart_h 0) I KX (resD (ref1_isPatternPart_E N) Tryd.f46 (ref1_isPatternPart_sg fun x _ => ref1_isPatternPart N x.1) ref1_isPatternPart_pk)) = ref1_isPatternPart_L0T N x0 (KX 0 (ref1_isPatternPart_L0_tl0 x0)) (fun s3 => I (ref1_isPatternPart_L0_hd x0 s3)) s3 := by kernel_rfl
theorem ref1_isPatternPart_L0_ok (N : Nat) : ∀ x y k, (∀ st, k .ret st = (resD (ref1_isPatternPart_E N) Tryd.f46 (ref1_isPatternPart_sg fun x _ => ref1_isPatternPart N x.1) ref1_isPatternPart_pk) st) → iter (ref1_isPatternPart_h 0) (exec (ref1_isPatternPart_E N) N (cAt (bodyOf Tryd.f46) [true, true, false, true, false, false]) 0) N ⟨44, unF ref1_isPatternPart_L0_fs x, unH ref1_isPatternPart_L0_bs y⟩ k = ref1_isPatternPart_L0_F N x y k := fun x _ k hk =>
  iter_link (S := (Int) × Unit) (ref1_isPatternPart_h 0) _ (execL (ref1_isPatternPart_LP N) (ref1_isPatternPart_E N) (cAt (bodyOf Tryd.f46) [true, true, false, true, false, false]) 0) (resD (ref1_isPatternPart_E N) Tryd.f46 (ref1_isPatternPart_sg fun x _ => ref1_isPatternPart N x.1) ref1_isPatternPart_pk) (fun st k hk => execL_eq _ _ N _ (cAt (bodyOf Tryd.f46) [true, true, false, true, false, false]) 0 (show LoopsOk (ref1_isPatternPart_LP N) (ref1_isPatternPart_E N) N (resD (ref1_isPatternPart_E N) Tryd.f46 (ref1_isPatternPart_sg fun x _ => ref1_isPatternPart N x.1) ref1_isPatternPart_pk) [] from trivial) st k hk) (fun s => ref1_isPatternPart_L0_hd x.1 s.1) k hk
    (fun self s => ref1_isPatternPart_L0T N x.1 (k (.exit 0) (ref1_isPatternPart_L0_tl0 x.1)) (fun s3 => self (s3, ())) s.1) (fun n s => ref1_isPatternPart_L0 N x.1 (k (.exit 0) (ref1_isPatternPart_L0_tl0 x.1)) n s.1) (fun _ => rfl) (fun _ _ => rfl)
    (fun I s => ref1_isPatternPart_L0_step N x.1 (fun j => k (.exit j)) I s.1) N (x.2.1, ())
theorem ref1_isPatternPart_lp0 (N : Nat) : ∀ st k, (∀ st, k .ret st = (resD (ref1_isPatternPart_E N) Tryd.f46 (ref1_isPatternPart_sg fun x _ => ref1_isPatternPart N x.1) ref1_isPatternPart_pk) st) → ref1_isPatternPart_LP N 0 (cAt (bodyOf Tryd.f46) [true, true, false, true, false, false]) st k = iter (Env.hint (ref1_isPatternPart_E N) 0) (exec (ref1_isPatternPart_E N) N (cAt (bodyOf Tryd.f46) [true, true, false, true, false, false]) 0) N st k := fun st k hk => LPc_eq 44 ref1_isPatternPart_L0_fs ref1_isPatternPart_L0_bs _ _ (resD (ref1_isPatternPart_E N) Tryd.f46 (ref1_isPatternPart_sg fun x _ => ref1_isPatternPart N x.1) ref1_isPatternPart_pk) (ref1_isPatternPart_L0_ok N) _ st k hk (rfl)
theorem ref1_isPatternPart_core (N : Nat) (x : SV [.v .str]) (y : BV []) : runL (ref1_isPatternPart_E N) Tryd.f46 (ref1_isPatternPart_sg fun x _ => ref1_isPatternPart N x.1) ref1_isPatternPart_pk (ref1_isPatternPart_LP N) x y = ref1_isPatternPart N x.1 := by kernel_rfl
theorem ref1_isPatternPart_sound (N : Nat) : Sound Tryd.prog GW B0G 46 (ref1_isPatternPart_sg fun x _ => ref1_isPatternPart N x.1) :=
  runD_sound (mkE_ok ref1_isPatternPart_h (ref1_isPatternPart_fn N) _ _ (ref1_isPatternPart_fn_ok N)) Tryd.func46 rfl Tryd.call46 (ref1_isPatternPart_sg fun x _ => ref1_isPatternPart N x.1) ref1_isPatternPart_pk (fun _ _ => rfl) N (fun x y _ h => ((runL_eq (ref1_isPatternPart_E N) N Tryd.f46 (ref1_isPatternPart_sg fun x _ => ref1_isPatternPart N x.1) ref1_isPatternPart_pk (ref1_isPatternPart_LP N) (show LoopsOk (ref1_isPatternPart_LP N) (ref1_isPatternPart_E N) N (resD (ref1_isPatternPart_E N) Tryd.f46 (ref1_isPatternPart_sg fun x _ => ref1_isPatternPart N x.1) ref1_isPatternPart_pk) [(0, (cAt (bodyOf Tryd.f46) [true, true, false, true, false, false]))] from ⟨ref1_isPatternPart_lp0 N, trivial⟩) x y).trans (ref1_isPatternPart_core N x y)).trans h)
def ref1_CheckPattern_L0T (N : Nat) (t10 : List Str) (k0 : Option Int) (self : Int → Option Int) (s4 : Int) : Option Int :=
  br (decide (s4 < (t10.length : Int)))
    (bnd (geti t10 s4) fun t19 =>
    bnd (ref1_isPatternPart N t19) fun t21 =>
    br (!t21)
      (some (3 : Int))
      (self (IntKind.i64.wrap (s4 + (1 : Int)))))
    (k0)
def ref1_CheckPattern_L0 (N : Nat) (t10 : List Str) (k0 : Option Int) : Nat → Int → Option Int
  | 0, _ => none
  | n + 1, s4 => ref1_CheckPattern_L0T N t10 k0 (ref1_CheckPattern_L0 N t10 k0 n) s4
def ref1_CheckPattern (N : Nat) (x0 : Str) : Option Int :=
  bnd (ref1_within N (x0.length : Int) (1 : Int) (200 : Int)) fun t7 =>
  br (!t7)
    (some (3 : Int))
    (bnd (strings_Split x0 ([47] : Str)) fun t10 =>
    ref1_CheckPattern_L0 N t10 (some (0 : Int)) N (0 : Int))
abbrev ref1_CheckPattern_sg (f : SV [.v .str] → BV [] → Option (Int)) : AF := { ps := [.v .str], bs := [], rs := [.v (.int .i64)], cs := [], R := Int, out := fun z => ((z, ()), ()), f := f }
abbrev ref1_CheckPattern_pk : SV [.v (.int .i64)] → BV [] → Int := fun x _ => x.1
def ref1_CheckPattern_fn (N : Nat) : FuncId → Option Tmp → Option AF := fun f _ =>
  match f with
    | 42 => some (strings_Split_sg fun x _ => strings_Split x.1 x.2.1)
    | 45 => some (ref1_within_sg fun x _ => ref1_within N x.1 x.2.1 x.2.2.1)
    | 46 => some (ref1_isPatternPart_sg fun x _ => ref1_isPatternPart N x.1)
    | _ => none
theorem ref1_CheckPattern_fn_ok (N : Nat) : ∀ f q F, ref1_CheckPattern_fn N f q = some F → Sound Tryd.prog GW B0G f F := by
  intro f q F h
  unfold ref1_CheckPattern_fn at h
  split at h
  · cases h; exact strings_Split_sound
  · cases h; exact ref1_within_sound N
  · cases h; exact ref1_isPatternPart_sound N
  · cases h
def ref1_CheckPattern_h : Nat → Hint := fun i =>
  match i with
  | 0 => ⟨[], [3, 4], [], [], [], []⟩
  | _ => ⟨[], [], [], [], [], []⟩
abbrev ref1_CheckPattern_E (N : Nat) : Env := mkE ref1_CheckPattern_h (ref1_CheckPattern_fn N) (fun _ => false) (fun _ => false)
abbrev ref1_CheckPattern_L0_fs : List (Nat × Sl) := [(3, .v (.sl .str)), (4, .v (.int .i64))]
abbrev ref1_CheckPattern_L0_bs : List (Nat × Sb) := []
def ref1_CheckPattern_L0_hd (t10 : List Str) (s4 : Int) : St := ⟨23, [(3, .v (.sl .str) t10), (4, .v (.int .i64) s4)], []⟩
def ref1_CheckPattern_L0_tl0 (_t10 : List Str) : St := ⟨23, [], []⟩
def ref1_CheckPattern_L0_G (N : Nat) (t10 : List Str) (s4 : Int) (k : Ex → St → Option Int) : Option Int :=
  ref1_CheckPattern_L0 N t10 (k (.exit 0) (ref1_CheckPattern_L0_tl0 t10)) N s4
abbrev ref1_CheckPattern_L0_F (N : Nat) : FV ref1_CheckPattern_L0_fs → HV ref1_CheckPattern_L0_bs → (Ex → St → Option Int) → Option Int := fun x _ k => ref1_CheckPattern_L0_G N x.1 x.2.1 k
noncomputable def ref1_CheckPattern_LP (N : Nat) : Nat → Code → St → (Ex → St → Option Int) → Option Int := fun i c =>
  match i with
  | 0 => (LPc 23 ref1_CheckPattern_L0_fs ref1_CheckPattern_L0_bs (ref1_CheckPattern_L0_F N) (fun st k => iter (ref1_CheckPattern_h 0) (exec (ref1_CheckPattern_E N) N c 0) N st k))
  | i => fun st k => iter (ref1_CheckPattern_h i) (exec (ref1_CheckPattern_E N) N c i) N st k
theorem ref1_CheckPattern_L0_step (N : Nat) (t10 : List Str) (KX : Nat → St → Option Int) (I : St → Option Int) (s4 : Int) :
    execL (ref1_CheckPattern_LP N) (ref1_CheckPattern_E N) (cAt (bodyOf Tryd.f17) [true, true, true, false, true, false, false]) 0 (ref1_CheckPattern_L0_hd t10 s4) (roundK (ref1_CheckPattern_h 0) I KX (resD (ref1_CheckPattern_E N) Tryd.f17 (ref1_CheckPattern_sg fun x _ => ref1_CheckPattern N x.1) ref1_CheckPattern_pk)) = ref1_CheckPattern_L0T N t10 (KX 0 (ref1_CheckPattern_L0_tl0 t10)) (fun s4 => I (ref1_CheckPattern_L0_hd t10 s4)) s4 := by kernel_rfl
theorem ref1_CheckPattern_L0_ok (N : Nat) : ∀ x y k, (∀ st, k .ret st = (resD (ref1_CheckPattern_E N) Tryd.f17 (ref1_CheckPattern_sg fun x _ => ref1_CheckPattern N x.1) ref1_CheckPattern_pk) st) → iter (ref1_CheckPattern_h 0) (exec (ref1_CheckPattern_E N) N (cAt (bodyOf Tryd.f17) [true, true, true, false, true, false, false]) 0) N ⟨23, unF ref1_CheckPattern_L0_fs x, unH ref1_CheckPattern_L0_bs y⟩ k = ref1_CheckPattern_L0_F N x y k := fun x _ k hk =>
  iter_link (S := (Int) × Unit) (ref1_CheckPattern_h 0) _ (execL (ref1_CheckPattern_LP N) (ref1_CheckPattern_E N) (cAt (bodyOf Tryd.f17) [true, true, true, false, true, false, false]) 0) (resD (ref1_CheckPattern_E N) Tryd.f17 (ref1_CheckPattern_sg fun x _ => ref1_CheckPattern N x.1) ref1_CheckPattern_pk) (fun st k hk => execL_eq _ _ N _ (cAt (bodyOf Tryd.f17) [true, true, true, false, true, false, false]) 0 (show LoopsOk (ref1_CheckPattern_LP N) (ref1_CheckPattern_E N) N (resD (ref1_CheckPattern_E N) Tryd.f17 (ref1_CheckPattern_sg fun x _ => ref1_CheckPattern N x.1) ref1_CheckPattern_pk) [] from trivial) st k hk) (fun s => ref1_CheckPattern_L0_hd x.1 s.1) k hk
    (fun self s => ref1_CheckPattern_L0T N x.1 (k (.exit 0) (ref1_CheckPattern_L0_tl0 x.1)) (fun s4 => self (s4, ())) s.1) (fun n s => ref1_CheckPattern_L0 N x.1 (k (.exit 0) (ref1_CheckPattern_L0_tl0 x.1)) n s.1) (fun _ => rfl) (fun _ _ => rfl)
    (fun I s => ref1_CheckPattern_L0_step N x.1 (fun j => k (.exit j)) I s.1) N (x.2.1, ())
theorem ref1_CheckPattern_lp0 (N : Nat) : ∀ st k, (∀ st, k .ret st = (resD (ref1_CheckPattern_E N) Tryd.f17 (ref1_CheckPattern_sg fun x _ => ref1_CheckPattern N x.1) ref1_CheckPattern_pk) st) → ref1_CheckPattern_LP N 0 (cAt (bodyOf Tryd.f17) [true, true, true, false, true, false, false]) st k = iter (Env.hint (ref1_CheckPattern_E N) 0) (exec (ref1_CheckPattern_E N) N (cAt (bodyOf Tryd.f17) [true, true, true, false, true, false, false]) 0) N st k := fun st k hk => LPc_eq 23 ref1_CheckPattern_L0_fs ref1_CheckPattern_L0_bs _ _ (resD (ref1_CheckPattern_E N) Tryd.f17 (ref1_CheckPattern_sg fun x _ => ref1_CheckPattern N x.1) ref1_CheckPattern_pk) (ref1_CheckPattern_L0_ok N) _ st k hk (rfl)
theorem ref1_CheckPattern_core (N : Nat) (x : SV [.v .str]) (y : BV []) : runL (ref1_CheckPattern_E N) Tryd.f17 (ref1_CheckPattern_sg fun x _ => ref1_CheckPattern N x.1) ref1_CheckPattern_pk (ref1_CheckPattern_LP N) x y = ref1_CheckPattern N x.1 := by kernel_rfl
theorem ref1_CheckPattern_sound (N : Nat) : Sound Tryd.prog GW B0G 17 (ref1_CheckPattern_sg fun x _ => ref1_CheckPattern N x.1) :=
  runD_sound (mkE_ok ref1_CheckPattern_h (ref1_CheckPattern_fn N) _ _ (ref1_CheckPattern_fn_ok N)) Tryd.func17 rfl Tryd.call17 (ref1_CheckPattern_sg fun x _ => ref1_CheckPattern N x.1) ref1_CheckPattern_pk (fun _ _ => rfl) N (fun x y _ h => ((runL_eq (ref1_CheckPattern_E N) N Tryd.f17 (ref1_CheckPattern_sg fun x _ => ref1_CheckPattern N x.1) ref1_CheckPattern_pk (ref1_CheckPattern_LP N) (show LoopsOk (ref1_CheckPattern_LP N) (ref1_CheckPattern_E N) N (resD (ref1_CheckPattern_E N) Tryd.f17 (ref1_CheckPattern_sg fun x _ => ref1_CheckPattern N x.1) ref1_CheckPattern_pk) [(0, (cAt (bodyOf Tryd.f17) [true, true, true, false, true, false, false]))] from ⟨ref1_CheckPattern_lp0 N, trivial⟩) x y).trans (ref1_CheckPattern_core N x y)).trans h)
def ref1_isPart_L0T (N : Nat) (x0 : Str) (k0 : Option Bool) (self : Int → Option Bool) (s3 : Int) : Option Bool :=
  br (decide (s3 < (x0.length : Int)))
    (bnd (geti x0 s3) fun t12 =>
    bnd (ref1_partByte N t12) fun t13 =>
    br (!t13)
      (some false)
      (self (IntKind.i64.wrap (s3 + (1 : Int)))))
    (k0)
def ref1_isPart_L0 (N : Nat) (x0 : Str) (k0 : Option Bool) : Nat → Int → Option Bool
  | 0, _ => none
  | n + 1, s3 => ref1_isPart_L0T N x0 k0 (ref1_isPart_L0 N x0 k0 n) s3
def ref1_isPart (N : Nat) (x0 : Str) : Option Bool :=
  ref1_isPart_L0 N x0 (br (!(x0 == ([] : Str)))
        (br (!(x0 == ([46] : Str)))
          (some (!(x0 == ([46, 46] : Str))))
          (some false))
        (some false)) N (0 : Int)
abbrev ref1_isPart_sg (f : SV [.v .str] → BV [] → Option (Bool)) : AF := { ps := [.v .str], bs := [], rs := [.v .bool], cs := [], R := Bool, out := fun z => ((z, ()), ()), f := f }
abbrev ref1_isPart_pk : SV [.v .bool] → BV [] → Bool := fun x _ => x.1
def ref1_isPart_fn (N : Nat) : FuncId → Option Tmp → Option AF := fun f _ =>
  match f with
    | 91 => some (ref1_partByte_sg fun x _ => ref1_partByte N x.1)
    | _ => none
theorem ref1_isPart_fn_ok (N : Nat) : ∀ f q F, ref1_isPart_fn N f q = some F → Sound Tryd.prog GW B0G f F := by
  intro f q F h
  unfold ref1_isPart_fn at h
  split at h
  · cases h; exact ref1_partByte_sound N
  · cases h
def ref1_isPart_h : Nat → Hint := fun i =>
  match i with
  | 0 => ⟨[], [0, 3], [], [0], [], []⟩
  | _ => ⟨[], [], [], [], [], []⟩
abbrev ref1_isPart_E (N : Nat) : Env := mkE ref1_isPart_h (ref1_isPart_fn N) (fun _ => false) (fun _ => false)
abbrev ref1_isPart_L0_fs : List (Nat × Sl) := [(0, .v .str), (3, .v (.int .i64))]
abbrev ref1_isPart_L0_bs : List (Nat × Sb) := []
def ref1_isPart_L0_hd (x0 : Str) (s3 : Int) : St := ⟨25, [(0, .v .str x0), (3, .v (.int .i64) s3)], []⟩
def ref1_isPart_L0_tl0 (x0 : Str) : St := ⟨25, [(0, .v .str x0)], []⟩
def ref1_isPart_L0_G (N : Nat) (x0 : Str) (s3 : Int) (k : Ex → St → Option Bool) : Option Bool :=
  ref1_isPart_L0 N x0 (k (.exit 0) (ref1_isPart_L0_tl0 x0)) N s3
abbrev ref1_isPart_L0_F (N : Nat) : FV ref1_isPart_L0_fs → HV ref1_isPart_L0_bs → (Ex → St → Option Bool) → Option Bool := fun x _ k => ref1_isPart_L0_G N x.1 x.2.1 k
noncomputable def ref1_isPart_LP (N : Nat) : Nat → Code → St → (Ex → St → Option Bool) → Option Bool := fun i c =>
  match i with
  | 0 => (LPc 25 ref1_isPart_L0_fs ref1_isPart_L0_bs (ref1_isPart_L0_F N) (fun st k => iter (ref1_isPart_h 0) (exec (ref1_isPart_E N) N c 0) N st k))
  | i => fun st k => iter (ref1_isPart_h i) (exec (ref1_isPart_E N) N c i) N st k
theorem ref1_isPart_L0_step (N : Nat) (x0 : Str) (KX : Nat → St → Option Bool) (I : St → Option Bool) (s3 : Int) :
    execL (ref1_isPart_LP N) (ref1_isPart_E N) (cAt (bodyOf Tryd.f86) [true, false, true, false, false]) 0 (ref1_isPart_L0_hd x0 s3) (roundK (ref1_isPart_h 0) I KX (resD (ref1_isPart_E N) Tryd.f86 (ref1_isPart_sg fun x _ => ref1_isPart N x.1) ref1_isPart_pk)) = ref1_isPart_L0T N x0 (KX 0 (ref1_isPart_L0_tl0 x0)) (fun s3 => I (ref1_isPart_L0_hd x0 s3)) s3 := by kernel_rfl
theorem ref1_isPart_L0_ok (N : Nat) : ∀ x y k, (∀ st, k .ret st = (resD (ref1_isPart_E N) Tryd.f86 (ref1_isPart_sg fun x _ => ref1_isPart N x.1) ref1_isPart_pk) st) → iter (ref1_isPart_h 0) (exec (ref1_isPart_E N) N (cAt (bodyOf Tryd.f86) [true, false, true, false, false]) 0) N ⟨25, unF ref1_isPart_L0_fs x, unH ref1_isPart_L0_bs y⟩ k = ref1_isPart_L0_F N x y k := fun x _ k hk =>
  iter_link (S := (Int) × Unit) (ref1_isPart_h 0) _ (execL (ref1_isPart_LP N) (ref1_isPart_E N) (cAt (bodyOf Tryd.f86) [true, false, true, false, false]) 0) (resD (ref1_isPart_E N) Tryd.f86 (ref1_isPart_sg fun x _ => ref1_isPart N x.1) ref1_isPart_pk) (fun st k hk => execL_eq _ _ N _ (cAt (bodyOf Tryd.f86) [true, false, true, false, false]) 0 (show LoopsOk (ref1_isPart_LP N) (ref1_isPart_E N) N (resD (ref1_isPart_E N) Tryd.f86 (ref1_isPart_sg fun x _ => ref1_isPart N x.1) ref1_isPart_pk) [] from trivial) st k hk) (fun s => ref1_isPart_L0_hd x.1 s.1) k hk
    (fun self s => ref1_isPart_L0T N x.1 (k (.exit 0) (ref1_isPart_L0_tl0 x.1)) (fun s3 => self (s3, ())) s.1) (fun n s => ref1_isPart_L0 N x.1 (k (.exit 0) (ref1_isPart_L0_tl0 x.1)) n s.1) (fun _ => rfl) (fun _ _ => rfl)
    (fun I s => ref1_isPart_L0_step N x.1 (fun j => k (.exit j)) I s.1) N (x.2.1, ())
theorem ref1_isPart_lp0 (N : Nat) : ∀ st k, (∀ st, k .ret st = (resD (ref1_isPart_E N) Tryd.f86 (ref1_isPart_sg fun x _ => ref1_isPart N x.1) ref1_isPart_pk) st) → ref1_isPart_LP N 0 (cAt (bodyOf Tryd.f86) [true, false, true, false, false]) st k = iter (Env.hint (ref1_isPart_E N) 0) (exec (ref1_isPart_E N) N (cAt (bodyOf Tryd.f86) [true, false, true, false, false]) 0) N st k := fun st k hk => LPc_eq 25 ref1_isPart_L0_fs ref1_isPart_L0_bs _ _ (resD (ref1_isPart_E N) Tryd.f86 (ref1_isPart_sg fun x _ => ref1_isPart N x.1) ref1_isPart_pk) (ref1_isPart_L0_ok N) _ st k hk (rfl)
theorem ref1_isPart_core (N : Nat) (x : SV [.v .str]) (y : BV []) : runL (ref1_isPart_E N) Tryd.f86 (ref1_isPart_sg fun x _ => ref1_isPart N x.1) ref1_isPart_pk (ref1_isPart_LP N) x y = ref1_isPart N x.1 := by kernel_rfl
theorem ref1_isPart_sound (N : Nat) : Sound Tryd.prog GW B0G 86 (ref1_isPart_sg fun x _ => ref1_isPart N x.1) :=
  runD_sound (mkE_ok ref1_isPart_h (ref1_isPart_fn N) _ _ (ref1_isPart_fn_ok N)) Tryd.func86 rfl Tryd.call86 (ref1_isPart_sg fun x _ => ref1_isPart N x.1) ref1_isPart_pk (fun _ _ => rfl) N (fun x y _ h => ((runL_eq (ref1_isPart_E N) N Tryd.f86 (ref1_isPart_sg fun x _ => ref1_isPart N x.1) ref1_isPart_pk (ref1_isPart_LP N) (show LoopsOk (ref1_isPart_LP N) (ref1_isPart_E N) N (resD (ref1_isPart_E N) Tryd.f86 (ref1_isPart_sg fun x _ => ref1_isPart N x.1) ref1_isPart_pk) [(0, (cAt (bodyOf Tryd.f86) [true, false, true, false, false]))] from ⟨ref1_isPart_lp0 N, trivial⟩) x y).trans (ref1_isPart_core N x y)).trans h)
def ref1_IsPath_L0T (N : Nat) (t10 : List Str) (k0 : Option Bool) (self : Int → Option Bool) (s4 : Int) : Option Bool :=
  br (decide (s4 < (t10.length : Int)))
    (bnd (geti t10 s4) fun t19 =>
    bnd (ref1_isPart N t19) fun t21 =>
    br (!t21)
      (some false)
      (self (IntKind.i64.wrap (s4 + (1 : Int)))))
    (k0)
def ref1_IsPath_L0 (N : Nat) (t10 : List Str) (k0 : Option Bool) : Nat → Int → Option Bool
  | 0, _ => none
  | n + 1, s4 => ref1_IsPath_L0T N t10 k0 (ref1_IsPath_L0 N t10 k0 n) s4
def ref1_IsPath (N : Nat) (x0 : Str) : Option Bool :=
  bnd (ref1_within N (x0.length : Int) (1 : Int) (200 : Int)) fun t7 =>
  br (!t7)
    (some false)
    (bnd (strings_Split x0 ([47] : Str)) fun t10 =>
    ref1_IsPath_L0 N t10 (some true) N (0 : Int))
abbrev ref1_IsPath_sg (f : SV [.v .str] → BV [] → Option (Bool)) : AF := { ps := [.v .str], bs := [], rs := [.v .bool], cs := [], R := Bool, out := fun z => ((z, ()), ()), f := f }
abbrev ref1_IsPath_pk : SV [.v .bool] → BV [] → Bool := fun x _ => x.1
def ref1_IsPath_fn (N : Nat) : FuncId → Option Tmp → Option AF := fun f _ =>
  match f with
    | 42 => some (strings_Split_sg fun x _ => strings_Split x.1 x.2.1)
    | 45 => some (ref1_within_sg fun x _ => ref1_within N x.1 x.2.1 x.2.2.1)
    | 86 => some (ref1_isPart_sg fun x _ => ref1_isPart N x.1)
    | _ => none
theorem ref1_IsPath_fn_ok (N : Nat) : ∀ f q F, ref1_IsPath_fn N f q = some F → Sound Tryd.prog GW B0G f F := by
  intro f q F h
  unfold ref1_IsPath_fn at h
  split at h
  · cases h; exact strings_Split_sound
  · cases h; exact ref1_within_sound N
  · cases h; exact ref1_isPart_sound N
  · cases h
def ref1_IsPath_h : Nat → Hint := fun i =>
  match i with
  | 0 => ⟨[], [3, 4], [], [], [], []⟩
  | _ => ⟨[], [], [], [], [], []⟩
abbrev ref1_IsPath_E (N : Nat) : Env := mkE ref1_IsPath_h (ref1_IsPath_fn N) (fun _ => false) (fun _ => false)
abbrev ref1_IsPath_L0_fs : List (Nat × Sl) := [(3, .v (.sl .str)), (4, .v (.int .i64))]
abbrev ref1_IsPath_L0_bs : List (Nat × Sb) := []
def ref1_IsPath_L0_hd (t10 : List Str) (s4 : Int) : St := ⟨23, [(3, .v (.sl .str) t10), (4, .v (.int .i64) s4)], []⟩
def ref1_IsPath_L0_tl0 (_t10 : List Str) : St := ⟨23, [], []⟩
def ref1_IsPath_L0_G (N : Nat) (t10 : List Str) (s4 : Int) (k : Ex → St → Option Bool) : Option Bool :=
  ref1_IsPath_L0 N t10 (k (.exit 0) (ref1_IsPath_L0_tl0 t10)) N s4
abbrev ref1_IsPath_L0_F (N : Nat) : FV ref1_IsPath_L0_fs → HV ref1_IsPath_L0_bs → (Ex → St → Option Bool) → Option Bool := fun x _ k => ref1_IsPath_L0_G N x.1 x.2.1 k
noncomputable def ref1_IsPath_LP (N : Nat) : Nat → Code → St → (Ex → St → Option Bool) → Option Bool := fun i c =>
  match i with
  | 0 => (LPc 23 ref1_IsPath_L0_fs ref1_IsPath_L0_bs (ref1_IsPath_L0_F N) (fun st k => iter (ref1_IsPath_h 0) (exec (ref1_IsPath_E N) N c 0) N st k))
  | i => fun st k => iter (ref1_IsPath_h i) (exec (ref1_IsPath_E N) N c i) N st k
theorem ref1_IsPath_L0_step (N : Nat) (t10 : List Str) (KX : Nat → St → Option Bool) (I : St → Option Bool) (s4 : Int) :
    execL (ref1_IsPath_LP N) (ref1_IsPath_E N) (cAt (bodyOf Tryd.f40) [true, true, true, false, true, false, false]) 0 (ref1_IsPath_L0_hd t10 s4) (roundK (ref1_IsPath_h 0) I KX (resD (ref1_IsPath_E N) Tryd.f40 (ref1_IsPath_sg fun x _ => ref1_IsPath N x.1) ref1_IsPath_pk)) = ref1_IsPath_L0T N t10 (KX 0 (ref1_IsPath_L0_tl0 t10)) (fun s4 => I (ref1_IsPath_L0_hd t10 s4)) s4 := by kernel_rfl
theorem ref1_IsPath_L0_ok (N : Nat) : ∀ x y k, (∀ st, k .ret st = (resD (ref1_IsPath_E N) Tryd.f40 (ref1_IsPath_sg fun x _ => ref1_IsPath N x.1) ref1_IsPath_pk) st) → iter (ref1_IsPath_h 0) (exec (ref1_IsPath_E N) N (cAt (bodyOf Tryd.f40) [true, true, true, false, true, false, false]) 0) N ⟨23, unF ref1_IsPath_L0_fs x, unH ref1_IsPath_L0_bs y⟩ k = ref1_IsPath_L0_F N x y k := fun x _ k hk =>
  iter_link (S := (Int) × Unit) (ref1_IsPath_h 0) _ (execL (ref1_IsPath_LP N) (ref1_IsPath_E N) (cAt (bodyOf Tryd.f40) [true, true, true, false, true, false, false]) 0) (resD (ref1_IsPath_E N) Tryd.f40 (ref1_IsPath_sg fun x _ => ref1_IsPath N x.1) ref1_IsPath_pk) (fun st k hk => execL_eq _ _ N _ (cAt (bodyOf Tryd.f40) [true, true, true, false, true, false, false]) 0 (show LoopsOk (ref1_IsPath_LP N) (ref1_IsPath_E N) N (resD (ref1_IsPath_E N) Tryd.f40 (ref1_IsPath_sg fun x _ => ref1_IsPath N x.1) ref1_IsPath_pk) [] from trivial) st k hk) (fun s => ref1_IsPath_L0_hd x.1 s.1) k hk
    (fun self s => ref1_IsPath_L0T N x.1 (k (.exit 0) (ref1_IsPath_L0_tl0 x.1)) (fun s4 => self (s4, ())) s.1) (fun n s => ref1_IsPath_L0 N x.1 (k (.exit 0) (ref1_IsPath_L0_tl0 x.1)) n s.1) (fun _ => rfl) (fun _ _ => rfl)
    (fun I s => ref1_IsPath_L0_step N x.1 (fun j => k (.exit j)) I s.1) N (x.2.1, ())
theorem ref1_IsPath_lp0 (N : Nat) : ∀ st k, (∀ st, k .ret st = (resD (ref1_IsPath_E N) Tryd.f40 (ref1_IsPath_sg fun x _ => ref1_IsPath N x.1) ref1_IsPath_pk) st) → ref1_IsPath_LP N 0 (cAt (bodyOf Tryd.f40) [true, true, true, false, true, false, false]) st k = iter (Env.hint (ref1_IsPath_E N) 0) (exec (ref1_IsPath_E N) N (cAt (bodyOf Tryd.f40) [true, true, true, false, true, false, false]) 0) N st k := fun st k hk => LPc_eq 23 ref1_IsPath_L0_fs ref1_IsPath_L0_bs _ _ (resD (ref1_IsPath_E N) Tryd.f40 (ref1_IsPath_sg fun x _ => ref1_IsPath N x.1) ref1_IsPath_pk) (ref1_IsPath_L0_ok N) _ st k hk (rfl)
theorem ref1_IsPath_core (N : Nat) (x : SV [.v .str]) (y : BV []) : runL (ref1_IsPath_E N) Tryd.f40 (ref1_IsPath_sg fun x _ => ref1_IsPath N x.1) ref1_IsPath_pk (ref1_IsPath_LP N) x y = ref1_IsPath N x.1 := by kernel_rfl
theorem ref1_IsPath_sound (N : Nat) : Sound Tryd.prog GW B0G 40 (ref1_IsPath_sg fun x _ => ref1_IsPath N x.1) :=
  runD_sound (mkE_ok ref1_IsPath_h (ref1_IsPath_fn N) _ _ (ref1_IsPath_fn_ok N)) Tryd.func40 rfl Tryd.call40 (ref1_IsPath_sg fun x _ => ref1_IsPath N x.1) ref1_IsPath_pk (fun _ _ => rfl) N (fun x y _ h => ((runL_eq (ref1_IsPath_E N) N Tryd.f40 (ref1_IsPath_sg fun x _ => ref1_IsPath N x.1) ref1_IsPath_pk (ref1_IsPath_LP N) (show LoopsOk (ref1_IsPath_LP N) (ref1_IsPath_E N) N (resD (ref1_IsPath_E N) Tryd.f40 (ref1_IsPath_sg fun x _ => ref1_IsPath N x.1) ref1_IsPath_pk) [(0, (cAt (bodyOf Tryd.f40) [true, true, true, false, true, false, false]))] from ⟨ref1_IsPath_lp0 N, trivial⟩) x y).trans (ref1_IsPath_core N x y)).trans h)
def ref1_partFits_L1T (_N : Nat) (x0 : Str) (x1 : Str) (s5 : List Bool) (s6 : Int) (k2 : (List Bool) → Option Bool) (self : Int → (List Bool) → Option Bool) (s8 : Int) (w1024 : List Bool) : Option Bool :=
  br (decide (s8 ≤ (x1.length : Int)))
    (bnd (geti x0 s6) fun t33 =>
    br (t33 == (42 : UInt8))
      (bnd (geti s5 s8) fun t39 =>
      br (t39)
        (br (decide (0 ≤ s8 ∧ s8 < (w1024.length : Int)))
          (bnd (geti w1024 s8) fun _ =>
          self (IntKind.i64.wrap (s8 + (1 : Int))) (seti w1024 s8 true))
          none)
        (br (decide (s8 > (0 : Int)))
          (br (decide (0 ≤ (IntKind.i64.wrap (s8 - (1 : Int))) ∧ (IntKind.i64.wrap (s8 - (1 : Int))) < (w1024.length : Int)))
            (bnd (geti w1024 (IntKind.i64.wrap (s8 - (1 : Int)))) fun t49 =>
            br (decide (0 ≤ s8 ∧ s8 < (w1024.length : Int)))
              (bnd (geti w1024 s8) fun _ =>
              self (IntKind.i64.wrap (s8 + (1 : Int))) (seti w1024 s8 t49))
              none)
            none)
          (br (decide (0 ≤ s8 ∧ s8 < (w1024.length : Int)))
            (bnd (geti w1024 s8) fun _ =>
            self (IntKind.i64.wrap (s8 + (1 : Int))) (seti w1024 s8 false))
            none)))
      (br (decide (s8 > (0 : Int)))
        (bnd (geti s5 (IntKind.i64.wrap (s8 - (1 : Int)))) fun t61 =>
        br (t61)
          (bnd (geti x0 s6) fun t67 =>
          br (t67 == (63 : UInt8))
            (br (decide (0 ≤ s8 ∧ s8 < (w1024.length : Int)))
              (bnd (geti w1024 s8) fun _ =>
              self (IntKind.i64.wrap (s8 + (1 : Int))) (seti w1024 s8 true))
              none)
            (bnd (geti x0 s6) fun t72 =>
            bnd (geti x1 (IntKind.i64.wrap (s8 - (1 : Int)))) fun t76 =>
            br (decide (0 ≤ s8 ∧ s8 < (w1024.length : Int)))
              (bnd (geti w1024 s8) fun _ =>
              self (IntKind.i64.wrap (s8 + (1 : Int))) (seti w1024 s8 (t72 == t76)))
              none))
          (br (decide (0 ≤ s8 ∧ s8 < (w1024.length : Int)))
            (bnd (geti w1024 s8) fun _ =>
            self (IntKind.i64.wrap (s8 + (1 : Int))) (seti w1024 s8 false))
            none))
        (br (decide (0 ≤ s8 ∧ s8 < (w1024.length : Int)))
          (bnd (geti w1024 s8) fun _ =>
          self (IntKind.i64.wrap (s8 + (1 : Int))) (seti w1024 s8 false))
          none)))
    (k2 w1024)
def ref1_partFits_L1 (N : Nat) (x0 : Str) (x1 : Str) (s5 : List Bool) (s6 : Int) (k2 : (List Bool) → Option Bool) : Nat → Int → (List Bool) → Option Bool
  | 0, _, _ => none
  | n + 1, s8, w1024 => ref1_partFits_L1T N x0 x1 s5 s6 k2 (ref1_partFits_L1 N x0 x1 s5 s6 k2 n) s8 w1024
def ref1_partFits_L0T (N : Nat) (x0 : Str) (x1 : Str) (k0 : (List Bool) → Option Bool) (self : (List Bool) → Int → Option Bool) (s5 : List Bool) (s6 : Int) : Option Bool :=
  br (decide (s6 < (x0.length : Int)))
    (br (decide (0 ≤ (IntKind.i64.wrap ((x1.length : Int) + (1 : Int))) ∧ (IntKind.i64.wrap ((x1.length : Int) + (1 : Int))) ≤ (IntKind.i64.wrap ((x1.length : Int) + (1 : Int))) ∧ (IntKind.i64.wrap ((x1.length : Int) + (1 : Int))) * (24 * Ty.sz .bool : Nat) ≤ 140737488355328))
      (ref1_partFits_L1 N x0 x1 s5 s6 (fun o1_w1024 =>
          self o1_w1024 (IntKind.i64.wrap (s6 + (1 : Int)))) N (0 : Int) (mk0 (IntKind.i64.wrap ((x1.length : Int) + (1 : Int))) (zero .bool)))
      none)
    (k0 s5)
def ref1_partFits_L0 (N : Nat) (x0 : Str) (x1 : Str) (k0 : (List Bool) → Option Bool) : Nat → (List Bool) → Int → Option Bool
  | 0, _, _ => none
  | n + 1, s5, s6 => ref1_partFits_L0T N x0 x1 k0 (ref1_partFits_L0 N x0 x1 k0 n) s5 s6
def ref1_partFits (N : Nat) (x0 : Str) (x1 : Str) : Option Bool :=
  br (decide (0 ≤ (IntKind.i64.wrap ((x1.length : Int) + (1 : Int))) ∧ (IntKind.i64.wrap ((x1.length : Int) + (1 : Int))) ≤ (IntKind.i64.wrap ((x1.length : Int) + (1 : Int))) ∧ (IntKind.i64.wrap ((x1.length : Int) + (1 : Int))) * (24 * Ty.sz .bool : Nat) ≤ 140737488355328))
    (br (decide (0 ≤ (0 : Int) ∧ (0 : Int) < ((mk0 (IntKind.i64.wrap ((x1.length : Int) + (1 : Int))) (zero .bool)).length : Int)))
      (bnd (geti (mk0 (IntKind.i64.wrap ((x1.length : Int) + (1 : Int))) (zero .bool)) (0 : Int)) fun _ =>
      ref1_partFits_L0 N x0 x1 (fun o0_5 =>
          bnd (geti o0_5 (x1.length : Int)) fun t85 =>
          some t85) N (seti (mk0 (IntKind.i64.wrap ((x1.length : Int) + (1 : Int))) (zero .bool)) (0 : Int) true) (0 : Int))
      none)
    none
abbrev ref1_partFits_sg (f : SV [.v .str, .v .str] → BV [] → Option (Bool)) : AF := { ps := [.v .str, .v .str], bs := [], rs := [.v .bool], cs := [], R := Bool, out := fun z => ((z, ()), ()), f := f }
abbrev ref1_partFits_pk : SV [.v .bool] → BV [] → Bool := fun x _ => x.1
def ref1_partFits_fn (_N : Nat) : FuncId → Option Tmp → Option AF := fun f _ =>
  match f with
    | _ => none
theorem ref1_partFits_fn_ok (N : Nat) : ∀ f q F, ref1_partFits_fn N f q = some F → Sound Tryd.prog GW B0G f F := by
  intro f q F h
  unfold ref1_partFits_fn at h
  split at h
  · cases h
def ref1_partFits_h : Nat → Hint := fun i =>
  match i with
  | 0 => ⟨[5], [0, 1, 5, 6], [], [1, 5], [], []⟩
  | 2 => ⟨[], [0, 1, 5, 6, 7, 8], [1024], [0, 1, 5, 6, 7], [1024], []⟩
  | 100012 => ⟨[1012, 1024], [1], [], [], [], []⟩
  | _ => ⟨[], [], [], [], [], []⟩
abbrev ref1_partFits_E (N : Nat) : Env := mkE ref1_partFits_h (ref1_partFits_fn N) (fun i => match i with | 12 => true | 24 => true | _ => false) (fun _ => false)
abbrev ref1_partFits_L1_fs : List (Nat × Sl) := [(0, .v .str), (1, .v .str), (5, .v (.sl .bool)), (6, .v (.int .i64)), (7, .row 1024), (8, .v (.int .i64))]
abbrev ref1_partFits_L1_bs : List (Nat × Sb) := [(1024, .row 4 .bool true)]
def ref1_partFits_L1_hd (x0 : Str) (x1 : Str) (s5 : List Bool) (s6 : Int) (s8 : Int) (w1024 : List Bool) : St := ⟨87, [(0, .v .str x0), (1, .v .str x1), (5, .v (.sl .bool) s5), (6, .v (.int .i64) s6), (7, .row 1024), (8, .v (.int .i64) s8)], [(1024, .row 4 .bool true w1024)]⟩
def ref1_partFits_L1_tl2 (x0 : Str) (x1 : Str) (s5 : List Bool) (s6 : Int) (o1_w1024 : List Bool) : St := ⟨87, [(0, .v .str x0), (1, .v .str x1), (5, .v (.sl .bool) s5), (6, .v (.int .i64) s6), (7, .row 1024)], [(1024, .row 4 .bool true o1_w1024)]⟩
def ref1_partFits_L1_G (N : Nat) (x0 : Str) (x1 : Str) (s5 : List Bool) (s6 : Int) (s8 : Int) (w1024 : List Bool) (k : Ex → St → Option Bool) : Option Bool :=
  ref1_partFits_L1 N x0 x1 s5 s6 (fun o1_w1024 => k (.exit 2) (ref1_partFits_L1_tl2 x0 x1 s5 s6 o1_w1024)) N s8 w1024
abbrev ref1_partFits_L1_F (N : Nat) : FV ref1_partFits_L1_fs → HV ref1_partFits_L1_bs → (Ex → St → Option Bool) → Option Bool := fun x y k => ref1_partFits_L1_G N x.1 x.2.1 x.2.2.1 x.2.2.2.1 x.2.2.2.2.2.1 y.1 k
abbrev ref1_partFits_L0_fs : List (Nat × Sl) := [(0, .v .str), (1, .v .str), (5, .v (.sl .bool)), (6, .v (.int .i64))]
abbrev ref1_partFits_L0_bs : List (Nat × Sb) := []
def ref1_partFits_L0_hd (x0 : Str) (x1 : Str) (s5 : List Bool) (s6 : Int) : St := ⟨87, [(0, .v .str x0), (1, .v .str x1), (5, .v (.sl .bool) s5), (6, .v (.int .i64) s6)], []⟩
def ref1_partFits_L0_tl0 (_x0 : Str) (x1 : Str) (o0_5 : List Bool) : St := ⟨87, [(1, .v .str x1), (5, .v (.sl .bool) o0_5)], []⟩
def ref1_partFits_L0_G (N : Nat) (x0 : Str) (x1 : Str) (s5 : List Bool) (s6 : Int) (k : Ex → St → Option Bool) : Option Bool :=
  ref1_partFits_L0 N x0 x1 (fun o0_5 => k (.exit 0) (ref1_partFits_L0_tl0 x0 x1 o0_5)) N s5 s6
abbrev ref1_partFits_L0_F (N : Nat) : FV ref1_partFits_L0_fs → HV ref1_partFits_L0_bs → (Ex → St → Option Bool) → Option Bool := fun x _ k => ref1_partFits_L0_G N x.1 x.2.1 x.2.2.1 x.2.2.2.1 k
noncomputable def ref1_partFits_LP (N : Nat) : Nat → Code → St → (Ex → St → Option Bool) → Option Bool := fun i c =>
  match i with
  | 0 => (LPc 87 ref1_partFits_L0_fs ref1_partFits_L0_bs (ref1_partFits_L0_F N) (fun st k => iter (ref1_partFits_h 0) (exec (ref1_partFits_E N) N c 0) N st k))
  | 2 => (LPc 87 ref1_partFits_L1_fs ref1_partFits_L1_bs (ref1_partFits_L1_F N) (fun st k => iter (ref1_partFits_h 2) (exec (ref1_partFits_E N) N c 2) N st k))
  | i => fun st k => iter (ref1_partFits_h i) (exec (ref1_partFits_E N) N c i) N st k
theorem ref1_partFits_L1_step (N : Nat) (x0 : Str) (x1 : Str) (s5 : List Bool) (s6 : Int) (KX : Nat → St → Option Bool) (I : St → Option Bool) (s8 : Int) (w1024 : List Bool) :
    execL (ref1_partFits_LP N) (ref1_partFits_E N) (cAt (bodyOf Tryd.f87) [true, true, true, false, true, false, false, true, false, false, true, false, true, false, false]) 2 (ref1_partFits_L1_hd x0 x1 s5 s6 s8 w1024) (roundK (ref1_partFits_h 2) I KX (resD (ref1_partFits_E N) Tryd.f87 (ref1_partFits_sg fun x _ => ref1_partFits N x.1 x.2.1) ref1_partFits_pk)) = ref1_partFits_L1T N x0 x1 s5 s6 (fun o1_w1024 => KX 2 (ref1_partFits_L1_tl2 x0 x1 s5 s6 o1_w1024)) (fun s8 w1024 => I (ref1_partFits_L1_hd x0 x1 s5 s6 s8 w1024)) s8 w1024 := by kernel_rfl
theorem ref1_partFits_L1_ok (N : Nat) : ∀ x y k, (∀ st, k .ret st = (resD (ref1_partFits_E N) Tryd.f87 (ref1_partFits_sg fun x _ => ref1_partFits N x.1 x.2.1) ref1_partFits_pk) st) → iter (ref1_partFits_h 2) (exec (ref1_partFits_E N) N (cAt (bodyOf Tryd.f87) [true, true, true, false, true, false, false, true, false, false, true, false, true, false, false]) 2) N ⟨87, unF ref1_partFits_L1_fs x, unH ref1_partFits_L1_bs y⟩ k = ref1_partFits_L1_F N x y k := fun x y k hk =>
  iter_link (S := (Int) × (List Bool) × Unit) (ref1_partFits_h 2) _ (execL (ref1_partFits_LP N) (ref1_partFits_E N) (cAt (bodyOf Tryd.f87) [true, true, true, false, true, false, false, true, false, false, true, false, true, false, false]) 2) (resD (ref1_partFits_E N) Tryd.f87 (ref1_partFits_sg fun x _ => ref1_partFits N x.1 x.2.1) ref1_partFits_pk) (fun st k hk => execL_eq _ _ N _ (cAt (bodyOf Tryd.f87) [true, true, true, false, true, false, false, true, false, false, true, false, true, false, false]) 2 (show LoopsOk (ref1_partFits_LP N) (ref1_partFits_E N) N (resD (ref1_partFits_E N) Tryd.f87 (ref1_partFits_sg fun x _ => ref1_partFits N x.1 x.2.1) ref1_partFits_pk) [] from trivial) st k hk) (fun s => ref1_partFits_L1_hd x.1 x.2.1 x.2.2.1 x.2.2.2.1 s.1 s.2.1) k hk
    (fun self s => ref1_partFits_L1T N x.1 x.2.1 x.2.2.1 x.2.2.2.1 (fun o1_w1024 => k (.exit 2) (ref1_partFits_L1_tl2 x.1 x.2.1 x.2.2.1 x.2.2.2.1 o1_w1024)) (fun s8 w1024 => self (s8, w1024, ())) s.1 s.2.1) (fun n s => ref1_partFits_L1 N x.1 x.2.1 x.2.2.1 x.2.2.2.1 (fun o1_w1024 => k (.exit 2) (ref1_partFits_L1_tl2 x.1 x.2.1 x.2.2.1 x.2.2.2.1 o1_w1024)) n s.1 s.2.1) (fun _ => rfl) (fun _ _ => rfl)
    (fun I s => ref1_partFits_L1_step N x.1 x.2.1 x.2.2.1 x.2.2.2.1 (fun j => k (.exit j)) I s.1 s.2.1) N (x.2.2.2.2.2.1, y.1, ())
theorem ref1_partFits_lp2 (N : Nat) : ∀ st k, (∀ st, k .ret st = (resD (ref1_partFits_E N) Tryd.f87 (ref1_partFits_sg fun x _ => ref1_partFits N x.1 x.2.1) ref1_partFits_pk) st) → ref1_partFits_LP N 2 (cAt (bodyOf Tryd.f87) [true, true, true, false, true, false, false, true, false, false, true, false, true, false, false]) st k = iter (Env.hint (ref1_partFits_E N) 2) (exec (ref1_partFits_E N) N (cAt (bodyOf Tryd.f87) [true, true, true, false, true, false, false, true, false, false, true, false, true, false, false]) 2) N st k := fun st k hk => LPc_eq 87 ref1_partFits_L1_fs ref1_partFits_L1_bs _ _ (resD (ref1_partFits_E N) Tryd.f87 (ref1_partFits_sg fun x _ => ref1_partFits N x.1 x.2.1) ref1_partFits_pk) (ref1_partFits_L1_ok N) _ st k hk (rfl)
theorem ref1_partFits_L0_step (N : Nat) (x0 : Str) (x1 : Str) (KX : Nat → St → Option Bool) (I : St → Option Bool) (s5 : List Bool) (s6 : Int) :
    execL (ref1_partFits_LP N) (ref1_partFits_E N) (cAt (bodyOf Tryd.f87) [true, true, true, false, true, false, false]) 0 (ref1_partFits_L0_hd x0 x1 s5 s6) (roundK (ref1_partFits_h 0) I KX (resD (ref1_partFits_E N) Tryd.f87 (ref1_partFits_sg fun x _ => ref1_partFits N x.1 x.2.1) ref1_partFits_pk)) = ref1_partFits_L0T N x0 x1 (fun o0_5 => KX 0 (ref1_partFits_L0_tl0 x0 x1 o0_5)) (fun s5 s6 => I (ref1_partFits_L0_hd x0 x1 s5 s6)) s5 s6 := by kernel_rfl
theorem ref1_partFits_L0_ok (N : Nat) : ∀ x y k, (∀ st, k .ret st = (resD (ref1_partFits_E N) Tryd.f87 (ref1_partFits_sg fun x _ => ref1_partFits N x.1 x.2.1) ref1_partFits_pk) st) → iter (ref1_partFits_h 0) (exec (ref1_partFits_E N) N (cAt (bodyOf Tryd.f87) [true, true, true, false, true, false, false]) 0) N ⟨87, unF ref1_partFits_L0_fs x, unH ref1_partFits_L0_bs y⟩ k = ref1_partFits_L0_F N x y k := fun x _ k hk =>
  iter_link (S := (List Bool) × (Int) × Unit) (ref1_partFits_h 0) _ (execL (ref1_partFits_LP N) (ref1_partFits_E N) (cAt (bodyOf Tryd.f87) [true, true, true, false, true, false, false]) 0) (resD (ref1_partFits_E N) Tryd.f87 (ref1_partFits_sg fun x _ => ref1_partFits N x.1 x.2.1) ref1_partFits_pk) (fun st k hk => execL_eq _ _ N _ (cAt (bodyOf Tryd.f87) [true, true, true, false, true, false, false]) 0 (show LoopsOk (ref1_partFits_LP N) (ref1_partFits_E N) N (resD (ref1_partFits_E N) Tryd.f87 (ref1_partFits_sg fun x _ => ref1_partFits N x.1 x.2.1) ref1_partFits_pk) [(2, (cAt (bodyOf Tryd.f87) [true, true, true, false, true, false, false, true, false, false, true, false, true, false, false]))] from ⟨ref1_partFits_lp2 N, trivial⟩) st k hk) (fun s => ref1_partFits_L0_hd x.1 x.2.1 s.1 s.2.1) k hk
    (fun self s => ref1_partFits_L0T N x.1 x.2.1 (fun o0_5 => k (.exit 0) (ref1_partFits_L0_tl0 x.1 x.2.1 o0_5)) (fun s5 s6 => self (s5, s6, ())) s.1 s.2.1) (fun n s => ref1_partFits_L0 N x.1 x.2.1 (fun o0_5 => k (.exit 0) (ref1_partFits_L0_tl0 x.1 x.2.1 o0_5)) n s.1 s.2.1) (fun _ => rfl) (fun _ _ => rfl)
    (fun I s => ref1_partFits_L0_step N x.1 x.2.1 (fun j => k (.exit j)) I s.1 s.2.1) N (x.2.2.1, x.2.2.2.1, ())
theorem ref1_partFits_lp0 (N : Nat) : ∀ st k, (∀ st, k .ret st = (resD (ref1_partFits_E N) Tryd.f87 (ref1_partFits_sg fun x _ => ref1_partFits N x.1 x.2.1) ref1_partFits_pk) st) → ref1_partFits_LP N 0 (cAt (bodyOf Tryd.f87) [true, true, true, false, true, false, false]) st k = iter (Env.hint (ref1_partFits_E N) 0) (exec (ref1_partFits_E N) N (cAt (bodyOf Tryd.f87) [true, true, true, false, true, false, false]) 0) N st k := fun st k hk => LPc_eq 87 ref1_partFits_L0_fs ref1_partFits_L0_bs _ _ (resD (ref1_partFits_E N) Tryd.f87 (ref1_partFits_sg fun x _ => ref1_partFits N x.1 x.2.1) ref1_partFits_pk) (ref1_partFits_L0_ok N) _ st k hk (rfl)
theorem ref1_partFits_core (N : Nat) (x : SV [.v .str, .v .str]) (y : BV []) : runL (ref1_partFits_E N) Tryd.f87 (ref1_partFits_sg fun x _ => ref1_partFits N x.1 x.2.1) ref1_partFits_pk (ref1_partFits_LP N) x y = ref1_partFits N x.1 x.2.1 := by kernel_rfl
theorem ref1_partFits_sound (N : Nat) : Sound Tryd.prog GW B0G 87 (ref1_partFits_sg fun x _ => ref1_partFits N x.1 x.2.1) :=
  runD_sound (mkE_ok ref1_partFits_h (ref1_partFits_fn N) _ _ (ref1_partFits_fn_ok N)) Tryd.func87 rfl Tryd.call87 (ref1_partFits_sg fun x _ => ref1_partFits N x.1 x.2.1) ref1_partFits_pk (fun _ _ => rfl) N (fun x y _ h => ((runL_eq (ref1_partFits_E N) N Tryd.f87 (ref1_partFits_sg fun x _ => ref1_partFits N x.1 x.2.1) ref1_partFits_pk (ref1_partFits_LP N) (show LoopsOk (ref1_partFits_LP N) (ref1_partFits_E N) N (resD (ref1_partFits_E N) Tryd.f87 (ref1_partFits_sg fun x _ => ref1_partFits N x.1 x.2.1) ref1_partFits_pk) [(0, (cAt (bodyOf Tryd.f87) [true, true, true, false, true, false, false])), (2, (cAt (bodyOf Tryd.f87) [true, true, true, false, true, false, false, true, false, false, true, false, true, false, false]))] from ⟨ref1_partFits_lp0 N, ref1_partFits_lp2 N, trivial⟩) x y).trans (ref1_partFits_core N x y)).trans h)
def ref1_FitsOf_L1T (N : Nat) (t12 : List Str) (s6 : List Bool) (t20 : List Str) (s8 : Int) (k2 : (List Bool) → Option Bool) (self : Int → (List Bool) → Option Bool) (s10 : Int) (w1030 : List Bool) : Option Bool :=
  br (decide (s10 ≤ (t12.length : Int)))
    (bnd (geti t20 s8) fun t39 =>
    br (t39 == ([42, 42] : Str))
      (bnd (geti s6 s10) fun t46 =>
      br (t46)
        (br (decide (0 ≤ s10 ∧ s10 < (w1030.length : Int)))
          (bnd (geti w1030 s10) fun _ =>
          self (IntKind.i64.wrap (s10 + (1 : Int))) (seti w1030 s10 true))
          none)
        (br (decide (s10 > (0 : Int)))
          (br (decide (0 ≤ (IntKind.i64.wrap (s10 - (1 : Int))) ∧ (IntKind.i64.wrap (s10 - (1 : Int))) < (w1030.length : Int)))
            (bnd (geti w1030 (IntKind.i64.wrap (s10 - (1 : Int)))) fun t56 =>
            br (decide (0 ≤ s10 ∧ s10 < (w1030.length : Int)))
              (bnd (geti w1030 s10) fun _ =>
              self (IntKind.i64.wrap (s10 + (1 : Int))) (seti w1030 s10 t56))
              none)
            none)
          (br (decide (0 ≤ s10 ∧ s10 < (w1030.length : Int)))
            (bnd (geti w1030 s10) fun _ =>
            self (IntKind.i64.wrap (s10 + (1 : Int))) (seti w1030 s10 false))
            none)))
      (br (decide (s10 > (0 : Int)))
        (bnd (geti s6 (IntKind.i64.wrap (s10 - (1 : Int)))) fun t68 =>
        br (t68)
          (bnd (geti t20 s8) fun t74 =>
          bnd (geti t12 (IntKind.i64.wrap (s10 - (1 : Int)))) fun t79 =>
          bnd (ref1_partFits N t74 t79) fun t81 =>
          br (decide (0 ≤ s10 ∧ s10 < (w1030.length : Int)))
            (bnd (geti w1030 s10) fun _ =>
            self (IntKind.i64.wrap (s10 + (1 : Int))) (seti w1030 s10 t81))
            none)
          (br (decide (0 ≤ s10 ∧ s10 < (w1030.length : Int)))
            (bnd (geti w1030 s10) fun _ =>
            self (IntKind.i64.wrap (s10 + (1 : Int))) (seti w1030 s10 false))
            none))
        (br (decide (0 ≤ s10 ∧ s10 < (w1030.length : Int)))
          (bnd (geti w1030 s10) fun _ =>
          self (IntKind.i64.wrap (s10 + (1 : Int))) (seti w1030 s10 false))
          none)))
    (k2 w1030)
def ref1_FitsOf_L1 (N : Nat) (t12 : List Str) (s6 : List Bool) (t20 : List Str) (s8 : Int) (k2 : (List Bool) → Option Bool) : Nat → Int → (List Bool) → Option Bool
  | 0, _, _ => none
  | n + 1, s10, w1030 => ref1_FitsOf_L1T N t12 s6 t20 s8 k2 (ref1_FitsOf_L1 N t12 s6 t20 s8 k2 n) s10 w1030
def ref1_FitsOf_L0T (N : Nat) (t12 : List Str) (t20 : List Str) (k0 : (List Bool) → Option Bool) (self : (List Bool) → Int → Option Bool) (s6 : List Bool) (s8 : Int) : Option Bool :=
  br (decide (s8 < (t20.length : Int)))
    (br (decide (0 ≤ (IntKind.i64.wrap ((t12.length : Int) + (1 : Int))) ∧ (IntKind.i64.wrap ((t12.length : Int) + (1 : Int))) ≤ (IntKind.i64.wrap ((t12.length : Int) + (1 : Int))) ∧ (IntKind.i64.wrap ((t12.length : Int) + (1 : Int))) * (24 * Ty.sz .bool : Nat) ≤ 140737488355328))
      (ref1_FitsOf_L1 N t12 s6 t20 s8 (fun o1_w1030 =>
          self o1_w1030 (IntKind.i64.wrap (s8 + (1 : Int)))) N (0 : Int) (mk0 (IntKind.i64.wrap ((t12.length : Int) + (1 : Int))) (zero .bool)))
      none)
    (k0 s6)
def ref1_FitsOf_L0 (N : Nat) (t12 : List Str) (t20 : List Str) (k0 : (List Bool) → Option Bool) : Nat → (List Bool) → Int → Option Bool
  | 0, _, _ => none
  | n + 1, s6, s8 => ref1_FitsOf_L0T N t12 t20 k0 (ref1_FitsOf_L0 N t12 t20 k0 n) s6 s8
def ref1_FitsOf (N : Nat) (x0 : Str) (x1 : Str) : Option Bool :=
  bnd (strings_Split x1 ([47] : Str)) fun t12 =>
  br (decide (0 ≤ (IntKind.i64.wrap ((t12.length : Int) + (1 : Int))) ∧ (IntKind.i64.wrap ((t12.length : Int) + (1 : Int))) ≤ (IntKind.i64.wrap ((t12.length : Int) + (1 : Int))) ∧ (IntKind.i64.wrap ((t12.length : Int) + (1 : Int))) * (24 * Ty.sz .bool : Nat) ≤ 140737488355328))
    (br (decide (0 ≤ (0 : Int) ∧ (0 : Int) < ((mk0 (IntKind.i64.wrap ((t12.length : Int) + (1 : Int))) (zero .bool)).length : Int)))
      (bnd (geti (mk0 (IntKind.i64.wrap ((t12.length : Int) + (1 : Int))) (zero .bool)) (0 : Int)) fun _ =>
      bnd (strings_Split x0 ([47] : Str)) fun t20 =>
      ref1_FitsOf_L0 N t12 t20 (fun o0_6 =>
          bnd (geti o0_6 (t12.length : Int)) fun t88 =>
          some t88) N (seti (mk0 (IntKind.i64.wrap ((t12.length : Int) + (1 : Int))) (zero .bool)) (0 : Int) true) (0 : Int))
      none)
    none
abbrev ref1_FitsOf_sg (f : SV [.v .str, .v .str] → BV [] → Option (Bool)) : AF := { ps := [.v .str, .v .str], bs := [], rs := [.v .bool], cs := [], R := Bool, out := fun z => ((z, ()), ()), f := f }
abbrev ref1_FitsOf_pk : SV [.v .bool] → BV [] → Bool := fun x _ => x.1
def ref1_FitsOf_fn (N : Nat) : FuncId → Option Tmp → Option AF := fun f _ =>
  match f with
    | 42 => some (strings_Split_sg fun x _ => strings_Split x.1 x.2.1)
    | 87 => some (ref1_partFits_sg fun x _ => ref1_partFits N x.1 x.2.1)
    | _ => none
theorem ref1_FitsOf_fn_ok (N : Nat) : ∀ f q F, ref1_FitsOf_fn N f q = some F → Sound Tryd.prog GW B0G f F := by
  intro f q F h
  unfold ref1_FitsOf_fn at h
  split at h
  · cases h; exact strings_Split_sound
  · cases h; exact ref1_partFits_sound N
  · cases h
def ref1_FitsOf_h : Nat → Hint := fun i =>
  match i with
  | 0 => ⟨[6], [5, 6, 7, 8], [], [5, 6], [], []⟩
  | 2 => ⟨[], [5, 6, 7, 8, 9, 10], [1030], [5, 6, 7, 8, 9], [1030], []⟩
  | 100014 => ⟨[1016, 1030], [1], [], [], [], []⟩
  | _ => ⟨[], [], [], [], [], []⟩
abbrev ref1_FitsOf_E (N : Nat) : Env := mkE ref1_FitsOf_h (ref1_FitsOf_fn N) (fun i => match i with | 16 => true | 30 => true | _ => false) (fun _ => false)
abbrev ref1_FitsOf_L1_fs : List (Nat × Sl) := [(5, .v (.sl .str)), (6, .v (.sl .bool)), (7, .v (.sl .str)), (8, .v (.int .i64)), (9, .row 1030), (10, .v (.int .i64))]
abbrev ref1_FitsOf_L1_bs : List (Nat × Sb) := [(1030, .row 4 .bool true)]
def ref1_FitsOf_L1_hd (t12 : List Str) (s6 : List Bool) (t20 : List Str) (s8 : Int) (s10 : Int) (w1030 : List Bool) : St := ⟨90, [(5, .v (.sl .str) t12), (6, .v (.sl .bool) s6), (7, .v (.sl .str) t20), (8, .v (.int .i64) s8), (9, .row 1030), (10, .v (.int .i64) s10)], [(1030, .row 4 .bool true w1030)]⟩
def ref1_FitsOf_L1_tl2 (t12 : List Str) (s6 : List Bool) (t20 : List Str) (s8 : Int) (o1_w1030 : List Bool) : St := ⟨90, [(5, .v (.sl .str) t12), (6, .v (.sl .bool) s6), (7, .v (.sl .str) t20), (8, .v (.int .i64) s8), (9, .row 1030)], [(1030, .row 4 .bool true o1_w1030)]⟩
def ref1_FitsOf_L1_G (N : Nat) (t12 : List Str) (s6 : List Bool) (t20 : List Str) (s8 : Int) (s10 : Int) (w1030 : List Bool) (k : Ex → St → Option Bool) : Option Bool :=
  ref1_FitsOf_L1 N t12 s6 t20 s8 (fun o1_w1030 => k (.exit 2) (ref1_FitsOf_L1_tl2 t12 s6 t20 s8 o1_w1030)) N s10 w1030
abbrev ref1_FitsOf_L1_F (N : Nat) : FV ref1_FitsOf_L1_fs → HV ref1_FitsOf_L1_bs → (Ex → St → Option Bool) → Option Bool := fun x y k => ref1_FitsOf_L1_G N x.1 x.2.1 x.2.2.1 x.2.2.2.1 x.2.2.2.2.2.1 y.1 k
abbrev ref1_FitsOf_L0_fs : List (Nat × Sl) := [(5, .v (.sl .str)), (6, .v (.sl .bool)), (7, .v (.sl .str)), (8, .v (.int .i64))]
abbrev ref1_FitsOf_L0_bs : List (Nat × Sb) := []
def ref1_FitsOf_L0_hd (t12 : List Str) (t20 : List Str) (s6 : List Bool) (s8 : Int) : St := ⟨90, [(5, .v (.sl .str) t12), (6, .v (.sl .bool) s6), (7, .v (.sl .str) t20), (8, .v (.int .i64) s8)], []⟩
def ref1_FitsOf_L0_tl0 (t12 : List Str) (_t20 : List Str) (o0_6 : List Bool) : St := ⟨90, [(5, .v (.sl .str) t12), (6, .v (.sl .bool) o0_6)], []⟩
def ref1_FitsOf_L0_G (N : Nat) (t12 : List Str) (t20 : List Str) (s6 : List Bool) (s8 : Int) (k : Ex → St → Option Bool) : Option Bool :=
  ref1_FitsOf_L0 N t12 t20 (fun o0_6 => k (.exit 0) (ref1_FitsOf_L0_tl0 t12 t20 o0_6)) N s6 s8
abbrev ref1_FitsOf_L0_F (N : Nat) : FV ref1_FitsOf_L0_fs → HV ref1_FitsOf_L0_bs → (Ex → St → Option Bool) → Option Bool := fun x _ k => ref1_FitsOf_L0_G N x.1 x.2.2.1 x.2.1 x.2.2.2.1 k
noncomputable def ref1_FitsOf_LP (N : Nat) : Nat → Code → St → (Ex → St → Option Bool) → Option Bool := fun i c =>
  match i with
  | 0 => (LPc 90 ref1_FitsOf_L0_fs ref1_FitsOf_L0_bs (ref1_FitsOf_L0_F N) (fun st k => iter (ref1_FitsOf_h 0) (exec (ref1_FitsOf_E N) N c 0) N st k))
  | 2 => (LPc 90 ref1_FitsOf_L1_fs ref1_FitsOf_L1_bs (ref1_FitsOf_L1_F N) (fun st k => iter (ref1_FitsOf_h 2) (exec (ref1_FitsOf_E N) N c 2) N st k))
  | i => fun st k => iter (ref1_FitsOf_h i) (exec (ref1_FitsOf_E N) N c i) N st k
theorem ref1_FitsOf_L1_step (N : Nat) (t12 : List Str) (s6 : List Bool) (t20 : List Str) (s8 : Int) (KX : Nat → St → Option Bool) (I : St → Option Bool) (s10 : Int) (w1030 : List Bool) :
    execL (ref1_FitsOf_LP N) (ref1_FitsOf_E N) (cAt (bodyOf Tryd.f41) [true, true, true, true, true, false, true, false, false, true, false, false, true, false, true, false, false]) 2 (ref1_FitsOf_L1_hd t12 s6 t20 s8 s10 w1030) (roundK (ref1_FitsOf_h 2) I KX (resD (ref1_FitsOf_E N) Tryd.f41 (ref1_FitsOf_sg fun x _ => ref1_FitsOf N x.1 x.2.1) ref1_FitsOf_pk)) = ref1_FitsOf_L1T N t12 s6 t20 s8 (fun o1_w1030 => KX 2 (ref1_FitsOf_L1_tl2 t12 s6 t20 s8 o1_w1030)) (fun s10 w1030 => I (ref1_FitsOf_L1_hd t12 s6 t20 s8 s10 w1030)) s10 w1030 := by kernel_rfl
theorem ref1_FitsOf_L1_ok (N : Nat) : ∀ x y k, (∀ st, k .ret st = (resD (ref1_FitsOf_E N) Tryd.f41 (ref1_FitsOf_sg fun x _ => ref1_FitsOf N x.1 x.2.1) ref1_FitsOf_pk) st) → iter (ref1_FitsOf_h 2) (exec (ref1_FitsOf_E N) N (cAt (bodyOf Tryd.f41) [true, true, true, true, true, false, true, false, false, true, false, false, true, false, true, false, false]) 2) N ⟨90, unF ref1_FitsOf_L1_fs x, unH ref1_FitsOf_L1_bs y⟩ k = ref1_FitsOf_L1_F N x y k := fun x y k hk =>
  iter_link (S := (Int) × (List Bool) × Unit) (ref1_FitsOf_h 2) _ (execL (ref1_FitsOf_LP N) (ref1_FitsOf_E N) (cAt (bodyOf Tryd.f41) [true, true, true, true, true, false, true, false, false, true, false, false, true, false, true, false, false]) 2) (resD (ref1_FitsOf_E N) Tryd.f41 (ref1_FitsOf_sg fun x _ => ref1_FitsOf N x.1 x.2.1) ref1_FitsOf_pk) (fun st k hk => execL_eq _ _ N _ (cAt (bodyOf Tryd.f41) [true, true, true, true, true, false, true, false, false, true, false, false, true, false, true, false, false]) 2 (show LoopsOk (ref1_FitsOf_LP N) (ref1_FitsOf_E N) N (resD (ref1_FitsOf_E N) Tryd.f41 (ref1_FitsOf_sg fun x _ => ref1_FitsOf N x.1 x.2.1) ref1_FitsOf_pk) [] from trivial) st k hk) (fun s => ref1_FitsOf_L1_hd x.1 x.2.1 x.2.2.1 x.2.2.2.1 s.1 s.2.1) k hk
    (fun self s => ref1_FitsOf_L1T N x.1 x.2.1 x.2.2.1 x.2.2.2.1 (fun o1_w1030 => k (.exit 2) (ref1_FitsOf_L1_tl2 x.1 x.2.1 x.2.2.1 x.2.2.2.1 o1_w1030)) (fun s10 w1030 => self (s10, w1030, ())) s.1 s.2.1) (fun n s => ref1_FitsOf_L1 N x.1 x.2.1 x.2.2.1 x.2.2.2.1 (fun o1_w1030 => k (.exit 2) (ref1_FitsOf_L1_tl2 x.1 x.2.1 x.2.2.1 x.2.2.2.1 o1_w1030)) n s.1 s.2.1) (fun _ => rfl) (fun _ _ => rfl)
    (fun I s => ref1_FitsOf_L1_step N x.1 x.2.1 x.2.2.1 x.2.2.2.1 (fun j => k (.exit j)) I s.1 s.2.1) N (x.2.2.2.2.2.1, y.1, ())
theorem ref1_FitsOf_lp2 (N : Nat) : ∀ st k, (∀ st, k .ret st = (resD (ref1_FitsOf_E N) Tryd.f41 (ref1_FitsOf_sg fun x _ => ref1_FitsOf N x.1 x.2.1) ref1_FitsOf_pk) st) → ref1_FitsOf_LP N 2 (cAt (bodyOf Tryd.f41) [true, true, true, true, true, false, true, false, false, true, false, false, true, false, true, false, false]) st k = iter (Env.hint (ref1_FitsOf_E N) 2) (exec (ref1_FitsOf_E N) N (cAt (bodyOf Tryd.f41) [true, true, true, true, true, false, true, false, false, true, false, false, true, false, true, false, false]) 2) N st k := fun st k hk => LPc_eq 90 ref1_FitsOf_L1_fs ref1_FitsOf_L1_bs _ _ (resD (ref1_FitsOf_E N) Tryd.f41 (ref1_FitsOf_sg fun x _ => ref1_FitsOf N x.1 x.2.1) ref1_FitsOf_pk) (ref1_FitsOf_L1_ok N) _ st k hk (rfl)
theorem ref1_FitsOf_L0_step (N : Nat) (t12 : List Str) (t20 : List Str) (KX : Nat → St → Option Bool) (I : St → Option Bool) (s6 : List Bool) (s8 : Int) :
    execL (ref1_FitsOf_LP N) (ref1_FitsOf_E N) (cAt (bodyOf Tryd.f41) [true, true, true, true, true, false, true, false, false]) 0 (ref1_FitsOf_L0_hd t12 t20 s6 s8) (roundK (ref1_FitsOf_h 0) I KX (resD (ref1_FitsOf_E N) Tryd.f41 (ref1_FitsOf_sg fun x _ => ref1_FitsOf N x.1 x.2.1) ref1_FitsOf_pk)) = ref1_FitsOf_L0T N t12 t20 (fun o0_6 => KX 0 (ref1_FitsOf_L0_tl0 t12 t20 o0_6)) (fun s6 s8 => I (ref1_FitsOf_L0_hd t12 t20 s6 s8)) s6 s8 := by kernel_rfl
theorem ref1_FitsOf_L0_ok (N : Nat) : ∀ x y k, (∀ st, k .ret st = (resD (ref1_FitsOf_E N) Tryd.f41 (ref1_FitsOf_sg fun x _ => ref1_FitsOf N x.1 x.2.1) ref1_FitsOf_pk) st) → iter (ref1_FitsOf_h 0) (exec (ref1_FitsOf_E N) N (cAt (bodyOf Tryd.f41) [true, true, true, true, true, false, true, false, false]) 0) N ⟨90, unF ref1_FitsOf_L0_fs x, unH ref1_FitsOf_L0_bs y⟩ k = ref1_FitsOf_L0_F N x y k := fun x _ k hk =>
  iter_link (S := (List Bool) × (Int) × Unit) (ref1_FitsOf_h 0) _ (execL (ref1_FitsOf_LP N) (ref1_FitsOf_E N) (cAt (bodyOf Tryd.f41) [true, true, true, true, true, false, true, false, false]) 0) (resD (ref1_FitsOf_E N) Tryd.f41 (ref1_FitsOf_sg fun x _ => ref1_FitsOf N x.1 x.2.1) ref1_FitsOf_pk) (fun st k hk => execL_eq _ _ N _ (cAt (bodyOf Tryd.f41) [true, true, true, true, true, false, true, false, false]) 0 (show LoopsOk (ref1_FitsOf_LP N) (ref1_FitsOf_E N) N (resD (ref1_FitsOf_E N) Tryd.f41 (ref1_FitsOf_sg fun x _ => ref1_FitsOf N x.1 x.2.1) ref1_FitsOf_pk) [(2, (cAt (bodyOf Tryd.f41) [true, true, true, true, true, false, true, false, false, true, false, false, true, false, true, false, false]))] from ⟨ref1_FitsOf_lp2 N, trivial⟩) st k hk) (fun s => ref1_FitsOf_L0_hd x.1 x.2.2.1 s.1 s.2.1) k hk
    (fun self s => ref1_FitsOf_L0T N x.1 x.2.2.1 (fun o0_6 => k (.exit 0) (ref1_FitsOf_L0_tl0 x.1 x.2.2.1 o0_6)) (fun s6 s8 => self (s6, s8, ())) s.1 s.2.1) (fun n s => ref1_FitsOf_L0 N x.1 x.2.2.1 (fun o0_6 => k (.exit 0) (ref1_FitsOf_L0_tl0 x.1 x.2.2.1 o0_6)) n s.1 s.2.1) (fun _ => rfl) (fun _ _ => rfl)
    (fun I s => ref1_FitsOf_L0_step N x.1 x.2.2.1 (fun j => k (.exit j)) I s.1 s.2.1) N (x.2.1, x.2.2.2.1, ())
theorem ref1_FitsOf_lp0 (N : Nat) : ∀ st k, (∀ st, k .ret st = (resD (ref1_FitsOf_E N) Tryd.f41 (ref1_FitsOf_sg fun x _ => ref1_FitsOf N x.1 x.2.1) ref1_FitsOf_pk) st) → ref1_FitsOf_LP N 0 (cAt (bodyOf Tryd.f41) [true, true, true, true, true, false, true, false, false]) st k = iter (Env.hint (ref1_FitsOf_E N) 0) (exec (ref1_FitsOf_E N) N (cAt (bodyOf Tryd.f41) [true, true, true, true, true, false, true, false, false]) 0) N st k := fun st k hk => LPc_eq 90 ref1_FitsOf_L0_fs ref1_FitsOf_L0_bs _ _ (resD (ref1_FitsOf_E N) Tryd.f41 (ref1_FitsOf_sg fun x _ => ref1_FitsOf N x.1 x.2.1) ref1_FitsOf_pk) (ref1_FitsOf_L0_ok N) _ st k hk (rfl)
theorem ref1_FitsOf_core (N : Nat) (x : SV [.v .str, .v .str]) (y : BV []) : runL (ref1_FitsOf_E N) Tryd.f41 (ref1_FitsOf_sg fun x _ => ref1_FitsOf N x.1 x.2.1) ref1_FitsOf_pk (ref1_FitsOf_LP N) x y = ref1_FitsOf N x.1 x.2.1 := by kernel_rfl
theorem ref1_FitsOf_sound (N : Nat) : Sound Tryd.prog GW B0G 41 (ref1_FitsOf_sg fun x _ => ref1_FitsOf N x.1 x.2.1) :=
  runD_sound (mkE_ok ref1_FitsOf_h (ref1_FitsOf_fn N) _ _ (ref1_FitsOf_fn_ok N)) Tryd.func41 rfl Tryd.call41 (ref1_FitsOf_sg fun x _ => ref1_FitsOf N x.1 x.2.1) ref1_FitsOf_pk (fun _ _ => rfl) N (fun x y _ h => ((runL_eq (ref1_FitsOf_E N) N Tryd.f41 (ref1_FitsOf_sg fun x _ => ref1_FitsOf N x.1 x.2.1) ref1_FitsOf_pk (ref1_FitsOf_LP N) (show LoopsOk (ref1_FitsOf_LP N) (ref1_FitsOf_E N) N (resD (ref1_FitsOf_E N) Tryd.f41 (ref1_FitsOf_sg fun x _ => ref1_FitsOf N x.1 x.2.1) ref1_FitsOf_pk) [(0, (cAt (bodyOf Tryd.f41) [true, true, true, true, true, false, true, false, false])), (2, (cAt (bodyOf Tryd.f41) [true, true, true, true, true, false, true, false, false, true, false, false, true, false, true, false, false]))] from ⟨ref1_FitsOf_lp0 N, ref1_FitsOf_lp2 N, trivial⟩) x y).trans (ref1_FitsOf_core N x y)).trans h)
def blob_Digest_L0T (_N : Nat) (x0 : List UInt8) (c9 : Int) (k0 : Int → Option Str) (self : Int → Int → Option Str) (s3 : Int) (s10 : Int) : Option Str :=
  br (decide (s10 < c9))
    (bnd (geti x0 s10) fun t12 =>
    self (IntKind.u64.wrap ((xorI .u64 s3 (IntKind.u64.wrap (UInt8.toNat t12 : Int))) * (1099511628211 : Int))) (IntKind.i64.wrap (s10 + (1 : Int))))
    (k0 s3)
def blob_Digest_L0 (N : Nat) (x0 : List UInt8) (c9 : Int) (k0 : Int → Option Str) : Nat → Int → Int → Option Str
  | 0, _, _ => none
  | n + 1, s3, s10 => blob_Digest_L0T N x0 c9 k0 (blob_Digest_L0 N x0 c9 k0 n) s3 s10
def blob_Digest_L1T (_N : Nat) (c22 : Int) (k2 : (List UInt8) → Option Str) (self : Int → Int → (List UInt8) → Option Str) (s3_1 : Int) (s23 : Int) (w1020 : List UInt8) : Option Str :=
  br (decide (s23 < c22))
    (bnd (geti ([48, 49, 50, 51, 52, 53, 54, 55, 56, 57, 97, 98, 99, 100, 101, 102] : Str) (andI .u64 s3_1 (15 : Int))) fun t31 =>
    br (decide (0 ≤ (IntKind.i64.wrap ((15 : Int) - s23)) ∧ (IntKind.i64.wrap ((15 : Int) - s23)) < (w1020.length : Int)))
      (bnd (geti w1020 (IntKind.i64.wrap ((15 : Int) - s23))) fun _ =>
      br (decide (0 ≤ (4 : Int)))
        (self (shrI .u64 s3_1 (4 : Int)) (IntKind.i64.wrap (s23 + (1 : Int))) (seti w1020 (IntKind.i64.wrap ((15 : Int) - s23)) t31))
        none)
      none)
    (k2 w1020)
def blob_Digest_L1 (N : Nat) (c22 : Int) (k2 : (List UInt8) → Option Str) : Nat → Int → Int → (List UInt8) → Option Str
  | 0, _, _, _ => none
  | n + 1, s3_1, s23, w1020 => blob_Digest_L1T N c22 k2 (blob_Digest_L1 N c22 k2 n) s3_1 s23 w1020
def blob_Digest (N : Nat) (x0 : List UInt8) : Option Str :=
  blob_Digest_L0 N x0 (x0.length : Int) (fun o0_3 =>
      br (decide (0 ≤ (16 : Int) ∧ (16 : Int) ≤ (16 : Int) ∧ (16 : Int) * (24 * Ty.sz .u8 : Nat) ≤ 140737488355328))
        (blob_Digest_L1 N ((mk0 (16 : Int) (zero .u8)).length : Int) (fun o1_w1020 =>
            some o1_w1020) N o0_3 (0 : Int) (mk0 (16 : Int) (zero .u8)))
        none) N (14695981039346656037 : Int) (0 : Int)
abbrev blob_Digest_sg (f : SV [.v (.sl .u8)] → BV [] → Option (Str)) : AF := { ps := [.v (.sl .u8)], bs := [], rs := [.v .str], cs := [], R := Str, out := fun z => ((z, ()), ()), f := f }
abbrev blob_Digest_pk : SV [.v .str] → BV [] → Str := fun x _ => x.1
def blob_Digest_fn (_N : Nat) : FuncId → Option Tmp → Option AF := fun f _ =>
  match f with
    | _ => none
theorem blob_Digest_fn_ok (N : Nat) : ∀ f q F, blob_Digest_fn N f q = some F → Sound Tryd.prog GW B0G f F := by
  intro f q F h
  unfold blob_Digest_fn at h
  split at h
  · cases h
def blob_Digest_h : Nat → Hint := fun i =>
  match i with
  | 0 => ⟨[], [3, 8, 9, 10], [], [3], [], []⟩
  | 2 => ⟨[], [3, 6, 22, 23], [1020], [6], [1020], []⟩
  | _ => ⟨[], [], [], [], [], []⟩
abbrev blob_Digest_E (N : Nat) : Env := mkE blob_Digest_h (blob_Digest_fn N) (fun i => match i with | 20 => true | _ => false) (fun _ => false)
abbrev blob_Digest_L0_fs : List (Nat × Sl) := [(3, .v (.int .u64)), (8, .v (.sl .u8)), (9, .v (.int .i64)), (10, .v (.int .i64))]
abbrev blob_Digest_L0_bs : List (Nat × Sb) := []
def blob_Digest_L0_hd (x0 : List UInt8) (c9 : Int) (s3 : Int) (s10 : Int) : St := ⟨38, [(3, .v (.int .u64) s3), (8, .v (.sl .u8) x0), (9, .v (.int .i64) c9), (10, .v (.int .i64) s10)], []⟩
def blob_Digest_L0_tl0 (_x0 : List UInt8) (_c9 : Int) (o0_3 : Int) : St := ⟨38, [(3, .v (.int .u64) o0_3)], []⟩
def blob_Digest_L0_G (N : Nat) (x0 : List UInt8) (c9 : Int) (s3 : Int) (s10 : Int) (k : Ex → St → Option Str) : Option Str :=
  blob_Digest_L0 N x0 c9 (fun o0_3 => k (.exit 0) (blob_Digest_L0_tl0 x0 c9 o0_3)) N s3 s10
abbrev blob_Digest_L0_F (N : Nat) : FV blob_Digest_L0_fs → HV blob_Digest_L0_bs → (Ex → St → Option Str) → Option Str := fun x _ k => blob_Digest_L0_G N x.2.1 x.2.2.1 x.1 x.2.2.2.1 k
abbrev blob_Digest_L1_fs : List (Nat × Sl) := [(3, .v (.int .u64)), (6, .row 1020), (22, .v (.int .i64)), (23, .v (.int .i64))]
abbrev blob_Digest_L1_bs : List (Nat × Sb) := [(1020, .row 5 .u8 true)]
def blob_Digest_L1_hd (c22 : Int) (s3_1 : Int) (s23 : Int) (w1020 : List UInt8) : St := ⟨38, [(3, .v (.int .u64) s3_1), (6, .row 1020), (22, .v (.int .i64) c22), (23, .v (.int .i64) s23)], [(1020, .row 5 .u8 true w1020)]⟩
def blob_Digest_L1_tl2 (_c22 : Int) (o1_w1020 : List UInt8) : St := ⟨38, [(6, .row 1020)], [(1020, .row 5 .u8 true o1_w1020)]⟩
def blob_Digest_L1_G (N : Nat) (c22 : Int) (s3_1 : Int) (s23 : Int) (w1020 : List UInt8) (k : Ex → St → Option Str) : Option Str :=
  blob_Digest_L1 N c22 (fun o1_w1020 => k (.exit 2) (blob_Digest_L1_tl2 c22 o1_w1020)) N s3_1 s23 w1020
abbrev blob_Digest_L1_F (N : Nat) : FV blob_Digest_L1_fs → HV blob_Digest_L1_bs → (Ex → St → Option Str) → Option Str := fun x y k => blob_Digest_L1_G N x.2.2.1 x.1 x.2.2.2.1 y.1 k
noncomputable def blob_Digest_LP (N : Nat) : Nat → Code → St → (Ex → St → Option Str) → Option Str := fun i c =>
  match i with
  | 0 => (LPc 38 blob_Digest_L0_fs blob_Digest_L0_bs (blob_Digest_L0_F N) (fun st k => iter (blob_Digest_h 0) (exec (blob_Digest_E N) N c 0) N st k))
  | 2 => (LPc 38 blob_Digest_L1_fs blob_Digest_L1_bs (blob_Digest_L1_F N) (fun st k => iter (blob_Digest_h 2) (exec (blob_Digest_E N) N c 2) N st k))
  | i => fun st k => iter (blob_Digest_h i) (exec (blob_Digest_E N) N c i) N st k
theorem blob_Digest_L1_step (N : Nat) (c22 : Int) (KX : Nat → St → Option Str) (I : St → Option Str) (s3_1 : Int) (s23 : Int) (w1020 : List UInt8) :
    execL (blob_Digest_LP N) (blob_Digest_E N) (cAt (bodyOf Tryd.f47) [true, true, true, true, false, true, false, false]) 2 (blob_Digest_L1_hd c22 s3_1 s23 w1020) (roundK (blob_Digest_h 2) I KX (resD (blob_Digest_E N) Tryd.f47 (blob_Digest_sg fun x _ => blob_Digest N x.1) blob_Digest_pk)) = blob_Digest_L1T N c22 (fun o1_w1020 => KX 2 (blob_Digest_L1_tl2 c22 o1_w1020)) (fun s3_1 s23 w1020 => I (blob_Digest_L1_hd c22 s3_1 s23 w1020)) s3_1 s23 w1020 := by kernel_rfl
theorem blob_Digest_L1_ok (N : Nat) : ∀ x y k, (∀ st, k .ret st = (resD (blob_Digest_E N) Tryd.f47 (blob_Digest_sg fun x _ => blob_Digest N x.1) blob_Digest_pk) st) → iter (blob_Digest_h 2) (exec (blob_Digest_E N) N (cAt (bodyOf Tryd.f47) [true, true, true, true, false, true, false, false]) 2) N ⟨38, unF blob_Digest_L1_fs x, unH blob_Digest_L1_bs y⟩ k = blob_Digest_L1_F N x y k := fun x y k hk =>
  iter_link (S := (Int) × (Int) × (List UInt8) × Unit) (blob_Digest_h 2) _ (execL (blob_Digest_LP N) (blob_Digest_E N) (cAt (bodyOf Tryd.f47) [true, true, true, true, false, true, false, false]) 2) (resD (blob_Digest_E N) Tryd.f47 (blob_Digest_sg fun x _ => blob_Digest N x.1) blob_Digest_pk) (fun st k hk => execL_eq _ _ N _ (cAt (bodyOf Tryd.f47) [true, true, true, true, false, true, false, false]) 2 (show LoopsOk (blob_Digest_LP N) (blob_Digest_E N) N (resD (blob_Digest_E N) Tryd.f47 (blob_Digest_sg fun x _ => blob_Digest N x.1) blob_Digest_pk) [] from trivial) st k hk) (fun s => blob_Digest_L1_hd x.2.2.1 s.1 s.2.1 s.2.2.1) k hk
    (fun self s => blob_Digest_L1T N x.2.2.1 (fun o1_w1020 => k (.exit 2) (blob_Digest_L1_tl2 x.2.2.1 o1_w1020)) (fun s3_1 s23 w1020 => self (s3_1, s23, w1020, ())) s.1 s.2.1 s.2.2.1) (fun n s => blob_Digest_L1 N x.2.2.1 (fun o1_w1020 => k (.exit 2) (blob_Digest_L1_tl2 x.2.2.1 o1_w1020)) n s.1 s.2.1 s.2.2.1) (fun _ => rfl) (fun _ _ => rfl)
    (fun I s => blob_Digest_L1_step N x.2.2.1 (fun j => k (.exit j)) I s.1 s.2.1 s.2.2.1) N (x.1, x.2.2.2.1, y.1, ())
theorem blob_Digest_lp2 (N : Nat) : ∀ st k, (∀ st, k .ret st = (resD (blob_Digest_E N) Tryd.f47 (blob_Digest_sg fun x _ => blob_Digest N x.1) blob_Digest_pk) st) → blob_Digest_LP N 2 (cAt (bodyOf Tryd.f47) [true, true, true, true, false, true, false, false]) st k = iter (Env.hint (blob_Digest_E N) 2) (exec (blob_Digest_E N) N (cAt (bodyOf Tryd.f47) [true, true, true, true, false, true, false, false]) 2) N st k := fun st k hk => LPc_eq 38 blob_Digest_L1_fs blob_Digest_L1_bs _ _ (resD (blob_Digest_E N) Tryd.f47 (blob_Digest_sg fun x _ => blob_Digest N x.1) blob_Digest_pk) (blob_Digest_L1_ok N) _ st k hk (rfl)
theorem blob_Digest_L0_step (N : Nat) (x0 : List UInt8) (c9 : Int) (KX : Nat → St → Option Str) (I : St → Option Str) (s3 : Int) (s10 : Int) :
    execL (blob_Digest_LP N) (blob_Digest_E N) (cAt (bodyOf Tryd.f47) [true, true, false, true, false, false]) 0 (blob_Digest_L0_hd x0 c9 s3 s10) (roundK (blob_Digest_h 0) I KX (resD (blob_Digest_E N) Tryd.f47 (blob_Digest_sg fun x _ => blob_Digest N x.1) blob_Digest_pk)) = blob_Digest_L0T N x0 c9 (fun o0_3 => KX 0 (blob_Digest_L0_tl0 x0 c9 o0_3)) (fun s3 s10 => I (blob_Digest_L0_hd x0 c9 s3 s10)) s3 s10 := by kernel_rfl
theorem blob_Digest_L0_ok (N : Nat) : ∀ x y k, (∀ st, k .ret st = (resD (blob_Digest_E N) Tryd.f47 (blob_Digest_sg fun x _ => blob_Digest N x.1) blob_Digest_pk) st) → iter (blob_Digest_h 0) (exec (blob_Digest_E N) N (cAt (bodyOf Tryd.f47) [true, true, false, true, false, false]) 0) N ⟨38, unF blob_Digest_L0_fs x, unH blob_Digest_L0_bs y⟩ k = blob_Digest_L0_F N x y k := fun x _ k hk =>
  iter_link (S := (Int) × (Int) × Unit) (blob_Digest_h 0) _ (execL (blob_Digest_LP N) (blob_Digest_E N) (cAt (bodyOf Tryd.f47) [true, true, false, true, false, false]) 0) (resD (blob_Digest_E N) Tryd.f47 (blob_Digest_sg fun x _ => blob_Digest N x.1) blob_Digest_pk) (fun st k hk => execL_eq _ _ N _ (cAt (bodyOf Tryd.f47) [true, true, false, true, false, false]) 0 (show LoopsOk (blob_Digest_LP N) (blob_Digest_E N) N (resD (blob_Digest_E N) Tryd.f47 (blob_Digest_sg fun x _ => blob_Digest N x.1) blob_Digest_pk) [] from trivial) st k hk) (fun s => blob_Digest_L0_hd x.2.1 x.2.2.1 s.1 s.2.1) k hk
    (fun self s => blob_Digest_L0T N x.2.1 x.2.2.1 (fun o0_3 => k (.exit 0) (blob_Digest_L0_tl0 x.2.1 x.2.2.1 o0_3)) (fun s3 s10 => self (s3, s10, ())) s.1 s.2.1) (fun n s => blob_Digest_L0 N x.2.1 x.2.2.1 (fun o0_3 => k (.exit 0) (blob_Digest_L0_tl0 x.2.1 x.2.2.1 o0_3)) n s.1 s.2.1) (fun _ => rfl) (fun _ _ => rfl)
    (fun I s => blob_Digest_L0_step N x.2.1 x.2.2.1 (fun j => k (.exit j)) I s.1 s.2.1) N (x.1, x.2.2.2.1, ())
theorem blob_Digest_lp0 (N : Nat) : ∀ st k, (∀ st, k .ret st = (resD (blob_Digest_E N) Tryd.f47 (blob_Digest_sg fun x _ => blob_Digest N x.1) blob_Digest_pk) st) → blob_Digest_LP N 0 (cAt (bodyOf Tryd.f47) [true, true, false, true, false, false]) st k = iter (Env.hint (blob_Digest_E N) 0) (exec (blob_Digest_E N) N (cAt (bodyOf Tryd.f47) [true, true, false, true, false, false]) 0) N st k := fun st k hk => LPc_eq 38 blob_Digest_L0_fs blob_Digest_L0_bs _ _ (resD (blob_Digest_E N) Tryd.f47 (blob_Digest_sg fun x _ => blob_Digest N x.1) blob_Digest_pk) (blob_Digest_L0_ok N) _ st k hk (rfl)
theorem blob_Digest_core (N : Nat) (x : SV [.v (.sl .u8)]) (y : BV []) : runL (blob_Digest_E N) Tryd.f47 (blob_Digest_sg fun x _ => blob_Digest N x.1) blob_Digest_pk (blob_Digest_LP N) x y = blob_Digest N x.1 := by kernel_rfl
theorem blob_Digest_sound (N : Nat) : Sound Tryd.prog GW B0G 47 (blob_Digest_sg fun x _ => blob_Digest N x.1) :=
  runD_sound (mkE_ok blob_Digest_h (blob_Digest_fn N) _ _ (blob_Digest_fn_ok N)) Tryd.func47 rfl Tryd.call47 (blob_Digest_sg fun x _ => blob_Digest N x.1) blob_Digest_pk (fun _ _ => rfl) N (fun x y _ h => ((runL_eq (blob_Digest_E N) N Tryd.f47 (blob_Digest_sg fun x _ => blob_Digest N x.1) blob_Digest_pk (blob_Digest_LP N) (show LoopsOk (blob_Digest_LP N) (blob_Digest_E N) N (resD (blob_Digest_E N) Tryd.f47 (blob_Digest_sg fun x _ => blob_Digest N x.1) blob_Digest_pk) [(0, (cAt (bodyOf Tryd.f47) [true, true, false, true, false, false])), (2, (cAt (bodyOf Tryd.f47) [true, true, true, true, false, true, false, false]))] from ⟨blob_Digest_lp0 N, blob_Digest_lp2 N, trivial⟩) x y).trans (blob_Digest_core N x y)).trans h)
def law1_awake (N : Nat) : Option Bool :=
  bnd (blob_Digest N ([] : List UInt8)) fun t1 =>
  some (t1 == ([99, 98, 102, 50, 57, 99, 101, 52, 56, 52, 50, 50, 50, 51, 50, 53] : Str))
abbrev law1_awake_sg (f : SV [] → BV [] → Option (Bool)) : AF := { ps := [], bs := [], rs := [.v .bool], cs := [], R := Bool, out := fun z => ((z, ()), ()), f := f }
abbrev law1_awake_pk : SV [.v .bool] → BV [] → Bool := fun x _ => x.1
def law1_awake_fn (N : Nat) : FuncId → Option Tmp → Option AF := fun f _ =>
  match f with
    | 47 => some (blob_Digest_sg fun x _ => blob_Digest N x.1)
    | _ => none
theorem law1_awake_fn_ok (N : Nat) : ∀ f q F, law1_awake_fn N f q = some F → Sound Tryd.prog GW B0G f F := by
  intro f q F h
  unfold law1_awake_fn at h
  split at h
  · cases h; exact blob_Digest_sound N
  · cases h
def law1_awake_h : Nat → Hint := fun i =>
  match i with
  | _ => ⟨[], [], [], [], [], []⟩
abbrev law1_awake_E (N : Nat) : Env := mkE law1_awake_h (law1_awake_fn N) (fun _ => false) (fun _ => false)
noncomputable def law1_awake_LP (N : Nat) : Nat → Code → St → (Ex → St → Option Bool) → Option Bool := fun i c =>
  match i with
  | i => fun st k => iter (law1_awake_h i) (exec (law1_awake_E N) N c i) N st k
theorem law1_awake_core (N : Nat) (x : SV []) (y : BV []) : runL (law1_awake_E N) Tryd.f18 (law1_awake_sg fun _ _ => law1_awake N) law1_awake_pk (law1_awake_LP N) x y = law1_awake N := by kernel_rfl
theorem law1_awake_sound (N : Nat) : Sound Tryd.prog GW B0G 18 (law1_awake_sg fun _ _ => law1_awake N) :=
  runD_sound (mkE_ok law1_awake_h (law1_awake_fn N) _ _ (law1_awake_fn_ok N)) Tryd.func18 rfl Tryd.call18 (law1_awake_sg fun _ _ => law1_awake N) law1_awake_pk (fun _ _ => rfl) N (fun x y _ h => ((runL_eq (law1_awake_E N) N Tryd.f18 (law1_awake_sg fun _ _ => law1_awake N) law1_awake_pk (law1_awake_LP N) (show LoopsOk (law1_awake_LP N) (law1_awake_E N) N (resD (law1_awake_E N) Tryd.f18 (law1_awake_sg fun _ _ => law1_awake N) law1_awake_pk) [] from trivial) x y).trans (law1_awake_core N x y)).trans h)
end
end Go.Proofs.YthlkidohpiebiaaDoor

