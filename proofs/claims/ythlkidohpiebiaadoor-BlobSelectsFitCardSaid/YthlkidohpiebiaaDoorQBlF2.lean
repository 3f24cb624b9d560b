/- What functions of the program compute, as plain functions (printed). -/
import Derived.Test.YthlkidohpiebiaaDoorQBlF1
namespace Go.Proofs.YthlkidohpiebiaaDoor
open Go Go.RowKit
set_option maxRecDepth 100000
set_option linter.unusedVariables false
noncomputable section
def ref1_partByte (_N : Nat) (x0 : UInt8) : Option Bool :=
  br (decide (x0 ≥ (97 : UInt8)))
    (br (decide (x0 ≤ (122 : UInt8)))
      (some true)
      (br (decide (x0 ≥ (65 : UInt8)))
        (br (decide (x0 ≤ (90 : UInt8)))
          (some true)
          (br (decide (x0 ≥ (48 : UInt8)))
            (br (decide (x0 ≤ (57 : UInt8)))
              (some true)
              (br (x0 == (46 : UInt8))
                (some true)
                (br (x0 == (95 : UInt8))
                  (some true)
                  (br (x0 == (45 : UInt8))
                    (some true)
                    (some (x0 == (43 : UInt8)))))))
            (br (x0 == (46 : UInt8))
              (some true)
              (br (x0 == (95 : UInt8))
                (some true)
                (br (x0 == (45 : UInt8))
                  (some true)
                  (some (x0 == (43 : UInt8))))))))
        (br (decide (x0 ≥ (48 : UInt8)))
          (br (decide (x0 ≤ (57 : UInt8)))
            (some true)
            (br (x0 == (46 : UInt8))
              (some true)
              (br (x0 == (95 : UInt8))
                (some true)
                (br (x0 == (45 : UInt8))
                  (some true)
                  (some (x0 == (43 : UInt8)))))))
          (br (x0 == (46 : UInt8))
            (some true)
            (br (x0 == (95 : UInt8))
              (some true)
              (br (x0 == (45 : UInt8))
                (some true)
                (some (x0 == (43 : UInt8)))))))))
    (br (decide (x0 ≥ (65 : UInt8)))
      (br (decide (x0 ≤ (90 : UInt8)))
        (some true)
        (br (decide (x0 ≥ (48 : UInt8)))
          (br (decide (x0 ≤ (57 : UInt8)))
            (some true)
            (br (x0 == (46 : UInt8))
              (some true)
              (br (x0 == (95 : UInt8))
                (some true)
                (br (x0 == (45 : UInt8))
                  (some true)
                  (some (x0 == (43 : UInt8)))))))
          (br (x0 == (46 : UInt8))
            (some true)
            (br (x0 == (95 : UInt8))
              (some true)
              (br (x0 == (45 : UInt8))
                (some true)
                (some (x0 == (43 : UInt8))))))))
      (br (decide (x0 ≥ (48 : UInt8)))
        (br (decide (x0 ≤ (57 : UInt8)))
          (some true)
          (br (x0 == (46 : UInt8))
            (some true)
            (br (x0 == (95 : UInt8))
              (some true)
              (br (x0 == (45 : UInt8))
                (some true)
                (some (x0 == (43 : UInt8)))))))
        (br (x0 == (46 : UInt8))
          (some true)
          (br (x0 == (95 : UInt8))
            (some true)
            (br (x0 == (45 : UInt8))
              (some true)
              (some (x0 == (43 : UInt8))))))))
def ref1_isPatternPart_L0T (N : Nat) (x0 : Str) (k0 : Option Bool) (self : Int → Option Bool) (s3 : Int) : Option Bool :=
  br (decide (s3 < (x0.length : Int)))
    (bnd (geti x0 s3) fun t14 =>
    bnd (ref1_partByte N t14) fun t15 =>
    br (!t15)
      (bnd (geti x0 s3) fun t20 =>
      br (t20 != (42 : UInt8))
        (bnd (geti x0 s3) fun t26 =>
        br (t26 != (63 : UInt8))
          (some false)
          (self (IntKind.i64.wrap (s3 + (1 : Int)))))
        (self (IntKind.i64.wrap (s3 + (1 : Int)))))
      (self (IntKind.i64.wrap (s3 + (1 : Int)))))
    (k0)
def ref1_isPatternPart_L0 (N : Nat) (x0 : Str) (k0 : Option Bool) : Nat → Int → Option Bool
  | 0, _ => none
  | n + 1, s3 => ref1_isPatternPart_L0T N x0 k0 (ref1_isPatternPart_L0 N x0 k0 n) s3
def ref1_isPatternPart (N : Nat) (x0 : Str) : Option Bool :=
  br (x0 == ([42, 42] : Str))
    (some true)
    (ref1_isPatternPart_L0 N x0 (br (!(x0 == ([] : Str)))
          (br (!(x0 == ([46] : Str)))
            (br (!(x0 == ([46, 46] : Str)))
              (bnd (strings_Contains x0 ([42, 42] : Str)) fun t41 =>
              some (!t41))
              (some false))
            (some false))
          (some false)) N (0 : Int))
def ref1_CheckPattern_L0T (N : Nat) (t10 : List Str) (k0 : Option Int) (self : Int → Option Int) (s4 : Int) : Option Int :=
  br (decide (s4 < (t10.length : Int)))
    (bnd (geti t10 s4) fun t19 =>
    bnd (ref1_isPatternPart N t19) fun t21 =>
    br (!t21)
      (some (3 : Int))
      (self (IntKind.i64.wrap (s4 + (1 : Int)))))
    (k0)
def ref1_CheckPattern_L0 (N : Nat) (t10 : List Str) (k0 : Option Int) : Nat → Int → Option Int
  | 0, _ => none
  | n + 1, s4 => ref1_CheckPattern_L0T N t10 k0 (ref1_CheckPattern_L0 N t10 k0 n) s4
def ref1_CheckPattern (N : Nat) (x0 : Str) : Option Int :=
  bnd (ref1_within N (x0.length : Int) (1 : Int) (200 : Int)) fun t7 =>
  br (!t7)
    (some (3 : Int))
    (bnd (strings_Split x0 ([47] : Str)) fun t10 =>
    ref1_CheckPattern_L0 N t10 (some (0 : Int)) N (0 : Int))
def ref1_isPart_L0T (N : Nat) (x0 : Str) (k0 : Option Bool) (self : Int → Option Bool) (s3 : Int) : Option Bool :=
  br (decide (s3 < (x0.length : Int)))
    (bnd (geti x0 s3) fun t12 =>
    bnd (ref1_partByte N t12) fun t13 =>
    br (!t13)
      (some false)
      (self (IntKind.i64.wrap (s3 + (1 : Int)))))
    (k0)
def ref1_isPart_L0 (N : Nat) (x0 : Str) (k0 : Option Bool) : Nat → Int → Option Bool
  | 0, _ => none
  | n + 1, s3 => ref1_isPart_L0T N x0 k0 (ref1_isPart_L0 N x0 k0 n) s3
def ref1_isPart (N : Nat) (x0 : Str) : Option Bool :=
  ref1_isPart_L0 N x0 (br (!(x0 == ([] : Str)))
        (br (!(x0 == ([46] : Str)))
          (some (!(x0 == ([46, 46] : Str))))
          (some false))
        (some false)) N (0 : Int)
def ref1_IsPath_L0T (N : Nat) (t10 : List Str) (k0 : Option Bool) (self : Int → Option Bool) (s4 : Int) : Option Bool :=
  br (decide (s4 < (t10.length : Int)))
    (bnd (geti t10 s4) fun t19 =>
    bnd (ref1_isPart N t19) fun t21 =>
    br (!t21)
      (some false)
      (self (IntKind.i64.wrap (s4 + (1 : Int)))))
    (k0)
def ref1_IsPath_L0 (N : Nat) (t10 : List Str) (k0 : Option Bool) : Nat → Int → Option Bool
  | 0, _ => none
  | n + 1, s4 => ref1_IsPath_L0T N t10 k0 (ref1_IsPath_L0 N t10 k0 n) s4
def ref1_IsPath (N : Nat) (x0 : Str) : Option Bool :=
  bnd (ref1_within N (x0.length : Int) (1 : Int) (200 : Int)) fun t7 =>
  br (!t7)
    (some false)
    (bnd (strings_Split x0 ([47] : Str)) fun t10 =>
    ref1_IsPath_L0 N t10 (some true) N (0 : Int))
def blob_Digest_L0T (_N : Nat) (x0 : List UInt8) (c9 : Int) (k0 : Int → Option Str) (self : Int → Int → Option Str) (s3 : Int) (s10 : Int) : Option Str :=
  br (decide (s10 < c9))
    (bnd (geti x0 s10) fun t12 =>
    self (IntKind.u64.wrap ((xorI .u64 s3 (IntKind.u64.wrap (UInt8.toNat t12 : Int))) * (1099511628211 : Int))) (IntKind.i64.wrap (s10 + (1 : Int))))
    (k0 s3)
def blob_Digest_L0 (N : Nat) (x0 : List UInt8) (c9 : Int) (k0 : Int → Option Str) : Nat → Int → Int → Option Str
  | 0, _, _ => none
  | n + 1, s3, s10 => blob_Digest_L0T N x0 c9 k0 (blob_Digest_L0 N x0 c9 k0 n) s3 s10
def blob_Digest_L1T (_N : Nat) (c22 : Int) (k2 : (List UInt8) → Option Str) (self : Int → Int → (List UInt8) → Option Str) (s3_1 : Int) (s23 : Int) (w1020 : List UInt8) : Option Str :=
  br (decide (s23 < c22))
    (bnd (geti ([48, 49, 50, 51, 52, 53, 54, 55, 56, 57, 97, 98, 99, 100, 101, 102] : Str) (andI .u64 s3_1 (15 : Int))) fun t31 =>
    br (decide (0 ≤ (IntKind.i64.wrap ((15 : Int) - s23)) ∧ (IntKind.i64.wrap ((15 : Int) - s23)) < (w1020.length : Int)))
      (bnd (geti w1020 (IntKind.i64.wrap ((15 : Int) - s23))) fun _ =>
      br (decide (0 ≤ (4 : Int)))
        (self (shrI .u64 s3_1 (4 : Int)) (IntKind.i64.wrap (s23 + (1 : Int))) (seti w1020 (IntKind.i64.wrap ((15 : Int) - s23)) t31))
        none)
      none)
    (k2 w1020)
def blob_Digest_L1 (N : Nat) (c22 : Int) (k2 : (List UInt8) → Option Str) : Nat → Int → Int → (List UInt8) → Option Str
  | 0, _, _, _ => none
  | n + 1, s3_1, s23, w1020 => blob_Digest_L1T N c22 k2 (blob_Digest_L1 N c22 k2 n) s3_1 s23 w1020
def blob_Digest (N : Nat) (x0 : List UInt8) : Option Str :=
  blob_Digest_L0 N x0 (x0.length : Int) (fun o0_3 =>
      br (decide (0 ≤ (16 : Int) ∧ (16 : Int) ≤ (16 : Int) ∧ (16 : Int) * (24 * Ty.sz .u8 : Nat) ≤ 140737488355328))
        (blob_Digest_L1 N ((mk0 (16 : Int) (zero .u8)).length : Int) (fun o1_w1020 =>
            some o1_w1020) N o0_3 (0 : Int) (mk0 (16 : Int) (zero .u8)))
        none) N (14695981039346656037 : Int) (0 : Int)
abbrev blob_Digest_sg (f : SV [.v (.sl .u8)] → BV [] → Option (Str)) : AF := { ps := [.v (.sl .u8)], bs := [], rs := [.v .str], cs := [], R := Str, out := fun z => ((z, ()), ()), f := f }
abbrev blob_Digest_pk : SV [.v .str] → BV [] → Str := fun x _ => x.1
def blob_Digest_fn (_N : Nat) : FuncId → Option Tmp → Option AF := fun f _ =>
  match f with
    | _ => none
theorem blob_Digest_fn_ok (N : Nat) : ∀ f q F, blob_Digest_fn N f q = some F → Sound Tryd.prog GW B0G f F := by
  intro f q F h
  unfold blob_Digest_fn at h
  split at h
  · cases h
def blob_Digest_h : Nat → Hint := fun i =>
  match i with
  | 0 => ⟨[], [3, 8, 9, 10], [], [3], [], []⟩
  | 2 => ⟨[], [3, 6, 22, 23], [1020], [6], [1020], []⟩
  | _ => ⟨[], [], [], [], [], []⟩
abbrev blob_Digest_E (N : Nat) : Env := mkE blob_Digest_h (blob_Digest_fn N) (fun i => match i with | 20 => true | _ => false) (fun _ => false)
abbrev blob_Digest_L0_fs : List (Nat × Sl) := [(3, .v (.int .u64)), (8, .v (.sl .u8)), (9, .v (.int .i64)), (10, .v (.int .i64))]
abbrev blob_Digest_L0_bs : List (Nat × Sb) := []
def blob_Digest_L0_hd (x0 : List UInt8) (c9 : Int) (s3 : Int) (s10 : Int) : St := ⟨38, [(3, .v (.int .u64) s3), (8, .v (.sl .u8) x0), (9, .v (.int .i64) c9), (10, .v (.int .i64) s10)], []⟩
def blob_Digest_L0_tl0 (_x0 : List UInt8) (_c9 : Int) (o0_3 : Int) : St := ⟨38, [(3, .v (.int .u64) o0_3)], []⟩
def blob_Digest_L0_G (N : Nat) (x0 : List UInt8) (c9 : Int) (s3 : Int) (s10 : Int) (k : Ex → St → Option Str) : Option Str :=
  blob_Digest_L0 N x0 c9 (fun o0_3 => k (.exit 0) (blob_Digest_L0_tl0 x0 c9 o0_3)) N s3 s10
abbrev blob_Digest_L0_F (N : Nat) : FV blob_Digest_L0_fs → HV blob_Digest_L0_bs → (Ex → St → Option Str) → Option Str := fun x _ k => blob_Digest_L0_G N x.2.1 x.2.2.1 x.1 x.2.2.2.1 k
abbrev blob_Digest_L1_fs : List (Nat × Sl) := [(3, .v (.int .u64)), (6, .row 1020), (22, .v (.int .i64)), (23, .v (.int .i64))]
abbrev blob_Digest_L1_bs : List (Nat × Sb) := [(1020, .row 5 .u8 true)]
def blob_Digest_L1_hd (c22 : Int) (s3_1 : Int) (s23 : Int) (w1020 : List UInt8) : St := ⟨38, [(3, .v (.int .u64) s3_1), (6, .row 1020), (22, .v (.int .i64) c22), (23, .v (.int .i64) s23)], [(1020, .row 5 .u8 true w1020)]⟩
def blob_Digest_L1_tl2 (_c22 : Int) (o1_w1020 : List UInt8) : St := ⟨38, [(6, .row 1020)], [(1020, .row 5 .u8 true o1_w1020)]⟩
def blob_Digest_L1_G (N : Nat) (c22 : Int) (s3_1 : Int) (s23 : Int) (w1020 : List UInt8) (k : Ex → St → Option Str) : Option Str :=
  blob_Digest_L1 N c22 (fun o1_w1020 => k (.exit 2) (blob_Digest_L1_tl2 c22 o1_w1020)) N s3_1 s23 w1020
abbrev blob_Digest_L1_F (N : Nat) : FV blob_Digest_L1_fs → HV blob_Digest_L1_bs → (Ex → St → Option Str) → Option Str := fun x y k => blob_Digest_L1_G N x.2.2.1 x.1 x.2.2.2.1 y.1 k
noncomputable def blob_Digest_LP (N : Nat) : Nat → Code → St → (Ex → St → Option Str) → Option Str := fun i c =>
  match i with
  | 0 => (LPc 38 blob_Digest_L0_fs blob_Digest_L0_bs (blob_Digest_L0_F N) (fun st k => iter (blob_Digest_h 0) (exec (blob_Digest_E N) N c 0) N st k))
  | 2 => (LPc 38 blob_Digest_L1_fs blob_Digest_L1_bs (blob_Digest_L1_F N) (fun st k => iter (blob_Digest_h 2) (exec (blob_Digest_E N) N c 2) N st k))
  | i => fun st k => iter (blob_Digest_h i) (exec (blob_Digest_E N) N c i) N st k
theorem blob_Digest_L1_step (N : Nat) (c22 : Int) (KX : Nat → St → Option Str) (I : St → Option Str) (s3_1 : Int) (s23 : Int) (w1020 : List UInt8) :
    execL (blob_Digest_LP N) (blob_Digest_E N) (cAt (bodyOf Tryd.f47) [true, true, true, true, false, true, false, false]) 2 (blob_Digest_L1_hd c22 s3_1 s23 w1020) (roundK (blob_Digest_h 2) I KX (resD (blob_Digest_E N) Tryd.f47 (blob_Digest_sg fun x _ => blob_Digest N x.1) blob_Digest_pk)) = blob_Digest_L1T N c22 (fun o1_w1020 => KX 2 (blob_Digest_L1_tl2 c22 o1_w1020)) (fun s3_1 s23 w1020 => I (blob_Digest_L1_hd c22 s3_1 s23 w1020)) s3_1 s23 w1020 := by kernel_rfl
theorem blob_Digest_L1_ok (N : Nat) : ∀ x y k, (∀ st, k .ret st = (resD (blob_Digest_E N) Tryd.f47 (blob_Digest_sg fun x _ => blob_Digest N x.1) blob_Digest_pk) st) → iter (blob_Digest_h 2) (exec (blob_Digest_E N) N (cAt (bodyOf Tryd.f47) [true, true, true, true, false, true, false, false]) 2) N ⟨38, unF blob_Digest_L1_fs x, unH blob_Digest_L1_bs y⟩ k = blob_Digest_L1_F N x y k := fun x y k hk =>
  iter_link (S := (Int) × (Int) × (List UInt8) × Unit) (blob_Digest_h 2) _ (execL (blob_Digest_LP N) (blob_Digest_E N) (cAt (bodyOf Tryd.f47) [true, true, true, true, false, true, false, false]) 2) (resD (blob_Digest_E N) Tryd.f47 (blob_Digest_sg fun x _ => blob_Digest N x.1) blob_Digest_pk) (fun st k hk => execL_eq _ _ N _ (cAt (bodyOf Tryd.f47) [true, true, true, true, false, true, false, false]) 2 (show LoopsOk (blob_Digest_LP N) (blob_Digest_E N) N (resD (blob_Digest_E N) Tryd.f47 (blob_Digest_sg fun x _ => blob_Digest N x.1) blob_Digest_pk) [] from trivial) st k hk) (fun s => blob_Digest_L1_hd x.2.2.1 s.1 s.2.1 s.2.2.1) k hk
    (fun self s => blob_Digest_L1T N x.2.2.1 (fun o1_w1020 => k (.exit 2) (blob_Digest_L1_tl2 x.2.2.1 o1_w1020)) (fun s3_1 s23 w1020 => self (s3_1, s23, w1020, ())) s.1 s.2.1 s.2.2.1) (fun n s => blob_Digest_L1 N x.2.2.1 (fun o1_w1020 => k (.exit 2) (blob_Digest_L1_tl2 x.2.2.1 o1_w1020)) n s.1 s.2.1 s.2.2.1) (fun _ => rfl) (fun _ _ => rfl)
    (fun I s => blob_Digest_L1_step N x.2.2.1 (fun j => k (.exit j)) I s.1 s.2.1 s.2.2.1) N (x.1, x.2.2.2.1, y.1, ())
theorem blob_Digest_lp2 (N : Nat) : ∀ st k, (∀ st, k .ret st = (resD (blob_Digest_E N) Tryd.f47 (blob_Digest_sg fun x _ => blob_Digest N x.1) blob_Digest_pk) st) → blob_Digest_LP N 2 (cAt (bodyOf Tryd.f47) [true, true, true, true, false, true, false, false]) st k = iter (Env.hint (blob_Digest_E N) 2) (exec (blob_Digest_E N) N (cAt (bodyOf Tryd.f47) [true, true, true, true, false, true, false, false]) 2) N st k := fun st k hk => LPc_eq 38 blob_Digest_L1_fs blob_Digest_L1_bs _ _ (resD (blob_Digest_E N) Tryd.f47 (blob_Digest_sg fun x _ => blob_Digest N x.1) blob_Digest_pk) (blob_Digest_L1_ok N) _ st k hk (rfl)
theorem blob_Digest_L0_step (N : Nat) (x0 : List UInt8) (c9 : Int) (KX : Nat → St → Option Str) (I : St → Option Str) (s3 : Int) (s10 : Int) :
    execL (blob_Digest_LP N) (blob_Digest_E N) (cAt (bodyOf Tryd.f47) [true, true, false, true, false, false]) 0 (blob_Digest_L0_hd x0 c9 s3 s10) (roundK (blob_Digest_h 0) I KX (resD (blob_Digest_E N) Tryd.f47 (blob_Digest_sg fun x _ => blob_Digest N x.1) blob_Digest_pk)) = blob_Digest_L0T N x0 c9 (fun o0_3 => KX 0 (blob_Digest_L0_tl0 x0 c9 o0_3)) (fun s3 s10 => I (blob_Digest_L0_hd x0 c9 s3 s10)) s3 s10 := by kernel_rfl
theorem blob_Digest_L0_ok (N : Nat) : ∀ x y k, (∀ st, k .ret st = (resD (blob_Digest_E N) Tryd.f47 (blob_Digest_sg fun x _ => blob_Digest N x.1) blob_Digest_pk) st) → iter (blob_Digest_h 0) (exec (blob_Digest_E N) N (cAt (bodyOf Tryd.f47) [true, true, false, true, false, false]) 0) N ⟨38, unF blob_Digest_L0_fs x, unH blob_Digest_L0_bs y⟩ k = blob_Digest_L0_F N x y k := fun x _ k hk =>
  iter_link (S := (Int) × (Int) × Unit) (blob_Digest_h 0) _ (execL (blob_Digest_LP N) (blob_Digest_E N) (cAt (bodyOf Tryd.f47) [true, true, false, true, false, false]) 0) (resD (blob_Digest_E N) Tryd.f47 (blob_Digest_sg fun x _ => blob_Digest N x.1) blob_Digest_pk) (fun st k hk => execL_eq _ _ N _ (cAt (bodyOf Tryd.f47) [true, true, false, true, false, false]) 0 (show LoopsOk (blob_Digest_LP N) (blob_Digest_E N) N (resD (blob_Digest_E N) Tryd.f47 (blob_Digest_sg fun x _ => blob_Digest N x.1) blob_Digest_pk) [] from trivial) st k hk) (fun s => blob_Digest_L0_hd x.2.1 x.2.2.1 s.1 s.2.1) k hk
    (fun self s => blob_Digest_L0T N x.2.1 x.2.2.1 (fun o0_3 => k (.exit 0) (blob_Digest_L0_tl0 x.2.1 x.2.2.1 o0_3)) (fun s3 s10 => self (s3, s10, ())) s.1 s.2.1) (fun n s => blob_Digest_L0 N x.2.1 x.2.2.1 (fun o0_3 => k (.exit 0) (blob_Digest_L0_tl0 x.2.1 x.2.2.1 o0_3)) n s.1 s.2.1) (fun _ => rfl) (fun _ _ => rfl)
    (fun I s => blob_Digest_L0_step N x.2.1 x.2.2.1 (fun j => k (.exit j)) I s.1 s.2.1) N (x.1, x.2.2.2.1, ())
theorem blob_Digest_lp0 (N : Nat) : ∀ st k, (∀ st, k .ret st = (resD (blob_Digest_E N) Tryd.f47 (blob_Digest_sg fun x _ => blob_Digest N x.1) blob_Digest_pk) st) → blob_Digest_LP N 0 (cAt (bodyOf Tryd.f47) [true, true, false, true, false, false]) st k = iter (Env.hint (blob_Digest_E N) 0) (exec (blob_Digest_E N) N (cAt (bodyOf Tryd.f47) [true, true, false, true, false, false]) 0) N st k := fun st k hk => LPc_eq 38 blob_Digest_L0_fs blob_Digest_L0_bs _ _ (resD (blob_Digest_E N) Tryd.f47 (blob_Digest_sg fun x _ => blob_Digest N x.1) blob_Digest_pk) (blob_Digest_L0_ok N) _ st k hk (rfl)
theorem blob_Digest_core (N : Nat) (x : SV [.v (.sl .u8)]) (y : BV []) : runL (blob_Digest_E N) Tryd.f47 (blob_Digest_sg fun x _ => blob_Digest N x.1) blob_Digest_pk (blob_Digest_LP N) x y = blob_Digest N x.1 := by kernel_rfl
theorem blob_Digest_sound (N : Nat) : Sound Tryd.prog GW B0G 47 (blob_Digest_sg fun x _ => blob_Digest N x.1) :=
  runD_sound (mkE_ok blob_Digest_h (blob_Digest_fn N) _ _ (blob_Digest_fn_ok N)) Tryd.func47 rfl Tryd.call47 (blob_Digest_sg fun x _ => blob_Digest N x.1) blob_Digest_pk (fun _ _ => rfl) N (fun x y _ h => ((runL_eq (blob_Digest_E N) N Tryd.f47 (blob_Digest_sg fun x _ => blob_Digest N x.1) blob_Digest_pk (blob_Digest_LP N) (show LoopsOk (blob_Digest_LP N) (blob_Digest_E N) N (resD (blob_Digest_E N) Tryd.f47 (blob_Digest_sg fun x _ => blob_Digest N x.1) blob_Digest_pk) [(0, (cAt (bodyOf Tryd.f47) [true, true, false, true, false, false])), (2, (cAt (bodyOf Tryd.f47) [true, true, true, true, false, true, false, false]))] from ⟨blob_Digest_lp0 N, blob_Digest_lp2 N, trivial⟩) x y).trans (blob_Digest_core N x y)).trans h)
def law1_awake (N : Nat) : Option Bool :=
  bnd (blob_Digest N ([] : List UInt8)) fun t1 =>
  some (t1 == ([99, 98, 102, 50, 57, 99, 101, 52, 56, 52, 50, 50, 50, 51, 50, 53] : Str))
abbrev law1_awake_sg (f : SV [] → BV [] → Option (Bool)) : AF := { ps := [], bs := [], rs := [.v .bool], cs := [], R := Bool, out := fun z => ((z, ()), ()), f := f }
abbrev law1_awake_pk : SV [.v .bool] → BV [] → Bool := fun x _ => x.1
def law1_awake_fn (N : Nat) : FuncId → Option Tmp → Option AF := fun f _ =>
  match f with
    | 47 => some (blob_Digest_sg fun x _ => blob_Digest N x.1)
    | _ => none
theorem law1_awake_fn_ok (N : Nat) : ∀ f q F, law1_awake_fn N f q = some F → Sound Tryd.prog GW B0G f F := by
  intro f q F h
  unfold law1_awake_fn at h
  split at h
  · cases h; exact blob_Digest_sound N
  · cases h
def law1_awake_h : Nat → Hint := fun i =>
  match i with
  | _ => ⟨[], [], [], [], [], []⟩
abbrev law1_awake_E (N : Nat) : Env := mkE law1_awake_h (law1_awake_fn N) (fun _ => false) (fun _ => false)
noncomputable def law1_awake_LP (N : Nat) : Nat → Code → St → (Ex → St → Option Bool) → Option Bool := fun i c =>
  match i with
  | i => fun st k => iter (law1_awake_h i) (exec (law1_awake_E N) N c i) N st k
theorem law1_awake_core (N : Nat) (x : SV []) (y : BV []) : runL (law1_awake_E N) Tryd.f18 (law1_awake_sg fun _ _ => law1_awake N) law1_awake_pk (law1_awake_LP N) x y = law1_awake N := by kernel_rfl
theorem law1_awake_sound (N : Nat) : Sound Tryd.prog GW B0G 18 (law1_awake_sg fun _ _ => law1_awake N) :=
  runD_sound (mkE_ok law1_awake_h (law1_awake_fn N) _ _ (law1_awake_fn_ok N)) Tryd.func18 rfl Tryd.call18 (law1_awake_sg fun _ _ => law1_awake N) law1_awake_pk (fun _ _ => rfl) N (fun x y _ h => ((runL_eq (law1_awake_E N) N Tryd.f18 (law1_awake_sg fun _ _ => law1_awake N) law1_awake_pk (law1_awake_LP N) (show LoopsOk (law1_awake_LP N) (law1_awake_E N) N (resD (law1_awake_E N) Tryd.f18 (law1_awake_sg fun _ _ => law1_awake N) law1_awake_pk) [] from trivial) x y).trans (law1_awake_core N x y)).trans h)
end
end Go.Proofs.YthlkidohpiebiaaDoor

