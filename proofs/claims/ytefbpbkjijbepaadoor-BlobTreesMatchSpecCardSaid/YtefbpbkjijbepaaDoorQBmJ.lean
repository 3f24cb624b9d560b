/- What functions of the program compute, as plain functions (printed). -/
import Derived.Test.YtefbpbkjijbepaaDoorQTrF5
import Derived.Test.YtefbpbkjijbepaaDoorQNm
import Derived.Test.YtefbpbkjijbepaaDoorQLTrB
import Derived.Test.YtefbpbkjijbepaaDoorQTrT
import Derived.Shelf.Strings.SlTrimAscii
import Derived.Lib.Join
namespace Go.Proofs.YtefbpbkjijbepaaDoor
open Go Go.RowKit
set_option maxRecDepth 100000
set_option linter.unusedVariables false
noncomputable section
def ref1_Digest_L0T (_N : Nat) (x0 : List UInt8) (k0 : Int → Option Str) (self : Int → Int → Option Str) (s3 : Int) (s4 : Int) : Option Str :=
  br (decide (s4 < (x0.length : Int)))
    (bnd (geti x0 s4) fun t17 =>
    self (IntKind.u64.wrap ((xorI .u64 s3 (IntKind.u64.wrap (UInt8.toNat t17 : Int))) * (1099511628211 : Int))) (IntKind.i64.wrap (s4 + (1 : Int))))
    (k0 s3)
def ref1_Digest_L0 (N : Nat) (x0 : List UInt8) (k0 : Int → Option Str) : Nat → Int → Int → Option Str
  | 0, _, _ => none
  | n + 1, s3, s4 => ref1_Digest_L0T N x0 k0 (ref1_Digest_L0 N x0 k0 n) s3 s4
def ref1_Digest_L1T (_N : Nat) (o0_3 : Int) (k2 : Str → Option Str) (self : Str → Int → Option Str) (s5 : Str) (s6 : Int) : Option Str :=
  br (decide (s6 ≥ (0 : Int)))
    (br (decide (0 ≤ s6))
      (br ((16 : Int) == 0)
        none
        (bnd (slc ([48, 49, 50, 51, 52, 53, 54, 55, 56, 57, 97, 98, 99, 100, 101, 102] : Str) (Int.tmod (shrI .u64 o0_3 s6) (16 : Int)) (IntKind.u64.wrap ((Int.tmod (shrI .u64 o0_3 s6) (16 : Int)) + (1 : Int)))) fun t34 =>
        br (decide (s5.length + t34.length ≤ 9223372036854775807))
          (self (s5 ++ t34) (IntKind.i64.wrap (s6 - (4 : Int))))
          none))
      none)
    (k2 s5)
def ref1_Digest_L1 (N : Nat) (o0_3 : Int) (k2 : Str → Option Str) : Nat → Str → Int → Option Str
  | 0, _, _ => none
  | n + 1, s5, s6 => ref1_Digest_L1T N o0_3 k2 (ref1_Digest_L1 N o0_3 k2 n) s5 s6
def ref1_Digest (N : Nat) (x0 : List UInt8) : Option Str :=
  ref1_Digest_L0 N x0 (fun o0_3 =>
      ref1_Digest_L1 N o0_3 (fun o1_5 =>
          some o1_5) N ([] : Str) (60 : Int)) N (14695981039346656037 : Int) (0 : Int)
abbrev ref1_Digest_sg (f : SV [.v (.sl .u8)] → BV [] → Option (Str)) : AF := { ps := [.v (.sl .u8)], bs := [], rs := [.v .str], cs := [], R := Str, out := fun z => ((z, ()), ()), f := f }
abbrev ref1_Digest_pk : SV [.v .str] → BV [] → Str := fun x _ => x.1
def ref1_Digest_fn (_N : Nat) : FuncId → Option Tmp → Option AF := fun f _ =>
  match f with
    | _ => none
theorem ref1_Digest_fn_ok (N : Nat) : ∀ f q F, ref1_Digest_fn N f q = some F → Sound Tryd.prog GW B0G f F := by
  intro f q F h
  unfold ref1_Digest_fn at h
  split at h
  · cases h
def ref1_Digest_h : Nat → Hint := fun i =>
  match i with
  | 0 => ⟨[], [0, 3, 4], [], [3], [], []⟩
  | 2 => ⟨[], [3, 5, 6], [], [5], [], []⟩
  | _ => ⟨[], [], [], [], [], []⟩
abbrev ref1_Digest_E (N : Nat) : Env := mkE ref1_Digest_h (ref1_Digest_fn N) (fun _ => false) (fun _ => false)
abbrev ref1_Digest_L0_fs : List (Nat × Sl) := [(0, .v (.sl .u8)), (3, .v (.int .u64)), (4, .v (.int .i64))]
abbrev ref1_Digest_L0_bs : List (Nat × Sb) := []
def ref1_Digest_L0_hd (x0 : List UInt8) (s3 : Int) (s4 : Int) : St := ⟨37, [(0, .v (.sl .u8) x0), (3, .v (.int .u64) s3), (4, .v (.int .i64) s4)], []⟩
def ref1_Digest_L0_tl0 (_x0 : List UInt8) (o0_3 : Int) : St := ⟨37, [(3, .v (.int .u64) o0_3)], []⟩
def ref1_Digest_L0_G (N : Nat) (x0 : List UInt8) (s3 : Int) (s4 : Int) (k : Ex → St → Option Str) : Option Str :=
  ref1_Digest_L0 N x0 (fun o0_3 => k (.exit 0) (ref1_Digest_L0_tl0 x0 o0_3)) N s3 s4
abbrev ref1_Digest_L0_F (N : Nat) : FV ref1_Digest_L0_fs → HV ref1_Digest_L0_bs → (Ex → St → Option Str) → Option Str := fun x _ k => ref1_Digest_L0_G N x.1 x.2.1 x.2.2.1 k
abbrev ref1_Digest_L1_fs : List (Nat × Sl) := [(3, .v (.int .u64)), (5, .v .str), (6, .v (.int .i64))]
abbrev ref1_Digest_L1_bs : List (Nat × Sb) := []
def ref1_Digest_L1_hd (o0_3 : Int) (s5 : Str) (s6 : Int) : St := ⟨37, [(3, .v (.int .u64) o0_3), (5, .v .str s5), (6, .v (.int .i64) s6)], []⟩
def ref1_Digest_L1_tl2 (_o0_3 : Int) (o1_5 : Str) : St := ⟨37, [(5, .v .str o1_5)], []⟩
def ref1_Digest_L1_G (N : Nat) (o0_3 : Int) (s5 : Str) (s6 : Int) (k : Ex → St → Option Str) : Option Str :=
  ref1_Digest_L1 N o0_3 (fun o1_5 => k (.exit 2) (ref1_Digest_L1_tl2 o0_3 o1_5)) N s5 s6
abbrev ref1_Digest_L1_F (N : Nat) : FV ref1_Digest_L1_fs → HV ref1_Digest_L1_bs → (Ex → St → Option Str) → Option Str := fun x _ k => ref1_Digest_L1_G N x.1 x.2.1 x.2.2.1 k
noncomputable def ref1_Digest_LP (N : Nat) : Nat → Code → St → (Ex → St → Option Str) → Option Str := fun i c =>
  match i with
  | 0 => (LPc 37 ref1_Digest_L0_fs ref1_Digest_L0_bs (ref1_Digest_L0_F N) (fun st k => iter (ref1_Digest_h 0) (exec (ref1_Digest_E N) N c 0) N st k))
  | 2 => (LPc 37 ref1_Digest_L1_fs ref1_Digest_L1_bs (ref1_Digest_L1_F N) (fun st k => iter (ref1_Digest_h 2) (exec (ref1_Digest_E N) N c 2) N st k))
  | i => fun st k => iter (ref1_Digest_h i) (exec (ref1_Digest_E N) N c i) N st k
theorem ref1_Digest_L1_step (N : Nat) (o0_3 : Int) (KX : Nat → St → Option Str) (I : St → Option Str) (s5 : Str) (s6 : Int) :
    execL (ref1_Digest_LP N) (ref1_Digest_E N) (cAt (bodyOf Tryd.f30) [true, true, true, true, false, true, false, false]) 2 (ref1_Digest_L1_hd o0_3 s5 s6) (roundK (ref1_Digest_h 2) I KX (resD (ref1_Digest_E N) Tryd.f30 (ref1_Digest_sg fun x _ => ref1_Digest N x.1) ref1_Digest_pk)) = ref1_Digest_L1T N o0_3 (fun o1_5 => KX 2 (ref1_Digest_L1_tl2 o0_3 o1_5)) (fun s5 s6 => I (ref1_Digest_L1_hd o0_3 s5 s6)) s5 s6 := by kernel_rfl
theorem ref1_Digest_L1_ok (N : Nat) : ∀ x y k, (∀ st, k .ret st = (resD (ref1_Digest_E N) Tryd.f30 (ref1_Digest_sg fun x _ => ref1_Digest N x.1) ref1_Digest_pk) st) → iter (ref1_Digest_h 2) (exec (ref1_Digest_E N) N (cAt (bodyOf Tryd.f30) [true, true, true, true, false, true, false, false]) 2) N ⟨37, unF ref1_Digest_L1_fs x, unH ref1_Digest_L1_bs y⟩ k = ref1_Digest_L1_F N x y k := fun x _ k hk =>
  iter_link (S := (Str) × (Int) × Unit) (ref1_Digest_h 2) _ (execL (ref1_Digest_LP N) (ref1_Digest_E N) (cAt (bodyOf Tryd.f30) [true, true, true, true, false, true, false, false]) 2) (resD (ref1_Digest_E N) Tryd.f30 (ref1_Digest_sg fun x _ => ref1_Digest N x.1) ref1_Digest_pk) (fun st k hk => execL_eq _ _ N _ (cAt (bodyOf Tryd.f30) [true, true, true, true, false, true, false, false]) 2 (show LoopsOk (ref1_Digest_LP N) (ref1_Digest_E N) N (resD (ref1_Digest_E N) Tryd.f30 (ref1_Digest_sg fun x _ => ref1_Digest N x.1) ref1_Digest_pk) [] from trivial) st k hk) (fun s => ref1_Digest_L1_hd x.1 s.1 s.2.1) k hk
    (fun self s => ref1_Digest_L1T N x.1 (fun o1_5 => k (.exit 2) (ref1_Digest_L1_tl2 x.1 o1_5)) (fun s5 s6 => self (s5, s6, ())) s.1 s.2.1) (fun n s => ref1_Digest_L1 N x.1 (fun o1_5 => k (.exit 2) (ref1_Digest_L1_tl2 x.1 o1_5)) n s.1 s.2.1) (fun _ => rfl) (fun _ _ => rfl)
    (fun I s => ref1_Digest_L1_step N x.1 (fun j => k (.exit j)) I s.1 s.2.1) N (x.2.1, x.2.2.1, ())
theorem ref1_Digest_lp2 (N : Nat) : ∀ st k, (∀ st, k .ret st = (resD (ref1_Digest_E N) Tryd.f30 (ref1_Digest_sg fun x _ => ref1_Digest N x.1) ref1_Digest_pk) st) → ref1_Digest_LP N 2 (cAt (bodyOf Tryd.f30) [true, true, true, true, false, true, false, false]) st k = iter (Env.hint (ref1_Digest_E N) 2) (exec (ref1_Digest_E N) N (cAt (bodyOf Tryd.f30) [true, true, true, true, false, true, false, false]) 2) N st k := fun st k hk => LPc_eq 37 ref1_Digest_L1_fs ref1_Digest_L1_bs _ _ (resD (ref1_Digest_E N) Tryd.f30 (ref1_Digest_sg fun x _ => ref1_Digest N x.1) ref1_Digest_pk) (ref1_Digest_L1_ok N) _ st k hk (rfl)
theorem ref1_Digest_L0_step (N : Nat) (x0 : List UInt8) (KX : Nat → St → Option Str) (I : St → Option Str) (s3 : Int) (s4 : Int) :
    execL (ref1_Digest_LP N) (ref1_Digest_E N) (cAt (bodyOf Tryd.f30) [true, true, false, true, false, false]) 0 (ref1_Digest_L0_hd x0 s3 s4) (roundK (ref1_Digest_h 0) I KX (resD (ref1_Digest_E N) Tryd.f30 (ref1_Digest_sg fun x _ => ref1_Digest N x.1) ref1_Digest_pk)) = ref1_Digest_L0T N x0 (fun o0_3 => KX 0 (ref1_Digest_L0_tl0 x0 o0_3)) (fun s3 s4 => I (ref1_Digest_L0_hd x0 s3 s4)) s3 s4 := by kernel_rfl
theorem ref1_Digest_L0_ok (N : Nat) : ∀ x y k, (∀ st, k .ret st = (resD (ref1_Digest_E N) Tryd.f30 (ref1_Digest_sg fun x _ => ref1_Digest N x.1) ref1_Digest_pk) st) → iter (ref1_Digest_h 0) (exec (ref1_Digest_E N) N (cAt (bodyOf Tryd.f30) [true, true, false, true, false, false]) 0) N ⟨37, unF ref1_Digest_L0_fs x, unH ref1_Digest_L0_bs y⟩ k = ref1_Digest_L0_F N x y k := fun x _ k hk =>
  iter_link (S := (Int) × (Int) × Unit) (ref1_Digest_h 0) _ (execL (ref1_Digest_LP N) (ref1_Digest_E N) (cAt (bodyOf Tryd.f30) [true, true, false, true, false, false]) 0) (resD (ref1_Digest_E N) Tryd.f30 (ref1_Digest_sg fun x _ => ref1_Digest N x.1) ref1_Digest_pk) (fun st k hk => execL_eq _ _ N _ (cAt (bodyOf Tryd.f30) [true, true, false, true, false, false]) 0 (show LoopsOk (ref1_Digest_LP N) (ref1_Digest_E N) N (resD (ref1_Digest_E N) Tryd.f30 (ref1_Digest_sg fun x _ => ref1_Digest N x.1) ref1_Digest_pk) [] from trivial) st k hk) (fun s => ref1_Digest_L0_hd x.1 s.1 s.2.1) k hk
    (fun self s => ref1_Digest_L0T N x.1 (fun o0_3 => k (.exit 0) (ref1_Digest_L0_tl0 x.1 o0_3)) (fun s3 s4 => self (s3, s4, ())) s.1 s.2.1) (fun n s => ref1_Digest_L0 N x.1 (fun o0_3 => k (.exit 0) (ref1_Digest_L0_tl0 x.1 o0_3)) n s.1 s.2.1) (fun _ => rfl) (fun _ _ => rfl)
    (fun I s => ref1_Digest_L0_step N x.1 (fun j => k (.exit j)) I s.1 s.2.1) N (x.2.1, x.2.2.1, ())
theorem ref1_Digest_lp0 (N : Nat) : ∀ st k, (∀ st, k .ret st = (resD (ref1_Digest_E N) Tryd.f30 (ref1_Digest_sg fun x _ => ref1_Digest N x.1) ref1_Digest_pk) st) → ref1_Digest_LP N 0 (cAt (bodyOf Tryd.f30) [true, true, false, true, false, false]) st k = iter (Env.hint (ref1_Digest_E N) 0) (exec (ref1_Digest_E N) N (cAt (bodyOf Tryd.f30) [true, true, false, true, false, false]) 0) N st k := fun st k hk => LPc_eq 37 ref1_Digest_L0_fs ref1_Digest_L0_bs _ _ (resD (ref1_Digest_E N) Tryd.f30 (ref1_Digest_sg fun x _ => ref1_Digest N x.1) ref1_Digest_pk) (ref1_Digest_L0_ok N) _ st k hk (rfl)
theorem ref1_Digest_core (N : Nat) (x : SV [.v (.sl .u8)]) (y : BV []) : runL (ref1_Digest_E N) Tryd.f30 (ref1_Digest_sg fun x _ => ref1_Digest N x.1) ref1_Digest_pk (ref1_Digest_LP N) x y = ref1_Digest N x.1 := by kernel_rfl
theorem ref1_Digest_sound (N : Nat) : Sound Tryd.prog GW B0G 30 (ref1_Digest_sg fun x _ => ref1_Digest N x.1) :=
  runD_sound (mkE_ok ref1_Digest_h (ref1_Digest_fn N) _ _ (ref1_Digest_fn_ok N)) Tryd.func30 rfl Tryd.call30 (ref1_Digest_sg fun x _ => ref1_Digest N x.1) ref1_Digest_pk (fun _ _ => rfl) N (fun x y _ h => ((runL_eq (ref1_Digest_E N) N Tryd.f30 (ref1_Digest_sg fun x _ => ref1_Digest N x.1) ref1_Digest_pk (ref1_Digest_LP N) (show LoopsOk (ref1_Digest_LP N) (ref1_Digest_E N) N (resD (ref1_Digest_E N) Tryd.f30 (ref1_Digest_sg fun x _ => ref1_Digest N x.1) ref1_Digest_pk) [(0, (cAt (bodyOf Tryd.f30) [true, true, false, true, false, false])), (2, (cAt (bodyOf Tryd.f30) [true, true, true, true, false, true, false, false]))] from ⟨ref1_Digest_lp0 N, ref1_Digest_lp2 N, trivial⟩) x y).trans (ref1_Digest_core N x y)).trans h)
abbrev ref1_text_sg (f : SV [.v (.sl (.pr .str (.pr .bool (.sl .u8))))] → BV [] → Option (Str)) : AF := { ps := [.v (.sl (.pr .str (.pr .bool (.sl .u8))))], bs := [], rs := [.v .str], cs := [], R := Str, out := fun z => ((z, ()), ()), f := f }
def ref1_text_b_L0T (N : Nat) (r_ref1_text : (List (Str × Bool × List UInt8)) → Option (Str)) (x0 : List (Str × Bool × List UInt8)) (c4 : List Str) (k0 : Str → Option Str) (self : Str → Int → Option Str) (s3 : Str) (s6 : Int) : Option Str :=
  br (decide (s6 < (c4.length : Int)))
    (bnd (geti c4 s6) fun t25 =>
    bnd (ref1_below N x0 t25) fun t27 =>
    br (t27.1)
      (bnd (geti c4 s6) fun t34 =>
      br (decide (([100, 105, 114, 32] : Str).length + t34.length ≤ 9223372036854775807))
        (br (decide ((([100, 105, 114, 32] : Str) ++ t34).length + ([32] : Str).length ≤ 9223372036854775807))
          (bnd (r_ref1_text t27.2) fun t39 =>
          br (decide (t39.length * 24 ≤ 140737488355328))
            (bnd (ref1_Digest N t39) fun t41 =>
            br (decide (((([100, 105, 114, 32] : Str) ++ t34) ++ ([32] : Str)).length + t41.length ≤ 9223372036854775807))
              (br (decide ((((([100, 105, 114, 32] : Str) ++ t34) ++ ([32] : Str)) ++ t41).length + ([10] : Str).length ≤ 9223372036854775807))
                (br (decide (s3.length + ((((([100, 105, 114, 32] : Str) ++ t34) ++ ([32] : Str)) ++ t41) ++ ([10] : Str)).length ≤ 9223372036854775807))
                  (self (s3 ++ ((((([100, 105, 114, 32] : Str) ++ t34) ++ ([32] : Str)) ++ t41) ++ ([10] : Str))) (IntKind.i64.wrap (s6 + (1 : Int))))
                  none)
                none)
              none)
            none)
          none)
        none)
      (bnd (geti t27.2 (0 : Int)) fun t46 =>
      br (t46.2.1)
        (bnd (geti c4 s6) fun t52 =>
        br (decide (([102, 105, 108, 101, 32] : Str).length + t52.length ≤ 9223372036854775807))
          (br (decide ((([102, 105, 108, 101, 32] : Str) ++ t52).length + ([32] : Str).length ≤ 9223372036854775807))
            (bnd (geti t27.2 (0 : Int)) fun t57 =>
            bnd (ref1_Digest N t57.2.2) fun t60 =>
            br (decide (((([102, 105, 108, 101, 32] : Str) ++ t52) ++ ([32] : Str)).length + t60.length ≤ 9223372036854775807))
              (br (decide ((((([102, 105, 108, 101, 32] : Str) ++ t52) ++ ([32] : Str)) ++ t60).length + ([32, 120, 10] : Str).length ≤ 9223372036854775807))
                (br (decide (s3.length + ((((([102, 105, 108, 101, 32] : Str) ++ t52) ++ ([32] : Str)) ++ t60) ++ ([32, 120, 10] : Str)).length ≤ 9223372036854775807))
                  (self (s3 ++ ((((([102, 105, 108, 101, 32] : Str) ++ t52) ++ ([32] : Str)) ++ t60) ++ ([32, 120, 10] : Str))) (IntKind.i64.wrap (s6 + (1 : Int))))
                  none)
                none)
              none)
            none)
          none)
        (bnd (geti c4 s6) fun t52_1 =>
        br (decide (([102, 105, 108, 101, 32] : Str).length + t52_1.length ≤ 9223372036854775807))
          (br (decide ((([102, 105, 108, 101, 32] : Str) ++ t52_1).length + ([32] : Str).length ≤ 9223372036854775807))
            (bnd (geti t27.2 (0 : Int)) fun t57_2 =>
            bnd (ref1_Digest N t57_2.2.2) fun t60_3 =>
            br (decide (((([102, 105, 108, 101, 32] : Str) ++ t52_1) ++ ([32] : Str)).length + t60_3.length ≤ 9223372036854775807))
              (br (decide ((((([102, 105, 108, 101, 32] : Str) ++ t52_1) ++ ([32] : Str)) ++ t60_3).length + ([32, 45, 10] : Str).length ≤ 9223372036854775807))
                (br (decide (s3.length + ((((([102, 105, 108, 101, 32] : Str) ++ t52_1) ++ ([32] : Str)) ++ t60_3) ++ ([32, 45, 10] : Str)).length ≤ 9223372036854775807))
                  (self (s3 ++ ((((([102, 105, 108, 101, 32] : Str) ++ t52_1) ++ ([32] : Str)) ++ t60_3) ++ ([32, 45, 10] : Str))) (IntKind.i64.wrap (s6 + (1 : Int))))
                  none)
                none)
              none)
            none)
          none)))
    (k0 s3)
def ref1_text_b_L0 (N : Nat) (r_ref1_text : (List (Str × Bool × List UInt8)) → Option (Str)) (x0 : List (Str × Bool × List UInt8)) (c4 : List Str) (k0 : Str → Option Str) : Nat → Str → Int → Option Str
  | 0, _, _ => none
  | n + 1, s3, s6 => ref1_text_b_L0T N r_ref1_text x0 c4 k0 (ref1_text_b_L0 N r_ref1_text x0 c4 k0 n) s3 s6
def ref1_text_b (N : Nat) (r_ref1_text : (List (Str × Bool × List UInt8)) → Option (Str)) (x0 : List (Str × Bool × List UInt8)) : Option Str :=
  bnd (ref1_names x0) fun t12 =>
  ref1_text_b_L0 N r_ref1_text x0 t12.1 (fun o0_3 =>
      some o0_3) N ([] : Str) (0 : Int)
abbrev ref1_text_b_sg (f : SV [.v (.sl (.pr .str (.pr .bool (.sl .u8))))] → BV [] → Option (Str)) : AF := { ps := [.v (.sl (.pr .str (.pr .bool (.sl .u8))))], bs := [], rs := [.v .str], cs := [], R := Str, out := fun z => ((z, ()), ()), f := f }
abbrev ref1_text_b_pk : SV [.v .str] → BV [] → Str := fun x _ => x.1
def ref1_text_b_fn (N : Nat) (r_ref1_text : (List (Str × Bool × List UInt8)) → Option (Str)) : FuncId → Option Tmp → Option AF := fun f _ =>
  match f with
    | 28 => some (ref1_text_sg fun x _ => r_ref1_text x.1)
    | 30 => some (ref1_Digest_sg fun x _ => ref1_Digest N x.1)
    | 31 => some (ref1_names_sg fun x _ => ref1_names x.1)
    | 32 => some (ref1_below_sg fun x _ => ref1_below N x.1 x.2.1)
    | _ => none
theorem ref1_text_b_fn_ok (N : Nat) (r_ref1_text : (List (Str × Bool × List UInt8)) → Option (Str)) (h_ref1_text : Sound Tryd.prog GW B0G 28 (ref1_text_sg fun x y => r_ref1_text x.1)) : ∀ f q F, ref1_text_b_fn N r_ref1_text f q = some F → Sound Tryd.prog GW B0G f F := by
  intro f q F h
  unfold ref1_text_b_fn at h
  split at h
  · cases h; exact h_ref1_text
  · cases h; exact ref1_Digest_sound N
  · cases h; exact ref1_names_sound
  · cases h; exact ref1_below_sound N
  · cases h
def ref1_text_b_h : Nat → Hint := fun i =>
  match i with
  | 0 => ⟨[], [0, 3, 4, 6], [], [3], [], []⟩
  | 100008 => ⟨[], [], [], [], [], []⟩
  | _ => ⟨[], [], [], [], [], []⟩
abbrev ref1_text_b_E (N : Nat) (r_ref1_text : (List (Str × Bool × List UInt8)) → Option (Str)) : Env := mkE ref1_text_b_h (ref1_text_b_fn N r_ref1_text) (fun _ => false) (fun _ => false)
abbrev ref1_text_b_L0_fs : List (Nat × Sl) := [(0, .v (.sl (.pr .str (.pr .bool (.sl .u8))))), (3, .v .str), (4, .v (.sl .str)), (6, .v (.int .i64))]
abbrev ref1_text_b_L0_bs : List (Nat × Sb) := []
def ref1_text_b_L0_hd (x0 : List (Str × Bool × List UInt8)) (c4 : List Str) (s3 : Str) (s6 : Int) : St := ⟨66, [(0, .v (.sl (.pr .str (.pr .bool (.sl .u8)))) x0), (3, .v .str s3), (4, .v (.sl .str) c4), (6, .v (.int .i64) s6)], []⟩
def ref1_text_b_L0_tl0 (_x0 : List (Str × Bool × List UInt8)) (_c4 : List Str) (o0_3 : Str) : St := ⟨66, [(3, .v .str o0_3)], []⟩
def ref1_text_b_L0_G (N : Nat) (r_ref1_text : (List (Str × Bool × List UInt8)) → Option (Str)) (x0 : List (Str × Bool × List UInt8)) (c4 : List Str) (s3 : Str) (s6 : Int) (k : Ex → St → Option Str) : Option Str :=
  ref1_text_b_L0 N r_ref1_text x0 c4 (fun o0_3 => k (.exit 0) (ref1_text_b_L0_tl0 x0 c4 o0_3)) N s3 s6
abbrev ref1_text_b_L0_F (N : Nat) (r_ref1_text : (List (Str × Bool × List UInt8)) → Option (Str)) : FV ref1_text_b_L0_fs → HV ref1_text_b_L0_bs → (Ex → St → Option Str) → Option Str := fun x _ k => ref1_text_b_L0_G N r_ref1_text x.1 x.2.2.1 x.2.1 x.2.2.2.1 k
noncomputable def ref1_text_b_LP (N : Nat) (r_ref1_text : (List (Str × Bool × List UInt8)) → Option (Str)) : Nat → Code → St → (Ex → St → Option Str) → Option Str := fun i c =>
  match i with
  | 0 => (LPc 66 ref1_text_b_L0_fs ref1_text_b_L0_bs (ref1_text_b_L0_F N r_ref1_text) (fun st k => iter (ref1_text_b_h 0) (exec (ref1_text_b_E N r_ref1_text) N c 0) N st k))
  | i => fun st k => iter (ref1_text_b_h i) (exec (ref1_text_b_E N r_ref1_text) N c i) N st k
theorem ref1_text_b_L0_step (N : Nat) (r_ref1_text : (List (Str × Bool × List UInt8)) → Option (Str)) (x0 : List (Str × Bool × List UInt8)) (c4 : List Str) (KX : Nat → St → Option Str) (I : St → Option Str) (s3 : Str) (s6 : Int) :
    execL (ref1_text_b_LP N r_ref1_text) (ref1_text_b_E N r_ref1_text) (cAt (bodyOf Tryd.f28) [true, true, true, false, true, false, false]) 0 (ref1_text_b_L0_hd x0 c4 s3 s6) (roundK (ref1_text_b_h 0) I KX (resD (ref1_text_b_E N r_ref1_text) Tryd.f28 (ref1_text_b_sg fun x _ => ref1_text_b N r_ref1_text x.1) ref1_text_b_pk)) = ref1_text_b_L0T N r_ref1_text x0 c4 (fun o0_3 => KX 0 (ref1_text_b_L0_tl0 x0 c4 o0_3)) (fun s3 s6 => I (ref1_text_b_L0_hd x0 c4 s3 s6)) s3 s6 := by kernel_rfl
theorem ref1_text_b_L0_ok (N : Nat) (r_ref1_text : (List (Str × Bool × List UInt8)) → Option (Str)) : ∀ x y k, (∀ st, k .ret st = (resD (ref1_text_b_E N r_ref1_text) Tryd.f28 (ref1_text_b_sg fun x _ => ref1_text_b N r_ref1_text x.1) ref1_text_b_pk) st) → iter (ref1_text_b_h 0) (exec (ref1_text_b_E N r_ref1_text) N (cAt (bodyOf Tryd.f28) [true, true, true, false, true, false, false]) 0) N ⟨66, unF ref1_text_b_L0_fs x, unH ref1_text_b_L0_bs y⟩ k = ref1_text_b_L0_F N r_ref1_text x y k := fun x _ k hk =>
  iter_link (S := (Str) × (Int) × Unit) (ref1_text_b_h 0) _ (execL (ref1_text_b_LP N r_ref1_text) (ref1_text_b_E N r_ref1_text) (cAt (bodyOf Tryd.f28) [true, true, true, false, true, false, false]) 0) (resD (ref1_text_b_E N r_ref1_text) Tryd.f28 (ref1_text_b_sg fun x _ => ref1_text_b N r_ref1_text x.1) ref1_text_b_pk) (fun st k hk => execL_eq _ _ N _ (cAt (bodyOf Tryd.f28) [true, true, true, false, true, false, false]) 0 (show LoopsOk (ref1_text_b_LP N r_ref1_text) (ref1_text_b_E N r_ref1_text) N (resD (ref1_text_b_E N r_ref1_text) Tryd.f28 (ref1_text_b_sg fun x _ => ref1_text_b N r_ref1_text x.1) ref1_text_b_pk) [] from trivial) st k hk) (fun s => ref1_text_b_L0_hd x.1 x.2.2.1 s.1 s.2.1) k hk
    (fun self s => ref1_text_b_L0T N r_ref1_text x.1 x.2.2.1 (fun o0_3 => k (.exit 0) (ref1_text_b_L0_tl0 x.1 x.2.2.1 o0_3)) (fun s3 s6 => self (s3, s6, ())) s.1 s.2.1) (fun n s => ref1_text_b_L0 N r_ref1_text x.1 x.2.2.1 (fun o0_3 => k (.exit 0) (ref1_text_b_L0_tl0 x.1 x.2.2.1 o0_3)) n s.1 s.2.1) (fun _ => rfl) (fun _ _ => rfl)
    (fun I s => ref1_text_b_L0_step N r_ref1_text x.1 x.2.2.1 (fun j => k (.exit j)) I s.1 s.2.1) N (x.2.1, x.2.2.2.1, ())
theorem ref1_text_b_lp0 (N : Nat) (r_ref1_text : (List (Str × Bool × List UInt8)) → Option (Str)) : ∀ st k, (∀ st, k .ret st = (resD (ref1_text_b_E N r_ref1_text) Tryd.f28 (ref1_text_b_sg fun x _ => ref1_text_b N r_ref1_text x.1) ref1_text_b_pk) st) → ref1_text_b_LP N r_ref1_text 0 (cAt (bodyOf Tryd.f28) [true, true, true, false, true, false, false]) st k = iter (Env.hint (ref1_text_b_E N r_ref1_text) 0) (exec (ref1_text_b_E N r_ref1_text) N (cAt (bodyOf Tryd.f28) [true, true, true, false, true, false, false]) 0) N st k := fun st k hk => LPc_eq 66 ref1_text_b_L0_fs ref1_text_b_L0_bs _ _ (resD (ref1_text_b_E N r_ref1_text) Tryd.f28 (ref1_text_b_sg fun x _ => ref1_text_b N r_ref1_text x.1) ref1_text_b_pk) (ref1_text_b_L0_ok N r_ref1_text) _ st k hk (rfl)
theorem ref1_text_b_core (N : Nat) (r_ref1_text : (List (Str × Bool × List UInt8)) → Option (Str)) (x : SV [.v (.sl (.pr .str (.pr .bool (.sl .u8))))]) (y : BV []) : runL (ref1_text_b_E N r_ref1_text) Tryd.f28 (ref1_text_b_sg fun x _ => ref1_text_b N r_ref1_text x.1) ref1_text_b_pk (ref1_text_b_LP N r_ref1_text) x y = ref1_text_b N r_ref1_text x.1 := by kernel_rfl
theorem ref1_text_b_sound (N : Nat) (r_ref1_text : (List (Str × Bool × List UInt8)) → Option (Str)) (h_ref1_text : Sound Tryd.prog GW B0G 28 (ref1_text_sg fun x y => r_ref1_text x.1)) : Sound Tryd.prog GW B0G 28 (ref1_text_b_sg fun x _ => ref1_text_b N r_ref1_text x.1) :=
  runD_sound (mkE_ok ref1_text_b_h (ref1_text_b_fn N r_ref1_text) _ _ (ref1_text_b_fn_ok N r_ref1_text h_ref1_text)) Tryd.func28 rfl Tryd.call28 (ref1_text_b_sg fun x _ => ref1_text_b N r_ref1_text x.1) ref1_text_b_pk (fun _ _ => rfl) N (fun x y _ h => ((runL_eq (ref1_text_b_E N r_ref1_text) N Tryd.f28 (ref1_text_b_sg fun x _ => ref1_text_b N r_ref1_text x.1) ref1_text_b_pk (ref1_text_b_LP N r_ref1_text) (show LoopsOk (ref1_text_b_LP N r_ref1_text) (ref1_text_b_E N r_ref1_text) N (resD (ref1_text_b_E N r_ref1_text) Tryd.f28 (ref1_text_b_sg fun x _ => ref1_text_b N r_ref1_text x.1) ref1_text_b_pk) [(0, (cAt (bodyOf Tryd.f28) [true, true, true, false, true, false, false]))] from ⟨ref1_text_b_lp0 N r_ref1_text, trivial⟩) x y).trans (ref1_text_b_core N r_ref1_text x y)).trans h)
def ref1_text (N : Nat) : Nat → (List (Str × Bool × List UInt8)) → Option (Str)
  | 0 => fun _ => none
  | d + 1 => ref1_text_b N (ref1_text N d)
theorem ref1_text_sound (N : Nat) : ∀ d, Sound Tryd.prog GW B0G 28 (ref1_text_sg fun x y => ref1_text N d x.1)
  | 0 => Sound.never Tryd.call28 (fun _ _ => rfl)
  | d + 1 => ref1_text_b_sound N (ref1_text N d) (ref1_text_sound N d)
def ref1_RootOf (N : Nat) (x0 : List (Str × Bool × List UInt8)) : Option Str :=
  bnd (ref1_text N N x0) fun t4 =>
  br (decide (t4.length * 24 ≤ 140737488355328))
    (bnd (ref1_Digest N t4) fun t6 =>
    some t6)
    none
abbrev ref1_RootOf_sg (f : SV [.v (.sl (.pr .str (.pr .bool (.sl .u8))))] → BV [] → Option (Str)) : AF := { ps := [.v (.sl (.pr .str (.pr .bool (.sl .u8))))], bs := [], rs := [.v .str], cs := [], R := Str, out := fun z => ((z, ()), ()), f := f }
abbrev ref1_RootOf_pk : SV [.v .str] → BV [] → Str := fun x _ => x.1
def ref1_RootOf_fn (N : Nat) : FuncId → Option Tmp → Option AF := fun f _ =>
  match f with
    | 28 => some (ref1_text_sg fun x _ => ref1_text N N x.1)
    | 30 => some (ref1_Digest_sg fun x _ => ref1_Digest N x.1)
    | _ => none
theorem ref1_RootOf_fn_ok (N : Nat) : ∀ f q F, ref1_RootOf_fn N f q = some F → Sound Tryd.prog GW B0G f F := by
  intro f q F h
  unfold ref1_RootOf_fn at h
  split at h
  · cases h; exact ref1_text_sound N N
  · cases h; exact ref1_Digest_sound N
  · cases h
def ref1_RootOf_h : Nat → Hint := fun i =>
  match i with
  | _ => ⟨[], [], [], [], [], []⟩
abbrev ref1_RootOf_E (N : Nat) : Env := mkE ref1_RootOf_h (ref1_RootOf_fn N) (fun _ => false) (fun _ => false)
noncomputable def ref1_RootOf_LP (N : Nat) : Nat → Code → St → (Ex → St → Option Str) → Option Str := fun i c =>
  match i with
  | i => fun st k => iter (ref1_RootOf_h i) (exec (ref1_RootOf_E N) N c i) N st k
theorem ref1_RootOf_core (N : Nat) (x : SV [.v (.sl (.pr .str (.pr .bool (.sl .u8))))]) (y : BV []) : runL (ref1_RootOf_E N) Tryd.f15 (ref1_RootOf_sg fun x _ => ref1_RootOf N x.1) ref1_RootOf_pk (ref1_RootOf_LP N) x y = ref1_RootOf N x.1 := by kernel_rfl
theorem ref1_RootOf_sound (N : Nat) : Sound Tryd.prog GW B0G 15 (ref1_RootOf_sg fun x _ => ref1_RootOf N x.1) :=
  runD_sound (mkE_ok ref1_RootOf_h (ref1_RootOf_fn N) _ _ (ref1_RootOf_fn_ok N)) Tryd.func15 rfl Tryd.call15 (ref1_RootOf_sg fun x _ => ref1_RootOf N x.1) ref1_RootOf_pk (fun _ _ => rfl) N (fun x y _ h => ((runL_eq (ref1_RootOf_E N) N Tryd.f15 (ref1_RootOf_sg fun x _ => ref1_RootOf N x.1) ref1_RootOf_pk (ref1_RootOf_LP N) (show LoopsOk (ref1_RootOf_LP N) (ref1_RootOf_E N) N (resD (ref1_RootOf_E N) Tryd.f15 (ref1_RootOf_sg fun x _ => ref1_RootOf N x.1) ref1_RootOf_pk) [] from trivial) x y).trans (ref1_RootOf_core N x y)).trans h)
def ref1_writer_put_L0T (_N : Nat) (x1 : Str) (k0 : Int → Option (List (Str × List UInt8))) (self : Int → Option (List (Str × List UInt8))) (s6 : Int) : Option (List (Str × List UInt8)) :=
  br (decide (s6 < (0 : Int)))
    (bnd (geti ([] : List (Str × List UInt8)) s6) fun t22 =>
    br (Op.bytesLess t22.1 x1)
      (self (IntKind.i64.wrap (s6 + (1 : Int))))
      (k0 s6))
    (k0 s6)
def ref1_writer_put_L0 (N : Nat) (x1 : Str) (k0 : Int → Option (List (Str × List UInt8))) : Nat → Int → Option (List (Str × List UInt8))
  | 0, _ => none
  | n + 1, s6 => ref1_writer_put_L0T N x1 k0 (ref1_writer_put_L0 N x1 k0 n) s6
def ref1_writer_put (N : Nat) (x1 : Str) (x2 : List UInt8) : Option (List (Str × List UInt8)) :=
  ref1_writer_put_L0 N x1 (fun o0_6 =>
      br (decide (o0_6 < (0 : Int)))
        (bnd (geti ([] : List (Str × List UInt8)) o0_6) fun t43 =>
        br (t43.1 == x1)
          (some ([] : List (Str × List UInt8)))
          (br (decide (x2.length * (24 * Ty.sz .u8) ≤ 140737488355328))
            (bnd (slc ([] : List (Str × List UInt8)) (0 : Int) o0_6) fun t62 =>
            br (decide ((([] : List (Str × List UInt8)).length + t62.length) * (24 * Ty.sz (.pr .str (.sl .u8))) ≤ 140737488355328))
              (br (decide (((([] : List (Str × List UInt8)) ++ t62).length + [(x1, x2)].length) * (24 * Ty.sz (.pr .str (.sl .u8))) ≤ 140737488355328))
                (bnd (slc ([] : List (Str × List UInt8)) o0_6 (([] : List (Str × List UInt8)).length : Int)) fun t75 =>
                br (decide ((((([] : List (Str × List UInt8)) ++ t62) ++ [(x1, x2)]).length + t75.length) * (24 * Ty.sz (.pr .str (.sl .u8))) ≤ 140737488355328))
                  (some (((([] : List (Str × List UInt8)) ++ t62) ++ [(x1, x2)]) ++ t75))
                  none)
                none)
              none)
            none))
        (br (decide (x2.length * (24 * Ty.sz .u8) ≤ 140737488355328))
          (bnd (slc ([] : List (Str × List UInt8)) (0 : Int) o0_6) fun t62_1 =>
          br (decide ((([] : List (Str × List UInt8)).length + t62_1.length) * (24 * Ty.sz (.pr .str (.sl .u8))) ≤ 140737488355328))
            (br (decide (((([] : List (Str × List UInt8)) ++ t62_1).length + [(x1, x2)].length) * (24 * Ty.sz (.pr .str (.sl .u8))) ≤ 140737488355328))
              (bnd (slc ([] : List (Str × List UInt8)) o0_6 (([] : List (Str × List UInt8)).length : Int)) fun t75_2 =>
              br (decide ((((([] : List (Str × List UInt8)) ++ t62_1) ++ [(x1, x2)]).length + t75_2.length) * (24 * Ty.sz (.pr .str (.sl .u8))) ≤ 140737488355328))
                (some (((([] : List (Str × List UInt8)) ++ t62_1) ++ [(x1, x2)]) ++ t75_2))
                none)
              none)
            none)
          none)) N (0 : Int)
abbrev ref1_writer_put_sg (f : SV [.box 0 0, .v .str, .v (.sl .u8)] → BV [.cells [.nilS]] → Option (List (Str × List UInt8))) : AF := { ps := [.box 0 0, .v .str, .v (.sl .u8)], bs := [.cells [.nilS]], rs := [], cs := [.cells [.v (.sl (.pr .str (.sl .u8)))]], R := List (Str × List UInt8), out := fun z => ((), ((z, ()), ())), f := f }
abbrev ref1_writer_put_pk : SV [] → BV [.cells [.v (.sl (.pr .str (.sl .u8)))]] → (List (Str × List UInt8)) := fun _ y => y.1.1
def ref1_writer_put_fn (_N : Nat) : FuncId → Option Tmp → Option AF := fun f _ =>
  match f with
    | _ => none
theorem ref1_writer_put_fn_ok (N : Nat) : ∀ f q F, ref1_writer_put_fn N f q = some F → Sound Tryd.prog GW B0G f F := by
  intro f q F h
  unfold ref1_writer_put_fn at h
  split at h
  · cases h
def ref1_writer_put_h : Nat → Hint := fun i =>
  match i with
  | 0 => ⟨[], [0, 1, 2, 6], [0], [0, 1, 2, 6], [0], []⟩
  | _ => ⟨[], [], [], [], [], []⟩
abbrev ref1_writer_put_E (N : Nat) : Env := mkE ref1_writer_put_h (ref1_writer_put_fn N) (fun _ => false) (fun _ => false)
abbrev ref1_writer_put_L0_fs : List (Nat × Sl) := [(0, .box 0 0), (1, .v .str), (2, .v (.sl .u8)), (6, .v (.int .i64))]
abbrev ref1_writer_put_L0_bs : List (Nat × Sb) := [(0, .cells [.nilS])]
def ref1_writer_put_L0_hd (x1 : Str) (x2 : List UInt8) (s6 : Int) : St := ⟨79, [(0, .box 0 0), (1, .v .str x1), (2, .v (.sl .u8) x2), (6, .v (.int .i64) s6)], [(0, .cells [.nilS])]⟩
def ref1_writer_put_L0_tl0 (x1 : Str) (x2 : List UInt8) (o0_6 : Int) : St := ⟨79, [(0, .box 0 0), (1, .v .str x1), (2, .v (.sl .u8) x2), (6, .v (.int .i64) o0_6)], [(0, .cells [.nilS])]⟩
def ref1_writer_put_L0_G (N : Nat) (x1 : Str) (x2 : List UInt8) (s6 : Int) (k : Ex → St → Option (List (Str × List UInt8))) : Option (List (Str × List UInt8)) :=
  ref1_writer_put_L0 N x1 (fun o0_6 => k (.exit 0) (ref1_writer_put_L0_tl0 x1 x2 o0_6)) N s6
abbrev ref1_writer_put_L0_F (N : Nat) : FV ref1_writer_put_L0_fs → HV ref1_writer_put_L0_bs → (Ex → St → Option (List (Str × List UInt8))) → Option (List (Str × List UInt8)) := fun x _ k => ref1_writer_put_L0_G N x.2.1 x.2.2.1 x.2.2.2.1 k
noncomputable def ref1_writer_put_LP (N : Nat) : Nat → Code → St → (Ex → St → Option (List (Str × List UInt8))) → Option (List (Str × List UInt8)) := fun i c =>
  match i with
  | 0 => (LPc 79 ref1_writer_put_L0_fs ref1_writer_put_L0_bs (ref1_writer_put_L0_F N) (fun st k => iter (ref1_writer_put_h 0) (exec (ref1_writer_put_E N) N c 0) N st k))
  | i => fun st k => iter (ref1_writer_put_h i) (exec (ref1_writer_put_E N) N c i) N st k
theorem ref1_writer_put_L0_step (N : Nat) (x1 : Str) (x2 : List UInt8) (KX : Nat → St → Option (List (Str × List UInt8))) (I : St → Option (List (Str × List UInt8))) (s6 : Int) :
    execL (ref1_writer_put_LP N) (ref1_writer_put_E N) (cAt (bodyOf Tryd.f29) [true, false, false, false]) 0 (ref1_writer_put_L0_hd x1 x2 s6) (roundK (ref1_writer_put_h 0) I KX (resD (ref1_writer_put_E N) Tryd.f29 (ref1_writer_put_sg fun x _ => ref1_writer_put N x.2.1 x.2.2.1) ref1_writer_put_pk)) = ref1_writer_put_L0T N x1 (fun o0_6 => KX 0 (ref1_writer_put_L0_tl0 x1 x2 o0_6)) (fun s6 => I (ref1_writer_put_L0_hd x1 x2 s6)) s6 := by kernel_rfl
theorem ref1_writer_put_L0_ok (N : Nat) : ∀ x y k, (∀ st, k .ret st = (resD (ref1_writer_put_E N) Tryd.f29 (ref1_writer_put_sg fun x _ => ref1_writer_put N x.2.1 x.2.2.1) ref1_writer_put_pk) st) → iter (ref1_writer_put_h 0) (exec (ref1_writer_put_E N) N (cAt (bodyOf Tryd.f29) [true, false, false, false]) 0) N ⟨79, unF ref1_writer_put_L0_fs x, unH ref1_writer_put_L0_bs y⟩ k = ref1_writer_put_L0_F N x y k := fun x _ k hk =>
  iter_link (S := (Int) × Unit) (ref1_writer_put_h 0) _ (execL (ref1_writer_put_LP N) (ref1_writer_put_E N) (cAt (bodyOf Tryd.f29) [true, false, false, false]) 0) (resD (ref1_writer_put_E N) Tryd.f29 (ref1_writer_put_sg fun x _ => ref1_writer_put N x.2.1 x.2.2.1) ref1_writer_put_pk) (fun st k hk => execL_eq _ _ N _ (cAt (bodyOf Tryd.f29) [true, false, false, false]) 0 (show LoopsOk (ref1_writer_put_LP N) (ref1_writer_put_E N) N (resD (ref1_writer_put_E N) Tryd.f29 (ref1_writer_put_sg fun x _ => ref1_writer_put N x.2.1 x.2.2.1) ref1_writer_put_pk) [] from trivial) st k hk) (fun s => ref1_writer_put_L0_hd x.2.1 x.2.2.1 s.1) k hk
    (fun self s => ref1_writer_put_L0T N x.2.1 (fun o0_6 => k (.exit 0) (ref1_writer_put_L0_tl0 x.2.1 x.2.2.1 o0_6)) (fun s6 => self (s6, ())) s.1) (fun n s => ref1_writer_put_L0 N x.2.1 (fun o0_6 => k (.exit 0) (ref1_writer_put_L0_tl0 x.2.1 x.2.2.1 o0_6)) n s.1) (fun _ => rfl) (fun _ _ => rfl)
    (fun I s => ref1_writer_put_L0_step N x.2.1 x.2.2.1 (fun j => k (.exit j)) I s.1) N (x.2.2.2.1, ())
theorem ref1_writer_put_lp0 (N : Nat) : ∀ st k, (∀ st, k .ret st = (resD (ref1_writer_put_E N) Tryd.f29 (ref1_writer_put_sg fun x _ => ref1_writer_put N x.2.1 x.2.2.1) ref1_writer_put_pk) st) → ref1_writer_put_LP N 0 (cAt (bodyOf Tryd.f29) [true, false, false, false]) st k = iter (Env.hint (ref1_writer_put_E N) 0) (exec (ref1_writer_put_E N) N (cAt (bodyOf Tryd.f29) [true, false, false, false]) 0) N st k := fun st k hk => LPc_eq 79 ref1_writer_put_L0_fs ref1_writer_put_L0_bs _ _ (resD (ref1_writer_put_E N) Tryd.f29 (ref1_writer_put_sg fun x _ => ref1_writer_put N x.2.1 x.2.2.1) ref1_writer_put_pk) (ref1_writer_put_L0_ok N) _ st k hk (rfl)
theorem ref1_writer_put_core (N : Nat) (x : SV [.box 0 0, .v .str, .v (.sl .u8)]) (y : BV [.cells [.nilS]]) : runL (ref1_writer_put_E N) Tryd.f29 (ref1_writer_put_sg fun x _ => ref1_writer_put N x.2.1 x.2.2.1) ref1_writer_put_pk (ref1_writer_put_LP N) x y = ref1_writer_put N x.2.1 x.2.2.1 := by kernel_rfl
theorem ref1_writer_put_sound (N : Nat) : Sound Tryd.prog GW B0G 29 (ref1_writer_put_sg fun x _ => ref1_writer_put N x.2.1 x.2.2.1) :=
  runD_sound (mkE_ok ref1_writer_put_h (ref1_writer_put_fn N) _ _ (ref1_writer_put_fn_ok N)) Tryd.func29 rfl Tryd.call29 (ref1_writer_put_sg fun x _ => ref1_writer_put N x.2.1 x.2.2.1) ref1_writer_put_pk (fun _ _ => rfl) N (fun x y _ h => ((runL_eq (ref1_writer_put_E N) N Tryd.f29 (ref1_writer_put_sg fun x _ => ref1_writer_put N x.2.1 x.2.2.1) ref1_writer_put_pk (ref1_writer_put_LP N) (show LoopsOk (ref1_writer_put_LP N) (ref1_writer_put_E N) N (resD (ref1_writer_put_E N) Tryd.f29 (ref1_writer_put_sg fun x _ => ref1_writer_put N x.2.1 x.2.2.1) ref1_writer_put_pk) [(0, (cAt (bodyOf Tryd.f29) [true, false, false, false]))] from ⟨ref1_writer_put_lp0 N, trivial⟩) x y).trans (ref1_writer_put_core N x y)).trans h)
def ref1_writer_put_2_L0T (_N : Nat) (x1 : Str) (y0_0 : List (Str × List UInt8)) (k0 : Int → Option (List (Str × List UInt8))) (self : Int → Option (List (Str × List UInt8))) (s6 : Int) : Option (List (Str × List UInt8)) :=
  br (decide (s6 < (y0_0.length : Int)))
    (bnd (geti y0_0 s6) fun t22 =>
    br (Op.bytesLess t22.1 x1)
      (self (IntKind.i64.wrap (s6 + (1 : Int))))
      (k0 s6))
    (k0 s6)
def ref1_writer_put_2_L0 (N : Nat) (x1 : Str) (y0_0 : List (Str × List UInt8)) (k0 : Int → Option (List (Str × List UInt8))) : Nat → Int → Option (List (Str × List UInt8))
  | 0, _ => none
  | n + 1, s6 => ref1_writer_put_2_L0T N x1 y0_0 k0 (ref1_writer_put_2_L0 N x1 y0_0 k0 n) s6
def ref1_writer_put_2 (N : Nat) (x1 : Str) (x2 : List UInt8) (y0_0 : List (Str × List UInt8)) : Option (List (Str × List UInt8)) :=
  ref1_writer_put_2_L0 N x1 y0_0 (fun o0_6 =>
      br (decide (o0_6 < (y0_0.length : Int)))
        (bnd (geti y0_0 o0_6) fun t43 =>
        br (t43.1 == x1)
          (some y0_0)
          (br (decide (x2.length * (24 * Ty.sz .u8) ≤ 140737488355328))
            (bnd (slc y0_0 (0 : Int) o0_6) fun t62 =>
            br (decide ((([] : List (Str × List UInt8)).length + t62.length) * (24 * Ty.sz (.pr .str (.sl .u8))) ≤ 140737488355328))
              (br (decide (((([] : List (Str × List UInt8)) ++ t62).length + [(x1, x2)].length) * (24 * Ty.sz (.pr .str (.sl .u8))) ≤ 140737488355328))
                (bnd (slc y0_0 o0_6 (y0_0.length : Int)) fun t75 =>
                br (decide ((((([] : List (Str × List UInt8)) ++ t62) ++ [(x1, x2)]).length + t75.length) * (24 * Ty.sz (.pr .str (.sl .u8))) ≤ 140737488355328))
                  (some (((([] : List (Str × List UInt8)) ++ t62) ++ [(x1, x2)]) ++ t75))
                  none)
                none)
              none)
            none))
        (br (decide (x2.length * (24 * Ty.sz .u8) ≤ 140737488355328))
          (bnd (slc y0_0 (0 : Int) o0_6) fun t62_1 =>
          br (decide ((([] : List (Str × List UInt8)).length + t62_1.length) * (24 * Ty.sz (.pr .str (.sl .u8))) ≤ 140737488355328))
            (br (decide (((([] : List (Str × List UInt8)) ++ t62_1).length + [(x1, x2)].length) * (24 * Ty.sz (.pr .str (.sl .u8))) ≤ 140737488355328))
              (bnd (slc y0_0 o0_6 (y0_0.length : Int)) fun t75_2 =>
              br (decide ((((([] : List (Str × List UInt8)) ++ t62_1) ++ [(x1, x2)]).length + t75_2.length) * (24 * Ty.sz (.pr .str (.sl .u8))) ≤ 140737488355328))
                (some (((([] : List (Str × List UInt8)) ++ t62_1) ++ [(x1, x2)]) ++ t75_2))
                none)
              none)
            none)
          none)) N (0 : Int)
abbrev ref1_writer_put_2_sg (f : SV [.box 0 0, .v .str, .v (.sl .u8)] → BV [.cells [.v (.sl (.pr .str (.sl .u8)))]] → Option (List (Str × List UInt8))) : AF := { ps := [.box 0 0, .v .str, .v (.sl .u8)], bs := [.cells [.v (.sl (.pr .str (.sl .u8)))]], rs := [], cs := [.cells [.v (.sl (.pr .str (.sl .u8)))]], R := List (Str × List UInt8), out := fun z => ((), ((z, ()), ())), f := f }
abbrev ref1_writer_put_2_pk : SV [] → BV [.cells [.v (.sl (.pr .str (.sl .u8)))]] → (List (Str × List UInt8)) := fun _ y => y.1.1
def ref1_writer_put_2_fn (_N : Nat) : FuncId → Option Tmp → Option AF := fun f _ =>
  match f with
    | _ => none
theorem ref1_writer_put_2_fn_ok (N : Nat) : ∀ f q F, ref1_writer_put_2_fn N f q = some F → Sound Tryd.prog GW B0G f F := by
  intro f q F h
  unfold ref1_writer_put_2_fn at h
  split at h
  · cases h
def ref1_writer_put_2_h : Nat → Hint := fun i =>
  match i with
  | 0 => ⟨[], [0, 1, 2, 6], [0], [0, 1, 2, 6], [0], []⟩
  | _ => ⟨[], [], [], [], [], []⟩
abbrev ref1_writer_put_2_E (N : Nat) : Env := mkE ref1_writer_put_2_h (ref1_writer_put_2_fn N) (fun _ => false) (fun _ => false)
abbrev ref1_writer_put_2_L0_fs : List (Nat × Sl) := [(0, .box 0 0), (1, .v .str), (2, .v (.sl .u8)), (6, .v (.int .i64))]
abbrev ref1_writer_put_2_L0_bs : List (Nat × Sb) := [(0, .cells [.v (.sl (.pr .str (.sl .u8)))])]
def ref1_writer_put_2_L0_hd (x1 : Str) (x2 : List UInt8) (y0_0 : List (Str × List UInt8)) (s6 : Int) : St := ⟨79, [(0, .box 0 0), (1, .v .str x1), (2, .v (.sl .u8) x2), (6, .v (.int .i64) s6)], [(0, .cells [.v (.sl (.pr .str (.sl .u8))) y0_0])]⟩
def ref1_writer_put_2_L0_tl0 (x1 : Str) (x2 : List UInt8) (y0_0 : List (Str × List UInt8)) (o0_6 : Int) : St := ⟨79, [(0, .box 0 0), (1, .v .str x1), (2, .v (.sl .u8) x2), (6, .v (.int .i64) o0_6)], [(0, .cells [.v (.sl (.pr .str (.sl .u8))) y0_0])]⟩
def ref1_writer_put_2_L0_G (N : Nat) (x1 : Str) (x2 : List UInt8) (y0_0 : List (Str × List UInt8)) (s6 : Int) (k : Ex → St → Option (List (Str × List UInt8))) : Option (List (Str × List UInt8)) :=
  ref1_writer_put_2_L0 N x1 y0_0 (fun o0_6 => k (.exit 0) (ref1_writer_put_2_L0_tl0 x1 x2 y0_0 o0_6)) N s6
abbrev ref1_writer_put_2_L0_F (N : Nat) : FV ref1_writer_put_2_L0_fs → HV ref1_writer_put_2_L0_bs → (Ex → St → Option (List (Str × List UInt8))) → Option (List (Str × List UInt8)) := fun x y k => ref1_writer_put_2_L0_G N x.2.1 x.2.2.1 y.1.1 x.2.2.2.1 k
noncomputable def ref1_writer_put_2_LP (N : Nat) : Nat → Code → St → (Ex → St → Option (List (Str × List UInt8))) → Option (List (Str × List UInt8)) := fun i c =>
  match i with
  | 0 => (LPc 79 ref1_writer_put_2_L0_fs ref1_writer_put_2_L0_bs (ref1_writer_put_2_L0_F N) (fun st k => iter (ref1_writer_put_2_h 0) (exec (ref1_writer_put_2_E N) N c 0) N st k))
  | i => fun st k => iter (ref1_writer_put_2_h i) (exec (ref1_writer_put_2_E N) N c i) N st k
theorem ref1_writer_put_2_L0_step (N : Nat) (x1 : Str) (x2 : List UInt8) (y0_0 : List (Str × List UInt8)) (KX : Nat → St → Option (List (Str × List UInt8))) (I : St → Option (List (Str × List UInt8))) (s6 : Int) :
    execL (ref1_writer_put_2_LP N) (ref1_writer_put_2_E N) (cAt (bodyOf Tryd.f29) [true, false, false, false]) 0 (ref1_writer_put_2_L0_hd x1 x2 y0_0 s6) (roundK (ref1_writer_put_2_h 0) I KX (resD (ref1_writer_put_2_E N) Tryd.f29 (ref1_writer_put_2_sg fun x y => ref1_writer_put_2 N x.2.1 x.2.2.1 y.1.1) ref1_writer_put_2_pk)) = ref1_writer_put_2_L0T N x1 y0_0 (fun o0_6 => KX 0 (ref1_writer_put_2_L0_tl0 x1 x2 y0_0 o0_6)) (fun s6 => I (ref1_writer_put_2_L0_hd x1 x2 y0_0 s6)) s6 := by kernel_rfl
theorem ref1_writer_put_2_L0_ok (N : Nat) : ∀ x y k, (∀ st, k .ret st = (resD (ref1_writer_put_2_E N) Tryd.f29 (ref1_writer_put_2_sg fun x y => ref1_writer_put_2 N x.2.1 x.2.2.1 y.1.1) ref1_writer_put_2_pk) st) → iter (ref1_writer_put_2_h 0) (exec (ref1_writer_put_2_E N) N (cAt (bodyOf Tryd.f29) [true, false, false, false]) 0) N ⟨79, unF ref1_writer_put_2_L0_fs x, unH ref1_writer_put_2_L0_bs y⟩ k = ref1_writer_put_2_L0_F N x y k := fun x y k hk =>
  iter_link (S := (Int) × Unit) (ref1_writer_put_2_h 0) _ (execL (ref1_writer_put_2_LP N) (ref1_writer_put_2_E N) (cAt (bodyOf Tryd.f29) [true, false, false, false]) 0) (resD (ref1_writer_put_2_E N) Tryd.f29 (ref1_writer_put_2_sg fun x y => ref1_writer_put_2 N x.2.1 x.2.2.1 y.1.1) ref1_writer_put_2_pk) (fun st k hk => execL_eq _ _ N _ (cAt (bodyOf Tryd.f29) [true, false, false, false]) 0 (show LoopsOk (ref1_writer_put_2_LP N) (ref1_writer_put_2_E N) N (resD (ref1_writer_put_2_E N) Tryd.f29 (ref1_writer_put_2_sg fun x y => ref1_writer_put_2 N x.2.1 x.2.2.1 y.1.1) ref1_writer_put_2_pk) [] from trivial) st k hk) (fun s => ref1_writer_put_2_L0_hd x.2.1 x.2.2.1 y.1.1 s.1) k hk
    (fun self s => ref1_writer_put_2_L0T N x.2.1 y.1.1 (fun o0_6 => k (.exit 0) (ref1_writer_put_2_L0_tl0 x.2.1 x.2.2.1 y.1.1 o0_6)) (fun s6 => self (s6, ())) s.1) (fun n s => ref1_writer_put_2_L0 N x.2.1 y.1.1 (fun o0_6 => k (.exit 0) (ref1_writer_put_2_L0_tl0 x.2.1 x.2.2.1 y.1.1 o0_6)) n s.1) (fun _ => rfl) (fun _ _ => rfl)
    (fun I s => ref1_writer_put_2_L0_step N x.2.1 x.2.2.1 y.1.1 (fun j => k (.exit j)) I s.1) N (x.2.2.2.1, ())
theorem ref1_writer_put_2_lp0 (N : Nat) : ∀ st k, (∀ st, k .ret st = (resD (ref1_writer_put_2_E N) Tryd.f29 (ref1_writer_put_2_sg fun x y => ref1_writer_put_2 N x.2.1 x.2.2.1 y.1.1) ref1_writer_put_2_pk) st) → ref1_writer_put_2_LP N 0 (cAt (bodyOf Tryd.f29) [true, false, false, false]) st k = iter (Env.hint (ref1_writer_put_2_E N) 0) (exec (ref1_writer_put_2_E N) N (cAt (bodyOf Tryd.f29) [true, false, false, false]) 0) N st k := fun st k hk => LPc_eq 79 ref1_writer_put_2_L0_fs ref1_writer_put_2_L0_bs _ _ (resD (ref1_writer_put_2_E N) Tryd.f29 (ref1_writer_put_2_sg fun x y => ref1_writer_put_2 N x.2.1 x.2.2.1 y.1.1) ref1_writer_put_2_pk) (ref1_writer_put_2_L0_ok N) _ st k hk (rfl)
theorem ref1_writer_put_2_core (N : Nat) (x : SV [.box 0 0, .v .str, .v (.sl .u8)]) (y : BV [.cells [.v (.sl (.pr .str (.sl .u8)))]]) : runL (ref1_writer_put_2_E N) Tryd.f29 (ref1_writer_put_2_sg fun x y => ref1_writer_put_2 N x.2.1 x.2.2.1 y.1.1) ref1_writer_put_2_pk (ref1_writer_put_2_LP N) x y = ref1_writer_put_2 N x.2.1 x.2.2.1 y.1.1 := by kernel_rfl
theorem ref1_writer_put_2_sound (N : Nat) : Sound Tryd.prog GW B0G 29 (ref1_writer_put_2_sg fun x y => ref1_writer_put_2 N x.2.1 x.2.2.1 y.1.1) :=
  runD_sound (mkE_ok ref1_writer_put_2_h (ref1_writer_put_2_fn N) _ _ (ref1_writer_put_2_fn_ok N)) Tryd.func29 rfl Tryd.call29 (ref1_writer_put_2_sg fun x y => ref1_writer_put_2 N x.2.1 x.2.2.1 y.1.1) ref1_writer_put_2_pk (fun _ _ => rfl) N (fun x y _ h => ((runL_eq (ref1_writer_put_2_E N) N Tryd.f29 (ref1_writer_put_2_sg fun x y => ref1_writer_put_2 N x.2.1 x.2.2.1 y.1.1) ref1_writer_put_2_pk (ref1_writer_put_2_LP N) (show LoopsOk (ref1_writer_put_2_LP N) (ref1_writer_put_2_E N) N (resD (ref1_writer_put_2_E N) Tryd.f29 (ref1_writer_put_2_sg fun x y => ref1_writer_put_2 N x.2.1 x.2.2.1 y.1.1) ref1_writer_put_2_pk) [(0, (cAt (bodyOf Tryd.f29) [true, false, false, false]))] from ⟨ref1_writer_put_2_lp0 N, trivial⟩) x y).trans (ref1_writer_put_2_core N x y)).trans h)
abbrev ref1_writer_write_2_sg (f : SV [.box 0 0, .v (.sl (.pr .str (.pr .bool (.sl .u8))))] → BV [.cells [.v (.sl (.pr .str (.sl .u8)))]] → Option (List (Str × List UInt8))) : AF := { ps := [.box 0 0, .v (.sl (.pr .str (.pr .bool (.sl .u8))))], bs := [.cells [.v (.sl (.pr .str (.sl .u8)))]], rs := [], cs := [.cells [.v (.sl (.pr .str (.sl .u8)))]], R := List (Str × List UInt8), out := fun z => ((), ((z, ()), ())), f := f }
def ref1_writer_write_2_b_L0T (N : Nat) (r_ref1_writer_write_2 : (List (Str × Bool × List UInt8)) → (List (Str × List UInt8)) → Option (List (Str × List UInt8))) (x1 : List (Str × Bool × List UInt8)) (c5 : List Str) (k0 : (List (Str × List UInt8)) → Option (List (Str × List UInt8))) (self : Int → (List (Str × List UInt8)) → Option (List (Str × List UInt8))) (s7 : Int) (b0_0 : List (Str × List UInt8)) : Option (List (Str × List UInt8)) :=
  br (decide (s7 < (c5.length : Int)))
    (bnd (geti c5 s7) fun t34 =>
    bnd (ref1_below N x1 t34) fun t36 =>
    br (t36.1)
      (bnd (r_ref1_writer_write_2 t36.2 b0_0) fun t42 =>
      self (IntKind.i64.wrap (s7 + (1 : Int))) t42)
      (bnd (geti t36.2 (0 : Int)) fun t45 =>
      bnd (geti t36.2 (0 : Int)) fun t50 =>
      bnd (ref1_Digest N t45.2.2) fun t48 =>
      bnd (ref1_writer_put_2 N t48 t50.2.2 b0_0) fun t53 =>
      self (IntKind.i64.wrap (s7 + (1 : Int))) t53))
    (k0 b0_0)
def ref1_writer_write_2_b_L0 (N : Nat) (r_ref1_writer_write_2 : (List (Str × Bool × List UInt8)) → (List (Str × List UInt8)) → Option (List (Str × List UInt8))) (x1 : List (Str × Bool × List UInt8)) (c5 : List Str) (k0 : (List (Str × List UInt8)) → Option (List (Str × List UInt8))) : Nat → Int → (List (Str × List UInt8)) → Option (List (Str × List UInt8))
  | 0, _, _ => none
  | n + 1, s7, b0_0 => ref1_writer_write_2_b_L0T N r_ref1_writer_write_2 x1 c5 k0 (ref1_writer_write_2_b_L0 N r_ref1_writer_write_2 x1 c5 k0 n) s7 b0_0
def ref1_writer_write_2_b (N : Nat) (r_ref1_writer_write_2 : (List (Str × Bool × List UInt8)) → (List (Str × List UInt8)) → Option (List (Str × List UInt8))) (x1 : List (Str × Bool × List UInt8)) (y0_0 : List (Str × List UInt8)) : Option (List (Str × List UInt8)) :=
  bnd (ref1_text N N x1) fun t11 =>
  br (decide (t11.length * 24 ≤ 140737488355328))
    (bnd (ref1_Digest N t11) fun t15 =>
    br (decide (t11.length * 24 ≤ 140737488355328))
      (bnd (ref1_writer_put_2 N t15 t11 y0_0) fun t18 =>
      bnd (ref1_names x1) fun t21 =>
      ref1_writer_write_2_b_L0 N r_ref1_writer_write_2 x1 t21.1 (fun o0_0_0 =>
          some o0_0_0) N (0 : Int) t18)
      none)
    none
abbrev ref1_writer_write_2_b_sg (f : SV [.box 0 0, .v (.sl (.pr .str (.pr .bool (.sl .u8))))] → BV [.cells [.v (.sl (.pr .str (.sl .u8)))]] → Option (List (Str × List UInt8))) : AF := { ps := [.box 0 0, .v (.sl (.pr .str (.pr .bool (.sl .u8))))], bs := [.cells [.v (.sl (.pr .str (.sl .u8)))]], rs := [], cs := [.cells [.v (.sl (.pr .str (.sl .u8)))]], R := List (Str × List UInt8), out := fun z => ((), ((z, ()), ())), f := f }
abbrev ref1_writer_write_2_b_pk : SV [] → BV [.cells [.v (.sl (.pr .str (.sl .u8)))]] → (List (Str × List UInt8)) := fun _ y => y.1.1
def ref1_writer_write_2_b_fn (N : Nat) (r_ref1_writer_write_2 : (List (Str × Bool × List UInt8)) → (List (Str × List UInt8)) → Option (List (Str × List UInt8))) : FuncId → Option Tmp → Option AF := fun f _ =>
  match f with
    | 14 => some (ref1_writer_write_2_sg fun x y => r_ref1_writer_write_2 x.2.1 y.1.1)
    | 28 => some (ref1_text_sg fun x _ => ref1_text N N x.1)
    | 29 => some (ref1_writer_put_2_sg fun x y => ref1_writer_put_2 N x.2.1 x.2.2.1 y.1.1)
    | 30 => some (ref1_Digest_sg fun x _ => ref1_Digest N x.1)
    | 31 => some (ref1_names_sg fun x _ => ref1_names x.1)
    | 32 => some (ref1_below_sg fun x _ => ref1_below N x.1 x.2.1)
    | _ => none
theorem ref1_writer_write_2_b_fn_ok (N : Nat) (r_ref1_writer_write_2 : (List (Str × Bool × List UInt8)) → (List (Str × List UInt8)) → Option (List (Str × List UInt8))) (h_ref1_writer_write_2 : Sound Tryd.prog GW B0G 14 (ref1_writer_write_2_sg fun x y => r_ref1_writer_write_2 x.2.1 y.1.1)) : ∀ f q F, ref1_writer_write_2_b_fn N r_ref1_writer_write_2 f q = some F → Sound Tryd.prog GW B0G f F := by
  intro f q F h
  unfold ref1_writer_write_2_b_fn at h
  split at h
  · cases h; exact h_ref1_writer_write_2
  · cases h; exact ref1_text_sound N N
  · cases h; exact ref1_writer_put_2_sound N
  · cases h; exact ref1_Digest_sound N
  · cases h; exact ref1_names_sound
  · cases h; exact ref1_below_sound N
  · cases h
def ref1_writer_write_2_b_h : Nat → Hint := fun i =>
  match i with
  | 0 => ⟨[], [0, 1, 5, 7], [0], [], [0], []⟩
  | 100009 => ⟨[103600], [], [], [], [], []⟩
  | _ => ⟨[], [], [], [], [], []⟩
abbrev ref1_writer_write_2_b_E (N : Nat) (r_ref1_writer_write_2 : (List (Str × Bool × List UInt8)) → (List (Str × List UInt8)) → Option (List (Str × List UInt8))) : Env := mkE ref1_writer_write_2_b_h (ref1_writer_write_2_b_fn N r_ref1_writer_write_2) (fun _ => false) (fun _ => false)
abbrev ref1_writer_write_2_b_L0_fs : List (Nat × Sl) := [(0, .box 0 0), (1, .v (.sl (.pr .str (.pr .bool (.sl .u8))))), (5, .v (.sl .str)), (7, .v (.int .i64))]
abbrev ref1_writer_write_2_b_L0_bs : List (Nat × Sb) := [(0, .cells [.v (.sl (.pr .str (.sl .u8)))])]
def ref1_writer_write_2_b_L0_hd (x1 : List (Str × Bool × List UInt8)) (c5 : List Str) (s7 : Int) (b0_0 : List (Str × List UInt8)) : St := ⟨54, [(0, .box 0 0), (1, .v (.sl (.pr .str (.pr .bool (.sl .u8)))) x1), (5, .v (.sl .str) c5), (7, .v (.int .i64) s7)], [(0, .cells [.v (.sl (.pr .str (.sl .u8))) b0_0])]⟩
def ref1_writer_write_2_b_L0_tl0 (_x1 : List (Str × Bool × List UInt8)) (_c5 : List Str) (o0_0_0 : List (Str × List UInt8)) : St := ⟨54, [], [(0, .cells [.v (.sl (.pr .str (.sl .u8))) o0_0_0])]⟩
def ref1_writer_write_2_b_L0_G (N : Nat) (r_ref1_writer_write_2 : (List (Str × Bool × List UInt8)) → (List (Str × List UInt8)) → Option (List (Str × List UInt8))) (x1 : List (Str × Bool × List UInt8)) (c5 : List Str) (s7 : Int) (b0_0 : List (Str × List UInt8)) (k : Ex → St → Option (List (Str × List UInt8))) : Option (List (Str × List UInt8)) :=
  ref1_writer_write_2_b_L0 N r_ref1_writer_write_2 x1 c5 (fun o0_0_0 => k (.exit 0) (ref1_writer_write_2_b_L0_tl0 x1 c5 o0_0_0)) N s7 b0_0
abbrev ref1_writer_write_2_b_L0_F (N : Nat) (r_ref1_writer_write_2 : (List (Str × Bool × List UInt8)) → (List (Str × List UInt8)) → Option (List (Str × List UInt8))) : FV ref1_writer_write_2_b_L0_fs → HV ref1_writer_write_2_b_L0_bs → (Ex → St → Option (List (Str × List UInt8))) → Option (List (Str × List UInt8)) := fun x y k => ref1_writer_write_2_b_L0_G N r_ref1_writer_write_2 x.2.1 x.2.2.1 x.2.2.2.1 y.1.1 k
noncomputable def ref1_writer_write_2_b_LP (N : Nat) (r_ref1_writer_write_2 : (List (Str × Bool × List UInt8)) → (List (Str × List UInt8)) → Option (List (Str × List UInt8))) : Nat → Code → St → (Ex → St → Option (List (Str × List UInt8))) → Option (List (Str × List UInt8)) := fun i c =>
  match i with
  | 0 => (LPc 54 ref1_writer_write_2_b_L0_fs ref1_writer_write_2_b_L0_bs (ref1_writer_write_2_b_L0_F N r_ref1_writer_write_2) (fun st k => iter (ref1_writer_write_2_b_h 0) (exec (ref1_writer_write_2_b_E N r_ref1_writer_write_2) N c 0) N st k))
  | i => fun st k => iter (ref1_writer_write_2_b_h i) (exec (ref1_writer_write_2_b_E N r_ref1_writer_write_2) N c i) N st k
theorem ref1_writer_write_2_b_L0_step (N : Nat) (r_ref1_writer_write_2 : (List (Str × Bool × List UInt8)) → (List (Str × List UInt8)) → Option (List (Str × List UInt8))) (x1 : List (Str × Bool × List UInt8)) (c5 : List Str) (KX : Nat → St → Option (List (Str × List UInt8))) (I : St → Option (List (Str × List UInt8))) (s7 : Int) (b0_0 : List (Str × List UInt8)) :
    execL (ref1_writer_write_2_b_LP N r_ref1_writer_write_2) (ref1_writer_write_2_b_E N r_ref1_writer_write_2) (cAt (bodyOf Tryd.f14) [true, true, true, true, false, false]) 0 (ref1_writer_write_2_b_L0_hd x1 c5 s7 b0_0) (roundK (ref1_writer_write_2_b_h 0) I KX (resD (ref1_writer_write_2_b_E N r_ref1_writer_write_2) Tryd.f14 (ref1_writer_write_2_b_sg fun x y => ref1_writer_write_2_b N r_ref1_writer_write_2 x.2.1 y.1.1) ref1_writer_write_2_b_pk)) = ref1_writer_write_2_b_L0T N r_ref1_writer_write_2 x1 c5 (fun o0_0_0 => KX 0 (ref1_writer_write_2_b_L0_tl0 x1 c5 o0_0_0)) (fun s7 b0_0 => I (ref1_writer_write_2_b_L0_hd x1 c5 s7 b0_0)) s7 b0_0 := by kernel_rfl
theorem ref1_writer_write_2_b_L0_ok (N : Nat) (r_ref1_writer_write_2 : (List (Str × Bool × List UInt8)) → (List (Str × List UInt8)) → Option (List (Str × List UInt8))) : ∀ x y k, (∀ st, k .ret st = (resD (ref1_writer_write_2_b_E N r_ref1_writer_write_2) Tryd.f14 (ref1_writer_write_2_b_sg fun x y => ref1_writer_write_2_b N r_ref1_writer_write_2 x.2.1 y.1.1) ref1_writer_write_2_b_pk) st) → iter (ref1_writer_write_2_b_h 0) (exec (ref1_writer_write_2_b_E N r_ref1_writer_write_2) N (cAt (bodyOf Tryd.f14) [true, true, true, true, false, false]) 0) N ⟨54, unF ref1_writer_write_2_b_L0_fs x, unH ref1_writer_write_2_b_L0_bs y⟩ k = ref1_writer_write_2_b_L0_F N r_ref1_writer_write_2 x y k := fun x y k hk =>
  iter_link (S := (Int) × (List (Str × List UInt8)) × Unit) (ref1_writer_write_2_b_h 0) _ (execL (ref1_writer_write_2_b_LP N r_ref1_writer_write_2) (ref1_writer_write_2_b_E N r_ref1_writer_write_2) (cAt (bodyOf Tryd.f14) [true, true, true, true, false, false]) 0) (resD (ref1_writer_write_2_b_E N r_ref1_writer_write_2) Tryd.f14 (ref1_writer_write_2_b_sg fun x y => ref1_writer_write_2_b N r_ref1_writer_write_2 x.2.1 y.1.1) ref1_writer_write_2_b_pk) (fun st k hk => execL_eq _ _ N _ (cAt (bodyOf Tryd.f14) [true, true, true, true, false, false]) 0 (show LoopsOk (ref1_writer_write_2_b_LP N r_ref1_writer_write_2) (ref1_writer_write_2_b_E N r_ref1_writer_write_2) N (resD (ref1_writer_write_2_b_E N r_ref1_writer_write_2) Tryd.f14 (ref1_writer_write_2_b_sg fun x y => ref1_writer_write_2_b N r_ref1_writer_write_2 x.2.1 y.1.1) ref1_writer_write_2_b_pk) [] from trivial) st k hk) (fun s => ref1_writer_write_2_b_L0_hd x.2.1 x.2.2.1 s.1 s.2.1) k hk
    (fun self s => ref1_writer_write_2_b_L0T N r_ref1_writer_write_2 x.2.1 x.2.2.1 (fun o0_0_0 => k (.exit 0) (ref1_writer_write_2_b_L0_tl0 x.2.1 x.2.2.1 o0_0_0)) (fun s7 b0_0 => self (s7, b0_0, ())) s.1 s.2.1) (fun n s => ref1_writer_write_2_b_L0 N r_ref1_writer_write_2 x.2.1 x.2.2.1 (fun o0_0_0 => k (.exit 0) (ref1_writer_write_2_b_L0_tl0 x.2.1 x.2.2.1 o0_0_0)) n s.1 s.2.1) (fun _ => rfl) (fun _ _ => rfl)
    (fun I s => ref1_writer_write_2_b_L0_step N r_ref1_writer_write_2 x.2.1 x.2.2.1 (fun j => k (.exit j)) I s.1 s.2.1) N (x.2.2.2.1, y.1.1, ())
theorem ref1_writer_write_2_b_lp0 (N : Nat) (r_ref1_writer_write_2 : (List (Str × Bool × List UInt8)) → (List (Str × List UInt8)) → Option (List (Str × List UInt8))) : ∀ st k, (∀ st, k .ret st = (resD (ref1_writer_write_2_b_E N r_ref1_writer_write_2) Tryd.f14 (ref1_writer_write_2_b_sg fun x y => ref1_writer_write_2_b N r_ref1_writer_write_2 x.2.1 y.1.1) ref1_writer_write_2_b_pk) st) → ref1_writer_write_2_b_LP N r_ref1_writer_write_2 0 (cAt (bodyOf Tryd.f14) [true, true, true, true, false, false]) st k = iter (Env.hint (ref1_writer_write_2_b_E N r_ref1_writer_write_2) 0) (exec (ref1_writer_write_2_b_E N r_ref1_writer_write_2) N (cAt (bodyOf Tryd.f14) [true, true, true, true, false, false]) 0) N st k := fun st k hk => LPc_eq 54 ref1_writer_write_2_b_L0_fs ref1_writer_write_2_b_L0_bs _ _ (resD (ref1_writer_write_2_b_E N r_ref1_writer_write_2) Tryd.f14 (ref1_writer_write_2_b_sg fun x y => ref1_writer_write_2_b N r_ref1_writer_write_2 x.2.1 y.1.1) ref1_writer_write_2_b_pk) (ref1_writer_write_2_b_L0_ok N r_ref1_writer_write_2) _ st k hk (rfl)
theorem ref1_writer_write_2_b_core (N : Nat) (r_ref1_writer_write_2 : (List (Str × Bool × List UInt8)) → (List (Str × List UInt8)) → Option (List (Str × List UInt8))) (x : SV [.box 0 0, .v (.sl (.pr .str (.pr .bool (.sl .u8))))]) (y : BV [.cells [.v (.sl (.pr .str (.sl .u8)))]]) : runL (ref1_writer_write_2_b_E N r_ref1_writer_write_2) Tryd.f14 (ref1_writer_write_2_b_sg fun x y => ref1_writer_write_2_b N r_ref1_writer_write_2 x.2.1 y.1.1) ref1_writer_write_2_b_pk (ref1_writer_write_2_b_LP N r_ref1_writer_write_2) x y = ref1_writer_write_2_b N r_ref1_writer_write_2 x.2.1 y.1.1 := by kernel_rfl
theorem ref1_writer_write_2_b_sound (N : Nat) (r_ref1_writer_write_2 : (List (Str × Bool × List UInt8)) → (List (Str × List UInt8)) → Option (List (Str × List UInt8))) (h_ref1_writer_write_2 : Sound Tryd.prog GW B0G 14 (ref1_writer_write_2_sg fun x y => r_ref1_writer_write_2 x.2.1 y.1.1)) : Sound Tryd.prog GW B0G 14 (ref1_writer_write_2_b_sg fun x y => ref1_writer_write_2_b N r_ref1_writer_write_2 x.2.1 y.1.1) :=
  runD_sound (mkE_ok ref1_writer_write_2_b_h (ref1_writer_write_2_b_fn N r_ref1_writer_write_2) _ _ (ref1_writer_write_2_b_fn_ok N r_ref1_writer_write_2 h_ref1_writer_write_2)) Tryd.func14 rfl Tryd.call14 (ref1_writer_write_2_b_sg fun x y => ref1_writer_write_2_b N r_ref1_writer_write_2 x.2.1 y.1.1) ref1_writer_write_2_b_pk (fun _ _ => rfl) N (fun x y _ h => ((runL_eq (ref1_writer_write_2_b_E N r_ref1_writer_write_2) N Tryd.f14 (ref1_writer_write_2_b_sg fun x y => ref1_writer_write_2_b N r_ref1_writer_write_2 x.2.1 y.1.1) ref1_writer_write_2_b_pk (ref1_writer_write_2_b_LP N r_ref1_writer_write_2) (show LoopsOk (ref1_writer_write_2_b_LP N r_ref1_writer_write_2) (ref1_writer_write_2_b_E N r_ref1_writer_write_2) N (resD (ref1_writer_write_2_b_E N r_ref1_writer_write_2) Tryd.f14 (ref1_writer_write_2_b_sg fun x y => ref1_writer_write_2_b N r_ref1_writer_write_2 x.2.1 y.1.1) ref1_writer_write_2_b_pk) [(0, (cAt (bodyOf Tryd.f14) [true, true, true, true, false, false]))] from ⟨ref1_writer_write_2_b_lp0 N r_ref1_writer_write_2, trivial⟩) x y).trans (ref1_writer_write_2_b_core N r_ref1_writer_write_2 x y)).trans h)
def ref1_writer_write_2 (N : Nat) : Nat → (List (Str × Bool × List UInt8)) → (List (Str × List UInt8)) → Option (List (Str × List UInt8))
  | 0 => fun _ _ => none
  | d + 1 => ref1_writer_write_2_b N (ref1_writer_write_2 N d)
theorem ref1_writer_write_2_sound (N : Nat) : ∀ d, Sound Tryd.prog GW B0G 14 (ref1_writer_write_2_sg fun x y => ref1_writer_write_2 N d x.2.1 y.1.1)
  | 0 => Sound.never Tryd.call14 (fun _ _ => rfl)
  | d + 1 => ref1_writer_write_2_b_sound N (ref1_writer_write_2 N d) (ref1_writer_write_2_sound N d)
def ref1_writer_write_L0T (N : Nat) (x1 : List (Str × Bool × List UInt8)) (c5 : List Str) (k0 : (List (Str × List UInt8)) → Option (List (Str × List UInt8))) (self : Int → (List (Str × List UInt8)) → Option (List (Str × List UInt8))) (s7 : Int) (b0_0 : List (Str × List UInt8)) : Option (List (Str × List UInt8)) :=
  br (decide (s7 < (c5.length : Int)))
    (bnd (geti c5 s7) fun t34 =>
    bnd (ref1_below N x1 t34) fun t36 =>
    br (t36.1)
      (bnd (ref1_writer_write_2 N N t36.2 b0_0) fun t42 =>
      self (IntKind.i64.wrap (s7 + (1 : Int))) t42)
      (bnd (geti t36.2 (0 : Int)) fun t45 =>
      bnd (geti t36.2 (0 : Int)) fun t50 =>
      bnd (ref1_Digest N t45.2.2) fun t48 =>
      bnd (ref1_writer_put_2 N t48 t50.2.2 b0_0) fun t53 =>
      self (IntKind.i64.wrap (s7 + (1 : Int))) t53))
    (k0 b0_0)
def ref1_writer_write_L0 (N : Nat) (x1 : List (Str × Bool × List UInt8)) (c5 : List Str) (k0 : (List (Str × List UInt8)) → Option (List (Str × List UInt8))) : Nat → Int → (List (Str × List UInt8)) → Option (List (Str × List UInt8))
  | 0, _, _ => none
  | n + 1, s7, b0_0 => ref1_writer_write_L0T N x1 c5 k0 (ref1_writer_write_L0 N x1 c5 k0 n) s7 b0_0
def ref1_writer_write (N : Nat) (x1 : List (Str × Bool × List UInt8)) : Option (List (Str × List UInt8)) :=
  bnd (ref1_text N N x1) fun t11 =>
  br (decide (t11.length * 24 ≤ 140737488355328))
    (bnd (ref1_Digest N t11) fun t15 =>
    br (decide (t11.length * 24 ≤ 140737488355328))
      (bnd (ref1_writer_put N t15 t11) fun t18 =>
      bnd (ref1_names x1) fun t21 =>
      ref1_writer_write_L0 N x1 t21.1 (fun o0_0_0 =>
          some o0_0_0) N (0 : Int) t18)
      none)
    none
abbrev ref1_writer_write_sg (f : SV [.box 0 0, .v (.sl (.pr .str (.pr .bool (.sl .u8))))] → BV [.cells [.nilS]] → Option (List (Str × List UInt8))) : AF := { ps := [.box 0 0, .v (.sl (.pr .str (.pr .bool (.sl .u8))))], bs := [.cells [.nilS]], rs := [], cs := [.cells [.v (.sl (.pr .str (.sl .u8)))]], R := List (Str × List UInt8), out := fun z => ((), ((z, ()), ())), f := f }
abbrev ref1_writer_write_pk : SV [] → BV [.cells [.v (.sl (.pr .str (.sl .u8)))]] → (List (Str × List UInt8)) := fun _ y => y.1.1
def ref1_writer_write_fn (N : Nat) : FuncId → Option Tmp → Option AF := fun f q =>
  match f with
    | 14 => some (ref1_writer_write_2_sg fun x y => ref1_writer_write_2 N N x.2.1 y.1.1)
    | 28 => some (ref1_text_sg fun x _ => ref1_text N N x.1)
    | 29 => match q with | some 18 => some (ref1_writer_put_sg fun x _ => ref1_writer_put N x.2.1 x.2.2.1) | some 53 => some (ref1_writer_put_2_sg fun x y => ref1_writer_put_2 N x.2.1 x.2.2.1 y.1.1) | _ => none
    | 30 => some (ref1_Digest_sg fun x _ => ref1_Digest N x.1)
    | 31 => some (ref1_names_sg fun x _ => ref1_names x.1)
    | 32 => some (ref1_below_sg fun x _ => ref1_below N x.1 x.2.1)
    | _ => none
theorem ref1_writer_write_fn_ok (N : Nat) : ∀ f q F, ref1_writer_write_fn N f q = some F → Sound Tryd.prog GW B0G f F := by
  intro f q F h
  unfold ref1_writer_write_fn at h
  split at h
  · cases h; exact ref1_writer_write_2_sound N N
  · cases h; exact ref1_text_sound N N
  · split at h
    · cases h; exact ref1_writer_put_sound N
    · cases h; exact ref1_writer_put_2_sound N
    · cases h
  · cases h; exact ref1_Digest_sound N
  · cases h; exact ref1_names_sound
  · cases h; exact ref1_below_sound N
  · cases h
def ref1_writer_write_h : Nat → Hint := fun i =>
  match i with
  | 0 => ⟨[], [0, 1, 5, 7], [0], [], [0], []⟩
  | 100009 => ⟨[103600], [], [], [], [], []⟩
  | _ => ⟨[], [], [], [], [], []⟩
abbrev ref1_writer_write_E (N : Nat) : Env := mkE ref1_writer_write_h (ref1_writer_write_fn N) (fun _ => false) (fun _ => false)
abbrev ref1_writer_write_L0_fs : List (Nat × Sl) := [(0, .box 0 0), (1, .v (.sl (.pr .str (.pr .bool (.sl .u8))))), (5, .v (.sl .str)), (7, .v (.int .i64))]
abbrev ref1_writer_write_L0_bs : List (Nat × Sb) := [(0, .cells [.v (.sl (.pr .str (.sl .u8)))])]
def ref1_writer_write_L0_hd (x1 : List (Str × Bool × List UInt8)) (c5 : List Str) (s7 : Int) (b0_0 : List (Str × List UInt8)) : St := ⟨54, [(0, .box 0 0), (1, .v (.sl (.pr .str (.pr .bool (.sl .u8)))) x1), (5, .v (.sl .str) c5), (7, .v (.int .i64) s7)], [(0, .cells [.v (.sl (.pr .str (.sl .u8))) b0_0])]⟩
def ref1_writer_write_L0_tl0 (_x1 : List (Str × Bool × List UInt8)) (_c5 : List Str) (o0_0_0 : List (Str × List UInt8)) : St := ⟨54, [], [(0, .cells [.v (.sl (.pr .str (.sl .u8))) o0_0_0])]⟩
def ref1_writer_write_L0_G (N : Nat) (x1 : List (Str × Bool × List UInt8)) (c5 : List Str) (s7 : Int) (b0_0 : List (Str × List UInt8)) (k : Ex → St → Option (List (Str × List UInt8))) : Option (List (Str × List UInt8)) :=
  ref1_writer_write_L0 N x1 c5 (fun o0_0_0 => k (.exit 0) (ref1_writer_write_L0_tl0 x1 c5 o0_0_0)) N s7 b0_0
abbrev ref1_writer_write_L0_F (N : Nat) : FV ref1_writer_write_L0_fs → HV ref1_writer_write_L0_bs → (Ex → St → Option (List (Str × List UInt8))) → Option (List (Str × List UInt8)) := fun x y k => ref1_writer_write_L0_G N x.2.1 x.2.2.1 x.2.2.2.1 y.1.1 k
noncomputable def ref1_writer_write_LP (N : Nat) : Nat → Code → St → (Ex → St → Option (List (Str × List UInt8))) → Option (List (Str × List UInt8)) := fun i c =>
  match i with
  | 0 => (LPc 54 ref1_writer_write_L0_fs ref1_writer_write_L0_bs (ref1_writer_write_L0_F N) (fun st k => iter (ref1_writer_write_h 0) (exec (ref1_writer_write_E N) N c 0) N st k))
  | i => fun st k => iter (ref1_writer_write_h i) (exec (ref1_writer_write_E N) N c i) N st k
theorem ref1_writer_write_L0_step (N : Nat) (x1 : List (Str × Bool × List UInt8)) (c5 : List Str) (KX : Nat → St → Option (List (Str × List UInt8))) (I : St → Option (List (Str × List UInt8))) (s7 : Int) (b0_0 : List (Str × List UInt8)) :
    execL (ref1_writer_write_LP N) (ref1_writer_write_E N) (cAt (bodyOf Tryd.f14) [true, true, true, true, false, false]) 0 (ref1_writer_write_L0_hd x1 c5 s7 b0_0) (roundK (ref1_writer_write_h 0) I KX (resD (ref1_writer_write_E N) Tryd.f14 (ref1_writer_write_sg fun x _ => ref1_writer_write N x.2.1) ref1_writer_write_pk)) = ref1_writer_write_L0T N x1 c5 (fun o0_0_0 => KX 0 (ref1_writer_write_L0_tl0 x1 c5 o0_0_0)) (fun s7 b0_0 => I (ref1_writer_write_L0_hd x1 c5 s7 b0_0)) s7 b0_0 := by kernel_rfl
theorem ref1_writer_write_L0_ok (N : Nat) : ∀ x y k, (∀ st, k .ret st = (resD (ref1_writer_write_E N) Tryd.f14 (ref1_writer_write_sg fun x _ => ref1_writer_write N x.2.1) ref1_writer_write_pk) st) → iter (ref1_writer_write_h 0) (exec (ref1_writer_write_E N) N (cAt (bodyOf Tryd.f14) [true, true, true, true, false, false]) 0) N ⟨54, unF ref1_writer_write_L0_fs x, unH ref1_writer_write_L0_bs y⟩ k = ref1_writer_write_L0_F N x y k := fun x y k hk =>
  iter_link (S := (Int) × (List (Str × List UInt8)) × Unit) (ref1_writer_write_h 0) _ (execL (ref1_writer_write_LP N) (ref1_writer_write_E N) (cAt (bodyOf Tryd.f14) [true, true, true, true, false, false]) 0) (resD (ref1_writer_write_E N) Tryd.f14 (ref1_writer_write_sg fun x _ => ref1_writer_write N x.2.1) ref1_writer_write_pk) (fun st k hk => execL_eq _ _ N _ (cAt (bodyOf Tryd.f14) [true, true, true, true, false, false]) 0 (show LoopsOk (ref1_writer_write_LP N) (ref1_writer_write_E N) N (resD (ref1_writer_write_E N) Tryd.f14 (ref1_writer_write_sg fun x _ => ref1_writer_write N x.2.1) ref1_writer_write_pk) [] from trivial) st k hk) (fun s => ref1_writer_write_L0_hd x.2.1 x.2.2.1 s.1 s.2.1) k hk
    (fun self s => ref1_writer_write_L0T N x.2.1 x.2.2.1 (fun o0_0_0 => k (.exit 0) (ref1_writer_write_L0_tl0 x.2.1 x.2.2.1 o0_0_0)) (fun s7 b0_0 => self (s7, b0_0, ())) s.1 s.2.1) (fun n s => ref1_writer_write_L0 N x.2.1 x.2.2.1 (fun o0_0_0 => k (.exit 0) (ref1_writer_write_L0_tl0 x.2.1 x.2.2.1 o0_0_0)) n s.1 s.2.1) (fun _ => rfl) (fun _ _ => rfl)
    (fun I s => ref1_writer_write_L0_step N x.2.1 x.2.2.1 (fun j => k (.exit j)) I s.1 s.2.1) N (x.2.2.2.1, y.1.1, ())
theorem ref1_writer_write_lp0 (N : Nat) : ∀ st k, (∀ st, k .ret st = (resD (ref1_writer_write_E N) Tryd.f14 (ref1_writer_write_sg fun x _ => ref1_writer_write N x.2.1) ref1_writer_write_pk) st) → ref1_writer_write_LP N 0 (cAt (bodyOf Tryd.f14) [true, true, true, true, false, false]) st k = iter (Env.hint (ref1_writer_write_E N) 0) (exec (ref1_writer_write_E N) N (cAt (bodyOf Tryd.f14) [true, true, true, true, false, false]) 0) N st k := fun st k hk => LPc_eq 54 ref1_writer_write_L0_fs ref1_writer_write_L0_bs _ _ (resD (ref1_writer_write_E N) Tryd.f14 (ref1_writer_write_sg fun x _ => ref1_writer_write N x.2.1) ref1_writer_write_pk) (ref1_writer_write_L0_ok N) _ st k hk (rfl)
theorem ref1_writer_write_core (N : Nat) (x : SV [.box 0 0, .v (.sl (.pr .str (.pr .bool (.sl .u8))))]) (y : BV [.cells [.nilS]]) : runL (ref1_writer_write_E N) Tryd.f14 (ref1_writer_write_sg fun x _ => ref1_writer_write N x.2.1) ref1_writer_write_pk (ref1_writer_write_LP N) x y = ref1_writer_write N x.2.1 := by kernel_rfl
theorem ref1_writer_write_sound (N : Nat) : Sound Tryd.prog GW B0G 14 (ref1_writer_write_sg fun x _ => ref1_writer_write N x.2.1) :=
  runD_sound (mkE_ok ref1_writer_write_h (ref1_writer_write_fn N) _ _ (ref1_writer_write_fn_ok N)) Tryd.func14 rfl Tryd.call14 (ref1_writer_write_sg fun x _ => ref1_writer_write N x.2.1) ref1_writer_write_pk (fun _ _ => rfl) N (fun x y _ h => ((runL_eq (ref1_writer_write_E N) N Tryd.f14 (ref1_writer_write_sg fun x _ => ref1_writer_write N x.2.1) ref1_writer_write_pk (ref1_writer_write_LP N) (show LoopsOk (ref1_writer_write_LP N) (ref1_writer_write_E N) N (resD (ref1_writer_write_E N) Tryd.f14 (ref1_writer_write_sg fun x _ => ref1_writer_write N x.2.1) ref1_writer_write_pk) [(0, (cAt (bodyOf Tryd.f14) [true, true, true, true, false, false]))] from ⟨ref1_writer_write_lp0 N, trivial⟩) x y).trans (ref1_writer_write_core N x y)).trans h)
def ref1_TreeOf (N : Nat) (x0 : List (Str × Bool × List UInt8)) : Option (Str × List (Str × List UInt8) × Int) :=
  bnd (ref1_CheckFiles N x0) fun t8 =>
  br (t8 != (0 : Int))
    (some (([] : Str), (([] : List (Str × List UInt8)), t8)))
    (bnd (ref1_writer_write N x0) fun t16 =>
    br (decide ((t16.length : Int) > (4000 : Int)))
      (some (([] : Str), (([] : List (Str × List UInt8)), (2 : Int))))
      (bnd (ref1_RootOf N x0) fun t24 =>
      some (t24, (t16, (0 : Int)))))
abbrev ref1_TreeOf_sg (f : SV [.v (.sl (.pr .str (.pr .bool (.sl .u8))))] → BV [] → Option (Str × List (Str × List UInt8) × Int)) : AF := { ps := [.v (.sl (.pr .str (.pr .bool (.sl .u8))))], bs := [], rs := [.v .str, .v (.sl (.pr .str (.sl .u8))), .v (.int .i64)], cs := [], R := Str × List (Str × List UInt8) × Int, out := fun z => ((z.1, z.2.1, z.2.2, ()), ()), f := f }
abbrev ref1_TreeOf_pk : SV [.v .str, .v (.sl (.pr .str (.sl .u8))), .v (.int .i64)] → BV [] → (Str × List (Str × List UInt8) × Int) := fun x _ => (x.1, x.2.1, x.2.2.1)
def ref1_TreeOf_fn (N : Nat) : FuncId → Option Tmp → Option AF := fun f _ =>
  match f with
    | 7 => some (ref1_CheckFiles_sg fun x _ => ref1_CheckFiles N x.1)
    | 14 => some (ref1_writer_write_sg fun x _ => ref1_writer_write N x.2.1)
    | 15 => some (ref1_RootOf_sg fun x _ => ref1_RootOf N x.1)
    | _ => none
theorem ref1_TreeOf_fn_ok (N : Nat) : ∀ f q F, ref1_TreeOf_fn N f q = some F → Sound Tryd.prog GW B0G f F := by
  intro f q F h
  unfold ref1_TreeOf_fn at h
  split at h
  · cases h; exact ref1_CheckFiles_sound N
  · cases h; exact ref1_writer_write_sound N
  · cases h; exact ref1_RootOf_sound N
  · cases h
def ref1_TreeOf_h : Nat → Hint := fun i =>
  match i with
  | _ => ⟨[], [], [], [], [], []⟩
abbrev ref1_TreeOf_E (N : Nat) : Env := mkE ref1_TreeOf_h (ref1_TreeOf_fn N) (fun _ => false) (fun _ => false)
noncomputable def ref1_TreeOf_LP (N : Nat) : Nat → Code → St → (Ex → St → Option (Str × List (Str × List UInt8) × Int)) → Option (Str × List (Str × List UInt8) × Int) := fun i c =>
  match i with
  | i => fun st k => iter (ref1_TreeOf_h i) (exec (ref1_TreeOf_E N) N c i) N st k
theorem ref1_TreeOf_core (N : Nat) (x : SV [.v (.sl (.pr .str (.pr .bool (.sl .u8))))]) (y : BV []) : runL (ref1_TreeOf_E N) Tryd.f5 (ref1_TreeOf_sg fun x _ => ref1_TreeOf N x.1) ref1_TreeOf_pk (ref1_TreeOf_LP N) x y = ref1_TreeOf N x.1 := by kernel_rfl
theorem ref1_TreeOf_sound (N : Nat) : Sound Tryd.prog GW B0G 5 (ref1_TreeOf_sg fun x _ => ref1_TreeOf N x.1) :=
  runD_sound (mkE_ok ref1_TreeOf_h (ref1_TreeOf_fn N) _ _ (ref1_TreeOf_fn_ok N)) Tryd.func5 rfl Tryd.call5 (ref1_TreeOf_sg fun x _ => ref1_TreeOf N x.1) ref1_TreeOf_pk (fun _ _ => rfl) N (fun x y _ h => ((runL_eq (ref1_TreeOf_E N) N Tryd.f5 (ref1_TreeOf_sg fun x _ => ref1_TreeOf N x.1) ref1_TreeOf_pk (ref1_TreeOf_LP N) (show LoopsOk (ref1_TreeOf_LP N) (ref1_TreeOf_E N) N (resD (ref1_TreeOf_E N) Tryd.f5 (ref1_TreeOf_sg fun x _ => ref1_TreeOf N x.1) ref1_TreeOf_pk) [] from trivial) x y).trans (ref1_TreeOf_core N x y)).trans h)
def bytes_Equal (_N : Nat) (x0 : List UInt8) (x1 : List UInt8) : Option Bool :=
  some (x0 == x1)
abbrev bytes_Equal_sg (f : SV [.v (.sl .u8), .v (.sl .u8)] → BV [] → Option (Bool)) : AF := { ps := [.v (.sl .u8), .v (.sl .u8)], bs := [], rs := [.v .bool], cs := [], R := Bool, out := fun z => ((z, ()), ()), f := f }
abbrev bytes_Equal_pk : SV [.v .bool] → BV [] → Bool := fun x _ => x.1
def bytes_Equal_fn (_N : Nat) : FuncId → Option Tmp → Option AF := fun f _ =>
  match f with
    | _ => none
theorem bytes_Equal_fn_ok (N : Nat) : ∀ f q F, bytes_Equal_fn N f q = some F → Sound Tryd.prog GW B0G f F := by
  intro f q F h
  unfold bytes_Equal_fn at h
  split at h
  · cases h
def bytes_Equal_h : Nat → Hint := fun i =>
  match i with
  | _ => ⟨[], [], [], [], [], []⟩
abbrev bytes_Equal_E (N : Nat) : Env := mkE bytes_Equal_h (bytes_Equal_fn N) (fun _ => false) (fun _ => false)
noncomputable def bytes_Equal_LP (N : Nat) : Nat → Code → St → (Ex → St → Option Bool) → Option Bool := fun i c =>
  match i with
  | i => fun st k => iter (bytes_Equal_h i) (exec (bytes_Equal_E N) N c i) N st k
theorem bytes_Equal_core (N : Nat) (x : SV [.v (.sl .u8), .v (.sl .u8)]) (y : BV []) : runL (bytes_Equal_E N) Tryd.f20 (bytes_Equal_sg fun x _ => bytes_Equal N x.1 x.2.1) bytes_Equal_pk (bytes_Equal_LP N) x y = bytes_Equal N x.1 x.2.1 := by kernel_rfl
theorem bytes_Equal_sound (N : Nat) : Sound Tryd.prog GW B0G 20 (bytes_Equal_sg fun x _ => bytes_Equal N x.1 x.2.1) :=
  runD_sound (mkE_ok bytes_Equal_h (bytes_Equal_fn N) _ _ (bytes_Equal_fn_ok N)) Tryd.func20 rfl Tryd.call20 (bytes_Equal_sg fun x _ => bytes_Equal N x.1 x.2.1) bytes_Equal_pk (fun _ _ => rfl) N (fun x y _ h => ((runL_eq (bytes_Equal_E N) N Tryd.f20 (bytes_Equal_sg fun x _ => bytes_Equal N x.1 x.2.1) bytes_Equal_pk (bytes_Equal_LP N) (show LoopsOk (bytes_Equal_LP N) (bytes_Equal_E N) N (resD (bytes_Equal_E N) Tryd.f20 (bytes_Equal_sg fun x _ => bytes_Equal N x.1 x.2.1) bytes_Equal_pk) [] from trivial) x y).trans (bytes_Equal_core N x y)).trans h)
def ref1_SameObjects_L0T (N : Nat) (x0 : List (Str × List UInt8)) (x1 : List (Str × List UInt8)) (k0 : Option Bool) (self : Int → Option Bool) (s5 : Int) : Option Bool :=
  br (decide (s5 < (x0.length : Int)))
    (bnd (geti x0 s5) fun t19 =>
    bnd (geti x1 s5) fun t24 =>
    br (!(t19.1 == t24.1))
      (some false)
      (bnd (geti x0 s5) fun t31 =>
      bnd (geti x1 s5) fun t36 =>
      bnd (bytes_Equal N t31.2 t36.2) fun t39 =>
      br (!t39)
        (some false)
        (self (IntKind.i64.wrap (s5 + (1 : Int))))))
    (k0)
def ref1_SameObjects_L0 (N : Nat) (x0 : List (Str × List UInt8)) (x1 : List (Str × List UInt8)) (k0 : Option Bool) : Nat → Int → Option Bool
  | 0, _ => none
  | n + 1, s5 => ref1_SameObjects_L0T N x0 x1 k0 (ref1_SameObjects_L0 N x0 x1 k0 n) s5
def ref1_SameObjects (N : Nat) (x0 : List (Str × List UInt8)) (x1 : List (Str × List UInt8)) : Option Bool :=
  br ((x0.length : Int) != (x1.length : Int))
    (some false)
    (ref1_SameObjects_L0 N x0 x1 (some true) N (0 : Int))
abbrev ref1_SameObjects_sg (f : SV [.v (.sl (.pr .str (.sl .u8))), .v (.sl (.pr .str (.sl .u8)))] → BV [] → Option (Bool)) : AF := { ps := [.v (.sl (.pr .str (.sl .u8))), .v (.sl (.pr .str (.sl .u8)))], bs := [], rs := [.v .bool], cs := [], R := Bool, out := fun z => ((z, ()), ()), f := f }
abbrev ref1_SameObjects_pk : SV [.v .bool] → BV [] → Bool := fun x _ => x.1
def ref1_SameObjects_fn (N : Nat) : FuncId → Option Tmp → Option AF := fun f _ =>
  match f with
    | 20 => some (bytes_Equal_sg fun x _ => bytes_Equal N x.1 x.2.1)
    | _ => none
theorem ref1_SameObjects_fn_ok (N : Nat) : ∀ f q F, ref1_SameObjects_fn N f q = some F → Sound Tryd.prog GW B0G f F := by
  intro f q F h
  unfold ref1_SameObjects_fn at h
  split at h
  · cases h; exact bytes_Equal_sound N
  · cases h
def ref1_SameObjects_h : Nat → Hint := fun i =>
  match i with
  | 0 => ⟨[], [0, 1, 5], [], [], [], []⟩
  | _ => ⟨[], [], [], [], [], []⟩
abbrev ref1_SameObjects_E (N : Nat) : Env := mkE ref1_SameObjects_h (ref1_SameObjects_fn N) (fun _ => false) (fun _ => false)
abbrev ref1_SameObjects_L0_fs : List (Nat × Sl) := [(0, .v (.sl (.pr .str (.sl .u8)))), (1, .v (.sl (.pr .str (.sl .u8)))), (5, .v (.int .i64))]
abbrev ref1_SameObjects_L0_bs : List (Nat × Sb) := []
def ref1_SameObjects_L0_hd (x0 : List (Str × List UInt8)) (x1 : List (Str × List UInt8)) (s5 : Int) : St := ⟨42, [(0, .v (.sl (.pr .str (.sl .u8))) x0), (1, .v (.sl (.pr .str (.sl .u8))) x1), (5, .v (.int .i64) s5)], []⟩
def ref1_SameObjects_L0_tl0 (_x0 : List (Str × List UInt8)) (_x1 : List (Str × List UInt8)) : St := ⟨42, [], []⟩
def ref1_SameObjects_L0_G (N : Nat) (x0 : List (Str × List UInt8)) (x1 : List (Str × List UInt8)) (s5 : Int) (k : Ex → St → Option Bool) : Option Bool :=
  ref1_SameObjects_L0 N x0 x1 (k (.exit 0) (ref1_SameObjects_L0_tl0 x0 x1)) N s5
abbrev ref1_SameObjects_L0_F (N : Nat) : FV ref1_SameObjects_L0_fs → HV ref1_SameObjects_L0_bs → (Ex → St → Option Bool) → Option Bool := fun x _ k => ref1_SameObjects_L0_G N x.1 x.2.1 x.2.2.1 k
noncomputable def ref1_SameObjects_LP (N : Nat) : Nat → Code → St → (Ex → St → Option Bool) → Option Bool := fun i c =>
  match i with
  | 0 => (LPc 42 ref1_SameObjects_L0_fs ref1_SameObjects_L0_bs (ref1_SameObjects_L0_F N) (fun st k => iter (ref1_SameObjects_h 0) (exec (ref1_SameObjects_E N) N c 0) N st k))
  | i => fun st k => iter (ref1_SameObjects_h i) (exec (ref1_SameObjects_E N) N c i) N st k
theorem ref1_SameObjects_L0_step (N : Nat) (x0 : List (Str × List UInt8)) (x1 : List (Str × List UInt8)) (KX : Nat → St → Option Bool) (I : St → Option Bool) (s5 : Int) :
    execL (ref1_SameObjects_LP N) (ref1_SameObjects_E N) (cAt (bodyOf Tryd.f8) [true, true, false, true, false, false]) 0 (ref1_SameObjects_L0_hd x0 x1 s5) (roundK (ref1_SameObjects_h 0) I KX (resD (ref1_SameObjects_E N) Tryd.f8 (ref1_SameObjects_sg fun x _ => ref1_SameObjects N x.1 x.2.1) ref1_SameObjects_pk)) = ref1_SameObjects_L0T N x0 x1 (KX 0 (ref1_SameObjects_L0_tl0 x0 x1)) (fun s5 => I (ref1_SameObjects_L0_hd x0 x1 s5)) s5 := by kernel_rfl
theorem ref1_SameObjects_L0_ok (N : Nat) : ∀ x y k, (∀ st, k .ret st = (resD (ref1_SameObjects_E N) Tryd.f8 (ref1_SameObjects_sg fun x _ => ref1_SameObjects N x.1 x.2.1) ref1_SameObjects_pk) st) → iter (ref1_SameObjects_h 0) (exec (ref1_SameObjects_E N) N (cAt (bodyOf Tryd.f8) [true, true, false, true, false, false]) 0) N ⟨42, unF ref1_SameObjects_L0_fs x, unH ref1_SameObjects_L0_bs y⟩ k = ref1_SameObjects_L0_F N x y k := fun x _ k hk =>
  iter_link (S := (Int) × Unit) (ref1_SameObjects_h 0) _ (execL (ref1_SameObjects_LP N) (ref1_SameObjects_E N) (cAt (bodyOf Tryd.f8) [true, true, false, true, false, false]) 0) (resD (ref1_SameObjects_E N) Tryd.f8 (ref1_SameObjects_sg fun x _ => ref1_SameObjects N x.1 x.2.1) ref1_SameObjects_pk) (fun st k hk => execL_eq _ _ N _ (cAt (bodyOf Tryd.f8) [true, true, false, true, false, false]) 0 (show LoopsOk (ref1_SameObjects_LP N) (ref1_SameObjects_E N) N (resD (ref1_SameObjects_E N) Tryd.f8 (ref1_SameObjects_sg fun x _ => ref1_SameObjects N x.1 x.2.1) ref1_SameObjects_pk) [] from trivial) st k hk) (fun s => ref1_SameObjects_L0_hd x.1 x.2.1 s.1) k hk
    (fun self s => ref1_SameObjects_L0T N x.1 x.2.1 (k (.exit 0) (ref1_SameObjects_L0_tl0 x.1 x.2.1)) (fun s5 => self (s5, ())) s.1) (fun n s => ref1_SameObjects_L0 N x.1 x.2.1 (k (.exit 0) (ref1_SameObjects_L0_tl0 x.1 x.2.1)) n s.1) (fun _ => rfl) (fun _ _ => rfl)
    (fun I s => ref1_SameObjects_L0_step N x.1 x.2.1 (fun j => k (.exit j)) I s.1) N (x.2.2.1, ())
theorem ref1_SameObjects_lp0 (N : Nat) : ∀ st k, (∀ st, k .ret st = (resD (ref1_SameObjects_E N) Tryd.f8 (ref1_SameObjects_sg fun x _ => ref1_SameObjects N x.1 x.2.1) ref1_SameObjects_pk) st) → ref1_SameObjects_LP N 0 (cAt (bodyOf Tryd.f8) [true, true, false, true, false, false]) st k = iter (Env.hint (ref1_SameObjects_E N) 0) (exec (ref1_SameObjects_E N) N (cAt (bodyOf Tryd.f8) [true, true, false, true, false, false]) 0) N st k := fun st k hk => LPc_eq 42 ref1_SameObjects_L0_fs ref1_SameObjects_L0_bs _ _ (resD (ref1_SameObjects_E N) Tryd.f8 (ref1_SameObjects_sg fun x _ => ref1_SameObjects N x.1 x.2.1) ref1_SameObjects_pk) (ref1_SameObjects_L0_ok N) _ st k hk (rfl)
theorem ref1_SameObjects_core (N : Nat) (x : SV [.v (.sl (.pr .str (.sl .u8))), .v (.sl (.pr .str (.sl .u8)))]) (y : BV []) : runL (ref1_SameObjects_E N) Tryd.f8 (ref1_SameObjects_sg fun x _ => ref1_SameObjects N x.1 x.2.1) ref1_SameObjects_pk (ref1_SameObjects_LP N) x y = ref1_SameObjects N x.1 x.2.1 := by kernel_rfl
theorem ref1_SameObjects_sound (N : Nat) : Sound Tryd.prog GW B0G 8 (ref1_SameObjects_sg fun x _ => ref1_SameObjects N x.1 x.2.1) :=
  runD_sound (mkE_ok ref1_SameObjects_h (ref1_SameObjects_fn N) _ _ (ref1_SameObjects_fn_ok N)) Tryd.func8 rfl Tryd.call8 (ref1_SameObjects_sg fun x _ => ref1_SameObjects N x.1 x.2.1) ref1_SameObjects_pk (fun _ _ => rfl) N (fun x y _ h => ((runL_eq (ref1_SameObjects_E N) N Tryd.f8 (ref1_SameObjects_sg fun x _ => ref1_SameObjects N x.1 x.2.1) ref1_SameObjects_pk (ref1_SameObjects_LP N) (show LoopsOk (ref1_SameObjects_LP N) (ref1_SameObjects_E N) N (resD (ref1_SameObjects_E N) Tryd.f8 (ref1_SameObjects_sg fun x _ => ref1_SameObjects N x.1 x.2.1) ref1_SameObjects_pk) [(0, (cAt (bodyOf Tryd.f8) [true, true, false, true, false, false]))] from ⟨ref1_SameObjects_lp0 N, trivial⟩) x y).trans (ref1_SameObjects_core N x y)).trans h)
end
end Go.Proofs.YtefbpbkjijbepaaDoor


/- The trees, plainly: what the reference finds below a name. -/
namespace Go.Proofs.YtefbpbkjijbepaaDoor
set_option linter.unusedVariables false
set_option linter.unusedSimpArgs false
open Go Go.RowKit
theorem lies_eq (N : Nat) (p nm : Str) (h : nm.length ≤ 1000000) : ref1_Lies N p nm = some ((nm ++ [47]).isPrefixOf p) := by
  unfold ref1_Lies strings_HasPrefix stringslite_HasPrefix
  rw [decide_eq_true (by simp; omega), br_true]
  by_cases hl : (p.length : Int) ≥ (((nm ++ [47]).length : Nat) : Int)
  · rw [decide_eq_true hl, br_true]
    unfold slc
    rw [if_pos ⟨Int.le_refl _, Int.natCast_nonneg _, hl⟩, bnd_some, bnd_some, bnd_some, Int.toNat_natCast]
    congr 1
    rw [Bool.eq_iff_iff, beq_iff_eq, List.isPrefixOf_iff_prefix, List.prefix_iff_eq_take]
    simp only [Int.toNat_zero, List.drop_zero]
    exact eq_comm
  · rw [decide_eq_false hl, br_false, bnd_some, bnd_some]
    congr 1
    symm
    rw [Bool.eq_false_iff]
    intro h'
    have := (List.isPrefixOf_iff_prefix.1 h').length_le
    omega
theorem geti_app {α : Type} (P : List α) (x : α) (R : List α) : geti (P ++ x :: R) (P.length : Int) = some x := geti_at P x R _ rfl
/-- The loop of ref1.below. -/
theorem below_loop (N : Nat) (nm : Str) (k : List FileD → Option (Bool × List FileD)) (hnm : nm.length ≤ 1000000) : ∀ (R P w : List FileD) (fuel : Nat), P.length + R.length ≤ 1000000 → w.length ≤ P.length → R.length < fuel →
    ref1_below_L0 N (P ++ R) nm k fuel (P.length : Int) w = match R.find? fun x => x.1 == nm with
      | some x => some (false, [x])
      | none => k (w ++ within nm R)
  | [], P, w, fuel + 1, h1, h2, h3 => by
    rw [ref1_below_L0]
    unfold ref1_below_L0T
    rw [decide_eq_false (by simp), br_false]
    simp [within]
  | x :: R, P, w, fuel + 1, h1, h2, h3 => by
    simp only [List.length_cons] at h1 h3
    rw [ref1_below_L0]
    unfold ref1_below_L0T
    rw [decide_eq_true (by simp; omega), br_true, geti_app, bnd_some]
    by_cases he : (x.1 == nm) = true
    · rw [he, br_true, bnd_some, List.find?_cons_of_pos (by exact he)]
    · have he' : (x.1 == nm) = false := by simpa using he
      have ih := fun w' (hw' : w'.length ≤ P.length + 1) => below_loop N nm k hnm R (P ++ [x]) w' fuel (by simp; omega) (by simp; omega) (by omega)
      have e : P ++ [x] ++ R = P ++ x :: R := by simp
      have el : (((P ++ [x]).length : Nat) : Int) = (P.length : Int) + 1 := by simp
      rw [e, el] at ih
      rw [he', br_false, bnd_some, lies_eq N x.1 nm hnm, bnd_some, List.find?_cons_of_neg (by exact he), w64 ((P.length : Int) + 1) (by omega) (by omega)]
      by_cases hp : (nm ++ [47]).isPrefixOf x.1 = true
      · rw [hp, br_true, bnd_some, w64 ((nm.length : Int) + 1) (by omega) (by omega)]
        have hle := (List.isPrefixOf_iff_prefix.1 hp).length_le
        simp only [List.length_append, List.length_singleton] at hle
        have hs : slc x.1 ((nm.length : Int) + 1) (x.1.length : Int) = some (x.1.drop (nm.length + 1)) := by
          unfold slc
          rw [if_pos (by omega)]
          have e2 : ((nm.length : Int) + 1).toNat = nm.length + 1 := by omega
          rw [Int.toNat_natCast, e2, List.take_length]
        rw [hs, bnd_some, decide_eq_true, br_true, ih _ (by simp; omega)]
        · have hw : within nm (x :: R) = (x.1.drop (nm.length + 1), x.2) :: within nm R := by
            unfold within
            rw [List.filterMap_cons, if_pos hp]
          rw [hw]
          simp
        · have e3 : Ty.sz (.pr .str (.pr .bool (.sl .u8))) = 3 := rfl
          rw [e3]
          simp
          omega
      · have hp' : (nm ++ [47]).isPrefixOf x.1 = false := Bool.eq_false_iff.2 hp
        rw [hp', br_false, ih w (by omega)]
        have hw : within nm (x :: R) = within nm R := by
          unfold within
          rw [List.filterMap_cons, if_neg hp]
        rw [hw]
/-- What the reference finds below the name of a node. -/
theorem below_ok {N : Nat} (hN : 1000000 < N) {l : List FileD} (hg : GoodL l) (h1 : l.length ≤ 1000000) {nd : NodeD} (h : NodeOk l nd) (hl : nd.1.length ≤ 1000000) :
    (∃ x ∈ l, nd = (nd.1, some x, []) ∧ x.1 = nd.1 ∧ ref1_below N l nd.1 = some (false, [x])) ∨ (nd = (nd.1, none, within nd.1 l) ∧ within nd.1 l ≠ [] ∧ ref1_below N l nd.1 = some (true, within nd.1 l)) := by
  have hb := below_loop N nd.1 (fun w => some (true, w)) hl l [] [] N (by simpa using h1) (Nat.le_refl _) (by omega)
  simp only [List.nil_append, List.length_nil, Int.natCast_zero] at hb
  have hb' : ref1_below N l nd.1 = match l.find? fun x => x.1 == nd.1 with | some x => some (false, [x]) | none => some (true, within nd.1 l) := by
    unfold ref1_below
    exact hb
  rcases h.2 with ⟨x, hx, e1, e2⟩ | ⟨hw, e2⟩
  · refine .inl ⟨x, hx, e2, e1, ?_⟩
    have hf : (l.find? fun x => x.1 == nd.1) = some x := by
      cases hf : l.find? fun x => x.1 == nd.1 with
      | none =>
        have := List.find?_eq_none.1 hf x hx
        simp [e1] at this
      | some y =>
        have hy := List.mem_of_find?_eq_some hf
        have hye : y.1 = nd.1 := by simpa using List.find?_some hf
        obtain ⟨i, hi, rfl⟩ := List.getElem_of_mem hx
        obtain ⟨j, hj, rfl⟩ := List.getElem_of_mem hy
        have hij : i = j := by
          rcases Nat.lt_trichotomy i j with h' | h' | h'
          · have := List.pairwise_iff_getElem.1 hg.asc i j hi hj h'
            rw [e1, hye] at this
            exact absurd this (str_lt_irrefl _)
          · exact h'
          · have := List.pairwise_iff_getElem.1 hg.asc j i hj hi h'
            rw [e1, hye] at this
            exact absurd this (str_lt_irrefl _)
        subst hij
        rfl
    rw [hb', hf]
  · refine .inr ⟨e2, hw, ?_⟩
    have hf : (l.find? fun x => x.1 == nd.1) = none := by
      rw [List.find?_eq_none]
      intro y hy hye
      obtain ⟨z, hz, hpz⟩ := within_mem hw
      have hye' : y.1 = nd.1 := by simpa using hye
      rw [← hye'] at hpz
      exact hg.apart y hy z hz hpz
    rw [hb', hf]
end Go.Proofs.YtefbpbkjijbepaaDoor


/- strings.Trim and strings.Join, out of the kit's contracts. -/
namespace Go.Proofs.YtefbpbkjijbepaaDoor
set_option linter.unusedVariables false
set_option linter.unusedSimpArgs false
open Go Go.RowKit Go.Shelf
end Go.Proofs.YtefbpbkjijbepaaDoor


