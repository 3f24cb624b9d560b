/- What functions of the program compute, as plain functions (printed). -/
import Derived.Test.YtahjncefiegflaaGreatDoorQTkF2
import Derived.Test.YtahjncefiegflaaGreatDoorQBmSi
import Derived.ProofKit
import Derived.OpenShut
import Derived.ShutString
import Derived.DataReads
import Derived.ChangeShapes
import Derived.WideShapes
import Derived.Test.YtahjncefiegflaaGreatDoorRows
namespace Go.Proofs.YtahjncefiegflaaGreatDoor
open Go Go.RowKit
set_option maxRecDepth 100000
set_option linter.unusedVariables false
noncomputable section
def ref2_token_L0T (N : Nat) (x0 : Str) (k1 : Int → Option ((Int × Str × Int × Int) × Int × Int)) (self : Int → Option ((Int × Str × Int × Int) × Int × Int)) (s8 : Int) : Option ((Int × Str × Int × Int) × Int × Int) :=
  br (decide (s8 < (x0.length : Int)))
    (bnd (geti x0 s8) fun t31 =>
    bnd (ref2_isNameByte N t31) fun t32 =>
    br (t32)
      (self (IntKind.i64.wrap (s8 + (1 : Int))))
      (k1 s8))
    (k1 s8)
def ref2_token_L0 (N : Nat) (x0 : Str) (k1 : Int → Option ((Int × Str × Int × Int) × Int × Int)) : Nat → Int → Option ((Int × Str × Int × Int) × Int × Int)
  | 0, _ => none
  | n + 1, s8 => ref2_token_L0T N x0 k1 (ref2_token_L0 N x0 k1 n) s8
def ref2_token_L1T (N : Nat) (x0 : Str) (k3 : Int → Option ((Int × Str × Int × Int) × Int × Int)) (self : Int → Option ((Int × Str × Int × Int) × Int × Int)) (s8_1 : Int) : Option ((Int × Str × Int × Int) × Int × Int) :=
  br (decide (s8_1 < (x0.length : Int)))
    (bnd (geti x0 s8_1) fun t57 =>
    bnd (ref2_isDigit N t57) fun t58 =>
    br (t58)
      (self (IntKind.i64.wrap (s8_1 + (1 : Int))))
      (k3 s8_1))
    (k3 s8_1)
def ref2_token_L1 (N : Nat) (x0 : Str) (k3 : Int → Option ((Int × Str × Int × Int) × Int × Int)) : Nat → Int → Option ((Int × Str × Int × Int) × Int × Int)
  | 0, _ => none
  | n + 1, s8_1 => ref2_token_L1T N x0 k3 (ref2_token_L1 N x0 k3 n) s8_1
def ref2_token (N : Nat) (x0 : Str) (x1 : Int) : Option ((Int × Str × Int × Int) × Int × Int) :=
  bnd (geti x0 x1) fun t15 =>
  br (decide (t15 ≥ (97 : UInt8)))
    (br (decide (t15 ≤ (122 : UInt8)))
      (ref2_token_L0 N x0 (fun o0_8 =>
          br (decide ((IntKind.i64.wrap (o0_8 - x1)) > (40 : Int)))
            (some (((0 : Int), (([] : Str), ((0 : Int), x1))), ((0 : Int), (2 : Int))))
            (bnd (slc x0 x1 o0_8) fun t44 =>
            some (((1 : Int), (t44, ((0 : Int), x1))), (o0_8, (0 : Int))))) N x1)
      (bnd (ref2_isDigit N t15) fun t49 =>
      br (t49)
        (ref2_token_L1 N x0 (fun o1_8 =>
            br (t15 == (48 : UInt8))
              (br (decide ((IntKind.i64.wrap (o1_8 - x1)) > (1 : Int)))
                (some (((0 : Int), (([] : Str), ((0 : Int), x1))), ((0 : Int), (10 : Int))))
                (br (decide ((IntKind.i64.wrap (o1_8 - x1)) > (9 : Int)))
                  (some (((0 : Int), (([] : Str), ((0 : Int), x1))), ((0 : Int), (2 : Int))))
                  (bnd (slc x0 x1 o1_8) fun t81 =>
                  bnd (strconv_Atoi t81) fun t82 =>
                  some (((3 : Int), (([] : Str), (t82, x1))), (o1_8, (0 : Int))))))
              (br (decide ((IntKind.i64.wrap (o1_8 - x1)) > (9 : Int)))
                (some (((0 : Int), (([] : Str), ((0 : Int), x1))), ((0 : Int), (2 : Int))))
                (bnd (slc x0 x1 o1_8) fun t81_10 =>
                bnd (strconv_Atoi t81_10) fun t82_11 =>
                some (((3 : Int), (([] : Str), (t82_11, x1))), (o1_8, (0 : Int)))))) N x1)
        (br (t15 == (34 : UInt8))
          (bnd (ref2_textToken N x0 x1) fun t91 =>
          some t91)
          (bnd (strings_IndexByte ([61, 43, 40, 41, 91, 93, 123, 125, 44, 58, 59] : Str) t15) fun t97 =>
          br (decide (t97 ≥ (0 : Int)))
            (br (t15 == (61 : UInt8))
              (br (decide ((IntKind.i64.wrap (x1 + (1 : Int))) < (x0.length : Int)))
                (bnd (geti x0 (IntKind.i64.wrap (x1 + (1 : Int)))) fun t112 =>
                br (t112 == (61 : UInt8))
                  (bnd (slc x0 x1 (IntKind.i64.wrap ((IntKind.i64.wrap (x1 + (1 : Int))) + (1 : Int)))) fun t120 =>
                  some (((4 : Int), (t120, ((0 : Int), x1))), (IntKind.i64.wrap ((IntKind.i64.wrap (x1 + (1 : Int))) + (1 : Int)), (0 : Int))))
                  (bnd (slc x0 x1 (IntKind.i64.wrap (x1 + (1 : Int)))) fun t120_12 =>
                  some (((4 : Int), (t120_12, ((0 : Int), x1))), (IntKind.i64.wrap (x1 + (1 : Int)), (0 : Int)))))
                (bnd (slc x0 x1 (IntKind.i64.wrap (x1 + (1 : Int)))) fun t120_13 =>
                some (((4 : Int), (t120_13, ((0 : Int), x1))), (IntKind.i64.wrap (x1 + (1 : Int)), (0 : Int)))))
              (bnd (slc x0 x1 (IntKind.i64.wrap (x1 + (1 : Int)))) fun t120_14 =>
              some (((4 : Int), (t120_14, ((0 : Int), x1))), (IntKind.i64.wrap (x1 + (1 : Int)), (0 : Int)))))
            (some (((0 : Int), (([] : Str), ((0 : Int), x1))), ((0 : Int), (10 : Int))))))))
    (bnd (ref2_isDigit N t15) fun t49_15 =>
    br (t49_15)
      (ref2_token_L1 N x0 (fun o1_8 =>
          br (t15 == (48 : UInt8))
            (br (decide ((IntKind.i64.wrap (o1_8 - x1)) > (1 : Int)))
              (some (((0 : Int), (([] : Str), ((0 : Int), x1))), ((0 : Int), (10 : Int))))
              (br (decide ((IntKind.i64.wrap (o1_8 - x1)) > (9 : Int)))
                (some (((0 : Int), (([] : Str), ((0 : Int), x1))), ((0 : Int), (2 : Int))))
                (bnd (slc x0 x1 o1_8) fun t81_16 =>
                bnd (strconv_Atoi t81_16) fun t82_17 =>
                some (((3 : Int), (([] : Str), (t82_17, x1))), (o1_8, (0 : Int))))))
            (br (decide ((IntKind.i64.wrap (o1_8 - x1)) > (9 : Int)))
              (some (((0 : Int), (([] : Str), ((0 : Int), x1))), ((0 : Int), (2 : Int))))
              (bnd (slc x0 x1 o1_8) fun t81_18 =>
              bnd (strconv_Atoi t81_18) fun t82_19 =>
              some (((3 : Int), (([] : Str), (t82_19, x1))), (o1_8, (0 : Int)))))) N x1)
      (br (t15 == (34 : UInt8))
        (bnd (ref2_textToken N x0 x1) fun t91_20 =>
        some t91_20)
        (bnd (strings_IndexByte ([61, 43, 40, 41, 91, 93, 123, 125, 44, 58, 59] : Str) t15) fun t97_21 =>
        br (decide (t97_21 ≥ (0 : Int)))
          (br (t15 == (61 : UInt8))
            (br (decide ((IntKind.i64.wrap (x1 + (1 : Int))) < (x0.length : Int)))
              (bnd (geti x0 (IntKind.i64.wrap (x1 + (1 : Int)))) fun t112_22 =>
              br (t112_22 == (61 : UInt8))
                (bnd (slc x0 x1 (IntKind.i64.wrap ((IntKind.i64.wrap (x1 + (1 : Int))) + (1 : Int)))) fun t120_23 =>
                some (((4 : Int), (t120_23, ((0 : Int), x1))), (IntKind.i64.wrap ((IntKind.i64.wrap (x1 + (1 : Int))) + (1 : Int)), (0 : Int))))
                (bnd (slc x0 x1 (IntKind.i64.wrap (x1 + (1 : Int)))) fun t120_24 =>
                some (((4 : Int), (t120_24, ((0 : Int), x1))), (IntKind.i64.wrap (x1 + (1 : Int)), (0 : Int)))))
              (bnd (slc x0 x1 (IntKind.i64.wrap (x1 + (1 : Int)))) fun t120_25 =>
              some (((4 : Int), (t120_25, ((0 : Int), x1))), (IntKind.i64.wrap (x1 + (1 : Int)), (0 : Int)))))
            (bnd (slc x0 x1 (IntKind.i64.wrap (x1 + (1 : Int)))) fun t120_26 =>
            some (((4 : Int), (t120_26, ((0 : Int), x1))), (IntKind.i64.wrap (x1 + (1 : Int)), (0 : Int)))))
          (some (((0 : Int), (([] : Str), ((0 : Int), x1))), ((0 : Int), (10 : Int)))))))
abbrev ref2_token_sg (f : SV [.v .str, .v (.int .i64)] → BV [] → Option ((Int × Str × Int × Int) × Int × Int)) : AF := { ps := [.v .str, .v (.int .i64)], bs := [], rs := [.v (.pr (.int .i64) (.pr .str (.pr (.int .i64) (.int .i64)))), .v (.int .i64), .v (.int .i64)], cs := [], R := (Int × Str × Int × Int) × Int × Int, out := fun z => ((z.1, z.2.1, z.2.2, ()), ()), f := f }
abbrev ref2_token_pk : SV [.v (.pr (.int .i64) (.pr .str (.pr (.int .i64) (.int .i64)))), .v (.int .i64), .v (.int .i64)] → BV [] → ((Int × Str × Int × Int) × Int × Int) := fun x _ => (x.1, x.2.1, x.2.2.1)
def ref2_token_fn (N : Nat) : FuncId → Option Tmp → Option AF := fun f _ =>
  match f with
    | 102 => some (ref2_isNameByte_sg fun x _ => ref2_isNameByte N x.1)
    | 116 => some (strings_IndexByte_sg fun x _ => strings_IndexByte x.1 x.2.1)
    | 122 => some (ref2_isDigit_sg fun x _ => ref2_isDigit N x.1)
    | 123 => some (strconv_Atoi_sg fun x _ => strconv_Atoi x.1)
    | 124 => some (ref2_textToken_sg fun x _ => ref2_textToken N x.1 x.2.1)
    | _ => none
theorem ref2_token_fn_ok (N : Nat) : ∀ f q F, ref2_token_fn N f q = some F → Sound Tryz.prog GW B0G f F := by
  intro f q F h
  unfold ref2_token_fn at h
  split at h
  · cases h; exact ref2_isNameByte_sound N
  · cases h; exact strings_IndexByte_sound
  · cases h; exact ref2_isDigit_sound N
  · cases h; exact strconv_Atoi_sound
  · cases h; exact ref2_textToken_sound N
  · cases h
def ref2_token_h : Nat → Hint := fun i =>
  match i with
  | 1 => ⟨[], [0, 1, 4, 7, 8], [1004, 1007], [0, 1, 4, 7, 8], [1004, 1007], []⟩
  | 3 => ⟨[], [0, 1, 4, 7, 8, 9], [1004, 1007], [0, 1, 4, 7, 8, 9], [1004, 1007], []⟩
  | 100010 => ⟨[], [1], [], [], [], []⟩
  | 100026 => ⟨[], [1], [], [], [], []⟩
  | _ => ⟨[], [], [], [], [], []⟩
abbrev ref2_token_E (N : Nat) : Env := mkE ref2_token_h (ref2_token_fn N) (fun _ => false) (fun _ => false)
abbrev ref2_token_L0_fs : List (Nat × Sl) := [(0, .v .str), (1, .v (.int .i64)), (4, .box 1004 0), (7, .box 1007 0), (8, .v (.int .i64))]
abbrev ref2_token_L0_bs : List (Nat × Sb) := [(1004, .cells [.v (.int .i64), .v .str, .v (.int .i64), .v (.int .i64)]), (1007, .cells [.v (.int .i64), .v .str, .v (.int .i64), .v (.int .i64)])]
def ref2_token_L0_hd (x0 : Str) (x1 : Int) (c1004_0 : Int) (c1004_1 : Str) (c1004_2 : Int) (c1004_3 : Int) (c1007_0 : Int) (c1007_1 : Str) (c1007_2 : Int) (c1007_3 : Int) (s8 : Int) : St := ⟨125, [(0, .v .str x0), (1, .v (.int .i64) x1), (4, .box 1004 0), (7, .box 1007 0), (8, .v (.int .i64) s8)], [(1004, .cells [.v (.int .i64) c1004_0, .v .str c1004_1, .v (.int .i64) c1004_2, .v (.int .i64) c1004_3]), (1007, .cells [.v (.int .i64) c1007_0, .v .str c1007_1, .v (.int .i64) c1007_2, .v (.int .i64) c1007_3])]⟩
def ref2_token_L0_tl1 (x0 : Str) (x1 : Int) (c1004_0 : Int) (c1004_1 : Str) (c1004_2 : Int) (c1004_3 : Int) (c1007_0 : Int) (c1007_1 : Str) (c1007_2 : Int) (c1007_3 : Int) (o0_8 : Int) : St := ⟨125, [(0, .v .str x0), (1, .v (.int .i64) x1), (4, .box 1004 0), (7, .box 1007 0), (8, .v (.int .i64) o0_8)], [(1004, .cells [.v (.int .i64) c1004_0, .v .str c1004_1, .v (.int .i64) c1004_2, .v (.int .i64) c1004_3]), (1007, .cells [.v (.int .i64) c1007_0, .v .str c1007_1, .v (.int .i64) c1007_2, .v (.int .i64) c1007_3])]⟩
def ref2_token_L0_G (N : Nat) (x0 : Str) (x1 : Int) (c1004_0 : Int) (c1004_1 : Str) (c1004_2 : Int) (c1004_3 : Int) (c1007_0 : Int) (c1007_1 : Str) (c1007_2 : Int) (c1007_3 : Int) (s8 : Int) (k : Ex → St → Option ((Int × Str × Int × Int) × Int × Int)) : Option ((Int × Str × Int × Int) × Int × Int) :=
  ref2_token_L0 N x0 (fun o0_8 => k (.exit 1) (ref2_token_L0_tl1 x0 x1 c1004_0 c1004_1 c1004_2 c1004_3 c1007_0 c1007_1 c1007_2 c1007_3 o0_8)) N s8
abbrev ref2_token_L0_F (N : Nat) : FV ref2_token_L0_fs → HV ref2_token_L0_bs → (Ex → St → Option ((Int × Str × Int × Int) × Int × Int)) → Option ((Int × Str × Int × Int) × Int × Int) := fun x y k => ref2_token_L0_G N x.1 x.2.1 y.1.1 y.1.2.1 y.1.2.2.1 y.1.2.2.2.1 y.2.1.1 y.2.1.2.1 y.2.1.2.2.1 y.2.1.2.2.2.1 x.2.2.2.2.1 k
abbrev ref2_token_L1_fs : List (Nat × Sl) := [(0, .v .str), (1, .v (.int .i64)), (4, .box 1004 0), (7, .box 1007 0), (8, .v (.int .i64)), (9, .v .u8)]
abbrev ref2_token_L1_bs : List (Nat × Sb) := [(1004, .cells [.v (.int .i64), .v .str, .v (.int .i64), .v (.int .i64)]), (1007, .cells [.v (.int .i64), .v .str, .v (.int .i64), .v (.int .i64)])]
def ref2_token_L1_hd (x0 : Str) (x1 : Int) (t15 : UInt8) (c1004_0_2 : Int) (c1004_1_3 : Str) (c1004_2_4 : Int) (c1004_3_5 : Int) (c1007_0_6 : Int) (c1007_1_7 : Str) (c1007_2_8 : Int) (c1007_3_9 : Int) (s8_1 : Int) : St := ⟨125, [(0, .v .str x0), (1, .v (.int .i64) x1), (4, .box 1004 0), (7, .box 1007 0), (8, .v (.int .i64) s8_1), (9, .v .u8 t15)], [(1004, .cells [.v (.int .i64) c1004_0_2, .v .str c1004_1_3, .v (.int .i64) c1004_2_4, .v (.int .i64) c1004_3_5]), (1007, .cells [.v (.int .i64) c1007_0_6, .v .str c1007_1_7, .v (.int .i64) c1007_2_8, .v (.int .i64) c1007_3_9])]⟩
def ref2_token_L1_tl3 (x0 : Str) (x1 : Int) (t15 : UInt8) (c1004_0_2 : Int) (c1004_1_3 : Str) (c1004_2_4 : Int) (c1004_3_5 : Int) (c1007_0_6 : Int) (c1007_1_7 : Str) (c1007_2_8 : Int) (c1007_3_9 : Int) (o1_8 : Int) : St := ⟨125, [(0, .v .str x0), (1, .v (.int .i64) x1), (4, .box 1004 0), (7, .box 1007 0), (8, .v (.int .i64) o1_8), (9, .v .u8 t15)], [(1004, .cells [.v (.int .i64) c1004_0_2, .v .str c1004_1_3, .v (.int .i64) c1004_2_4, .v (.int .i64) c1004_3_5]), (1007, .cells [.v (.int .i64) c1007_0_6, .v .str c1007_1_7, .v (.int .i64) c1007_2_8, .v (.int .i64) c1007_3_9])]⟩
def ref2_token_L1_G (N : Nat) (x0 : Str) (x1 : Int) (t15 : UInt8) (c1004_0_2 : Int) (c1004_1_3 : Str) (c1004_2_4 : Int) (c1004_3_5 : Int) (c1007_0_6 : Int) (c1007_1_7 : Str) (c1007_2_8 : Int) (c1007_3_9 : Int) (s8_1 : Int) (k : Ex → St → Option ((Int × Str × Int × Int) × Int × Int)) : Option ((Int × Str × Int × Int) × Int × Int) :=
  ref2_token_L1 N x0 (fun o1_8 => k (.exit 3) (ref2_token_L1_tl3 x0 x1 t15 c1004_0_2 c1004_1_3 c1004_2_4 c1004_3_5 c1007_0_6 c1007_1_7 c1007_2_8 c1007_3_9 o1_8)) N s8_1
abbrev ref2_token_L1_F (N : Nat) : FV ref2_token_L1_fs → HV ref2_token_L1_bs → (Ex → St → Option ((Int × Str × Int × Int) × Int × Int)) → Option ((Int × Str × Int × Int) × Int × Int) := fun x y k => ref2_token_L1_G N x.1 x.2.1 x.2.2.2.2.2.1 y.1.1 y.1.2.1 y.1.2.2.1 y.1.2.2.2.1 y.2.1.1 y.2.1.2.1 y.2.1.2.2.1 y.2.1.2.2.2.1 x.2.2.2.2.1 k
noncomputable def ref2_token_LP (N : Nat) : Nat → Code → St → (Ex → St → Option ((Int × Str × Int × Int) × Int × Int)) → Option ((Int × Str × Int × Int) × Int × Int) := fun i c =>
  match i with
  | 1 => (LPc 125 ref2_token_L0_fs ref2_token_L0_bs (ref2_token_L0_F N) (fun st k => iter (ref2_token_h 1) (exec (ref2_token_E N) N c 1) N st k))
  | 3 => (LPc 125 ref2_token_L1_fs ref2_token_L1_bs (ref2_token_L1_F N) (fun st k => iter (ref2_token_h 3) (exec (ref2_token_E N) N c 3) N st k))
  | i => fun st k => iter (ref2_token_h i) (exec (ref2_token_E N) N c i) N st k
theorem ref2_token_L1_step (N : Nat) (x0 : Str) (x1 : Int) (t15 : UInt8) (c1004_0_2 : Int) (c1004_1_3 : Str) (c1004_2_4 : Int) (c1004_3_5 : Int) (c1007_0_6 : Int) (c1007_1_7 : Str) (c1007_2_8 : Int) (c1007_3_9 : Int) (KX : Nat → St → Option ((Int × Str × Int × Int) × Int × Int)) (I : St → Option ((Int × Str × Int × Int) × Int × Int)) (s8_1 : Int) :
    execL (ref2_token_LP N) (ref2_token_E N) (cAt (bodyOf Tryz.f77) [true, true, true, false, true, false, true, true, true, false, false, false, false]) 3 (ref2_token_L1_hd x0 x1 t15 c1004_0_2 c1004_1_3 c1004_2_4 c1004_3_5 c1007_0_6 c1007_1_7 c1007_2_8 c1007_3_9 s8_1) (roundK (ref2_token_h 3) I KX (resD (ref2_token_E N) Tryz.f77 (ref2_token_sg fun x _ => ref2_token N x.1 x.2.1) ref2_token_pk)) = ref2_token_L1T N x0 (fun o1_8 => KX 3 (ref2_token_L1_tl3 x0 x1 t15 c1004_0_2 c1004_1_3 c1004_2_4 c1004_3_5 c1007_0_6 c1007_1_7 c1007_2_8 c1007_3_9 o1_8)) (fun s8_1 => I (ref2_token_L1_hd x0 x1 t15 c1004_0_2 c1004_1_3 c1004_2_4 c1004_3_5 c1007_0_6 c1007_1_7 c1007_2_8 c1007_3_9 s8_1)) s8_1 := by kernel_rfl
theorem ref2_token_L1_ok (N : Nat) : ∀ x y k, (∀ st, k .ret st = (resD (ref2_token_E N) Tryz.f77 (ref2_token_sg fun x _ => ref2_token N x.1 x.2.1) ref2_token_pk) st) → iter (ref2_token_h 3) (exec (ref2_token_E N) N (cAt (bodyOf Tryz.f77) [true, true, true, false, true, false, true, true, true, false, false, false, false]) 3) N ⟨125, unF ref2_token_L1_fs x, unH ref2_token_L1_bs y⟩ k = ref2_token_L1_F N x y k := fun x y k hk =>
  iter_link (S := (Int) × Unit) (ref2_token_h 3) _ (execL (ref2_token_LP N) (ref2_token_E N) (cAt (bodyOf Tryz.f77) [true, true, true, false, true, false, true, true, true, false, false, false, false]) 3) (resD (ref2_token_E N) Tryz.f77 (ref2_token_sg fun x _ => ref2_token N x.1 x.2.1) ref2_token_pk) (fun st k hk => execL_eq _ _ N _ (cAt (bodyOf Tryz.f77) [true, true, true, false, true, false, true, true, true, false, false, false, false]) 3 (show LoopsOk (ref2_token_LP N) (ref2_token_E N) N (resD (ref2_token_E N) Tryz.f77 (ref2_token_sg fun x _ => ref2_token N x.1 x.2.1) ref2_token_pk) [] from trivial) st k hk) (fun s => ref2_token_L1_hd x.1 x.2.1 x.2.2.2.2.2.1 y.1.1 y.1.2.1 y.1.2.2.1 y.1.2.2.2.1 y.2.1.1 y.2.1.2.1 y.2.1.2.2.1 y.2.1.2.2.2.1 s.1) k hk
    (fun self s => ref2_token_L1T N x.1 (fun o1_8 => k (.exit 3) (ref2_token_L1_tl3 x.1 x.2.1 x.2.2.2.2.2.1 y.1.1 y.1.2.1 y.1.2.2.1 y.1.2.2.2.1 y.2.1.1 y.2.1.2.1 y.2.1.2.2.1 y.2.1.2.2.2.1 o1_8)) (fun s8_1 => self (s8_1, ())) s.1) (fun n s => ref2_token_L1 N x.1 (fun o1_8 => k (.exit 3) (ref2_token_L1_tl3 x.1 x.2.1 x.2.2.2.2.2.1 y.1.1 y.1.2.1 y.1.2.2.1 y.1.2.2.2.1 y.2.1.1 y.2.1.2.1 y.2.1.2.2.1 y.2.1.2.2.2.1 o1_8)) n s.1) (fun _ => rfl) (fun _ _ => rfl)
    (fun I s => ref2_token_L1_step N x.1 x.2.1 x.2.2.2.2.2.1 y.1.1 y.1.2.1 y.1.2.2.1 y.1.2.2.2.1 y.2.1.1 y.2.1.2.1 y.2.1.2.2.1 y.2.1.2.2.2.1 (fun j => k (.exit j)) I s.1) N (x.2.2.2.2.1, ())
theorem ref2_token_lp3 (N : Nat) : ∀ st k, (∀ st, k .ret st = (resD (ref2_token_E N) Tryz.f77 (ref2_token_sg fun x _ => ref2_token N x.1 x.2.1) ref2_token_pk) st) → ref2_token_LP N 3 (cAt (bodyOf Tryz.f77) [true, true, true, false, true, false, true, true, true, false, false, false, false]) st k = iter (Env.hint (ref2_token_E N) 3) (exec (ref2_token_E N) N (cAt (bodyOf Tryz.f77) [true, true, true, false, true, false, true, true, true, false, false, false, false]) 3) N st k := fun st k hk => LPc_eq 125 ref2_token_L1_fs ref2_token_L1_bs _ _ (resD (ref2_token_E N) Tryz.f77 (ref2_token_sg fun x _ => ref2_token N x.1 x.2.1) ref2_token_pk) (ref2_token_L1_ok N) _ st k hk (rfl)
theorem ref2_token_L0_step (N : Nat) (x0 : Str) (x1 : Int) (c1004_0 : Int) (c1004_1 : Str) (c1004_2 : Int) (c1004_3 : Int) (c1007_0 : Int) (c1007_1 : Str) (c1007_2 : Int) (c1007_3 : Int) (KX : Nat → St → Option ((Int × Str × Int × Int) × Int × Int)) (I : St → Option ((Int × Str × Int × Int) × Int × Int)) (s8 : Int) :
    execL (ref2_token_LP N) (ref2_token_E N) (cAt (bodyOf Tryz.f77) [true, true, true, false, true, false, true, false, false, false, false]) 1 (ref2_token_L0_hd x0 x1 c1004_0 c1004_1 c1004_2 c1004_3 c1007_0 c1007_1 c1007_2 c1007_3 s8) (roundK (ref2_token_h 1) I KX (resD (ref2_token_E N) Tryz.f77 (ref2_token_sg fun x _ => ref2_token N x.1 x.2.1) ref2_token_pk)) = ref2_token_L0T N x0 (fun o0_8 => KX 1 (ref2_token_L0_tl1 x0 x1 c1004_0 c1004_1 c1004_2 c1004_3 c1007_0 c1007_1 c1007_2 c1007_3 o0_8)) (fun s8 => I (ref2_token_L0_hd x0 x1 c1004_0 c1004_1 c1004_2 c1004_3 c1007_0 c1007_1 c1007_2 c1007_3 s8)) s8 := by kernel_rfl
theorem ref2_token_L0_ok (N : Nat) : ∀ x y k, (∀ st, k .ret st = (resD (ref2_token_E N) Tryz.f77 (ref2_token_sg fun x _ => ref2_token N x.1 x.2.1) ref2_token_pk) st) → iter (ref2_token_h 1) (exec (ref2_token_E N) N (cAt (bodyOf Tryz.f77) [true, true, true, false, true, false, true, false, false, false, false]) 1) N ⟨125, unF ref2_token_L0_fs x, unH ref2_token_L0_bs y⟩ k = ref2_token_L0_F N x y k := fun x y k hk =>
  iter_link (S := (Int) × Unit) (ref2_token_h 1) _ (execL (ref2_token_LP N) (ref2_token_E N) (cAt (bodyOf Tryz.f77) [true, true, true, false, true, false, true, false, false, false, false]) 1) (resD (ref2_token_E N) Tryz.f77 (ref2_token_sg fun x _ => ref2_token N x.1 x.2.1) ref2_token_pk) (fun st k hk => execL_eq _ _ N _ (cAt (bodyOf Tryz.f77) [true, true, true, false, true, false, true, false, false, false, false]) 1 (show LoopsOk (ref2_token_LP N) (ref2_token_E N) N (resD (ref2_token_E N) Tryz.f77 (ref2_token_sg fun x _ => ref2_token N x.1 x.2.1) ref2_token_pk) [] from trivial) st k hk) (fun s => ref2_token_L0_hd x.1 x.2.1 y.1.1 y.1.2.1 y.1.2.2.1 y.1.2.2.2.1 y.2.1.1 y.2.1.2.1 y.2.1.2.2.1 y.2.1.2.2.2.1 s.1) k hk
    (fun self s => ref2_token_L0T N x.1 (fun o0_8 => k (.exit 1) (ref2_token_L0_tl1 x.1 x.2.1 y.1.1 y.1.2.1 y.1.2.2.1 y.1.2.2.2.1 y.2.1.1 y.2.1.2.1 y.2.1.2.2.1 y.2.1.2.2.2.1 o0_8)) (fun s8 => self (s8, ())) s.1) (fun n s => ref2_token_L0 N x.1 (fun o0_8 => k (.exit 1) (ref2_token_L0_tl1 x.1 x.2.1 y.1.1 y.1.2.1 y.1.2.2.1 y.1.2.2.2.1 y.2.1.1 y.2.1.2.1 y.2.1.2.2.1 y.2.1.2.2.2.1 o0_8)) n s.1) (fun _ => rfl) (fun _ _ => rfl)
    (fun I s => ref2_token_L0_step N x.1 x.2.1 y.1.1 y.1.2.1 y.1.2.2.1 y.1.2.2.2.1 y.2.1.1 y.2.1.2.1 y.2.1.2.2.1 y.2.1.2.2.2.1 (fun j => k (.exit j)) I s.1) N (x.2.2.2.2.1, ())
theorem ref2_token_lp1 (N : Nat) : ∀ st k, (∀ st, k .ret st = (resD (ref2_token_E N) Tryz.f77 (ref2_token_sg fun x _ => ref2_token N x.1 x.2.1) ref2_token_pk) st) → ref2_token_LP N 1 (cAt (bodyOf Tryz.f77) [true, true, true, false, true, false, true, false, false, false, false]) st k = iter (Env.hint (ref2_token_E N) 1) (exec (ref2_token_E N) N (cAt (bodyOf Tryz.f77) [true, true, true, false, true, false, true, false, false, false, false]) 1) N st k := fun st k hk => LPc_eq 125 ref2_token_L0_fs ref2_token_L0_bs _ _ (resD (ref2_token_E N) Tryz.f77 (ref2_token_sg fun x _ => ref2_token N x.1 x.2.1) ref2_token_pk) (ref2_token_L0_ok N) _ st k hk (rfl)
theorem ref2_token_core (N : Nat) (x : SV [.v .str, .v (.int .i64)]) (y : BV []) : runL (ref2_token_E N) Tryz.f77 (ref2_token_sg fun x _ => ref2_token N x.1 x.2.1) ref2_token_pk (ref2_token_LP N) x y = ref2_token N x.1 x.2.1 := by kernel_rfl
theorem ref2_token_sound (N : Nat) : Sound Tryz.prog GW B0G 77 (ref2_token_sg fun x _ => ref2_token N x.1 x.2.1) :=
  runD_sound (mkE_ok ref2_token_h (ref2_token_fn N) _ _ (ref2_token_fn_ok N)) Tryz.func77 rfl Tryz.call77 (ref2_token_sg fun x _ => ref2_token N x.1 x.2.1) ref2_token_pk (fun _ _ => rfl) N (fun x y _ h => ((runL_eq (ref2_token_E N) N Tryz.f77 (ref2_token_sg fun x _ => ref2_token N x.1 x.2.1) ref2_token_pk (ref2_token_LP N) (show LoopsOk (ref2_token_LP N) (ref2_token_E N) N (resD (ref2_token_E N) Tryz.f77 (ref2_token_sg fun x _ => ref2_token N x.1 x.2.1) ref2_token_pk) [(1, (cAt (bodyOf Tryz.f77) [true, true, true, false, true, false, true, false, false, false, false])), (3, (cAt (bodyOf Tryz.f77) [true, true, true, false, true, false, true, true, true, false, false, false, false]))] from ⟨ref2_token_lp1 N, ref2_token_lp3 N, trivial⟩) x y).trans (ref2_token_core N x y)).trans h)
def ref2_Tokens_L0T (N : Nat) (x0 : Str) (k0 : (List (Int × Str × Int × Int)) → Option (Int × Int × List (Int × Str × Int × Int))) (self : Int → (List (Int × Str × Int × Int)) → Option (Int × Int × List (Int × Str × Int × Int))) (s6 : Int) (w1005 : List (Int × Str × Int × Int)) : Option (Int × Int × List (Int × Str × Int × Int)) :=
  br (decide (s6 < (x0.length : Int)))
    (bnd (ref2_token N x0 s6) fun t25 =>
    br (decide ((w1005.length : Int) ≥ (50000 : Int)))
      (some (s6, ((2 : Int), ([] : List (Int × Str × Int × Int)))))
      (br (t25.2.2 != (0 : Int))
        (some (s6, (t25.2.2, ([] : List (Int × Str × Int × Int)))))
        (br (decide ((w1005.length + [t25.1].length) * (24 * Ty.sz (.pr (.int .i64) (.pr .str (.pr (.int .i64) (.int .i64))))) ≤ 140737488355328))
          (bnd (ref2_skip N x0 t25.2.1) fun t21 =>
          self t21 (w1005 ++ [t25.1]))
          none)))
    (k0 w1005)
def ref2_Tokens_L0 (N : Nat) (x0 : Str) (k0 : (List (Int × Str × Int × Int)) → Option (Int × Int × List (Int × Str × Int × Int))) : Nat → Int → (List (Int × Str × Int × Int)) → Option (Int × Int × List (Int × Str × Int × Int))
  | 0, _, _ => none
  | n + 1, s6, w1005 => ref2_Tokens_L0T N x0 k0 (ref2_Tokens_L0 N x0 k0 n) s6 w1005
def ref2_Tokens (N : Nat) (x0 : Str) : Option (Int × Int × List (Int × Str × Int × Int)) :=
  br (decide ((x0.length : Int) > (50000 : Int)))
    (some ((0 : Int), ((2 : Int), ([] : List (Int × Str × Int × Int)))))
    (bnd (ref2_skip N x0 (0 : Int)) fun t14 =>
    ref2_Tokens_L0 N x0 (fun o0_w1005 =>
        some ((0 : Int), ((0 : Int), o0_w1005))) N t14 ([] : List (Int × Str × Int × Int)))
abbrev ref2_Tokens_sg (f : SV [.v .str] → BV [] → Option (Int × Int × List (Int × Str × Int × Int))) : AF := { ps := [.v .str], bs := [], rs := [.row 0, .v (.int .i64), .v (.int .i64)], cs := [.row 64 (.pr (.int .i64) (.pr .str (.pr (.int .i64) (.int .i64)))) false], R := Int × Int × List (Int × Str × Int × Int), out := fun z => (((), z.1, z.2.1, ()), (z.2.2, ())), f := f }
abbrev ref2_Tokens_pk : SV [.row 0, .v (.int .i64), .v (.int .i64)] → BV [.row 64 (.pr (.int .i64) (.pr .str (.pr (.int .i64) (.int .i64)))) false] → (Int × Int × List (Int × Str × Int × Int)) := fun x y => (x.2.1, x.2.2.1, y.1)
def ref2_Tokens_fn (N : Nat) : FuncId → Option Tmp → Option AF := fun f _ =>
  match f with
    | 76 => some (ref2_skip_sg fun x _ => ref2_skip N x.1 x.2.1)
    | 77 => some (ref2_token_sg fun x _ => ref2_token N x.1 x.2.1)
    | _ => none
theorem ref2_Tokens_fn_ok (N : Nat) : ∀ f q F, ref2_Tokens_fn N f q = some F → Sound Tryz.prog GW B0G f F := by
  intro f q F h
  unfold ref2_Tokens_fn at h
  split at h
  · cases h; exact ref2_skip_sound N
  · cases h; exact ref2_token_sound N
  · cases h
def ref2_Tokens_h : Nat → Hint := fun i =>
  match i with
  | 0 => ⟨[], [0, 5, 6], [1005], [5], [1005], []⟩
  | _ => ⟨[], [], [], [], [], []⟩
abbrev ref2_Tokens_E (N : Nat) : Env := mkE ref2_Tokens_h (ref2_Tokens_fn N) (fun _ => false) (fun _ => false)
abbrev ref2_Tokens_L0_fs : List (Nat × Sl) := [(0, .v .str), (5, .row 1005), (6, .v (.int .i64))]
abbrev ref2_Tokens_L0_bs : List (Nat × Sb) := [(1005, .row 64 (.pr (.int .i64) (.pr .str (.pr (.int .i64) (.int .i64)))) false)]
def ref2_Tokens_L0_hd (x0 : Str) (s6 : Int) (w1005 : List (Int × Str × Int × Int)) : St := ⟨43, [(0, .v .str x0), (5, .row 1005), (6, .v (.int .i64) s6)], [(1005, .row 64 (.pr (.int .i64) (.pr .str (.pr (.int .i64) (.int .i64)))) false w1005)]⟩
def ref2_Tokens_L0_tl0 (_x0 : Str) (o0_w1005 : List (Int × Str × Int × Int)) : St := ⟨43, [(5, .row 1005)], [(1005, .row 64 (.pr (.int .i64) (.pr .str (.pr (.int .i64) (.int .i64)))) false o0_w1005)]⟩
def ref2_Tokens_L0_G (N : Nat) (x0 : Str) (s6 : Int) (w1005 : List (Int × Str × Int × Int)) (k : Ex → St → Option (Int × Int × List (Int × Str × Int × Int))) : Option (Int × Int × List (Int × Str × Int × Int)) :=
  ref2_Tokens_L0 N x0 (fun o0_w1005 => k (.exit 0) (ref2_Tokens_L0_tl0 x0 o0_w1005)) N s6 w1005
abbrev ref2_Tokens_L0_F (N : Nat) : FV ref2_Tokens_L0_fs → HV ref2_Tokens_L0_bs → (Ex → St → Option (Int × Int × List (Int × Str × Int × Int))) → Option (Int × Int × List (Int × Str × Int × Int)) := fun x y k => ref2_Tokens_L0_G N x.1 x.2.2.1 y.1 k
noncomputable def ref2_Tokens_LP (N : Nat) : Nat → Code → St → (Ex → St → Option (Int × Int × List (Int × Str × Int × Int))) → Option (Int × Int × List (Int × Str × Int × Int)) := fun i c =>
  match i with
  | 0 => (LPc 43 ref2_Tokens_L0_fs ref2_Tokens_L0_bs (ref2_Tokens_L0_F N) (fun st k => iter (ref2_Tokens_h 0) (exec (ref2_Tokens_E N) N c 0) N st k))
  | i => fun st k => iter (ref2_Tokens_h i) (exec (ref2_Tokens_E N) N c i) N st k
theorem ref2_Tokens_L0_step (N : Nat) (x0 : Str) (KX : Nat → St → Option (Int × Int × List (Int × Str × Int × Int))) (I : St → Option (Int × Int × List (Int × Str × Int × Int))) (s6 : Int) (w1005 : List (Int × Str × Int × Int)) :
    execL (ref2_Tokens_LP N) (ref2_Tokens_E N) (cAt (bodyOf Tryz.f32) [true, true, true, false, true, false, false]) 0 (ref2_Tokens_L0_hd x0 s6 w1005) (roundK (ref2_Tokens_h 0) I KX (resD (ref2_Tokens_E N) Tryz.f32 (ref2_Tokens_sg fun x _ => ref2_Tokens N x.1) ref2_Tokens_pk)) = ref2_Tokens_L0T N x0 (fun o0_w1005 => KX 0 (ref2_Tokens_L0_tl0 x0 o0_w1005)) (fun s6 w1005 => I (ref2_Tokens_L0_hd x0 s6 w1005)) s6 w1005 := by kernel_rfl
theorem ref2_Tokens_L0_ok (N : Nat) : ∀ x y k, (∀ st, k .ret st = (resD (ref2_Tokens_E N) Tryz.f32 (ref2_Tokens_sg fun x _ => ref2_Tokens N x.1) ref2_Tokens_pk) st) → iter (ref2_Tokens_h 0) (exec (ref2_Tokens_E N) N (cAt (bodyOf Tryz.f32) [true, true, true, false, true, false, false]) 0) N ⟨43, unF ref2_Tokens_L0_fs x, unH ref2_Tokens_L0_bs y⟩ k = ref2_Tokens_L0_F N x y k := fun x y k hk =>
  iter_link (S := (Int) × (List (Int × Str × Int × Int)) × Unit) (ref2_Tokens_h 0) _ (execL (ref2_Tokens_LP N) (ref2_Tokens_E N) (cAt (bodyOf Tryz.f32) [true, true, true, false, true, false, false]) 0) (resD (ref2_Tokens_E N) Tryz.f32 (ref2_Tokens_sg fun x _ => ref2_Tokens N x.1) ref2_Tokens_pk) (fun st k hk => execL_eq _ _ N _ (cAt (bodyOf Tryz.f32) [true, true, true, false, true, false, false]) 0 (show LoopsOk (ref2_Tokens_LP N) (ref2_Tokens_E N) N (resD (ref2_Tokens_E N) Tryz.f32 (ref2_Tokens_sg fun x _ => ref2_Tokens N x.1) ref2_Tokens_pk) [] from trivial) st k hk) (fun s => ref2_Tokens_L0_hd x.1 s.1 s.2.1) k hk
    (fun self s => ref2_Tokens_L0T N x.1 (fun o0_w1005 => k (.exit 0) (ref2_Tokens_L0_tl0 x.1 o0_w1005)) (fun s6 w1005 => self (s6, w1005, ())) s.1 s.2.1) (fun n s => ref2_Tokens_L0 N x.1 (fun o0_w1005 => k (.exit 0) (ref2_Tokens_L0_tl0 x.1 o0_w1005)) n s.1 s.2.1) (fun _ => rfl) (fun _ _ => rfl)
    (fun I s => ref2_Tokens_L0_step N x.1 (fun j => k (.exit j)) I s.1 s.2.1) N (x.2.2.1, y.1, ())
theorem ref2_Tokens_lp0 (N : Nat) : ∀ st k, (∀ st, k .ret st = (resD (ref2_Tokens_E N) Tryz.f32 (ref2_Tokens_sg fun x _ => ref2_Tokens N x.1) ref2_Tokens_pk) st) → ref2_Tokens_LP N 0 (cAt (bodyOf Tryz.f32) [true, true, true, false, true, false, false]) st k = iter (Env.hint (ref2_Tokens_E N) 0) (exec (ref2_Tokens_E N) N (cAt (bodyOf Tryz.f32) [true, true, true, false, true, false, false]) 0) N st k := fun st k hk => LPc_eq 43 ref2_Tokens_L0_fs ref2_Tokens_L0_bs _ _ (resD (ref2_Tokens_E N) Tryz.f32 (ref2_Tokens_sg fun x _ => ref2_Tokens N x.1) ref2_Tokens_pk) (ref2_Tokens_L0_ok N) _ st k hk (rfl)
theorem ref2_Tokens_core (N : Nat) (x : SV [.v .str]) (y : BV []) : runL (ref2_Tokens_E N) Tryz.f32 (ref2_Tokens_sg fun x _ => ref2_Tokens N x.1) ref2_Tokens_pk (ref2_Tokens_LP N) x y = ref2_Tokens N x.1 := by kernel_rfl
theorem ref2_Tokens_sound (N : Nat) : Sound Tryz.prog GW B0G 32 (ref2_Tokens_sg fun x _ => ref2_Tokens N x.1) :=
  runD_sound (mkE_ok ref2_Tokens_h (ref2_Tokens_fn N) _ _ (ref2_Tokens_fn_ok N)) Tryz.func32 rfl Tryz.call32 (ref2_Tokens_sg fun x _ => ref2_Tokens N x.1) ref2_Tokens_pk (fun _ _ => rfl) N (fun x y _ h => ((runL_eq (ref2_Tokens_E N) N Tryz.f32 (ref2_Tokens_sg fun x _ => ref2_Tokens N x.1) ref2_Tokens_pk (ref2_Tokens_LP N) (show LoopsOk (ref2_Tokens_LP N) (ref2_Tokens_E N) N (resD (ref2_Tokens_E N) Tryz.f32 (ref2_Tokens_sg fun x _ => ref2_Tokens N x.1) ref2_Tokens_pk) [(0, (cAt (bodyOf Tryz.f32) [true, true, true, false, true, false, false]))] from ⟨ref2_Tokens_lp0 N, trivial⟩) x y).trans (ref2_Tokens_core N x y)).trans h)
def slices_Equal_api_Token_L0T (_N : Nat) (x0 : List (Int × Str × Int × Int)) (x1 : List (Int × Str × Int × Int)) (c12 : Int) (k0 : Option Bool) (self : Int → Option Bool) (s13 : Int) : Option Bool :=
  br (decide (s13 < c12))
    (bnd (geti x0 s13) fun t18 =>
    bnd (geti x1 s13) fun t22 =>
    br (!(eqb (.pr (.int .i64) (.pr .str (.pr (.int .i64) (.int .i64)))) t18 t22))
      (some false)
      (self (IntKind.i64.wrap (s13 + (1 : Int)))))
    (k0)
def slices_Equal_api_Token_L0 (N : Nat) (x0 : List (Int × Str × Int × Int)) (x1 : List (Int × Str × Int × Int)) (c12 : Int) (k0 : Option Bool) : Nat → Int → Option Bool
  | 0, _ => none
  | n + 1, s13 => slices_Equal_api_Token_L0T N x0 x1 c12 k0 (slices_Equal_api_Token_L0 N x0 x1 c12 k0 n) s13
def slices_Equal_api_Token (N : Nat) (x0 : List (Int × Str × Int × Int)) (x1 : List (Int × Str × Int × Int)) : Option Bool :=
  br ((x0.length : Int) != (x1.length : Int))
    (some false)
    (slices_Equal_api_Token_L0 N x0 x1 (x0.length : Int) (some true) N (0 : Int))
abbrev slices_Equal_api_Token_sg (f : SV [.v (.sl (.pr (.int .i64) (.pr .str (.pr (.int .i64) (.int .i64))))), .v (.sl (.pr (.int .i64) (.pr .str (.pr (.int .i64) (.int .i64)))))] → BV [] → Option (Bool)) : AF := { ps := [.v (.sl (.pr (.int .i64) (.pr .str (.pr (.int .i64) (.int .i64))))), .v (.sl (.pr (.int .i64) (.pr .str (.pr (.int .i64) (.int .i64)))))], bs := [], rs := [.v .bool], cs := [], R := Bool, out := fun z => ((z, ()), ()), f := f }
abbrev slices_Equal_api_Token_pk : SV [.v .bool] → BV [] → Bool := fun x _ => x.1
def slices_Equal_api_Token_fn (_N : Nat) : FuncId → Option Tmp → Option AF := fun f _ =>
  match f with
    | _ => none
theorem slices_Equal_api_Token_fn_ok (N : Nat) : ∀ f q F, slices_Equal_api_Token_fn N f q = some F → Sound Tryz.prog GW B0G f F := by
  intro f q F h
  unfold slices_Equal_api_Token_fn at h
  split at h
  · cases h
def slices_Equal_api_Token_h : Nat → Hint := fun i =>
  match i with
  | 0 => ⟨[], [0, 1, 12, 13], [], [], [], []⟩
  | _ => ⟨[], [], [], [], [], []⟩
abbrev slices_Equal_api_Token_E (N : Nat) : Env := mkE slices_Equal_api_Token_h (slices_Equal_api_Token_fn N) (fun _ => false) (fun _ => false)
abbrev slices_Equal_api_Token_L0_fs : List (Nat × Sl) := [(0, .v (.sl (.pr (.int .i64) (.pr .str (.pr (.int .i64) (.int .i64)))))), (1, .v (.sl (.pr (.int .i64) (.pr .str (.pr (.int .i64) (.int .i64)))))), (12, .v (.int .i64)), (13, .v (.int .i64))]
abbrev slices_Equal_api_Token_L0_bs : List (Nat × Sb) := []
def slices_Equal_api_Token_L0_hd (x0 : List (Int × Str × Int × Int)) (x1 : List (Int × Str × Int × Int)) (c12 : Int) (s13 : Int) : St := ⟨26, [(0, .v (.sl (.pr (.int .i64) (.pr .str (.pr (.int .i64) (.int .i64))))) x0), (1, .v (.sl (.pr (.int .i64) (.pr .str (.pr (.int .i64) (.int .i64))))) x1), (12, .v (.int .i64) c12), (13, .v (.int .i64) s13)], []⟩
def slices_Equal_api_Token_L0_tl0 (_x0 : List (Int × Str × Int × Int)) (_x1 : List (Int × Str × Int × Int)) (_c12 : Int) : St := ⟨26, [], []⟩
def slices_Equal_api_Token_L0_G (N : Nat) (x0 : List (Int × Str × Int × Int)) (x1 : List (Int × Str × Int × Int)) (c12 : Int) (s13 : Int) (k : Ex → St → Option Bool) : Option Bool :=
  slices_Equal_api_Token_L0 N x0 x1 c12 (k (.exit 0) (slices_Equal_api_Token_L0_tl0 x0 x1 c12)) N s13
abbrev slices_Equal_api_Token_L0_F (N : Nat) : FV slices_Equal_api_Token_L0_fs → HV slices_Equal_api_Token_L0_bs → (Ex → St → Option Bool) → Option Bool := fun x _ k => slices_Equal_api_Token_L0_G N x.1 x.2.1 x.2.2.1 x.2.2.2.1 k
noncomputable def slices_Equal_api_Token_LP (N : Nat) : Nat → Code → St → (Ex → St → Option Bool) → Option Bool := fun i c =>
  match i with
  | 0 => (LPc 26 slices_Equal_api_Token_L0_fs slices_Equal_api_Token_L0_bs (slices_Equal_api_Token_L0_F N) (fun st k => iter (slices_Equal_api_Token_h 0) (exec (slices_Equal_api_Token_E N) N c 0) N st k))
  | i => fun st k => iter (slices_Equal_api_Token_h i) (exec (slices_Equal_api_Token_E N) N c i) N st k
theorem slices_Equal_api_Token_L0_step (N : Nat) (x0 : List (Int × Str × Int × Int)) (x1 : List (Int × Str × Int × Int)) (c12 : Int) (KX : Nat → St → Option Bool) (I : St → Option Bool) (s13 : Int) :
    execL (slices_Equal_api_Token_LP N) (slices_Equal_api_Token_E N) (cAt (bodyOf Tryz.f33) [true, true, false, true, false, false]) 0 (slices_Equal_api_Token_L0_hd x0 x1 c12 s13) (roundK (slices_Equal_api_Token_h 0) I KX (resD (slices_Equal_api_Token_E N) Tryz.f33 (slices_Equal_api_Token_sg fun x _ => slices_Equal_api_Token N x.1 x.2.1) slices_Equal_api_Token_pk)) = slices_Equal_api_Token_L0T N x0 x1 c12 (KX 0 (slices_Equal_api_Token_L0_tl0 x0 x1 c12)) (fun s13 => I (slices_Equal_api_Token_L0_hd x0 x1 c12 s13)) s13 := by kernel_rfl
theorem slices_Equal_api_Token_L0_ok (N : Nat) : ∀ x y k, (∀ st, k .ret st = (resD (slices_Equal_api_Token_E N) Tryz.f33 (slices_Equal_api_Token_sg fun x _ => slices_Equal_api_Token N x.1 x.2.1) slices_Equal_api_Token_pk) st) → iter (slices_Equal_api_Token_h 0) (exec (slices_Equal_api_Token_E N) N (cAt (bodyOf Tryz.f33) [true, true, false, true, false, false]) 0) N ⟨26, unF slices_Equal_api_Token_L0_fs x, unH slices_Equal_api_Token_L0_bs y⟩ k = slices_Equal_api_Token_L0_F N x y k := fun x _ k hk =>
  iter_link (S := (Int) × Unit) (slices_Equal_api_Token_h 0) _ (execL (slices_Equal_api_Token_LP N) (slices_Equal_api_Token_E N) (cAt (bodyOf Tryz.f33) [true, true, false, true, false, false]) 0) (resD (slices_Equal_api_Token_E N) Tryz.f33 (slices_Equal_api_Token_sg fun x _ => slices_Equal_api_Token N x.1 x.2.1) slices_Equal_api_Token_pk) (fun st k hk => execL_eq _ _ N _ (cAt (bodyOf Tryz.f33) [true, true, false, true, false, false]) 0 (show LoopsOk (slices_Equal_api_Token_LP N) (slices_Equal_api_Token_E N) N (resD (slices_Equal_api_Token_E N) Tryz.f33 (slices_Equal_api_Token_sg fun x _ => slices_Equal_api_Token N x.1 x.2.1) slices_Equal_api_Token_pk) [] from trivial) st k hk) (fun s => slices_Equal_api_Token_L0_hd x.1 x.2.1 x.2.2.1 s.1) k hk
    (fun self s => slices_Equal_api_Token_L0T N x.1 x.2.1 x.2.2.1 (k (.exit 0) (slices_Equal_api_Token_L0_tl0 x.1 x.2.1 x.2.2.1)) (fun s13 => self (s13, ())) s.1) (fun n s => slices_Equal_api_Token_L0 N x.1 x.2.1 x.2.2.1 (k (.exit 0) (slices_Equal_api_Token_L0_tl0 x.1 x.2.1 x.2.2.1)) n s.1) (fun _ => rfl) (fun _ _ => rfl)
    (fun I s => slices_Equal_api_Token_L0_step N x.1 x.2.1 x.2.2.1 (fun j => k (.exit j)) I s.1) N (x.2.2.2.1, ())
theorem slices_Equal_api_Token_lp0 (N : Nat) : ∀ st k, (∀ st, k .ret st = (resD (slices_Equal_api_Token_E N) Tryz.f33 (slices_Equal_api_Token_sg fun x _ => slices_Equal_api_Token N x.1 x.2.1) slices_Equal_api_Token_pk) st) → slices_Equal_api_Token_LP N 0 (cAt (bodyOf Tryz.f33) [true, true, false, true, false, false]) st k = iter (Env.hint (slices_Equal_api_Token_E N) 0) (exec (slices_Equal_api_Token_E N) N (cAt (bodyOf Tryz.f33) [true, true, false, true, false, false]) 0) N st k := fun st k hk => LPc_eq 26 slices_Equal_api_Token_L0_fs slices_Equal_api_Token_L0_bs _ _ (resD (slices_Equal_api_Token_E N) Tryz.f33 (slices_Equal_api_Token_sg fun x _ => slices_Equal_api_Token N x.1 x.2.1) slices_Equal_api_Token_pk) (slices_Equal_api_Token_L0_ok N) _ st k hk (rfl)
theorem slices_Equal_api_Token_core (N : Nat) (x : SV [.v (.sl (.pr (.int .i64) (.pr .str (.pr (.int .i64) (.int .i64))))), .v (.sl (.pr (.int .i64) (.pr .str (.pr (.int .i64) (.int .i64)))))]) (y : BV []) : runL (slices_Equal_api_Token_E N) Tryz.f33 (slices_Equal_api_Token_sg fun x _ => slices_Equal_api_Token N x.1 x.2.1) slices_Equal_api_Token_pk (slices_Equal_api_Token_LP N) x y = slices_Equal_api_Token N x.1 x.2.1 := by kernel_rfl
theorem slices_Equal_api_Token_sound (N : Nat) : Sound Tryz.prog GW B0G 33 (slices_Equal_api_Token_sg fun x _ => slices_Equal_api_Token N x.1 x.2.1) :=
  runD_sound (mkE_ok slices_Equal_api_Token_h (slices_Equal_api_Token_fn N) _ _ (slices_Equal_api_Token_fn_ok N)) Tryz.func33 rfl Tryz.call33 (slices_Equal_api_Token_sg fun x _ => slices_Equal_api_Token N x.1 x.2.1) slices_Equal_api_Token_pk (fun _ _ => rfl) N (fun x y _ h => ((runL_eq (slices_Equal_api_Token_E N) N Tryz.f33 (slices_Equal_api_Token_sg fun x _ => slices_Equal_api_Token N x.1 x.2.1) slices_Equal_api_Token_pk (slices_Equal_api_Token_LP N) (show LoopsOk (slices_Equal_api_Token_LP N) (slices_Equal_api_Token_E N) N (resD (slices_Equal_api_Token_E N) Tryz.f33 (slices_Equal_api_Token_sg fun x _ => slices_Equal_api_Token N x.1 x.2.1) slices_Equal_api_Token_pk) [(0, (cAt (bodyOf Tryz.f33) [true, true, false, true, false, false]))] from ⟨slices_Equal_api_Token_lp0 N, trivial⟩) x y).trans (slices_Equal_api_Token_core N x y)).trans h)
def law2_ScriptTokensMatchSpec (N : Nat) (x0 : Str) : Option Bool :=
  bnd (script_Tokens N x0) fun t11 =>
  bnd (ref2_Tokens N x0) fun t17 =>
  br (t11.2.2 == t17.2.1)
    (br (t11.2.1 == t17.1)
      (bnd (slices_Equal_api_Token N t11.1 t17.2.2) fun t32 =>
      br (t32)
        (bnd (law2_awake) fun t35 =>
        some t35)
        (some false))
      (some false))
    (some false)
abbrev law2_ScriptTokensMatchSpec_sg (f : SV [.v .str] → BV [] → Option (Bool)) : AF := { ps := [.v .str], bs := [], rs := [.v .bool], cs := [], R := Bool, out := fun z => ((z, ()), ()), f := f }
abbrev law2_ScriptTokensMatchSpec_pk : SV [.v .bool] → BV [] → Bool := fun x _ => x.1
def law2_ScriptTokensMatchSpec_fn (N : Nat) : FuncId → Option Tmp → Option AF := fun f _ =>
  match f with
    | 11 => some (law2_awake_sg fun _ _ => law2_awake)
    | 31 => some (script_Tokens_sg fun x _ => script_Tokens N x.1)
    | 32 => some (ref2_Tokens_sg fun x _ => ref2_Tokens N x.1)
    | 33 => some (slices_Equal_api_Token_sg fun x _ => slices_Equal_api_Token N x.1 x.2.1)
    | _ => none
theorem law2_ScriptTokensMatchSpec_fn_ok (N : Nat) : ∀ f q F, law2_ScriptTokensMatchSpec_fn N f q = some F → Sound Tryz.prog GW B0G f F := by
  intro f q F h
  unfold law2_ScriptTokensMatchSpec_fn at h
  split at h
  · cases h; exact law2_awake_sound
  · cases h; exact script_Tokens_sound N
  · cases h; exact ref2_Tokens_sound N
  · cases h; exact slices_Equal_api_Token_sound N
  · cases h
def law2_ScriptTokensMatchSpec_h : Nat → Hint := fun i =>
  match i with
  | _ => ⟨[], [], [], [], [], []⟩
abbrev law2_ScriptTokensMatchSpec_E (N : Nat) : Env := mkE law2_ScriptTokensMatchSpec_h (law2_ScriptTokensMatchSpec_fn N) (fun _ => false) (fun _ => false)
noncomputable def law2_ScriptTokensMatchSpec_LP (N : Nat) : Nat → Code → St → (Ex → St → Option Bool) → Option Bool := fun i c =>
  match i with
  | i => fun st k => iter (law2_ScriptTokensMatchSpec_h i) (exec (law2_ScriptTokensMatchSpec_E N) N c i) N st k
theorem law2_ScriptTokensMatchSpec_core (N : Nat) (x : SV [.v .str]) (y : BV []) : runL (law2_ScriptTokensMatchSpec_E N) Tryz.f9 (law2_ScriptTokensMatchSpec_sg fun x _ => law2_ScriptTokensMatchSpec N x.1) law2_ScriptTokensMatchSpec_pk (law2_ScriptTokensMatchSpec_LP N) x y = law2_ScriptTokensMatchSpec N x.1 := by kernel_rfl
theorem law2_ScriptTokensMatchSpec_sound (N : Nat) : Sound Tryz.prog GW B0G 9 (law2_ScriptTokensMatchSpec_sg fun x _ => law2_ScriptTokensMatchSpec N x.1) :=
  runD_sound (mkE_ok law2_ScriptTokensMatchSpec_h (law2_ScriptTokensMatchSpec_fn N) _ _ (law2_ScriptTokensMatchSpec_fn_ok N)) Tryz.func9 rfl Tryz.call9 (law2_ScriptTokensMatchSpec_sg fun x _ => law2_ScriptTokensMatchSpec N x.1) law2_ScriptTokensMatchSpec_pk (fun _ _ => rfl) N (fun x y _ h => ((runL_eq (law2_ScriptTokensMatchSpec_E N) N Tryz.f9 (law2_ScriptTokensMatchSpec_sg fun x _ => law2_ScriptTokensMatchSpec N x.1) law2_ScriptTokensMatchSpec_pk (law2_ScriptTokensMatchSpec_LP N) (show LoopsOk (law2_ScriptTokensMatchSpec_LP N) (law2_ScriptTokensMatchSpec_E N) N (resD (law2_ScriptTokensMatchSpec_E N) Tryz.f9 (law2_ScriptTokensMatchSpec_sg fun x _ => law2_ScriptTokensMatchSpec N x.1) law2_ScriptTokensMatchSpec_pk) [] from trivial) x y).trans (law2_ScriptTokensMatchSpec_core N x y)).trans h)
end
end Go.Proofs.YtahjncefiegflaaGreatDoor


/- The arguments of a law, as the statement's reading hands them over, as data of the machine: any type. -/
namespace Go.Proofs.YtahjncefiegflaaGreatDoor
set_option linter.unusedVariables false
set_option linter.unusedSimpArgs false
open Go Go.RowKit Go.ChangeShapes Go.WideShapes
/-- Nothing is longer than Go lets it be. -/
def FitG (RR : (i : RC) → i.den → Prop) : (t : Ty) → t.den → Prop
  | .u8, _ => True
  | .int k, x => (Lit.int k x).wf = true
  | .bool, _ => True
  | .str, x => x.length ≤ maxLen
  | .sl t, xs => xs.length ≤ maxLen ∧ ∀ x ∈ xs, FitG RR t x
  | .pr a b, x => FitG RR a x.1 ∧ FitG RR b x.2
  | .un, _ => True
  | .mp _, _ => True
  | .ptr _, _ => True
  | .np _, _ => True
  | .clo _ _, _ => True
  | .rc i, x => RR i x
def FitR (i : RC) (x : i.den) : Prop := ∀ RR : (i : RC) → i.den → Prop, (∀ j y, FitG RR j.body (j.un y) → RR j y) → RR i x
def Fit : (t : Ty) → t.den → Prop := FitG FitR
theorem FitG.mono {RR RR' : (i : RC) → i.den → Prop} (hR : ∀ i x, RR i x → RR' i x) : ∀ (t : Ty) (x : t.den), FitG RR t x → FitG RR' t x
  | .u8, _, h => h
  | .int _, _, h => h
  | .bool, _, h => h
  | .str, _, h => h
  | .sl t, _, h => ⟨h.1, fun x hx => FitG.mono hR t x (h.2 x hx)⟩
  | .pr a b, _, h => ⟨FitG.mono hR a _ h.1, FitG.mono hR b _ h.2⟩
  | .un, _, h => h
  | .mp _, _, h => h
  | .ptr _, _, h => h
  | .np _, _, h => h
  | .clo _ _, _, h => h
  | .rc i, x, h => hR i x h
theorem FitR.intro {i : RC} {x : i.den} (h : Fit i.body (i.un x)) : FitR i x :=
  fun RR hc => hc i x (FitG.mono (fun j y hy => hy RR hc) _ _ h)
theorem FitR.elim {i : RC} {x : i.den} (h : FitR i x) : Fit i.body (i.un x) :=
  h (fun j y => Fit j.body (j.un y)) fun _ _ hy => FitG.mono (fun _ _ h => FitR.intro h) _ _ hy
mutual
/-- A type of the program is this one, down to its parts. -/
inductive Deep (P : Program) (R : RC → Option TypeId) : Ty → TypeId → Prop where
  | u8 {T : TypeId} : P.underlying T = some (.int .u8) → Deep P R .u8 T
  | int {T : TypeId} {k : IntKind} : P.underlying T = some (.int k) → Deep P R (.int k) T
  | bool {T : TypeId} : P.underlying T = some .bool → Deep P R .bool T
  | str {T : TypeId} : P.underlying T = some .string → Deep P R .str T
  | sl {T e : TypeId} {t : Ty} : P.underlying T = some (.slice e) → P.cellsOf e = t.sz → Deep P R t e → Deep P R (.sl t) T
  | st {T : TypeId} {t : Ty} {fs : Array Field} : P.underlying T = some (.struct fs) → P.cellsOf T = t.sz → t.isAgg = true → DeepF P R t fs.toList 0 → Deep P R t T
  | rc {T : TypeId} {i : RC} : R i = some T → Deep P R (.rc i) T
/-- The same, of fields from a place on. -/
inductive DeepF (P : Program) (R : RC → Option TypeId) : Ty → List Field → Nat → Prop where
  | nil {o : Nat} : DeepF P R .un [] o
  | one {t : Ty} {f : Field} {o : Nat} : f.offset = o → P.cellsOf f.type = t.sz → Deep P R t f.type → DeepF P R t [f] o
  | single {t : Ty} {f : Field} {o : Nat} : f.offset = o → P.cellsOf f.type = t.sz → Deep P R t f.type → DeepF P R (.pr t .un) [f] o
  | cons {a b : Ty} {f : Field} {fs : List Field} {o : Nat} : f.offset = o → P.cellsOf f.type = a.sz → Deep P R a f.type → DeepF P R b fs (o + a.sz) → DeepF P R (.pr a b) (f :: fs) o
end
def RcOk (P : Program) (R : RC → Option TypeId) : Prop := ∀ i T, R i = some T → ∃ fs, P.underlying T = some (.struct fs) ∧ P.cellsOf T = i.sz ∧ DeepF P R i.body fs.toList 0
abbrev M00 : Nat → Nat → Prop := fun _ _ => False
section
variable {H : Type} {enc : TypeId × Value → H} {P : Program} {w : World} {spare : Nat → Bool} {held : Bool} {R : RC → Option TypeId}
theorem choose_list {α : Type} {p : Nat → α → Prop} : ∀ n, (∀ i, i < n → ∃ x, p i x) → ∃ l : List α, l.length = n ∧ ∀ i (h : i < l.length), p i l[i]
  | 0, _ => ⟨[], rfl, fun i h => absurd h (Nat.not_lt_zero _)⟩
  | n + 1, h => by
    obtain ⟨l, hl, hp⟩ := choose_list n fun i hi => h i (Nat.lt_succ_of_lt hi)
    obtain ⟨x, hx⟩ := h n (Nat.lt_succ_self _)
    refine ⟨l ++ [x], by simp [hl], fun i hi => ?_⟩
    rcases Nat.lt_or_ge i l.length with h' | h'
    · rw [List.getElem_append_left h']; exact hp i h'
    · have : i = l.length := by simp at hi; omega
      subst this
      simp [hl, hx]
theorem pl_of_cells {a : Addr} {n : Nat} {cs : List Value} (h : w.cells? 0 a n = some cs) : Pl M00 w a cs := by
  intro j u hu
  refine ⟨?_, id⟩
  unfold World.cells? at h
  rw [if_pos (Nat.zero_le _)] at h
  have hl := mapM_some_length h
  have hj : j < n := by
    rcases Nat.lt_or_ge j cs.length with h' | h'
    · rw [hl, List.length_range] at h'; exact h'
    · rw [List.getElem?_eq_none h'] at hu; cases hu
  have := mapM_some_get h j j (by rw [List.getElem?_range hj])
  rw [this]; exact hu
/-- What fields read as. -/
theorem fields_rep {fuel : Nat} {cs : List Value}
    (ih : ∀ (t : Ty) (T : TypeId) (cs : List Value) (x : DataW H × List MemPlace), Deep P R t T → DataW.trod enc P w 0 spare held fuel T cs = some x → ∃ d : t.den, RepC M00 w t d cs ∧ Fit t d) :
    ∀ (fs : List Field) (t : Ty) (o : Nat) (xs : List (DataW H × List MemPlace)), DeepF P R t fs o →
      (fs.mapM fun f => DataW.trod enc P w 0 spare held fuel f.type ((cs.drop f.offset).take (P.cellsOf f.type))) = some xs → ∃ d : t.den, RepC M00 w t d ((cs.drop o).take t.sz) ∧ Fit t d := by
  intro fs
  induction fs with
  | nil =>
    intro t o xs hd _
    cases hd
    exact ⟨(), List.take_zero, trivial⟩
  | cons f fs hfs =>
    intro t o xs hd hm
    have hhead : ∃ y, DataW.trod enc P w 0 spare held fuel f.type ((cs.drop f.offset).take (P.cellsOf f.type)) = some y := by
      have := mapM_some_get hm 0 f rfl
      cases hx : xs[0]? with
      | none =>
        have hl := mapM_some_length hm
        rw [List.getElem?_eq_none_iff] at hx
        simp at hl; omega
      | some y => exact ⟨y, this.trans hx⟩
    have htail : ∃ ys, (fs.mapM fun f => DataW.trod enc P w 0 spare held fuel f.type ((cs.drop f.offset).take (P.cellsOf f.type))) = some ys := by
      rw [List.mapM_cons] at hm
      obtain ⟨y, hy⟩ := hhead
      rw [hy] at hm
      cases hys : (fs.mapM fun f => DataW.trod enc P w 0 spare held fuel f.type ((cs.drop f.offset).take (P.cellsOf f.type))) with
      | none => rw [hys] at hm; cases hm
      | some ys => exact ⟨ys, rfl⟩
    obtain ⟨y, hy⟩ := hhead
    obtain ⟨ys, hys⟩ := htail
    cases hd with
    | one ho hc h1 =>
      rw [ho, hc] at hy
      exact ih _ _ _ _ h1 hy
    | single ho hc h1 =>
      rw [ho, hc] at hy
      obtain ⟨d, hd1, hd2⟩ := ih _ _ _ _ h1 hy
      exact ⟨(d, ()), ⟨_, [], (List.append_nil _).symm, hd1, rfl⟩, hd2, trivial⟩
    | @cons a b _ _ _ ho hc h1 h2 =>
      rw [ho, hc] at hy
      obtain ⟨d, hd1, hd2⟩ := ih _ _ _ _ h1 hy
      obtain ⟨e, he1, he2⟩ := hfs _ _ _ h2 hys
      refine ⟨(d, e), ⟨_, _, ?_, hd1, he1⟩, hd2, he2⟩
      show (cs.drop o).take (a.sz + b.sz) = _
      rw [List.take_add, List.drop_drop]
theorem trod_rep (hR : RcOk P R) : ∀ (fuel : Nat) (t : Ty) (T : TypeId) (cs : List Value) (x : DataW H × List MemPlace), Deep P R t T → DataW.trod enc P w 0 spare held fuel T cs = some x →
    ∃ d : t.den, RepC M00 w t d cs ∧ Fit t d := by
  intro fuel
  induction fuel with
  | zero => intro t T cs x _ h; cases h
  | succ fuel ih =>
    intro t T cs x hd h
    have hstruct : ∀ (t : Ty) (fs : Array Field), P.underlying T = some (.struct fs) → P.cellsOf T = t.sz → DeepF P R t fs.toList 0 → ∃ d : t.den, RepC M00 w t d cs ∧ Fit t d := fun t fs hu hc hf => by
      unfold DataW.trod at h
      simp only [hu] at h
      split at h
      · rename_i hl
        cases hm : (fs.toList.mapM fun f => DataW.trod enc P w 0 spare held fuel f.type ((cs.drop f.offset).take (P.cellsOf f.type))) with
        | none => rw [hm] at h; cases h
        | some xs =>
          obtain ⟨d, h1, h2⟩ := fields_rep ih fs.toList t 0 xs hf hm
          rw [List.drop_zero, List.take_of_length_le (by omega)] at h1
          exact ⟨d, h1, h2⟩
      · cases h
    cases hd with
    | u8 hu =>
      have hx : ∃ n, cs = [.int .u8 n] ∧ (Lit.int .u8 n).wf = true := by
        unfold DataW.trod at h
        split at h <;> simp_all
      obtain ⟨n, rfl, hn⟩ := hx
      refine ⟨UInt8.ofNat n.toNat, ?_, trivial⟩
      show [Value.int .u8 n] = [Value.int .u8 (UInt8.ofNat n.toNat).toNat]
      simp [Lit.wf, IntKind.min, IntKind.max, IntKind.signed, IntKind.bits] at hn
      have : ((UInt8.ofNat n.toNat).toNat : Int) = n := by simp; omega
      rw [this]
    | @int _ k hu =>
      have hx : ∃ n, cs = [.int k n] ∧ (Lit.int k n).wf = true := by
        unfold DataW.trod at h
        split at h <;> simp_all
      obtain ⟨n, rfl, hn⟩ := hx
      exact ⟨n, rfl, hn⟩
    | bool hu =>
      have hx : ∃ b, cs = [.bool b] := by
        unfold DataW.trod at h
        split at h <;> simp_all
      obtain ⟨b, rfl⟩ := hx
      exact ⟨b, rfl, trivial⟩
    | str hu =>
      have hx : ∃ s : ByteArray, cs = [.string s] ∧ s.size ≤ maxLen := by
        unfold DataW.trod at h
        split at h <;> simp_all
      obtain ⟨s, rfl, hn⟩ := hx
      refine ⟨s.data.toList, ?_, ?_⟩
      · show [Value.string s] = [Value.string ⟨s.data.toList.toArray⟩]
        simp
      · show s.data.toList.length ≤ maxLen
        simpa using hn
    | @sl _ e t hu hc he =>
      have hx : cs = [.slice none 0 0] ∨ ∃ a len cap, cs = [.slice (some a) len cap] ∧ len ≤ cap ∧ cap ≤ maxLen ∧
          ∀ i, i < len → ∃ y, (w.cells? 0 (a.add (i * P.cellsOf e)) (P.cellsOf e)).bind (DataW.trod enc P w 0 spare held fuel e) = some y := by
        unfold DataW.trod at h
        split at h
        all_goals try (simp_all; done)
        · rename_i hu2
          rw [hu] at hu2
          cases hu2
          simp only at h
          split at h
          · rename_i hb
            right
            refine ⟨_, _, _, rfl, hb.2.1, hb.2.2, fun i hi => ?_⟩
            cases hm : ((List.range _).mapM fun i => (w.cells? 0 (Addr.add _ (i * P.cellsOf e)) (P.cellsOf e)).bind (DataW.trod enc P w 0 spare held fuel e)) with
            | none => rw [hm] at h; cases h
            | some ys =>
              have h1 := mapM_some_get hm i i (by rw [List.getElem?_range hi])
              have hl := mapM_some_length hm
              rw [List.length_range] at hl
              exact ⟨ys[i]'(by omega), h1.trans (List.getElem?_eq_getElem (by omega))⟩
          · cases h
      rcases hx with rfl | ⟨a, len, cap, rfl, h1, h2, h3⟩
      · exact ⟨[], ⟨none, 0, rfl, Nat.le_refl _, Nat.zero_le _, fun i h => absurd h (Nat.not_lt_zero _)⟩, Nat.zero_le _, fun x h => by cases h⟩
      · have hall : ∀ i, i < len → ∃ d : t.den, (∃ es, RepC M00 w t d es ∧ Pl M00 w (a.add (i * t.sz)) es) ∧ Fit t d := fun i hi => by
          obtain ⟨y, hy⟩ := h3 i hi
          rw [hc] at hy
          cases hcs : w.cells? 0 (a.add (i * t.sz)) t.sz with
          | none => rw [hcs] at hy; cases hy
          | some es =>
            rw [hcs] at hy
            obtain ⟨d, hd1, hd2⟩ := ih _ _ _ _ he hy
            exact ⟨d, ⟨es, hd1, pl_of_cells hcs⟩, hd2⟩
        obtain ⟨l, hl, hp⟩ := choose_list len hall
        refine ⟨l, ⟨some a, cap, ?_, by omega, h2, fun i hi => ?_⟩, ?_, fun x hx => ?_⟩
        · rw [hl]
        · obtain ⟨⟨es, e1, e2⟩, _⟩ := hp i hi
          exact ⟨a, es, rfl, e1, e2⟩
        · show l.length ≤ maxLen; omega
        · obtain ⟨i, hi, rfl⟩ := List.getElem_of_mem hx
          exact (hp i hi).2
    | st hu hc ha hf => exact hstruct t _ hu hc hf
    | rc hr =>
      obtain ⟨fs, hu, hc, hf⟩ := hR _ _ hr
      rename_i i
      obtain ⟨d, h1, h2⟩ := hstruct i.body fs hu (by rw [hc, RC.sz_body]) hf
      refine ⟨i.mk d, RepC.rc.2 (by rw [RC.un_mk]; exact h1), FitR.intro (by rw [RC.un_mk]; exact h2)⟩
/-- An argument. -/
theorem arg_open (hR : RcOk P R) {r : Reach} {base : Nat} {t : Ty} {T : TypeId} {v : Value} {d : DataW H} {p : List MemPlace} (hd : Deep P R t T) (hv : Value.okWide P w r base T v) (h : DataW.Trod enc P w 0 spare held T v d p) :
    ∃ x : t.den, RepV M00 w t x v ∧ Fit t x := by
  obtain ⟨fuel, hf⟩ := h
  obtain ⟨x, h1, h2⟩ := trod_rep hR fuel t T _ _ hd hf
  refine ⟨x, ⟨_, h1, ?_⟩, h2⟩
  have hagg : ∀ fs, P.underlying T = some (.struct fs) → t.isAgg = true → v = mkV t v.cells.toList := fun fs hu ha => by
    obtain ⟨cs, rfl, _⟩ := okWide_struct hu hv
    rw [mkV_agg ha]
    simp [Value.cells]
  have hone : ∀ c : Value, v = c → c.cells = #[c] → t.isAgg = false → v = mkV t v.cells.toList := fun c e hc ha => by
    subst e
    rw [hc, mkV_plain ha]
  cases hd with
  | u8 hu => obtain ⟨n, rfl⟩ := okWide_int hu hv; exact hone _ rfl rfl rfl
  | int hu => obtain ⟨n, rfl⟩ := okWide_int hu hv; exact hone _ rfl rfl rfl
  | bool hu => obtain ⟨n, rfl⟩ := okWide_bool hu hv; exact hone _ rfl rfl rfl
  | str hu => obtain ⟨n, rfl⟩ := okWide_string hu hv; exact hone _ rfl rfl rfl
  | sl hu _ _ => obtain ⟨a, l, c, rfl⟩ := okWide_slice hu hv; exact hone _ rfl rfl rfl
  | st hu _ ha _ => exact hagg _ hu ha
  | rc hr => obtain ⟨fs, hu, _⟩ := hR _ _ hr; exact hagg _ hu rfl
end
/-- A law is called. -/
theorem law_run {P : Program} {f : FuncId} {ps : List Sl} {F : SV ps → BV [] → Option Bool} {out : Bool → SV [.v .bool] × BV []} (hout : ∀ z, (out z).1 = (z, ())) (hs : Sound P GW B0G f ⟨ps, [], [.v .bool], [], Bool, out, F⟩)
    {W : World} {vs : List Value} {x : SV ps} (hg : GW W) (ha : All2 (RepD0 M00 W g0) (lays id ps x) vs) (hf : F x () = some true) : Calls P f vs.toArray W fun e W' => e = .returned (.bool true) ∧ Ext W W' := by
  refine (hs.2 M00 W g0 vs x () true hg (GW_size hg) { args := ha, res := fun r blk h => (by cases h), dom := fun r gx h => (by cases h), inj := fun _ _ _ _ _ h => (by cases h), low := fun _ _ _ h => (by cases h), chg := fun _ _ _ _ h => (by cases h), mlt := fun b o h => h.elim, row := fun _ _ _ h => (by cases h) } hf).mono fun e W' hp => ?_
  obtain ⟨vs', g', he, hE, _, hF, _⟩ := hp
  refine ⟨?_, hE.ext fun b hb => ?_⟩
  · have := hF.args
    rw [hout] at this
    match vs', this with
    | [v], ⟨h1, _⟩ =>
      have h2 := RepV.plain (t := .bool) rfl h1
      have h3 : [v] = [.bool true] := h2
      injection h3 with h3
      rw [he, h3]
      rfl
  · obtain ⟨r, x, h, _⟩ := hb
    cases h
end Go.Proofs.YtahjncefiegflaaGreatDoor


/- The arguments of a law, with how much they hold together ('bulk'). -/
namespace Go.Proofs.YtahjncefiegflaaGreatDoor
set_option linter.unusedVariables false
set_option linter.unusedSimpArgs false
open Go Go.RowKit Go.ChangeShapes Go.WideShapes
section
variable {H : Type} {enc : TypeId × Value → H} {P : Program} {w : World} {spare : Nat → Bool} {held : Bool} {R : RC → Option TypeId} {rb : (i : RC) → i.den → Nat}
end
end Go.Proofs.YtahjncefiegflaaGreatDoor

