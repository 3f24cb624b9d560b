/- What functions of the program compute, as plain functions (printed). -/
import Derived.Test.YtahjncefiegflaaGreatDoorQTkF1
namespace Go.Proofs.YtahjncefiegflaaGreatDoor
open Go Go.RowKit
set_option maxRecDepth 100000
set_option linter.unusedVariables false
noncomputable section
def script_lexer_some_4_L0T (N : Nat) (y0_0 : Str) (k0 : Int → Option (Str × Str × Int × List (Int × Str × Int × Int))) (self : Int → Option (Str × Str × Int × List (Int × Str × Int × Int))) (b0_1 : Int) : Option (Str × Str × Int × List (Int × Str × Int × Int)) :=
  br (decide (b0_1 < (y0_0.length : Int)))
    (bnd (geti y0_0 b0_1) fun t30 =>
    bnd (script_isDigit N t30) fun t31 =>
    br (t31)
      (self (IntKind.i64.wrap (b0_1 + (1 : Int))))
      (k0 b0_1))
    (k0 b0_1)
def script_lexer_some_4_L0 (N : Nat) (y0_0 : Str) (k0 : Int → Option (Str × Str × Int × List (Int × Str × Int × Int))) : Nat → Int → Option (Str × Str × Int × List (Int × Str × Int × Int))
  | 0, _ => none
  | n + 1, b0_1 => script_lexer_some_4_L0T N y0_0 k0 (script_lexer_some_4_L0 N y0_0 k0 n) b0_1
def script_lexer_some_4 (N : Nat) (_x1 : Unit) (y0_0 : Str) (y0_1 : Int) (w1 : List (Int × Str × Int × Int)) : Option (Str × Str × Int × List (Int × Str × Int × Int)) :=
  script_lexer_some_4_L0 N y0_0 (fun o0_0_1 =>
      bnd (slc y0_0 y0_1 o0_0_1) fun t49 =>
      some (t49, (y0_0, (o0_0_1, w1)))) N y0_1
abbrev script_lexer_some_4_sg (f : SV [.box 0 0, .v (.clo 97 .un)] → BV [.cells [.v .str, .v (.int .i64), .row 1], .row 64 (.pr (.int .i64) (.pr .str (.pr (.int .i64) (.int .i64)))) false] → Option (Str × Str × Int × List (Int × Str × Int × Int))) : AF := { ps := [.box 0 0, .v (.clo 97 .un)], bs := [.cells [.v .str, .v (.int .i64), .row 1], .row 64 (.pr (.int .i64) (.pr .str (.pr (.int .i64) (.int .i64)))) false], rs := [.v .str], cs := [.cells [.v .str, .v (.int .i64), .row 1], .row 64 (.pr (.int .i64) (.pr .str (.pr (.int .i64) (.int .i64)))) false], R := Str × Str × Int × List (Int × Str × Int × Int), out := fun z => ((z.1, ()), ((z.2.1, z.2.2.1, (), ()), z.2.2.2, ())), f := f }
abbrev script_lexer_some_4_pk : SV [.v .str] → BV [.cells [.v .str, .v (.int .i64), .row 1], .row 64 (.pr (.int .i64) (.pr .str (.pr (.int .i64) (.int .i64)))) false] → (Str × Str × Int × List (Int × Str × Int × Int)) := fun x y => (x.1, y.1.1, y.1.2.1, y.2.1)
def script_lexer_some_4_fn (N : Nat) : FuncId → Option Tmp → Option AF := fun f _ =>
  match f with
    | 97 => some (script_isDigit_sg fun x _ => script_isDigit N x.1)
    | _ => none
theorem script_lexer_some_4_fn_ok (N : Nat) : ∀ f q F, script_lexer_some_4_fn N f q = some F → Sound Tryz.prog GW B0G f F := by
  intro f q F h
  unfold script_lexer_some_4_fn at h
  split at h
  · cases h; exact script_isDigit_sound N
  · cases h
def script_lexer_some_4_h : Nat → Hint := fun i =>
  match i with
  | 0 => ⟨[], [0, 1, 5], [0, 1], [0, 5], [0, 1], []⟩
  | 100002 => ⟨[0, 1], [1], [], [], [], []⟩
  | 100004 => ⟨[0, 1], [1], [], [], [], []⟩
  | _ => ⟨[], [], [], [], [], []⟩
abbrev script_lexer_some_4_E (N : Nat) : Env := mkE script_lexer_some_4_h (script_lexer_some_4_fn N) (fun _ => false) (fun _ => false)
abbrev script_lexer_some_4_L0_fs : List (Nat × Sl) := [(0, .box 0 0), (1, .v (.clo 97 .un)), (5, .v (.int .i64))]
abbrev script_lexer_some_4_L0_bs : List (Nat × Sb) := [(0, .cells [.v .str, .v (.int .i64), .row 1]), (1, .row 64 (.pr (.int .i64) (.pr .str (.pr (.int .i64) (.int .i64)))) false)]
def script_lexer_some_4_L0_hd (x1 : Unit) (y0_1 : Int) (y0_0 : Str) (w1 : List (Int × Str × Int × Int)) (b0_1 : Int) : St := ⟨50, [(0, .box 0 0), (1, .v (.clo 97 .un) x1), (5, .v (.int .i64) y0_1)], [(0, .cells [.v .str y0_0, .v (.int .i64) b0_1, .row 1]), (1, .row 64 (.pr (.int .i64) (.pr .str (.pr (.int .i64) (.int .i64)))) false w1)]⟩
def script_lexer_some_4_L0_tl0 (_x1 : Unit) (y0_1 : Int) (y0_0 : Str) (w1 : List (Int × Str × Int × Int)) (o0_0_1 : Int) : St := ⟨50, [(0, .box 0 0), (5, .v (.int .i64) y0_1)], [(0, .cells [.v .str y0_0, .v (.int .i64) o0_0_1, .row 1]), (1, .row 64 (.pr (.int .i64) (.pr .str (.pr (.int .i64) (.int .i64)))) false w1)]⟩
def script_lexer_some_4_L0_G (N : Nat) (x1 : Unit) (y0_1 : Int) (y0_0 : Str) (w1 : List (Int × Str × Int × Int)) (b0_1 : Int) (k : Ex → St → Option (Str × Str × Int × List (Int × Str × Int × Int))) : Option (Str × Str × Int × List (Int × Str × Int × Int)) :=
  script_lexer_some_4_L0 N y0_0 (fun o0_0_1 => k (.exit 0) (script_lexer_some_4_L0_tl0 x1 y0_1 y0_0 w1 o0_0_1)) N b0_1
abbrev script_lexer_some_4_L0_F (N : Nat) : FV script_lexer_some_4_L0_fs → HV script_lexer_some_4_L0_bs → (Ex → St → Option (Str × Str × Int × List (Int × Str × Int × Int))) → Option (Str × Str × Int × List (Int × Str × Int × Int)) := fun x y k => script_lexer_some_4_L0_G N x.2.1 x.2.2.1 y.1.1 y.2.1 y.1.2.1 k
noncomputable def script_lexer_some_4_LP (N : Nat) : Nat → Code → St → (Ex → St → Option (Str × Str × Int × List (Int × Str × Int × Int))) → Option (Str × Str × Int × List (Int × Str × Int × Int)) := fun i c =>
  match i with
  | 0 => (LPc 50 script_lexer_some_4_L0_fs script_lexer_some_4_L0_bs (script_lexer_some_4_L0_F N) (fun st k => iter (script_lexer_some_4_h 0) (exec (script_lexer_some_4_E N) N c 0) N st k))
  | i => fun st k => iter (script_lexer_some_4_h i) (exec (script_lexer_some_4_E N) N c i) N st k
theorem script_lexer_some_4_L0_step (N : Nat) (x1 : Unit) (y0_1 : Int) (y0_0 : Str) (w1 : List (Int × Str × Int × Int)) (KX : Nat → St → Option (Str × Str × Int × List (Int × Str × Int × Int))) (I : St → Option (Str × Str × Int × List (Int × Str × Int × Int))) (b0_1 : Int) :
    execL (script_lexer_some_4_LP N) (script_lexer_some_4_E N) (cAt (bodyOf Tryz.f117) [true, true, false, false, false]) 0 (script_lexer_some_4_L0_hd x1 y0_1 y0_0 w1 b0_1) (roundK (script_lexer_some_4_h 0) I KX (resD (script_lexer_some_4_E N) Tryz.f117 (script_lexer_some_4_sg fun x y => script_lexer_some_4 N x.2.1 y.1.1 y.1.2.1 y.2.1) script_lexer_some_4_pk)) = script_lexer_some_4_L0T N y0_0 (fun o0_0_1 => KX 0 (script_lexer_some_4_L0_tl0 x1 y0_1 y0_0 w1 o0_0_1)) (fun b0_1 => I (script_lexer_some_4_L0_hd x1 y0_1 y0_0 w1 b0_1)) b0_1 := by kernel_rfl
theorem script_lexer_some_4_L0_ok (N : Nat) : ∀ x y k, (∀ st, k .ret st = (resD (script_lexer_some_4_E N) Tryz.f117 (script_lexer_some_4_sg fun x y => script_lexer_some_4 N x.2.1 y.1.1 y.1.2.1 y.2.1) script_lexer_some_4_pk) st) → iter (script_lexer_some_4_h 0) (exec (script_lexer_some_4_E N) N (cAt (bodyOf Tryz.f117) [true, true, false, false, false]) 0) N ⟨50, unF script_lexer_some_4_L0_fs x, unH script_lexer_some_4_L0_bs y⟩ k = script_lexer_some_4_L0_F N x y k := fun x y k hk =>
  iter_link (S := (Int) × Unit) (script_lexer_some_4_h 0) _ (execL (script_lexer_some_4_LP N) (script_lexer_some_4_E N) (cAt (bodyOf Tryz.f117) [true, true, false, false, false]) 0) (resD (script_lexer_some_4_E N) Tryz.f117 (script_lexer_some_4_sg fun x y => script_lexer_some_4 N x.2.1 y.1.1 y.1.2.1 y.2.1) script_lexer_some_4_pk) (fun st k hk => execL_eq _ _ N _ (cAt (bodyOf Tryz.f117) [true, true, false, false, false]) 0 (show LoopsOk (script_lexer_some_4_LP N) (script_lexer_some_4_E N) N (resD (script_lexer_some_4_E N) Tryz.f117 (script_lexer_some_4_sg fun x y => script_lexer_some_4 N x.2.1 y.1.1 y.1.2.1 y.2.1) script_lexer_some_4_pk) [] from trivial) st k hk) (fun s => script_lexer_some_4_L0_hd x.2.1 x.2.2.1 y.1.1 y.2.1 s.1) k hk
    (fun self s => script_lexer_some_4_L0T N y.1.1 (fun o0_0_1 => k (.exit 0) (script_lexer_some_4_L0_tl0 x.2.1 x.2.2.1 y.1.1 y.2.1 o0_0_1)) (fun b0_1 => self (b0_1, ())) s.1) (fun n s => script_lexer_some_4_L0 N y.1.1 (fun o0_0_1 => k (.exit 0) (script_lexer_some_4_L0_tl0 x.2.1 x.2.2.1 y.1.1 y.2.1 o0_0_1)) n s.1) (fun _ => rfl) (fun _ _ => rfl)
    (fun I s => script_lexer_some_4_L0_step N x.2.1 x.2.2.1 y.1.1 y.2.1 (fun j => k (.exit j)) I s.1) N (y.1.2.1, ())
theorem script_lexer_some_4_lp0 (N : Nat) : ∀ st k, (∀ st, k .ret st = (resD (script_lexer_some_4_E N) Tryz.f117 (script_lexer_some_4_sg fun x y => script_lexer_some_4 N x.2.1 y.1.1 y.1.2.1 y.2.1) script_lexer_some_4_pk) st) → script_lexer_some_4_LP N 0 (cAt (bodyOf Tryz.f117) [true, true, false, false, false]) st k = iter (Env.hint (script_lexer_some_4_E N) 0) (exec (script_lexer_some_4_E N) N (cAt (bodyOf Tryz.f117) [true, true, false, false, false]) 0) N st k := fun st k hk => LPc_eq 50 script_lexer_some_4_L0_fs script_lexer_some_4_L0_bs _ _ (resD (script_lexer_some_4_E N) Tryz.f117 (script_lexer_some_4_sg fun x y => script_lexer_some_4 N x.2.1 y.1.1 y.1.2.1 y.2.1) script_lexer_some_4_pk) (script_lexer_some_4_L0_ok N) _ st k hk (rfl)
theorem script_lexer_some_4_core (N : Nat) (x : SV [.box 0 0, .v (.clo 97 .un)]) (y : BV [.cells [.v .str, .v (.int .i64), .row 1], .row 64 (.pr (.int .i64) (.pr .str (.pr (.int .i64) (.int .i64)))) false]) : runL (script_lexer_some_4_E N) Tryz.f117 (script_lexer_some_4_sg fun x y => script_lexer_some_4 N x.2.1 y.1.1 y.1.2.1 y.2.1) script_lexer_some_4_pk (script_lexer_some_4_LP N) x y = script_lexer_some_4 N x.2.1 y.1.1 y.1.2.1 y.2.1 := by kernel_rfl
theorem script_lexer_some_4_sound (N : Nat) : Sound Tryz.prog GW B0G 117 (script_lexer_some_4_sg fun x y => script_lexer_some_4 N x.2.1 y.1.1 y.1.2.1 y.2.1) :=
  runD_sound (mkE_ok script_lexer_some_4_h (script_lexer_some_4_fn N) _ _ (script_lexer_some_4_fn_ok N)) Tryz.func117 rfl Tryz.call117 (script_lexer_some_4_sg fun x y => script_lexer_some_4 N x.2.1 y.1.1 y.1.2.1 y.2.1) script_lexer_some_4_pk (fun _ _ => rfl) N (fun x y _ h => ((runL_eq (script_lexer_some_4_E N) N Tryz.f117 (script_lexer_some_4_sg fun x y => script_lexer_some_4 N x.2.1 y.1.1 y.1.2.1 y.2.1) script_lexer_some_4_pk (script_lexer_some_4_LP N) (show LoopsOk (script_lexer_some_4_LP N) (script_lexer_some_4_E N) N (resD (script_lexer_some_4_E N) Tryz.f117 (script_lexer_some_4_sg fun x y => script_lexer_some_4 N x.2.1 y.1.1 y.1.2.1 y.2.1) script_lexer_some_4_pk) [(0, (cAt (bodyOf Tryz.f117) [true, true, false, false, false]))] from ⟨script_lexer_some_4_lp0 N, trivial⟩) x y).trans (script_lexer_some_4_core N x y)).trans h)
def script_lexer_number_2_L0T (_N : Nat) (c5 : Str) (c21 : Int) (k0 : Int → Option (Int × Str × Int × Int × Str × Int × Int × List (Int × Str × Int × Int))) (self : Int → Int → Option (Int × Str × Int × Int × Str × Int × Int × List (Int × Str × Int × Int))) (s22 : Int) (b1_2 : Int) : Option (Int × Str × Int × Int × Str × Int × Int × List (Int × Str × Int × Int)) :=
  br (decide (s22 < c21))
    (bnd (geti c5 s22) fun t33 =>
    self (IntKind.i64.wrap (s22 + (1 : Int))) (IntKind.i64.wrap ((IntKind.i64.wrap ((10 : Int) * b1_2)) + (IntKind.i64.wrap (UInt8.toNat (t33 - (48 : UInt8)) : Int)))))
    (k0 b1_2)
def script_lexer_number_2_L0 (N : Nat) (c5 : Str) (c21 : Int) (k0 : Int → Option (Int × Str × Int × Int × Str × Int × Int × List (Int × Str × Int × Int))) : Nat → Int → Int → Option (Int × Str × Int × Int × Str × Int × Int × List (Int × Str × Int × Int))
  | 0, _, _ => none
  | n + 1, s22, b1_2 => script_lexer_number_2_L0T N c5 c21 k0 (script_lexer_number_2_L0 N c5 c21 k0 n) s22 b1_2
def script_lexer_number_2 (N : Nat) (y0_0 : Str) (y0_1 : Int) (y1_0 : Int) (y1_1 : Str) (y1_2 : Int) (y1_3 : Int) (w2 : List (Int × Str × Int × Int)) : Option (Int × Str × Int × Int × Str × Int × Int × List (Int × Str × Int × Int)) :=
  bnd (script_lexer_some_4 N () y0_0 y0_1 w2) fun t8 =>
  br (decide ((t8.1.length : Int) > (1 : Int)))
    (bnd (geti t8.1 (0 : Int)) fun t14 =>
    br (t14 == (48 : UInt8))
      (some ((10 : Int), (t8.2.1, (t8.2.2.1, (y1_0, (y1_1, (y1_2, (y1_3, t8.2.2.2))))))))
      (br (decide ((t8.1.length : Int) > (9 : Int)))
        (some ((2 : Int), (t8.2.1, (t8.2.2.1, (y1_0, (y1_1, (y1_2, (y1_3, t8.2.2.2))))))))
        (script_lexer_number_2_L0 N t8.1 (t8.1.length : Int) (fun o0_1_2 =>
            some ((0 : Int), (t8.2.1, (t8.2.2.1, ((3 : Int), (y1_1, (o0_1_2, (y1_3, t8.2.2.2)))))))) N (0 : Int) y1_2)))
    (br (decide ((t8.1.length : Int) > (9 : Int)))
      (some ((2 : Int), (t8.2.1, (t8.2.2.1, (y1_0, (y1_1, (y1_2, (y1_3, t8.2.2.2))))))))
      (script_lexer_number_2_L0 N t8.1 (t8.1.length : Int) (fun o0_1_2 =>
          some ((0 : Int), (t8.2.1, (t8.2.2.1, ((3 : Int), (y1_1, (o0_1_2, (y1_3, t8.2.2.2)))))))) N (0 : Int) y1_2))
abbrev script_lexer_number_2_sg (f : SV [.box 0 0, .box 1 0] → BV [.cells [.v .str, .v (.int .i64), .row 2], .cells [.v (.int .i64), .v .str, .v (.int .i64), .v (.int .i64)], .row 64 (.pr (.int .i64) (.pr .str (.pr (.int .i64) (.int .i64)))) false] → Option (Int × Str × Int × Int × Str × Int × Int × List (Int × Str × Int × Int))) : AF := { ps := [.box 0 0, .box 1 0], bs := [.cells [.v .str, .v (.int .i64), .row 2], .cells [.v (.int .i64), .v .str, .v (.int .i64), .v (.int .i64)], .row 64 (.pr (.int .i64) (.pr .str (.pr (.int .i64) (.int .i64)))) false], rs := [.v (.int .i64)], cs := [.cells [.v .str, .v (.int .i64), .row 2], .cells [.v (.int .i64), .v .str, .v (.int .i64), .v (.int .i64)], .row 64 (.pr (.int .i64) (.pr .str (.pr (.int .i64) (.int .i64)))) false], R := Int × Str × Int × Int × Str × Int × Int × List (Int × Str × Int × Int), out := fun z => ((z.1, ()), ((z.2.1, z.2.2.1, (), ()), (z.2.2.2.1, z.2.2.2.2.1, z.2.2.2.2.2.1, z.2.2.2.2.2.2.1, ()), z.2.2.2.2.2.2.2, ())), f := f }
abbrev script_lexer_number_2_pk : SV [.v (.int .i64)] → BV [.cells [.v .str, .v (.int .i64), .row 2], .cells [.v (.int .i64), .v .str, .v (.int .i64), .v (.int .i64)], .row 64 (.pr (.int .i64) (.pr .str (.pr (.int .i64) (.int .i64)))) false] → (Int × Str × Int × Int × Str × Int × Int × List (Int × Str × Int × Int)) := fun x y => (x.1, y.1.1, y.1.2.1, y.2.1.1, y.2.1.2.1, y.2.1.2.2.1, y.2.1.2.2.2.1, y.2.2.1)
def script_lexer_number_2_fn (N : Nat) : FuncId → Option Tmp → Option AF := fun f _ =>
  match f with
    | 117 => some (script_lexer_some_4_sg fun x y => script_lexer_some_4 N x.2.1 y.1.1 y.1.2.1 y.2.1)
    | _ => none
theorem script_lexer_number_2_fn_ok (N : Nat) : ∀ f q F, script_lexer_number_2_fn N f q = some F → Sound Tryz.prog GW B0G f F := by
  intro f q F h
  unfold script_lexer_number_2_fn at h
  split at h
  · cases h; exact script_lexer_some_4_sound N
  · cases h
def script_lexer_number_2_h : Nat → Hint := fun i =>
  match i with
  | 0 => ⟨[], [1, 5, 21, 22], [0, 1, 2], [1], [0, 1, 2], []⟩
  | 100009 => ⟨[1], [1], [], [], [], []⟩
  | _ => ⟨[], [], [], [], [], []⟩
abbrev script_lexer_number_2_E (N : Nat) : Env := mkE script_lexer_number_2_h (script_lexer_number_2_fn N) (fun _ => false) (fun _ => false)
abbrev script_lexer_number_2_L0_fs : List (Nat × Sl) := [(1, .box 1 0), (5, .v .str), (21, .v (.int .i64)), (22, .v (.int .i64))]
abbrev script_lexer_number_2_L0_bs : List (Nat × Sb) := [(0, .cells [.v .str, .v (.int .i64), .row 2]), (1, .cells [.v (.int .i64), .v .str, .v (.int .i64), .v (.int .i64)]), (2, .row 64 (.pr (.int .i64) (.pr .str (.pr (.int .i64) (.int .i64)))) false)]
def script_lexer_number_2_L0_hd (c5 : Str) (c21 : Int) (c0_0 : Str) (c0_1 : Int) (y1_0 : Int) (y1_1 : Str) (y1_3 : Int) (cw2 : List (Int × Str × Int × Int)) (s22 : Int) (b1_2 : Int) : St := ⟨43, [(1, .box 1 0), (5, .v .str c5), (21, .v (.int .i64) c21), (22, .v (.int .i64) s22)], [(0, .cells [.v .str c0_0, .v (.int .i64) c0_1, .row 2]), (1, .cells [.v (.int .i64) y1_0, .v .str y1_1, .v (.int .i64) b1_2, .v (.int .i64) y1_3]), (2, .row 64 (.pr (.int .i64) (.pr .str (.pr (.int .i64) (.int .i64)))) false cw2)]⟩
def script_lexer_number_2_L0_tl0 (_c5 : Str) (_c21 : Int) (c0_0 : Str) (c0_1 : Int) (y1_0 : Int) (y1_1 : Str) (y1_3 : Int) (cw2 : List (Int × Str × Int × Int)) (o0_1_2 : Int) : St := ⟨43, [(1, .box 1 0)], [(0, .cells [.v .str c0_0, .v (.int .i64) c0_1, .row 2]), (1, .cells [.v (.int .i64) y1_0, .v .str y1_1, .v (.int .i64) o0_1_2, .v (.int .i64) y1_3]), (2, .row 64 (.pr (.int .i64) (.pr .str (.pr (.int .i64) (.int .i64)))) false cw2)]⟩
def script_lexer_number_2_L0_G (N : Nat) (c5 : Str) (c21 : Int) (c0_0 : Str) (c0_1 : Int) (y1_0 : Int) (y1_1 : Str) (y1_3 : Int) (cw2 : List (Int × Str × Int × Int)) (s22 : Int) (b1_2 : Int) (k : Ex → St → Option (Int × Str × Int × Int × Str × Int × Int × List (Int × Str × Int × Int))) : Option (Int × Str × Int × Int × Str × Int × Int × List (Int × Str × Int × Int)) :=
  script_lexer_number_2_L0 N c5 c21 (fun o0_1_2 => k (.exit 0) (script_lexer_number_2_L0_tl0 c5 c21 c0_0 c0_1 y1_0 y1_1 y1_3 cw2 o0_1_2)) N s22 b1_2
abbrev script_lexer_number_2_L0_F (N : Nat) : FV script_lexer_number_2_L0_fs → HV script_lexer_number_2_L0_bs → (Ex → St → Option (Int × Str × Int × Int × Str × Int × Int × List (Int × Str × Int × Int))) → Option (Int × Str × Int × Int × Str × Int × Int × List (Int × Str × Int × Int)) := fun x y k => script_lexer_number_2_L0_G N x.2.1 x.2.2.1 y.1.1 y.1.2.1 y.2.1.1 y.2.1.2.1 y.2.1.2.2.2.1 y.2.2.1 x.2.2.2.1 y.2.1.2.2.1 k
noncomputable def script_lexer_number_2_LP (N : Nat) : Nat → Code → St → (Ex → St → Option (Int × Str × Int × Int × Str × Int × Int × List (Int × Str × Int × Int))) → Option (Int × Str × Int × Int × Str × Int × Int × List (Int × Str × Int × Int)) := fun i c =>
  match i with
  | 0 => (LPc 43 script_lexer_number_2_L0_fs script_lexer_number_2_L0_bs (script_lexer_number_2_L0_F N) (fun st k => iter (script_lexer_number_2_h 0) (exec (script_lexer_number_2_E N) N c 0) N st k))
  | i => fun st k => iter (script_lexer_number_2_h i) (exec (script_lexer_number_2_E N) N c i) N st k
theorem script_lexer_number_2_L0_step (N : Nat) (c5 : Str) (c21 : Int) (c0_0 : Str) (c0_1 : Int) (y1_0 : Int) (y1_1 : Str) (y1_3 : Int) (cw2 : List (Int × Str × Int × Int)) (KX : Nat → St → Option (Int × Str × Int × Int × Str × Int × Int × List (Int × Str × Int × Int))) (I : St → Option (Int × Str × Int × Int × Str × Int × Int × List (Int × Str × Int × Int))) (s22 : Int) (b1_2 : Int) :
    execL (script_lexer_number_2_LP N) (script_lexer_number_2_E N) (cAt (bodyOf Tryz.f119) [true, true, true, true, false, true, false, false]) 0 (script_lexer_number_2_L0_hd c5 c21 c0_0 c0_1 y1_0 y1_1 y1_3 cw2 s22 b1_2) (roundK (script_lexer_number_2_h 0) I KX (resD (script_lexer_number_2_E N) Tryz.f119 (script_lexer_number_2_sg fun _ y => script_lexer_number_2 N y.1.1 y.1.2.1 y.2.1.1 y.2.1.2.1 y.2.1.2.2.1 y.2.1.2.2.2.1 y.2.2.1) script_lexer_number_2_pk)) = script_lexer_number_2_L0T N c5 c21 (fun o0_1_2 => KX 0 (script_lexer_number_2_L0_tl0 c5 c21 c0_0 c0_1 y1_0 y1_1 y1_3 cw2 o0_1_2)) (fun s22 b1_2 => I (script_lexer_number_2_L0_hd c5 c21 c0_0 c0_1 y1_0 y1_1 y1_3 cw2 s22 b1_2)) s22 b1_2 := by kernel_rfl
theorem script_lexer_number_2_L0_ok (N : Nat) : ∀ x y k, (∀ st, k .ret st = (resD (script_lexer_number_2_E N) Tryz.f119 (script_lexer_number_2_sg fun _ y => script_lexer_number_2 N y.1.1 y.1.2.1 y.2.1.1 y.2.1.2.1 y.2.1.2.2.1 y.2.1.2.2.2.1 y.2.2.1) script_lexer_number_2_pk) st) → iter (script_lexer_number_2_h 0) (exec (script_lexer_number_2_E N) N (cAt (bodyOf Tryz.f119) [true, true, true, true, false, true, false, false]) 0) N ⟨43, unF script_lexer_number_2_L0_fs x, unH script_lexer_number_2_L0_bs y⟩ k = script_lexer_number_2_L0_F N x y k := fun x y k hk =>
  iter_link (S := (Int) × (Int) × Unit) (script_lexer_number_2_h 0) _ (execL (script_lexer_number_2_LP N) (script_lexer_number_2_E N) (cAt (bodyOf Tryz.f119) [true, true, true, true, false, true, false, false]) 0) (resD (script_lexer_number_2_E N) Tryz.f119 (script_lexer_number_2_sg fun _ y => script_lexer_number_2 N y.1.1 y.1.2.1 y.2.1.1 y.2.1.2.1 y.2.1.2.2.1 y.2.1.2.2.2.1 y.2.2.1) script_lexer_number_2_pk) (fun st k hk => execL_eq _ _ N _ (cAt (bodyOf Tryz.f119) [true, true, true, true, false, true, false, false]) 0 (show LoopsOk (script_lexer_number_2_LP N) (script_lexer_number_2_E N) N (resD (script_lexer_number_2_E N) Tryz.f119 (script_lexer_number_2_sg fun _ y => script_lexer_number_2 N y.1.1 y.1.2.1 y.2.1.1 y.2.1.2.1 y.2.1.2.2.1 y.2.1.2.2.2.1 y.2.2.1) script_lexer_number_2_pk) [] from trivial) st k hk) (fun s => script_lexer_number_2_L0_hd x.2.1 x.2.2.1 y.1.1 y.1.2.1 y.2.1.1 y.2.1.2.1 y.2.1.2.2.2.1 y.2.2.1 s.1 s.2.1) k hk
    (fun self s => script_lexer_number_2_L0T N x.2.1 x.2.2.1 (fun o0_1_2 => k (.exit 0) (script_lexer_number_2_L0_tl0 x.2.1 x.2.2.1 y.1.1 y.1.2.1 y.2.1.1 y.2.1.2.1 y.2.1.2.2.2.1 y.2.2.1 o0_1_2)) (fun s22 b1_2 => self (s22, b1_2, ())) s.1 s.2.1) (fun n s => script_lexer_number_2_L0 N x.2.1 x.2.2.1 (fun o0_1_2 => k (.exit 0) (script_lexer_number_2_L0_tl0 x.2.1 x.2.2.1 y.1.1 y.1.2.1 y.2.1.1 y.2.1.2.1 y.2.1.2.2.2.1 y.2.2.1 o0_1_2)) n s.1 s.2.1) (fun _ => rfl) (fun _ _ => rfl)
    (fun I s => script_lexer_number_2_L0_step N x.2.1 x.2.2.1 y.1.1 y.1.2.1 y.2.1.1 y.2.1.2.1 y.2.1.2.2.2.1 y.2.2.1 (fun j => k (.exit j)) I s.1 s.2.1) N (x.2.2.2.1, y.2.1.2.2.1, ())
theorem script_lexer_number_2_lp0 (N : Nat) : ∀ st k, (∀ st, k .ret st = (resD (script_lexer_number_2_E N) Tryz.f119 (script_lexer_number_2_sg fun _ y => script_lexer_number_2 N y.1.1 y.1.2.1 y.2.1.1 y.2.1.2.1 y.2.1.2.2.1 y.2.1.2.2.2.1 y.2.2.1) script_lexer_number_2_pk) st) → script_lexer_number_2_LP N 0 (cAt (bodyOf Tryz.f119) [true, true, true, true, false, true, false, false]) st k = iter (Env.hint (script_lexer_number_2_E N) 0) (exec (script_lexer_number_2_E N) N (cAt (bodyOf Tryz.f119) [true, true, true, true, false, true, false, false]) 0) N st k := fun st k hk => LPc_eq 43 script_lexer_number_2_L0_fs script_lexer_number_2_L0_bs _ _ (resD (script_lexer_number_2_E N) Tryz.f119 (script_lexer_number_2_sg fun _ y => script_lexer_number_2 N y.1.1 y.1.2.1 y.2.1.1 y.2.1.2.1 y.2.1.2.2.1 y.2.1.2.2.2.1 y.2.2.1) script_lexer_number_2_pk) (script_lexer_number_2_L0_ok N) _ st k hk (rfl)
theorem script_lexer_number_2_core (N : Nat) (x : SV [.box 0 0, .box 1 0]) (y : BV [.cells [.v .str, .v (.int .i64), .row 2], .cells [.v (.int .i64), .v .str, .v (.int .i64), .v (.int .i64)], .row 64 (.pr (.int .i64) (.pr .str (.pr (.int .i64) (.int .i64)))) false]) : runL (script_lexer_number_2_E N) Tryz.f119 (script_lexer_number_2_sg fun _ y => script_lexer_number_2 N y.1.1 y.1.2.1 y.2.1.1 y.2.1.2.1 y.2.1.2.2.1 y.2.1.2.2.2.1 y.2.2.1) script_lexer_number_2_pk (script_lexer_number_2_LP N) x y = script_lexer_number_2 N y.1.1 y.1.2.1 y.2.1.1 y.2.1.2.1 y.2.1.2.2.1 y.2.1.2.2.2.1 y.2.2.1 := by kernel_rfl
theorem script_lexer_number_2_sound (N : Nat) : Sound Tryz.prog GW B0G 119 (script_lexer_number_2_sg fun _ y => script_lexer_number_2 N y.1.1 y.1.2.1 y.2.1.1 y.2.1.2.1 y.2.1.2.2.1 y.2.1.2.2.2.1 y.2.2.1) :=
  runD_sound (mkE_ok script_lexer_number_2_h (script_lexer_number_2_fn N) _ _ (script_lexer_number_2_fn_ok N)) Tryz.func119 rfl Tryz.call119 (script_lexer_number_2_sg fun _ y => script_lexer_number_2 N y.1.1 y.1.2.1 y.2.1.1 y.2.1.2.1 y.2.1.2.2.1 y.2.1.2.2.2.1 y.2.2.1) script_lexer_number_2_pk (fun _ _ => rfl) N (fun x y _ h => ((runL_eq (script_lexer_number_2_E N) N Tryz.f119 (script_lexer_number_2_sg fun _ y => script_lexer_number_2 N y.1.1 y.1.2.1 y.2.1.1 y.2.1.2.1 y.2.1.2.2.1 y.2.1.2.2.2.1 y.2.2.1) script_lexer_number_2_pk (script_lexer_number_2_LP N) (show LoopsOk (script_lexer_number_2_LP N) (script_lexer_number_2_E N) N (resD (script_lexer_number_2_E N) Tryz.f119 (script_lexer_number_2_sg fun _ y => script_lexer_number_2 N y.1.1 y.1.2.1 y.2.1.1 y.2.1.2.1 y.2.1.2.2.1 y.2.1.2.2.2.1 y.2.2.1) script_lexer_number_2_pk) [(0, (cAt (bodyOf Tryz.f119) [true, true, true, true, false, true, false, false]))] from ⟨script_lexer_number_2_lp0 N, trivial⟩) x y).trans (script_lexer_number_2_core N x y)).trans h)
def script_lexer_text_2_L0T (_N : Nat) (y0_0 : Str) (w1 : List (Int × Str × Int × Int)) (k0 : Int → Option (Str × Bool × Str × Int × List (Int × Str × Int × Int))) (self : Int → (List UInt8) → Option (Str × Bool × Str × Int × List (Int × Str × Int × Int))) (b0_1 : Int) (w1004 : List UInt8) : Option (Str × Bool × Str × Int × List (Int × Str × Int × Int)) :=
  br (decide (b0_1 < (y0_0.length : Int)))
    (bnd (geti y0_0 b0_1) fun t24 =>
    br (t24 == (34 : UInt8))
      (some (w1004, (true, (y0_0, (IntKind.i64.wrap (b0_1 + (1 : Int)), w1)))))
      (br (t24 == (92 : UInt8))
        (br ((IntKind.i64.wrap (b0_1 + (1 : Int))) == (y0_0.length : Int))
          (some (([] : Str), (false, (y0_0, (IntKind.i64.wrap (b0_1 + (1 : Int)), w1)))))
          (bnd (geti y0_0 (IntKind.i64.wrap (b0_1 + (1 : Int)))) fun t62 =>
          br (t62 == (34 : UInt8))
            (br (t62 == (34 : UInt8))
              (bnd (geti y0_0 (IntKind.i64.wrap (b0_1 + (1 : Int)))) fun t75 =>
              br (decide ((w1004.length + [t75].length) * (24 * Ty.sz .u8) ≤ 140737488355328))
                (self (IntKind.i64.wrap ((IntKind.i64.wrap (b0_1 + (1 : Int))) + (1 : Int))) (w1004 ++ [t75]))
                none)
              (br (t62 == (110 : UInt8))
                (br (decide ((w1004.length + [(10 : UInt8)].length) * (24 * Ty.sz .u8) ≤ 140737488355328))
                  (self (IntKind.i64.wrap ((IntKind.i64.wrap (b0_1 + (1 : Int))) + (1 : Int))) (w1004 ++ [(10 : UInt8)]))
                  none)
                (some (([] : Str), (false, (y0_0, (IntKind.i64.wrap (b0_1 + (1 : Int)), w1)))))))
            (br (t62 == (92 : UInt8))
              (bnd (geti y0_0 (IntKind.i64.wrap (b0_1 + (1 : Int)))) fun t75_1 =>
              br (decide ((w1004.length + [t75_1].length) * (24 * Ty.sz .u8) ≤ 140737488355328))
                (self (IntKind.i64.wrap ((IntKind.i64.wrap (b0_1 + (1 : Int))) + (1 : Int))) (w1004 ++ [t75_1]))
                none)
              (br (t62 == (110 : UInt8))
                (br (decide ((w1004.length + [(10 : UInt8)].length) * (24 * Ty.sz .u8) ≤ 140737488355328))
                  (self (IntKind.i64.wrap ((IntKind.i64.wrap (b0_1 + (1 : Int))) + (1 : Int))) (w1004 ++ [(10 : UInt8)]))
                  none)
                (some (([] : Str), (false, (y0_0, (IntKind.i64.wrap (b0_1 + (1 : Int)), w1)))))))))
        (br (decide (t24 < (32 : UInt8)))
          (some (([] : Str), (false, (y0_0, (IntKind.i64.wrap (b0_1 + (1 : Int)), w1)))))
          (br (decide (t24 > (126 : UInt8)))
            (some (([] : Str), (false, (y0_0, (IntKind.i64.wrap (b0_1 + (1 : Int)), w1)))))
            (br (decide ((w1004.length + [t24].length) * (24 * Ty.sz .u8) ≤ 140737488355328))
              (self (IntKind.i64.wrap (b0_1 + (1 : Int))) (w1004 ++ [t24]))
              none)))))
    (k0 b0_1)
def script_lexer_text_2_L0 (N : Nat) (y0_0 : Str) (w1 : List (Int × Str × Int × Int)) (k0 : Int → Option (Str × Bool × Str × Int × List (Int × Str × Int × Int))) : Nat → Int → (List UInt8) → Option (Str × Bool × Str × Int × List (Int × Str × Int × Int))
  | 0, _, _ => none
  | n + 1, b0_1, w1004 => script_lexer_text_2_L0T N y0_0 w1 k0 (script_lexer_text_2_L0 N y0_0 w1 k0 n) b0_1 w1004
def script_lexer_text_2 (N : Nat) (y0_0 : Str) (y0_1 : Int) (w1 : List (Int × Str × Int × Int)) : Option (Str × Bool × Str × Int × List (Int × Str × Int × Int)) :=
  script_lexer_text_2_L0 N y0_0 w1 (fun o0_0_1 =>
      some (([] : Str), (false, (y0_0, (o0_0_1, w1))))) N y0_1 ([] : List UInt8)
abbrev script_lexer_text_2_sg (f : SV [.box 0 0] → BV [.cells [.v .str, .v (.int .i64), .row 1], .row 64 (.pr (.int .i64) (.pr .str (.pr (.int .i64) (.int .i64)))) false] → Option (Str × Bool × Str × Int × List (Int × Str × Int × Int))) : AF := { ps := [.box 0 0], bs := [.cells [.v .str, .v (.int .i64), .row 1], .row 64 (.pr (.int .i64) (.pr .str (.pr (.int .i64) (.int .i64)))) false], rs := [.v .str, .v .bool], cs := [.cells [.v .str, .v (.int .i64), .row 1], .row 64 (.pr (.int .i64) (.pr .str (.pr (.int .i64) (.int .i64)))) false], R := Str × Bool × Str × Int × List (Int × Str × Int × Int), out := fun z => ((z.1, z.2.1, ()), ((z.2.2.1, z.2.2.2.1, (), ()), z.2.2.2.2, ())), f := f }
abbrev script_lexer_text_2_pk : SV [.v .str, .v .bool] → BV [.cells [.v .str, .v (.int .i64), .row 1], .row 64 (.pr (.int .i64) (.pr .str (.pr (.int .i64) (.int .i64)))) false] → (Str × Bool × Str × Int × List (Int × Str × Int × Int)) := fun x y => (x.1, x.2.1, y.1.1, y.1.2.1, y.2.1)
def script_lexer_text_2_fn (_N : Nat) : FuncId → Option Tmp → Option AF := fun f _ =>
  match f with
    | _ => none
theorem script_lexer_text_2_fn_ok (N : Nat) : ∀ f q F, script_lexer_text_2_fn N f q = some F → Sound Tryz.prog GW B0G f F := by
  intro f q F h
  unfold script_lexer_text_2_fn at h
  split at h
  · cases h
def script_lexer_text_2_h : Nat → Hint := fun i =>
  match i with
  | 0 => ⟨[], [0, 4], [0, 1, 1004], [], [0, 1], []⟩
  | 100015 => ⟨[0, 1], [1], [], [], [], []⟩
  | _ => ⟨[], [], [], [], [], []⟩
abbrev script_lexer_text_2_E (N : Nat) : Env := mkE script_lexer_text_2_h (script_lexer_text_2_fn N) (fun _ => false) (fun _ => false)
abbrev script_lexer_text_2_L0_fs : List (Nat × Sl) := [(0, .box 0 0), (4, .row 1004)]
abbrev script_lexer_text_2_L0_bs : List (Nat × Sb) := [(0, .cells [.v .str, .v (.int .i64), .row 1]), (1, .row 64 (.pr (.int .i64) (.pr .str (.pr (.int .i64) (.int .i64)))) false), (1004, .row 5 .u8 false)]
def script_lexer_text_2_L0_hd (y0_0 : Str) (w1 : List (Int × Str × Int × Int)) (b0_1 : Int) (w1004 : List UInt8) : St := ⟨97, [(0, .box 0 0), (4, .row 1004)], [(0, .cells [.v .str y0_0, .v (.int .i64) b0_1, .row 1]), (1, .row 64 (.pr (.int .i64) (.pr .str (.pr (.int .i64) (.int .i64)))) false w1), (1004, .row 5 .u8 false w1004)]⟩
def script_lexer_text_2_L0_tl0 (y0_0 : Str) (w1 : List (Int × Str × Int × Int)) (o0_0_1 : Int) : St := ⟨97, [], [(0, .cells [.v .str y0_0, .v (.int .i64) o0_0_1, .row 1]), (1, .row 64 (.pr (.int .i64) (.pr .str (.pr (.int .i64) (.int .i64)))) false w1)]⟩
def script_lexer_text_2_L0_G (N : Nat) (y0_0 : Str) (w1 : List (Int × Str × Int × Int)) (b0_1 : Int) (w1004 : List UInt8) (k : Ex → St → Option (Str × Bool × Str × Int × List (Int × Str × Int × Int))) : Option (Str × Bool × Str × Int × List (Int × Str × Int × Int)) :=
  script_lexer_text_2_L0 N y0_0 w1 (fun o0_0_1 => k (.exit 0) (script_lexer_text_2_L0_tl0 y0_0 w1 o0_0_1)) N b0_1 w1004
abbrev script_lexer_text_2_L0_F (N : Nat) : FV script_lexer_text_2_L0_fs → HV script_lexer_text_2_L0_bs → (Ex → St → Option (Str × Bool × Str × Int × List (Int × Str × Int × Int))) → Option (Str × Bool × Str × Int × List (Int × Str × Int × Int)) := fun _ y k => script_lexer_text_2_L0_G N y.1.1 y.2.1 y.1.2.1 y.2.2.1 k
noncomputable def script_lexer_text_2_LP (N : Nat) : Nat → Code → St → (Ex → St → Option (Str × Bool × Str × Int × List (Int × Str × Int × Int))) → Option (Str × Bool × Str × Int × List (Int × Str × Int × Int)) := fun i c =>
  match i with
  | 0 => (LPc 97 script_lexer_text_2_L0_fs script_lexer_text_2_L0_bs (script_lexer_text_2_L0_F N) (fun st k => iter (script_lexer_text_2_h 0) (exec (script_lexer_text_2_E N) N c 0) N st k))
  | i => fun st k => iter (script_lexer_text_2_h i) (exec (script_lexer_text_2_E N) N c i) N st k
theorem script_lexer_text_2_L0_step (N : Nat) (y0_0 : Str) (w1 : List (Int × Str × Int × Int)) (KX : Nat → St → Option (Str × Bool × Str × Int × List (Int × Str × Int × Int))) (I : St → Option (Str × Bool × Str × Int × List (Int × Str × Int × Int))) (b0_1 : Int) (w1004 : List UInt8) :
    execL (script_lexer_text_2_LP N) (script_lexer_text_2_E N) (cAt (bodyOf Tryz.f120) [true, true, false, false, false]) 0 (script_lexer_text_2_L0_hd y0_0 w1 b0_1 w1004) (roundK (script_lexer_text_2_h 0) I KX (resD (script_lexer_text_2_E N) Tryz.f120 (script_lexer_text_2_sg fun _ y => script_lexer_text_2 N y.1.1 y.1.2.1 y.2.1) script_lexer_text_2_pk)) = script_lexer_text_2_L0T N y0_0 w1 (fun o0_0_1 => KX 0 (script_lexer_text_2_L0_tl0 y0_0 w1 o0_0_1)) (fun b0_1 w1004 => I (script_lexer_text_2_L0_hd y0_0 w1 b0_1 w1004)) b0_1 w1004 := by kernel_rfl
theorem script_lexer_text_2_L0_ok (N : Nat) : ∀ x y k, (∀ st, k .ret st = (resD (script_lexer_text_2_E N) Tryz.f120 (script_lexer_text_2_sg fun _ y => script_lexer_text_2 N y.1.1 y.1.2.1 y.2.1) script_lexer_text_2_pk) st) → iter (script_lexer_text_2_h 0) (exec (script_lexer_text_2_E N) N (cAt (bodyOf Tryz.f120) [true, true, false, false, false]) 0) N ⟨97, unF script_lexer_text_2_L0_fs x, unH script_lexer_text_2_L0_bs y⟩ k = script_lexer_text_2_L0_F N x y k := fun _ y k hk =>
  iter_link (S := (Int) × (List UInt8) × Unit) (script_lexer_text_2_h 0) _ (execL (script_lexer_text_2_LP N) (script_lexer_text_2_E N) (cAt (bodyOf Tryz.f120) [true, true, false, false, false]) 0) (resD (script_lexer_text_2_E N) Tryz.f120 (script_lexer_text_2_sg fun _ y => script_lexer_text_2 N y.1.1 y.1.2.1 y.2.1) script_lexer_text_2_pk) (fun st k hk => execL_eq _ _ N _ (cAt (bodyOf Tryz.f120) [true, true, false, false, false]) 0 (show LoopsOk (script_lexer_text_2_LP N) (script_lexer_text_2_E N) N (resD (script_lexer_text_2_E N) Tryz.f120 (script_lexer_text_2_sg fun _ y => script_lexer_text_2 N y.1.1 y.1.2.1 y.2.1) script_lexer_text_2_pk) [] from trivial) st k hk) (fun s => script_lexer_text_2_L0_hd y.1.1 y.2.1 s.1 s.2.1) k hk
    (fun self s => script_lexer_text_2_L0T N y.1.1 y.2.1 (fun o0_0_1 => k (.exit 0) (script_lexer_text_2_L0_tl0 y.1.1 y.2.1 o0_0_1)) (fun b0_1 w1004 => self (b0_1, w1004, ())) s.1 s.2.1) (fun n s => script_lexer_text_2_L0 N y.1.1 y.2.1 (fun o0_0_1 => k (.exit 0) (script_lexer_text_2_L0_tl0 y.1.1 y.2.1 o0_0_1)) n s.1 s.2.1) (fun _ => rfl) (fun _ _ => rfl)
    (fun I s => script_lexer_text_2_L0_step N y.1.1 y.2.1 (fun j => k (.exit j)) I s.1 s.2.1) N (y.1.2.1, y.2.2.1, ())
theorem script_lexer_text_2_lp0 (N : Nat) : ∀ st k, (∀ st, k .ret st = (resD (script_lexer_text_2_E N) Tryz.f120 (script_lexer_text_2_sg fun _ y => script_lexer_text_2 N y.1.1 y.1.2.1 y.2.1) script_lexer_text_2_pk) st) → script_lexer_text_2_LP N 0 (cAt (bodyOf Tryz.f120) [true, true, false, false, false]) st k = iter (Env.hint (script_lexer_text_2_E N) 0) (exec (script_lexer_text_2_E N) N (cAt (bodyOf Tryz.f120) [true, true, false, false, false]) 0) N st k := fun st k hk => LPc_eq 97 script_lexer_text_2_L0_fs script_lexer_text_2_L0_bs _ _ (resD (script_lexer_text_2_E N) Tryz.f120 (script_lexer_text_2_sg fun _ y => script_lexer_text_2 N y.1.1 y.1.2.1 y.2.1) script_lexer_text_2_pk) (script_lexer_text_2_L0_ok N) _ st k hk (rfl)
theorem script_lexer_text_2_core (N : Nat) (x : SV [.box 0 0]) (y : BV [.cells [.v .str, .v (.int .i64), .row 1], .row 64 (.pr (.int .i64) (.pr .str (.pr (.int .i64) (.int .i64)))) false]) : runL (script_lexer_text_2_E N) Tryz.f120 (script_lexer_text_2_sg fun _ y => script_lexer_text_2 N y.1.1 y.1.2.1 y.2.1) script_lexer_text_2_pk (script_lexer_text_2_LP N) x y = script_lexer_text_2 N y.1.1 y.1.2.1 y.2.1 := by kernel_rfl
theorem script_lexer_text_2_sound (N : Nat) : Sound Tryz.prog GW B0G 120 (script_lexer_text_2_sg fun _ y => script_lexer_text_2 N y.1.1 y.1.2.1 y.2.1) :=
  runD_sound (mkE_ok script_lexer_text_2_h (script_lexer_text_2_fn N) _ _ (script_lexer_text_2_fn_ok N)) Tryz.func120 rfl Tryz.call120 (script_lexer_text_2_sg fun _ y => script_lexer_text_2 N y.1.1 y.1.2.1 y.2.1) script_lexer_text_2_pk (fun _ _ => rfl) N (fun x y _ h => ((runL_eq (script_lexer_text_2_E N) N Tryz.f120 (script_lexer_text_2_sg fun _ y => script_lexer_text_2 N y.1.1 y.1.2.1 y.2.1) script_lexer_text_2_pk (script_lexer_text_2_LP N) (show LoopsOk (script_lexer_text_2_LP N) (script_lexer_text_2_E N) N (resD (script_lexer_text_2_E N) Tryz.f120 (script_lexer_text_2_sg fun _ y => script_lexer_text_2 N y.1.1 y.1.2.1 y.2.1) script_lexer_text_2_pk) [(0, (cAt (bodyOf Tryz.f120) [true, true, false, false, false]))] from ⟨script_lexer_text_2_lp0 N, trivial⟩) x y).trans (script_lexer_text_2_core N x y)).trans h)
def script_lexer_one_2 (N : Nat) (y0_0 : Str) (y0_1 : Int) (w1 : List (Int × Str × Int × Int)) : Option ((Int × Str × Int × Int) × Int × Str × Int × List (Int × Str × Int × Int)) :=
  bnd (geti y0_0 y0_1) fun t23 =>
  bnd (script_isSmall N t23) fun t26 =>
  br (t26)
    (bnd (script_lexer_some_3 N () y0_0 y0_1 w1) fun t28 =>
    br (decide ((t28.1.length : Int) > (40 : Int)))
      (some (((1 : Int), (t28.1, ((0 : Int), y0_1))), ((2 : Int), t28.2)))
      (some (((1 : Int), (t28.1, ((0 : Int), y0_1))), ((0 : Int), t28.2))))
    (bnd (script_isDigit N t23) fun t39 =>
    br (t39)
      (bnd (script_lexer_number_2 N y0_0 y0_1 (0 : Int) ([] : Str) (0 : Int) y0_1 w1) fun t41 =>
      some ((t41.2.2.2.1, (t41.2.2.2.2.1, (t41.2.2.2.2.2.1, t41.2.2.2.2.2.2.1))), (t41.1, (t41.2.1, (t41.2.2.1, t41.2.2.2.2.2.2.2)))))
      (br (t23 == (34 : UInt8))
        (bnd (script_lexer_text_2 N y0_0 (IntKind.i64.wrap (y0_1 + (1 : Int))) w1) fun t56 =>
        br (!t56.2.1)
          (some (((0 : Int), (([] : Str), ((0 : Int), y0_1))), ((10 : Int), t56.2.2)))
          (some (((2 : Int), (t56.1, ((0 : Int), y0_1))), ((0 : Int), t56.2.2))))
        (bnd (strings_IndexByte ([61, 43, 40, 41, 91, 93, 123, 125, 44, 58, 59] : Str) t23) fun t68 =>
        br (decide (t68 ≥ (0 : Int)))
          (bnd (slc y0_0 y0_1 (y0_0.length : Int)) fun t78 =>
          bnd (strings_HasPrefix N t78 ([61, 61] : Str)) fun t79 =>
          br (t79)
            (bnd (slc y0_0 y0_1 (IntKind.i64.wrap (y0_1 + (2 : Int)))) fun t94 =>
            some (((4 : Int), (t94, ((0 : Int), y0_1))), ((0 : Int), (y0_0, (IntKind.i64.wrap (y0_1 + (2 : Int)), w1)))))
            (bnd (slc y0_0 y0_1 (IntKind.i64.wrap (y0_1 + (1 : Int)))) fun t94_1 =>
            some (((4 : Int), (t94_1, ((0 : Int), y0_1))), ((0 : Int), (y0_0, (IntKind.i64.wrap (y0_1 + (1 : Int)), w1))))))
          (some (((0 : Int), (([] : Str), ((0 : Int), y0_1))), ((10 : Int), (y0_0, (y0_1, w1))))))))
abbrev script_lexer_one_2_sg (f : SV [.box 0 0] → BV [.cells [.v .str, .v (.int .i64), .row 1], .row 64 (.pr (.int .i64) (.pr .str (.pr (.int .i64) (.int .i64)))) false] → Option ((Int × Str × Int × Int) × Int × Str × Int × List (Int × Str × Int × Int))) : AF := { ps := [.box 0 0], bs := [.cells [.v .str, .v (.int .i64), .row 1], .row 64 (.pr (.int .i64) (.pr .str (.pr (.int .i64) (.int .i64)))) false], rs := [.v (.pr (.int .i64) (.pr .str (.pr (.int .i64) (.int .i64)))), .v (.int .i64)], cs := [.cells [.v .str, .v (.int .i64), .row 1], .row 64 (.pr (.int .i64) (.pr .str (.pr (.int .i64) (.int .i64)))) false], R := (Int × Str × Int × Int) × Int × Str × Int × List (Int × Str × Int × Int), out := fun z => ((z.1, z.2.1, ()), ((z.2.2.1, z.2.2.2.1, (), ()), z.2.2.2.2, ())), f := f }
abbrev script_lexer_one_2_pk : SV [.v (.pr (.int .i64) (.pr .str (.pr (.int .i64) (.int .i64)))), .v (.int .i64)] → BV [.cells [.v .str, .v (.int .i64), .row 1], .row 64 (.pr (.int .i64) (.pr .str (.pr (.int .i64) (.int .i64)))) false] → ((Int × Str × Int × Int) × Int × Str × Int × List (Int × Str × Int × Int)) := fun x y => (x.1, x.2.1, y.1.1, y.1.2.1, y.2.1)
def script_lexer_one_2_fn (N : Nat) : FuncId → Option Tmp → Option AF := fun f _ =>
  match f with
    | 96 => some (script_isSmall_sg fun x _ => script_isSmall N x.1)
    | 97 => some (script_isDigit_sg fun x _ => script_isDigit N x.1)
    | 116 => some (strings_IndexByte_sg fun x _ => strings_IndexByte x.1 x.2.1)
    | 117 => some (script_lexer_some_3_sg fun x y => script_lexer_some_3 N x.2.1 y.1.1 y.1.2.1 y.2.1)
    | 119 => some (script_lexer_number_2_sg fun _ y => script_lexer_number_2 N y.1.1 y.1.2.1 y.2.1.1 y.2.1.2.1 y.2.1.2.2.1 y.2.1.2.2.2.1 y.2.2.1)
    | 120 => some (script_lexer_text_2_sg fun _ y => script_lexer_text_2 N y.1.1 y.1.2.1 y.2.1)
    | 121 => some (strings_HasPrefix_sg fun x _ => strings_HasPrefix N x.1 x.2.1)
    | _ => none
theorem script_lexer_one_2_fn_ok (N : Nat) : ∀ f q F, script_lexer_one_2_fn N f q = some F → Sound Tryz.prog GW B0G f F := by
  intro f q F h
  unfold script_lexer_one_2_fn at h
  split at h
  · cases h; exact script_isSmall_sound N
  · cases h; exact script_isDigit_sound N
  · cases h; exact strings_IndexByte_sound
  · cases h; exact script_lexer_some_3_sound N
  · cases h; exact script_lexer_number_2_sound N
  · cases h; exact script_lexer_text_2_sound N
  · cases h; exact strings_HasPrefix_sound N
  · cases h
def script_lexer_one_2_h : Nat → Hint := fun i =>
  match i with
  | 100020 => ⟨[0, 1], [1], [], [], [], []⟩
  | 100022 => ⟨[0, 1], [1], [], [], [], []⟩
  | _ => ⟨[], [], [], [], [], []⟩
abbrev script_lexer_one_2_E (N : Nat) : Env := mkE script_lexer_one_2_h (script_lexer_one_2_fn N) (fun _ => false) (fun _ => false)
noncomputable def script_lexer_one_2_LP (N : Nat) : Nat → Code → St → (Ex → St → Option ((Int × Str × Int × Int) × Int × Str × Int × List (Int × Str × Int × Int))) → Option ((Int × Str × Int × Int) × Int × Str × Int × List (Int × Str × Int × Int)) := fun i c =>
  match i with
  | i => fun st k => iter (script_lexer_one_2_h i) (exec (script_lexer_one_2_E N) N c i) N st k
theorem script_lexer_one_2_core (N : Nat) (x : SV [.box 0 0]) (y : BV [.cells [.v .str, .v (.int .i64), .row 1], .row 64 (.pr (.int .i64) (.pr .str (.pr (.int .i64) (.int .i64)))) false]) : runL (script_lexer_one_2_E N) Tryz.f75 (script_lexer_one_2_sg fun _ y => script_lexer_one_2 N y.1.1 y.1.2.1 y.2.1) script_lexer_one_2_pk (script_lexer_one_2_LP N) x y = script_lexer_one_2 N y.1.1 y.1.2.1 y.2.1 := by kernel_rfl
theorem script_lexer_one_2_sound (N : Nat) : Sound Tryz.prog GW B0G 75 (script_lexer_one_2_sg fun _ y => script_lexer_one_2 N y.1.1 y.1.2.1 y.2.1) :=
  runD_sound (mkE_ok script_lexer_one_2_h (script_lexer_one_2_fn N) _ _ (script_lexer_one_2_fn_ok N)) Tryz.func75 rfl Tryz.call75 (script_lexer_one_2_sg fun _ y => script_lexer_one_2 N y.1.1 y.1.2.1 y.2.1) script_lexer_one_2_pk (fun _ _ => rfl) N (fun x y _ h => ((runL_eq (script_lexer_one_2_E N) N Tryz.f75 (script_lexer_one_2_sg fun _ y => script_lexer_one_2 N y.1.1 y.1.2.1 y.2.1) script_lexer_one_2_pk (script_lexer_one_2_LP N) (show LoopsOk (script_lexer_one_2_LP N) (script_lexer_one_2_E N) N (resD (script_lexer_one_2_E N) Tryz.f75 (script_lexer_one_2_sg fun _ y => script_lexer_one_2 N y.1.1 y.1.2.1 y.2.1) script_lexer_one_2_pk) [] from trivial) x y).trans (script_lexer_one_2_core N x y)).trans h)
def script_Tokens_L0T (N : Nat) (x0 : Str) (self : Str → Int → (List (Int × Str × Int × Int)) → Option (List (Int × Str × Int × Int) × Int × Int)) (b1013_0 : Str) (b1013_1 : Int) (w900001 : List (Int × Str × Int × Int)) : Option (List (Int × Str × Int × Int) × Int × Int) :=
  bnd (script_lexer_blanks_2 N b1013_0 b1013_1 w900001) fun t15 =>
  br (t15.2.1 == (x0.length : Int))
    (some (t15.2.2, ((0 : Int), (0 : Int))))
    (br ((t15.2.2.length : Int) == (50000 : Int))
      (some (([] : List (Int × Str × Int × Int)), (t15.2.1, (2 : Int))))
      (bnd (script_lexer_one_2 N t15.1 t15.2.1 t15.2.2) fun t39 =>
      br (t39.2.1 != (0 : Int))
        (some (([] : List (Int × Str × Int × Int)), (t39.1.2.2.2, t39.2.1)))
        (times 2
          (br (decide ((t39.2.2.2.2.length + [t39.1].length) * (24 * Ty.sz (.pr (.int .i64) (.pr .str (.pr (.int .i64) (.int .i64))))) ≤ 140737488355328))
            (self t39.2.2.1 t39.2.2.2.1 (t39.2.2.2.2 ++ [t39.1]))
            none))))
def script_Tokens_L0 (N : Nat) (x0 : Str) : Nat → Str → Int → (List (Int × Str × Int × Int)) → Option (List (Int × Str × Int × Int) × Int × Int)
  | 0, _, _, _ => none
  | n + 1, b1013_0, b1013_1, w900001 => script_Tokens_L0T N x0 (script_Tokens_L0 N x0 n) b1013_0 b1013_1 w900001
def script_Tokens (N : Nat) (x0 : Str) : Option (List (Int × Str × Int × Int) × Int × Int) :=
  br (decide ((x0.length : Int) > (50000 : Int)))
    (some (([] : List (Int × Str × Int × Int)), ((0 : Int), (2 : Int))))
    (script_Tokens_L0 N x0 N x0 (0 : Int) ([] : List (Int × Str × Int × Int)))
abbrev script_Tokens_sg (f : SV [.v .str] → BV [] → Option (List (Int × Str × Int × Int) × Int × Int)) : AF := { ps := [.v .str], bs := [], rs := [.v (.sl (.pr (.int .i64) (.pr .str (.pr (.int .i64) (.int .i64))))), .v (.int .i64), .v (.int .i64)], cs := [], R := List (Int × Str × Int × Int) × Int × Int, out := fun z => ((z.1, z.2.1, z.2.2, ()), ()), f := f }
abbrev script_Tokens_pk : SV [.v (.sl (.pr (.int .i64) (.pr .str (.pr (.int .i64) (.int .i64))))), .v (.int .i64), .v (.int .i64)] → BV [] → (List (Int × Str × Int × Int) × Int × Int) := fun x _ => (x.1, x.2.1, x.2.2.1)
def script_Tokens_fn (N : Nat) : FuncId → Option Tmp → Option AF := fun f _ =>
  match f with
    | 74 => some (script_lexer_blanks_2_sg fun _ y => script_lexer_blanks_2 N y.1.1 y.1.2.1 y.2.1)
    | 75 => some (script_lexer_one_2_sg fun _ y => script_lexer_one_2 N y.1.1 y.1.2.1 y.2.1)
    | _ => none
theorem script_Tokens_fn_ok (N : Nat) : ∀ f q F, script_Tokens_fn N f q = some F → Sound Tryz.prog GW B0G f F := by
  intro f q F h
  unfold script_Tokens_fn at h
  split at h
  · cases h; exact script_lexer_blanks_2_sound N
  · cases h; exact script_lexer_one_2_sound N
  · cases h
def script_Tokens_h : Nat → Hint := fun i =>
  match i with
  | 0 => ⟨[], [0, 5], [1013, 900001], [], [], [(1013, 2, 900001, 64, (.pr (.int .i64) (.pr .str (.pr (.int .i64) (.int .i64)))))]⟩
  | 100008 => ⟨[1013, 900001], [1], [], [], [], []⟩
  | 100011 => ⟨[1006], [1], [], [], [], []⟩
  | 100012 => ⟨[], [1, 2], [], [], [], []⟩
  | _ => ⟨[], [], [], [], [], []⟩
abbrev script_Tokens_E (N : Nat) : Env := mkE script_Tokens_h (script_Tokens_fn N) (fun _ => false) (fun _ => false)
abbrev script_Tokens_L0_fs : List (Nat × Sl) := [(0, .v .str), (5, .box 1013 0)]
abbrev script_Tokens_L0_bs : List (Nat × Sb) := [(1013, .cells [.v .str, .v (.int .i64), .row 900001]), (900001, .row 64 (.pr (.int .i64) (.pr .str (.pr (.int .i64) (.int .i64)))) false)]
def script_Tokens_L0_hd (x0 : Str) (b1013_0 : Str) (b1013_1 : Int) (w900001 : List (Int × Str × Int × Int)) : St := ⟨57, [(0, .v .str x0), (5, .box 1013 0)], [(1013, .cells [.v .str b1013_0, .v (.int .i64) b1013_1, .row 900001]), (900001, .row 64 (.pr (.int .i64) (.pr .str (.pr (.int .i64) (.int .i64)))) false w900001)]⟩
def script_Tokens_L0_G (N : Nat) (x0 : Str) (b1013_0 : Str) (b1013_1 : Int) (w900001 : List (Int × Str × Int × Int)) (_k : Ex → St → Option (List (Int × Str × Int × Int) × Int × Int)) : Option (List (Int × Str × Int × Int) × Int × Int) :=
  script_Tokens_L0 N x0 N b1013_0 b1013_1 w900001
abbrev script_Tokens_L0_F (N : Nat) : FV script_Tokens_L0_fs → HV script_Tokens_L0_bs → (Ex → St → Option (List (Int × Str × Int × Int) × Int × Int)) → Option (List (Int × Str × Int × Int) × Int × Int) := fun x y k => script_Tokens_L0_G N x.1 y.1.1 y.1.2.1 y.2.1 k
noncomputable def script_Tokens_LP (N : Nat) : Nat → Code → St → (Ex → St → Option (List (Int × Str × Int × Int) × Int × Int)) → Option (List (Int × Str × Int × Int) × Int × Int) := fun i c =>
  match i with
  | 0 => (LPc 57 script_Tokens_L0_fs script_Tokens_L0_bs (script_Tokens_L0_F N) (fun st k => iter (script_Tokens_h 0) (exec (script_Tokens_E N) N c 0) N st k))
  | i => fun st k => iter (script_Tokens_h i) (exec (script_Tokens_E N) N c i) N st k
theorem script_Tokens_L0_step (N : Nat) (x0 : Str) (KX : Nat → St → Option (List (Int × Str × Int × Int) × Int × Int)) (I : St → Option (List (Int × Str × Int × Int) × Int × Int)) (b1013_0 : Str) (b1013_1 : Int) (w900001 : List (Int × Str × Int × Int)) :
    execL (script_Tokens_LP N) (script_Tokens_E N) (cAt (bodyOf Tryz.f31) [true, true, true, false, false]) 0 (script_Tokens_L0_hd x0 b1013_0 b1013_1 w900001) (roundK (script_Tokens_h 0) I KX (resD (script_Tokens_E N) Tryz.f31 (script_Tokens_sg fun x _ => script_Tokens N x.1) script_Tokens_pk)) = script_Tokens_L0T N x0 (fun b1013_0 b1013_1 w900001 => I (script_Tokens_L0_hd x0 b1013_0 b1013_1 w900001)) b1013_0 b1013_1 w900001 := by kernel_rfl
theorem script_Tokens_L0_ok (N : Nat) : ∀ x y k, (∀ st, k .ret st = (resD (script_Tokens_E N) Tryz.f31 (script_Tokens_sg fun x _ => script_Tokens N x.1) script_Tokens_pk) st) → iter (script_Tokens_h 0) (exec (script_Tokens_E N) N (cAt (bodyOf Tryz.f31) [true, true, true, false, false]) 0) N ⟨57, unF script_Tokens_L0_fs x, unH script_Tokens_L0_bs y⟩ k = script_Tokens_L0_F N x y k := fun x y k hk =>
  iter_link (S := (Str) × (Int) × (List (Int × Str × Int × Int)) × Unit) (script_Tokens_h 0) _ (execL (script_Tokens_LP N) (script_Tokens_E N) (cAt (bodyOf Tryz.f31) [true, true, true, false, false]) 0) (resD (script_Tokens_E N) Tryz.f31 (script_Tokens_sg fun x _ => script_Tokens N x.1) script_Tokens_pk) (fun st k hk => execL_eq _ _ N _ (cAt (bodyOf Tryz.f31) [true, true, true, false, false]) 0 (show LoopsOk (script_Tokens_LP N) (script_Tokens_E N) N (resD (script_Tokens_E N) Tryz.f31 (script_Tokens_sg fun x _ => script_Tokens N x.1) script_Tokens_pk) [] from trivial) st k hk) (fun s => script_Tokens_L0_hd x.1 s.1 s.2.1 s.2.2.1) k hk
    (fun self s => script_Tokens_L0T N x.1 (fun b1013_0 b1013_1 w900001 => self (b1013_0, b1013_1, w900001, ())) s.1 s.2.1 s.2.2.1) (fun n s => script_Tokens_L0 N x.1 n s.1 s.2.1 s.2.2.1) (fun _ => rfl) (fun _ _ => rfl)
    (fun I s => script_Tokens_L0_step N x.1 (fun j => k (.exit j)) I s.1 s.2.1 s.2.2.1) N (y.1.1, y.1.2.1, y.2.1, ())
theorem script_Tokens_lp0 (N : Nat) : ∀ st k, (∀ st, k .ret st = (resD (script_Tokens_E N) Tryz.f31 (script_Tokens_sg fun x _ => script_Tokens N x.1) script_Tokens_pk) st) → script_Tokens_LP N 0 (cAt (bodyOf Tryz.f31) [true, true, true, false, false]) st k = iter (Env.hint (script_Tokens_E N) 0) (exec (script_Tokens_E N) N (cAt (bodyOf Tryz.f31) [true, true, true, false, false]) 0) N st k := fun st k hk => LPc_eq 57 script_Tokens_L0_fs script_Tokens_L0_bs _ _ (resD (script_Tokens_E N) Tryz.f31 (script_Tokens_sg fun x _ => script_Tokens N x.1) script_Tokens_pk) (script_Tokens_L0_ok N) _ st k hk (rfl)
theorem script_Tokens_core (N : Nat) (x : SV [.v .str]) (y : BV []) : runL (script_Tokens_E N) Tryz.f31 (script_Tokens_sg fun x _ => script_Tokens N x.1) script_Tokens_pk (script_Tokens_LP N) x y = script_Tokens N x.1 := by kernel_rfl
theorem script_Tokens_sound (N : Nat) : Sound Tryz.prog GW B0G 31 (script_Tokens_sg fun x _ => script_Tokens N x.1) :=
  runD_sound (mkE_ok script_Tokens_h (script_Tokens_fn N) _ _ (script_Tokens_fn_ok N)) Tryz.func31 rfl Tryz.call31 (script_Tokens_sg fun x _ => script_Tokens N x.1) script_Tokens_pk (fun _ _ => rfl) N (fun x y _ h => ((runL_eq (script_Tokens_E N) N Tryz.f31 (script_Tokens_sg fun x _ => script_Tokens N x.1) script_Tokens_pk (script_Tokens_LP N) (show LoopsOk (script_Tokens_LP N) (script_Tokens_E N) N (resD (script_Tokens_E N) Tryz.f31 (script_Tokens_sg fun x _ => script_Tokens N x.1) script_Tokens_pk) [(0, (cAt (bodyOf Tryz.f31) [true, true, true, false, false]))] from ⟨script_Tokens_lp0 N, trivial⟩) x y).trans (script_Tokens_core N x y)).trans h)
def ref2_skip_L0T (_N : Nat) (x0 : Str) (k0 : Int → Option Int) (self : Int → Option Int) (s1 : Int) : Option Int :=
  br (decide (s1 < (x0.length : Int)))
    (bnd (geti x0 s1) fun t14 =>
    br (t14 == (35 : UInt8))
      (bnd (slc x0 s1 (x0.length : Int)) fun t18 =>
      bnd (strings_IndexByte t18 (10 : UInt8)) fun t19 =>
      br (decide (t19 < (0 : Int)))
        (some (x0.length : Int))
        (self (IntKind.i64.wrap (s1 + t19))))
      (bnd (geti x0 s1) fun t30 =>
      bnd (strings_IndexByte ([32, 9, 10, 13] : Str) t30) fun t31 =>
      br (decide (t31 ≥ (0 : Int)))
        (self (IntKind.i64.wrap (s1 + (1 : Int))))
        (some s1)))
    (k0 s1)
def ref2_skip_L0 (N : Nat) (x0 : Str) (k0 : Int → Option Int) : Nat → Int → Option Int
  | 0, _ => none
  | n + 1, s1 => ref2_skip_L0T N x0 k0 (ref2_skip_L0 N x0 k0 n) s1
def ref2_skip (N : Nat) (x0 : Str) (x1 : Int) : Option Int :=
  ref2_skip_L0 N x0 (fun o0_1 =>
      some o0_1) N x1
abbrev ref2_skip_sg (f : SV [.v .str, .v (.int .i64)] → BV [] → Option (Int)) : AF := { ps := [.v .str, .v (.int .i64)], bs := [], rs := [.v (.int .i64)], cs := [], R := Int, out := fun z => ((z, ()), ()), f := f }
abbrev ref2_skip_pk : SV [.v (.int .i64)] → BV [] → Int := fun x _ => x.1
def ref2_skip_fn (_N : Nat) : FuncId → Option Tmp → Option AF := fun f _ =>
  match f with
    | 116 => some (strings_IndexByte_sg fun x _ => strings_IndexByte x.1 x.2.1)
    | _ => none
theorem ref2_skip_fn_ok (N : Nat) : ∀ f q F, ref2_skip_fn N f q = some F → Sound Tryz.prog GW B0G f F := by
  intro f q F h
  unfold ref2_skip_fn at h
  split at h
  · cases h; exact strings_IndexByte_sound
  · cases h
def ref2_skip_h : Nat → Hint := fun i =>
  match i with
  | 0 => ⟨[], [0, 1], [], [1], [], []⟩
  | _ => ⟨[], [], [], [], [], []⟩
abbrev ref2_skip_E (N : Nat) : Env := mkE ref2_skip_h (ref2_skip_fn N) (fun _ => false) (fun _ => false)
abbrev ref2_skip_L0_fs : List (Nat × Sl) := [(0, .v .str), (1, .v (.int .i64))]
abbrev ref2_skip_L0_bs : List (Nat × Sb) := []
def ref2_skip_L0_hd (x0 : Str) (s1 : Int) : St := ⟨36, [(0, .v .str x0), (1, .v (.int .i64) s1)], []⟩
def ref2_skip_L0_tl0 (_x0 : Str) (o0_1 : Int) : St := ⟨36, [(1, .v (.int .i64) o0_1)], []⟩
def ref2_skip_L0_G (N : Nat) (x0 : Str) (s1 : Int) (k : Ex → St → Option Int) : Option Int :=
  ref2_skip_L0 N x0 (fun o0_1 => k (.exit 0) (ref2_skip_L0_tl0 x0 o0_1)) N s1
abbrev ref2_skip_L0_F (N : Nat) : FV ref2_skip_L0_fs → HV ref2_skip_L0_bs → (Ex → St → Option Int) → Option Int := fun x _ k => ref2_skip_L0_G N x.1 x.2.1 k
noncomputable def ref2_skip_LP (N : Nat) : Nat → Code → St → (Ex → St → Option Int) → Option Int := fun i c =>
  match i with
  | 0 => (LPc 36 ref2_skip_L0_fs ref2_skip_L0_bs (ref2_skip_L0_F N) (fun st k => iter (ref2_skip_h 0) (exec (ref2_skip_E N) N c 0) N st k))
  | i => fun st k => iter (ref2_skip_h i) (exec (ref2_skip_E N) N c i) N st k
theorem ref2_skip_L0_step (N : Nat) (x0 : Str) (KX : Nat → St → Option Int) (I : St → Option Int) (s1 : Int) :
    execL (ref2_skip_LP N) (ref2_skip_E N) (cAt (bodyOf Tryz.f76) [true, false, false, false]) 0 (ref2_skip_L0_hd x0 s1) (roundK (ref2_skip_h 0) I KX (resD (ref2_skip_E N) Tryz.f76 (ref2_skip_sg fun x _ => ref2_skip N x.1 x.2.1) ref2_skip_pk)) = ref2_skip_L0T N x0 (fun o0_1 => KX 0 (ref2_skip_L0_tl0 x0 o0_1)) (fun s1 => I (ref2_skip_L0_hd x0 s1)) s1 := by kernel_rfl
theorem ref2_skip_L0_ok (N : Nat) : ∀ x y k, (∀ st, k .ret st = (resD (ref2_skip_E N) Tryz.f76 (ref2_skip_sg fun x _ => ref2_skip N x.1 x.2.1) ref2_skip_pk) st) → iter (ref2_skip_h 0) (exec (ref2_skip_E N) N (cAt (bodyOf Tryz.f76) [true, false, false, false]) 0) N ⟨36, unF ref2_skip_L0_fs x, unH ref2_skip_L0_bs y⟩ k = ref2_skip_L0_F N x y k := fun x _ k hk =>
  iter_link (S := (Int) × Unit) (ref2_skip_h 0) _ (execL (ref2_skip_LP N) (ref2_skip_E N) (cAt (bodyOf Tryz.f76) [true, false, false, false]) 0) (resD (ref2_skip_E N) Tryz.f76 (ref2_skip_sg fun x _ => ref2_skip N x.1 x.2.1) ref2_skip_pk) (fun st k hk => execL_eq _ _ N _ (cAt (bodyOf Tryz.f76) [true, false, false, false]) 0 (show LoopsOk (ref2_skip_LP N) (ref2_skip_E N) N (resD (ref2_skip_E N) Tryz.f76 (ref2_skip_sg fun x _ => ref2_skip N x.1 x.2.1) ref2_skip_pk) [] from trivial) st k hk) (fun s => ref2_skip_L0_hd x.1 s.1) k hk
    (fun self s => ref2_skip_L0T N x.1 (fun o0_1 => k (.exit 0) (ref2_skip_L0_tl0 x.1 o0_1)) (fun s1 => self (s1, ())) s.1) (fun n s => ref2_skip_L0 N x.1 (fun o0_1 => k (.exit 0) (ref2_skip_L0_tl0 x.1 o0_1)) n s.1) (fun _ => rfl) (fun _ _ => rfl)
    (fun I s => ref2_skip_L0_step N x.1 (fun j => k (.exit j)) I s.1) N (x.2.1, ())
theorem ref2_skip_lp0 (N : Nat) : ∀ st k, (∀ st, k .ret st = (resD (ref2_skip_E N) Tryz.f76 (ref2_skip_sg fun x _ => ref2_skip N x.1 x.2.1) ref2_skip_pk) st) → ref2_skip_LP N 0 (cAt (bodyOf Tryz.f76) [true, false, false, false]) st k = iter (Env.hint (ref2_skip_E N) 0) (exec (ref2_skip_E N) N (cAt (bodyOf Tryz.f76) [true, false, false, false]) 0) N st k := fun st k hk => LPc_eq 36 ref2_skip_L0_fs ref2_skip_L0_bs _ _ (resD (ref2_skip_E N) Tryz.f76 (ref2_skip_sg fun x _ => ref2_skip N x.1 x.2.1) ref2_skip_pk) (ref2_skip_L0_ok N) _ st k hk (rfl)
theorem ref2_skip_core (N : Nat) (x : SV [.v .str, .v (.int .i64)]) (y : BV []) : runL (ref2_skip_E N) Tryz.f76 (ref2_skip_sg fun x _ => ref2_skip N x.1 x.2.1) ref2_skip_pk (ref2_skip_LP N) x y = ref2_skip N x.1 x.2.1 := by kernel_rfl
theorem ref2_skip_sound (N : Nat) : Sound Tryz.prog GW B0G 76 (ref2_skip_sg fun x _ => ref2_skip N x.1 x.2.1) :=
  runD_sound (mkE_ok ref2_skip_h (ref2_skip_fn N) _ _ (ref2_skip_fn_ok N)) Tryz.func76 rfl Tryz.call76 (ref2_skip_sg fun x _ => ref2_skip N x.1 x.2.1) ref2_skip_pk (fun _ _ => rfl) N (fun x y _ h => ((runL_eq (ref2_skip_E N) N Tryz.f76 (ref2_skip_sg fun x _ => ref2_skip N x.1 x.2.1) ref2_skip_pk (ref2_skip_LP N) (show LoopsOk (ref2_skip_LP N) (ref2_skip_E N) N (resD (ref2_skip_E N) Tryz.f76 (ref2_skip_sg fun x _ => ref2_skip N x.1 x.2.1) ref2_skip_pk) [(0, (cAt (bodyOf Tryz.f76) [true, false, false, false]))] from ⟨ref2_skip_lp0 N, trivial⟩) x y).trans (ref2_skip_core N x y)).trans h)
def ref2_isNameByte (_N : Nat) (x0 : UInt8) : Option Bool :=
  br (decide (x0 ≥ (97 : UInt8)))
    (br (decide (x0 ≤ (122 : UInt8)))
      (some true)
      (br (decide (x0 ≥ (48 : UInt8)))
        (br (decide (x0 ≤ (57 : UInt8)))
          (some true)
          (some (x0 == (95 : UInt8))))
        (some (x0 == (95 : UInt8)))))
    (br (decide (x0 ≥ (48 : UInt8)))
      (br (decide (x0 ≤ (57 : UInt8)))
        (some true)
        (some (x0 == (95 : UInt8))))
      (some (x0 == (95 : UInt8))))
abbrev ref2_isNameByte_sg (f : SV [.v .u8] → BV [] → Option (Bool)) : AF := { ps := [.v .u8], bs := [], rs := [.v .bool], cs := [], R := Bool, out := fun z => ((z, ()), ()), f := f }
abbrev ref2_isNameByte_pk : SV [.v .bool] → BV [] → Bool := fun x _ => x.1
def ref2_isNameByte_fn (_N : Nat) : FuncId → Option Tmp → Option AF := fun f _ =>
  match f with
    | _ => none
theorem ref2_isNameByte_fn_ok (N : Nat) : ∀ f q F, ref2_isNameByte_fn N f q = some F → Sound Tryz.prog GW B0G f F := by
  intro f q F h
  unfold ref2_isNameByte_fn at h
  split at h
  · cases h
def ref2_isNameByte_h : Nat → Hint := fun i =>
  match i with
  | _ => ⟨[], [], [], [], [], []⟩
abbrev ref2_isNameByte_E (N : Nat) : Env := mkE ref2_isNameByte_h (ref2_isNameByte_fn N) (fun _ => false) (fun _ => false)
noncomputable def ref2_isNameByte_LP (N : Nat) : Nat → Code → St → (Ex → St → Option Bool) → Option Bool := fun i c =>
  match i with
  | i => fun st k => iter (ref2_isNameByte_h i) (exec (ref2_isNameByte_E N) N c i) N st k
theorem ref2_isNameByte_core (N : Nat) (x : SV [.v .u8]) (y : BV []) : runL (ref2_isNameByte_E N) Tryz.f102 (ref2_isNameByte_sg fun x _ => ref2_isNameByte N x.1) ref2_isNameByte_pk (ref2_isNameByte_LP N) x y = ref2_isNameByte N x.1 := by kernel_rfl
theorem ref2_isNameByte_sound (N : Nat) : Sound Tryz.prog GW B0G 102 (ref2_isNameByte_sg fun x _ => ref2_isNameByte N x.1) :=
  runD_sound (mkE_ok ref2_isNameByte_h (ref2_isNameByte_fn N) _ _ (ref2_isNameByte_fn_ok N)) Tryz.func102 rfl Tryz.call102 (ref2_isNameByte_sg fun x _ => ref2_isNameByte N x.1) ref2_isNameByte_pk (fun _ _ => rfl) N (fun x y _ h => ((runL_eq (ref2_isNameByte_E N) N Tryz.f102 (ref2_isNameByte_sg fun x _ => ref2_isNameByte N x.1) ref2_isNameByte_pk (ref2_isNameByte_LP N) (show LoopsOk (ref2_isNameByte_LP N) (ref2_isNameByte_E N) N (resD (ref2_isNameByte_E N) Tryz.f102 (ref2_isNameByte_sg fun x _ => ref2_isNameByte N x.1) ref2_isNameByte_pk) [] from trivial) x y).trans (ref2_isNameByte_core N x y)).trans h)
def ref2_isDigit (_N : Nat) (x0 : UInt8) : Option Bool :=
  br (decide (x0 ≥ (48 : UInt8)))
    (some (decide (x0 ≤ (57 : UInt8))))
    (some false)
abbrev ref2_isDigit_sg (f : SV [.v .u8] → BV [] → Option (Bool)) : AF := { ps := [.v .u8], bs := [], rs := [.v .bool], cs := [], R := Bool, out := fun z => ((z, ()), ()), f := f }
abbrev ref2_isDigit_pk : SV [.v .bool] → BV [] → Bool := fun x _ => x.1
def ref2_isDigit_fn (_N : Nat) : FuncId → Option Tmp → Option AF := fun f _ =>
  match f with
    | _ => none
theorem ref2_isDigit_fn_ok (N : Nat) : ∀ f q F, ref2_isDigit_fn N f q = some F → Sound Tryz.prog GW B0G f F := by
  intro f q F h
  unfold ref2_isDigit_fn at h
  split at h
  · cases h
def ref2_isDigit_h : Nat → Hint := fun i =>
  match i with
  | _ => ⟨[], [], [], [], [], []⟩
abbrev ref2_isDigit_E (N : Nat) : Env := mkE ref2_isDigit_h (ref2_isDigit_fn N) (fun _ => false) (fun _ => false)
noncomputable def ref2_isDigit_LP (N : Nat) : Nat → Code → St → (Ex → St → Option Bool) → Option Bool := fun i c =>
  match i with
  | i => fun st k => iter (ref2_isDigit_h i) (exec (ref2_isDigit_E N) N c i) N st k
theorem ref2_isDigit_core (N : Nat) (x : SV [.v .u8]) (y : BV []) : runL (ref2_isDigit_E N) Tryz.f122 (ref2_isDigit_sg fun x _ => ref2_isDigit N x.1) ref2_isDigit_pk (ref2_isDigit_LP N) x y = ref2_isDigit N x.1 := by kernel_rfl
theorem ref2_isDigit_sound (N : Nat) : Sound Tryz.prog GW B0G 122 (ref2_isDigit_sg fun x _ => ref2_isDigit N x.1) :=
  runD_sound (mkE_ok ref2_isDigit_h (ref2_isDigit_fn N) _ _ (ref2_isDigit_fn_ok N)) Tryz.func122 rfl Tryz.call122 (ref2_isDigit_sg fun x _ => ref2_isDigit N x.1) ref2_isDigit_pk (fun _ _ => rfl) N (fun x y _ h => ((runL_eq (ref2_isDigit_E N) N Tryz.f122 (ref2_isDigit_sg fun x _ => ref2_isDigit N x.1) ref2_isDigit_pk (ref2_isDigit_LP N) (show LoopsOk (ref2_isDigit_LP N) (ref2_isDigit_E N) N (resD (ref2_isDigit_E N) Tryz.f122 (ref2_isDigit_sg fun x _ => ref2_isDigit N x.1) ref2_isDigit_pk) [] from trivial) x y).trans (ref2_isDigit_core N x y)).trans h)
def ref2_textToken_L0T (_N : Nat) (x0 : Str) (c1007_0 : Int) (c1007_2 : Int) (x1 : Int) (k0 : Str → Option ((Int × Str × Int × Int) × Int × Int)) (self : Int → Str → Option ((Int × Str × Int × Int) × Int × Int)) (s8 : Int) (b1007_1 : Str) : Option ((Int × Str × Int × Int) × Int × Int) :=
  br (decide (s8 < (x0.length : Int)))
    (bnd (geti x0 s8) fun t22 =>
    br (t22 == (34 : UInt8))
      (some ((c1007_0, (b1007_1, (c1007_2, x1))), (IntKind.i64.wrap (s8 + (1 : Int)), (0 : Int))))
      (bnd (geti x0 s8) fun t30 =>
      br (decide (t30 < (32 : UInt8)))
        (some ((c1007_0, (b1007_1, (c1007_2, x1))), ((0 : Int), (10 : Int))))
        (bnd (geti x0 s8) fun t35 =>
        br (decide (t35 > (126 : UInt8)))
          (some ((c1007_0, (b1007_1, (c1007_2, x1))), ((0 : Int), (10 : Int))))
          (bnd (geti x0 s8) fun t42 =>
          br (t42 != (92 : UInt8))
            (bnd (slc x0 s8 (IntKind.i64.wrap (s8 + (1 : Int)))) fun t50 =>
            br (decide (b1007_1.length + t50.length ≤ 9223372036854775807))
              (self (IntKind.i64.wrap (s8 + (1 : Int))) (b1007_1 ++ t50))
              none)
            (br (decide ((IntKind.i64.wrap (s8 + (1 : Int))) < (x0.length : Int)))
              (bnd (geti x0 (IntKind.i64.wrap (s8 + (1 : Int)))) fun t64 =>
              br (t64 == (34 : UInt8))
                (bnd (slc x0 (IntKind.i64.wrap (s8 + (1 : Int))) (IntKind.i64.wrap ((IntKind.i64.wrap (s8 + (1 : Int))) + (1 : Int)))) fun t79 =>
                br (decide (b1007_1.length + t79.length ≤ 9223372036854775807))
                  (self (IntKind.i64.wrap ((IntKind.i64.wrap (s8 + (1 : Int))) + (1 : Int))) (b1007_1 ++ t79))
                  none)
                (bnd (geti x0 (IntKind.i64.wrap (s8 + (1 : Int)))) fun t69 =>
                br (t69 == (92 : UInt8))
                  (bnd (slc x0 (IntKind.i64.wrap (s8 + (1 : Int))) (IntKind.i64.wrap ((IntKind.i64.wrap (s8 + (1 : Int))) + (1 : Int)))) fun t79_1 =>
                  br (decide (b1007_1.length + t79_1.length ≤ 9223372036854775807))
                    (self (IntKind.i64.wrap ((IntKind.i64.wrap (s8 + (1 : Int))) + (1 : Int))) (b1007_1 ++ t79_1))
                    none)
                  (br (decide ((IntKind.i64.wrap (s8 + (1 : Int))) < (x0.length : Int)))
                    (bnd (geti x0 (IntKind.i64.wrap (s8 + (1 : Int)))) fun t90 =>
                    br (t90 == (110 : UInt8))
                      (br (decide (b1007_1.length + ([10] : Str).length ≤ 9223372036854775807))
                        (self (IntKind.i64.wrap ((IntKind.i64.wrap (s8 + (1 : Int))) + (1 : Int))) (b1007_1 ++ ([10] : Str)))
                        none)
                      (some ((c1007_0, (b1007_1, (c1007_2, x1))), ((0 : Int), (10 : Int)))))
                    (some ((c1007_0, (b1007_1, (c1007_2, x1))), ((0 : Int), (10 : Int)))))))
              (br (decide ((IntKind.i64.wrap (s8 + (1 : Int))) < (x0.length : Int)))
                (bnd (geti x0 (IntKind.i64.wrap (s8 + (1 : Int)))) fun t90_2 =>
                br (t90_2 == (110 : UInt8))
                  (br (decide (b1007_1.length + ([10] : Str).length ≤ 9223372036854775807))
                    (self (IntKind.i64.wrap ((IntKind.i64.wrap (s8 + (1 : Int))) + (1 : Int))) (b1007_1 ++ ([10] : Str)))
                    none)
                  (some ((c1007_0, (b1007_1, (c1007_2, x1))), ((0 : Int), (10 : Int)))))
                (some ((c1007_0, (b1007_1, (c1007_2, x1))), ((0 : Int), (10 : Int))))))))))
    (k0 b1007_1)
def ref2_textToken_L0 (N : Nat) (x0 : Str) (c1007_0 : Int) (c1007_2 : Int) (x1 : Int) (k0 : Str → Option ((Int × Str × Int × Int) × Int × Int)) : Nat → Int → Str → Option ((Int × Str × Int × Int) × Int × Int)
  | 0, _, _ => none
  | n + 1, s8, b1007_1 => ref2_textToken_L0T N x0 c1007_0 c1007_2 x1 k0 (ref2_textToken_L0 N x0 c1007_0 c1007_2 x1 k0 n) s8 b1007_1
def ref2_textToken (N : Nat) (x0 : Str) (x1 : Int) : Option ((Int × Str × Int × Int) × Int × Int) :=
  ref2_textToken_L0 N x0 (2 : Int) (0 : Int) x1 (fun o0_1007_1 =>
      some (((2 : Int), (o0_1007_1, ((0 : Int), x1))), ((0 : Int), (10 : Int)))) N (IntKind.i64.wrap (x1 + (1 : Int))) ([] : Str)
abbrev ref2_textToken_sg (f : SV [.v .str, .v (.int .i64)] → BV [] → Option ((Int × Str × Int × Int) × Int × Int)) : AF := { ps := [.v .str, .v (.int .i64)], bs := [], rs := [.v (.pr (.int .i64) (.pr .str (.pr (.int .i64) (.int .i64)))), .v (.int .i64), .v (.int .i64)], cs := [], R := (Int × Str × Int × Int) × Int × Int, out := fun z => ((z.1, z.2.1, z.2.2, ()), ()), f := f }
abbrev ref2_textToken_pk : SV [.v (.pr (.int .i64) (.pr .str (.pr (.int .i64) (.int .i64)))), .v (.int .i64), .v (.int .i64)] → BV [] → ((Int × Str × Int × Int) × Int × Int) := fun x _ => (x.1, x.2.1, x.2.2.1)
def ref2_textToken_fn (_N : Nat) : FuncId → Option Tmp → Option AF := fun f _ =>
  match f with
    | _ => none
theorem ref2_textToken_fn_ok (N : Nat) : ∀ f q F, ref2_textToken_fn N f q = some F → Sound Tryz.prog GW B0G f F := by
  intro f q F h
  unfold ref2_textToken_fn at h
  split at h
  · cases h
def ref2_textToken_h : Nat → Hint := fun i =>
  match i with
  | 0 => ⟨[], [0, 4, 7, 8], [1004, 1007], [4, 7], [1004, 1007], []⟩
  | 100010 => ⟨[1007], [1], [], [], [], []⟩
  | 100014 => ⟨[1007], [1], [], [], [], []⟩
  | _ => ⟨[], [], [], [], [], []⟩
abbrev ref2_textToken_E (N : Nat) : Env := mkE ref2_textToken_h (ref2_textToken_fn N) (fun _ => false) (fun _ => false)
abbrev ref2_textToken_L0_fs : List (Nat × Sl) := [(0, .v .str), (4, .box 1004 0), (7, .box 1007 0), (8, .v (.int .i64))]
abbrev ref2_textToken_L0_bs : List (Nat × Sb) := [(1004, .cells [.v (.int .i64), .v .str, .v (.int .i64), .v (.int .i64)]), (1007, .cells [.v (.int .i64), .v .str, .v (.int .i64), .v (.int .i64)])]
def ref2_textToken_L0_hd (x0 : Str) (c1004_0 : Int) (c1004_1 : Str) (c1004_2 : Int) (c1004_3 : Int) (c1007_0 : Int) (c1007_2 : Int) (x1 : Int) (s8 : Int) (b1007_1 : Str) : St := ⟨98, [(0, .v .str x0), (4, .box 1004 0), (7, .box 1007 0), (8, .v (.int .i64) s8)], [(1004, .cells [.v (.int .i64) c1004_0, .v .str c1004_1, .v (.int .i64) c1004_2, .v (.int .i64) c1004_3]), (1007, .cells [.v (.int .i64) c1007_0, .v .str b1007_1, .v (.int .i64) c1007_2, .v (.int .i64) x1])]⟩
def ref2_textToken_L0_tl0 (_x0 : Str) (c1004_0 : Int) (c1004_1 : Str) (c1004_2 : Int) (c1004_3 : Int) (c1007_0 : Int) (c1007_2 : Int) (x1 : Int) (o0_1007_1 : Str) : St := ⟨98, [(4, .box 1004 0), (7, .box 1007 0)], [(1004, .cells [.v (.int .i64) c1004_0, .v .str c1004_1, .v (.int .i64) c1004_2, .v (.int .i64) c1004_3]), (1007, .cells [.v (.int .i64) c1007_0, .v .str o0_1007_1, .v (.int .i64) c1007_2, .v (.int .i64) x1])]⟩
def ref2_textToken_L0_G (N : Nat) (x0 : Str) (c1004_0 : Int) (c1004_1 : Str) (c1004_2 : Int) (c1004_3 : Int) (c1007_0 : Int) (c1007_2 : Int) (x1 : Int) (s8 : Int) (b1007_1 : Str) (k : Ex → St → Option ((Int × Str × Int × Int) × Int × Int)) : Option ((Int × Str × Int × Int) × Int × Int) :=
  ref2_textToken_L0 N x0 c1007_0 c1007_2 x1 (fun o0_1007_1 => k (.exit 0) (ref2_textToken_L0_tl0 x0 c1004_0 c1004_1 c1004_2 c1004_3 c1007_0 c1007_2 x1 o0_1007_1)) N s8 b1007_1
abbrev ref2_textToken_L0_F (N : Nat) : FV ref2_textToken_L0_fs → HV ref2_textToken_L0_bs → (Ex → St → Option ((Int × Str × Int × Int) × Int × Int)) → Option ((Int × Str × Int × Int) × Int × Int) := fun x y k => ref2_textToken_L0_G N x.1 y.1.1 y.1.2.1 y.1.2.2.1 y.1.2.2.2.1 y.2.1.1 y.2.1.2.2.1 y.2.1.2.2.2.1 x.2.2.2.1 y.2.1.2.1 k
noncomputable def ref2_textToken_LP (N : Nat) : Nat → Code → St → (Ex → St → Option ((Int × Str × Int × Int) × Int × Int)) → Option ((Int × Str × Int × Int) × Int × Int) := fun i c =>
  match i with
  | 0 => (LPc 98 ref2_textToken_L0_fs ref2_textToken_L0_bs (ref2_textToken_L0_F N) (fun st k => iter (ref2_textToken_h 0) (exec (ref2_textToken_E N) N c 0) N st k))
  | i => fun st k => iter (ref2_textToken_h i) (exec (ref2_textToken_E N) N c i) N st k
theorem ref2_textToken_L0_step (N : Nat) (x0 : Str) (c1004_0 : Int) (c1004_1 : Str) (c1004_2 : Int) (c1004_3 : Int) (c1007_0 : Int) (c1007_2 : Int) (x1 : Int) (KX : Nat → St → Option ((Int × Str × Int × Int) × Int × Int)) (I : St → Option ((Int × Str × Int × Int) × Int × Int)) (s8 : Int) (b1007_1 : Str) :
    execL (ref2_textToken_LP N) (ref2_textToken_E N) (cAt (bodyOf Tryz.f124) [true, true, false, true, false, false]) 0 (ref2_textToken_L0_hd x0 c1004_0 c1004_1 c1004_2 c1004_3 c1007_0 c1007_2 x1 s8 b1007_1) (roundK (ref2_textToken_h 0) I KX (resD (ref2_textToken_E N) Tryz.f124 (ref2_textToken_sg fun x _ => ref2_textToken N x.1 x.2.1) ref2_textToken_pk)) = ref2_textToken_L0T N x0 c1007_0 c1007_2 x1 (fun o0_1007_1 => KX 0 (ref2_textToken_L0_tl0 x0 c1004_0 c1004_1 c1004_2 c1004_3 c1007_0 c1007_2 x1 o0_1007_1)) (fun s8 b1007_1 => I (ref2_textToken_L0_hd x0 c1004_0 c1004_1 c1004_2 c1004_3 c1007_0 c1007_2 x1 s8 b1007_1)) s8 b1007_1 := by kernel_rfl
theorem ref2_textToken_L0_ok (N : Nat) : ∀ x y k, (∀ st, k .ret st = (resD (ref2_textToken_E N) Tryz.f124 (ref2_textToken_sg fun x _ => ref2_textToken N x.1 x.2.1) ref2_textToken_pk) st) → iter (ref2_textToken_h 0) (exec (ref2_textToken_E N) N (cAt (bodyOf Tryz.f124) [true, true, false, true, false, false]) 0) N ⟨98, unF ref2_textToken_L0_fs x, unH ref2_textToken_L0_bs y⟩ k = ref2_textToken_L0_F N x y k := fun x y k hk =>
  iter_link (S := (Int) × (Str) × Unit) (ref2_textToken_h 0) _ (execL (ref2_textToken_LP N) (ref2_textToken_E N) (cAt (bodyOf Tryz.f124) [true, true, false, true, false, false]) 0) (resD (ref2_textToken_E N) Tryz.f124 (ref2_textToken_sg fun x _ => ref2_textToken N x.1 x.2.1) ref2_textToken_pk) (fun st k hk => execL_eq _ _ N _ (cAt (bodyOf Tryz.f124) [true, true, false, true, false, false]) 0 (show LoopsOk (ref2_textToken_LP N) (ref2_textToken_E N) N (resD (ref2_textToken_E N) Tryz.f124 (ref2_textToken_sg fun x _ => ref2_textToken N x.1 x.2.1) ref2_textToken_pk) [] from trivial) st k hk) (fun s => ref2_textToken_L0_hd x.1 y.1.1 y.1.2.1 y.1.2.2.1 y.1.2.2.2.1 y.2.1.1 y.2.1.2.2.1 y.2.1.2.2.2.1 s.1 s.2.1) k hk
    (fun self s => ref2_textToken_L0T N x.1 y.2.1.1 y.2.1.2.2.1 y.2.1.2.2.2.1 (fun o0_1007_1 => k (.exit 0) (ref2_textToken_L0_tl0 x.1 y.1.1 y.1.2.1 y.1.2.2.1 y.1.2.2.2.1 y.2.1.1 y.2.1.2.2.1 y.2.1.2.2.2.1 o0_1007_1)) (fun s8 b1007_1 => self (s8, b1007_1, ())) s.1 s.2.1) (fun n s => ref2_textToken_L0 N x.1 y.2.1.1 y.2.1.2.2.1 y.2.1.2.2.2.1 (fun o0_1007_1 => k (.exit 0) (ref2_textToken_L0_tl0 x.1 y.1.1 y.1.2.1 y.1.2.2.1 y.1.2.2.2.1 y.2.1.1 y.2.1.2.2.1 y.2.1.2.2.2.1 o0_1007_1)) n s.1 s.2.1) (fun _ => rfl) (fun _ _ => rfl)
    (fun I s => ref2_textToken_L0_step N x.1 y.1.1 y.1.2.1 y.1.2.2.1 y.1.2.2.2.1 y.2.1.1 y.2.1.2.2.1 y.2.1.2.2.2.1 (fun j => k (.exit j)) I s.1 s.2.1) N (x.2.2.2.1, y.2.1.2.1, ())
theorem ref2_textToken_lp0 (N : Nat) : ∀ st k, (∀ st, k .ret st = (resD (ref2_textToken_E N) Tryz.f124 (ref2_textToken_sg fun x _ => ref2_textToken N x.1 x.2.1) ref2_textToken_pk) st) → ref2_textToken_LP N 0 (cAt (bodyOf Tryz.f124) [true, true, false, true, false, false]) st k = iter (Env.hint (ref2_textToken_E N) 0) (exec (ref2_textToken_E N) N (cAt (bodyOf Tryz.f124) [true, true, false, true, false, false]) 0) N st k := fun st k hk => LPc_eq 98 ref2_textToken_L0_fs ref2_textToken_L0_bs _ _ (resD (ref2_textToken_E N) Tryz.f124 (ref2_textToken_sg fun x _ => ref2_textToken N x.1 x.2.1) ref2_textToken_pk) (ref2_textToken_L0_ok N) _ st k hk (rfl)
theorem ref2_textToken_core (N : Nat) (x : SV [.v .str, .v (.int .i64)]) (y : BV []) : runL (ref2_textToken_E N) Tryz.f124 (ref2_textToken_sg fun x _ => ref2_textToken N x.1 x.2.1) ref2_textToken_pk (ref2_textToken_LP N) x y = ref2_textToken N x.1 x.2.1 := by kernel_rfl
theorem ref2_textToken_sound (N : Nat) : Sound Tryz.prog GW B0G 124 (ref2_textToken_sg fun x _ => ref2_textToken N x.1 x.2.1) :=
  runD_sound (mkE_ok ref2_textToken_h (ref2_textToken_fn N) _ _ (ref2_textToken_fn_ok N)) Tryz.func124 rfl Tryz.call124 (ref2_textToken_sg fun x _ => ref2_textToken N x.1 x.2.1) ref2_textToken_pk (fun _ _ => rfl) N (fun x y _ h => ((runL_eq (ref2_textToken_E N) N Tryz.f124 (ref2_textToken_sg fun x _ => ref2_textToken N x.1 x.2.1) ref2_textToken_pk (ref2_textToken_LP N) (show LoopsOk (ref2_textToken_LP N) (ref2_textToken_E N) N (resD (ref2_textToken_E N) Tryz.f124 (ref2_textToken_sg fun x _ => ref2_textToken N x.1 x.2.1) ref2_textToken_pk) [(0, (cAt (bodyOf Tryz.f124) [true, true, false, true, false, false]))] from ⟨ref2_textToken_lp0 N, trivial⟩) x y).trans (ref2_textToken_core N x y)).trans h)
end
end Go.Proofs.YtahjncefiegflaaGreatDoor

