/- What functions of the program compute, as plain functions (printed). -/
import Derived.Test.YtbekhaioddmliaaGreatDoorQZeF1
namespace Go.Proofs.YtbekhaioddmliaaGreatDoor
open Go Go.RowKit
set_option maxRecDepth 100000
set_option linter.unusedVariables false
noncomputable section
def z49L0T (_N : Nat) (x1 : List τ1) (c20 : Int) (k0 : τ25 → Option (Str × Int)) (self : Int → τ25 → Option (Str × Int)) (s21 : Int) (w1007 : List Str) : Option (Str × Int) :=
 br (decide (s21 < c20))
  (bnd (geti x1 s21) fun t23 =>
  br (decide (t23.1.length + ([61] : Str).length ≤ 9223372036854775807))
   (br (decide ((t23.1 ++ ([61] : Str)).length + t23.2.length ≤ 9223372036854775807))
    (br (decide ((w1007.length + [(t23.1 ++ ([61] : Str)) ++ t23.2].length) * (24 * Ty.sz .str) ≤ 140737488355328))
     (self (IntKind.i64.wrap (s21 + (1 : Int))) (w1007 ++ [(t23.1 ++ ([61] : Str)) ++ t23.2]))
     none)
    none)
   none)
  (k0 w1007)
def z49L0 (N : Nat) (x1 : List τ1) (c20 : Int) (k0 : τ25 → Option (Str × Int)) : Nat → Int → τ25 → Option (Str × Int)
 | 0, _, _ => none
 | n + 1, s21, w1007 => z49L0T N x1 c20 k0 (z49L0 N x1 c20 k0 n) s21 w1007
def config_ConfigText (N : Nat) (x0 : τ7) (x1 : List τ1) : Option (Str × Int) :=
 bnd (config_CheckConfig N x0 x1) fun t12 =>
 br (t12 != (0 : Int))
  (some (([] : Str), t12))
  (br ((x1.length : Int) == (0 : Int))
   (some (([45] : Str), (0 : Int)))
   (z49L0 N x1 (x1.length : Int) (fun o0_w1007 =>
     bnd (strings_Join o0_w1007 ([44] : Str)) fun t36 =>
     some (t36, (0 : Int))) N (0 : Int) ([] : List Str)))
abbrev z49sg (f : SV [.v τ8, .v τ0] → BV [] → Option (Str × Int)) : AF := { ps := [.v τ8, .v τ0], bs := [], rs := [.v .str, .v τ5], cs := [], R := Str × Int, out := fun z => ((z.1, z.2, ()), ()), f := f }
noncomputable abbrev z49g (N : Nat) : AF := z49sg fun x _ => config_ConfigText N x.1 x.2.1
abbrev z49pk : SV [.v .str, .v τ5] → BV [] → (Str × Int) := fun x _ => (x.1, x.2.1)
def z49fn (N : Nat) : FuncId → Option Tmp → Option AF := fun f _ =>
 match f with
  | 29 => some (z42g N)
  | 93 => some (z85sg fun x _ => strings_Join x.1 x.2.1)
  | _ => none
theorem z49fn_ok (N : Nat) : FnOk (z49fn N) := by
 intro f q F h
 unfold z49fn at h
 split at h
 · cases h; exact z42sound N
 · cases h; exact z85sound
 · cases h
def z49h : Nat → Hint := fun i =>
 match i with
 | 0 => ⟨[], [7, 19, 20, 21], [1007], [7], [1007], []⟩
 | _ => hint0
abbrev z49E (N : Nat) : Env := mkE z49h (z49fn N) FF FF
noncomputable abbrev z49c0 : Code := cAt (bodyOf Tryz.f36) [true, true, true, true, false, true, false, false]
noncomputable abbrev z49R (N : Nat) := resD (z49E N) Tryz.f36 (z49g N) z49pk
abbrev z49L0_fs : List (Nat × Sl) := [(7, .row 1007), (19, .v τ0), (20, .v τ5), (21, .v τ5)]
abbrev z49L0_bs : List (Nat × Sb) := [(1007, .row 9 .str false)]
def z49L0_hd (x1 : List τ1) (c20 : Int) (s21 : Int) (w1007 : List Str) : St := ⟨37, [(7, .row 1007), (19, .v τ0 x1), (20, .v τ5 c20), (21, .v τ5 s21)], [(1007, .row 9 .str false w1007)]⟩
def z49L0_tl0 (_x1 : List τ1) (_c20 : Int) (o0_w1007 : List Str) : St := ⟨37, [(7, .row 1007)], [(1007, .row 9 .str false o0_w1007)]⟩
def z49L0_G (N : Nat) (x1 : List τ1) (c20 : Int) (s21 : Int) (w1007 : List Str) (k : Ex → St → Option (Str × Int)) : Option (Str × Int) :=
 z49L0 N x1 c20 (fun o0_w1007 => k (.exit 0) (z49L0_tl0 x1 c20 o0_w1007)) N s21 w1007
abbrev z49L0_F (N : Nat) : FV z49L0_fs → HV z49L0_bs → (Ex → St → Option (Str × Int)) → Option (Str × Int) := fun x y k => z49L0_G N x.2.1 x.2.2.1 x.2.2.2.1 y.1 k
noncomputable def z49LP (N : Nat) : Nat → Code → St → (Ex → St → Option (Str × Int)) → Option (Str × Int) := fun i c =>
 match i with
 | 0 => (LPc 37 z49L0_fs z49L0_bs (z49L0_F N) (fun st k => iter (z49h 0) (exec (z49E N) N c 0) N st k))
 | i => fun st k => iter (z49h i) (exec (z49E N) N c i) N st k
theorem z49L0_step (N : Nat) (x1 : List τ1) (c20 : Int) (KX : Nat → St → Option (Str × Int)) (I : St → Option (Str × Int)) (s21 : Int) (w1007 : List Str) :
  execL (z49LP N) (z49E N) z49c0 0 (z49L0_hd x1 c20 s21 w1007) (roundK (z49h 0) I KX (z49R N)) = z49L0T N x1 c20 (fun o0_w1007 => KX 0 (z49L0_tl0 x1 c20 o0_w1007)) (fun s21 w1007 => I (z49L0_hd x1 c20 s21 w1007)) s21 w1007 := by kernel_rfl
theorem z49L0_ok (N : Nat) : ∀ x y k, (∀ st, k .ret st = (z49R N) st) → iter (z49h 0) (exec (z49E N) N z49c0 0) N ⟨37, unF z49L0_fs x, unH z49L0_bs y⟩ k = z49L0_F N x y k := fun x y k hk =>
 iter_link (S := (Int) × τ25 × Unit) (z49h 0) _ (execL (z49LP N) (z49E N) z49c0 0) (z49R N) (fun st k hk => execL_eq _ _ N _ z49c0 0 (show LoopsOk (z49LP N) (z49E N) N (z49R N) [] from trivial) st k hk) (fun s => z49L0_hd x.2.1 x.2.2.1 s.1 s.2.1) k hk
  (fun self s => z49L0T N x.2.1 x.2.2.1 (fun o0_w1007 => k (.exit 0) (z49L0_tl0 x.2.1 x.2.2.1 o0_w1007)) (fun s21 w1007 => self (s21, w1007, ())) s.1 s.2.1) (fun n s => z49L0 N x.2.1 x.2.2.1 (fun o0_w1007 => k (.exit 0) (z49L0_tl0 x.2.1 x.2.2.1 o0_w1007)) n s.1 s.2.1) (fun _ => rfl) (fun _ _ => rfl)
  (fun I s => z49L0_step N x.2.1 x.2.2.1 (fun j => k (.exit j)) I s.1 s.2.1) N (x.2.2.2.1, y.1, ())
theorem z49lp0 (N : Nat) : ∀ st k, (∀ st, k .ret st = (z49R N) st) → z49LP N 0 z49c0 st k = iter (Env.hint (z49E N) 0) (exec (z49E N) N z49c0 0) N st k := fun st k hk => LPc_eq 37 z49L0_fs z49L0_bs _ _ (z49R N) (z49L0_ok N) _ st k hk (rfl)
theorem z49core (N : Nat) (x : SV [.v τ8, .v τ0]) (y : BV []) : runL (z49E N) Tryz.f36 (z49g N) z49pk (z49LP N) x y = config_ConfigText N x.1 x.2.1 := by kernel_rfl
theorem z49sound (N : Nat) : Snd 36 (z49g N) :=
 sndL (z49fn_ok N) Tryz.func36 rfl Tryz.call36 (z49g N) z49pk (fun _ _ => rfl) N (z49LP N) (show LoopsOk (z49LP N) (z49E N) N (z49R N) [(0, z49c0)] from ⟨z49lp0 N, trivial⟩) (z49core N)
def config_CheckConditions_1 (_N : Nat) (x0 : Int) : Option Bool :=
 br (decide (x0 < (32 : Int)))
  (some true)
  (some (decide (x0 > (126 : Int))))
abbrev z25sg (f : SV [.v (.int .i32)] → BV [] → Option (Bool)) : AF := { ps := [.v (.int .i32)], bs := [], rs := [.v .bool], cs := [], R := Bool, out := fun z => ((z, ()), ()), f := f }
noncomputable abbrev z25g (N : Nat) : AF := z25sg fun x _ => config_CheckConditions_1 N x.1
abbrev z25pk : SV [.v .bool] → BV [] → Bool := fun x _ => x.1
def z25fn (_N : Nat) : FuncId → Option Tmp → Option AF := fun f _ =>
 match f with
  | _ => none
theorem z25fn_ok (N : Nat) : FnOk (z25fn N) := by
 intro f q F h
 unfold z25fn at h
 split at h
 · cases h
def z25h : Nat → Hint := fun i =>
 match i with
 | _ => hint0
abbrev z25E (N : Nat) : Env := mkE z25h (z25fn N) FF FF
noncomputable def z25LP (N : Nat) : Nat → Code → St → (Ex → St → Option Bool) → Option Bool := fun i c =>
 match i with
 | i => fun st k => iter (z25h i) (exec (z25E N) N c i) N st k
theorem z25core (N : Nat) (x : SV [.v (.int .i32)]) (y : BV []) : runL (z25E N) Tryz.f118 (z25g N) z25pk (z25LP N) x y = config_CheckConditions_1 N x.1 := by kernel_rfl
theorem z25sound (N : Nat) : Snd 118 (z25g N) :=
 sndL (z25fn_ok N) Tryz.func118 rfl Tryz.call118 (z25g N) z25pk (fun _ _ => rfl) N (z25LP N) (show LoopsOk (z25LP N) (z25E N) N (resD (z25E N) Tryz.f118 (z25g N) z25pk) [] from trivial) (z25core N)
def z48L0T (N : Nat) (x0 : List τ1) (c8 : List τ1) (c9 : Int) (k0 : Option Int) (self : Int → Option Int) (s10 : Int) : Option Int :=
 br (decide (s10 < c9))
  (bnd (geti c8 s10) fun t13 =>
  bnd (config_IsWord N t13.1) fun t18 =>
  br (!t18)
   (some (5 : Int))
   (bnd (config_IsWord N t13.2) fun t23 =>
   br (!t23)
    (some (1 : Int))
    (br (decide (s10 > (0 : Int)))
     (bnd (geti x0 (IntKind.i64.wrap (s10 - (1 : Int)))) fun t34 =>
     br (Op.bytesLess t13.1 t34.1 || t13.1 == t34.1)
      (some (8 : Int))
      (self (IntKind.i64.wrap (s10 + (1 : Int)))))
     (self (IntKind.i64.wrap (s10 + (1 : Int)))))))
  (k0)
def z48L0 (N : Nat) (x0 : List τ1) (c8 : List τ1) (c9 : Int) (k0 : Option Int) : Nat → Int → Option Int
 | 0, _ => none
 | n + 1, s10 => z48L0T N x0 c8 c9 k0 (z48L0 N x0 c8 c9 k0 n) s10
def config_CheckPairs (N : Nat) (x0 : List τ1) : Option Int :=
 br (decide ((x0.length : Int) > (30 : Int)))
  (some (2 : Int))
  (z48L0 N x0 x0 (x0.length : Int) (some (0 : Int)) N (0 : Int))
abbrev z48sg (f : SV [.v τ0] → BV [] → Option (Int)) : AF := { ps := [.v τ0], bs := [], rs := [.v τ5], cs := [], R := Int, out := fun z => ((z, ()), ()), f := f }
noncomputable abbrev z48g (N : Nat) : AF := z48sg fun x _ => config_CheckPairs N x.1
abbrev z48pk : SV [.v τ5] → BV [] → Int := fun x _ => x.1
def z48fn (N : Nat) : FuncId → Option Tmp → Option AF := fun f _ =>
 match f with
  | 43 => some (z70g N)
  | _ => none
theorem z48fn_ok (N : Nat) : FnOk (z48fn N) := by
 intro f q F h
 unfold z48fn at h
 split at h
 · cases h; exact z70sound N
 · cases h
def z48h : Nat → Hint := fun i =>
 match i with
 | 0 => ⟨[], [0, 8, 9, 10], [], [], [], []⟩
 | _ => hint0
abbrev z48E (N : Nat) : Env := mkE z48h (z48fn N) FF FF
noncomputable abbrev z48c0 : Code := cAt (bodyOf Tryz.f119) [true, true, false, true, false, false]
noncomputable abbrev z48R (N : Nat) := resD (z48E N) Tryz.f119 (z48g N) z48pk
abbrev z48L0_fs : List (Nat × Sl) := [(0, .v τ0), (8, .v τ0), (9, .v τ5), (10, .v τ5)]
abbrev z48L0_bs : List (Nat × Sb) := []
def z48L0_hd (x0 : List τ1) (c8 : List τ1) (c9 : Int) (s10 : Int) : St := ⟨40, [(0, .v τ0 x0), (8, .v τ0 c8), (9, .v τ5 c9), (10, .v τ5 s10)], []⟩
def z48L0_tl0 (_x0 : List τ1) (_c8 : List τ1) (_c9 : Int) : St := ⟨40, [], []⟩
def z48L0_G (N : Nat) (x0 : List τ1) (c8 : List τ1) (c9 : Int) (s10 : Int) (k : Ex → St → Option Int) : Option Int :=
 z48L0 N x0 c8 c9 (k (.exit 0) (z48L0_tl0 x0 c8 c9)) N s10
abbrev z48L0_F (N : Nat) : FV z48L0_fs → HV z48L0_bs → (Ex → St → Option Int) → Option Int := fun x _ k => z48L0_G N x.1 x.2.1 x.2.2.1 x.2.2.2.1 k
noncomputable def z48LP (N : Nat) : Nat → Code → St → (Ex → St → Option Int) → Option Int := fun i c =>
 match i with
 | 0 => (LPc 40 z48L0_fs z48L0_bs (z48L0_F N) (fun st k => iter (z48h 0) (exec (z48E N) N c 0) N st k))
 | i => fun st k => iter (z48h i) (exec (z48E N) N c i) N st k
theorem z48L0_step (N : Nat) (x0 : List τ1) (c8 : List τ1) (c9 : Int) (KX : Nat → St → Option Int) (I : St → Option Int) (s10 : Int) :
  execL (z48LP N) (z48E N) z48c0 0 (z48L0_hd x0 c8 c9 s10) (roundK (z48h 0) I KX (z48R N)) = z48L0T N x0 c8 c9 (KX 0 (z48L0_tl0 x0 c8 c9)) (fun s10 => I (z48L0_hd x0 c8 c9 s10)) s10 := by kernel_rfl
theorem z48L0_ok (N : Nat) : ∀ x y k, (∀ st, k .ret st = (z48R N) st) → iter (z48h 0) (exec (z48E N) N z48c0 0) N ⟨40, unF z48L0_fs x, unH z48L0_bs y⟩ k = z48L0_F N x y k := fun x _ k hk =>
 iter_link (S := (Int) × Unit) (z48h 0) _ (execL (z48LP N) (z48E N) z48c0 0) (z48R N) (fun st k hk => execL_eq _ _ N _ z48c0 0 (show LoopsOk (z48LP N) (z48E N) N (z48R N) [] from trivial) st k hk) (fun s => z48L0_hd x.1 x.2.1 x.2.2.1 s.1) k hk
  (fun self s => z48L0T N x.1 x.2.1 x.2.2.1 (k (.exit 0) (z48L0_tl0 x.1 x.2.1 x.2.2.1)) (fun s10 => self (s10, ())) s.1) (fun n s => z48L0 N x.1 x.2.1 x.2.2.1 (k (.exit 0) (z48L0_tl0 x.1 x.2.1 x.2.2.1)) n s.1) (fun _ => rfl) (fun _ _ => rfl)
  (fun I s => z48L0_step N x.1 x.2.1 x.2.2.1 (fun j => k (.exit j)) I s.1) N (x.2.2.2.1, ())
theorem z48lp0 (N : Nat) : ∀ st k, (∀ st, k .ret st = (z48R N) st) → z48LP N 0 z48c0 st k = iter (Env.hint (z48E N) 0) (exec (z48E N) N z48c0 0) N st k := fun st k hk => LPc_eq 40 z48L0_fs z48L0_bs _ _ (z48R N) (z48L0_ok N) _ st k hk (rfl)
theorem z48core (N : Nat) (x : SV [.v τ0]) (y : BV []) : runL (z48E N) Tryz.f119 (z48g N) z48pk (z48LP N) x y = config_CheckPairs N x.1 := by kernel_rfl
theorem z48sound (N : Nat) : Snd 119 (z48g N) :=
 sndL (z48fn_ok N) Tryz.func119 rfl Tryz.call119 (z48g N) z48pk (fun _ _ => rfl) N (z48LP N) (show LoopsOk (z48LP N) (z48E N) N (z48R N) [(0, z48c0)] from ⟨z48lp0 N, trivial⟩) (z48core N)
abbrev z0sg (f : SV [.v .str, .v (.clo 118 .un)] → BV [] → Option (Bool)) : AF := { ps := [.v .str, .v (.clo 118 .un)], bs := [], rs := [.v .bool], cs := [], R := Bool, out := fun z => ((z, ()), ()), f := f }
def strings_ContainsFunc_config_CheckConditions_1 (N : Nat) (x : Str) (_u : Unit) : Option Bool := some (decide (0 ≤ Lib.idxFunc (fun n => (config_CheckConditions_1 N (n : Int)).getD false) true ⟨x.toArray⟩))
theorem z0sound (N : Nat) : Snd 117 (z0sg fun x y => strings_ContainsFunc_config_CheckConditions_1 N x.1 x.2.1) := strings_ContainsFunc_ext (ho := fun _ => rfl) (z25sound N) (fun n _ => by unfold config_CheckConditions_1; simp only [br_ite]; rfl)

def z28L0T (N : Nat) (x0 : τ7) (x1 : List τ6) (c18 : List τ6) (c19 : Int) (k0 : Option Int) (self : Int → Option Int) (s20 : Int) : Option Int :=
 br (decide (s20 < c19))
  (bnd (geti c18 s20) fun t23 =>
  br (decide ((t23.1.length : Int) < (1 : Int)))
   (some (3 : Int))
   (br (decide ((t23.1.length : Int) > (1000 : Int)))
    (some (3 : Int))
    (br (t23.1 == ([100, 101, 102, 97, 117, 108, 116] : Str))
     (some (3 : Int))
     (bnd (strings_ContainsFunc_config_CheckConditions_1 N t23.1 ()) fun t43 =>
     br (t43)
      (some (3 : Int))
      (br (decide ((t23.2.1.length : Int) > (30 : Int)))
       (some (2 : Int))
       (br (decide ((t23.2.2.length : Int) > (30 : Int)))
        (some (2 : Int))
        (bnd (config_checkSet N x0 t23.2.1 false) fun t58 =>
        br (t58 != (0 : Int))
         (some t58)
         (bnd (config_CheckPairs N t23.2.2) fun t64 =>
         br (t64 != (0 : Int))
          (some t64)
          (br (decide (s20 > (0 : Int)))
           (bnd (geti x1 (IntKind.i64.wrap (s20 - (1 : Int)))) fun t76 =>
           br (Op.bytesLess t23.1 t76.1 || t23.1 == t76.1)
            (some (8 : Int))
            (self (IntKind.i64.wrap (s20 + (1 : Int)))))
           (self (IntKind.i64.wrap (s20 + (1 : Int)))))))))))))
  (k0)
def z28L0 (N : Nat) (x0 : τ7) (x1 : List τ6) (c18 : List τ6) (c19 : Int) (k0 : Option Int) : Nat → Int → Option Int
 | 0, _ => none
 | n + 1, s20 => z28L0T N x0 x1 c18 c19 k0 (z28L0 N x0 x1 c18 c19 k0 n) s20
def config_CheckConditions (N : Nat) (x0 : τ7) (x1 : List τ6) : Option Int :=
 bnd (config_CheckSettings N x0) fun t11 =>
 br (t11 != (0 : Int))
  (some t11)
  (br (decide ((x1.length : Int) > (100 : Int)))
   (some (2 : Int))
   (z28L0 N x0 x1 x1 (x1.length : Int) (some (0 : Int)) N (0 : Int)))
abbrev z28sg (f : SV [.v τ8, .v (.sl τ9)] → BV [] → Option (Int)) : AF := { ps := [.v τ8, .v (.sl τ9)], bs := [], rs := [.v τ5], cs := [], R := Int, out := fun z => ((z, ()), ()), f := f }
noncomputable abbrev z28g (N : Nat) : AF := z28sg fun x _ => config_CheckConditions N x.1 x.2.1
abbrev z28pk : SV [.v τ5] → BV [] → Int := fun x _ => x.1
def z28fn (N : Nat) : FuncId → Option Tmp → Option AF := fun f _ =>
 match f with
  | 42 => some (z34g N)
  | 44 => some (z58g N)
  | 117 => some (z0sg fun x _ => strings_ContainsFunc_config_CheckConditions_1 N x.1 x.2.1)
  | 119 => some (z48g N)
  | _ => none
theorem z28fn_ok (N : Nat) : FnOk (z28fn N) := by
 intro f q F h
 unfold z28fn at h
 split at h
 · cases h; exact z34sound N
 · cases h; exact z58sound N
 · cases h; exact z0sound N
 · cases h; exact z48sound N
 · cases h
def z28h : Nat → Hint := fun i =>
 match i with
 | 0 => ⟨[], [0, 1, 18, 19, 20], [], [], [], []⟩
 | _ => hint0
abbrev z28E (N : Nat) : Env := mkE z28h (z28fn N) FF FF
noncomputable abbrev z28c0 : Code := cAt (bodyOf Tryz.f64) [true, true, true, false, true, false, false]
noncomputable abbrev z28R (N : Nat) := resD (z28E N) Tryz.f64 (z28g N) z28pk
abbrev z28L0_fs : List (Nat × Sl) := [(0, .v τ8), (1, .v (.sl τ9)), (18, .v (.sl τ9)), (19, .v τ5), (20, .v τ5)]
abbrev z28L0_bs : List (Nat × Sb) := []
def z28L0_hd (x0 : τ7) (x1 : List τ6) (c18 : List τ6) (c19 : Int) (s20 : Int) : St := ⟨82, [(0, .v τ8 x0), (1, .v (.sl τ9) x1), (18, .v (.sl τ9) c18), (19, .v τ5 c19), (20, .v τ5 s20)], []⟩
def z28L0_tl0 (_x0 : τ7) (_x1 : List τ6) (_c18 : List τ6) (_c19 : Int) : St := ⟨82, [], []⟩
def z28L0_G (N : Nat) (x0 : τ7) (x1 : List τ6) (c18 : List τ6) (c19 : Int) (s20 : Int) (k : Ex → St → Option Int) : Option Int :=
 z28L0 N x0 x1 c18 c19 (k (.exit 0) (z28L0_tl0 x0 x1 c18 c19)) N s20
abbrev z28L0_F (N : Nat) : FV z28L0_fs → HV z28L0_bs → (Ex → St → Option Int) → Option Int := fun x _ k => z28L0_G N x.1 x.2.1 x.2.2.1 x.2.2.2.1 x.2.2.2.2.1 k
noncomputable def z28LP (N : Nat) : Nat → Code → St → (Ex → St → Option Int) → Option Int := fun i c =>
 match i with
 | 0 => (LPc 82 z28L0_fs z28L0_bs (z28L0_F N) (fun st k => iter (z28h 0) (exec (z28E N) N c 0) N st k))
 | i => fun st k => iter (z28h i) (exec (z28E N) N c i) N st k
theorem z28L0_step (N : Nat) (x0 : τ7) (x1 : List τ6) (c18 : List τ6) (c19 : Int) (KX : Nat → St → Option Int) (I : St → Option Int) (s20 : Int) :
  execL (z28LP N) (z28E N) z28c0 0 (z28L0_hd x0 x1 c18 c19 s20) (roundK (z28h 0) I KX (z28R N)) = z28L0T N x0 x1 c18 c19 (KX 0 (z28L0_tl0 x0 x1 c18 c19)) (fun s20 => I (z28L0_hd x0 x1 c18 c19 s20)) s20 := by kernel_rfl
theorem z28L0_ok (N : Nat) : ∀ x y k, (∀ st, k .ret st = (z28R N) st) → iter (z28h 0) (exec (z28E N) N z28c0 0) N ⟨82, unF z28L0_fs x, unH z28L0_bs y⟩ k = z28L0_F N x y k := fun x _ k hk =>
 iter_link (S := (Int) × Unit) (z28h 0) _ (execL (z28LP N) (z28E N) z28c0 0) (z28R N) (fun st k hk => execL_eq _ _ N _ z28c0 0 (show LoopsOk (z28LP N) (z28E N) N (z28R N) [] from trivial) st k hk) (fun s => z28L0_hd x.1 x.2.1 x.2.2.1 x.2.2.2.1 s.1) k hk
  (fun self s => z28L0T N x.1 x.2.1 x.2.2.1 x.2.2.2.1 (k (.exit 0) (z28L0_tl0 x.1 x.2.1 x.2.2.1 x.2.2.2.1)) (fun s20 => self (s20, ())) s.1) (fun n s => z28L0 N x.1 x.2.1 x.2.2.1 x.2.2.2.1 (k (.exit 0) (z28L0_tl0 x.1 x.2.1 x.2.2.1 x.2.2.2.1)) n s.1) (fun _ => rfl) (fun _ _ => rfl)
  (fun I s => z28L0_step N x.1 x.2.1 x.2.2.1 x.2.2.2.1 (fun j => k (.exit j)) I s.1) N (x.2.2.2.2.1, ())
theorem z28lp0 (N : Nat) : ∀ st k, (∀ st, k .ret st = (z28R N) st) → z28LP N 0 z28c0 st k = iter (Env.hint (z28E N) 0) (exec (z28E N) N z28c0 0) N st k := fun st k hk => LPc_eq 82 z28L0_fs z28L0_bs _ _ (z28R N) (z28L0_ok N) _ st k hk (rfl)
theorem z28core (N : Nat) (x : SV [.v τ8, .v (.sl τ9)]) (y : BV []) : runL (z28E N) Tryz.f64 (z28g N) z28pk (z28LP N) x y = config_CheckConditions N x.1 x.2.1 := by kernel_rfl
theorem z28sound (N : Nat) : Snd 64 (z28g N) :=
 sndL (z28fn_ok N) Tryz.func64 rfl Tryz.call64 (z28g N) z28pk (fun _ _ => rfl) N (z28LP N) (show LoopsOk (z28LP N) (z28E N) N (z28R N) [(0, z28c0)] from ⟨z28lp0 N, trivial⟩) (z28core N)
def config_CheckPlatforms_1 (_N : Nat) (x0 : Str × List τ1) (x1 : Str × List τ1) : Option Bool :=
 some (x0.1 == x1.1)
abbrev z27sg (f : SV [.v τ15, .v (.ptr τ15)] → BV [] → Option (Bool)) : AF := { ps := [.v τ15, .v (.ptr τ15)], bs := [], rs := [.v .bool], cs := [], R := Bool, out := fun z => ((z, ()), ()), f := f }
noncomputable abbrev z27g (N : Nat) : AF := z27sg fun x _ => config_CheckPlatforms_1 N x.1 x.2.1
abbrev z27pk : SV [.v .bool] → BV [] → Bool := fun x _ => x.1
def z27fn (_N : Nat) : FuncId → Option Tmp → Option AF := fun f _ =>
 match f with
  | _ => none
theorem z27fn_ok (N : Nat) : FnOk (z27fn N) := by
 intro f q F h
 unfold z27fn at h
 split at h
 · cases h
def z27h : Nat → Hint := fun i =>
 match i with
 | _ => hint0
abbrev z27E (N : Nat) : Env := mkE z27h (z27fn N) FF FF
noncomputable def z27LP (N : Nat) : Nat → Code → St → (Ex → St → Option Bool) → Option Bool := fun i c =>
 match i with
 | i => fun st k => iter (z27h i) (exec (z27E N) N c i) N st k
theorem z27core (N : Nat) (x : SV [.v τ15, .v (.ptr τ15)]) (y : BV []) : runL (z27E N) Tryz.f129 (z27g N) z27pk (z27LP N) x y = config_CheckPlatforms_1 N x.1 x.2.1 := by kernel_rfl
theorem z27sound (N : Nat) : Snd 129 (z27g N) :=
 sndL (z27fn_ok N) Tryz.func129 rfl Tryz.call129 (z27g N) z27pk (fun _ _ => rfl) N (z27LP N) (show LoopsOk (z27LP N) (z27E N) N (resD (z27E N) Tryz.f129 (z27g N) z27pk) [] from trivial) (z27core N)
def z9L0T (N : Nat) (x0 : τ12) (x1 : (Str × List τ1) × Unit) (c7 : Int) (k0 : Option Int) (self : Int → Option Int) (s8 : Int) : Option Int :=
 br (decide (s8 < c7))
  (bnd (geti x0 s8) fun t14 =>
  bnd (config_CheckPlatforms_1 N t14 x1.1) fun t16 =>
  br (t16)
   (some s8)
   (self (IntKind.i64.wrap (s8 + (1 : Int)))))
  (k0)
def z9L0 (N : Nat) (x0 : τ12) (x1 : (Str × List τ1) × Unit) (c7 : Int) (k0 : Option Int) : Nat → Int → Option Int
 | 0, _ => none
 | n + 1, s8 => z9L0T N x0 x1 c7 k0 (z9L0 N x0 x1 c7 k0 n) s8
def slices_IndexFunc_api_Platform (N : Nat) (x0 : τ12) (x1 : (Str × List τ1) × Unit) : Option Int :=
 z9L0 N x0 x1 (x0.length : Int) (some (-1 : Int)) N (0 : Int)
abbrev z9sg (f : SV [.v (.sl τ15), .v (.clo 129 (.pr (.ptr τ15) .un))] → BV [] → Option (Int)) : AF := { ps := [.v (.sl τ15), .v (.clo 129 (.pr (.ptr τ15) .un))], bs := [], rs := [.v τ5], cs := [], R := Int, out := fun z => ((z, ()), ()), f := f }
noncomputable abbrev z9g (N : Nat) : AF := z9sg fun x _ => slices_IndexFunc_api_Platform N x.1 x.2.1
abbrev z9pk : SV [.v τ5] → BV [] → Int := fun x _ => x.1
def z9fn (N : Nat) : FuncId → Option Tmp → Option AF := fun f _ =>
 match f with
  | 129 => some (z27g N)
  | _ => none
theorem z9fn_ok (N : Nat) : FnOk (z9fn N) := by
 intro f q F h
 unfold z9fn at h
 split at h
 · cases h; exact z27sound N
 · cases h
def z9h : Nat → Hint := fun i =>
 match i with
 | 0 => ⟨[], [0, 1, 7, 8], [], [], [], []⟩
 | _ => hint0
abbrev z9E (N : Nat) : Env := mkE z9h (z9fn N) FF FF
noncomputable abbrev z9c0 : Code := cAt (bodyOf Tryz.f184) [true, false, true, false, false]
noncomputable abbrev z9R (N : Nat) := resD (z9E N) Tryz.f184 (z9g N) z9pk
abbrev z9L0_fs : List (Nat × Sl) := [(0, .v (.sl τ15)), (1, .v (.clo 129 (.pr (.ptr τ15) .un))), (7, .v τ5), (8, .v τ5)]
abbrev z9L0_bs : List (Nat × Sb) := []
def z9L0_hd (x0 : τ12) (x1 : (Str × List τ1) × Unit) (c7 : Int) (s8 : Int) : St := ⟨19, [(0, .v (.sl τ15) x0), (1, .v (.clo 129 (.pr (.ptr τ15) .un)) x1), (7, .v τ5 c7), (8, .v τ5 s8)], []⟩
def z9L0_tl0 (_x0 : τ12) (_x1 : (Str × List τ1) × Unit) (_c7 : Int) : St := ⟨19, [], []⟩
def z9L0_G (N : Nat) (x0 : τ12) (x1 : (Str × List τ1) × Unit) (c7 : Int) (s8 : Int) (k : Ex → St → Option Int) : Option Int :=
 z9L0 N x0 x1 c7 (k (.exit 0) (z9L0_tl0 x0 x1 c7)) N s8
abbrev z9L0_F (N : Nat) : FV z9L0_fs → HV z9L0_bs → (Ex → St → Option Int) → Option Int := fun x _ k => z9L0_G N x.1 x.2.1 x.2.2.1 x.2.2.2.1 k
noncomputable def z9LP (N : Nat) : Nat → Code → St → (Ex → St → Option Int) → Option Int := fun i c =>
 match i with
 | 0 => (LPc 19 z9L0_fs z9L0_bs (z9L0_F N) (fun st k => iter (z9h 0) (exec (z9E N) N c 0) N st k))
 | i => fun st k => iter (z9h i) (exec (z9E N) N c i) N st k
theorem z9L0_step (N : Nat) (x0 : τ12) (x1 : (Str × List τ1) × Unit) (c7 : Int) (KX : Nat → St → Option Int) (I : St → Option Int) (s8 : Int) :
  execL (z9LP N) (z9E N) z9c0 0 (z9L0_hd x0 x1 c7 s8) (roundK (z9h 0) I KX (z9R N)) = z9L0T N x0 x1 c7 (KX 0 (z9L0_tl0 x0 x1 c7)) (fun s8 => I (z9L0_hd x0 x1 c7 s8)) s8 := by kernel_rfl
theorem z9L0_ok (N : Nat) : ∀ x y k, (∀ st, k .ret st = (z9R N) st) → iter (z9h 0) (exec (z9E N) N z9c0 0) N ⟨19, unF z9L0_fs x, unH z9L0_bs y⟩ k = z9L0_F N x y k := fun x _ k hk =>
 iter_link (S := (Int) × Unit) (z9h 0) _ (execL (z9LP N) (z9E N) z9c0 0) (z9R N) (fun st k hk => execL_eq _ _ N _ z9c0 0 (show LoopsOk (z9LP N) (z9E N) N (z9R N) [] from trivial) st k hk) (fun s => z9L0_hd x.1 x.2.1 x.2.2.1 s.1) k hk
  (fun self s => z9L0T N x.1 x.2.1 x.2.2.1 (k (.exit 0) (z9L0_tl0 x.1 x.2.1 x.2.2.1)) (fun s8 => self (s8, ())) s.1) (fun n s => z9L0 N x.1 x.2.1 x.2.2.1 (k (.exit 0) (z9L0_tl0 x.1 x.2.1 x.2.2.1)) n s.1) (fun _ => rfl) (fun _ _ => rfl)
  (fun I s => z9L0_step N x.1 x.2.1 x.2.2.1 (fun j => k (.exit j)) I s.1) N (x.2.2.2.1, ())
theorem z9lp0 (N : Nat) : ∀ st k, (∀ st, k .ret st = (z9R N) st) → z9LP N 0 z9c0 st k = iter (Env.hint (z9E N) 0) (exec (z9E N) N z9c0 0) N st k := fun st k hk => LPc_eq 19 z9L0_fs z9L0_bs _ _ (z9R N) (z9L0_ok N) _ st k hk (rfl)
theorem z9core (N : Nat) (x : SV [.v (.sl τ15), .v (.clo 129 (.pr (.ptr τ15) .un))]) (y : BV []) : runL (z9E N) Tryz.f184 (z9g N) z9pk (z9LP N) x y = slices_IndexFunc_api_Platform N x.1 x.2.1 := by kernel_rfl
theorem z9sound (N : Nat) : Snd 184 (z9g N) :=
 sndL (z9fn_ok N) Tryz.func184 rfl Tryz.call184 (z9g N) z9pk (fun _ _ => rfl) N (z9LP N) (show LoopsOk (z9LP N) (z9E N) N (z9R N) [(0, z9c0)] from ⟨z9lp0 N, trivial⟩) (z9core N)
end
end Go.Proofs.YtbekhaioddmliaaGreatDoor


/- What functions of the program compute, as plain functions (printed). -/
namespace Go.Proofs.YtbekhaioddmliaaGreatDoor
open Go Go.RowKit
set_option maxRecDepth 100000
set_option linter.unusedVariables false
noncomputable section
def slices_ContainsFunc_api_Platform (N : Nat) (x0 : τ12) (x1 : (Str × List τ1) × Unit) : Option Bool :=
 bnd (slices_IndexFunc_api_Platform N x0 x1) fun t7 =>
 some (decide (t7 ≥ (0 : Int)))
abbrev z4sg (f : SV [.v (.sl τ15), .v (.clo 129 (.pr (.ptr τ15) .un))] → BV [] → Option (Bool)) : AF := { ps := [.v (.sl τ15), .v (.clo 129 (.pr (.ptr τ15) .un))], bs := [], rs := [.v .bool], cs := [], R := Bool, out := fun z => ((z, ()), ()), f := f }
noncomputable abbrev z4g (N : Nat) : AF := z4sg fun x _ => slices_ContainsFunc_api_Platform N x.1 x.2.1
abbrev z4pk : SV [.v .bool] → BV [] → Bool := fun x _ => x.1
def z4fn (N : Nat) : FuncId → Option Tmp → Option AF := fun f _ =>
 match f with
  | 184 => some (z9g N)
  | _ => none
theorem z4fn_ok (N : Nat) : FnOk (z4fn N) := by
 intro f q F h
 unfold z4fn at h
 split at h
 · cases h; exact z9sound N
 · cases h
def z4h : Nat → Hint := fun i =>
 match i with
 | _ => hint0
abbrev z4E (N : Nat) : Env := mkE z4h (z4fn N) FF FF
noncomputable def z4LP (N : Nat) : Nat → Code → St → (Ex → St → Option Bool) → Option Bool := fun i c =>
 match i with
 | i => fun st k => iter (z4h i) (exec (z4E N) N c i) N st k
theorem z4core (N : Nat) (x : SV [.v (.sl τ15), .v (.clo 129 (.pr (.ptr τ15) .un))]) (y : BV []) : runL (z4E N) Tryz.f128 (z4g N) z4pk (z4LP N) x y = slices_ContainsFunc_api_Platform N x.1 x.2.1 := by kernel_rfl
theorem z4sound (N : Nat) : Snd 128 (z4g N) :=
 sndL (z4fn_ok N) Tryz.func128 rfl Tryz.call128 (z4g N) z4pk (fun _ _ => rfl) N (z4LP N) (show LoopsOk (z4LP N) (z4E N) N (resD (z4E N) Tryz.f128 (z4g N) z4pk) [] from trivial) (z4core N)
def z30L0T (N : Nat) (x0 : τ12) (c9 : τ12) (c10 : Int) (k0 : Option Int) (self : Int → Option Int) (s11 : Int) : Option Int :=
 br (decide (s11 < c10))
  (bnd (geti c9 s11) fun t14 =>
  bnd (config_IsWord N t14.1) fun t18 =>
  br (!t18)
   (some (5 : Int))
   (bnd (config_CheckPairs N t14.2) fun t22 =>
   br (t22 != (0 : Int))
    (some t22)
    (bnd (slc x0 (0 : Int) s11) fun t28 =>
    bnd (slices_ContainsFunc_api_Platform N t28 (t14, ())) fun t30 =>
    br (t30)
     (some (7 : Int))
     (self (IntKind.i64.wrap (s11 + (1 : Int)))))))
  (k0)
def z30L0 (N : Nat) (x0 : τ12) (c9 : τ12) (c10 : Int) (k0 : Option Int) : Nat → Int → Option Int
 | 0, _ => none
 | n + 1, s11 => z30L0T N x0 c9 c10 k0 (z30L0 N x0 c9 c10 k0 n) s11
def config_CheckPlatforms (N : Nat) (x0 : τ12) : Option Int :=
 br (decide ((x0.length : Int) > (50 : Int)))
  (some (2 : Int))
  (z30L0 N x0 x0 (x0.length : Int) (some (0 : Int)) N (0 : Int))
abbrev z30sg (f : SV [.v (.sl τ15)] → BV [] → Option (Int)) : AF := { ps := [.v (.sl τ15)], bs := [], rs := [.v τ5], cs := [], R := Int, out := fun z => ((z, ()), ()), f := f }
noncomputable abbrev z30g (N : Nat) : AF := z30sg fun x _ => config_CheckPlatforms N x.1
abbrev z30pk : SV [.v τ5] → BV [] → Int := fun x _ => x.1
def z30fn (N : Nat) : FuncId → Option Tmp → Option AF := fun f _ =>
 match f with
  | 43 => some (z70g N)
  | 119 => some (z48g N)
  | 128 => some (z4g N)
  | 129 => some (noneAF [.v (.ptr τ15)])
  | _ => none
theorem z30fn_ok (N : Nat) : FnOk (z30fn N) := by
 intro f q F h
 unfold z30fn at h
 split at h
 · cases h; exact z70sound N
 · cases h; exact z48sound N
 · cases h; exact z4sound N
 · cases h; exact noneAF_sound Tryz.call129 _
 · cases h
def z30h : Nat → Hint := fun i =>
 match i with
 | 0 => ⟨[], [0, 9, 10, 11], [], [], [], []⟩
 | _ => hint0
abbrev z30E (N : Nat) : Env := mkE z30h (z30fn N) FF FF
noncomputable abbrev z30c0 : Code := cAt (bodyOf Tryz.f75) [true, true, false, true, false, false]
noncomputable abbrev z30R (N : Nat) := resD (z30E N) Tryz.f75 (z30g N) z30pk
abbrev z30L0_fs : List (Nat × Sl) := [(0, .v (.sl τ15)), (9, .v (.sl τ15)), (10, .v τ5), (11, .v τ5)]
abbrev z30L0_bs : List (Nat × Sb) := []
def z30L0_hd (x0 : τ12) (c9 : τ12) (c10 : Int) (s11 : Int) : St := ⟨32, [(0, .v (.sl τ15) x0), (9, .v (.sl τ15) c9), (10, .v τ5 c10), (11, .v τ5 s11)], []⟩
def z30L0_tl0 (_x0 : τ12) (_c9 : τ12) (_c10 : Int) : St := ⟨32, [], []⟩
def z30L0_G (N : Nat) (x0 : τ12) (c9 : τ12) (c10 : Int) (s11 : Int) (k : Ex → St → Option Int) : Option Int :=
 z30L0 N x0 c9 c10 (k (.exit 0) (z30L0_tl0 x0 c9 c10)) N s11
abbrev z30L0_F (N : Nat) : FV z30L0_fs → HV z30L0_bs → (Ex → St → Option Int) → Option Int := fun x _ k => z30L0_G N x.1 x.2.1 x.2.2.1 x.2.2.2.1 k
noncomputable def z30LP (N : Nat) : Nat → Code → St → (Ex → St → Option Int) → Option Int := fun i c =>
 match i with
 | 0 => (LPc 32 z30L0_fs z30L0_bs (z30L0_F N) (fun st k => iter (z30h 0) (exec (z30E N) N c 0) N st k))
 | i => fun st k => iter (z30h i) (exec (z30E N) N c i) N st k
theorem z30L0_step (N : Nat) (x0 : τ12) (c9 : τ12) (c10 : Int) (KX : Nat → St → Option Int) (I : St → Option Int) (s11 : Int) :
  execL (z30LP N) (z30E N) z30c0 0 (z30L0_hd x0 c9 c10 s11) (roundK (z30h 0) I KX (z30R N)) = z30L0T N x0 c9 c10 (KX 0 (z30L0_tl0 x0 c9 c10)) (fun s11 => I (z30L0_hd x0 c9 c10 s11)) s11 := by kernel_rfl
theorem z30L0_ok (N : Nat) : ∀ x y k, (∀ st, k .ret st = (z30R N) st) → iter (z30h 0) (exec (z30E N) N z30c0 0) N ⟨32, unF z30L0_fs x, unH z30L0_bs y⟩ k = z30L0_F N x y k := fun x _ k hk =>
 iter_link (S := (Int) × Unit) (z30h 0) _ (execL (z30LP N) (z30E N) z30c0 0) (z30R N) (fun st k hk => execL_eq _ _ N _ z30c0 0 (show LoopsOk (z30LP N) (z30E N) N (z30R N) [] from trivial) st k hk) (fun s => z30L0_hd x.1 x.2.1 x.2.2.1 s.1) k hk
  (fun self s => z30L0T N x.1 x.2.1 x.2.2.1 (k (.exit 0) (z30L0_tl0 x.1 x.2.1 x.2.2.1)) (fun s11 => self (s11, ())) s.1) (fun n s => z30L0 N x.1 x.2.1 x.2.2.1 (k (.exit 0) (z30L0_tl0 x.1 x.2.1 x.2.2.1)) n s.1) (fun _ => rfl) (fun _ _ => rfl)
  (fun I s => z30L0_step N x.1 x.2.1 x.2.2.1 (fun j => k (.exit j)) I s.1) N (x.2.2.2.1, ())
theorem z30lp0 (N : Nat) : ∀ st k, (∀ st, k .ret st = (z30R N) st) → z30LP N 0 z30c0 st k = iter (Env.hint (z30E N) 0) (exec (z30E N) N z30c0 0) N st k := fun st k hk => LPc_eq 32 z30L0_fs z30L0_bs _ _ (z30R N) (z30L0_ok N) _ st k hk (rfl)
theorem z30core (N : Nat) (x : SV [.v (.sl τ15)]) (y : BV []) : runL (z30E N) Tryz.f75 (z30g N) z30pk (z30LP N) x y = config_CheckPlatforms N x.1 := by kernel_rfl
theorem z30sound (N : Nat) : Snd 75 (z30g N) :=
 sndL (z30fn_ok N) Tryz.func75 rfl Tryz.call75 (z30g N) z30pk (fun _ _ => rfl) N (z30LP N) (show LoopsOk (z30LP N) (z30E N) N (z30R N) [(0, z30c0)] from ⟨z30lp0 N, trivial⟩) (z30core N)
def z33L0T (_N : Nat) (x0 : List τ1) (c7 : Int) (κ3_0 : Str) (κ3_1 : Str) (k0 : Option Int) (self : Int → Option Int) (s8 : Int) : Option Int :=
 br (decide (s8 < c7))
  (bnd (geti x0 s8) fun t14 =>
  br (eqb τ23 (κ3_0, κ3_1) t14)
   (some s8)
   (self (IntKind.i64.wrap (s8 + (1 : Int)))))
  (k0)
def z33L0 (N : Nat) (x0 : List τ1) (c7 : Int) (κ3_0 : Str) (κ3_1 : Str) (k0 : Option Int) : Nat → Int → Option Int
 | 0, _ => none
 | n + 1, s8 => z33L0T N x0 c7 κ3_0 κ3_1 k0 (z33L0 N x0 c7 κ3_0 κ3_1 k0 n) s8
def slices_Index_api_Pair (N : Nat) (x0 : List τ1) (x1 : Str × Str) : Option Int :=
 z33L0 N x0 (x0.length : Int) x1.1 x1.2 (some (-1 : Int)) N (0 : Int)
abbrev z33sg (f : SV [.v τ0, .v τ23] → BV [] → Option (Int)) : AF := { ps := [.v τ0, .v τ23], bs := [], rs := [.v τ5], cs := [], R := Int, out := fun z => ((z, ()), ()), f := f }
noncomputable abbrev z33g (N : Nat) : AF := z33sg fun x _ => slices_Index_api_Pair N x.1 x.2.1
abbrev z33pk : SV [.v τ5] → BV [] → Int := fun x _ => x.1
def z33fn (_N : Nat) : FuncId → Option Tmp → Option AF := fun f _ =>
 match f with
  | _ => none
theorem z33fn_ok (N : Nat) : FnOk (z33fn N) := by
 intro f q F h
 unfold z33fn at h
 split at h
 · cases h
def z33h : Nat → Hint := fun i =>
 match i with
 | 0 => ⟨[], [0, 3, 7, 8], [1003], [], [], []⟩
 | _ => hint0
abbrev z33E (N : Nat) : Env := mkE z33h (z33fn N) FF FF
noncomputable abbrev z33c0 : Code := cAt (bodyOf Tryz.f207) [true, false, true, false, false]
noncomputable abbrev z33R (N : Nat) := resD (z33E N) Tryz.f207 (z33g N) z33pk
abbrev z33L0_fs : List (Nat × Sl) := [(0, .v τ0), (3, .box 1003 0), (7, .v τ5), (8, .v τ5)]
abbrev z33L0_bs : List (Nat × Sb) := [(1003, .cells [.v .str, .v .str])]
def z33L0_hd (x0 : List τ1) (c7 : Int) (κ3_0 : Str) (κ3_1 : Str) (s8 : Int) : St := ⟨19, [(0, .v τ0 x0), (3, .box 1003 0), (7, .v τ5 c7), (8, .v τ5 s8)], [(1003, .cells [.v .str κ3_0, .v .str κ3_1])]⟩
def z33L0_tl0 (_x0 : List τ1) (_c7 : Int) (_κ3_0 : Str) (_κ3_1 : Str) : St := ⟨19, [], []⟩
def z33L0_G (N : Nat) (x0 : List τ1) (c7 : Int) (κ3_0 : Str) (κ3_1 : Str) (s8 : Int) (k : Ex → St → Option Int) : Option Int :=
 z33L0 N x0 c7 κ3_0 κ3_1 (k (.exit 0) (z33L0_tl0 x0 c7 κ3_0 κ3_1)) N s8
abbrev z33L0_F (N : Nat) : FV z33L0_fs → HV z33L0_bs → (Ex → St → Option Int) → Option Int := fun x y k => z33L0_G N x.1 x.2.2.1 y.1.1 y.1.2.1 x.2.2.2.1 k
noncomputable def z33LP (N : Nat) : Nat → Code → St → (Ex → St → Option Int) → Option Int := fun i c =>
 match i with
 | 0 => (LPc 19 z33L0_fs z33L0_bs (z33L0_F N) (fun st k => iter (z33h 0) (exec (z33E N) N c 0) N st k))
 | i => fun st k => iter (z33h i) (exec (z33E N) N c i) N st k
theorem z33L0_step (N : Nat) (x0 : List τ1) (c7 : Int) (κ3_0 : Str) (κ3_1 : Str) (KX : Nat → St → Option Int) (I : St → Option Int) (s8 : Int) :
  execL (z33LP N) (z33E N) z33c0 0 (z33L0_hd x0 c7 κ3_0 κ3_1 s8) (roundK (z33h 0) I KX (z33R N)) = z33L0T N x0 c7 κ3_0 κ3_1 (KX 0 (z33L0_tl0 x0 c7 κ3_0 κ3_1)) (fun s8 => I (z33L0_hd x0 c7 κ3_0 κ3_1 s8)) s8 := by kernel_rfl
theorem z33L0_ok (N : Nat) : ∀ x y k, (∀ st, k .ret st = (z33R N) st) → iter (z33h 0) (exec (z33E N) N z33c0 0) N ⟨19, unF z33L0_fs x, unH z33L0_bs y⟩ k = z33L0_F N x y k := fun x y k hk =>
 iter_link (S := (Int) × Unit) (z33h 0) _ (execL (z33LP N) (z33E N) z33c0 0) (z33R N) (fun st k hk => execL_eq _ _ N _ z33c0 0 (show LoopsOk (z33LP N) (z33E N) N (z33R N) [] from trivial) st k hk) (fun s => z33L0_hd x.1 x.2.2.1 y.1.1 y.1.2.1 s.1) k hk
  (fun self s => z33L0T N x.1 x.2.2.1 y.1.1 y.1.2.1 (k (.exit 0) (z33L0_tl0 x.1 x.2.2.1 y.1.1 y.1.2.1)) (fun s8 => self (s8, ())) s.1) (fun n s => z33L0 N x.1 x.2.2.1 y.1.1 y.1.2.1 (k (.exit 0) (z33L0_tl0 x.1 x.2.2.1 y.1.1 y.1.2.1)) n s.1) (fun _ => rfl) (fun _ _ => rfl)
  (fun I s => z33L0_step N x.1 x.2.2.1 y.1.1 y.1.2.1 (fun j => k (.exit j)) I s.1) N (x.2.2.2.1, ())
theorem z33lp0 (N : Nat) : ∀ st k, (∀ st, k .ret st = (z33R N) st) → z33LP N 0 z33c0 st k = iter (Env.hint (z33E N) 0) (exec (z33E N) N z33c0 0) N st k := fun st k hk => LPc_eq 19 z33L0_fs z33L0_bs _ _ (z33R N) (z33L0_ok N) _ st k hk (rfl)
theorem z33core (N : Nat) (x : SV [.v τ0, .v τ23]) (y : BV []) : runL (z33E N) Tryz.f207 (z33g N) z33pk (z33LP N) x y = slices_Index_api_Pair N x.1 x.2.1 := by kernel_rfl
theorem z33sound (N : Nat) : Snd 207 (z33g N) :=
 sndL (z33fn_ok N) Tryz.func207 rfl Tryz.call207 (z33g N) z33pk (fun _ _ => rfl) N (z33LP N) (show LoopsOk (z33LP N) (z33E N) N (z33R N) [(0, z33c0)] from ⟨z33lp0 N, trivial⟩) (z33core N)
def slices_Contains_api_Pair (N : Nat) (x0 : List τ1) (x1 : Str × Str) : Option Bool :=
 bnd (slices_Index_api_Pair N x0 x1) fun t7 =>
 some (decide (t7 ≥ (0 : Int)))
abbrev z26sg (f : SV [.v τ0, .v τ23] → BV [] → Option (Bool)) : AF := { ps := [.v τ0, .v τ23], bs := [], rs := [.v .bool], cs := [], R := Bool, out := fun z => ((z, ()), ()), f := f }
noncomputable abbrev z26g (N : Nat) : AF := z26sg fun x _ => slices_Contains_api_Pair N x.1 x.2.1
abbrev z26pk : SV [.v .bool] → BV [] → Bool := fun x _ => x.1
def z26fn (N : Nat) : FuncId → Option Tmp → Option AF := fun f _ =>
 match f with
  | 207 => some (z33g N)
  | _ => none
theorem z26fn_ok (N : Nat) : FnOk (z26fn N) := by
 intro f q F h
 unfold z26fn at h
 split at h
 · cases h; exact z33sound N
 · cases h
def z26h : Nat → Hint := fun i =>
 match i with
 | _ => hint0
abbrev z26E (N : Nat) : Env := mkE z26h (z26fn N) FF FF
noncomputable def z26LP (N : Nat) : Nat → Code → St → (Ex → St → Option Bool) → Option Bool := fun i c =>
 match i with
 | i => fun st k => iter (z26h i) (exec (z26E N) N c i) N st k
theorem z26core (N : Nat) (x : SV [.v τ0, .v τ23]) (y : BV []) : runL (z26E N) Tryz.f185 (z26g N) z26pk (z26LP N) x y = slices_Contains_api_Pair N x.1 x.2.1 := by kernel_rfl
theorem z26sound (N : Nat) : Snd 185 (z26g N) :=
 sndL (z26fn_ok N) Tryz.func185 rfl Tryz.call185 (z26g N) z26pk (fun _ _ => rfl) N (z26LP N) (show LoopsOk (z26LP N) (z26E N) N (resD (z26E N) Tryz.f185 (z26g N) z26pk) [] from trivial) (z26core N)
def z93L0T (N : Nat) (x1 : List τ1) (x0 : List τ1) (c8 : Int) (k0 : Option Bool) (self : Int → Option Bool) (s9 : Int) : Option Bool :=
 br (decide (s9 < c8))
  (bnd (geti x0 s9) fun t11 =>
  bnd (slices_Contains_api_Pair N x1 t11) fun t15 =>
  br (!t15)
   (some false)
   (self (IntKind.i64.wrap (s9 + (1 : Int)))))
  (k0)
def z93L0 (N : Nat) (x1 : List τ1) (x0 : List τ1) (c8 : Int) (k0 : Option Bool) : Nat → Int → Option Bool
 | 0, _ => none
 | n + 1, s9 => z93L0T N x1 x0 c8 k0 (z93L0 N x1 x0 c8 k0 n) s9
def config_Fit (N : Nat) (x0 : List τ1) (x1 : List τ1) : Option Bool :=
 z93L0 N x1 x0 (x0.length : Int) (some true) N (0 : Int)
abbrev z93sg (f : SV [.v τ0, .v τ0] → BV [] → Option (Bool)) : AF := { ps := [.v τ0, .v τ0], bs := [], rs := [.v .bool], cs := [], R := Bool, out := fun z => ((z, ()), ()), f := f }
noncomputable abbrev z93g (N : Nat) : AF := z93sg fun x _ => config_Fit N x.1 x.2.1
abbrev z93pk : SV [.v .bool] → BV [] → Bool := fun x _ => x.1
def z93fn (N : Nat) : FuncId → Option Tmp → Option AF := fun f _ =>
 match f with
  | 185 => some (z26g N)
  | _ => none
theorem z93fn_ok (N : Nat) : FnOk (z93fn N) := by
 intro f q F h
 unfold z93fn at h
 split at h
 · cases h; exact z26sound N
 · cases h
def z93h : Nat → Hint := fun i =>
 match i with
 | 0 => ⟨[], [1, 7, 8, 9], [], [], [], []⟩
 | _ => hint0
abbrev z93E (N : Nat) : Env := mkE z93h (z93fn N) FF FF
noncomputable abbrev z93c0 : Code := cAt (bodyOf Tryz.f134) [true, false, true, false, false]
noncomputable abbrev z93R (N : Nat) := resD (z93E N) Tryz.f134 (z93g N) z93pk
abbrev z93L0_fs : List (Nat × Sl) := [(1, .v τ0), (7, .v τ0), (8, .v τ5), (9, .v τ5)]
abbrev z93L0_bs : List (Nat × Sb) := []
def z93L0_hd (x1 : List τ1) (x0 : List τ1) (c8 : Int) (s9 : Int) : St := ⟨18, [(1, .v τ0 x1), (7, .v τ0 x0), (8, .v τ5 c8), (9, .v τ5 s9)], []⟩
def z93L0_tl0 (_x1 : List τ1) (_x0 : List τ1) (_c8 : Int) : St := ⟨18, [], []⟩
def z93L0_G (N : Nat) (x1 : List τ1) (x0 : List τ1) (c8 : Int) (s9 : Int) (k : Ex → St → Option Bool) : Option Bool :=
 z93L0 N x1 x0 c8 (k (.exit 0) (z93L0_tl0 x1 x0 c8)) N s9
abbrev z93L0_F (N : Nat) : FV z93L0_fs → HV z93L0_bs → (Ex → St → Option Bool) → Option Bool := fun x _ k => z93L0_G N x.1 x.2.1 x.2.2.1 x.2.2.2.1 k
noncomputable def z93LP (N : Nat) : Nat → Code → St → (Ex → St → Option Bool) → Option Bool := fun i c =>
 match i with
 | 0 => (LPc 18 z93L0_fs z93L0_bs (z93L0_F N) (fun st k => iter (z93h 0) (exec (z93E N) N c 0) N st k))
 | i => fun st k => iter (z93h i) (exec (z93E N) N c i) N st k
theorem z93L0_step (N : Nat) (x1 : List τ1) (x0 : List τ1) (c8 : Int) (KX : Nat → St → Option Bool) (I : St → Option Bool) (s9 : Int) :
  execL (z93LP N) (z93E N) z93c0 0 (z93L0_hd x1 x0 c8 s9) (roundK (z93h 0) I KX (z93R N)) = z93L0T N x1 x0 c8 (KX 0 (z93L0_tl0 x1 x0 c8)) (fun s9 => I (z93L0_hd x1 x0 c8 s9)) s9 := by kernel_rfl
theorem z93L0_ok (N : Nat) : ∀ x y k, (∀ st, k .ret st = (z93R N) st) → iter (z93h 0) (exec (z93E N) N z93c0 0) N ⟨18, unF z93L0_fs x, unH z93L0_bs y⟩ k = z93L0_F N x y k := fun x _ k hk =>
 iter_link (S := (Int) × Unit) (z93h 0) _ (execL (z93LP N) (z93E N) z93c0 0) (z93R N) (fun st k hk => execL_eq _ _ N _ z93c0 0 (show LoopsOk (z93LP N) (z93E N) N (z93R N) [] from trivial) st k hk) (fun s => z93L0_hd x.1 x.2.1 x.2.2.1 s.1) k hk
  (fun self s => z93L0T N x.1 x.2.1 x.2.2.1 (k (.exit 0) (z93L0_tl0 x.1 x.2.1 x.2.2.1)) (fun s9 => self (s9, ())) s.1) (fun n s => z93L0 N x.1 x.2.1 x.2.2.1 (k (.exit 0) (z93L0_tl0 x.1 x.2.1 x.2.2.1)) n s.1) (fun _ => rfl) (fun _ _ => rfl)
  (fun I s => z93L0_step N x.1 x.2.1 x.2.2.1 (fun j => k (.exit j)) I s.1) N (x.2.2.2.1, ())
theorem z93lp0 (N : Nat) : ∀ st k, (∀ st, k .ret st = (z93R N) st) → z93LP N 0 z93c0 st k = iter (Env.hint (z93E N) 0) (exec (z93E N) N z93c0 0) N st k := fun st k hk => LPc_eq 18 z93L0_fs z93L0_bs _ _ (z93R N) (z93L0_ok N) _ st k hk (rfl)
theorem z93core (N : Nat) (x : SV [.v τ0, .v τ0]) (y : BV []) : runL (z93E N) Tryz.f134 (z93g N) z93pk (z93LP N) x y = config_Fit N x.1 x.2.1 := by kernel_rfl
theorem z93sound (N : Nat) : Snd 134 (z93g N) :=
 sndL (z93fn_ok N) Tryz.func134 rfl Tryz.call134 (z93g N) z93pk (fun _ _ => rfl) N (z93LP N) (show LoopsOk (z93LP N) (z93E N) N (z93R N) [(0, z93c0)] from ⟨z93lp0 N, trivial⟩) (z93core N)
def z81L0T (N : Nat) (x0 : τ7) (x2 : List τ1) (c12 : List τ1) (c13 : Int) (k0 : Option Bool) (self : Int → Option Bool) (s14 : Int) : Option Bool :=
 br (decide (s14 < c13))
  (bnd (geti c12 s14) fun t16 =>
  bnd (config_valueOf N x0 x2 t16.1) fun t22 =>
  br (!(t22 == t16.2))
   (some false)
   (self (IntKind.i64.wrap (s14 + (1 : Int)))))
  (k0)
def z81L0 (N : Nat) (x0 : τ7) (x2 : List τ1) (c12 : List τ1) (c13 : Int) (k0 : Option Bool) : Nat → Int → Option Bool
 | 0, _ => none
 | n + 1, s14 => z81L0T N x0 x2 c12 c13 k0 (z81L0 N x0 x2 c12 c13 k0 n) s14
def config_holds (N : Nat) (x0 : τ7) (x1 : Str × List τ1 × List τ1) (x2 : List τ1) (x3 : Str × List τ1) : Option Bool :=
 z81L0 N x0 x2 x1.2.1 (x1.2.1.length : Int) (bnd (config_Fit N x1.2.2 x3.2) fun t31 =>
   some t31) N (0 : Int)
abbrev z81sg (f : SV [.v τ8, .v τ9, .v τ0, .v τ15] → BV [] → Option (Bool)) : AF := { ps := [.v τ8, .v τ9, .v τ0, .v τ15], bs := [], rs := [.v .bool], cs := [], R := Bool, out := fun z => ((z, ()), ()), f := f }
noncomputable abbrev z81g (N : Nat) : AF := z81sg fun x _ => config_holds N x.1 x.2.1 x.2.2.1 x.2.2.2.1
abbrev z81pk : SV [.v .bool] → BV [] → Bool := fun x _ => x.1
def z81fn (N : Nat) : FuncId → Option Tmp → Option AF := fun f _ =>
 match f with
  | 74 => some (z64g N)
  | 134 => some (z93g N)
  | _ => none
theorem z81fn_ok (N : Nat) : FnOk (z81fn N) := by
 intro f q F h
 unfold z81fn at h
 split at h
 · cases h; exact z64sound N
 · cases h; exact z93sound N
 · cases h
def z81h : Nat → Hint := fun i =>
 match i with
 | 0 => ⟨[], [0, 2, 5, 7, 12, 13, 14], [1005, 1007], [5, 7], [1005, 1007], []⟩
 | _ => hint0
abbrev z81E (N : Nat) : Env := mkE z81h (z81fn N) FF FF
noncomputable abbrev z81c0 : Code := cAt (bodyOf Tryz.f81) [true, false, true, false, false]
noncomputable abbrev z81R (N : Nat) := resD (z81E N) Tryz.f81 (z81g N) z81pk
abbrev z81L0_fs : List (Nat × Sl) := [(0, .v τ8), (2, .v τ0), (5, .box 1005 0), (7, .box 1007 0), (12, .v τ0), (13, .v τ5), (14, .v τ5)]
abbrev z81L0_bs : List (Nat × Sb) := [(1005, .cells [.v .str, .v τ0, .v τ0]), (1007, .cells [.v .str, .v τ0])]
def z81L0_hd (x0 : τ7) (x2 : List τ1) (c12 : List τ1) (c13 : Int) (κ5_0 : Str) (κ5_1 : List τ1) (κ5_2 : List τ1) (κ7_0 : Str) (κ7_1 : List τ1) (s14 : Int) : St := ⟨32, [(0, .v τ8 x0), (2, .v τ0 x2), (5, .box 1005 0), (7, .box 1007 0), (12, .v τ0 c12), (13, .v τ5 c13), (14, .v τ5 s14)], [(1005, .cells [.v .str κ5_0, .v τ0 κ5_1, .v τ0 κ5_2]), (1007, .cells [.v .str κ7_0, .v τ0 κ7_1])]⟩
def z81L0_tl0 (_x0 : τ7) (_x2 : List τ1) (_c12 : List τ1) (_c13 : Int) (κ5_0 : Str) (κ5_1 : List τ1) (κ5_2 : List τ1) (κ7_0 : Str) (κ7_1 : List τ1) : St := ⟨32, [(5, .box 1005 0), (7, .box 1007 0)], [(1005, .cells [.v .str κ5_0, .v τ0 κ5_1, .v τ0 κ5_2]), (1007, .cells [.v .str κ7_0, .v τ0 κ7_1])]⟩
def z81L0_G (N : Nat) (x0 : τ7) (x2 : List τ1) (c12 : List τ1) (c13 : Int) (κ5_0 : Str) (κ5_1 : List τ1) (κ5_2 : List τ1) (κ7_0 : Str) (κ7_1 : List τ1) (s14 : Int) (k : Ex → St → Option Bool) : Option Bool :=
 z81L0 N x0 x2 c12 c13 (k (.exit 0) (z81L0_tl0 x0 x2 c12 c13 κ5_0 κ5_1 κ5_2 κ7_0 κ7_1)) N s14
abbrev z81L0_F (N : Nat) : FV z81L0_fs → HV z81L0_bs → (Ex → St → Option Bool) → Option Bool := fun x y k => z81L0_G N x.1 x.2.1 x.2.2.2.2.1 x.2.2.2.2.2.1 y.1.1 y.1.2.1 y.1.2.2.1 y.2.1.1 y.2.1.2.1 x.2.2.2.2.2.2.1 k
noncomputable def z81LP (N : Nat) : Nat → Code → St → (Ex → St → Option Bool) → Option Bool := fun i c =>
 match i with
 | 0 => (LPc 32 z81L0_fs z81L0_bs (z81L0_F N) (fun st k => iter (z81h 0) (exec (z81E N) N c 0) N st k))
 | i => fun st k => iter (z81h i) (exec (z81E N) N c i) N st k
theorem z81L0_step (N : Nat) (x0 : τ7) (x2 : List τ1) (c12 : List τ1) (c13 : Int) (κ5_0 : Str) (κ5_1 : List τ1) (κ5_2 : List τ1) (κ7_0 : Str) (κ7_1 : List τ1) (KX : Nat → St → Option Bool) (I : St → Option Bool) (s14 : Int) :
  execL (z81LP N) (z81E N) z81c0 0 (z81L0_hd x0 x2 c12 c13 κ5_0 κ5_1 κ5_2 κ7_0 κ7_1 s14) (roundK (z81h 0) I KX (z81R N)) = z81L0T N x0 x2 c12 c13 (KX 0 (z81L0_tl0 x0 x2 c12 c13 κ5_0 κ5_1 κ5_2 κ7_0 κ7_1)) (fun s14 => I (z81L0_hd x0 x2 c12 c13 κ5_0 κ5_1 κ5_2 κ7_0 κ7_1 s14)) s14 := by kernel_rfl
theorem z81L0_ok (N : Nat) : ∀ x y k, (∀ st, k .ret st = (z81R N) st) → iter (z81h 0) (exec (z81E N) N z81c0 0) N ⟨32, unF z81L0_fs x, unH z81L0_bs y⟩ k = z81L0_F N x y k := fun x y k hk =>
 iter_link (S := (Int) × Unit) (z81h 0) _ (execL (z81LP N) (z81E N) z81c0 0) (z81R N) (fun st k hk => execL_eq _ _ N _ z81c0 0 (show LoopsOk (z81LP N) (z81E N) N (z81R N) [] from trivial) st k hk) (fun s => z81L0_hd x.1 x.2.1 x.2.2.2.2.1 x.2.2.2.2.2.1 y.1.1 y.1.2.1 y.1.2.2.1 y.2.1.1 y.2.1.2.1 s.1) k hk
  (fun self s => z81L0T N x.1 x.2.1 x.2.2.2.2.1 x.2.2.2.2.2.1 (k (.exit 0) (z81L0_tl0 x.1 x.2.1 x.2.2.2.2.1 x.2.2.2.2.2.1 y.1.1 y.1.2.1 y.1.2.2.1 y.2.1.1 y.2.1.2.1)) (fun s14 => self (s14, ())) s.1) (fun n s => z81L0 N x.1 x.2.1 x.2.2.2.2.1 x.2.2.2.2.2.1 (k (.exit 0) (z81L0_tl0 x.1 x.2.1 x.2.2.2.2.1 x.2.2.2.2.2.1 y.1.1 y.1.2.1 y.1.2.2.1 y.2.1.1 y.2.1.2.1)) n s.1) (fun _ => rfl) (fun _ _ => rfl)
  (fun I s => z81L0_step N x.1 x.2.1 x.2.2.2.2.1 x.2.2.2.2.2.1 y.1.1 y.1.2.1 y.1.2.2.1 y.2.1.1 y.2.1.2.1 (fun j => k (.exit j)) I s.1) N (x.2.2.2.2.2.2.1, ())
theorem z81lp0 (N : Nat) : ∀ st k, (∀ st, k .ret st = (z81R N) st) → z81LP N 0 z81c0 st k = iter (Env.hint (z81E N) 0) (exec (z81E N) N z81c0 0) N st k := fun st k hk => LPc_eq 32 z81L0_fs z81L0_bs _ _ (z81R N) (z81L0_ok N) _ st k hk (rfl)
theorem z81core (N : Nat) (x : SV [.v τ8, .v τ9, .v τ0, .v τ15]) (y : BV []) : runL (z81E N) Tryz.f81 (z81g N) z81pk (z81LP N) x y = config_holds N x.1 x.2.1 x.2.2.1 x.2.2.2.1 := by kernel_rfl
theorem z81sound (N : Nat) : Snd 81 (z81g N) :=
 sndL (z81fn_ok N) Tryz.func81 rfl Tryz.call81 (z81g N) z81pk (fun _ _ => rfl) N (z81LP N) (show LoopsOk (z81LP N) (z81E N) N (z81R N) [(0, z81c0)] from ⟨z81lp0 N, trivial⟩) (z81core N)
end
end Go.Proofs.YtbekhaioddmliaaGreatDoor

