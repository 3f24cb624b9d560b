/- What functions of the program compute, as plain functions (printed). -/
import Derived.Test.YtbekhaioddmliaaGreatDoorQZeF1
namespace Go.Proofs.YtbekhaioddmliaaGreatDoor
open Go Go.RowKit
set_option maxRecDepth 100000
set_option linter.unusedVariables false
noncomputable section
def z43L1T (N : Nat) (c33 : List Str) (c34 : Int) (κ4_1 : List Str) (k3 : τ26) (self : Int → Option Int) (s35 : Int) : Option Int :=
 br (decide (s35 < c34))
  (bnd (geti c33 s35) fun t38 =>
  bnd (ref3_IsWord N t38) fun t41 =>
  br (!t41)
   (some (5 : Int))
   (bnd (slc κ4_1 (0 : Int) s35) fun t46 =>
   bnd (slices_Contains_string_string N t46 t38) fun t48 =>
   br (t48)
    (some (7 : Int))
    (self (IntKind.i64.wrap (s35 + (1 : Int))))))
  (k3)
def z43L1 (N : Nat) (c33 : List Str) (c34 : Int) (κ4_1 : List Str) (k3 : τ26) : Nat → Int → Option Int
 | 0, _ => none
 | n + 1, s35 => z43L1T N c33 c34 κ4_1 k3 (z43L1 N c33 c34 κ4_1 k3 n) s35
def z43L0T (N : Nat) (x0 : τ7) (c10 : τ7) (c11 : Int) (k0 : τ26) (self : Int → Option Int) (s12 : Int) : Option Int :=
 br (decide (s12 < c11))
  (bnd (geti c10 s12) fun t15 =>
  bnd (ref3_IsWord N t15.1) fun t20 =>
  br (!t20)
   (some (5 : Int))
   (br ((t15.2.length : Int) == (0 : Int))
    (some (9 : Int))
    (br (decide ((t15.2.length : Int) > (20 : Int)))
     (some (2 : Int))
     (z43L1 N t15.2 (t15.2.length : Int) t15.2 (br (decide (s12 > (0 : Int)))
        (bnd (geti x0 (IntKind.i64.wrap (s12 - (1 : Int)))) fun t58 =>
        br (Op.bytesLess t15.1 t58.1 || t15.1 == t58.1)
         (some (8 : Int))
         (self (IntKind.i64.wrap (s12 + (1 : Int)))))
        (self (IntKind.i64.wrap (s12 + (1 : Int))))) N (0 : Int)))))
  (k0)
def z43L0 (N : Nat) (x0 : τ7) (c10 : τ7) (c11 : Int) (k0 : τ26) : Nat → Int → Option Int
 | 0, _ => none
 | n + 1, s12 => z43L0T N x0 c10 c11 k0 (z43L0 N x0 c10 c11 k0 n) s12
def ref3_CheckSettings (N : Nat) (x0 : τ7) : Option Int :=
 br (decide ((x0.length : Int) > (30 : Int)))
  (some (2 : Int))
  (z43L0 N x0 x0 (x0.length : Int) (some (0 : Int)) N (0 : Int))
abbrev z43sg (f : SV [.v τ9] → BV [] → Option (Int)) : AF := { ps := [.v τ9], bs := [], rs := [.v τ6], cs := [], R := Int, out := fun z => ((z, ()), ()), f := f }
noncomputable abbrev z43g (N : Nat) : AF := z43sg fun x _ => ref3_CheckSettings N x.1
abbrev z43pk : SV [.v τ6] → BV [] → Int := fun x _ => x.1
def z43fn (N : Nat) : FuncId → Option Tmp → Option AF := fun f _ =>
 match f with
  | 50 => some (z106g N)
  | 56 => some (z7g N)
  | _ => none
theorem z43fn_ok (N : Nat) : FnOk (z43fn N) := by
 intro f q F h
 unfold z43fn at h
 split at h
 · cases h; exact z106sound N
 · cases h; exact z7sound N
 · cases h
def z43h : Nat → Hint := fun i =>
 match i with
 | 0 => ⟨[], [0, 10, 11, 12], [], [], [], []⟩
 | 3 => ⟨[], [0, 3, 4, 10, 11, 12, 33, 34, 35], [1004], [0, 3, 4, 10, 11, 12], [1004], []⟩
 | _ => hint0
abbrev z43E (N : Nat) : Env := mkE z43h (z43fn N) FF FF
noncomputable abbrev z43c1 : Code := cAt (bodyOf Tryz.f49) [true, true, false, true, false, false]
noncomputable abbrev z43c0 : Code := cAt (bodyOf Tryz.f49) [true, true, false, true, false, false, true, true, false, false, true, true, false, true, false, false]
noncomputable abbrev z43R (N : Nat) := resD (z43E N) Tryz.f49 (z43g N) z43pk
abbrev z43L1_fs : List (Nat × Sl) := [(0, .v τ9), (3, .v τ6), (4, .box 1004 0), (10, .v τ9), (11, .v τ6), (12, .v τ6), (33, .v τ22), (34, .v τ6), (35, .v τ6)]
abbrev z43L1_bs : List (Nat × Sb) := [(1004, .cells [.v .str, .v τ22])]
def z43L1_hd (x0 : τ7) (s12 : Int) (c10 : τ7) (c11 : Int) (c12 : Int) (c33 : List Str) (c34 : Int) (κ4_0 : Str) (κ4_1 : List Str) (s35 : Int) : St := ⟨64, [(0, .v τ9 x0), (3, .v τ6 s12), (4, .box 1004 0), (10, .v τ9 c10), (11, .v τ6 c11), (12, .v τ6 c12), (33, .v τ22 c33), (34, .v τ6 c34), (35, .v τ6 s35)], [(1004, .cells [.v .str κ4_0, .v τ22 κ4_1])]⟩
def z43L1_tl3 (x0 : τ7) (s12 : Int) (c10 : τ7) (c11 : Int) (c12 : Int) (_c33 : List Str) (_c34 : Int) (κ4_0 : Str) (κ4_1 : List Str) : St := ⟨64, [(0, .v τ9 x0), (3, .v τ6 s12), (4, .box 1004 0), (10, .v τ9 c10), (11, .v τ6 c11), (12, .v τ6 c12)], [(1004, .cells [.v .str κ4_0, .v τ22 κ4_1])]⟩
def z43L1_G (N : Nat) (x0 : τ7) (s12 : Int) (c10 : τ7) (c11 : Int) (c12 : Int) (c33 : List Str) (c34 : Int) (κ4_0 : Str) (κ4_1 : List Str) (s35 : Int) (k : Ex → St → Option Int) : Option Int :=
 z43L1 N c33 c34 κ4_1 (k (.exit 3) (z43L1_tl3 x0 s12 c10 c11 c12 c33 c34 κ4_0 κ4_1)) N s35
abbrev z43L1_F (N : Nat) : FV z43L1_fs → HV z43L1_bs → (Ex → St → Option Int) → Option Int := fun x y k => z43L1_G N x.1 x.2.1 x.2.2.2.1 x.2.2.2.2.1 x.2.2.2.2.2.1 x.2.2.2.2.2.2.1 x.2.2.2.2.2.2.2.1 y.1.1 y.1.2.1 x.2.2.2.2.2.2.2.2.1 k
abbrev z43L0_fs : List (Nat × Sl) := [(0, .v τ9), (10, .v τ9), (11, .v τ6), (12, .v τ6)]
abbrev z43L0_bs : List (Nat × Sb) := []
def z43L0_hd (x0 : τ7) (c10 : τ7) (c11 : Int) (s12 : Int) : St := ⟨64, [(0, .v τ9 x0), (10, .v τ9 c10), (11, .v τ6 c11), (12, .v τ6 s12)], []⟩
def z43L0_tl0 (_x0 : τ7) (_c10 : τ7) (_c11 : Int) : St := ⟨64, [], []⟩
def z43L0_G (N : Nat) (x0 : τ7) (c10 : τ7) (c11 : Int) (s12 : Int) (k : Ex → St → Option Int) : Option Int :=
 z43L0 N x0 c10 c11 (k (.exit 0) (z43L0_tl0 x0 c10 c11)) N s12
abbrev z43L0_F (N : Nat) : FV z43L0_fs → HV z43L0_bs → (Ex → St → Option Int) → Option Int := fun x _ k => z43L0_G N x.1 x.2.1 x.2.2.1 x.2.2.2.1 k
noncomputable def z43LP (N : Nat) : Nat → Code → St → (Ex → St → Option Int) → Option Int := fun i c =>
 match i with
 | 0 => (LPc 64 z43L0_fs z43L0_bs (z43L0_F N) (fun st k => iter (z43h 0) (exec (z43E N) N c 0) N st k))
 | 3 => (LPc 64 z43L1_fs z43L1_bs (z43L1_F N) (fun st k => iter (z43h 3) (exec (z43E N) N c 3) N st k))
 | i => fun st k => iter (z43h i) (exec (z43E N) N c i) N st k
theorem z43L1_step (N : Nat) (x0 : τ7) (s12 : Int) (c10 : τ7) (c11 : Int) (c12 : Int) (c33 : List Str) (c34 : Int) (κ4_0 : Str) (κ4_1 : List Str) (KX : Nat → St → Option Int) (I : St → Option Int) (s35 : Int) :
  execL (z43LP N) (z43E N) z43c0 3 (z43L1_hd x0 s12 c10 c11 c12 c33 c34 κ4_0 κ4_1 s35) (roundK (z43h 3) I KX (z43R N)) = z43L1T N c33 c34 κ4_1 (KX 3 (z43L1_tl3 x0 s12 c10 c11 c12 c33 c34 κ4_0 κ4_1)) (fun s35 => I (z43L1_hd x0 s12 c10 c11 c12 c33 c34 κ4_0 κ4_1 s35)) s35 := by kernel_rfl
theorem z43L1_ok (N : Nat) : ∀ x y k, (∀ st, k .ret st = (z43R N) st) → iter (z43h 3) (exec (z43E N) N z43c0 3) N ⟨64, unF z43L1_fs x, unH z43L1_bs y⟩ k = z43L1_F N x y k := fun x y k hk =>
 iter_link (S := (Int) × Unit) (z43h 3) _ (execL (z43LP N) (z43E N) z43c0 3) (z43R N) (fun st k hk => execL_eq _ _ N _ z43c0 3 (show LoopsOk (z43LP N) (z43E N) N (z43R N) [] from trivial) st k hk) (fun s => z43L1_hd x.1 x.2.1 x.2.2.2.1 x.2.2.2.2.1 x.2.2.2.2.2.1 x.2.2.2.2.2.2.1 x.2.2.2.2.2.2.2.1 y.1.1 y.1.2.1 s.1) k hk
  (fun self s => z43L1T N x.2.2.2.2.2.2.1 x.2.2.2.2.2.2.2.1 y.1.2.1 (k (.exit 3) (z43L1_tl3 x.1 x.2.1 x.2.2.2.1 x.2.2.2.2.1 x.2.2.2.2.2.1 x.2.2.2.2.2.2.1 x.2.2.2.2.2.2.2.1 y.1.1 y.1.2.1)) (fun s35 => self (s35, ())) s.1) (fun n s => z43L1 N x.2.2.2.2.2.2.1 x.2.2.2.2.2.2.2.1 y.1.2.1 (k (.exit 3) (z43L1_tl3 x.1 x.2.1 x.2.2.2.1 x.2.2.2.2.1 x.2.2.2.2.2.1 x.2.2.2.2.2.2.1 x.2.2.2.2.2.2.2.1 y.1.1 y.1.2.1)) n s.1) (fun _ => rfl) (fun _ _ => rfl)
  (fun I s => z43L1_step N x.1 x.2.1 x.2.2.2.1 x.2.2.2.2.1 x.2.2.2.2.2.1 x.2.2.2.2.2.2.1 x.2.2.2.2.2.2.2.1 y.1.1 y.1.2.1 (fun j => k (.exit j)) I s.1) N (x.2.2.2.2.2.2.2.2.1, ())
theorem z43lp3 (N : Nat) : ∀ st k, (∀ st, k .ret st = (z43R N) st) → z43LP N 3 z43c0 st k = iter (Env.hint (z43E N) 3) (exec (z43E N) N z43c0 3) N st k := fun st k hk => LPc_eq 64 z43L1_fs z43L1_bs _ _ (z43R N) (z43L1_ok N) _ st k hk (rfl)
theorem z43L0_step (N : Nat) (x0 : τ7) (c10 : τ7) (c11 : Int) (KX : Nat → St → Option Int) (I : St → Option Int) (s12 : Int) :
  execL (z43LP N) (z43E N) z43c1 0 (z43L0_hd x0 c10 c11 s12) (roundK (z43h 0) I KX (z43R N)) = z43L0T N x0 c10 c11 (KX 0 (z43L0_tl0 x0 c10 c11)) (fun s12 => I (z43L0_hd x0 c10 c11 s12)) s12 := by kernel_rfl
theorem z43L0_ok (N : Nat) : ∀ x y k, (∀ st, k .ret st = (z43R N) st) → iter (z43h 0) (exec (z43E N) N z43c1 0) N ⟨64, unF z43L0_fs x, unH z43L0_bs y⟩ k = z43L0_F N x y k := fun x _ k hk =>
 iter_link (S := (Int) × Unit) (z43h 0) _ (execL (z43LP N) (z43E N) z43c1 0) (z43R N) (fun st k hk => execL_eq _ _ N _ z43c1 0 (show LoopsOk (z43LP N) (z43E N) N (z43R N) [(3, z43c0)] from ⟨z43lp3 N, trivial⟩) st k hk) (fun s => z43L0_hd x.1 x.2.1 x.2.2.1 s.1) k hk
  (fun self s => z43L0T N x.1 x.2.1 x.2.2.1 (k (.exit 0) (z43L0_tl0 x.1 x.2.1 x.2.2.1)) (fun s12 => self (s12, ())) s.1) (fun n s => z43L0 N x.1 x.2.1 x.2.2.1 (k (.exit 0) (z43L0_tl0 x.1 x.2.1 x.2.2.1)) n s.1) (fun _ => rfl) (fun _ _ => rfl)
  (fun I s => z43L0_step N x.1 x.2.1 x.2.2.1 (fun j => k (.exit j)) I s.1) N (x.2.2.2.1, ())
theorem z43lp0 (N : Nat) : ∀ st k, (∀ st, k .ret st = (z43R N) st) → z43LP N 0 z43c1 st k = iter (Env.hint (z43E N) 0) (exec (z43E N) N z43c1 0) N st k := fun st k hk => LPc_eq 64 z43L0_fs z43L0_bs _ _ (z43R N) (z43L0_ok N) _ st k hk (rfl)
theorem z43core (N : Nat) (x : SV [.v τ9]) (y : BV []) : runL (z43E N) Tryz.f49 (z43g N) z43pk (z43LP N) x y = ref3_CheckSettings N x.1 := by kernel_rfl
theorem z43sound (N : Nat) : Snd 49 (z43g N) :=
 sndL (z43fn_ok N) Tryz.func49 rfl Tryz.call49 (z43g N) z43pk (fun _ _ => rfl) N (z43LP N) (show LoopsOk (z43LP N) (z43E N) N (z43R N) [(0, z43c1), (3, z43c0)] from ⟨z43lp0 N, z43lp3 N, trivial⟩) (z43core N)
def z75L0T (_N : Nat) (x1 : Str) (x0 : τ7) (c9 : Int) (k0 : Option τ27) (self : Int → Option τ27) (s10 : Int) : Option τ27 :=
 br (decide (s10 < c9))
  (bnd (geti x0 s10) fun t12 =>
  br (t12.1 == x1)
   (some (t12, true))
   (self (IntKind.i64.wrap (s10 + (1 : Int)))))
  (k0)
def z75L0 (N : Nat) (x1 : Str) (x0 : τ7) (c9 : Int) (k0 : Option τ27) : Nat → Int → Option τ27
 | 0, _ => none
 | n + 1, s10 => z75L0T N x1 x0 c9 k0 (z75L0 N x1 x0 c9 k0 n) s10
def ref3_settingOf (N : Nat) (x0 : τ7) (x1 : Str) : Option τ27 :=
 z75L0 N x1 x0 (x0.length : Int) (some ((([] : Str), ([] : List Str)), false)) N (0 : Int)
abbrev z75sg (f : SV [.v τ9, .v .str] → BV [] → Option τ27) : AF := { ps := [.v τ9, .v .str], bs := [], rs := [.v (.pr .str τ22), .v .bool], cs := [], R := (Str × List Str) × Bool, out := fun z => ((z.1, z.2, ()), ()), f := f }
noncomputable abbrev z75g (N : Nat) : AF := z75sg fun x _ => ref3_settingOf N x.1 x.2.1
abbrev z75pk : SV [.v (.pr .str τ22), .v .bool] → BV [] → τ27 := fun x _ => (x.1, x.2.1)
def z75fn (_N : Nat) : FuncId → Option Tmp → Option AF := fun f _ =>
 match f with
  | _ => none
theorem z75fn_ok (N : Nat) : FnOk (z75fn N) := by
 intro f q F h
 unfold z75fn at h
 split at h
 · cases h
def z75h : Nat → Hint := fun i =>
 match i with
 | 0 => ⟨[], [1, 4, 8, 9, 10], [1004], [4], [1004], []⟩
 | _ => hint0
abbrev z75E (N : Nat) : Env := mkE z75h (z75fn N) FF FF
noncomputable abbrev z75c0 : Code := cAt (bodyOf Tryz.f100) [true, false, true, false, false]
noncomputable abbrev z75R (N : Nat) := resD (z75E N) Tryz.f100 (z75g N) z75pk
abbrev z75L0_fs : List (Nat × Sl) := [(1, .v .str), (4, .box 1004 0), (8, .v τ9), (9, .v τ6), (10, .v τ6)]
abbrev z75L0_bs : List (Nat × Sb) := [(1004, .cells [.v .str, .nilS])]
def z75L0_hd (x1 : Str) (x0 : τ7) (c9 : Int) (κ4_0 : Str) (s10 : Int) : St := ⟨21, [(1, .v .str x1), (4, .box 1004 0), (8, .v τ9 x0), (9, .v τ6 c9), (10, .v τ6 s10)], [(1004, .cells [.v .str κ4_0, .nilS])]⟩
def z75L0_tl0 (_x1 : Str) (_x0 : τ7) (_c9 : Int) (κ4_0 : Str) : St := ⟨21, [(4, .box 1004 0)], [(1004, .cells [.v .str κ4_0, .nilS])]⟩
def z75L0_G (N : Nat) (x1 : Str) (x0 : τ7) (c9 : Int) (κ4_0 : Str) (s10 : Int) (k : Ex → St → Option τ27) : Option τ27 :=
 z75L0 N x1 x0 c9 (k (.exit 0) (z75L0_tl0 x1 x0 c9 κ4_0)) N s10
abbrev z75L0_F (N : Nat) : FV z75L0_fs → HV z75L0_bs → (Ex → St → Option τ27) → Option τ27 := fun x y k => z75L0_G N x.1 x.2.2.1 x.2.2.2.1 y.1.1 x.2.2.2.2.1 k
noncomputable def z75LP (N : Nat) : Nat → Code → St → (Ex → St → Option τ27) → Option τ27 := fun i c =>
 match i with
 | 0 => (LPc 21 z75L0_fs z75L0_bs (z75L0_F N) (fun st k => iter (z75h 0) (exec (z75E N) N c 0) N st k))
 | i => fun st k => iter (z75h i) (exec (z75E N) N c i) N st k
theorem z75L0_step (N : Nat) (x1 : Str) (x0 : τ7) (c9 : Int) (κ4_0 : Str) (KX : Nat → St → Option τ27) (I : St → Option τ27) (s10 : Int) :
  execL (z75LP N) (z75E N) z75c0 0 (z75L0_hd x1 x0 c9 κ4_0 s10) (roundK (z75h 0) I KX (z75R N)) = z75L0T N x1 x0 c9 (KX 0 (z75L0_tl0 x1 x0 c9 κ4_0)) (fun s10 => I (z75L0_hd x1 x0 c9 κ4_0 s10)) s10 := by kernel_rfl
theorem z75L0_ok (N : Nat) : ∀ x y k, (∀ st, k .ret st = (z75R N) st) → iter (z75h 0) (exec (z75E N) N z75c0 0) N ⟨21, unF z75L0_fs x, unH z75L0_bs y⟩ k = z75L0_F N x y k := fun x y k hk =>
 iter_link (S := (Int) × Unit) (z75h 0) _ (execL (z75LP N) (z75E N) z75c0 0) (z75R N) (fun st k hk => execL_eq _ _ N _ z75c0 0 (show LoopsOk (z75LP N) (z75E N) N (z75R N) [] from trivial) st k hk) (fun s => z75L0_hd x.1 x.2.2.1 x.2.2.2.1 y.1.1 s.1) k hk
  (fun self s => z75L0T N x.1 x.2.2.1 x.2.2.2.1 (k (.exit 0) (z75L0_tl0 x.1 x.2.2.1 x.2.2.2.1 y.1.1)) (fun s10 => self (s10, ())) s.1) (fun n s => z75L0 N x.1 x.2.2.1 x.2.2.2.1 (k (.exit 0) (z75L0_tl0 x.1 x.2.2.1 x.2.2.2.1 y.1.1)) n s.1) (fun _ => rfl) (fun _ _ => rfl)
  (fun I s => z75L0_step N x.1 x.2.2.1 x.2.2.2.1 y.1.1 (fun j => k (.exit j)) I s.1) N (x.2.2.2.2.1, ())
theorem z75lp0 (N : Nat) : ∀ st k, (∀ st, k .ret st = (z75R N) st) → z75LP N 0 z75c0 st k = iter (Env.hint (z75E N) 0) (exec (z75E N) N z75c0 0) N st k := fun st k hk => LPc_eq 21 z75L0_fs z75L0_bs _ _ (z75R N) (z75L0_ok N) _ st k hk (rfl)
theorem z75core (N : Nat) (x : SV [.v τ9, .v .str]) (y : BV []) : runL (z75E N) Tryz.f100 (z75g N) z75pk (z75LP N) x y = ref3_settingOf N x.1 x.2.1 := by kernel_rfl
theorem z75sound (N : Nat) : Snd 100 (z75g N) :=
 sndL (z75fn_ok N) Tryz.func100 rfl Tryz.call100 (z75g N) z75pk (fun _ _ => rfl) N (z75LP N) (show LoopsOk (z75LP N) (z75E N) N (z75R N) [(0, z75c0)] from ⟨z75lp0 N, trivial⟩) (z75core N)
def z56L0T (N : Nat) (x0 : τ7) (x1 : List τ5) (c15 : List τ5) (c16 : Int) (k0 : τ26) (self : Int → Option Int) (s17 : Int) : Option Int :=
 br (decide (s17 < c16))
  (bnd (geti c15 s17) fun t20 =>
  bnd (ref3_settingOf N x0 t20.1) fun t26 =>
  br (!t26.2)
   (some (5 : Int))
   (bnd (slices_Contains_string_string N t26.1.2 t20.2) fun t37 =>
   br (!t37)
    (some (1 : Int))
    (bnd (geti t26.1.2 (0 : Int)) fun t42 =>
    br (t42 == t20.2)
     (some (3 : Int))
     (br (decide (s17 > (0 : Int)))
      (bnd (geti x1 (IntKind.i64.wrap (s17 - (1 : Int)))) fun t56 =>
      br (Op.bytesLess t20.1 t56.1 || t20.1 == t56.1)
       (some (8 : Int))
       (self (IntKind.i64.wrap (s17 + (1 : Int)))))
      (self (IntKind.i64.wrap (s17 + (1 : Int))))))))
  (k0)
def z56L0 (N : Nat) (x0 : τ7) (x1 : List τ5) (c15 : List τ5) (c16 : Int) (k0 : τ26) : Nat → Int → Option Int
 | 0, _ => none
 | n + 1, s17 => z56L0T N x0 x1 c15 c16 k0 (z56L0 N x0 x1 c15 c16 k0 n) s17
def ref3_CheckConfig (N : Nat) (x0 : τ7) (x1 : List τ5) : Option Int :=
 bnd (ref3_CheckSettings N x0) fun t11 =>
 br (t11 != (0 : Int))
  (some t11)
  (z56L0 N x0 x1 x1 (x1.length : Int) (some (0 : Int)) N (0 : Int))
abbrev z56sg (f : SV [.v τ9, .v τ0] → BV [] → Option (Int)) : AF := { ps := [.v τ9, .v τ0], bs := [], rs := [.v τ6], cs := [], R := Int, out := fun z => ((z, ()), ()), f := f }
noncomputable abbrev z56g (N : Nat) : AF := z56sg fun x _ => ref3_CheckConfig N x.1 x.2.1
abbrev z56pk : SV [.v τ6] → BV [] → Int := fun x _ => x.1
def z56fn (N : Nat) : FuncId → Option Tmp → Option AF := fun f _ =>
 match f with
  | 49 => some (z43g N)
  | 56 => some (z7g N)
  | 100 => some (z75g N)
  | _ => none
theorem z56fn_ok (N : Nat) : FnOk (z56fn N) := by
 intro f q F h
 unfold z56fn at h
 split at h
 · cases h; exact z43sound N
 · cases h; exact z7sound N
 · cases h; exact z75sound N
 · cases h
def z56h : Nat → Hint := fun i =>
 match i with
 | 0 => ⟨[], [0, 1, 15, 16, 17], [], [], [], []⟩
 | _ => hint0
abbrev z56E (N : Nat) : Env := mkE z56h (z56fn N) FF FF
noncomputable abbrev z56c0 : Code := cAt (bodyOf Tryz.f39) [true, true, false, true, false, false]
noncomputable abbrev z56R (N : Nat) := resD (z56E N) Tryz.f39 (z56g N) z56pk
abbrev z56L0_fs : List (Nat × Sl) := [(0, .v τ9), (1, .v τ0), (15, .v τ0), (16, .v τ6), (17, .v τ6)]
abbrev z56L0_bs : List (Nat × Sb) := []
def z56L0_hd (x0 : τ7) (x1 : List τ5) (c15 : List τ5) (c16 : Int) (s17 : Int) : St := ⟨62, [(0, .v τ9 x0), (1, .v τ0 x1), (15, .v τ0 c15), (16, .v τ6 c16), (17, .v τ6 s17)], []⟩
def z56L0_tl0 (_x0 : τ7) (_x1 : List τ5) (_c15 : List τ5) (_c16 : Int) : St := ⟨62, [], []⟩
def z56L0_G (N : Nat) (x0 : τ7) (x1 : List τ5) (c15 : List τ5) (c16 : Int) (s17 : Int) (k : Ex → St → Option Int) : Option Int :=
 z56L0 N x0 x1 c15 c16 (k (.exit 0) (z56L0_tl0 x0 x1 c15 c16)) N s17
abbrev z56L0_F (N : Nat) : FV z56L0_fs → HV z56L0_bs → (Ex → St → Option Int) → Option Int := fun x _ k => z56L0_G N x.1 x.2.1 x.2.2.1 x.2.2.2.1 x.2.2.2.2.1 k
noncomputable def z56LP (N : Nat) : Nat → Code → St → (Ex → St → Option Int) → Option Int := fun i c =>
 match i with
 | 0 => (LPc 62 z56L0_fs z56L0_bs (z56L0_F N) (fun st k => iter (z56h 0) (exec (z56E N) N c 0) N st k))
 | i => fun st k => iter (z56h i) (exec (z56E N) N c i) N st k
theorem z56L0_step (N : Nat) (x0 : τ7) (x1 : List τ5) (c15 : List τ5) (c16 : Int) (KX : Nat → St → Option Int) (I : St → Option Int) (s17 : Int) :
  execL (z56LP N) (z56E N) z56c0 0 (z56L0_hd x0 x1 c15 c16 s17) (roundK (z56h 0) I KX (z56R N)) = z56L0T N x0 x1 c15 c16 (KX 0 (z56L0_tl0 x0 x1 c15 c16)) (fun s17 => I (z56L0_hd x0 x1 c15 c16 s17)) s17 := by kernel_rfl
theorem z56L0_ok (N : Nat) : ∀ x y k, (∀ st, k .ret st = (z56R N) st) → iter (z56h 0) (exec (z56E N) N z56c0 0) N ⟨62, unF z56L0_fs x, unH z56L0_bs y⟩ k = z56L0_F N x y k := fun x _ k hk =>
 iter_link (S := (Int) × Unit) (z56h 0) _ (execL (z56LP N) (z56E N) z56c0 0) (z56R N) (fun st k hk => execL_eq _ _ N _ z56c0 0 (show LoopsOk (z56LP N) (z56E N) N (z56R N) [] from trivial) st k hk) (fun s => z56L0_hd x.1 x.2.1 x.2.2.1 x.2.2.2.1 s.1) k hk
  (fun self s => z56L0T N x.1 x.2.1 x.2.2.1 x.2.2.2.1 (k (.exit 0) (z56L0_tl0 x.1 x.2.1 x.2.2.1 x.2.2.2.1)) (fun s17 => self (s17, ())) s.1) (fun n s => z56L0 N x.1 x.2.1 x.2.2.1 x.2.2.2.1 (k (.exit 0) (z56L0_tl0 x.1 x.2.1 x.2.2.1 x.2.2.2.1)) n s.1) (fun _ => rfl) (fun _ _ => rfl)
  (fun I s => z56L0_step N x.1 x.2.1 x.2.2.1 x.2.2.2.1 (fun j => k (.exit j)) I s.1) N (x.2.2.2.2.1, ())
theorem z56lp0 (N : Nat) : ∀ st k, (∀ st, k .ret st = (z56R N) st) → z56LP N 0 z56c0 st k = iter (Env.hint (z56E N) 0) (exec (z56E N) N z56c0 0) N st k := fun st k hk => LPc_eq 62 z56L0_fs z56L0_bs _ _ (z56R N) (z56L0_ok N) _ st k hk (rfl)
theorem z56core (N : Nat) (x : SV [.v τ9, .v τ0]) (y : BV []) : runL (z56E N) Tryz.f39 (z56g N) z56pk (z56LP N) x y = ref3_CheckConfig N x.1 x.2.1 := by kernel_rfl
theorem z56sound (N : Nat) : Snd 39 (z56g N) :=
 sndL (z56fn_ok N) Tryz.func39 rfl Tryz.call39 (z56g N) z56pk (fun _ _ => rfl) N (z56LP N) (show LoopsOk (z56LP N) (z56E N) N (z56R N) [(0, z56c0)] from ⟨z56lp0 N, trivial⟩) (z56core N)
def z91L0T (_N : Nat) (x2 : Str) (x1 : List τ5) (c12 : Int) (k0 : Option Str) (self : Int → Option Str) (s13 : Int) : Option Str :=
 br (decide (s13 < c12))
  (bnd (geti x1 s13) fun t15 =>
  br (t15.1 == x2)
   (some t15.2)
   (self (IntKind.i64.wrap (s13 + (1 : Int)))))
  (k0)
def z91L0 (N : Nat) (x2 : Str) (x1 : List τ5) (c12 : Int) (k0 : Option Str) : Nat → Int → Option Str
 | 0, _ => none
 | n + 1, s13 => z91L0T N x2 x1 c12 k0 (z91L0 N x2 x1 c12 k0 n) s13
def ref3_valueOf (N : Nat) (x0 : τ7) (x1 : List τ5) (x2 : Str) : Option Str :=
 z91L0 N x2 x1 (x1.length : Int) (bnd (ref3_settingOf N x0 x2) fun t27 =>
   bnd (geti t27.1.2 (0 : Int)) fun t32 =>
   some t32) N (0 : Int)
abbrev z91sg (f : SV [.v τ9, .v τ0, .v .str] → BV [] → Option (Str)) : AF := { ps := [.v τ9, .v τ0, .v .str], bs := [], rs := [.v .str], cs := [], R := Str, out := fun z => ((z, ()), ()), f := f }
noncomputable abbrev z91g (N : Nat) : AF := z91sg fun x _ => ref3_valueOf N x.1 x.2.1 x.2.2.1
abbrev z91pk : SV [.v .str] → BV [] → Str := fun x _ => x.1
def z91fn (N : Nat) : FuncId → Option Tmp → Option AF := fun f _ =>
 match f with
  | 100 => some (z75g N)
  | _ => none
theorem z91fn_ok (N : Nat) : FnOk (z91fn N) := by
 intro f q F h
 unfold z91fn at h
 split at h
 · cases h; exact z75sound N
 · cases h
def z91h : Nat → Hint := fun i =>
 match i with
 | 0 => ⟨[], [0, 2, 11, 12, 13], [], [0, 2], [], []⟩
 | _ => hint0
abbrev z91E (N : Nat) : Env := mkE z91h (z91fn N) FF FF
noncomputable abbrev z91c0 : Code := cAt (bodyOf Tryz.f101) [true, false, true, false, false]
noncomputable abbrev z91R (N : Nat) := resD (z91E N) Tryz.f101 (z91g N) z91pk
abbrev z91L0_fs : List (Nat × Sl) := [(0, .v τ9), (2, .v .str), (11, .v τ0), (12, .v τ6), (13, .v τ6)]
abbrev z91L0_bs : List (Nat × Sb) := []
def z91L0_hd (x0 : τ7) (x2 : Str) (x1 : List τ5) (c12 : Int) (s13 : Int) : St := ⟨34, [(0, .v τ9 x0), (2, .v .str x2), (11, .v τ0 x1), (12, .v τ6 c12), (13, .v τ6 s13)], []⟩
def z91L0_tl0 (x0 : τ7) (x2 : Str) (_x1 : List τ5) (_c12 : Int) : St := ⟨34, [(0, .v τ9 x0), (2, .v .str x2)], []⟩
def z91L0_G (N : Nat) (x0 : τ7) (x2 : Str) (x1 : List τ5) (c12 : Int) (s13 : Int) (k : Ex → St → Option Str) : Option Str :=
 z91L0 N x2 x1 c12 (k (.exit 0) (z91L0_tl0 x0 x2 x1 c12)) N s13
abbrev z91L0_F (N : Nat) : FV z91L0_fs → HV z91L0_bs → (Ex → St → Option Str) → Option Str := fun x _ k => z91L0_G N x.1 x.2.1 x.2.2.1 x.2.2.2.1 x.2.2.2.2.1 k
noncomputable def z91LP (N : Nat) : Nat → Code → St → (Ex → St → Option Str) → Option Str := fun i c =>
 match i with
 | 0 => (LPc 34 z91L0_fs z91L0_bs (z91L0_F N) (fun st k => iter (z91h 0) (exec (z91E N) N c 0) N st k))
 | i => fun st k => iter (z91h i) (exec (z91E N) N c i) N st k
theorem z91L0_step (N : Nat) (x0 : τ7) (x2 : Str) (x1 : List τ5) (c12 : Int) (KX : Nat → St → Option Str) (I : St → Option Str) (s13 : Int) :
  execL (z91LP N) (z91E N) z91c0 0 (z91L0_hd x0 x2 x1 c12 s13) (roundK (z91h 0) I KX (z91R N)) = z91L0T N x2 x1 c12 (KX 0 (z91L0_tl0 x0 x2 x1 c12)) (fun s13 => I (z91L0_hd x0 x2 x1 c12 s13)) s13 := by kernel_rfl
theorem z91L0_ok (N : Nat) : ∀ x y k, (∀ st, k .ret st = (z91R N) st) → iter (z91h 0) (exec (z91E N) N z91c0 0) N ⟨34, unF z91L0_fs x, unH z91L0_bs y⟩ k = z91L0_F N x y k := fun x _ k hk =>
 iter_link (S := (Int) × Unit) (z91h 0) _ (execL (z91LP N) (z91E N) z91c0 0) (z91R N) (fun st k hk => execL_eq _ _ N _ z91c0 0 (show LoopsOk (z91LP N) (z91E N) N (z91R N) [] from trivial) st k hk) (fun s => z91L0_hd x.1 x.2.1 x.2.2.1 x.2.2.2.1 s.1) k hk
  (fun self s => z91L0T N x.2.1 x.2.2.1 x.2.2.2.1 (k (.exit 0) (z91L0_tl0 x.1 x.2.1 x.2.2.1 x.2.2.2.1)) (fun s13 => self (s13, ())) s.1) (fun n s => z91L0 N x.2.1 x.2.2.1 x.2.2.2.1 (k (.exit 0) (z91L0_tl0 x.1 x.2.1 x.2.2.1 x.2.2.2.1)) n s.1) (fun _ => rfl) (fun _ _ => rfl)
  (fun I s => z91L0_step N x.1 x.2.1 x.2.2.1 x.2.2.2.1 (fun j => k (.exit j)) I s.1) N (x.2.2.2.2.1, ())
theorem z91lp0 (N : Nat) : ∀ st k, (∀ st, k .ret st = (z91R N) st) → z91LP N 0 z91c0 st k = iter (Env.hint (z91E N) 0) (exec (z91E N) N z91c0 0) N st k := fun st k hk => LPc_eq 34 z91L0_fs z91L0_bs _ _ (z91R N) (z91L0_ok N) _ st k hk (rfl)
theorem z91core (N : Nat) (x : SV [.v τ9, .v τ0, .v .str]) (y : BV []) : runL (z91E N) Tryz.f101 (z91g N) z91pk (z91LP N) x y = ref3_valueOf N x.1 x.2.1 x.2.2.1 := by kernel_rfl
theorem z91sound (N : Nat) : Snd 101 (z91g N) :=
 sndL (z91fn_ok N) Tryz.func101 rfl Tryz.call101 (z91g N) z91pk (fun _ _ => rfl) N (z91LP N) (show LoopsOk (z91LP N) (z91E N) N (z91R N) [(0, z91c0)] from ⟨z91lp0 N, trivial⟩) (z91core N)
def z47L0T (_N : Nat) (x1 : List τ5) (c20 : Int) (k0 : τ24 → Option (Str × Int)) (self : Int → τ24 → Option (Str × Int)) (s21 : Int) (w1007 : List Str) : Option (Str × Int) :=
 br (decide (s21 < c20))
  (bnd (geti x1 s21) fun t23 =>
  br (decide (t23.1.length + ([61] : Str).length ≤ 9223372036854775807))
   (br (decide ((t23.1 ++ ([61] : Str)).length + t23.2.length ≤ 9223372036854775807))
    (br (decide ((w1007.length + [(t23.1 ++ ([61] : Str)) ++ t23.2].length) * (24 * Ty.sz .str) ≤ 140737488355328))
     (self (IntKind.i64.wrap (s21 + (1 : Int))) (w1007 ++ [(t23.1 ++ ([61] : Str)) ++ t23.2]))
     none)
    none)
   none)
  (k0 w1007)
def z47L0 (N : Nat) (x1 : List τ5) (c20 : Int) (k0 : τ24 → Option (Str × Int)) : Nat → Int → τ24 → Option (Str × Int)
 | 0, _, _ => none
 | n + 1, s21, w1007 => z47L0T N x1 c20 k0 (z47L0 N x1 c20 k0 n) s21 w1007
def config_ConfigText (N : Nat) (x0 : τ7) (x1 : List τ5) : Option (Str × Int) :=
 bnd (config_CheckConfig N x0 x1) fun t12 =>
 br (t12 != (0 : Int))
  (some (([] : Str), t12))
  (br ((x1.length : Int) == (0 : Int))
   (some (([45] : Str), (0 : Int)))
   (z47L0 N x1 (x1.length : Int) (fun o0_w1007 =>
     bnd (strings_Join o0_w1007 ([44] : Str)) fun t36 =>
     some (t36, (0 : Int))) N (0 : Int) ([] : List Str)))
abbrev z47sg (f : SV [.v τ9, .v τ0] → BV [] → Option (Str × Int)) : AF := { ps := [.v τ9, .v τ0], bs := [], rs := [.v .str, .v τ6], cs := [], R := Str × Int, out := fun z => ((z.1, z.2, ()), ()), f := f }
noncomputable abbrev z47g (N : Nat) : AF := z47sg fun x _ => config_ConfigText N x.1 x.2.1
abbrev z47pk : SV [.v .str, .v τ6] → BV [] → (Str × Int) := fun x _ => (x.1, x.2.1)
def z47fn (N : Nat) : FuncId → Option Tmp → Option AF := fun f _ =>
 match f with
  | 29 => some (z40g N)
  | 93 => some (z95sg fun x _ => strings_Join x.1 x.2.1)
  | _ => none
theorem z47fn_ok (N : Nat) : FnOk (z47fn N) := by
 intro f q F h
 unfold z47fn at h
 split at h
 · cases h; exact z40sound N
 · cases h; exact z95sound
 · cases h
def z47h : Nat → Hint := fun i =>
 match i with
 | 0 => ⟨[], [7, 19, 20, 21], [1007], [7], [1007], []⟩
 | _ => hint0
abbrev z47E (N : Nat) : Env := mkE z47h (z47fn N) FF FF
noncomputable abbrev z47c0 : Code := cAt (bodyOf Tryz.f36) [true, true, true, true, false, true, false, false]
noncomputable abbrev z47R (N : Nat) := resD (z47E N) Tryz.f36 (z47g N) z47pk
abbrev z47L0_fs : List (Nat × Sl) := [(7, .row 1007), (19, .v τ0), (20, .v τ6), (21, .v τ6)]
abbrev z47L0_bs : List (Nat × Sb) := [(1007, .row 9 .str false)]
def z47L0_hd (x1 : List τ5) (c20 : Int) (s21 : Int) (w1007 : List Str) : St := ⟨37, [(7, .row 1007), (19, .v τ0 x1), (20, .v τ6 c20), (21, .v τ6 s21)], [(1007, .row 9 .str false w1007)]⟩
def z47L0_tl0 (_x1 : List τ5) (_c20 : Int) (o0_w1007 : List Str) : St := ⟨37, [(7, .row 1007)], [(1007, .row 9 .str false o0_w1007)]⟩
def z47L0_G (N : Nat) (x1 : List τ5) (c20 : Int) (s21 : Int) (w1007 : List Str) (k : Ex → St → Option (Str × Int)) : Option (Str × Int) :=
 z47L0 N x1 c20 (fun o0_w1007 => k (.exit 0) (z47L0_tl0 x1 c20 o0_w1007)) N s21 w1007
abbrev z47L0_F (N : Nat) : FV z47L0_fs → HV z47L0_bs → (Ex → St → Option (Str × Int)) → Option (Str × Int) := fun x y k => z47L0_G N x.2.1 x.2.2.1 x.2.2.2.1 y.1 k
noncomputable def z47LP (N : Nat) : Nat → Code → St → (Ex → St → Option (Str × Int)) → Option (Str × Int) := fun i c =>
 match i with
 | 0 => (LPc 37 z47L0_fs z47L0_bs (z47L0_F N) (fun st k => iter (z47h 0) (exec (z47E N) N c 0) N st k))
 | i => fun st k => iter (z47h i) (exec (z47E N) N c i) N st k
theorem z47L0_step (N : Nat) (x1 : List τ5) (c20 : Int) (KX : Nat → St → Option (Str × Int)) (I : St → Option (Str × Int)) (s21 : Int) (w1007 : List Str) :
  execL (z47LP N) (z47E N) z47c0 0 (z47L0_hd x1 c20 s21 w1007) (roundK (z47h 0) I KX (z47R N)) = z47L0T N x1 c20 (fun o0_w1007 => KX 0 (z47L0_tl0 x1 c20 o0_w1007)) (fun s21 w1007 => I (z47L0_hd x1 c20 s21 w1007)) s21 w1007 := by kernel_rfl
theorem z47L0_ok (N : Nat) : ∀ x y k, (∀ st, k .ret st = (z47R N) st) → iter (z47h 0) (exec (z47E N) N z47c0 0) N ⟨37, unF z47L0_fs x, unH z47L0_bs y⟩ k = z47L0_F N x y k := fun x y k hk =>
 iter_link (S := (Int) × τ24 × Unit) (z47h 0) _ (execL (z47LP N) (z47E N) z47c0 0) (z47R N) (fun st k hk => execL_eq _ _ N _ z47c0 0 (show LoopsOk (z47LP N) (z47E N) N (z47R N) [] from trivial) st k hk) (fun s => z47L0_hd x.2.1 x.2.2.1 s.1 s.2.1) k hk
  (fun self s => z47L0T N x.2.1 x.2.2.1 (fun o0_w1007 => k (.exit 0) (z47L0_tl0 x.2.1 x.2.2.1 o0_w1007)) (fun s21 w1007 => self (s21, w1007, ())) s.1 s.2.1) (fun n s => z47L0 N x.2.1 x.2.2.1 (fun o0_w1007 => k (.exit 0) (z47L0_tl0 x.2.1 x.2.2.1 o0_w1007)) n s.1 s.2.1) (fun _ => rfl) (fun _ _ => rfl)
  (fun I s => z47L0_step N x.2.1 x.2.2.1 (fun j => k (.exit j)) I s.1 s.2.1) N (x.2.2.2.1, y.1, ())
theorem z47lp0 (N : Nat) : ∀ st k, (∀ st, k .ret st = (z47R N) st) → z47LP N 0 z47c0 st k = iter (Env.hint (z47E N) 0) (exec (z47E N) N z47c0 0) N st k := fun st k hk => LPc_eq 37 z47L0_fs z47L0_bs _ _ (z47R N) (z47L0_ok N) _ st k hk (rfl)
theorem z47core (N : Nat) (x : SV [.v τ9, .v τ0]) (y : BV []) : runL (z47E N) Tryz.f36 (z47g N) z47pk (z47LP N) x y = config_ConfigText N x.1 x.2.1 := by kernel_rfl
theorem z47sound (N : Nat) : Snd 36 (z47g N) :=
 sndL (z47fn_ok N) Tryz.func36 rfl Tryz.call36 (z47g N) z47pk (fun _ _ => rfl) N (z47LP N) (show LoopsOk (z47LP N) (z47E N) N (z47R N) [(0, z47c0)] from ⟨z47lp0 N, trivial⟩) (z47core N)
def config_CheckConditions_1 (_N : Nat) (x0 : Int) : Option Bool :=
 br (decide (x0 < (32 : Int)))
  (some true)
  (some (decide (x0 > (126 : Int))))
abbrev z22sg (f : SV [.v (.int .i32)] → BV [] → Option (Bool)) : AF := { ps := [.v (.int .i32)], bs := [], rs := [.v .bool], cs := [], R := Bool, out := fun z => ((z, ()), ()), f := f }
noncomputable abbrev z22g (N : Nat) : AF := z22sg fun x _ => config_CheckConditions_1 N x.1
abbrev z22pk : SV [.v .bool] → BV [] → Bool := fun x _ => x.1
def z22fn (_N : Nat) : FuncId → Option Tmp → Option AF := fun f _ =>
 match f with
  | _ => none
theorem z22fn_ok (N : Nat) : FnOk (z22fn N) := by
 intro f q F h
 unfold z22fn at h
 split at h
 · cases h
def z22h : Nat → Hint := fun i =>
 match i with
 | _ => hint0
abbrev z22E (N : Nat) : Env := mkE z22h (z22fn N) FF FF
noncomputable def z22LP (N : Nat) : Nat → Code → St → (Ex → St → Option Bool) → Option Bool := fun i c =>
 match i with
 | i => fun st k => iter (z22h i) (exec (z22E N) N c i) N st k
theorem z22core (N : Nat) (x : SV [.v (.int .i32)]) (y : BV []) : runL (z22E N) Tryz.f118 (z22g N) z22pk (z22LP N) x y = config_CheckConditions_1 N x.1 := by kernel_rfl
theorem z22sound (N : Nat) : Snd 118 (z22g N) :=
 sndL (z22fn_ok N) Tryz.func118 rfl Tryz.call118 (z22g N) z22pk (fun _ _ => rfl) N (z22LP N) (show LoopsOk (z22LP N) (z22E N) N (resD (z22E N) Tryz.f118 (z22g N) z22pk) [] from trivial) (z22core N)
def z46L0T (N : Nat) (x0 : List τ5) (c8 : List τ5) (c9 : Int) (k0 : τ26) (self : Int → Option Int) (s10 : Int) : Option Int :=
 br (decide (s10 < c9))
  (bnd (geti c8 s10) fun t13 =>
  bnd (config_IsWord N t13.1) fun t18 =>
  br (!t18)
   (some (5 : Int))
   (bnd (config_IsWord N t13.2) fun t23 =>
   br (!t23)
    (some (1 : Int))
    (br (decide (s10 > (0 : Int)))
     (bnd (geti x0 (IntKind.i64.wrap (s10 - (1 : Int)))) fun t34 =>
     br (Op.bytesLess t13.1 t34.1 || t13.1 == t34.1)
      (some (8 : Int))
      (self (IntKind.i64.wrap (s10 + (1 : Int)))))
     (self (IntKind.i64.wrap (s10 + (1 : Int)))))))
  (k0)
def z46L0 (N : Nat) (x0 : List τ5) (c8 : List τ5) (c9 : Int) (k0 : τ26) : Nat → Int → Option Int
 | 0, _ => none
 | n + 1, s10 => z46L0T N x0 c8 c9 k0 (z46L0 N x0 c8 c9 k0 n) s10
def config_CheckPairs (N : Nat) (x0 : List τ5) : Option Int :=
 br (decide ((x0.length : Int) > (30 : Int)))
  (some (2 : Int))
  (z46L0 N x0 x0 (x0.length : Int) (some (0 : Int)) N (0 : Int))
abbrev z46sg (f : SV [.v τ0] → BV [] → Option (Int)) : AF := { ps := [.v τ0], bs := [], rs := [.v τ6], cs := [], R := Int, out := fun z => ((z, ()), ()), f := f }
noncomputable abbrev z46g (N : Nat) : AF := z46sg fun x _ => config_CheckPairs N x.1
abbrev z46pk : SV [.v τ6] → BV [] → Int := fun x _ => x.1
def z46fn (N : Nat) : FuncId → Option Tmp → Option AF := fun f _ =>
 match f with
  | 43 => some (z79g N)
  | _ => none
theorem z46fn_ok (N : Nat) : FnOk (z46fn N) := by
 intro f q F h
 unfold z46fn at h
 split at h
 · cases h; exact z79sound N
 · cases h
def z46h : Nat → Hint := fun i =>
 match i with
 | 0 => ⟨[], [0, 8, 9, 10], [], [], [], []⟩
 | _ => hint0
abbrev z46E (N : Nat) : Env := mkE z46h (z46fn N) FF FF
noncomputable abbrev z46c0 : Code := cAt (bodyOf Tryz.f119) [true, true, false, true, false, false]
noncomputable abbrev z46R (N : Nat) := resD (z46E N) Tryz.f119 (z46g N) z46pk
abbrev z46L0_fs : List (Nat × Sl) := [(0, .v τ0), (8, .v τ0), (9, .v τ6), (10, .v τ6)]
abbrev z46L0_bs : List (Nat × Sb) := []
def z46L0_hd (x0 : List τ5) (c8 : List τ5) (c9 : Int) (s10 : Int) : St := ⟨40, [(0, .v τ0 x0), (8, .v τ0 c8), (9, .v τ6 c9), (10, .v τ6 s10)], []⟩
def z46L0_tl0 (_x0 : List τ5) (_c8 : List τ5) (_c9 : Int) : St := ⟨40, [], []⟩
def z46L0_G (N : Nat) (x0 : List τ5) (c8 : List τ5) (c9 : Int) (s10 : Int) (k : Ex → St → Option Int) : Option Int :=
 z46L0 N x0 c8 c9 (k (.exit 0) (z46L0_tl0 x0 c8 c9)) N s10
abbrev z46L0_F (N : Nat) : FV z46L0_fs → HV z46L0_bs → (Ex → St → Option Int) → Option Int := fun x _ k => z46L0_G N x.1 x.2.1 x.2.2.1 x.2.2.2.1 k
noncomputable def z46LP (N : Nat) : Nat → Code → St → (Ex → St → Option Int) → Option Int := fun i c =>
 match i with
 | 0 => (LPc 40 z46L0_fs z46L0_bs (z46L0_F N) (fun st k => iter (z46h 0) (exec (z46E N) N c 0) N st k))
 | i => fun st k => iter (z46h i) (exec (z46E N) N c i) N st k
theorem z46L0_step (N : Nat) (x0 : List τ5) (c8 : List τ5) (c9 : Int) (KX : Nat → St → Option Int) (I : St → Option Int) (s10 : Int) :
  execL (z46LP N) (z46E N) z46c0 0 (z46L0_hd x0 c8 c9 s10) (roundK (z46h 0) I KX (z46R N)) = z46L0T N x0 c8 c9 (KX 0 (z46L0_tl0 x0 c8 c9)) (fun s10 => I (z46L0_hd x0 c8 c9 s10)) s10 := by kernel_rfl
theorem z46L0_ok (N : Nat) : ∀ x y k, (∀ st, k .ret st = (z46R N) st) → iter (z46h 0) (exec (z46E N) N z46c0 0) N ⟨40, unF z46L0_fs x, unH z46L0_bs y⟩ k = z46L0_F N x y k := fun x _ k hk =>
 iter_link (S := (Int) × Unit) (z46h 0) _ (execL (z46LP N) (z46E N) z46c0 0) (z46R N) (fun st k hk => execL_eq _ _ N _ z46c0 0 (show LoopsOk (z46LP N) (z46E N) N (z46R N) [] from trivial) st k hk) (fun s => z46L0_hd x.1 x.2.1 x.2.2.1 s.1) k hk
  (fun self s => z46L0T N x.1 x.2.1 x.2.2.1 (k (.exit 0) (z46L0_tl0 x.1 x.2.1 x.2.2.1)) (fun s10 => self (s10, ())) s.1) (fun n s => z46L0 N x.1 x.2.1 x.2.2.1 (k (.exit 0) (z46L0_tl0 x.1 x.2.1 x.2.2.1)) n s.1) (fun _ => rfl) (fun _ _ => rfl)
  (fun I s => z46L0_step N x.1 x.2.1 x.2.2.1 (fun j => k (.exit j)) I s.1) N (x.2.2.2.1, ())
theorem z46lp0 (N : Nat) : ∀ st k, (∀ st, k .ret st = (z46R N) st) → z46LP N 0 z46c0 st k = iter (Env.hint (z46E N) 0) (exec (z46E N) N z46c0 0) N st k := fun st k hk => LPc_eq 40 z46L0_fs z46L0_bs _ _ (z46R N) (z46L0_ok N) _ st k hk (rfl)
theorem z46core (N : Nat) (x : SV [.v τ0]) (y : BV []) : runL (z46E N) Tryz.f119 (z46g N) z46pk (z46LP N) x y = config_CheckPairs N x.1 := by kernel_rfl
theorem z46sound (N : Nat) : Snd 119 (z46g N) :=
 sndL (z46fn_ok N) Tryz.func119 rfl Tryz.call119 (z46g N) z46pk (fun _ _ => rfl) N (z46LP N) (show LoopsOk (z46LP N) (z46E N) N (z46R N) [(0, z46c0)] from ⟨z46lp0 N, trivial⟩) (z46core N)
abbrev z0sg (f : SV [.v .str, .v (.clo 118 .un)] → BV [] → Option (Bool)) : AF := { ps := [.v .str, .v (.clo 118 .un)], bs := [], rs := [.v .bool], cs := [], R := Bool, out := fun z => ((z, ()), ()), f := f }
def strings_ContainsFunc_config_CheckConditions_1 (N : Nat) (x : Str) (_u : Unit) : Option Bool := some (decide (0 ≤ Lib.idxFunc (fun n => (config_CheckConditions_1 N (n : Int)).getD false) true ⟨x.toArray⟩))
theorem z0sound (N : Nat) : Snd 117 (z0sg fun x y => strings_ContainsFunc_config_CheckConditions_1 N x.1 x.2.1) := strings_ContainsFunc_ext (ho := fun _ => rfl) (z22sound N) (fun n _ => by unfold config_CheckConditions_1; simp only [br_ite]; rfl)

def z25L0T (N : Nat) (x0 : τ7) (x1 : List τ1) (c18 : List τ1) (c19 : Int) (k0 : τ26) (self : Int → Option Int) (s20 : Int) : Option Int :=
 br (decide (s20 < c19))
  (bnd (geti c18 s20) fun t23 =>
  br (decide ((t23.1.length : Int) < (1 : Int)))
   (some (3 : Int))
   (br (decide ((t23.1.length : Int) > (1000 : Int)))
    (some (3 : Int))
    (br (t23.1 == ([100, 101, 102, 97, 117, 108, 116] : Str))
     (some (3 : Int))
     (bnd (strings_ContainsFunc_config_CheckConditions_1 N t23.1 ()) fun t43 =>
     br (t43)
      (some (3 : Int))
      (br (decide ((t23.2.1.length : Int) > (30 : Int)))
       (some (2 : Int))
       (br (decide ((t23.2.2.length : Int) > (30 : Int)))
        (some (2 : Int))
        (bnd (config_checkSet N x0 t23.2.1 false) fun t58 =>
        br (t58 != (0 : Int))
         (some t58)
         (bnd (config_CheckPairs N t23.2.2) fun t64 =>
         br (t64 != (0 : Int))
          (some t64)
          (br (decide (s20 > (0 : Int)))
           (bnd (geti x1 (IntKind.i64.wrap (s20 - (1 : Int)))) fun t76 =>
           br (Op.bytesLess t23.1 t76.1 || t23.1 == t76.1)
            (some (8 : Int))
            (self (IntKind.i64.wrap (s20 + (1 : Int)))))
           (self (IntKind.i64.wrap (s20 + (1 : Int)))))))))))))
  (k0)
def z25L0 (N : Nat) (x0 : τ7) (x1 : List τ1) (c18 : List τ1) (c19 : Int) (k0 : τ26) : Nat → Int → Option Int
 | 0, _ => none
 | n + 1, s20 => z25L0T N x0 x1 c18 c19 k0 (z25L0 N x0 x1 c18 c19 k0 n) s20
def config_CheckConditions (N : Nat) (x0 : τ7) (x1 : List τ1) : Option Int :=
 bnd (config_CheckSettings N x0) fun t11 =>
 br (t11 != (0 : Int))
  (some t11)
  (br (decide ((x1.length : Int) > (100 : Int)))
   (some (2 : Int))
   (z25L0 N x0 x1 x1 (x1.length : Int) (some (0 : Int)) N (0 : Int)))
abbrev z25sg (f : SV [.v τ9, .v (.sl τ8)] → BV [] → Option (Int)) : AF := { ps := [.v τ9, .v (.sl τ8)], bs := [], rs := [.v τ6], cs := [], R := Int, out := fun z => ((z, ()), ()), f := f }
noncomputable abbrev z25g (N : Nat) : AF := z25sg fun x _ => config_CheckConditions N x.1 x.2.1
abbrev z25pk : SV [.v τ6] → BV [] → Int := fun x _ => x.1
def z25fn (N : Nat) : FuncId → Option Tmp → Option AF := fun f _ =>
 match f with
  | 42 => some (z30g N)
  | 44 => some (z61g N)
  | 117 => some (z0sg fun x _ => strings_ContainsFunc_config_CheckConditions_1 N x.1 x.2.1)
  | 119 => some (z46g N)
  | _ => none
theorem z25fn_ok (N : Nat) : FnOk (z25fn N) := by
 intro f q F h
 unfold z25fn at h
 split at h
 · cases h; exact z30sound N
 · cases h; exact z61sound N
 · cases h; exact z0sound N
 · cases h; exact z46sound N
 · cases h
def z25h : Nat → Hint := fun i =>
 match i with
 | 0 => ⟨[], [0, 1, 18, 19, 20], [], [], [], []⟩
 | _ => hint0
abbrev z25E (N : Nat) : Env := mkE z25h (z25fn N) FF FF
noncomputable abbrev z25c0 : Code := cAt (bodyOf Tryz.f64) [true, true, true, false, true, false, false]
noncomputable abbrev z25R (N : Nat) := resD (z25E N) Tryz.f64 (z25g N) z25pk
abbrev z25L0_fs : List (Nat × Sl) := [(0, .v τ9), (1, .v (.sl τ8)), (18, .v (.sl τ8)), (19, .v τ6), (20, .v τ6)]
abbrev z25L0_bs : List (Nat × Sb) := []
def z25L0_hd (x0 : τ7) (x1 : List τ1) (c18 : List τ1) (c19 : Int) (s20 : Int) : St := ⟨82, [(0, .v τ9 x0), (1, .v (.sl τ8) x1), (18, .v (.sl τ8) c18), (19, .v τ6 c19), (20, .v τ6 s20)], []⟩
def z25L0_tl0 (_x0 : τ7) (_x1 : List τ1) (_c18 : List τ1) (_c19 : Int) : St := ⟨82, [], []⟩
def z25L0_G (N : Nat) (x0 : τ7) (x1 : List τ1) (c18 : List τ1) (c19 : Int) (s20 : Int) (k : Ex → St → Option Int) : Option Int :=
 z25L0 N x0 x1 c18 c19 (k (.exit 0) (z25L0_tl0 x0 x1 c18 c19)) N s20
abbrev z25L0_F (N : Nat) : FV z25L0_fs → HV z25L0_bs → (Ex → St → Option Int) → Option Int := fun x _ k => z25L0_G N x.1 x.2.1 x.2.2.1 x.2.2.2.1 x.2.2.2.2.1 k
noncomputable def z25LP (N : Nat) : Nat → Code → St → (Ex → St → Option Int) → Option Int := fun i c =>
 match i with
 | 0 => (LPc 82 z25L0_fs z25L0_bs (z25L0_F N) (fun st k => iter (z25h 0) (exec (z25E N) N c 0) N st k))
 | i => fun st k => iter (z25h i) (exec (z25E N) N c i) N st k
theorem z25L0_step (N : Nat) (x0 : τ7) (x1 : List τ1) (c18 : List τ1) (c19 : Int) (KX : Nat → St → Option Int) (I : St → Option Int) (s20 : Int) :
  execL (z25LP N) (z25E N) z25c0 0 (z25L0_hd x0 x1 c18 c19 s20) (roundK (z25h 0) I KX (z25R N)) = z25L0T N x0 x1 c18 c19 (KX 0 (z25L0_tl0 x0 x1 c18 c19)) (fun s20 => I (z25L0_hd x0 x1 c18 c19 s20)) s20 := by kernel_rfl
theorem z25L0_ok (N : Nat) : ∀ x y k, (∀ st, k .ret st = (z25R N) st) → iter (z25h 0) (exec (z25E N) N z25c0 0) N ⟨82, unF z25L0_fs x, unH z25L0_bs y⟩ k = z25L0_F N x y k := fun x _ k hk =>
 iter_link (S := (Int) × Unit) (z25h 0) _ (execL (z25LP N) (z25E N) z25c0 0) (z25R N) (fun st k hk => execL_eq _ _ N _ z25c0 0 (show LoopsOk (z25LP N) (z25E N) N (z25R N) [] from trivial) st k hk) (fun s => z25L0_hd x.1 x.2.1 x.2.2.1 x.2.2.2.1 s.1) k hk
  (fun self s => z25L0T N x.1 x.2.1 x.2.2.1 x.2.2.2.1 (k (.exit 0) (z25L0_tl0 x.1 x.2.1 x.2.2.1 x.2.2.2.1)) (fun s20 => self (s20, ())) s.1) (fun n s => z25L0 N x.1 x.2.1 x.2.2.1 x.2.2.2.1 (k (.exit 0) (z25L0_tl0 x.1 x.2.1 x.2.2.1 x.2.2.2.1)) n s.1) (fun _ => rfl) (fun _ _ => rfl)
  (fun I s => z25L0_step N x.1 x.2.1 x.2.2.1 x.2.2.2.1 (fun j => k (.exit j)) I s.1) N (x.2.2.2.2.1, ())
theorem z25lp0 (N : Nat) : ∀ st k, (∀ st, k .ret st = (z25R N) st) → z25LP N 0 z25c0 st k = iter (Env.hint (z25E N) 0) (exec (z25E N) N z25c0 0) N st k := fun st k hk => LPc_eq 82 z25L0_fs z25L0_bs _ _ (z25R N) (z25L0_ok N) _ st k hk (rfl)
theorem z25core (N : Nat) (x : SV [.v τ9, .v (.sl τ8)]) (y : BV []) : runL (z25E N) Tryz.f64 (z25g N) z25pk (z25LP N) x y = config_CheckConditions N x.1 x.2.1 := by kernel_rfl
theorem z25sound (N : Nat) : Snd 64 (z25g N) :=
 sndL (z25fn_ok N) Tryz.func64 rfl Tryz.call64 (z25g N) z25pk (fun _ _ => rfl) N (z25LP N) (show LoopsOk (z25LP N) (z25E N) N (z25R N) [(0, z25c0)] from ⟨z25lp0 N, trivial⟩) (z25core N)
def config_CheckPlatforms_1 (_N : Nat) (x0 : Str × List τ5) (x1 : Str × List τ5) : Option Bool :=
 some (x0.1 == x1.1)
abbrev z24sg (f : SV [.v τ16, .v (.ptr τ16)] → BV [] → Option (Bool)) : AF := { ps := [.v τ16, .v (.ptr τ16)], bs := [], rs := [.v .bool], cs := [], R := Bool, out := fun z => ((z, ()), ()), f := f }
noncomputable abbrev z24g (N : Nat) : AF := z24sg fun x _ => config_CheckPlatforms_1 N x.1 x.2.1
abbrev z24pk : SV [.v .bool] → BV [] → Bool := fun x _ => x.1
def z24fn (_N : Nat) : FuncId → Option Tmp → Option AF := fun f _ =>
 match f with
  | _ => none
theorem z24fn_ok (N : Nat) : FnOk (z24fn N) := by
 intro f q F h
 unfold z24fn at h
 split at h
 · cases h
def z24h : Nat → Hint := fun i =>
 match i with
 | _ => hint0
abbrev z24E (N : Nat) : Env := mkE z24h (z24fn N) FF FF
noncomputable def z24LP (N : Nat) : Nat → Code → St → (Ex → St → Option Bool) → Option Bool := fun i c =>
 match i with
 | i => fun st k => iter (z24h i) (exec (z24E N) N c i) N st k
theorem z24core (N : Nat) (x : SV [.v τ16, .v (.ptr τ16)]) (y : BV []) : runL (z24E N) Tryz.f129 (z24g N) z24pk (z24LP N) x y = config_CheckPlatforms_1 N x.1 x.2.1 := by kernel_rfl
theorem z24sound (N : Nat) : Snd 129 (z24g N) :=
 sndL (z24fn_ok N) Tryz.func129 rfl Tryz.call129 (z24g N) z24pk (fun _ _ => rfl) N (z24LP N) (show LoopsOk (z24LP N) (z24E N) N (resD (z24E N) Tryz.f129 (z24g N) z24pk) [] from trivial) (z24core N)
def z8L0T (N : Nat) (x0 : τ11) (x1 : (Str × List τ5) × Unit) (c7 : Int) (k0 : τ26) (self : Int → Option Int) (s8 : Int) : Option Int :=
 br (decide (s8 < c7))
  (bnd (geti x0 s8) fun t14 =>
  bnd (config_CheckPlatforms_1 N t14 x1.1) fun t16 =>
  br (t16)
   (some s8)
   (self (IntKind.i64.wrap (s8 + (1 : Int)))))
  (k0)
def z8L0 (N : Nat) (x0 : τ11) (x1 : (Str × List τ5) × Unit) (c7 : Int) (k0 : τ26) : Nat → Int → Option Int
 | 0, _ => none
 | n + 1, s8 => z8L0T N x0 x1 c7 k0 (z8L0 N x0 x1 c7 k0 n) s8
def slices_IndexFunc_api_Platform (N : Nat) (x0 : τ11) (x1 : (Str × List τ5) × Unit) : Option Int :=
 z8L0 N x0 x1 (x0.length : Int) (some (-1 : Int)) N (0 : Int)
abbrev z8sg (f : SV [.v τ28, .v (.clo 129 (.pr (.ptr τ16) .un))] → BV [] → Option (Int)) : AF := { ps := [.v τ28, .v (.clo 129 (.pr (.ptr τ16) .un))], bs := [], rs := [.v τ6], cs := [], R := Int, out := fun z => ((z, ()), ()), f := f }
noncomputable abbrev z8g (N : Nat) : AF := z8sg fun x _ => slices_IndexFunc_api_Platform N x.1 x.2.1
abbrev z8pk : SV [.v τ6] → BV [] → Int := fun x _ => x.1
def z8fn (N : Nat) : FuncId → Option Tmp → Option AF := fun f _ =>
 match f with
  | 129 => some (z24g N)
  | _ => none
theorem z8fn_ok (N : Nat) : FnOk (z8fn N) := by
 intro f q F h
 unfold z8fn at h
 split at h
 · cases h; exact z24sound N
 · cases h
def z8h : Nat → Hint := fun i =>
 match i with
 | 0 => ⟨[], [0, 1, 7, 8], [], [], [], []⟩
 | _ => hint0
abbrev z8E (N : Nat) : Env := mkE z8h (z8fn N) FF FF
noncomputable abbrev z8c0 : Code := cAt (bodyOf Tryz.f184) [true, false, true, false, false]
noncomputable abbrev z8R (N : Nat) := resD (z8E N) Tryz.f184 (z8g N) z8pk
abbrev z8L0_fs : List (Nat × Sl) := [(0, .v τ28), (1, .v (.clo 129 (.pr (.ptr τ16) .un))), (7, .v τ6), (8, .v τ6)]
abbrev z8L0_bs : List (Nat × Sb) := []
def z8L0_hd (x0 : τ11) (x1 : (Str × List τ5) × Unit) (c7 : Int) (s8 : Int) : St := ⟨19, [(0, .v τ28 x0), (1, .v (.clo 129 (.pr (.ptr τ16) .un)) x1), (7, .v τ6 c7), (8, .v τ6 s8)], []⟩
def z8L0_tl0 (_x0 : τ11) (_x1 : (Str × List τ5) × Unit) (_c7 : Int) : St := ⟨19, [], []⟩
def z8L0_G (N : Nat) (x0 : τ11) (x1 : (Str × List τ5) × Unit) (c7 : Int) (s8 : Int) (k : Ex → St → Option Int) : Option Int :=
 z8L0 N x0 x1 c7 (k (.exit 0) (z8L0_tl0 x0 x1 c7)) N s8
abbrev z8L0_F (N : Nat) : FV z8L0_fs → HV z8L0_bs → (Ex → St → Option Int) → Option Int := fun x _ k => z8L0_G N x.1 x.2.1 x.2.2.1 x.2.2.2.1 k
noncomputable def z8LP (N : Nat) : Nat → Code → St → (Ex → St → Option Int) → Option Int := fun i c =>
 match i with
 | 0 => (LPc 19 z8L0_fs z8L0_bs (z8L0_F N) (fun st k => iter (z8h 0) (exec (z8E N) N c 0) N st k))
 | i => fun st k => iter (z8h i) (exec (z8E N) N c i) N st k
theorem z8L0_step (N : Nat) (x0 : τ11) (x1 : (Str × List τ5) × Unit) (c7 : Int) (KX : Nat → St → Option Int) (I : St → Option Int) (s8 : Int) :
  execL (z8LP N) (z8E N) z8c0 0 (z8L0_hd x0 x1 c7 s8) (roundK (z8h 0) I KX (z8R N)) = z8L0T N x0 x1 c7 (KX 0 (z8L0_tl0 x0 x1 c7)) (fun s8 => I (z8L0_hd x0 x1 c7 s8)) s8 := by kernel_rfl
theorem z8L0_ok (N : Nat) : ∀ x y k, (∀ st, k .ret st = (z8R N) st) → iter (z8h 0) (exec (z8E N) N z8c0 0) N ⟨19, unF z8L0_fs x, unH z8L0_bs y⟩ k = z8L0_F N x y k := fun x _ k hk =>
 iter_link (S := (Int) × Unit) (z8h 0) _ (execL (z8LP N) (z8E N) z8c0 0) (z8R N) (fun st k hk => execL_eq _ _ N _ z8c0 0 (show LoopsOk (z8LP N) (z8E N) N (z8R N) [] from trivial) st k hk) (fun s => z8L0_hd x.1 x.2.1 x.2.2.1 s.1) k hk
  (fun self s => z8L0T N x.1 x.2.1 x.2.2.1 (k (.exit 0) (z8L0_tl0 x.1 x.2.1 x.2.2.1)) (fun s8 => self (s8, ())) s.1) (fun n s => z8L0 N x.1 x.2.1 x.2.2.1 (k (.exit 0) (z8L0_tl0 x.1 x.2.1 x.2.2.1)) n s.1) (fun _ => rfl) (fun _ _ => rfl)
  (fun I s => z8L0_step N x.1 x.2.1 x.2.2.1 (fun j => k (.exit j)) I s.1) N (x.2.2.2.1, ())
theorem z8lp0 (N : Nat) : ∀ st k, (∀ st, k .ret st = (z8R N) st) → z8LP N 0 z8c0 st k = iter (Env.hint (z8E N) 0) (exec (z8E N) N z8c0 0) N st k := fun st k hk => LPc_eq 19 z8L0_fs z8L0_bs _ _ (z8R N) (z8L0_ok N) _ st k hk (rfl)
theorem z8core (N : Nat) (x : SV [.v τ28, .v (.clo 129 (.pr (.ptr τ16) .un))]) (y : BV []) : runL (z8E N) Tryz.f184 (z8g N) z8pk (z8LP N) x y = slices_IndexFunc_api_Platform N x.1 x.2.1 := by kernel_rfl
theorem z8sound (N : Nat) : Snd 184 (z8g N) :=
 sndL (z8fn_ok N) Tryz.func184 rfl Tryz.call184 (z8g N) z8pk (fun _ _ => rfl) N (z8LP N) (show LoopsOk (z8LP N) (z8E N) N (z8R N) [(0, z8c0)] from ⟨z8lp0 N, trivial⟩) (z8core N)
end
end Go.Proofs.YtbekhaioddmliaaGreatDoor

