/- What functions of the program compute, as plain functions (printed). -/
import Derived.Test.YtbekhaioddmliaaGreatDoorQZcF9
namespace Go.Proofs.YtbekhaioddmliaaGreatDoor
open Go Go.RowKit
set_option maxRecDepth 100000
set_option linter.unusedVariables false
noncomputable section
def z51L0T (_N : Nat) (r_ref2_checkCases : (List (Str × GValue)) → Option (Int)) (c35 : List Str) (c36 : Int) (k0 : Option Int) (self : Int → Option Int) (s37 : Int) : Option Int :=
  br (decide (s37 < c36))
    (bnd (geti c35 s37) fun t39 =>
    br (decide ((t39.length : Int) > (1000 : Int)))
      (some (2 : Int))
      (self (IntKind.i64.wrap (s37 + (1 : Int)))))
    (k0)
def z51L0 (N : Nat) (r_ref2_checkCases : (List (Str × GValue)) → Option (Int)) (c35 : List Str) (c36 : Int) (k0 : Option Int) : Nat → Int → Option Int
  | 0, _ => none
  | n + 1, s37 => z51L0T N r_ref2_checkCases c35 c36 k0 (z51L0 N r_ref2_checkCases c35 c36 k0 n) s37
def z51L1T (N : Nat) (r_ref2_checkCases : (List (Str × GValue)) → Option (Int)) (c50 : List Str) (c51 : Int) (k2 : Option Int) (self : Int → Option Int) (s52 : Int) : Option Int :=
  br (decide (s52 < c51))
    (bnd (geti c50 s52) fun t54 =>
    bnd (ref2_isText N t54) fun t57 =>
    br (!t57)
      (some (3 : Int))
      (self (IntKind.i64.wrap (s52 + (1 : Int)))))
    (k2)
def z51L1 (N : Nat) (r_ref2_checkCases : (List (Str × GValue)) → Option (Int)) (c50 : List Str) (c51 : Int) (k2 : Option Int) : Nat → Int → Option Int
  | 0, _ => none
  | n + 1, s52 => z51L1T N r_ref2_checkCases c50 c51 k2 (z51L1 N r_ref2_checkCases c50 c51 k2 n) s52
def ref2_CheckValue (N : Nat) (r_ref2_checkCases : (List (Str × GValue)) → Option (Int)) (x0 : GValue) : Option Int :=
  br (decide (x0.kind < (1 : Int)))
    (some (4 : Int))
    (br (decide (x0.kind > (4 : Int)))
      (some (4 : Int))
      (bnd (ref2_isPlain N (GValue.mk x0.kind x0.text x0.number x0.list x0.cases)) fun t16 =>
      br (!t16)
        (some (3 : Int))
        (br (decide ((x0.text.length : Int) > (1000 : Int)))
          (some (2 : Int))
          (br (decide ((x0.list.length : Int) > (1000 : Int)))
            (some (2 : Int))
            (br (decide ((x0.cases.length : Int) > (50 : Int)))
              (some (2 : Int))
              (z51L0 N r_ref2_checkCases x0.list (x0.list.length : Int) (bnd (ref2_isText N x0.text) fun t47 =>
                  br (!t47)
                    (some (3 : Int))
                    (z51L1 N r_ref2_checkCases x0.list (x0.list.length : Int) (bnd (ref2_within N x0.number (0 : Int) (999999999 : Int)) fun t62 =>
                        br (!t62)
                          (some (1 : Int))
                          (br (x0.kind == (4 : Int))
                            (bnd (r_ref2_checkCases x0.cases) fun t69 =>
                            some t69)
                            (some (0 : Int)))) N (0 : Int))) N (0 : Int)))))))
abbrev z51sg (f : SV [.v (.rc .value)] → BV [] → Option (Int)) : AF := { ps := [.v (.rc .value)], bs := [], rs := [.v (.int .i64)], cs := [], R := Int, out := fun z => ((z, ()), ()), f := f }
abbrev z51pk : SV [.v (.int .i64)] → BV [] → Int := fun x _ => x.1
def z51fn (N : Nat) (r_ref2_checkCases : (List (Str × GValue)) → Option (Int)) : FuncId → Option Tmp → Option AF := fun f _ =>
  match f with
    | 87 => some (z69sg fun x _ => ref2_isPlain N x.1)
    | 88 => some (z76sg fun x _ => ref2_isText N x.1)
    | 89 => some (z77sg fun x _ => ref2_within N x.1 x.2.1 x.2.2.1)
    | 90 => some (z52sg fun x _ => r_ref2_checkCases x.1)
    | _ => none
theorem z51fn_ok (N : Nat) (r_ref2_checkCases : (List (Str × GValue)) → Option (Int)) (h_ref2_checkCases : Sound Tryz.prog GW B0G 90 (z52sg fun x y => r_ref2_checkCases x.1)) : ∀ f q F, z51fn N r_ref2_checkCases f q = some F → Sound Tryz.prog GW B0G f F := by
  intro f q F h
  unfold z51fn at h
  split at h
  · cases h; exact z69sound N
  · cases h; exact z76sound N
  · cases h; exact z77sound N
  · cases h; exact h_ref2_checkCases
  · cases h
def z51h : Nat → Hint := fun i =>
  match i with
  | 0 => ⟨[], [1, 35, 36, 37], [1001], [1], [1001], []⟩
  | 2 => ⟨[], [1, 50, 51, 52], [1001], [1], [1001], []⟩
  | _ => ⟨[], [], [], [], [], []⟩
abbrev z51E (N : Nat) (r_ref2_checkCases : (List (Str × GValue)) → Option (Int)) : Env := mkE z51h (z51fn N r_ref2_checkCases) (fun _ => false) (fun _ => false)
abbrev z51L0_fs : List (Nat × Sl) := [(1, .box 1001 0), (35, .v (.sl .str)), (36, .v (.int .i64)), (37, .v (.int .i64))]
abbrev z51L0_bs : List (Nat × Sb) := [(1001, .cells [.v (.int .i64), .v .str, .v (.int .i64), .v (.sl .str), .v (.sl (.pr .str (.rc .value)))])]
def z51L0_hd (c35 : List Str) (c36 : Int) (c1001_0 : Int) (c1001_1 : Str) (c1001_2 : Int) (c1001_3 : List Str) (c1001_4 : List (Str × GValue)) (s37 : Int) : St := ⟨70, [(1, .box 1001 0), (35, .v (.sl .str) c35), (36, .v (.int .i64) c36), (37, .v (.int .i64) s37)], [(1001, .cells [.v (.int .i64) c1001_0, .v .str c1001_1, .v (.int .i64) c1001_2, .v (.sl .str) c1001_3, .v (.sl (.pr .str (.rc .value))) c1001_4])]⟩
def z51L0_tl0 (_c35 : List Str) (_c36 : Int) (c1001_0 : Int) (c1001_1 : Str) (c1001_2 : Int) (c1001_3 : List Str) (c1001_4 : List (Str × GValue)) : St := ⟨70, [(1, .box 1001 0)], [(1001, .cells [.v (.int .i64) c1001_0, .v .str c1001_1, .v (.int .i64) c1001_2, .v (.sl .str) c1001_3, .v (.sl (.pr .str (.rc .value))) c1001_4])]⟩
def z51L0_G (N : Nat) (r_ref2_checkCases : (List (Str × GValue)) → Option (Int)) (c35 : List Str) (c36 : Int) (c1001_0 : Int) (c1001_1 : Str) (c1001_2 : Int) (c1001_3 : List Str) (c1001_4 : List (Str × GValue)) (s37 : Int) (k : Ex → St → Option Int) : Option Int :=
  z51L0 N r_ref2_checkCases c35 c36 (k (.exit 0) (z51L0_tl0 c35 c36 c1001_0 c1001_1 c1001_2 c1001_3 c1001_4)) N s37
abbrev z51L0_F (N : Nat) (r_ref2_checkCases : (List (Str × GValue)) → Option (Int)) : FV z51L0_fs → HV z51L0_bs → (Ex → St → Option Int) → Option Int := fun x y k => z51L0_G N r_ref2_checkCases x.2.1 x.2.2.1 y.1.1 y.1.2.1 y.1.2.2.1 y.1.2.2.2.1 y.1.2.2.2.2.1 x.2.2.2.1 k
abbrev z51L1_fs : List (Nat × Sl) := [(1, .box 1001 0), (50, .v (.sl .str)), (51, .v (.int .i64)), (52, .v (.int .i64))]
abbrev z51L1_bs : List (Nat × Sb) := [(1001, .cells [.v (.int .i64), .v .str, .v (.int .i64), .v (.sl .str), .v (.sl (.pr .str (.rc .value)))])]
def z51L1_hd (c50 : List Str) (c51 : Int) (c1001_0_1 : Int) (c1001_1_2 : Str) (c1001_2_3 : Int) (c1001_3_4 : List Str) (c1001_4_5 : List (Str × GValue)) (s52 : Int) : St := ⟨70, [(1, .box 1001 0), (50, .v (.sl .str) c50), (51, .v (.int .i64) c51), (52, .v (.int .i64) s52)], [(1001, .cells [.v (.int .i64) c1001_0_1, .v .str c1001_1_2, .v (.int .i64) c1001_2_3, .v (.sl .str) c1001_3_4, .v (.sl (.pr .str (.rc .value))) c1001_4_5])]⟩
def z51L1_tl2 (_c50 : List Str) (_c51 : Int) (c1001_0_1 : Int) (c1001_1_2 : Str) (c1001_2_3 : Int) (c1001_3_4 : List Str) (c1001_4_5 : List (Str × GValue)) : St := ⟨70, [(1, .box 1001 0)], [(1001, .cells [.v (.int .i64) c1001_0_1, .v .str c1001_1_2, .v (.int .i64) c1001_2_3, .v (.sl .str) c1001_3_4, .v (.sl (.pr .str (.rc .value))) c1001_4_5])]⟩
def z51L1_G (N : Nat) (r_ref2_checkCases : (List (Str × GValue)) → Option (Int)) (c50 : List Str) (c51 : Int) (c1001_0_1 : Int) (c1001_1_2 : Str) (c1001_2_3 : Int) (c1001_3_4 : List Str) (c1001_4_5 : List (Str × GValue)) (s52 : Int) (k : Ex → St → Option Int) : Option Int :=
  z51L1 N r_ref2_checkCases c50 c51 (k (.exit 2) (z51L1_tl2 c50 c51 c1001_0_1 c1001_1_2 c1001_2_3 c1001_3_4 c1001_4_5)) N s52
abbrev z51L1_F (N : Nat) (r_ref2_checkCases : (List (Str × GValue)) → Option (Int)) : FV z51L1_fs → HV z51L1_bs → (Ex → St → Option Int) → Option Int := fun x y k => z51L1_G N r_ref2_checkCases x.2.1 x.2.2.1 y.1.1 y.1.2.1 y.1.2.2.1 y.1.2.2.2.1 y.1.2.2.2.2.1 x.2.2.2.1 k
noncomputable def z51LP (N : Nat) (r_ref2_checkCases : (List (Str × GValue)) → Option (Int)) : Nat → Code → St → (Ex → St → Option Int) → Option Int := fun i c =>
  match i with
  | 0 => (LPc 70 z51L0_fs z51L0_bs (z51L0_F N r_ref2_checkCases) (fun st k => iter (z51h 0) (exec (z51E N r_ref2_checkCases) N c 0) N st k))
  | 2 => (LPc 70 z51L1_fs z51L1_bs (z51L1_F N r_ref2_checkCases) (fun st k => iter (z51h 2) (exec (z51E N r_ref2_checkCases) N c 2) N st k))
  | i => fun st k => iter (z51h i) (exec (z51E N r_ref2_checkCases) N c i) N st k
theorem z51L1_step (N : Nat) (r_ref2_checkCases : (List (Str × GValue)) → Option (Int)) (c50 : List Str) (c51 : Int) (c1001_0_1 : Int) (c1001_1_2 : Str) (c1001_2_3 : Int) (c1001_3_4 : List Str) (c1001_4_5 : List (Str × GValue)) (KX : Nat → St → Option Int) (I : St → Option Int) (s52 : Int) :
    execL (z51LP N r_ref2_checkCases) (z51E N r_ref2_checkCases) (cAt (bodyOf Tryz.f34) [true, true, true, true, true, true, false, true, false, false]) 2 (z51L1_hd c50 c51 c1001_0_1 c1001_1_2 c1001_2_3 c1001_3_4 c1001_4_5 s52) (roundK (z51h 2) I KX (resD (z51E N r_ref2_checkCases) Tryz.f34 (z51sg fun x _ => ref2_CheckValue N r_ref2_checkCases x.1) z51pk)) = z51L1T N r_ref2_checkCases c50 c51 (KX 2 (z51L1_tl2 c50 c51 c1001_0_1 c1001_1_2 c1001_2_3 c1001_3_4 c1001_4_5)) (fun s52 => I (z51L1_hd c50 c51 c1001_0_1 c1001_1_2 c1001_2_3 c1001_3_4 c1001_4_5 s52)) s52 := by kernel_rfl
theorem z51L1_ok (N : Nat) (r_ref2_checkCases : (List (Str × GValue)) → Option (Int)) : ∀ x y k, (∀ st, k .ret st = (resD (z51E N r_ref2_checkCases) Tryz.f34 (z51sg fun x _ => ref2_CheckValue N r_ref2_checkCases x.1) z51pk) st) → iter (z51h 2) (exec (z51E N r_ref2_checkCases) N (cAt (bodyOf Tryz.f34) [true, true, true, true, true, true, false, true, false, false]) 2) N ⟨70, unF z51L1_fs x, unH z51L1_bs y⟩ k = z51L1_F N r_ref2_checkCases x y k := fun x y k hk =>
  iter_link (S := (Int) × Unit) (z51h 2) _ (execL (z51LP N r_ref2_checkCases) (z51E N r_ref2_checkCases) (cAt (bodyOf Tryz.f34) [true, true, true, true, true, true, false, true, false, false]) 2) (resD (z51E N r_ref2_checkCases) Tryz.f34 (z51sg fun x _ => ref2_CheckValue N r_ref2_checkCases x.1) z51pk) (fun st k hk => execL_eq _ _ N _ (cAt (bodyOf Tryz.f34) [true, true, true, true, true, true, false, true, false, false]) 2 (show LoopsOk (z51LP N r_ref2_checkCases) (z51E N r_ref2_checkCases) N (resD (z51E N r_ref2_checkCases) Tryz.f34 (z51sg fun x _ => ref2_CheckValue N r_ref2_checkCases x.1) z51pk) [] from trivial) st k hk) (fun s => z51L1_hd x.2.1 x.2.2.1 y.1.1 y.1.2.1 y.1.2.2.1 y.1.2.2.2.1 y.1.2.2.2.2.1 s.1) k hk
    (fun self s => z51L1T N r_ref2_checkCases x.2.1 x.2.2.1 (k (.exit 2) (z51L1_tl2 x.2.1 x.2.2.1 y.1.1 y.1.2.1 y.1.2.2.1 y.1.2.2.2.1 y.1.2.2.2.2.1)) (fun s52 => self (s52, ())) s.1) (fun n s => z51L1 N r_ref2_checkCases x.2.1 x.2.2.1 (k (.exit 2) (z51L1_tl2 x.2.1 x.2.2.1 y.1.1 y.1.2.1 y.1.2.2.1 y.1.2.2.2.1 y.1.2.2.2.2.1)) n s.1) (fun _ => rfl) (fun _ _ => rfl)
    (fun I s => z51L1_step N r_ref2_checkCases x.2.1 x.2.2.1 y.1.1 y.1.2.1 y.1.2.2.1 y.1.2.2.2.1 y.1.2.2.2.2.1 (fun j => k (.exit j)) I s.1) N (x.2.2.2.1, ())
theorem z51lp2 (N : Nat) (r_ref2_checkCases : (List (Str × GValue)) → Option (Int)) : ∀ st k, (∀ st, k .ret st = (resD (z51E N r_ref2_checkCases) Tryz.f34 (z51sg fun x _ => ref2_CheckValue N r_ref2_checkCases x.1) z51pk) st) → z51LP N r_ref2_checkCases 2 (cAt (bodyOf Tryz.f34) [true, true, true, true, true, true, false, true, false, false]) st k = iter (Env.hint (z51E N r_ref2_checkCases) 2) (exec (z51E N r_ref2_checkCases) N (cAt (bodyOf Tryz.f34) [true, true, true, true, true, true, false, true, false, false]) 2) N st k := fun st k hk => LPc_eq 70 z51L1_fs z51L1_bs _ _ (resD (z51E N r_ref2_checkCases) Tryz.f34 (z51sg fun x _ => ref2_CheckValue N r_ref2_checkCases x.1) z51pk) (z51L1_ok N r_ref2_checkCases) _ st k hk (rfl)
theorem z51L0_step (N : Nat) (r_ref2_checkCases : (List (Str × GValue)) → Option (Int)) (c35 : List Str) (c36 : Int) (c1001_0 : Int) (c1001_1 : Str) (c1001_2 : Int) (c1001_3 : List Str) (c1001_4 : List (Str × GValue)) (KX : Nat → St → Option Int) (I : St → Option Int) (s37 : Int) :
    execL (z51LP N r_ref2_checkCases) (z51E N r_ref2_checkCases) (cAt (bodyOf Tryz.f34) [true, true, true, true, false, true, false, false]) 0 (z51L0_hd c35 c36 c1001_0 c1001_1 c1001_2 c1001_3 c1001_4 s37) (roundK (z51h 0) I KX (resD (z51E N r_ref2_checkCases) Tryz.f34 (z51sg fun x _ => ref2_CheckValue N r_ref2_checkCases x.1) z51pk)) = z51L0T N r_ref2_checkCases c35 c36 (KX 0 (z51L0_tl0 c35 c36 c1001_0 c1001_1 c1001_2 c1001_3 c1001_4)) (fun s37 => I (z51L0_hd c35 c36 c1001_0 c1001_1 c1001_2 c1001_3 c1001_4 s37)) s37 := by kernel_rfl
theorem z51L0_ok (N : Nat) (r_ref2_checkCases : (List (Str × GValue)) → Option (Int)) : ∀ x y k, (∀ st, k .ret st = (resD (z51E N r_ref2_checkCases) Tryz.f34 (z51sg fun x _ => ref2_CheckValue N r_ref2_checkCases x.1) z51pk) st) → iter (z51h 0) (exec (z51E N r_ref2_checkCases) N (cAt (bodyOf Tryz.f34) [true, true, true, true, false, true, false, false]) 0) N ⟨70, unF z51L0_fs x, unH z51L0_bs y⟩ k = z51L0_F N r_ref2_checkCases x y k := fun x y k hk =>
  iter_link (S := (Int) × Unit) (z51h 0) _ (execL (z51LP N r_ref2_checkCases) (z51E N r_ref2_checkCases) (cAt (bodyOf Tryz.f34) [true, true, true, true, false, true, false, false]) 0) (resD (z51E N r_ref2_checkCases) Tryz.f34 (z51sg fun x _ => ref2_CheckValue N r_ref2_checkCases x.1) z51pk) (fun st k hk => execL_eq _ _ N _ (cAt (bodyOf Tryz.f34) [true, true, true, true, false, true, false, false]) 0 (show LoopsOk (z51LP N r_ref2_checkCases) (z51E N r_ref2_checkCases) N (resD (z51E N r_ref2_checkCases) Tryz.f34 (z51sg fun x _ => ref2_CheckValue N r_ref2_checkCases x.1) z51pk) [] from trivial) st k hk) (fun s => z51L0_hd x.2.1 x.2.2.1 y.1.1 y.1.2.1 y.1.2.2.1 y.1.2.2.2.1 y.1.2.2.2.2.1 s.1) k hk
    (fun self s => z51L0T N r_ref2_checkCases x.2.1 x.2.2.1 (k (.exit 0) (z51L0_tl0 x.2.1 x.2.2.1 y.1.1 y.1.2.1 y.1.2.2.1 y.1.2.2.2.1 y.1.2.2.2.2.1)) (fun s37 => self (s37, ())) s.1) (fun n s => z51L0 N r_ref2_checkCases x.2.1 x.2.2.1 (k (.exit 0) (z51L0_tl0 x.2.1 x.2.2.1 y.1.1 y.1.2.1 y.1.2.2.1 y.1.2.2.2.1 y.1.2.2.2.2.1)) n s.1) (fun _ => rfl) (fun _ _ => rfl)
    (fun I s => z51L0_step N r_ref2_checkCases x.2.1 x.2.2.1 y.1.1 y.1.2.1 y.1.2.2.1 y.1.2.2.2.1 y.1.2.2.2.2.1 (fun j => k (.exit j)) I s.1) N (x.2.2.2.1, ())
theorem z51lp0 (N : Nat) (r_ref2_checkCases : (List (Str × GValue)) → Option (Int)) : ∀ st k, (∀ st, k .ret st = (resD (z51E N r_ref2_checkCases) Tryz.f34 (z51sg fun x _ => ref2_CheckValue N r_ref2_checkCases x.1) z51pk) st) → z51LP N r_ref2_checkCases 0 (cAt (bodyOf Tryz.f34) [true, true, true, true, false, true, false, false]) st k = iter (Env.hint (z51E N r_ref2_checkCases) 0) (exec (z51E N r_ref2_checkCases) N (cAt (bodyOf Tryz.f34) [true, true, true, true, false, true, false, false]) 0) N st k := fun st k hk => LPc_eq 70 z51L0_fs z51L0_bs _ _ (resD (z51E N r_ref2_checkCases) Tryz.f34 (z51sg fun x _ => ref2_CheckValue N r_ref2_checkCases x.1) z51pk) (z51L0_ok N r_ref2_checkCases) _ st k hk (rfl)
theorem z51core (N : Nat) (r_ref2_checkCases : (List (Str × GValue)) → Option (Int)) (x : SV [.v (.rc .value)]) (y : BV []) : runL (z51E N r_ref2_checkCases) Tryz.f34 (z51sg fun x _ => ref2_CheckValue N r_ref2_checkCases x.1) z51pk (z51LP N r_ref2_checkCases) x y = ref2_CheckValue N r_ref2_checkCases x.1 := by kernel_rfl
theorem z51sound (N : Nat) (r_ref2_checkCases : (List (Str × GValue)) → Option (Int)) (h_ref2_checkCases : Sound Tryz.prog GW B0G 90 (z52sg fun x y => r_ref2_checkCases x.1)) : Sound Tryz.prog GW B0G 34 (z51sg fun x _ => ref2_CheckValue N r_ref2_checkCases x.1) :=
  runD_sound (mkE_ok z51h (z51fn N r_ref2_checkCases) _ _ (z51fn_ok N r_ref2_checkCases h_ref2_checkCases)) Tryz.func34 rfl Tryz.call34 (z51sg fun x _ => ref2_CheckValue N r_ref2_checkCases x.1) z51pk (fun _ _ => rfl) N (fun x y _ h => ((runL_eq (z51E N r_ref2_checkCases) N Tryz.f34 (z51sg fun x _ => ref2_CheckValue N r_ref2_checkCases x.1) z51pk (z51LP N r_ref2_checkCases) (show LoopsOk (z51LP N r_ref2_checkCases) (z51E N r_ref2_checkCases) N (resD (z51E N r_ref2_checkCases) Tryz.f34 (z51sg fun x _ => ref2_CheckValue N r_ref2_checkCases x.1) z51pk) [(0, (cAt (bodyOf Tryz.f34) [true, true, true, true, false, true, false, false])), (2, (cAt (bodyOf Tryz.f34) [true, true, true, true, true, true, false, true, false, false]))] from ⟨z51lp0 N r_ref2_checkCases, z51lp2 N r_ref2_checkCases, trivial⟩) x y).trans (z51core N r_ref2_checkCases x y)).trans h)
def z40L1T (_N : Nat) (r_ref2_checkCases : (List (Str × GValue)) → Option (Int)) (t27 : List (Str × GValue)) (c28 : Int) (c1004_0 : Str) (k2 : Option Int) (self : Int → Option Int) (s29 : Int) : Option Int :=
  br (decide (s29 < c28))
    (bnd (geti t27 s29) fun t31 =>
    br (t31.1 == c1004_0)
      (some (7 : Int))
      (self (IntKind.i64.wrap (s29 + (1 : Int)))))
    (k2)
def z40L1 (N : Nat) (r_ref2_checkCases : (List (Str × GValue)) → Option (Int)) (t27 : List (Str × GValue)) (c28 : Int) (c1004_0 : Str) (k2 : Option Int) : Nat → Int → Option Int
  | 0, _ => none
  | n + 1, s29 => z40L1T N r_ref2_checkCases t27 c28 c1004_0 k2 (z40L1 N r_ref2_checkCases t27 c28 c1004_0 k2 n) s29
def z40L0T (N : Nat) (r_ref2_checkCases : (List (Str × GValue)) → Option (Int)) (x0 : List (Str × GValue)) (c12 : List (Str × GValue)) (c13 : Int) (k0 : Option Int) (self : Int → Option Int) (s14 : Int) : Option Int :=
  br (decide (s14 < c13))
    (bnd (geti c12 s14) fun t17 =>
    bnd (ref2_checkText N t17.1) fun t21 =>
    br (t21 != (0 : Int))
      (some t21)
      (bnd (slc x0 (0 : Int) s14) fun t27 =>
      z40L1 N r_ref2_checkCases t27 (t27.length : Int) t17.1 (br (t17.2.kind == (4 : Int))
            (some (4 : Int))
            (bnd (ref2_CheckValue N r_ref2_checkCases (GValue.mk t17.2.kind t17.2.text t17.2.number t17.2.list t17.2.cases)) fun t45 =>
            br (t45 != (0 : Int))
              (some t45)
              (bnd (geti x0 (0 : Int)) fun t53 =>
              br (t17.2.kind != t53.2.kind)
                (some (6 : Int))
                (self (IntKind.i64.wrap (s14 + (1 : Int))))))) N (0 : Int)))
    (k0)
def z40L0 (N : Nat) (r_ref2_checkCases : (List (Str × GValue)) → Option (Int)) (x0 : List (Str × GValue)) (c12 : List (Str × GValue)) (c13 : Int) (k0 : Option Int) : Nat → Int → Option Int
  | 0, _ => none
  | n + 1, s14 => z40L0T N r_ref2_checkCases x0 c12 c13 k0 (z40L0 N r_ref2_checkCases x0 c12 c13 k0 n) s14
def ref2_checkCases_b (N : Nat) (r_ref2_checkCases : (List (Str × GValue)) → Option (Int)) (x0 : List (Str × GValue)) : Option Int :=
  br ((x0.length : Int) == (0 : Int))
    (some (9 : Int))
    (z40L0 N r_ref2_checkCases x0 x0 (x0.length : Int) (some (0 : Int)) N (0 : Int))
abbrev z40sg (f : SV [.v (.sl (.pr .str (.rc .value)))] → BV [] → Option (Int)) : AF := { ps := [.v (.sl (.pr .str (.rc .value)))], bs := [], rs := [.v (.int .i64)], cs := [], R := Int, out := fun z => ((z, ()), ()), f := f }
abbrev z40pk : SV [.v (.int .i64)] → BV [] → Int := fun x _ => x.1
def z40fn (N : Nat) (r_ref2_checkCases : (List (Str × GValue)) → Option (Int)) : FuncId → Option Tmp → Option AF := fun f _ =>
  match f with
    | 34 => some (z51sg fun x _ => ref2_CheckValue N r_ref2_checkCases x.1)
    | 137 => some (z57sg fun x _ => ref2_checkText N x.1)
    | _ => none
theorem z40fn_ok (N : Nat) (r_ref2_checkCases : (List (Str × GValue)) → Option (Int)) (h_ref2_checkCases : Sound Tryz.prog GW B0G 90 (z52sg fun x y => r_ref2_checkCases x.1)) : ∀ f q F, z40fn N r_ref2_checkCases f q = some F → Sound Tryz.prog GW B0G f F := by
  intro f q F h
  unfold z40fn at h
  split at h
  · cases h; exact z51sound N r_ref2_checkCases h_ref2_checkCases
  · cases h; exact z57sound N
  · cases h
def z40h : Nat → Hint := fun i =>
  match i with
  | 0 => ⟨[], [0, 12, 13, 14], [], [], [], []⟩
  | 2 => ⟨[], [0, 4, 12, 13, 14, 27, 28, 29], [1004], [0, 4, 12, 13, 14], [1004], []⟩
  | _ => ⟨[], [], [], [], [], []⟩
abbrev z40E (N : Nat) (r_ref2_checkCases : (List (Str × GValue)) → Option (Int)) : Env := mkE z40h (z40fn N r_ref2_checkCases) (fun _ => false) (fun _ => false)
abbrev z40L1_fs : List (Nat × Sl) := [(0, .v (.sl (.pr .str (.rc .value)))), (4, .box 1004 0), (12, .v (.sl (.pr .str (.rc .value)))), (13, .v (.int .i64)), (14, .v (.int .i64)), (27, .v (.sl (.pr .str (.rc .value)))), (28, .v (.int .i64)), (29, .v (.int .i64))]
abbrev z40L1_bs : List (Nat × Sb) := [(1004, .cells [.v .str, .v (.int .i64), .v .str, .v (.int .i64), .v (.sl .str), .v (.sl (.pr .str (.rc .value)))])]
def z40L1_hd (x0 : List (Str × GValue)) (c12 : List (Str × GValue)) (c13 : Int) (s14 : Int) (t27 : List (Str × GValue)) (c28 : Int) (c1004_0 : Str) (c1004_1 : Int) (c1004_2 : Str) (c1004_3 : Int) (c1004_4 : List Str) (c1004_5 : List (Str × GValue)) (s29 : Int) : St := ⟨59, [(0, .v (.sl (.pr .str (.rc .value))) x0), (4, .box 1004 0), (12, .v (.sl (.pr .str (.rc .value))) c12), (13, .v (.int .i64) c13), (14, .v (.int .i64) s14), (27, .v (.sl (.pr .str (.rc .value))) t27), (28, .v (.int .i64) c28), (29, .v (.int .i64) s29)], [(1004, .cells [.v .str c1004_0, .v (.int .i64) c1004_1, .v .str c1004_2, .v (.int .i64) c1004_3, .v (.sl .str) c1004_4, .v (.sl (.pr .str (.rc .value))) c1004_5])]⟩
def z40L1_tl2 (x0 : List (Str × GValue)) (c12 : List (Str × GValue)) (c13 : Int) (s14 : Int) (_t27 : List (Str × GValue)) (_c28 : Int) (c1004_0 : Str) (c1004_1 : Int) (c1004_2 : Str) (c1004_3 : Int) (c1004_4 : List Str) (c1004_5 : List (Str × GValue)) : St := ⟨59, [(0, .v (.sl (.pr .str (.rc .value))) x0), (4, .box 1004 0), (12, .v (.sl (.pr .str (.rc .value))) c12), (13, .v (.int .i64) c13), (14, .v (.int .i64) s14)], [(1004, .cells [.v .str c1004_0, .v (.int .i64) c1004_1, .v .str c1004_2, .v (.int .i64) c1004_3, .v (.sl .str) c1004_4, .v (.sl (.pr .str (.rc .value))) c1004_5])]⟩
def z40L1_G (N : Nat) (r_ref2_checkCases : (List (Str × GValue)) → Option (Int)) (x0 : List (Str × GValue)) (c12 : List (Str × GValue)) (c13 : Int) (s14 : Int) (t27 : List (Str × GValue)) (c28 : Int) (c1004_0 : Str) (c1004_1 : Int) (c1004_2 : Str) (c1004_3 : Int) (c1004_4 : List Str) (c1004_5 : List (Str × GValue)) (s29 : Int) (k : Ex → St → Option Int) : Option Int :=
  z40L1 N r_ref2_checkCases t27 c28 c1004_0 (k (.exit 2) (z40L1_tl2 x0 c12 c13 s14 t27 c28 c1004_0 c1004_1 c1004_2 c1004_3 c1004_4 c1004_5)) N s29
abbrev z40L1_F (N : Nat) (r_ref2_checkCases : (List (Str × GValue)) → Option (Int)) : FV z40L1_fs → HV z40L1_bs → (Ex → St → Option Int) → Option Int := fun x y k => z40L1_G N r_ref2_checkCases x.1 x.2.2.1 x.2.2.2.1 x.2.2.2.2.1 x.2.2.2.2.2.1 x.2.2.2.2.2.2.1 y.1.1 y.1.2.1 y.1.2.2.1 y.1.2.2.2.1 y.1.2.2.2.2.1 y.1.2.2.2.2.2.1 x.2.2.2.2.2.2.2.1 k
abbrev z40L0_fs : List (Nat × Sl) := [(0, .v (.sl (.pr .str (.rc .value)))), (12, .v (.sl (.pr .str (.rc .value)))), (13, .v (.int .i64)), (14, .v (.int .i64))]
abbrev z40L0_bs : List (Nat × Sb) := []
def z40L0_hd (x0 : List (Str × GValue)) (c12 : List (Str × GValue)) (c13 : Int) (s14 : Int) : St := ⟨59, [(0, .v (.sl (.pr .str (.rc .value))) x0), (12, .v (.sl (.pr .str (.rc .value))) c12), (13, .v (.int .i64) c13), (14, .v (.int .i64) s14)], []⟩
def z40L0_tl0 (_x0 : List (Str × GValue)) (_c12 : List (Str × GValue)) (_c13 : Int) : St := ⟨59, [], []⟩
def z40L0_G (N : Nat) (r_ref2_checkCases : (List (Str × GValue)) → Option (Int)) (x0 : List (Str × GValue)) (c12 : List (Str × GValue)) (c13 : Int) (s14 : Int) (k : Ex → St → Option Int) : Option Int :=
  z40L0 N r_ref2_checkCases x0 c12 c13 (k (.exit 0) (z40L0_tl0 x0 c12 c13)) N s14
abbrev z40L0_F (N : Nat) (r_ref2_checkCases : (List (Str × GValue)) → Option (Int)) : FV z40L0_fs → HV z40L0_bs → (Ex → St → Option Int) → Option Int := fun x _ k => z40L0_G N r_ref2_checkCases x.1 x.2.1 x.2.2.1 x.2.2.2.1 k
noncomputable def z40LP (N : Nat) (r_ref2_checkCases : (List (Str × GValue)) → Option (Int)) : Nat → Code → St → (Ex → St → Option Int) → Option Int := fun i c =>
  match i with
  | 0 => (LPc 59 z40L0_fs z40L0_bs (z40L0_F N r_ref2_checkCases) (fun st k => iter (z40h 0) (exec (z40E N r_ref2_checkCases) N c 0) N st k))
  | 2 => (LPc 59 z40L1_fs z40L1_bs (z40L1_F N r_ref2_checkCases) (fun st k => iter (z40h 2) (exec (z40E N r_ref2_checkCases) N c 2) N st k))
  | i => fun st k => iter (z40h i) (exec (z40E N r_ref2_checkCases) N c i) N st k
theorem z40L1_step (N : Nat) (r_ref2_checkCases : (List (Str × GValue)) → Option (Int)) (x0 : List (Str × GValue)) (c12 : List (Str × GValue)) (c13 : Int) (s14 : Int) (t27 : List (Str × GValue)) (c28 : Int) (c1004_0 : Str) (c1004_1 : Int) (c1004_2 : Str) (c1004_3 : Int) (c1004_4 : List Str) (c1004_5 : List (Str × GValue)) (KX : Nat → St → Option Int) (I : St → Option Int) (s29 : Int) :
    execL (z40LP N r_ref2_checkCases) (z40E N r_ref2_checkCases) (cAt (bodyOf Tryz.f90) [true, true, false, true, false, false, true, true, false, false, true, true, false, true, false, false]) 2 (z40L1_hd x0 c12 c13 s14 t27 c28 c1004_0 c1004_1 c1004_2 c1004_3 c1004_4 c1004_5 s29) (roundK (z40h 2) I KX (resD (z40E N r_ref2_checkCases) Tryz.f90 (z40sg fun x _ => ref2_checkCases_b N r_ref2_checkCases x.1) z40pk)) = z40L1T N r_ref2_checkCases t27 c28 c1004_0 (KX 2 (z40L1_tl2 x0 c12 c13 s14 t27 c28 c1004_0 c1004_1 c1004_2 c1004_3 c1004_4 c1004_5)) (fun s29 => I (z40L1_hd x0 c12 c13 s14 t27 c28 c1004_0 c1004_1 c1004_2 c1004_3 c1004_4 c1004_5 s29)) s29 := by kernel_rfl
theorem z40L1_ok (N : Nat) (r_ref2_checkCases : (List (Str × GValue)) → Option (Int)) : ∀ x y k, (∀ st, k .ret st = (resD (z40E N r_ref2_checkCases) Tryz.f90 (z40sg fun x _ => ref2_checkCases_b N r_ref2_checkCases x.1) z40pk) st) → iter (z40h 2) (exec (z40E N r_ref2_checkCases) N (cAt (bodyOf Tryz.f90) [true, true, false, true, false, false, true, true, false, false, true, true, false, true, false, false]) 2) N ⟨59, unF z40L1_fs x, unH z40L1_bs y⟩ k = z40L1_F N r_ref2_checkCases x y k := fun x y k hk =>
  iter_link (S := (Int) × Unit) (z40h 2) _ (execL (z40LP N r_ref2_checkCases) (z40E N r_ref2_checkCases) (cAt (bodyOf Tryz.f90) [true, true, false, true, false, false, true, true, false, false, true, true, false, true, false, false]) 2) (resD (z40E N r_ref2_checkCases) Tryz.f90 (z40sg fun x _ => ref2_checkCases_b N r_ref2_checkCases x.1) z40pk) (fun st k hk => execL_eq _ _ N _ (cAt (bodyOf Tryz.f90) [true, true, false, true, false, false, true, true, false, false, true, true, false, true, false, false]) 2 (show LoopsOk (z40LP N r_ref2_checkCases) (z40E N r_ref2_checkCases) N (resD (z40E N r_ref2_checkCases) Tryz.f90 (z40sg fun x _ => ref2_checkCases_b N r_ref2_checkCases x.1) z40pk) [] from trivial) st k hk) (fun s => z40L1_hd x.1 x.2.2.1 x.2.2.2.1 x.2.2.2.2.1 x.2.2.2.2.2.1 x.2.2.2.2.2.2.1 y.1.1 y.1.2.1 y.1.2.2.1 y.1.2.2.2.1 y.1.2.2.2.2.1 y.1.2.2.2.2.2.1 s.1) k hk
    (fun self s => z40L1T N r_ref2_checkCases x.2.2.2.2.2.1 x.2.2.2.2.2.2.1 y.1.1 (k (.exit 2) (z40L1_tl2 x.1 x.2.2.1 x.2.2.2.1 x.2.2.2.2.1 x.2.2.2.2.2.1 x.2.2.2.2.2.2.1 y.1.1 y.1.2.1 y.1.2.2.1 y.1.2.2.2.1 y.1.2.2.2.2.1 y.1.2.2.2.2.2.1)) (fun s29 => self (s29, ())) s.1) (fun n s => z40L1 N r_ref2_checkCases x.2.2.2.2.2.1 x.2.2.2.2.2.2.1 y.1.1 (k (.exit 2) (z40L1_tl2 x.1 x.2.2.1 x.2.2.2.1 x.2.2.2.2.1 x.2.2.2.2.2.1 x.2.2.2.2.2.2.1 y.1.1 y.1.2.1 y.1.2.2.1 y.1.2.2.2.1 y.1.2.2.2.2.1 y.1.2.2.2.2.2.1)) n s.1) (fun _ => rfl) (fun _ _ => rfl)
    (fun I s => z40L1_step N r_ref2_checkCases x.1 x.2.2.1 x.2.2.2.1 x.2.2.2.2.1 x.2.2.2.2.2.1 x.2.2.2.2.2.2.1 y.1.1 y.1.2.1 y.1.2.2.1 y.1.2.2.2.1 y.1.2.2.2.2.1 y.1.2.2.2.2.2.1 (fun j => k (.exit j)) I s.1) N (x.2.2.2.2.2.2.2.1, ())
theorem z40lp2 (N : Nat) (r_ref2_checkCases : (List (Str × GValue)) → Option (Int)) : ∀ st k, (∀ st, k .ret st = (resD (z40E N r_ref2_checkCases) Tryz.f90 (z40sg fun x _ => ref2_checkCases_b N r_ref2_checkCases x.1) z40pk) st) → z40LP N r_ref2_checkCases 2 (cAt (bodyOf Tryz.f90) [true, true, false, true, false, false, true, true, false, false, true, true, false, true, false, false]) st k = iter (Env.hint (z40E N r_ref2_checkCases) 2) (exec (z40E N r_ref2_checkCases) N (cAt (bodyOf Tryz.f90) [true, true, false, true, false, false, true, true, false, false, true, true, false, true, false, false]) 2) N st k := fun st k hk => LPc_eq 59 z40L1_fs z40L1_bs _ _ (resD (z40E N r_ref2_checkCases) Tryz.f90 (z40sg fun x _ => ref2_checkCases_b N r_ref2_checkCases x.1) z40pk) (z40L1_ok N r_ref2_checkCases) _ st k hk (rfl)
theorem z40L0_step (N : Nat) (r_ref2_checkCases : (List (Str × GValue)) → Option (Int)) (x0 : List (Str × GValue)) (c12 : List (Str × GValue)) (c13 : Int) (KX : Nat → St → Option Int) (I : St → Option Int) (s14 : Int) :
    execL (z40LP N r_ref2_checkCases) (z40E N r_ref2_checkCases) (cAt (bodyOf Tryz.f90) [true, true, false, true, false, false]) 0 (z40L0_hd x0 c12 c13 s14) (roundK (z40h 0) I KX (resD (z40E N r_ref2_checkCases) Tryz.f90 (z40sg fun x _ => ref2_checkCases_b N r_ref2_checkCases x.1) z40pk)) = z40L0T N r_ref2_checkCases x0 c12 c13 (KX 0 (z40L0_tl0 x0 c12 c13)) (fun s14 => I (z40L0_hd x0 c12 c13 s14)) s14 := by kernel_rfl
theorem z40L0_ok (N : Nat) (r_ref2_checkCases : (List (Str × GValue)) → Option (Int)) : ∀ x y k, (∀ st, k .ret st = (resD (z40E N r_ref2_checkCases) Tryz.f90 (z40sg fun x _ => ref2_checkCases_b N r_ref2_checkCases x.1) z40pk) st) → iter (z40h 0) (exec (z40E N r_ref2_checkCases) N (cAt (bodyOf Tryz.f90) [true, true, false, true, false, false]) 0) N ⟨59, unF z40L0_fs x, unH z40L0_bs y⟩ k = z40L0_F N r_ref2_checkCases x y k := fun x _ k hk =>
  iter_link (S := (Int) × Unit) (z40h 0) _ (execL (z40LP N r_ref2_checkCases) (z40E N r_ref2_checkCases) (cAt (bodyOf Tryz.f90) [true, true, false, true, false, false]) 0) (resD (z40E N r_ref2_checkCases) Tryz.f90 (z40sg fun x _ => ref2_checkCases_b N r_ref2_checkCases x.1) z40pk) (fun st k hk => execL_eq _ _ N _ (cAt (bodyOf Tryz.f90) [true, true, false, true, false, false]) 0 (show LoopsOk (z40LP N r_ref2_checkCases) (z40E N r_ref2_checkCases) N (resD (z40E N r_ref2_checkCases) Tryz.f90 (z40sg fun x _ => ref2_checkCases_b N r_ref2_checkCases x.1) z40pk) [(2, (cAt (bodyOf Tryz.f90) [true, true, false, true, false, false, true, true, false, false, true, true, false, true, false, false]))] from ⟨z40lp2 N r_ref2_checkCases, trivial⟩) st k hk) (fun s => z40L0_hd x.1 x.2.1 x.2.2.1 s.1) k hk
    (fun self s => z40L0T N r_ref2_checkCases x.1 x.2.1 x.2.2.1 (k (.exit 0) (z40L0_tl0 x.1 x.2.1 x.2.2.1)) (fun s14 => self (s14, ())) s.1) (fun n s => z40L0 N r_ref2_checkCases x.1 x.2.1 x.2.2.1 (k (.exit 0) (z40L0_tl0 x.1 x.2.1 x.2.2.1)) n s.1) (fun _ => rfl) (fun _ _ => rfl)
    (fun I s => z40L0_step N r_ref2_checkCases x.1 x.2.1 x.2.2.1 (fun j => k (.exit j)) I s.1) N (x.2.2.2.1, ())
theorem z40lp0 (N : Nat) (r_ref2_checkCases : (List (Str × GValue)) → Option (Int)) : ∀ st k, (∀ st, k .ret st = (resD (z40E N r_ref2_checkCases) Tryz.f90 (z40sg fun x _ => ref2_checkCases_b N r_ref2_checkCases x.1) z40pk) st) → z40LP N r_ref2_checkCases 0 (cAt (bodyOf Tryz.f90) [true, true, false, true, false, false]) st k = iter (Env.hint (z40E N r_ref2_checkCases) 0) (exec (z40E N r_ref2_checkCases) N (cAt (bodyOf Tryz.f90) [true, true, false, true, false, false]) 0) N st k := fun st k hk => LPc_eq 59 z40L0_fs z40L0_bs _ _ (resD (z40E N r_ref2_checkCases) Tryz.f90 (z40sg fun x _ => ref2_checkCases_b N r_ref2_checkCases x.1) z40pk) (z40L0_ok N r_ref2_checkCases) _ st k hk (rfl)
theorem z40core (N : Nat) (r_ref2_checkCases : (List (Str × GValue)) → Option (Int)) (x : SV [.v (.sl (.pr .str (.rc .value)))]) (y : BV []) : runL (z40E N r_ref2_checkCases) Tryz.f90 (z40sg fun x _ => ref2_checkCases_b N r_ref2_checkCases x.1) z40pk (z40LP N r_ref2_checkCases) x y = ref2_checkCases_b N r_ref2_checkCases x.1 := by kernel_rfl
theorem z40sound (N : Nat) (r_ref2_checkCases : (List (Str × GValue)) → Option (Int)) (h_ref2_checkCases : Sound Tryz.prog GW B0G 90 (z52sg fun x y => r_ref2_checkCases x.1)) : Sound Tryz.prog GW B0G 90 (z40sg fun x _ => ref2_checkCases_b N r_ref2_checkCases x.1) :=
  runD_sound (mkE_ok z40h (z40fn N r_ref2_checkCases) _ _ (z40fn_ok N r_ref2_checkCases h_ref2_checkCases)) Tryz.func90 rfl Tryz.call90 (z40sg fun x _ => ref2_checkCases_b N r_ref2_checkCases x.1) z40pk (fun _ _ => rfl) N (fun x y _ h => ((runL_eq (z40E N r_ref2_checkCases) N Tryz.f90 (z40sg fun x _ => ref2_checkCases_b N r_ref2_checkCases x.1) z40pk (z40LP N r_ref2_checkCases) (show LoopsOk (z40LP N r_ref2_checkCases) (z40E N r_ref2_checkCases) N (resD (z40E N r_ref2_checkCases) Tryz.f90 (z40sg fun x _ => ref2_checkCases_b N r_ref2_checkCases x.1) z40pk) [(0, (cAt (bodyOf Tryz.f90) [true, true, false, true, false, false])), (2, (cAt (bodyOf Tryz.f90) [true, true, false, true, false, false, true, true, false, false, true, true, false, true, false, false]))] from ⟨z40lp0 N r_ref2_checkCases, z40lp2 N r_ref2_checkCases, trivial⟩) x y).trans (z40core N r_ref2_checkCases x y)).trans h)
def ref2_checkCases (N : Nat) : Nat → (List (Str × GValue)) → Option (Int)
  | 0 => fun _ => none
  | d + 1 => ref2_checkCases_b N (ref2_checkCases N d)
theorem z52sound (N : Nat) : ∀ d, Sound Tryz.prog GW B0G 90 (z52sg fun x y => ref2_checkCases N d x.1)
  | 0 => Sound.never Tryz.call90 (fun _ _ => rfl)
  | d + 1 => z40sound N (ref2_checkCases N d) (z52sound N d)
def z45L0T (_N : Nat) (x1 : Str) (x0 : List (Str × List (Str × Str) × List (Str × Str))) (c9 : Int) (k0 : Option ((Str × List (Str × Str) × List (Str × Str)) × Bool)) (self : Int → Option ((Str × List (Str × Str) × List (Str × Str)) × Bool)) (s10 : Int) : Option ((Str × List (Str × Str) × List (Str × Str)) × Bool) :=
  br (decide (s10 < c9))
    (bnd (geti x0 s10) fun t12 =>
    br (t12.1 == x1)
      (some (t12, true))
      (self (IntKind.i64.wrap (s10 + (1 : Int)))))
    (k0)
def z45L0 (N : Nat) (x1 : Str) (x0 : List (Str × List (Str × Str) × List (Str × Str))) (c9 : Int) (k0 : Option ((Str × List (Str × Str) × List (Str × Str)) × Bool)) : Nat → Int → Option ((Str × List (Str × Str) × List (Str × Str)) × Bool)
  | 0, _ => none
  | n + 1, s10 => z45L0T N x1 x0 c9 k0 (z45L0 N x1 x0 c9 k0 n) s10
def ref3_conditionOf (N : Nat) (x0 : List (Str × List (Str × Str) × List (Str × Str))) (x1 : Str) : Option ((Str × List (Str × Str) × List (Str × Str)) × Bool) :=
  z45L0 N x1 x0 (x0.length : Int) (some ((([] : Str), (([] : List (Str × Str)), ([] : List (Str × Str)))), false)) N (0 : Int)
abbrev z45sg (f : SV [.v (.sl (.pr .str (.pr (.sl (.pr .str .str)) (.sl (.pr .str .str))))), .v .str] → BV [] → Option ((Str × List (Str × Str) × List (Str × Str)) × Bool)) : AF := { ps := [.v (.sl (.pr .str (.pr (.sl (.pr .str .str)) (.sl (.pr .str .str))))), .v .str], bs := [], rs := [.v (.pr .str (.pr (.sl (.pr .str .str)) (.sl (.pr .str .str)))), .v .bool], cs := [], R := (Str × List (Str × Str) × List (Str × Str)) × Bool, out := fun z => ((z.1, z.2, ()), ()), f := f }
abbrev z45pk : SV [.v (.pr .str (.pr (.sl (.pr .str .str)) (.sl (.pr .str .str)))), .v .bool] → BV [] → ((Str × List (Str × Str) × List (Str × Str)) × Bool) := fun x _ => (x.1, x.2.1)
def z45fn (_N : Nat) : FuncId → Option Tmp → Option AF := fun f _ =>
  match f with
    | _ => none
theorem z45fn_ok (N : Nat) : ∀ f q F, z45fn N f q = some F → Sound Tryz.prog GW B0G f F := by
  intro f q F h
  unfold z45fn at h
  split at h
  · cases h
def z45h : Nat → Hint := fun i =>
  match i with
  | 0 => ⟨[], [1, 4, 8, 9, 10], [1004], [4], [1004], []⟩
  | _ => ⟨[], [], [], [], [], []⟩
abbrev z45E (N : Nat) : Env := mkE z45h (z45fn N) (fun _ => false) (fun _ => false)
abbrev z45L0_fs : List (Nat × Sl) := [(1, .v .str), (4, .box 1004 0), (8, .v (.sl (.pr .str (.pr (.sl (.pr .str .str)) (.sl (.pr .str .str)))))), (9, .v (.int .i64)), (10, .v (.int .i64))]
abbrev z45L0_bs : List (Nat × Sb) := [(1004, .cells [.v .str, .nilS, .nilS])]
def z45L0_hd (x1 : Str) (x0 : List (Str × List (Str × Str) × List (Str × Str))) (c9 : Int) (c1004_0 : Str) (s10 : Int) : St := ⟨21, [(1, .v .str x1), (4, .box 1004 0), (8, .v (.sl (.pr .str (.pr (.sl (.pr .str .str)) (.sl (.pr .str .str))))) x0), (9, .v (.int .i64) c9), (10, .v (.int .i64) s10)], [(1004, .cells [.v .str c1004_0, .nilS, .nilS])]⟩
def z45L0_tl0 (_x1 : Str) (_x0 : List (Str × List (Str × Str) × List (Str × Str))) (_c9 : Int) (c1004_0 : Str) : St := ⟨21, [(4, .box 1004 0)], [(1004, .cells [.v .str c1004_0, .nilS, .nilS])]⟩
def z45L0_G (N : Nat) (x1 : Str) (x0 : List (Str × List (Str × Str) × List (Str × Str))) (c9 : Int) (c1004_0 : Str) (s10 : Int) (k : Ex → St → Option ((Str × List (Str × Str) × List (Str × Str)) × Bool)) : Option ((Str × List (Str × Str) × List (Str × Str)) × Bool) :=
  z45L0 N x1 x0 c9 (k (.exit 0) (z45L0_tl0 x1 x0 c9 c1004_0)) N s10
abbrev z45L0_F (N : Nat) : FV z45L0_fs → HV z45L0_bs → (Ex → St → Option ((Str × List (Str × Str) × List (Str × Str)) × Bool)) → Option ((Str × List (Str × Str) × List (Str × Str)) × Bool) := fun x y k => z45L0_G N x.1 x.2.2.1 x.2.2.2.1 y.1.1 x.2.2.2.2.1 k
noncomputable def z45LP (N : Nat) : Nat → Code → St → (Ex → St → Option ((Str × List (Str × Str) × List (Str × Str)) × Bool)) → Option ((Str × List (Str × Str) × List (Str × Str)) × Bool) := fun i c =>
  match i with
  | 0 => (LPc 21 z45L0_fs z45L0_bs (z45L0_F N) (fun st k => iter (z45h 0) (exec (z45E N) N c 0) N st k))
  | i => fun st k => iter (z45h i) (exec (z45E N) N c i) N st k
theorem z45L0_step (N : Nat) (x1 : Str) (x0 : List (Str × List (Str × Str) × List (Str × Str))) (c9 : Int) (c1004_0 : Str) (KX : Nat → St → Option ((Str × List (Str × Str) × List (Str × Str)) × Bool)) (I : St → Option ((Str × List (Str × Str) × List (Str × Str)) × Bool)) (s10 : Int) :
    execL (z45LP N) (z45E N) (cAt (bodyOf Tryz.f71) [true, false, true, false, false]) 0 (z45L0_hd x1 x0 c9 c1004_0 s10) (roundK (z45h 0) I KX (resD (z45E N) Tryz.f71 (z45sg fun x _ => ref3_conditionOf N x.1 x.2.1) z45pk)) = z45L0T N x1 x0 c9 (KX 0 (z45L0_tl0 x1 x0 c9 c1004_0)) (fun s10 => I (z45L0_hd x1 x0 c9 c1004_0 s10)) s10 := by kernel_rfl
theorem z45L0_ok (N : Nat) : ∀ x y k, (∀ st, k .ret st = (resD (z45E N) Tryz.f71 (z45sg fun x _ => ref3_conditionOf N x.1 x.2.1) z45pk) st) → iter (z45h 0) (exec (z45E N) N (cAt (bodyOf Tryz.f71) [true, false, true, false, false]) 0) N ⟨21, unF z45L0_fs x, unH z45L0_bs y⟩ k = z45L0_F N x y k := fun x y k hk =>
  iter_link (S := (Int) × Unit) (z45h 0) _ (execL (z45LP N) (z45E N) (cAt (bodyOf Tryz.f71) [true, false, true, false, false]) 0) (resD (z45E N) Tryz.f71 (z45sg fun x _ => ref3_conditionOf N x.1 x.2.1) z45pk) (fun st k hk => execL_eq _ _ N _ (cAt (bodyOf Tryz.f71) [true, false, true, false, false]) 0 (show LoopsOk (z45LP N) (z45E N) N (resD (z45E N) Tryz.f71 (z45sg fun x _ => ref3_conditionOf N x.1 x.2.1) z45pk) [] from trivial) st k hk) (fun s => z45L0_hd x.1 x.2.2.1 x.2.2.2.1 y.1.1 s.1) k hk
    (fun self s => z45L0T N x.1 x.2.2.1 x.2.2.2.1 (k (.exit 0) (z45L0_tl0 x.1 x.2.2.1 x.2.2.2.1 y.1.1)) (fun s10 => self (s10, ())) s.1) (fun n s => z45L0 N x.1 x.2.2.1 x.2.2.2.1 (k (.exit 0) (z45L0_tl0 x.1 x.2.2.1 x.2.2.2.1 y.1.1)) n s.1) (fun _ => rfl) (fun _ _ => rfl)
    (fun I s => z45L0_step N x.1 x.2.2.1 x.2.2.2.1 y.1.1 (fun j => k (.exit j)) I s.1) N (x.2.2.2.2.1, ())
theorem z45lp0 (N : Nat) : ∀ st k, (∀ st, k .ret st = (resD (z45E N) Tryz.f71 (z45sg fun x _ => ref3_conditionOf N x.1 x.2.1) z45pk) st) → z45LP N 0 (cAt (bodyOf Tryz.f71) [true, false, true, false, false]) st k = iter (Env.hint (z45E N) 0) (exec (z45E N) N (cAt (bodyOf Tryz.f71) [true, false, true, false, false]) 0) N st k := fun st k hk => LPc_eq 21 z45L0_fs z45L0_bs _ _ (resD (z45E N) Tryz.f71 (z45sg fun x _ => ref3_conditionOf N x.1 x.2.1) z45pk) (z45L0_ok N) _ st k hk (rfl)
theorem z45core (N : Nat) (x : SV [.v (.sl (.pr .str (.pr (.sl (.pr .str .str)) (.sl (.pr .str .str))))), .v .str]) (y : BV []) : runL (z45E N) Tryz.f71 (z45sg fun x _ => ref3_conditionOf N x.1 x.2.1) z45pk (z45LP N) x y = ref3_conditionOf N x.1 x.2.1 := by kernel_rfl
theorem z45sound (N : Nat) : Sound Tryz.prog GW B0G 71 (z45sg fun x _ => ref3_conditionOf N x.1 x.2.1) :=
  runD_sound (mkE_ok z45h (z45fn N) _ _ (z45fn_ok N)) Tryz.func71 rfl Tryz.call71 (z45sg fun x _ => ref3_conditionOf N x.1 x.2.1) z45pk (fun _ _ => rfl) N (fun x y _ h => ((runL_eq (z45E N) N Tryz.f71 (z45sg fun x _ => ref3_conditionOf N x.1 x.2.1) z45pk (z45LP N) (show LoopsOk (z45LP N) (z45E N) N (resD (z45E N) Tryz.f71 (z45sg fun x _ => ref3_conditionOf N x.1 x.2.1) z45pk) [(0, (cAt (bodyOf Tryz.f71) [true, false, true, false, false]))] from ⟨z45lp0 N, trivial⟩) x y).trans (z45core N x y)).trans h)
def z58L0T (N : Nat) (c10 : List (Str × GValue)) (c11 : Int) (c1002_1 : List (Str × List (Str × Str) × List (Str × Str))) (k0 : Option Int) (self : Int → Option Int) (s12 : Int) : Option Int :=
  br (decide (s12 < c11))
    (bnd (geti c10 s12) fun t14 =>
    bnd (ref3_conditionOf N c1002_1 t14.1) fun t21 =>
    br (!t21.2)
      (br (!(t14.1 == ([100, 101, 102, 97, 117, 108, 116] : Str)))
        (some (5 : Int))
        (self (IntKind.i64.wrap (s12 + (1 : Int)))))
      (self (IntKind.i64.wrap (s12 + (1 : Int)))))
    (k0)
def z58L0 (N : Nat) (c10 : List (Str × GValue)) (c11 : Int) (c1002_1 : List (Str × List (Str × Str) × List (Str × Str))) (k0 : Option Int) : Nat → Int → Option Int
  | 0, _ => none
  | n + 1, s12 => z58L0T N c10 c11 c1002_1 k0 (z58L0 N c10 c11 c1002_1 k0 n) s12
def ref3_checkWhen (N : Nat) (x0 : List (Str × List Str) × List (Str × List (Str × Str) × List (Str × Str)) × List (Str × List (Str × Str)) × List (Str × Str × List (Str × Str) × List (Str × Str)) × List (Str × List (Str × Str) × List Str)) (x1 : GValue) : Option Int :=
  z58L0 N x1.cases (x1.cases.length : Int) x0.2.1 (some (0 : Int)) N (0 : Int)
abbrev z58sg (f : SV [.v (.pr (.sl (.pr .str (.sl .str))) (.pr (.sl (.pr .str (.pr (.sl (.pr .str .str)) (.sl (.pr .str .str))))) (.pr (.sl (.pr .str (.sl (.pr .str .str)))) (.pr (.sl (.pr .str (.pr .str (.pr (.sl (.pr .str .str)) (.sl (.pr .str .str)))))) (.sl (.pr .str (.pr (.sl (.pr .str .str)) (.sl .str)))))))), .v (.rc .value)] → BV [] → Option (Int)) : AF := { ps := [.v (.pr (.sl (.pr .str (.sl .str))) (.pr (.sl (.pr .str (.pr (.sl (.pr .str .str)) (.sl (.pr .str .str))))) (.pr (.sl (.pr .str (.sl (.pr .str .str)))) (.pr (.sl (.pr .str (.pr .str (.pr (.sl (.pr .str .str)) (.sl (.pr .str .str)))))) (.sl (.pr .str (.pr (.sl (.pr .str .str)) (.sl .str)))))))), .v (.rc .value)], bs := [], rs := [.v (.int .i64)], cs := [], R := Int, out := fun z => ((z, ()), ()), f := f }
abbrev z58pk : SV [.v (.int .i64)] → BV [] → Int := fun x _ => x.1
def z58fn (N : Nat) : FuncId → Option Tmp → Option AF := fun f _ =>
  match f with
    | 71 => some (z45sg fun x _ => ref3_conditionOf N x.1 x.2.1)
    | _ => none
theorem z58fn_ok (N : Nat) : ∀ f q F, z58fn N f q = some F → Sound Tryz.prog GW B0G f F := by
  intro f q F h
  unfold z58fn at h
  split at h
  · cases h; exact z45sound N
  · cases h
def z58h : Nat → Hint := fun i =>
  match i with
  | 0 => ⟨[], [2, 10, 11, 12], [1002], [], [], []⟩
  | _ => ⟨[], [], [], [], [], []⟩
abbrev z58E (N : Nat) : Env := mkE z58h (z58fn N) (fun _ => false) (fun _ => false)
abbrev z58L0_fs : List (Nat × Sl) := [(2, .box 1002 0), (10, .v (.sl (.pr .str (.rc .value)))), (11, .v (.int .i64)), (12, .v (.int .i64))]
abbrev z58L0_bs : List (Nat × Sb) := [(1002, .cells [.v (.sl (.pr .str (.sl .str))), .v (.sl (.pr .str (.pr (.sl (.pr .str .str)) (.sl (.pr .str .str))))), .v (.sl (.pr .str (.sl (.pr .str .str)))), .v (.sl (.pr .str (.pr .str (.pr (.sl (.pr .str .str)) (.sl (.pr .str .str)))))), .v (.sl (.pr .str (.pr (.sl (.pr .str .str)) (.sl .str))))])]
def z58L0_hd (c10 : List (Str × GValue)) (c11 : Int) (c1002_0 : List (Str × List Str)) (c1002_1 : List (Str × List (Str × Str) × List (Str × Str))) (c1002_2 : List (Str × List (Str × Str))) (c1002_3 : List (Str × Str × List (Str × Str) × List (Str × Str))) (c1002_4 : List (Str × List (Str × Str) × List Str)) (s12 : Int) : St := ⟨32, [(2, .box 1002 0), (10, .v (.sl (.pr .str (.rc .value))) c10), (11, .v (.int .i64) c11), (12, .v (.int .i64) s12)], [(1002, .cells [.v (.sl (.pr .str (.sl .str))) c1002_0, .v (.sl (.pr .str (.pr (.sl (.pr .str .str)) (.sl (.pr .str .str))))) c1002_1, .v (.sl (.pr .str (.sl (.pr .str .str)))) c1002_2, .v (.sl (.pr .str (.pr .str (.pr (.sl (.pr .str .str)) (.sl (.pr .str .str)))))) c1002_3, .v (.sl (.pr .str (.pr (.sl (.pr .str .str)) (.sl .str)))) c1002_4])]⟩
def z58L0_tl0 (_c10 : List (Str × GValue)) (_c11 : Int) (_c1002_0 : List (Str × List Str)) (_c1002_1 : List (Str × List (Str × Str) × List (Str × Str))) (_c1002_2 : List (Str × List (Str × Str))) (_c1002_3 : List (Str × Str × List (Str × Str) × List (Str × Str))) (_c1002_4 : List (Str × List (Str × Str) × List Str)) : St := ⟨32, [], []⟩
def z58L0_G (N : Nat) (c10 : List (Str × GValue)) (c11 : Int) (c1002_0 : List (Str × List Str)) (c1002_1 : List (Str × List (Str × Str) × List (Str × Str))) (c1002_2 : List (Str × List (Str × Str))) (c1002_3 : List (Str × Str × List (Str × Str) × List (Str × Str))) (c1002_4 : List (Str × List (Str × Str) × List Str)) (s12 : Int) (k : Ex → St → Option Int) : Option Int :=
  z58L0 N c10 c11 c1002_1 (k (.exit 0) (z58L0_tl0 c10 c11 c1002_0 c1002_1 c1002_2 c1002_3 c1002_4)) N s12
abbrev z58L0_F (N : Nat) : FV z58L0_fs → HV z58L0_bs → (Ex → St → Option Int) → Option Int := fun x y k => z58L0_G N x.2.1 x.2.2.1 y.1.1 y.1.2.1 y.1.2.2.1 y.1.2.2.2.1 y.1.2.2.2.2.1 x.2.2.2.1 k
noncomputable def z58LP (N : Nat) : Nat → Code → St → (Ex → St → Option Int) → Option Int := fun i c =>
  match i with
  | 0 => (LPc 32 z58L0_fs z58L0_bs (z58L0_F N) (fun st k => iter (z58h 0) (exec (z58E N) N c 0) N st k))
  | i => fun st k => iter (z58h i) (exec (z58E N) N c i) N st k
theorem z58L0_step (N : Nat) (c10 : List (Str × GValue)) (c11 : Int) (c1002_0 : List (Str × List Str)) (c1002_1 : List (Str × List (Str × Str) × List (Str × Str))) (c1002_2 : List (Str × List (Str × Str))) (c1002_3 : List (Str × Str × List (Str × Str) × List (Str × Str))) (c1002_4 : List (Str × List (Str × Str) × List Str)) (KX : Nat → St → Option Int) (I : St → Option Int) (s12 : Int) :
    execL (z58LP N) (z58E N) (cAt (bodyOf Tryz.f70) [true, false, true, false, false]) 0 (z58L0_hd c10 c11 c1002_0 c1002_1 c1002_2 c1002_3 c1002_4 s12) (roundK (z58h 0) I KX (resD (z58E N) Tryz.f70 (z58sg fun x _ => ref3_checkWhen N x.1 x.2.1) z58pk)) = z58L0T N c10 c11 c1002_1 (KX 0 (z58L0_tl0 c10 c11 c1002_0 c1002_1 c1002_2 c1002_3 c1002_4)) (fun s12 => I (z58L0_hd c10 c11 c1002_0 c1002_1 c1002_2 c1002_3 c1002_4 s12)) s12 := by kernel_rfl
theorem z58L0_ok (N : Nat) : ∀ x y k, (∀ st, k .ret st = (resD (z58E N) Tryz.f70 (z58sg fun x _ => ref3_checkWhen N x.1 x.2.1) z58pk) st) → iter (z58h 0) (exec (z58E N) N (cAt (bodyOf Tryz.f70) [true, false, true, false, false]) 0) N ⟨32, unF z58L0_fs x, unH z58L0_bs y⟩ k = z58L0_F N x y k := fun x y k hk =>
  iter_link (S := (Int) × Unit) (z58h 0) _ (execL (z58LP N) (z58E N) (cAt (bodyOf Tryz.f70) [true, false, true, false, false]) 0) (resD (z58E N) Tryz.f70 (z58sg fun x _ => ref3_checkWhen N x.1 x.2.1) z58pk) (fun st k hk => execL_eq _ _ N _ (cAt (bodyOf Tryz.f70) [true, false, true, false, false]) 0 (show LoopsOk (z58LP N) (z58E N) N (resD (z58E N) Tryz.f70 (z58sg fun x _ => ref3_checkWhen N x.1 x.2.1) z58pk) [] from trivial) st k hk) (fun s => z58L0_hd x.2.1 x.2.2.1 y.1.1 y.1.2.1 y.1.2.2.1 y.1.2.2.2.1 y.1.2.2.2.2.1 s.1) k hk
    (fun self s => z58L0T N x.2.1 x.2.2.1 y.1.2.1 (k (.exit 0) (z58L0_tl0 x.2.1 x.2.2.1 y.1.1 y.1.2.1 y.1.2.2.1 y.1.2.2.2.1 y.1.2.2.2.2.1)) (fun s12 => self (s12, ())) s.1) (fun n s => z58L0 N x.2.1 x.2.2.1 y.1.2.1 (k (.exit 0) (z58L0_tl0 x.2.1 x.2.2.1 y.1.1 y.1.2.1 y.1.2.2.1 y.1.2.2.2.1 y.1.2.2.2.2.1)) n s.1) (fun _ => rfl) (fun _ _ => rfl)
    (fun I s => z58L0_step N x.2.1 x.2.2.1 y.1.1 y.1.2.1 y.1.2.2.1 y.1.2.2.2.1 y.1.2.2.2.2.1 (fun j => k (.exit j)) I s.1) N (x.2.2.2.1, ())
theorem z58lp0 (N : Nat) : ∀ st k, (∀ st, k .ret st = (resD (z58E N) Tryz.f70 (z58sg fun x _ => ref3_checkWhen N x.1 x.2.1) z58pk) st) → z58LP N 0 (cAt (bodyOf Tryz.f70) [true, false, true, false, false]) st k = iter (Env.hint (z58E N) 0) (exec (z58E N) N (cAt (bodyOf Tryz.f70) [true, false, true, false, false]) 0) N st k := fun st k hk => LPc_eq 32 z58L0_fs z58L0_bs _ _ (resD (z58E N) Tryz.f70 (z58sg fun x _ => ref3_checkWhen N x.1 x.2.1) z58pk) (z58L0_ok N) _ st k hk (rfl)
theorem z58core (N : Nat) (x : SV [.v (.pr (.sl (.pr .str (.sl .str))) (.pr (.sl (.pr .str (.pr (.sl (.pr .str .str)) (.sl (.pr .str .str))))) (.pr (.sl (.pr .str (.sl (.pr .str .str)))) (.pr (.sl (.pr .str (.pr .str (.pr (.sl (.pr .str .str)) (.sl (.pr .str .str)))))) (.sl (.pr .str (.pr (.sl (.pr .str .str)) (.sl .str)))))))), .v (.rc .value)]) (y : BV []) : runL (z58E N) Tryz.f70 (z58sg fun x _ => ref3_checkWhen N x.1 x.2.1) z58pk (z58LP N) x y = ref3_checkWhen N x.1 x.2.1 := by kernel_rfl
theorem z58sound (N : Nat) : Sound Tryz.prog GW B0G 70 (z58sg fun x _ => ref3_checkWhen N x.1 x.2.1) :=
  runD_sound (mkE_ok z58h (z58fn N) _ _ (z58fn_ok N)) Tryz.func70 rfl Tryz.call70 (z58sg fun x _ => ref3_checkWhen N x.1 x.2.1) z58pk (fun _ _ => rfl) N (fun x y _ h => ((runL_eq (z58E N) N Tryz.f70 (z58sg fun x _ => ref3_checkWhen N x.1 x.2.1) z58pk (z58LP N) (show LoopsOk (z58LP N) (z58E N) N (resD (z58E N) Tryz.f70 (z58sg fun x _ => ref3_checkWhen N x.1 x.2.1) z58pk) [(0, (cAt (bodyOf Tryz.f70) [true, false, true, false, false]))] from ⟨z58lp0 N, trivial⟩) x y).trans (z58core N x y)).trans h)
def z89L0T (N : Nat) (x0 : List (Str × Str)) (x1 : List (Str × Str)) (c8 : Int) (k0 : Option Bool) (self : Int → Option Bool) (s9 : Int) : Option Bool :=
  br (decide (s9 < c8))
    (bnd (geti x1 s9) fun t11 =>
    bnd (slices_Contains_api_Pair N x0 t11) fun t15 =>
    br (!t15)
      (some false)
      (self (IntKind.i64.wrap (s9 + (1 : Int)))))
    (k0)
def z89L0 (N : Nat) (x0 : List (Str × Str)) (x1 : List (Str × Str)) (c8 : Int) (k0 : Option Bool) : Nat → Int → Option Bool
  | 0, _ => none
  | n + 1, s9 => z89L0T N x0 x1 c8 k0 (z89L0 N x0 x1 c8 k0 n) s9
def ref3_has (N : Nat) (x0 : List (Str × Str)) (x1 : List (Str × Str)) : Option Bool :=
  z89L0 N x0 x1 (x1.length : Int) (some true) N (0 : Int)
abbrev z89sg (f : SV [.v (.sl (.pr .str .str)), .v (.sl (.pr .str .str))] → BV [] → Option (Bool)) : AF := { ps := [.v (.sl (.pr .str .str)), .v (.sl (.pr .str .str))], bs := [], rs := [.v .bool], cs := [], R := Bool, out := fun z => ((z, ()), ()), f := f }
abbrev z89pk : SV [.v .bool] → BV [] → Bool := fun x _ => x.1
def z89fn (N : Nat) : FuncId → Option Tmp → Option AF := fun f _ =>
  match f with
    | 185 => some (z19sg fun x _ => slices_Contains_api_Pair N x.1 x.2.1)
    | _ => none
theorem z89fn_ok (N : Nat) : ∀ f q F, z89fn N f q = some F → Sound Tryz.prog GW B0G f F := by
  intro f q F h
  unfold z89fn at h
  split at h
  · cases h; exact z19sound N
  · cases h
def z89h : Nat → Hint := fun i =>
  match i with
  | 0 => ⟨[], [0, 7, 8, 9], [], [], [], []⟩
  | _ => ⟨[], [], [], [], [], []⟩
abbrev z89E (N : Nat) : Env := mkE z89h (z89fn N) (fun _ => false) (fun _ => false)
abbrev z89L0_fs : List (Nat × Sl) := [(0, .v (.sl (.pr .str .str))), (7, .v (.sl (.pr .str .str))), (8, .v (.int .i64)), (9, .v (.int .i64))]
abbrev z89L0_bs : List (Nat × Sb) := []
def z89L0_hd (x0 : List (Str × Str)) (x1 : List (Str × Str)) (c8 : Int) (s9 : Int) : St := ⟨18, [(0, .v (.sl (.pr .str .str)) x0), (7, .v (.sl (.pr .str .str)) x1), (8, .v (.int .i64) c8), (9, .v (.int .i64) s9)], []⟩
def z89L0_tl0 (_x0 : List (Str × Str)) (_x1 : List (Str × Str)) (_c8 : Int) : St := ⟨18, [], []⟩
def z89L0_G (N : Nat) (x0 : List (Str × Str)) (x1 : List (Str × Str)) (c8 : Int) (s9 : Int) (k : Ex → St → Option Bool) : Option Bool :=
  z89L0 N x0 x1 c8 (k (.exit 0) (z89L0_tl0 x0 x1 c8)) N s9
abbrev z89L0_F (N : Nat) : FV z89L0_fs → HV z89L0_bs → (Ex → St → Option Bool) → Option Bool := fun x _ k => z89L0_G N x.1 x.2.1 x.2.2.1 x.2.2.2.1 k
noncomputable def z89LP (N : Nat) : Nat → Code → St → (Ex → St → Option Bool) → Option Bool := fun i c =>
  match i with
  | 0 => (LPc 18 z89L0_fs z89L0_bs (z89L0_F N) (fun st k => iter (z89h 0) (exec (z89E N) N c 0) N st k))
  | i => fun st k => iter (z89h i) (exec (z89E N) N c i) N st k
theorem z89L0_step (N : Nat) (x0 : List (Str × Str)) (x1 : List (Str × Str)) (c8 : Int) (KX : Nat → St → Option Bool) (I : St → Option Bool) (s9 : Int) :
    execL (z89LP N) (z89E N) (cAt (bodyOf Tryz.f139) [true, false, true, false, false]) 0 (z89L0_hd x0 x1 c8 s9) (roundK (z89h 0) I KX (resD (z89E N) Tryz.f139 (z89sg fun x _ => ref3_has N x.1 x.2.1) z89pk)) = z89L0T N x0 x1 c8 (KX 0 (z89L0_tl0 x0 x1 c8)) (fun s9 => I (z89L0_hd x0 x1 c8 s9)) s9 := by kernel_rfl
theorem z89L0_ok (N : Nat) : ∀ x y k, (∀ st, k .ret st = (resD (z89E N) Tryz.f139 (z89sg fun x _ => ref3_has N x.1 x.2.1) z89pk) st) → iter (z89h 0) (exec (z89E N) N (cAt (bodyOf Tryz.f139) [true, false, true, false, false]) 0) N ⟨18, unF z89L0_fs x, unH z89L0_bs y⟩ k = z89L0_F N x y k := fun x _ k hk =>
  iter_link (S := (Int) × Unit) (z89h 0) _ (execL (z89LP N) (z89E N) (cAt (bodyOf Tryz.f139) [true, false, true, false, false]) 0) (resD (z89E N) Tryz.f139 (z89sg fun x _ => ref3_has N x.1 x.2.1) z89pk) (fun st k hk => execL_eq _ _ N _ (cAt (bodyOf Tryz.f139) [true, false, true, false, false]) 0 (show LoopsOk (z89LP N) (z89E N) N (resD (z89E N) Tryz.f139 (z89sg fun x _ => ref3_has N x.1 x.2.1) z89pk) [] from trivial) st k hk) (fun s => z89L0_hd x.1 x.2.1 x.2.2.1 s.1) k hk
    (fun self s => z89L0T N x.1 x.2.1 x.2.2.1 (k (.exit 0) (z89L0_tl0 x.1 x.2.1 x.2.2.1)) (fun s9 => self (s9, ())) s.1) (fun n s => z89L0 N x.1 x.2.1 x.2.2.1 (k (.exit 0) (z89L0_tl0 x.1 x.2.1 x.2.2.1)) n s.1) (fun _ => rfl) (fun _ _ => rfl)
    (fun I s => z89L0_step N x.1 x.2.1 x.2.2.1 (fun j => k (.exit j)) I s.1) N (x.2.2.2.1, ())
theorem z89lp0 (N : Nat) : ∀ st k, (∀ st, k .ret st = (resD (z89E N) Tryz.f139 (z89sg fun x _ => ref3_has N x.1 x.2.1) z89pk) st) → z89LP N 0 (cAt (bodyOf Tryz.f139) [true, false, true, false, false]) st k = iter (Env.hint (z89E N) 0) (exec (z89E N) N (cAt (bodyOf Tryz.f139) [true, false, true, false, false]) 0) N st k := fun st k hk => LPc_eq 18 z89L0_fs z89L0_bs _ _ (resD (z89E N) Tryz.f139 (z89sg fun x _ => ref3_has N x.1 x.2.1) z89pk) (z89L0_ok N) _ st k hk (rfl)
theorem z89core (N : Nat) (x : SV [.v (.sl (.pr .str .str)), .v (.sl (.pr .str .str))]) (y : BV []) : runL (z89E N) Tryz.f139 (z89sg fun x _ => ref3_has N x.1 x.2.1) z89pk (z89LP N) x y = ref3_has N x.1 x.2.1 := by kernel_rfl
theorem z89sound (N : Nat) : Sound Tryz.prog GW B0G 139 (z89sg fun x _ => ref3_has N x.1 x.2.1) :=
  runD_sound (mkE_ok z89h (z89fn N) _ _ (z89fn_ok N)) Tryz.func139 rfl Tryz.call139 (z89sg fun x _ => ref3_has N x.1 x.2.1) z89pk (fun _ _ => rfl) N (fun x y _ h => ((runL_eq (z89E N) N Tryz.f139 (z89sg fun x _ => ref3_has N x.1 x.2.1) z89pk (z89LP N) (show LoopsOk (z89LP N) (z89E N) N (resD (z89E N) Tryz.f139 (z89sg fun x _ => ref3_has N x.1 x.2.1) z89pk) [(0, (cAt (bodyOf Tryz.f139) [true, false, true, false, false]))] from ⟨z89lp0 N, trivial⟩) x y).trans (z89core N x y)).trans h)
def ref3_isMore (N : Nat) (x0 : Str × List (Str × Str) × List (Str × Str)) (x1 : Str × List (Str × Str) × List (Str × Str)) : Option Bool :=
  bnd (ref3_has N x0.2.1 x1.2.1) fun t9 =>
  br (t9)
    (bnd (ref3_has N x0.2.2 x1.2.2) fun t15 =>
    br (t15)
      (some (decide ((IntKind.i64.wrap ((x0.2.1.length : Int) + (x0.2.2.length : Int))) > (IntKind.i64.wrap ((x1.2.1.length : Int) + (x1.2.2.length : Int))))))
      (some false))
    (some false)
abbrev z81sg (f : SV [.v (.pr .str (.pr (.sl (.pr .str .str)) (.sl (.pr .str .str)))), .v (.pr .str (.pr (.sl (.pr .str .str)) (.sl (.pr .str .str))))] → BV [] → Option (Bool)) : AF := { ps := [.v (.pr .str (.pr (.sl (.pr .str .str)) (.sl (.pr .str .str)))), .v (.pr .str (.pr (.sl (.pr .str .str)) (.sl (.pr .str .str))))], bs := [], rs := [.v .bool], cs := [], R := Bool, out := fun z => ((z, ()), ()), f := f }
abbrev z81pk : SV [.v .bool] → BV [] → Bool := fun x _ => x.1
def z81fn (N : Nat) : FuncId → Option Tmp → Option AF := fun f _ =>
  match f with
    | 139 => some (z89sg fun x _ => ref3_has N x.1 x.2.1)
    | _ => none
theorem z81fn_ok (N : Nat) : ∀ f q F, z81fn N f q = some F → Sound Tryz.prog GW B0G f F := by
  intro f q F h
  unfold z81fn at h
  split at h
  · cases h; exact z89sound N
  · cases h
def z81h : Nat → Hint := fun i =>
  match i with
  | _ => ⟨[], [], [], [], [], []⟩
abbrev z81E (N : Nat) : Env := mkE z81h (z81fn N) (fun _ => false) (fun _ => false)
noncomputable def z81LP (N : Nat) : Nat → Code → St → (Ex → St → Option Bool) → Option Bool := fun i c =>
  match i with
  | i => fun st k => iter (z81h i) (exec (z81E N) N c i) N st k
theorem z81core (N : Nat) (x : SV [.v (.pr .str (.pr (.sl (.pr .str .str)) (.sl (.pr .str .str)))), .v (.pr .str (.pr (.sl (.pr .str .str)) (.sl (.pr .str .str))))]) (y : BV []) : runL (z81E N) Tryz.f92 (z81sg fun x _ => ref3_isMore N x.1 x.2.1) z81pk (z81LP N) x y = ref3_isMore N x.1 x.2.1 := by kernel_rfl
theorem z81sound (N : Nat) : Sound Tryz.prog GW B0G 92 (z81sg fun x _ => ref3_isMore N x.1 x.2.1) :=
  runD_sound (mkE_ok z81h (z81fn N) _ _ (z81fn_ok N)) Tryz.func92 rfl Tryz.call92 (z81sg fun x _ => ref3_isMore N x.1 x.2.1) z81pk (fun _ _ => rfl) N (fun x y _ h => ((runL_eq (z81E N) N Tryz.f92 (z81sg fun x _ => ref3_isMore N x.1 x.2.1) z81pk (z81LP N) (show LoopsOk (z81LP N) (z81E N) N (resD (z81E N) Tryz.f92 (z81sg fun x _ => ref3_isMore N x.1 x.2.1) z81pk) [] from trivial) x y).trans (z81core N x y)).trans h)
end
end Go.Proofs.YtbekhaioddmliaaGreatDoor

