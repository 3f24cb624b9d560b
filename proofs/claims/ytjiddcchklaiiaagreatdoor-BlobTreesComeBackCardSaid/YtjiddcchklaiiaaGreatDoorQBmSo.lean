/- What functions of the program compute, as plain functions (printed). -/
import Derived.Test.YtjiddcchklaiiaaGreatDoorQBmJ
import Derived.Shelf.SlGeneric
import Derived.Shelf.SlSortCmp.WholeK
import Derived.Shelf.SlSortCmp.NoneTotal
import Derived.Ground.SlsfProg
import Derived.Test.YtjiddcchklaiiaaGreatDoorProg
import Derived.Test.YtjiddcchklaiiaaGreatDoorQBmOb
import Derived.Test.YtjiddcchklaiiaaGreatDoorQTsT
import Derived.Shelf.SortM.Plain
import Derived.Shelf.SortM.SortNone
import Derived.Ground.SlgmProg
import Derived.Test.YtjiddcchklaiiaaGreatDoorQBmSw
namespace Go.Proofs.YtjiddcchklaiiaaGreatDoor
open Go Go.RowKit
set_option maxRecDepth 100000
set_option linter.unusedVariables false
noncomputable section
def z31L1T (N : Nat) (x0 : List τ7) (s3 : Int) (k2 : Option Bool) (self : Int → Option Bool) (s4 : Int) : Option Bool :=
 br (decide (s4 < s3))
   (bnd (geti x0 s3) fun t18 =>
   bnd (ref1_Digest N t18) fun t20 =>
   bnd (geti x0 s4) fun t23 =>
   bnd (ref1_Digest N t23) fun t25 =>
   br (t20 == t25)
     (bnd (geti x0 s3) fun t30 =>
     bnd (geti x0 s4) fun t34 =>
     bnd (bytes_Equal N t30 t34) fun t36 =>
     br (!t36)
       (some false)
       (self (IntKind.i64.wrap (s4 + (1 : Int)))))
     (self (IntKind.i64.wrap (s4 + (1 : Int)))))
   (k2)
def z31L1 (N : Nat) (x0 : List τ7) (s3 : Int) (k2 : Option Bool) : Nat → Int → Option Bool
 | 0, _ => none
 | n + 1, s4 => z31L1T N x0 s3 k2 (z31L1 N x0 s3 k2 n) s4
def z31L0T (N : Nat) (x0 : List τ7) (k0 : Option Bool) (self : Int → Option Bool) (s3 : Int) : Option Bool :=
 br (decide (s3 < (x0.length : Int)))
   (z31L1 N x0 s3 (self (IntKind.i64.wrap (s3 + (1 : Int)))) N (0 : Int))
   (k0)
def z31L0 (N : Nat) (x0 : List τ7) (k0 : Option Bool) : Nat → Int → Option Bool
 | 0, _ => none
 | n + 1, s3 => z31L0T N x0 k0 (z31L0 N x0 k0 n) s3
def ref1_Faithful (N : Nat) (x0 : List τ7) : Option Bool :=
 z31L0 N x0 (some true) N (0 : Int)
abbrev z31sg (f : SV [.v (.sl τ15)] → BV [] → Option (Bool)) : AF := { ps := [.v (.sl τ15)], bs := [], rs := [.v .bool], cs := [], R := Bool, out := fun z => ((z, ()), ()), f := f }
noncomputable abbrev z31g (N : Nat) : AF := z31sg fun x _ => ref1_Faithful N x.1
abbrev z31pk : SV [.v .bool] → BV [] → Bool := fun x _ => x.1
def z31fn (N : Nat) : FuncId → Option Tmp → Option AF := fun f _ =>
 match f with
   | 38 => some (z49g N)
   | 39 => some (z48g N)
   | _ => none
theorem z31fn_ok (N : Nat) : FnOk (z31fn N) := by
 intro f q F h
 unfold z31fn at h
 split at h
 · cases h; exact z49sound N
 · cases h; exact z48sound N
 · cases h
def z31h : Nat → Hint := fun i =>
 match i with
 | 0 => ⟨[], [0, 3], [], [], [], []⟩
 | 2 => ⟨[], [0, 3, 4], [], [0, 3], [], []⟩
 | _ => hint0
abbrev z31E (N : Nat) : Env := mkE z31h (z31fn N) FF FF
noncomputable abbrev z31c1 : Code := cAt (bodyOf Tryz.f20) [true, false, true, false, false]
noncomputable abbrev z31c0 : Code := cAt (bodyOf Tryz.f20) [true, false, true, false, false, true, false, false, true, false, false]
noncomputable abbrev z31R (N : Nat) := resD (z31E N) Tryz.f20 (z31g N) z31pk
abbrev z31L1_fs : List (Nat × Sl) := [(0, .v (.sl τ15)), (3, .v τ6), (4, .v τ6)]
abbrev z31L1_bs : List (Nat × Sb) := []
def z31L1_hd (x0 : List τ7) (s3 : Int) (s4 : Int) : St := ⟨39, [(0, .v (.sl τ15) x0), (3, .v τ6 s3), (4, .v τ6 s4)], []⟩
def z31L1_tl2 (x0 : List τ7) (s3 : Int) : St := ⟨39, [(0, .v (.sl τ15) x0), (3, .v τ6 s3)], []⟩
def z31L1_G (N : Nat) (x0 : List τ7) (s3 : Int) (s4 : Int) (k : Ex → St → Option Bool) : Option Bool :=
 z31L1 N x0 s3 (k (.exit 2) (z31L1_tl2 x0 s3)) N s4
abbrev z31L1_F (N : Nat) : FV z31L1_fs → HV z31L1_bs → (Ex → St → Option Bool) → Option Bool := fun x _ k => z31L1_G N x.1 x.2.1 x.2.2.1 k
abbrev z31L0_fs : List (Nat × Sl) := [(0, .v (.sl τ15)), (3, .v τ6)]
abbrev z31L0_bs : List (Nat × Sb) := []
def z31L0_hd (x0 : List τ7) (s3 : Int) : St := ⟨39, [(0, .v (.sl τ15) x0), (3, .v τ6 s3)], []⟩
def z31L0_tl0 (_x0 : List τ7) : St := ⟨39, [], []⟩
def z31L0_G (N : Nat) (x0 : List τ7) (s3 : Int) (k : Ex → St → Option Bool) : Option Bool :=
 z31L0 N x0 (k (.exit 0) (z31L0_tl0 x0)) N s3
abbrev z31L0_F (N : Nat) : FV z31L0_fs → HV z31L0_bs → (Ex → St → Option Bool) → Option Bool := fun x _ k => z31L0_G N x.1 x.2.1 k
noncomputable def z31LP (N : Nat) : Nat → Code → St → (Ex → St → Option Bool) → Option Bool := fun i c =>
 match i with
 | 0 => (LPc 39 z31L0_fs z31L0_bs (z31L0_F N) (fun st k => iter (z31h 0) (exec (z31E N) N c 0) N st k))
 | 2 => (LPc 39 z31L1_fs z31L1_bs (z31L1_F N) (fun st k => iter (z31h 2) (exec (z31E N) N c 2) N st k))
 | i => fun st k => iter (z31h i) (exec (z31E N) N c i) N st k
theorem z31L1_step (N : Nat) (x0 : List τ7) (s3 : Int) (KX : Nat → St → Option Bool) (I : St → Option Bool) (s4 : Int) :
   execL (z31LP N) (z31E N) z31c0 2 (z31L1_hd x0 s3 s4) (roundK (z31h 2) I KX (z31R N)) = z31L1T N x0 s3 (KX 2 (z31L1_tl2 x0 s3)) (fun s4 => I (z31L1_hd x0 s3 s4)) s4 := by kernel_rfl
theorem z31L1_ok (N : Nat) : ∀ x y k, (∀ st, k .ret st = (z31R N) st) → iter (z31h 2) (exec (z31E N) N z31c0 2) N ⟨39, unF z31L1_fs x, unH z31L1_bs y⟩ k = z31L1_F N x y k := fun x _ k hk =>
 iter_link (S := (Int) × Unit) (z31h 2) _ (execL (z31LP N) (z31E N) z31c0 2) (z31R N) (fun st k hk => execL_eq _ _ N _ z31c0 2 (show LoopsOk (z31LP N) (z31E N) N (z31R N) [] from trivial) st k hk) (fun s => z31L1_hd x.1 x.2.1 s.1) k hk
   (fun self s => z31L1T N x.1 x.2.1 (k (.exit 2) (z31L1_tl2 x.1 x.2.1)) (fun s4 => self (s4, ())) s.1) (fun n s => z31L1 N x.1 x.2.1 (k (.exit 2) (z31L1_tl2 x.1 x.2.1)) n s.1) (fun _ => rfl) (fun _ _ => rfl)
   (fun I s => z31L1_step N x.1 x.2.1 (fun j => k (.exit j)) I s.1) N (x.2.2.1, ())
theorem z31lp2 (N : Nat) : ∀ st k, (∀ st, k .ret st = (z31R N) st) → z31LP N 2 z31c0 st k = iter (Env.hint (z31E N) 2) (exec (z31E N) N z31c0 2) N st k := fun st k hk => LPc_eq 39 z31L1_fs z31L1_bs _ _ (z31R N) (z31L1_ok N) _ st k hk (rfl)
theorem z31L0_step (N : Nat) (x0 : List τ7) (KX : Nat → St → Option Bool) (I : St → Option Bool) (s3 : Int) :
   execL (z31LP N) (z31E N) z31c1 0 (z31L0_hd x0 s3) (roundK (z31h 0) I KX (z31R N)) = z31L0T N x0 (KX 0 (z31L0_tl0 x0)) (fun s3 => I (z31L0_hd x0 s3)) s3 := by kernel_rfl
theorem z31L0_ok (N : Nat) : ∀ x y k, (∀ st, k .ret st = (z31R N) st) → iter (z31h 0) (exec (z31E N) N z31c1 0) N ⟨39, unF z31L0_fs x, unH z31L0_bs y⟩ k = z31L0_F N x y k := fun x _ k hk =>
 iter_link (S := (Int) × Unit) (z31h 0) _ (execL (z31LP N) (z31E N) z31c1 0) (z31R N) (fun st k hk => execL_eq _ _ N _ z31c1 0 (show LoopsOk (z31LP N) (z31E N) N (z31R N) [(2, z31c0)] from ⟨z31lp2 N, trivial⟩) st k hk) (fun s => z31L0_hd x.1 s.1) k hk
   (fun self s => z31L0T N x.1 (k (.exit 0) (z31L0_tl0 x.1)) (fun s3 => self (s3, ())) s.1) (fun n s => z31L0 N x.1 (k (.exit 0) (z31L0_tl0 x.1)) n s.1) (fun _ => rfl) (fun _ _ => rfl)
   (fun I s => z31L0_step N x.1 (fun j => k (.exit j)) I s.1) N (x.2.1, ())
theorem z31lp0 (N : Nat) : ∀ st k, (∀ st, k .ret st = (z31R N) st) → z31LP N 0 z31c1 st k = iter (Env.hint (z31E N) 0) (exec (z31E N) N z31c1 0) N st k := fun st k hk => LPc_eq 39 z31L0_fs z31L0_bs _ _ (z31R N) (z31L0_ok N) _ st k hk (rfl)
theorem z31core (N : Nat) (x : SV [.v (.sl τ15)]) (y : BV []) : runL (z31E N) Tryz.f20 (z31g N) z31pk (z31LP N) x y = ref1_Faithful N x.1 := by kernel_rfl
theorem z31sound (N : Nat) : Snd 20 (z31g N) :=
 sndL (z31fn_ok N) Tryz.func20 rfl Tryz.call20 (z31g N) z31pk (fun _ _ => rfl) N (z31LP N) (show LoopsOk (z31LP N) (z31E N) N (z31R N) [(0, z31c1), (2, z31c0)] from ⟨z31lp0 N, z31lp2 N, trivial⟩) (z31core N)
def ref1_FaithfulTree (N : Nat) (x0 : List τ2) : Option Bool :=
 bnd (ref1_contents N N x0) fun t4 =>
 bnd (ref1_Faithful N t4) fun t5 =>
 some t5
abbrev z18sg (f : SV [.v (.sl τ1)] → BV [] → Option (Bool)) : AF := { ps := [.v (.sl τ1)], bs := [], rs := [.v .bool], cs := [], R := Bool, out := fun z => ((z, ()), ()), f := f }
noncomputable abbrev z18g (N : Nat) : AF := z18sg fun x _ => ref1_FaithfulTree N x.1
abbrev z18pk : SV [.v .bool] → BV [] → Bool := fun x _ => x.1
def z18fn (N : Nat) : FuncId → Option Tmp → Option AF := fun f _ =>
 match f with
   | 20 => some (z31g N)
   | 21 => some (z33sg fun x _ => ref1_contents N N x.1)
   | _ => none
theorem z18fn_ok (N : Nat) : FnOk (z18fn N) := by
 intro f q F h
 unfold z18fn at h
 split at h
 · cases h; exact z31sound N
 · cases h; exact z33sound N N
 · cases h
def z18h : Nat → Hint := fun i =>
 match i with
 | _ => hint0
abbrev z18E (N : Nat) : Env := mkE z18h (z18fn N) FF FF
noncomputable def z18LP (N : Nat) : Nat → Code → St → (Ex → St → Option Bool) → Option Bool := fun i c =>
 match i with
 | i => fun st k => iter (z18h i) (exec (z18E N) N c i) N st k
theorem z18core (N : Nat) (x : SV [.v (.sl τ1)]) (y : BV []) : runL (z18E N) Tryz.f7 (z18g N) z18pk (z18LP N) x y = ref1_FaithfulTree N x.1 := by kernel_rfl
theorem z18sound (N : Nat) : Snd 7 (z18g N) :=
 sndL (z18fn_ok N) Tryz.func7 rfl Tryz.call7 (z18g N) z18pk (fun _ _ => rfl) N (z18LP N) (show LoopsOk (z18LP N) (z18E N) N (resD (z18E N) Tryz.f7 (z18g N) z18pk) [] from trivial) (z18core N)
def z16L0T (N : Nat) (x0 : List τ4) (c8 : List τ4) (c9 : Int) (k0 : Option Int) (self : Int → Option Int) (s10 : Int) : Option Int :=
 br (decide (s10 < c9))
   (bnd (geti c8 s10) fun t13 =>
   bnd (blob_Digest N t13.2) fun t20 =>
   br (!(t13.1 == t20))
     (some (15 : Int))
     (br (decide ((t13.2.length : Int) > (2000000 : Int)))
       (some (2 : Int))
       (br (decide (s10 > (0 : Int)))
         (bnd (geti x0 (IntKind.i64.wrap (s10 - (1 : Int)))) fun t36 =>
         br (Op.bytesLess t13.1 t36.1 || t13.1 == t36.1)
           (some (8 : Int))
           (self (IntKind.i64.wrap (s10 + (1 : Int)))))
         (self (IntKind.i64.wrap (s10 + (1 : Int)))))))
   (k0)
def z16L0 (N : Nat) (x0 : List τ4) (c8 : List τ4) (c9 : Int) (k0 : Option Int) : Nat → Int → Option Int
 | 0, _ => none
 | n + 1, s10 => z16L0T N x0 c8 c9 k0 (z16L0 N x0 c8 c9 k0 n) s10
def blob_CheckObjects (N : Nat) (x0 : List τ4) : Option Int :=
 br (decide ((x0.length : Int) > (4000 : Int)))
   (some (2 : Int))
   (z16L0 N x0 x0 (x0.length : Int) (some (0 : Int)) N (0 : Int))
abbrev z16sg (f : SV [.v τ9] → BV [] → Option (Int)) : AF := { ps := [.v τ9], bs := [], rs := [.v τ6], cs := [], R := Int, out := fun z => ((z, ()), ()), f := f }
noncomputable abbrev z16g (N : Nat) : AF := z16sg fun x _ => blob_CheckObjects N x.1
abbrev z16pk : SV [.v τ6] → BV [] → Int := fun x _ => x.1
def z16fn (N : Nat) : FuncId → Option Tmp → Option AF := fun f _ =>
 match f with
   | 19 => some (z42g N)
   | _ => none
theorem z16fn_ok (N : Nat) : FnOk (z16fn N) := by
 intro f q F h
 unfold z16fn at h
 split at h
 · cases h; exact z42sound N
 · cases h
def z16h : Nat → Hint := fun i =>
 match i with
 | 0 => ⟨[], [0, 8, 9, 10], [], [], [], []⟩
 | _ => hint0
abbrev z16E (N : Nat) : Env := mkE z16h (z16fn N) FF FF
noncomputable abbrev z16c0 : Code := cAt (bodyOf Tryz.f43) [true, true, false, true, false, false]
noncomputable abbrev z16R (N : Nat) := resD (z16E N) Tryz.f43 (z16g N) z16pk
abbrev z16L0_fs : List (Nat × Sl) := [(0, .v τ9), (8, .v τ9), (9, .v τ6), (10, .v τ6)]
abbrev z16L0_bs : List (Nat × Sb) := []
def z16L0_hd (x0 : List τ4) (c8 : List τ4) (c9 : Int) (s10 : Int) : St := ⟨42, [(0, .v τ9 x0), (8, .v τ9 c8), (9, .v τ6 c9), (10, .v τ6 s10)], []⟩
def z16L0_tl0 (_x0 : List τ4) (_c8 : List τ4) (_c9 : Int) : St := ⟨42, [], []⟩
def z16L0_G (N : Nat) (x0 : List τ4) (c8 : List τ4) (c9 : Int) (s10 : Int) (k : Ex → St → Option Int) : Option Int :=
 z16L0 N x0 c8 c9 (k (.exit 0) (z16L0_tl0 x0 c8 c9)) N s10
abbrev z16L0_F (N : Nat) : FV z16L0_fs → HV z16L0_bs → (Ex → St → Option Int) → Option Int := fun x _ k => z16L0_G N x.1 x.2.1 x.2.2.1 x.2.2.2.1 k
noncomputable def z16LP (N : Nat) : Nat → Code → St → (Ex → St → Option Int) → Option Int := fun i c =>
 match i with
 | 0 => (LPc 42 z16L0_fs z16L0_bs (z16L0_F N) (fun st k => iter (z16h 0) (exec (z16E N) N c 0) N st k))
 | i => fun st k => iter (z16h i) (exec (z16E N) N c i) N st k
theorem z16L0_step (N : Nat) (x0 : List τ4) (c8 : List τ4) (c9 : Int) (KX : Nat → St → Option Int) (I : St → Option Int) (s10 : Int) :
   execL (z16LP N) (z16E N) z16c0 0 (z16L0_hd x0 c8 c9 s10) (roundK (z16h 0) I KX (z16R N)) = z16L0T N x0 c8 c9 (KX 0 (z16L0_tl0 x0 c8 c9)) (fun s10 => I (z16L0_hd x0 c8 c9 s10)) s10 := by kernel_rfl
theorem z16L0_ok (N : Nat) : ∀ x y k, (∀ st, k .ret st = (z16R N) st) → iter (z16h 0) (exec (z16E N) N z16c0 0) N ⟨42, unF z16L0_fs x, unH z16L0_bs y⟩ k = z16L0_F N x y k := fun x _ k hk =>
 iter_link (S := (Int) × Unit) (z16h 0) _ (execL (z16LP N) (z16E N) z16c0 0) (z16R N) (fun st k hk => execL_eq _ _ N _ z16c0 0 (show LoopsOk (z16LP N) (z16E N) N (z16R N) [] from trivial) st k hk) (fun s => z16L0_hd x.1 x.2.1 x.2.2.1 s.1) k hk
   (fun self s => z16L0T N x.1 x.2.1 x.2.2.1 (k (.exit 0) (z16L0_tl0 x.1 x.2.1 x.2.2.1)) (fun s10 => self (s10, ())) s.1) (fun n s => z16L0 N x.1 x.2.1 x.2.2.1 (k (.exit 0) (z16L0_tl0 x.1 x.2.1 x.2.2.1)) n s.1) (fun _ => rfl) (fun _ _ => rfl)
   (fun I s => z16L0_step N x.1 x.2.1 x.2.2.1 (fun j => k (.exit j)) I s.1) N (x.2.2.2.1, ())
theorem z16lp0 (N : Nat) : ∀ st k, (∀ st, k .ret st = (z16R N) st) → z16LP N 0 z16c0 st k = iter (Env.hint (z16E N) 0) (exec (z16E N) N z16c0 0) N st k := fun st k hk => LPc_eq 42 z16L0_fs z16L0_bs _ _ (z16R N) (z16L0_ok N) _ st k hk (rfl)
theorem z16core (N : Nat) (x : SV [.v τ9]) (y : BV []) : runL (z16E N) Tryz.f43 (z16g N) z16pk (z16LP N) x y = blob_CheckObjects N x.1 := by kernel_rfl
theorem z16sound (N : Nat) : Snd 43 (z16g N) :=
 sndL (z16fn_ok N) Tryz.func43 rfl Tryz.call43 (z16g N) z16pk (fun _ _ => rfl) N (z16LP N) (show LoopsOk (z16LP N) (z16E N) N (z16R N) [(0, z16c0)] from ⟨z16lp0 N, trivial⟩) (z16core N)
def blob_IsDigest (_N : Nat) (x0 : Str) : Option Bool :=
 br ((x0.length : Int) == (16 : Int))
   (bnd (strings_Trim x0 ([48, 49, 50, 51, 52, 53, 54, 55, 56, 57, 97, 98, 99, 100, 101, 102] : Str)) fun t8 =>
   some (t8 == ([] : Str)))
   (some false)
abbrev z30sg (f : SV [.v .str] → BV [] → Option (Bool)) : AF := { ps := [.v .str], bs := [], rs := [.v .bool], cs := [], R := Bool, out := fun z => ((z, ()), ()), f := f }
noncomputable abbrev z30g (N : Nat) : AF := z30sg fun x _ => blob_IsDigest N x.1
abbrev z30pk : SV [.v .bool] → BV [] → Bool := fun x _ => x.1
def z30fn (_N : Nat) : FuncId → Option Tmp → Option AF := fun f _ =>
 match f with
   | 68 => some (z41sg fun x _ => strings_Trim x.1 x.2.1)
   | _ => none
theorem z30fn_ok (N : Nat) : FnOk (z30fn N) := by
 intro f q F h
 unfold z30fn at h
 split at h
 · cases h; exact z41sound
 · cases h
def z30h : Nat → Hint := fun i =>
 match i with
 | _ => hint0
abbrev z30E (N : Nat) : Env := mkE z30h (z30fn N) FF FF
noncomputable def z30LP (N : Nat) : Nat → Code → St → (Ex → St → Option Bool) → Option Bool := fun i c =>
 match i with
 | i => fun st k => iter (z30h i) (exec (z30E N) N c i) N st k
theorem z30core (N : Nat) (x : SV [.v .str]) (y : BV []) : runL (z30E N) Tryz.f44 (z30g N) z30pk (z30LP N) x y = blob_IsDigest N x.1 := by kernel_rfl
theorem z30sound (N : Nat) : Snd 44 (z30g N) :=
 sndL (z30fn_ok N) Tryz.func44 rfl Tryz.call44 (z30g N) z30pk (fun _ _ => rfl) N (z30LP N) (show LoopsOk (z30LP N) (z30E N) N (resD (z30E N) Tryz.f44 (z30g N) z30pk) [] from trivial) (z30core N)
def blob_checkRoot (N : Nat) (x0 : Str) (x1 : List τ4) : Option Int :=
 bnd (blob_CheckObjects N x1) fun t7 =>
 br (t7 != (0 : Int))
   (some t7)
   (bnd (blob_IsDigest N x0) fun t12 =>
   br (!t12)
     (some (3 : Int))
     (some (0 : Int)))
abbrev z26sg (f : SV [.v .str, .v τ9] → BV [] → Option (Int)) : AF := { ps := [.v .str, .v τ9], bs := [], rs := [.v τ6], cs := [], R := Int, out := fun z => ((z, ()), ()), f := f }
noncomputable abbrev z26g (N : Nat) : AF := z26sg fun x _ => blob_checkRoot N x.1 x.2.1
abbrev z26pk : SV [.v τ6] → BV [] → Int := fun x _ => x.1
def z26fn (N : Nat) : FuncId → Option Tmp → Option AF := fun f _ =>
 match f with
   | 43 => some (z16g N)
   | 44 => some (z30g N)
   | _ => none
theorem z26fn_ok (N : Nat) : FnOk (z26fn N) := by
 intro f q F h
 unfold z26fn at h
 split at h
 · cases h; exact z16sound N
 · cases h; exact z30sound N
 · cases h
def z26h : Nat → Hint := fun i =>
 match i with
 | _ => hint0
abbrev z26E (N : Nat) : Env := mkE z26h (z26fn N) FF FF
noncomputable def z26LP (N : Nat) : Nat → Code → St → (Ex → St → Option Int) → Option Int := fun i c =>
 match i with
 | i => fun st k => iter (z26h i) (exec (z26E N) N c i) N st k
theorem z26core (N : Nat) (x : SV [.v .str, .v τ9]) (y : BV []) : runL (z26E N) Tryz.f22 (z26g N) z26pk (z26LP N) x y = blob_checkRoot N x.1 x.2.1 := by kernel_rfl
theorem z26sound (N : Nat) : Snd 22 (z26g N) :=
 sndL (z26fn_ok N) Tryz.func22 rfl Tryz.call22 (z26g N) z26pk (fun _ _ => rfl) N (z26LP N) (show LoopsOk (z26LP N) (z26E N) N (resD (z26E N) Tryz.f22 (z26g N) z26pk) [] from trivial) (z26core N)
def blob_Find_1 (_N : Nat) (x0 : Str × List UInt8) (x1 : Str) : Option Int :=
 bnd (strings_Compare x0.1 x1) fun t8 =>
 some t8
abbrev z43sg (f : SV [.v (.pr .str τ15), .v .str] → BV [] → Option (Int)) : AF := { ps := [.v (.pr .str τ15), .v .str], bs := [], rs := [.v τ6], cs := [], R := Int, out := fun z => ((z, ()), ()), f := f }
noncomputable abbrev z43g (N : Nat) : AF := z43sg fun x _ => blob_Find_1 N x.1 x.2.1
abbrev z43pk : SV [.v τ6] → BV [] → Int := fun x _ => x.1
def z43fn (_N : Nat) : FuncId → Option Tmp → Option AF := fun f _ =>
 match f with
   | 18 => some (z25sg fun x _ => strings_Compare x.1 x.2.1)
   | _ => none
theorem z43fn_ok (N : Nat) : FnOk (z43fn N) := by
 intro f q F h
 unfold z43fn at h
 split at h
 · cases h; exact z25sound
 · cases h
def z43h : Nat → Hint := fun i =>
 match i with
 | _ => hint0
abbrev z43E (N : Nat) : Env := mkE z43h (z43fn N) FF FF
noncomputable def z43LP (N : Nat) : Nat → Code → St → (Ex → St → Option Int) → Option Int := fun i c =>
 match i with
 | i => fun st k => iter (z43h i) (exec (z43E N) N c i) N st k
theorem z43core (N : Nat) (x : SV [.v (.pr .str τ15), .v .str]) (y : BV []) : runL (z43E N) Tryz.f48 (z43g N) z43pk (z43LP N) x y = blob_Find_1 N x.1 x.2.1 := by kernel_rfl
theorem z43sound (N : Nat) : Snd 48 (z43g N) :=
 sndL (z43fn_ok N) Tryz.func48 rfl Tryz.call48 (z43g N) z43pk (fun _ _ => rfl) N (z43LP N) (show LoopsOk (z43LP N) (z43E N) N (resD (z43E N) Tryz.f48 (z43g N) z43pk) [] from trivial) (z43core N)
def z0L0T (N : Nat) (x0 : List τ4) (x1 : Str) (k0 : Int → Option (Int × Bool)) (self : Int → Int → Option (Int × Bool)) (s9 : Int) (s10 : Int) : Option (Int × Bool) :=
 br (decide (s9 < s10))
   (br (decide (0 ≤ (1 : Int)))
     (bnd (geti x0 (IntKind.i64.wrap (shrI .u64 (IntKind.u64.wrap (IntKind.i64.wrap (s9 + s10))) (1 : Int)))) fun t27 =>
     bnd (blob_Find_1 N t27 x1) fun t30 =>
     br (decide (t30 < (0 : Int)))
       (self (IntKind.i64.wrap ((IntKind.i64.wrap (shrI .u64 (IntKind.u64.wrap (IntKind.i64.wrap (s9 + s10))) (1 : Int))) + (1 : Int))) s10)
       (self s9 (IntKind.i64.wrap (shrI .u64 (IntKind.u64.wrap (IntKind.i64.wrap (s9 + s10))) (1 : Int)))))
     none)
   (k0 s9)
def z0L0 (N : Nat) (x0 : List τ4) (x1 : Str) (k0 : Int → Option (Int × Bool)) : Nat → Int → Int → Option (Int × Bool)
 | 0, _, _ => none
 | n + 1, s9, s10 => z0L0T N x0 x1 k0 (z0L0 N x0 x1 k0 n) s9 s10
def slices_BinarySearchFunc_api_Object_string (N : Nat) (x0 : List τ4) (x1 : Str) (_x2 : Unit) : Option (Int × Bool) :=
 z0L0 N x0 x1 (fun o0_9 =>
     br (decide (o0_9 < (x0.length : Int)))
       (bnd (geti x0 o0_9) fun t43 =>
       bnd (blob_Find_1 N t43 x1) fun t46 =>
       some (o0_9, t46 == (0 : Int)))
       (some (o0_9, false))) N (0 : Int) (x0.length : Int)
abbrev z0sg (f : SV [.v τ9, .v .str, .v (.clo 48 .un)] → BV [] → Option (Int × Bool)) : AF := { ps := [.v τ9, .v .str, .v (.clo 48 .un)], bs := [], rs := [.v τ6, .v .bool], cs := [], R := Int × Bool, out := fun z => ((z.1, z.2, ()), ()), f := f }
noncomputable abbrev z0g (N : Nat) : AF := z0sg fun x _ => slices_BinarySearchFunc_api_Object_string N x.1 x.2.1 x.2.2.1
abbrev z0pk : SV [.v τ6, .v .bool] → BV [] → (Int × Bool) := fun x _ => (x.1, x.2.1)
def z0fn (N : Nat) : FuncId → Option Tmp → Option AF := fun f _ =>
 match f with
   | 48 => some (z43g N)
   | _ => none
theorem z0fn_ok (N : Nat) : FnOk (z0fn N) := by
 intro f q F h
 unfold z0fn at h
 split at h
 · cases h; exact z43sound N
 · cases h
def z0h : Nat → Hint := fun i =>
 match i with
 | 0 => ⟨[], [0, 1, 2, 8, 9, 10], [], [0, 1, 2, 8, 9], [], []⟩
 | _ => hint0
abbrev z0E (N : Nat) : Env := mkE z0h (z0fn N) FF FF
noncomputable abbrev z0c0 : Code := cAt (bodyOf Tryz.f47) [true, true, true, false, false, false]
noncomputable abbrev z0R (N : Nat) := resD (z0E N) Tryz.f47 (z0g N) z0pk
abbrev z0L0_fs : List (Nat × Sl) := [(0, .v τ9), (1, .v .str), (2, .v (.clo 48 .un)), (8, .v τ6), (9, .v τ6), (10, .v τ6)]
abbrev z0L0_bs : List (Nat × Sb) := []
def z0L0_hd (x0 : List τ4) (x1 : Str) (x2 : Unit) (c8 : Int) (s9 : Int) (s10 : Int) : St := ⟨49, [(0, .v τ9 x0), (1, .v .str x1), (2, .v (.clo 48 .un) x2), (8, .v τ6 c8), (9, .v τ6 s9), (10, .v τ6 s10)], []⟩
def z0L0_tl0 (x0 : List τ4) (x1 : Str) (x2 : Unit) (c8 : Int) (o0_9 : Int) : St := ⟨49, [(0, .v τ9 x0), (1, .v .str x1), (2, .v (.clo 48 .un) x2), (8, .v τ6 c8), (9, .v τ6 o0_9)], []⟩
def z0L0_G (N : Nat) (x0 : List τ4) (x1 : Str) (x2 : Unit) (c8 : Int) (s9 : Int) (s10 : Int) (k : Ex → St → Option (Int × Bool)) : Option (Int × Bool) :=
 z0L0 N x0 x1 (fun o0_9 => k (.exit 0) (z0L0_tl0 x0 x1 x2 c8 o0_9)) N s9 s10
abbrev z0L0_F (N : Nat) : FV z0L0_fs → HV z0L0_bs → (Ex → St → Option (Int × Bool)) → Option (Int × Bool) := fun x _ k => z0L0_G N x.1 x.2.1 x.2.2.1 x.2.2.2.1 x.2.2.2.2.1 x.2.2.2.2.2.1 k
noncomputable def z0LP (N : Nat) : Nat → Code → St → (Ex → St → Option (Int × Bool)) → Option (Int × Bool) := fun i c =>
 match i with
 | 0 => (LPc 49 z0L0_fs z0L0_bs (z0L0_F N) (fun st k => iter (z0h 0) (exec (z0E N) N c 0) N st k))
 | i => fun st k => iter (z0h i) (exec (z0E N) N c i) N st k
theorem z0L0_step (N : Nat) (x0 : List τ4) (x1 : Str) (x2 : Unit) (c8 : Int) (KX : Nat → St → Option (Int × Bool)) (I : St → Option (Int × Bool)) (s9 : Int) (s10 : Int) :
   execL (z0LP N) (z0E N) z0c0 0 (z0L0_hd x0 x1 x2 c8 s9 s10) (roundK (z0h 0) I KX (z0R N)) = z0L0T N x0 x1 (fun o0_9 => KX 0 (z0L0_tl0 x0 x1 x2 c8 o0_9)) (fun s9 s10 => I (z0L0_hd x0 x1 x2 c8 s9 s10)) s9 s10 := by kernel_rfl
theorem z0L0_ok (N : Nat) : ∀ x y k, (∀ st, k .ret st = (z0R N) st) → iter (z0h 0) (exec (z0E N) N z0c0 0) N ⟨49, unF z0L0_fs x, unH z0L0_bs y⟩ k = z0L0_F N x y k := fun x _ k hk =>
 iter_link (S := (Int) × (Int) × Unit) (z0h 0) _ (execL (z0LP N) (z0E N) z0c0 0) (z0R N) (fun st k hk => execL_eq _ _ N _ z0c0 0 (show LoopsOk (z0LP N) (z0E N) N (z0R N) [] from trivial) st k hk) (fun s => z0L0_hd x.1 x.2.1 x.2.2.1 x.2.2.2.1 s.1 s.2.1) k hk
   (fun self s => z0L0T N x.1 x.2.1 (fun o0_9 => k (.exit 0) (z0L0_tl0 x.1 x.2.1 x.2.2.1 x.2.2.2.1 o0_9)) (fun s9 s10 => self (s9, s10, ())) s.1 s.2.1) (fun n s => z0L0 N x.1 x.2.1 (fun o0_9 => k (.exit 0) (z0L0_tl0 x.1 x.2.1 x.2.2.1 x.2.2.2.1 o0_9)) n s.1 s.2.1) (fun _ => rfl) (fun _ _ => rfl)
   (fun I s => z0L0_step N x.1 x.2.1 x.2.2.1 x.2.2.2.1 (fun j => k (.exit j)) I s.1 s.2.1) N (x.2.2.2.2.1, x.2.2.2.2.2.1, ())
theorem z0lp0 (N : Nat) : ∀ st k, (∀ st, k .ret st = (z0R N) st) → z0LP N 0 z0c0 st k = iter (Env.hint (z0E N) 0) (exec (z0E N) N z0c0 0) N st k := fun st k hk => LPc_eq 49 z0L0_fs z0L0_bs _ _ (z0R N) (z0L0_ok N) _ st k hk (rfl)
theorem z0core (N : Nat) (x : SV [.v τ9, .v .str, .v (.clo 48 .un)]) (y : BV []) : runL (z0E N) Tryz.f47 (z0g N) z0pk (z0LP N) x y = slices_BinarySearchFunc_api_Object_string N x.1 x.2.1 x.2.2.1 := by kernel_rfl
theorem z0sound (N : Nat) : Snd 47 (z0g N) :=
 sndL (z0fn_ok N) Tryz.func47 rfl Tryz.call47 (z0g N) z0pk (fun _ _ => rfl) N (z0LP N) (show LoopsOk (z0LP N) (z0E N) N (z0R N) [(0, z0c0)] from ⟨z0lp0 N, trivial⟩) (z0core N)
def blob_Find (N : Nat) (x0 : List τ4) (x1 : Str) : Option (List UInt8 × Bool) :=
 bnd (slices_BinarySearchFunc_api_Object_string N x0 x1 ()) fun t11 =>
 br (!t11.2)
   (some (([] : List UInt8), false))
   (bnd (geti x0 t11.1) fun t18 =>
   some (t18.2, true))
abbrev z56sg (f : SV [.v τ9, .v .str] → BV [] → Option (List UInt8 × Bool)) : AF := { ps := [.v τ9, .v .str], bs := [], rs := [.v τ15, .v .bool], cs := [], R := List UInt8 × Bool, out := fun z => ((z.1, z.2, ()), ()), f := f }
noncomputable abbrev z56g (N : Nat) : AF := z56sg fun x _ => blob_Find N x.1 x.2.1
abbrev z56pk : SV [.v τ15, .v .bool] → BV [] → (List UInt8 × Bool) := fun x _ => (x.1, x.2.1)
def z56fn (N : Nat) : FuncId → Option Tmp → Option AF := fun f _ =>
 match f with
   | 47 => some (z0g N)
   | _ => none
theorem z56fn_ok (N : Nat) : FnOk (z56fn N) := by
 intro f q F h
 unfold z56fn at h
 split at h
 · cases h; exact z0sound N
 · cases h
def z56h : Nat → Hint := fun i =>
 match i with
 | _ => hint0
abbrev z56E (N : Nat) : Env := mkE z56h (z56fn N) FF FF
noncomputable def z56LP (N : Nat) : Nat → Code → St → (Ex → St → Option (List UInt8 × Bool)) → Option (List UInt8 × Bool) := fun i c =>
 match i with
 | i => fun st k => iter (z56h i) (exec (z56E N) N c i) N st k
theorem z56core (N : Nat) (x : SV [.v τ9, .v .str]) (y : BV []) : runL (z56E N) Tryz.f26 (z56g N) z56pk (z56LP N) x y = blob_Find N x.1 x.2.1 := by kernel_rfl
theorem z56sound (N : Nat) : Snd 26 (z56g N) :=
 sndL (z56fn_ok N) Tryz.func26 rfl Tryz.call26 (z56g N) z56pk (fun _ _ => rfl) N (z56LP N) (show LoopsOk (z56LP N) (z56E N) N (resD (z56E N) Tryz.f26 (z56g N) z56pk) [] from trivial) (z56core N)
def blob_readEntry (N : Nat) (x0 : Str) : Option (τ8 × Bool) :=
 bnd (strings_Split x0 ([32] : Str)) fun t6 =>
 bnd
   (br ((t6.length : Int) == (4 : Int))
     (bnd (geti t6 (0 : Int)) fun t14 =>
     br (t14 == ([102, 105, 108, 101] : Str))
       (bnd (geti t6 (3 : Int)) fun t20 =>
       br (t20 == ([120] : Str))
         (some true)
         (bnd (geti t6 (3 : Int)) fun t25 =>
         some (t25 == ([45] : Str))))
       (some false))
     (some false)) fun j8 =>
 br (j8)
   (bnd (geti t6 (1 : Int)) fun t41 =>
   bnd (geti t6 (2 : Int)) fun t44 =>
   bnd (geti t6 (0 : Int)) fun t47 =>
   bnd (geti t6 (1 : Int)) fun t61 =>
   br ((t6.length : Int) == (4 : Int))
     (bnd (geti t6 (3 : Int)) fun t55 =>
     both
       (bnd (blob_isPart N t61) fun t63 =>
       br (t63)
         (bnd (geti t6 (2 : Int)) fun t66 =>
         bnd (blob_IsDigest N t66) fun t68 =>
         times 1
           (some ((t41, (t44, (t47 == ([100, 105, 114] : Str), t55 == ([120] : Str)))), t68)))
         (times 1
           (some ((t41, (t44, (t47 == ([100, 105, 114] : Str), t55 == ([120] : Str)))), false))))
       (bnd (blob_isPart N t61) fun t63 =>
       both
         (br (t63)
           (bnd (geti t6 (2 : Int)) fun t66 =>
           bnd (blob_IsDigest N t66) fun t68 =>
           times 1
             (some ((t41, (t44, (t47 == ([100, 105, 114] : Str), t55 == ([120] : Str)))), t68)))
           (times 1
             (some ((t41, (t44, (t47 == ([100, 105, 114] : Str), t55 == ([120] : Str)))), false))))
         (br (t63)
           (both
             (bnd (geti t6 (2 : Int)) fun t66 =>
             bnd (blob_IsDigest N t66) fun t68 =>
             times 1
               (some ((t41, (t44, (t47 == ([100, 105, 114] : Str), t55 == ([120] : Str)))), t68)))
             (bnd (geti t6 (2 : Int)) fun t66 =>
             both
               (bnd (blob_IsDigest N t66) fun t68 =>
               times 1
                 (some ((t41, (t44, (t47 == ([100, 105, 114] : Str), t55 == ([120] : Str)))), t68)))
               (both
                 (bnd (blob_IsDigest N t66) fun t68 =>
                 times 1
                   (some ((t41, (t44, (t47 == ([100, 105, 114] : Str), t55 == ([120] : Str)))), t68)))
                 (bnd (blob_IsDigest N t66) fun t68 =>
                 both
                   (times 1
                     (some ((t41, (t44, (t47 == ([100, 105, 114] : Str), t55 == ([120] : Str)))), t68)))
                   (some ((t41, (t44, (t47 == ([100, 105, 114] : Str), t55 == ([120] : Str)))), t68))))))
           (both
             (times 1
               (some ((t41, (t44, (t47 == ([100, 105, 114] : Str), t55 == ([120] : Str)))), false)))
             (both
               (times 1
                 (some ((t41, (t44, (t47 == ([100, 105, 114] : Str), t55 == ([120] : Str)))), false)))
               (both
                 (times 1
                   (some ((t41, (t44, (t47 == ([100, 105, 114] : Str), t55 == ([120] : Str)))), false)))
                 (both
                   (times 1
                     (some ((t41, (t44, (t47 == ([100, 105, 114] : Str), t55 == ([120] : Str)))), false)))
                   (some ((t41, (t44, (t47 == ([100, 105, 114] : Str), t55 == ([120] : Str)))), false)))))))))
     (both
       (bnd (blob_isPart N t61) fun t63_1 =>
       br (t63_1)
         (bnd (geti t6 (2 : Int)) fun t66_2 =>
         bnd (blob_IsDigest N t66_2) fun t68_3 =>
         times 1
           (some ((t41, (t44, (t47 == ([100, 105, 114] : Str), false))), t68_3)))
         (times 1
           (some ((t41, (t44, (t47 == ([100, 105, 114] : Str), false))), false))))
       (bnd (blob_isPart N t61) fun t63_1 =>
       both
         (br (t63_1)
           (bnd (geti t6 (2 : Int)) fun t66_2 =>
           bnd (blob_IsDigest N t66_2) fun t68_3 =>
           times 1
             (some ((t41, (t44, (t47 == ([100, 105, 114] : Str), false))), t68_3)))
           (times 1
             (some ((t41, (t44, (t47 == ([100, 105, 114] : Str), false))), false))))
         (br (t63_1)
           (both
             (bnd (geti t6 (2 : Int)) fun t66_2 =>
             bnd (blob_IsDigest N t66_2) fun t68_3 =>
             times 1
               (some ((t41, (t44, (t47 == ([100, 105, 114] : Str), false))), t68_3)))
             (bnd (geti t6 (2 : Int)) fun t66_2 =>
             both
               (bnd (blob_IsDigest N t66_2) fun t68_3 =>
               times 1
                 (some ((t41, (t44, (t47 == ([100, 105, 114] : Str), false))), t68_3)))
               (both
                 (bnd (blob_IsDigest N t66_2) fun t68_3 =>
                 times 1
                   (some ((t41, (t44, (t47 == ([100, 105, 114] : Str), false))), t68_3)))
                 (bnd (blob_IsDigest N t66_2) fun t68_3 =>
                 both
                   (times 1
                     (some ((t41, (t44, (t47 == ([100, 105, 114] : Str), false))), t68_3)))
                   (some ((t41, (t44, (t47 == ([100, 105, 114] : Str), false))), t68_3))))))
           (both
             (times 1
               (some ((t41, (t44, (t47 == ([100, 105, 114] : Str), false))), false)))
             (both
               (times 1
                 (some ((t41, (t44, (t47 == ([100, 105, 114] : Str), false))), false)))
               (both
                 (times 1
                   (some ((t41, (t44, (t47 == ([100, 105, 114] : Str), false))), false)))
                 (both
                   (times 1
                     (some ((t41, (t44, (t47 == ([100, 105, 114] : Str), false))), false)))
                   (some ((t41, (t44, (t47 == ([100, 105, 114] : Str), false))), false))))))))))
   (bnd
     (br ((t6.length : Int) == (3 : Int))
       (bnd (geti t6 (0 : Int)) fun t36 =>
       some (t36 == ([100, 105, 114] : Str)))
       (some false)) fun j30 =>
   br (j30)
     (bnd (geti t6 (1 : Int)) fun t41_4 =>
     bnd (geti t6 (2 : Int)) fun t44_5 =>
     bnd (geti t6 (0 : Int)) fun t47_6 =>
     bnd (geti t6 (1 : Int)) fun t61_7 =>
     br ((t6.length : Int) == (4 : Int))
       (bnd (geti t6 (3 : Int)) fun t55_8 =>
       both
         (bnd (blob_isPart N t61_7) fun t63_9 =>
         br (t63_9)
           (bnd (geti t6 (2 : Int)) fun t66_10 =>
           bnd (blob_IsDigest N t66_10) fun t68_11 =>
           times 1
             (some ((t41_4, (t44_5, (t47_6 == ([100, 105, 114] : Str), t55_8 == ([120] : Str)))), t68_11)))
           (times 1
             (some ((t41_4, (t44_5, (t47_6 == ([100, 105, 114] : Str), t55_8 == ([120] : Str)))), false))))
         (bnd (blob_isPart N t61_7) fun t63_9 =>
         both
           (br (t63_9)
             (bnd (geti t6 (2 : Int)) fun t66_10 =>
             bnd (blob_IsDigest N t66_10) fun t68_11 =>
             times 1
               (some ((t41_4, (t44_5, (t47_6 == ([100, 105, 114] : Str), t55_8 == ([120] : Str)))), t68_11)))
             (times 1
               (some ((t41_4, (t44_5, (t47_6 == ([100, 105, 114] : Str), t55_8 == ([120] : Str)))), false))))
           (br (t63_9)
             (both
               (bnd (geti t6 (2 : Int)) fun t66_10 =>
               bnd (blob_IsDigest N t66_10) fun t68_11 =>
               times 1
                 (some ((t41_4, (t44_5, (t47_6 == ([100, 105, 114] : Str), t55_8 == ([120] : Str)))), t68_11)))
               (bnd (geti t6 (2 : Int)) fun t66_10 =>
               both
                 (bnd (blob_IsDigest N t66_10) fun t68_11 =>
                 times 1
                   (some ((t41_4, (t44_5, (t47_6 == ([100, 105, 114] : Str), t55_8 == ([120] : Str)))), t68_11)))
                 (both
                   (bnd (blob_IsDigest N t66_10) fun t68_11 =>
                   times 1
                     (some ((t41_4, (t44_5, (t47_6 == ([100, 105, 114] : Str), t55_8 == ([120] : Str)))), t68_11)))
                   (bnd (blob_IsDigest N t66_10) fun t68_11 =>
                   both
                     (times 1
                       (some ((t41_4, (t44_5, (t47_6 == ([100, 105, 114] : Str), t55_8 == ([120] : Str)))), t68_11)))
                     (some ((t41_4, (t44_5, (t47_6 == ([100, 105, 114] : Str), t55_8 == ([120] : Str)))), t68_11))))))
             (both
               (times 1
                 (some ((t41_4, (t44_5, (t47_6 == ([100, 105, 114] : Str), t55_8 == ([120] : Str)))), false)))
               (both
                 (times 1
                   (some ((t41_4, (t44_5, (t47_6 == ([100, 105, 114] : Str), t55_8 == ([120] : Str)))), false)))
                 (both
                   (times 1
                     (some ((t41_4, (t44_5, (t47_6 == ([100, 105, 114] : Str), t55_8 == ([120] : Str)))), false)))
                   (both
                     (times 1
                       (some ((t41_4, (t44_5, (t47_6 == ([100, 105, 114] : Str), t55_8 == ([120] : Str)))), false)))
                     (some ((t41_4, (t44_5, (t47_6 == ([100, 105, 114] : Str), t55_8 == ([120] : Str)))), false)))))))))
       (both
         (bnd (blob_isPart N t61_7) fun t63_12 =>
         br (t63_12)
           (bnd (geti t6 (2 : Int)) fun t66_13 =>
           bnd (blob_IsDigest N t66_13) fun t68_14 =>
           times 1
             (some ((t41_4, (t44_5, (t47_6 == ([100, 105, 114] : Str), false))), t68_14)))
           (times 1
             (some ((t41_4, (t44_5, (t47_6 == ([100, 105, 114] : Str), false))), false))))
         (bnd (blob_isPart N t61_7) fun t63_12 =>
         both
           (br (t63_12)
             (bnd (geti t6 (2 : Int)) fun t66_13 =>
             bnd (blob_IsDigest N t66_13) fun t68_14 =>
             times 1
               (some ((t41_4, (t44_5, (t47_6 == ([100, 105, 114] : Str), false))), t68_14)))
             (times 1
               (some ((t41_4, (t44_5, (t47_6 == ([100, 105, 114] : Str), false))), false))))
           (br (t63_12)
             (both
               (bnd (geti t6 (2 : Int)) fun t66_13 =>
               bnd (blob_IsDigest N t66_13) fun t68_14 =>
               times 1
                 (some ((t41_4, (t44_5, (t47_6 == ([100, 105, 114] : Str), false))), t68_14)))
               (bnd (geti t6 (2 : Int)) fun t66_13 =>
               both
                 (bnd (blob_IsDigest N t66_13) fun t68_14 =>
                 times 1
                   (some ((t41_4, (t44_5, (t47_6 == ([100, 105, 114] : Str), false))), t68_14)))
                 (both
                   (bnd (blob_IsDigest N t66_13) fun t68_14 =>
                   times 1
                     (some ((t41_4, (t44_5, (t47_6 == ([100, 105, 114] : Str), false))), t68_14)))
                   (bnd (blob_IsDigest N t66_13) fun t68_14 =>
                   both
                     (times 1
                       (some ((t41_4, (t44_5, (t47_6 == ([100, 105, 114] : Str), false))), t68_14)))
                     (some ((t41_4, (t44_5, (t47_6 == ([100, 105, 114] : Str), false))), t68_14))))))
             (both
               (times 1
                 (some ((t41_4, (t44_5, (t47_6 == ([100, 105, 114] : Str), false))), false)))
               (both
                 (times 1
                   (some ((t41_4, (t44_5, (t47_6 == ([100, 105, 114] : Str), false))), false)))
                 (both
                   (times 1
                     (some ((t41_4, (t44_5, (t47_6 == ([100, 105, 114] : Str), false))), false)))
                   (both
                     (times 1
                       (some ((t41_4, (t44_5, (t47_6 == ([100, 105, 114] : Str), false))), false)))
                     (some ((t41_4, (t44_5, (t47_6 == ([100, 105, 114] : Str), false))), false))))))))))
     (some ((([] : Str), (([] : Str), (false, false))), false)))
abbrev z28sg (f : SV [.v .str] → BV [] → Option (τ8 × Bool)) : AF := { ps := [.v .str], bs := [], rs := [.v τ10, .v .bool], cs := [], R := τ8 × Bool, out := fun z => ((z.1, z.2, ()), ()), f := f }
noncomputable abbrev z28g (N : Nat) : AF := z28sg fun x _ => blob_readEntry N x.1
abbrev z28pk : SV [.v τ10, .v .bool] → BV [] → (τ8 × Bool) := fun x _ => (x.1, x.2.1)
def z28fn (N : Nat) : FuncId → Option Tmp → Option AF := fun f _ =>
 match f with
   | 44 => some (z30g N)
   | 52 => some (z34sg fun x _ => strings_Split x.1 x.2.1)
   | 53 => some (z47g N)
   | _ => none
theorem z28fn_ok (N : Nat) : FnOk (z28fn N) := by
 intro f q F h
 unfold z28fn at h
 split at h
 · cases h; exact z30sound N
 · cases h; exact z34sound
 · cases h; exact z47sound N
 · cases h
def z28h : Nat → Hint := fun i =>
 match i with
 | 100005 => ⟨[], [1], [], [], [], []⟩
 | _ => hint0
abbrev z28E (N : Nat) : Env := mkE z28h (z28fn N) FF FF |>.jk (fun i => match i with | 3 => some 8 | 4 => some 30 | _ => none)
noncomputable def z28LP (N : Nat) : Nat → Code → St → (Ex → St → Option (τ8 × Bool)) → Option (τ8 × Bool) := fun i c =>
 match i with
 | i => fun st k => iter (z28h i) (exec (z28E N) N c i) N st k
theorem z28core (N : Nat) (x : SV [.v .str]) (y : BV []) : runL (z28E N) Tryz.f50 (z28g N) z28pk (z28LP N) x y = blob_readEntry N x.1 := by kernel_rfl
theorem z28sound (N : Nat) : Snd 50 (z28g N) :=
 runD_sound (EnvOk.jk (mkE_ok z28h (z28fn N) _ _ (z28fn_ok N)) _) Tryz.func50 rfl Tryz.call50 (z28g N) z28pk (fun _ _ => rfl) N (fun x y _ h => ((runL_eq (z28E N) N Tryz.f50 (z28g N) z28pk (z28LP N) (show LoopsOk (z28LP N) (z28E N) N (resD (z28E N) Tryz.f50 (z28g N) z28pk) [] from trivial) x y).trans (z28core N x y)).trans h)
def z40L0T (N : Nat) (k0 : (List τ8) → Option (Bool × List τ8)) (self : Str → (List τ8) → Option (Bool × List τ8)) (s5 : Str) (w1004 : List τ8) : Option (Bool × List τ8) :=
 br (!(s5 == ([] : Str)))
   (bnd (strings_Cut s5 ([10] : Str)) fun t17 =>
   bnd (blob_readEntry N t17.1) fun t23 =>
   br (!t17.2.2)
     (some (false, ([] : List τ8)))
     (br (!t23.2)
       (some (false, ([] : List τ8)))
       (br (decide ((w1004.length : Int) > (0 : Int)))
         (bnd (geti w1004 (IntKind.i64.wrap ((w1004.length : Int) - (1 : Int)))) fun t43 =>
         br (Op.bytesLess t23.1.1 t43.1 || t23.1.1 == t43.1)
           (some (false, ([] : List τ8)))
           (br (decide ((w1004.length + [t23.1].length) * (24 * Ty.sz τ10) ≤ 140737488355328))
             (self t17.2.1 (w1004 ++ [t23.1]))
             none))
         (br (decide ((w1004.length + [t23.1].length) * (24 * Ty.sz τ10) ≤ 140737488355328))
           (self t17.2.1 (w1004 ++ [t23.1]))
           none))))
   (k0 w1004)
def z40L0 (N : Nat) (k0 : (List τ8) → Option (Bool × List τ8)) : Nat → Str → (List τ8) → Option (Bool × List τ8)
 | 0, _, _ => none
 | n + 1, s5, w1004 => z40L0T N k0 (z40L0 N k0 n) s5 w1004
def blob_readDir (N : Nat) (x0 : List UInt8) : Option (Bool × List τ8) :=
 z40L0 N (fun o0_w1004 =>
     some (true, o0_w1004)) N x0 ([] : List τ8)
abbrev z40sg (f : SV [.v τ15] → BV [] → Option (Bool × List τ8)) : AF := { ps := [.v τ15], bs := [], rs := [.row 0, .v .bool], cs := [.row 71 τ10 false], R := Bool × List τ8, out := fun z => (((), z.1, ()), (z.2, ())), f := f }
noncomputable abbrev z40g (N : Nat) : AF := z40sg fun x _ => blob_readDir N x.1
abbrev z40pk : SV [.row 0, .v .bool] → BV [.row 71 τ10 false] → (Bool × List τ8) := fun x y => (x.2.1, y.1)
def z40fn (N : Nat) : FuncId → Option Tmp → Option AF := fun f _ =>
 match f with
   | 49 => some (z51sg fun x _ => strings_Cut x.1 x.2.1)
   | 50 => some (z28g N)
   | _ => none
theorem z40fn_ok (N : Nat) : FnOk (z40fn N) := by
 intro f q F h
 unfold z40fn at h
 split at h
 · cases h; exact z51sound
 · cases h; exact z28sound N
 · cases h
def z40h : Nat → Hint := fun i =>
 match i with
 | 0 => ⟨[], [4, 5], [1004], [4], [1004], []⟩
 | _ => hint0
abbrev z40E (N : Nat) : Env := mkE z40h (z40fn N) FF FF
noncomputable abbrev z40c0 : Code := cAt (bodyOf Tryz.f27) [true, true, true, false, false, false]
noncomputable abbrev z40R (N : Nat) := resD (z40E N) Tryz.f27 (z40g N) z40pk
abbrev z40L0_fs : List (Nat × Sl) := [(4, .row 1004), (5, .v .str)]
abbrev z40L0_bs : List (Nat × Sb) := [(1004, .row 71 τ10 false)]
def z40L0_hd (s5 : Str) (w1004 : List τ8) : St := ⟨55, [(4, .row 1004), (5, .v .str s5)], [(1004, .row 71 τ10 false w1004)]⟩
def z40L0_tl0 (o0_w1004 : List τ8) : St := ⟨55, [(4, .row 1004)], [(1004, .row 71 τ10 false o0_w1004)]⟩
def z40L0_G (N : Nat) (s5 : Str) (w1004 : List τ8) (k : Ex → St → Option (Bool × List τ8)) : Option (Bool × List τ8) :=
 z40L0 N (fun o0_w1004 => k (.exit 0) (z40L0_tl0 o0_w1004)) N s5 w1004
abbrev z40L0_F (N : Nat) : FV z40L0_fs → HV z40L0_bs → (Ex → St → Option (Bool × List τ8)) → Option (Bool × List τ8) := fun x y k => z40L0_G N x.2.1 y.1 k
noncomputable def z40LP (N : Nat) : Nat → Code → St → (Ex → St → Option (Bool × List τ8)) → Option (Bool × List τ8) := fun i c =>
 match i with
 | 0 => (LPc 55 z40L0_fs z40L0_bs (z40L0_F N) (fun st k => iter (z40h 0) (exec (z40E N) N c 0) N st k))
 | i => fun st k => iter (z40h i) (exec (z40E N) N c i) N st k
theorem z40L0_step (N : Nat) (KX : Nat → St → Option (Bool × List τ8)) (I : St → Option (Bool × List τ8)) (s5 : Str) (w1004 : List τ8) :
   execL (z40LP N) (z40E N) z40c0 0 (z40L0_hd s5 w1004) (roundK (z40h 0) I KX (z40R N)) = z40L0T N (fun o0_w1004 => KX 0 (z40L0_tl0 o0_w1004)) (fun s5 w1004 => I (z40L0_hd s5 w1004)) s5 w1004 := by kernel_rfl
theorem z40L0_ok (N : Nat) : ∀ x y k, (∀ st, k .ret st = (z40R N) st) → iter (z40h 0) (exec (z40E N) N z40c0 0) N ⟨55, unF z40L0_fs x, unH z40L0_bs y⟩ k = z40L0_F N x y k := fun x y k hk =>
 iter_link (S := (Str) × (List τ8) × Unit) (z40h 0) _ (execL (z40LP N) (z40E N) z40c0 0) (z40R N) (fun st k hk => execL_eq _ _ N _ z40c0 0 (show LoopsOk (z40LP N) (z40E N) N (z40R N) [] from trivial) st k hk) (fun s => z40L0_hd s.1 s.2.1) k hk
   (fun self s => z40L0T N (fun o0_w1004 => k (.exit 0) (z40L0_tl0 o0_w1004)) (fun s5 w1004 => self (s5, w1004, ())) s.1 s.2.1) (fun n s => z40L0 N (fun o0_w1004 => k (.exit 0) (z40L0_tl0 o0_w1004)) n s.1 s.2.1) (fun _ => rfl) (fun _ _ => rfl)
   (fun I s => z40L0_step N (fun j => k (.exit j)) I s.1 s.2.1) N (x.2.1, y.1, ())
theorem z40lp0 (N : Nat) : ∀ st k, (∀ st, k .ret st = (z40R N) st) → z40LP N 0 z40c0 st k = iter (Env.hint (z40E N) 0) (exec (z40E N) N z40c0 0) N st k := fun st k hk => LPc_eq 55 z40L0_fs z40L0_bs _ _ (z40R N) (z40L0_ok N) _ st k hk (rfl)
theorem z40core (N : Nat) (x : SV [.v τ15]) (y : BV []) : runL (z40E N) Tryz.f27 (z40g N) z40pk (z40LP N) x y = blob_readDir N x.1 := by kernel_rfl
theorem z40sound (N : Nat) : Snd 27 (z40g N) :=
 sndL (z40fn_ok N) Tryz.func27 rfl Tryz.call27 (z40g N) z40pk (fun _ _ => rfl) N (z40LP N) (show LoopsOk (z40LP N) (z40E N) N (z40R N) [(0, z40c0)] from ⟨z40lp0 N, trivial⟩) (z40core N)
abbrev z15sg (f : SV [.box 0 0, .v .str, .v .str] → BV [.cells [.v τ9, .row 1], .row 62 τ1 true] → Option τ13) : AF := { ps := [.box 0 0, .v .str, .v .str], bs := [.cells [.v τ9, .row 1], .row 62 τ1 true], rs := [.v τ6], cs := [.cells [.v τ9, .row 1], .row 62 τ1 true], R := Int × List τ4 × List τ2, out := fun z => ((z.1, ()), ((z.2.1, (), ()), z.2.2, ())), f := f }
end
end Go.Proofs.YtjiddcchklaiiaaGreatDoor


/-
 DERIVED: THE SHELF's CONTRACTS AT THIS DUMP, IN PLAIN WORDS (tools/lay-plain.mjs out of 'TryzShelfF.lean', which tools/lay-shelf.mjs wrote): THE SAME DECLARATIONS UNDER THE SAME NAMES: 'import', 'namespace', 'open', 'def', 'theorem' AND NOTHING ELSE: no command of the shelf's: FOR A HAND-IN. Each laying: the table of numbers ('.._ren') and one theorem, a field a fact of the dump's own or the kernel's comparison; each contract: ONE APPLICATION.
-/
namespace Go.Proofs
open Go.Shelf
def Tryz.sortF_ren : Go.Shelf.Ren := ⟨fun | 6 => 24 | 15 => 36 | 14 => 46 | 28 => 64 | 29 => 65 | 20 => 69 | 21 => 70 | 22 => 71 | 23 => 72 | 24 => 73 | 25 => 74 | 26 => 75 | 27 => 76 | 46 => 103 | 47 => 91 | 48 => 92 | 49 => 104 | 50 => 105 | 57 => 123 | n => n, fun | 22 => 22 | 24 => 62 | 25 => 63 | 3 => 3 | 39 => 84 | 0 => 0 | 53 => 114 | 55 => 85 | 4 => 4 | 46 => 108 | 45 => 107 | 50 => 95 | 5 => 5 | 9 => 9 | 66 => 131 | 70 => 135 | 76 => 152 | 77 => 153 | n => n, fun | n => n⟩
theorem Tryz.sortF : Go.Proofs.SlLaysF0.n6 Tryz.prog Tryz.sortF_ren := {
 mixed := by kernel_rfl
 f6 := ⟨Tryz.f24.name, by decide, Tryz.func24.trans (congrArg some (by kernel_rfl))⟩
 f14 := ⟨Tryz.f46.name, by decide, Tryz.func46.trans (congrArg some (by kernel_rfl))⟩
 f15 := Tryz.func36.trans (congrArg some (by kernel_rfl))
 f20 := ⟨Tryz.f69.name, by decide, Tryz.func69.trans (congrArg some (by kernel_rfl))⟩
 f21 := ⟨Tryz.f70.name, by decide, Tryz.func70.trans (congrArg some (by kernel_rfl))⟩
 f22 := ⟨Tryz.f71.name, by decide, Tryz.func71.trans (congrArg some (by kernel_rfl))⟩
 f23 := ⟨Tryz.f72.name, by decide, Tryz.func72.trans (congrArg some (by kernel_rfl))⟩
 f24 := ⟨Tryz.f73.name, by decide, Tryz.func73.trans (congrArg some (by kernel_rfl))⟩
 f25 := ⟨Tryz.f74.name, by decide, Tryz.func74.trans (congrArg some (by kernel_rfl))⟩
 f26 := ⟨Tryz.f75.name, by decide, Tryz.func75.trans (congrArg some (by kernel_rfl))⟩
 f27 := ⟨Tryz.f76.name, by decide, Tryz.func76.trans (congrArg some (by kernel_rfl))⟩
 f28 := Tryz.func64.trans (congrArg some (by kernel_rfl))
 f29 := Tryz.func65.trans (congrArg some (by kernel_rfl))
 f46 := ⟨Tryz.f103.name, by decide, Tryz.func103.trans (congrArg some (by kernel_rfl))⟩
 f47 := Tryz.func91.trans (congrArg some (by kernel_rfl))
 f48 := Tryz.func92.trans (congrArg some (by kernel_rfl))
 f49 := ⟨Tryz.f104.name, by decide, Tryz.func104.trans (congrArg some (by kernel_rfl))⟩
 f50 := ⟨Tryz.f105.name, by decide, Tryz.func105.trans (congrArg some (by kernel_rfl))⟩
 f57 := ⟨Tryz.f123.name, by decide, Tryz.func123.trans (congrArg some (by kernel_rfl))⟩
 t0 := Tryz.underlying0
 a0 := Tryz.isAgg0
 z0 := Tryz.sizeOf0
 v0 := Tryz.zeroValue0
 t3 := Tryz.underlying3
 a3 := Tryz.isAgg3
 z3 := Tryz.sizeOf3
 v3 := Tryz.zeroValue3
 t4 := Tryz.underlying4
 a4 := Tryz.isAgg4
 z4 := Tryz.sizeOf4
 v4 := Tryz.zeroValue4
 t5 := Tryz.underlying5
 a5 := Tryz.isAgg5
 z5 := Tryz.sizeOf5
 v5 := Tryz.zeroValue5
 t9 := Tryz.underlying9
 a9 := Tryz.isAgg9
 z9 := Tryz.sizeOf9
 v9 := Tryz.zeroValue9
 t22 := Tryz.underlying22
 a22 := Tryz.isAgg22
 z22 := Tryz.sizeOf22
 v22 := Tryz.zeroValue22
 t25 := Tryz.underlying63
 a25 := Tryz.isAgg63
 z25 := Tryz.sizeOf63
 v25 := Tryz.zeroValue63
 t39 := Tryz.underlying84
 a39 := Tryz.isAgg84
 z39 := Tryz.sizeOf84
 v39 := Tryz.zeroValue84
 t45 := Tryz.underlying107
 a45 := Tryz.isAgg107
 z45 := Tryz.sizeOf107
 v45 := Tryz.zeroValue107
 t46 := Tryz.underlying108
 a46 := Tryz.isAgg108
 z46 := Tryz.sizeOf108
 v46 := Tryz.zeroValue108
 t50 := Tryz.underlying95
 a50 := Tryz.isAgg95
 z50 := Tryz.sizeOf95
 v50 := Tryz.zeroValue95
 t53 := Tryz.underlying114
 a53 := Tryz.isAgg114
 z53 := Tryz.sizeOf114
 v53 := Tryz.zeroValue114
 t55 := Tryz.underlying85
 a55 := Tryz.isAgg85
 z55 := Tryz.sizeOf85
 v55 := Tryz.zeroValue85
 t66 := Tryz.underlying131
 a66 := Tryz.isAgg131
 z66 := Tryz.sizeOf131
 v66 := Tryz.zeroValue131
 t70 := Tryz.underlying135
 a70 := Tryz.isAgg135
 z70 := Tryz.sizeOf135
 v70 := Tryz.zeroValue135
 t76 := Tryz.underlying152
 a76 := Tryz.isAgg152
 z76 := Tryz.sizeOf152
 v76 := Tryz.zeroValue152
 t77 := Tryz.underlying153
 a77 := Tryz.isAgg153
 z77 := Tryz.sizeOf153
 v77 := Tryz.zeroValue153 }
end Go.Proofs


/- slices.SortFunc of files by their paths, out of the kit's contract: it turns a row of its caller's. -/
namespace Go.Proofs.YtjiddcchklaiiaaGreatDoor
set_option linter.unusedVariables false
set_option linter.unusedSimpArgs false
open Go Go.RowKit Go.Shelf Go.Sort
theorem filesOf1_calls (x y : KC 2) (W : World) : Calls Tryz.prog 25 #[.agg (encK x).toArray, .agg (encK y).toArray] W fun e w' => e = .returned (.int .i64 (cfK x y)) ∧ ∃ q os', w' = Sort.grow (W.drewN q) os' := by
 obtain ⟨⟨xs, xc⟩, hx1, hx2⟩ := x
 obtain ⟨⟨ys, yc⟩, hy1, hy2⟩ := y
 match xc, hx1, yc, hy1 with
 | [x1, x2], _, [y1, y2], _ =>
   have e1 : (Value.agg #[.string ⟨xs.toArray⟩, x1, x2]).cells = #[.string ⟨xs.toArray⟩, x1, x2] := rfl
   unfold cfK encK
   dsimp only
   rw [← compare_cf]
   go_enter Tryz.func25, Tryz.ntmps25
   go_wp2_with fail
   refine (Tryz.strings_Compare _ _ _).mono ?_
   rintro e w1 ⟨rfl, rfl⟩
   go_wp2_with fail
   all_goals go_ret
   all_goals exact ⟨by simp_all, 0, _, by rw [Sort.alloc_eq_grow, Sort.alloc_eq_grow, Sort.grow_grow]; rfl⟩
theorem aggF : ∀ w, (isAgg 62).run Tryz.prog w = .ok true w := by
 intro w; kernel_rfl
theorem sizeF : ∀ w, (Go.sizeOf 62).run Tryz.prog w = .ok 3 w := by
 intro w; kernel_rfl
def slices_SortFunc_file (_u : Unit) (xs : List τ2) : Option τ16 := sortK (fun p : Str × Bool × List UInt8 => p.1) xs
theorem z14sound : Sound Tryz.prog GW B0G 24 ⟨[.row 0, .v (.clo 25 .un)], [.row 62 τ1 true], [], [.row 62 τ1 true, .none], List τ2, fun z => ((), (z, ((), ()))), fun x y => slices_SortFunc_file x.2.1 y.1⟩ :=
 sortK_sound (t := .pr .bool τ15) Tryz.call24 (fun b cap d w hH hb hs => by
   have eg : ∀ args w, (callFunc 25 args).run Tryz.prog w = .ok (.enter 25 args) w := Tryz.call25
   exact AnyQ.slices_SortFunc Tryz.sortF 3 aggF sizeF encK encK_len encK_one cfK swo_cfK 25 #[] b 0 cap d w eg (fun _ _ _ _ x y => filesOf1_calls x y _) hH hb hs)
   (fun w => AnyF.slices_SortFunc_none Tryz.sortF none 0 _ w)
end Go.Proofs.YtjiddcchklaiiaaGreatDoor



/- slices.Delete of strings, out of the kit's contract: it turns a row of its caller's. -/
namespace Go.Proofs.YtjiddcchklaiiaaGreatDoor
set_option linter.unusedVariables false
set_option linter.unusedSimpArgs false
open Go Go.RowKit Go.Shelf
theorem els_str {M : Nat → Nat → Prop} {w : World} {xs : List Str} {cs : List Value} (hl : cs.length = xs.length) (h : Els M w .str xs cs) : cs = xs.map fun x => Value.string ⟨x.toArray⟩ := by
 apply List.ext_getElem
 · simpa using hl
 · intro i h1 h2
   have h3 : i < xs.length := by omega
   have := h i h3
   have e : (cs.drop (i * Ty.sz .str)).take (Ty.sz .str) = [cs[i]] := by
     show (cs.drop (i * 1)).take 1 = _
     rw [Nat.mul_one, List.drop_eq_getElem_cons h1]; rfl
   rw [e] at this
   have e2 : [cs[i]] = [Value.string ⟨xs[i].toArray⟩] := this
   rw [List.getElem_map]
   injection e2
theorem str_els {M : Nat → Nat → Prop} {w : World} (xs : List Str) : Els M w .str xs (xs.map fun x => Value.string ⟨x.toArray⟩) := fun i h => by
 have e : ((xs.map fun x => Value.string ⟨x.toArray⟩).drop (i * Ty.sz .str)).take (Ty.sz .str) = [Value.string ⟨xs[i].toArray⟩] := by
   show ((xs.map fun x => Value.string ⟨x.toArray⟩).drop (i * 1)).take 1 = _
   rw [Nat.mul_one, List.drop_eq_getElem_cons (by simpa using h), List.getElem_map]; rfl
 rw [e]
 rfl
end Go.Proofs.YtjiddcchklaiiaaGreatDoor



/-
 DERIVED: THE SHELF's CONTRACTS AT THIS DUMP, IN PLAIN WORDS (tools/lay-plain.mjs out of 'TryzShelfS.lean', which tools/lay-shelf.mjs wrote): THE SAME DECLARATIONS UNDER THE SAME NAMES: 'import', 'namespace', 'open', 'def', 'theorem' AND NOTHING ELSE: no command of the shelf's: FOR A HAND-IN. Each laying: the table of numbers ('.._ren') and one theorem, a field a fact of the dump's own or the kernel's comparison; each contract: ONE APPLICATION.
-/
namespace Go.Proofs
open Go.Shelf
def Tryz.sortS_ren : Go.Shelf.Ren := ⟨fun | 6 => 28 | 8 => 36 | 9 => 51 | 19 => 64 | 20 => 65 | 21 => 78 | 22 => 79 | 23 => 80 | 24 => 81 | 25 => 82 | 26 => 83 | 27 => 84 | 28 => 85 | 29 => 86 | 36 => 107 | 31 => 91 | 32 => 92 | 37 => 108 | 38 => 109 | 39 => 110 | 41 => 128 | n => n, fun | 27 => 31 | 29 => 9 | 3 => 3 | 32 => 84 | 26 => 31 | 0 => 0 | 44 => 114 | 46 => 85 | 4 => 4 | 36 => 108 | 35 => 107 | 41 => 95 | 5 => 5 | 9 => 9 | 53 => 131 | 57 => 135 | 63 => 152 | 64 => 153 | n => n, fun | n => n⟩
theorem Tryz.sortS : Go.Proofs.SlLaysM.n6 Tryz.prog Tryz.sortS_ren := {
 mixed := by kernel_rfl
 f6 := ⟨Tryz.f28.name, by decide, Tryz.func28.trans (congrArg some (by kernel_rfl))⟩
 f8 := Tryz.func36.trans (congrArg some (by kernel_rfl))
 f9 := ⟨Tryz.f51.name, by decide, Tryz.func51.trans (congrArg some (by kernel_rfl))⟩
 f19 := Tryz.func64.trans (congrArg some (by kernel_rfl))
 f20 := Tryz.func65.trans (congrArg some (by kernel_rfl))
 f21 := ⟨Tryz.f78.name, by decide, Tryz.func78.trans (congrArg some (by kernel_rfl))⟩
 f22 := ⟨Tryz.f79.name, by decide, Tryz.func79.trans (congrArg some (by kernel_rfl))⟩
 f23 := ⟨Tryz.f80.name, by decide, Tryz.func80.trans (congrArg some (by kernel_rfl))⟩
 f24 := ⟨Tryz.f81.name, by decide, Tryz.func81.trans (congrArg some (by kernel_rfl))⟩
 f25 := ⟨Tryz.f82.name, by decide, Tryz.func82.trans (congrArg some (by kernel_rfl))⟩
 f26 := ⟨Tryz.f83.name, by decide, Tryz.func83.trans (congrArg some (by kernel_rfl))⟩
 f27 := ⟨Tryz.f84.name, by decide, Tryz.func84.trans (congrArg some (by kernel_rfl))⟩
 f28 := ⟨Tryz.f85.name, by decide, Tryz.func85.trans (congrArg some (by kernel_rfl))⟩
 f29 := ⟨Tryz.f86.name, by decide, Tryz.func86.trans (congrArg some (by kernel_rfl))⟩
 f31 := Tryz.func91.trans (congrArg some (by kernel_rfl))
 f32 := Tryz.func92.trans (congrArg some (by kernel_rfl))
 f36 := ⟨Tryz.f107.name, by decide, Tryz.func107.trans (congrArg some (by kernel_rfl))⟩
 f37 := ⟨Tryz.f108.name, by decide, Tryz.func108.trans (congrArg some (by kernel_rfl))⟩
 f38 := ⟨Tryz.f109.name, by decide, Tryz.func109.trans (congrArg some (by kernel_rfl))⟩
 f39 := ⟨Tryz.f110.name, by decide, Tryz.func110.trans (congrArg some (by kernel_rfl))⟩
 f41 := ⟨Tryz.f128.name, by decide, Tryz.func128.trans (congrArg some (by kernel_rfl))⟩
 t0 := Tryz.underlying0
 a0 := Tryz.isAgg0
 z0 := Tryz.sizeOf0
 v0 := Tryz.zeroValue0
 t3 := Tryz.underlying3
 a3 := Tryz.isAgg3
 z3 := Tryz.sizeOf3
 v3 := Tryz.zeroValue3
 t4 := Tryz.underlying4
 a4 := Tryz.isAgg4
 z4 := Tryz.sizeOf4
 v4 := Tryz.zeroValue4
 t5 := Tryz.underlying5
 a5 := Tryz.isAgg5
 z5 := Tryz.sizeOf5
 v5 := Tryz.zeroValue5
 t9 := Tryz.underlying9
 a9 := Tryz.isAgg9
 z9 := Tryz.sizeOf9
 v9 := Tryz.zeroValue9
 t26 := Tryz.underlying31
 a26 := Tryz.isAgg31
 z26 := Tryz.sizeOf31
 v26 := Tryz.zeroValue31
 t27 := Tryz.underlying31
 a27 := Tryz.isAgg31
 z27 := Tryz.sizeOf31
 v27 := Tryz.zeroValue31
 t29 := Tryz.underlying9
 a29 := Tryz.isAgg9
 z29 := Tryz.sizeOf9
 v29 := Tryz.zeroValue9
 t32 := Tryz.underlying84
 a32 := Tryz.isAgg84
 z32 := Tryz.sizeOf84
 v32 := Tryz.zeroValue84
 t35 := Tryz.underlying107
 a35 := Tryz.isAgg107
 z35 := Tryz.sizeOf107
 v35 := Tryz.zeroValue107
 t36 := Tryz.underlying108
 a36 := Tryz.isAgg108
 z36 := Tryz.sizeOf108
 v36 := Tryz.zeroValue108
 t41 := Tryz.underlying95
 a41 := Tryz.isAgg95
 z41 := Tryz.sizeOf95
 v41 := Tryz.zeroValue95
 t44 := Tryz.underlying114
 a44 := Tryz.isAgg114
 z44 := Tryz.sizeOf114
 v44 := Tryz.zeroValue114
 t46 := Tryz.underlying85
 a46 := Tryz.isAgg85
 z46 := Tryz.sizeOf85
 v46 := Tryz.zeroValue85
 t53 := Tryz.underlying131
 a53 := Tryz.isAgg131
 z53 := Tryz.sizeOf131
 v53 := Tryz.zeroValue131
 t57 := Tryz.underlying135
 a57 := Tryz.isAgg135
 z57 := Tryz.sizeOf135
 v57 := Tryz.zeroValue135
 t63 := Tryz.underlying152
 a63 := Tryz.isAgg152
 z63 := Tryz.sizeOf152
 v63 := Tryz.zeroValue152
 t64 := Tryz.underlying153
 a64 := Tryz.isAgg153
 z64 := Tryz.sizeOf153
 v64 := Tryz.zeroValue153 }
end Go.Proofs


/- slices.Sort of strings, out of the kit's contract: it turns a row of its caller's. -/
namespace Go.Proofs.YtjiddcchklaiiaaGreatDoor
set_option linter.unusedVariables false
set_option linter.unusedSimpArgs false
open Go Go.RowKit Go.Shelf
def leStr (x y : Str) : Bool := decide (x ≤ y)
def slices_Sort_string_string (xs : List Str) : Option (List Str) := if xs.length < 4611686018427387904 then some (xs.mergeSort leStr) else none
theorem z8sound : Sound Tryz.prog GW B0G 28 ⟨[.row 0], [.row 9 .str true], [], [.row 9 .str true, .none], List Str, fun z => ((), (z, ((), ()))), fun x y => slices_Sort_string_string y.1⟩ := by
 refine Sound.ofRowKept (ps := []) (t := .str) (F := fun x xs => slices_Sort_string_string xs) Tryz.call28 (by decide) fun M w g v0 vs x xs zs cs hG hMl hM hown hels hA hz => ?_
 match vs, hA with
 | [], hA =>
   change slices_Sort_string_string xs = some zs at hz
   unfold slices_Sort_string_string at hz
   split at hz
   case isFalse => cases hz
   rename_i hbig
   injection hz with hz
   have hl := hown.1
   have hl' : cs.length = xs.length := by rw [hl]; exact Nat.mul_one _
   have hcs := els_str hl' hels
   have hzl : zs.length = xs.length := by rw [← hz]; exact List.length_mergeSort _
   rcases hown.2 with ⟨e1, e2⟩ | ⟨b, cap, cur, e1, _, hg, hle, hmax, hsz, htk⟩
   · have hx0 : xs = [] := List.eq_nil_of_length_eq_zero e2
     subst hx0 e1
     refine (AnyM.slices_Sort_string_none Tryz.sortS none 0 w).mono fun e w' hp => ?_
     obtain ⟨rfl, rfl⟩ := hp
     have hz0 : zs = [] := List.eq_nil_of_length_eq_zero hzl
     subst hz0
     exact ⟨[], rfl, ExtX.refl _ _, ⟨rfl, .inl ⟨rfl, rfl⟩⟩, fun i h => absurd h (Nat.not_lt_zero _)⟩
   · subst e1
     have hsz' : cur.size = cap := by rw [hsz]; exact Nat.mul_one _
     have htk' : cur.toList.take xs.length = xs.map fun x => Value.string ⟨x.toArray⟩ := by rw [← hcs, ← htk]; congr 1; exact (Nat.mul_one _).symm
     have hb : b < w.heap.size := by
       apply Classical.byContradiction
       intro hn
       rw [Array.getElem?_eq_none (by omega)] at hg
       cases hg
     have hH : Sort.Holds encStr w b 0 xs.toArray := fun k hk => by
       have hk : k < xs.length := by simpa using hk
       have h1 : cur.toList[k]? = some (Value.string ⟨xs[k].toArray⟩) := by
         have := congrArg (fun l => l[k]?) htk'
         simp only [List.getElem?_take, hk, if_true, List.getElem?_map, List.getElem?_eq_getElem hk, Option.map_some] at this
         exact this
       refine ⟨?_, by unfold World.frozen?; rw [hg]; simp⟩
       rw [Nat.zero_add]
       have e : encStr xs.toArray[k]! = Value.string ⟨xs[k].toArray⟩ := by simp [encStr, hk]
       rw [e]
       unfold World.cell?
       rw [hg]
       simpa using h1
     refine (AnyM.slices_Sort_string Tryz.sortS b 0 cap xs w hH hb hbig).mono fun e w' hp => ?_
     obtain ⟨rfl, n, os, rfl⟩ := hp
     have ez : (xs.mergeSort fun x y => decide (x ≤ y)) = zs := hz
     rw [ez]
     refine ⟨zs.map fun x => Value.string ⟨x.toArray⟩, rfl, (sortW_ext encStr).mono (fun k hk => by simpa [Value.ownBlock] using hk), ⟨by rw [List.length_map]; exact (Nat.mul_one _).symm, .inr ⟨b, cap, _, by rw [hzl], Nat.zero_le _, sortW_block encStr hg, by omega, hmax, ?_, ?_⟩⟩, str_els _⟩
     · rw [putCells_size]; exact hsz
     · rw [show zs.length * Ty.sz .str = zs.length from Nat.mul_one _]
       exact putCells_take encStr zs cur (by omega)
end Go.Proofs.YtjiddcchklaiiaaGreatDoor


