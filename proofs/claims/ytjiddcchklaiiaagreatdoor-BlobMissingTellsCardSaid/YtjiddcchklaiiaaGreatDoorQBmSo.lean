/- What functions of the program compute, as plain functions (printed). -/
import Derived.Test.YtjiddcchklaiiaaGreatDoorQBmJ
import Derived.Shelf.SlGeneric
import Derived.Shelf.SlSortCmp.WholeK
import Derived.Shelf.SlSortCmp.NoneTotal
import Derived.Ground.SlsfProg
import Derived.Test.YtjiddcchklaiiaaGreatDoorProg
import Derived.Test.YtjiddcchklaiiaaGreatDoorQBmOb
import Derived.Test.YtjiddcchklaiiaaGreatDoorQTsT
import Derived.Shelf.SortM.Plain
import Derived.Shelf.SortM.SortNone
import Derived.Ground.SlgmProg
import Derived.Test.YtjiddcchklaiiaaGreatDoorQBmSw
namespace Go.Proofs.YtjiddcchklaiiaaGreatDoor
open Go Go.RowKit
set_option maxRecDepth 100000
set_option linter.unusedVariables false
noncomputable section
def z33L1T (N : Nat) (x0 : List τ8) (s3 : Int) (k2 : Option Bool) (self : Int → Option Bool) (s4 : Int) : Option Bool :=
 br (decide (s4 < s3))
   (bnd (geti x0 s3) fun t18 =>
   bnd (ref1_Digest N t18) fun t20 =>
   bnd (geti x0 s4) fun t23 =>
   bnd (ref1_Digest N t23) fun t25 =>
   br (t20 == t25)
     (bnd (geti x0 s3) fun t30 =>
     bnd (geti x0 s4) fun t34 =>
     bnd (bytes_Equal N t30 t34) fun t36 =>
     br (!t36)
       (some false)
       (self (IntKind.i64.wrap (s4 + (1 : Int)))))
     (self (IntKind.i64.wrap (s4 + (1 : Int)))))
   (k2)
def z33L1 (N : Nat) (x0 : List τ8) (s3 : Int) (k2 : Option Bool) : Nat → Int → Option Bool
 | 0, _ => none
 | n + 1, s4 => z33L1T N x0 s3 k2 (z33L1 N x0 s3 k2 n) s4
def z33L0T (N : Nat) (x0 : List τ8) (k0 : Option Bool) (self : Int → Option Bool) (s3 : Int) : Option Bool :=
 br (decide (s3 < (x0.length : Int)))
   (z33L1 N x0 s3 (self (IntKind.i64.wrap (s3 + (1 : Int)))) N (0 : Int))
   (k0)
def z33L0 (N : Nat) (x0 : List τ8) (k0 : Option Bool) : Nat → Int → Option Bool
 | 0, _ => none
 | n + 1, s3 => z33L0T N x0 k0 (z33L0 N x0 k0 n) s3
def ref1_Faithful (N : Nat) (x0 : List τ8) : Option Bool :=
 z33L0 N x0 (some true) N (0 : Int)
abbrev z33sg (f : SV [.v (.sl τ17)] → BV [] → Option (Bool)) : AF := { ps := [.v (.sl τ17)], bs := [], rs := [.v .bool], cs := [], R := Bool, out := fun z => ((z, ()), ()), f := f }
noncomputable abbrev z33g (N : Nat) : AF := z33sg fun x _ => ref1_Faithful N x.1
abbrev z33pk : SV [.v .bool] → BV [] → Bool := fun x _ => x.1
def z33fn (N : Nat) : FuncId → Option Tmp → Option AF := fun f _ =>
 match f with
   | 38 => some (z50g N)
   | 39 => some (z49g N)
   | _ => none
theorem z33fn_ok (N : Nat) : FnOk (z33fn N) := by
 intro f q F h
 unfold z33fn at h
 split at h
 · cases h; exact z50sound N
 · cases h; exact z49sound N
 · cases h
def z33h : Nat → Hint := fun i =>
 match i with
 | 0 => ⟨[], [0, 3], [], [], [], []⟩
 | 2 => ⟨[], [0, 3, 4], [], [0, 3], [], []⟩
 | _ => hint0
abbrev z33E (N : Nat) : Env := mkE z33h (z33fn N) FF FF
noncomputable abbrev z33c1 : Code := cAt (bodyOf Tryz.f20) [true, false, true, false, false]
noncomputable abbrev z33c0 : Code := cAt (bodyOf Tryz.f20) [true, false, true, false, false, true, false, false, true, false, false]
noncomputable abbrev z33R (N : Nat) := resD (z33E N) Tryz.f20 (z33g N) z33pk
abbrev z33L1_fs : List (Nat × Sl) := [(0, .v (.sl τ17)), (3, .v τ5), (4, .v τ5)]
abbrev z33L1_bs : List (Nat × Sb) := []
def z33L1_hd (x0 : List τ8) (s3 : Int) (s4 : Int) : St := ⟨39, [(0, .v (.sl τ17) x0), (3, .v τ5 s3), (4, .v τ5 s4)], []⟩
def z33L1_tl2 (x0 : List τ8) (s3 : Int) : St := ⟨39, [(0, .v (.sl τ17) x0), (3, .v τ5 s3)], []⟩
def z33L1_G (N : Nat) (x0 : List τ8) (s3 : Int) (s4 : Int) (k : Ex → St → Option Bool) : Option Bool :=
 z33L1 N x0 s3 (k (.exit 2) (z33L1_tl2 x0 s3)) N s4
abbrev z33L1_F (N : Nat) : FV z33L1_fs → HV z33L1_bs → (Ex → St → Option Bool) → Option Bool := fun x _ k => z33L1_G N x.1 x.2.1 x.2.2.1 k
abbrev z33L0_fs : List (Nat × Sl) := [(0, .v (.sl τ17)), (3, .v τ5)]
abbrev z33L0_bs : List (Nat × Sb) := []
def z33L0_hd (x0 : List τ8) (s3 : Int) : St := ⟨39, [(0, .v (.sl τ17) x0), (3, .v τ5 s3)], []⟩
def z33L0_tl0 (_x0 : List τ8) : St := ⟨39, [], []⟩
def z33L0_G (N : Nat) (x0 : List τ8) (s3 : Int) (k : Ex → St → Option Bool) : Option Bool :=
 z33L0 N x0 (k (.exit 0) (z33L0_tl0 x0)) N s3
abbrev z33L0_F (N : Nat) : FV z33L0_fs → HV z33L0_bs → (Ex → St → Option Bool) → Option Bool := fun x _ k => z33L0_G N x.1 x.2.1 k
noncomputable def z33LP (N : Nat) : Nat → Code → St → (Ex → St → Option Bool) → Option Bool := fun i c =>
 match i with
 | 0 => (LPc 39 z33L0_fs z33L0_bs (z33L0_F N) (fun st k => iter (z33h 0) (exec (z33E N) N c 0) N st k))
 | 2 => (LPc 39 z33L1_fs z33L1_bs (z33L1_F N) (fun st k => iter (z33h 2) (exec (z33E N) N c 2) N st k))
 | i => fun st k => iter (z33h i) (exec (z33E N) N c i) N st k
theorem z33L1_step (N : Nat) (x0 : List τ8) (s3 : Int) (KX : Nat → St → Option Bool) (I : St → Option Bool) (s4 : Int) :
   execL (z33LP N) (z33E N) z33c0 2 (z33L1_hd x0 s3 s4) (roundK (z33h 2) I KX (z33R N)) = z33L1T N x0 s3 (KX 2 (z33L1_tl2 x0 s3)) (fun s4 => I (z33L1_hd x0 s3 s4)) s4 := by kernel_rfl
theorem z33L1_ok (N : Nat) : ∀ x y k, (∀ st, k .ret st = (z33R N) st) → iter (z33h 2) (exec (z33E N) N z33c0 2) N ⟨39, unF z33L1_fs x, unH z33L1_bs y⟩ k = z33L1_F N x y k := fun x _ k hk =>
 iter_link (S := (Int) × Unit) (z33h 2) _ (execL (z33LP N) (z33E N) z33c0 2) (z33R N) (fun st k hk => execL_eq _ _ N _ z33c0 2 (show LoopsOk (z33LP N) (z33E N) N (z33R N) [] from trivial) st k hk) (fun s => z33L1_hd x.1 x.2.1 s.1) k hk
   (fun self s => z33L1T N x.1 x.2.1 (k (.exit 2) (z33L1_tl2 x.1 x.2.1)) (fun s4 => self (s4, ())) s.1) (fun n s => z33L1 N x.1 x.2.1 (k (.exit 2) (z33L1_tl2 x.1 x.2.1)) n s.1) (fun _ => rfl) (fun _ _ => rfl)
   (fun I s => z33L1_step N x.1 x.2.1 (fun j => k (.exit j)) I s.1) N (x.2.2.1, ())
theorem z33lp2 (N : Nat) : ∀ st k, (∀ st, k .ret st = (z33R N) st) → z33LP N 2 z33c0 st k = iter (Env.hint (z33E N) 2) (exec (z33E N) N z33c0 2) N st k := fun st k hk => LPc_eq 39 z33L1_fs z33L1_bs _ _ (z33R N) (z33L1_ok N) _ st k hk (rfl)
theorem z33L0_step (N : Nat) (x0 : List τ8) (KX : Nat → St → Option Bool) (I : St → Option Bool) (s3 : Int) :
   execL (z33LP N) (z33E N) z33c1 0 (z33L0_hd x0 s3) (roundK (z33h 0) I KX (z33R N)) = z33L0T N x0 (KX 0 (z33L0_tl0 x0)) (fun s3 => I (z33L0_hd x0 s3)) s3 := by kernel_rfl
theorem z33L0_ok (N : Nat) : ∀ x y k, (∀ st, k .ret st = (z33R N) st) → iter (z33h 0) (exec (z33E N) N z33c1 0) N ⟨39, unF z33L0_fs x, unH z33L0_bs y⟩ k = z33L0_F N x y k := fun x _ k hk =>
 iter_link (S := (Int) × Unit) (z33h 0) _ (execL (z33LP N) (z33E N) z33c1 0) (z33R N) (fun st k hk => execL_eq _ _ N _ z33c1 0 (show LoopsOk (z33LP N) (z33E N) N (z33R N) [(2, z33c0)] from ⟨z33lp2 N, trivial⟩) st k hk) (fun s => z33L0_hd x.1 s.1) k hk
   (fun self s => z33L0T N x.1 (k (.exit 0) (z33L0_tl0 x.1)) (fun s3 => self (s3, ())) s.1) (fun n s => z33L0 N x.1 (k (.exit 0) (z33L0_tl0 x.1)) n s.1) (fun _ => rfl) (fun _ _ => rfl)
   (fun I s => z33L0_step N x.1 (fun j => k (.exit j)) I s.1) N (x.2.1, ())
theorem z33lp0 (N : Nat) : ∀ st k, (∀ st, k .ret st = (z33R N) st) → z33LP N 0 z33c1 st k = iter (Env.hint (z33E N) 0) (exec (z33E N) N z33c1 0) N st k := fun st k hk => LPc_eq 39 z33L0_fs z33L0_bs _ _ (z33R N) (z33L0_ok N) _ st k hk (rfl)
theorem z33core (N : Nat) (x : SV [.v (.sl τ17)]) (y : BV []) : runL (z33E N) Tryz.f20 (z33g N) z33pk (z33LP N) x y = ref1_Faithful N x.1 := by kernel_rfl
theorem z33sound (N : Nat) : Snd 20 (z33g N) :=
 sndL (z33fn_ok N) Tryz.func20 rfl Tryz.call20 (z33g N) z33pk (fun _ _ => rfl) N (z33LP N) (show LoopsOk (z33LP N) (z33E N) N (z33R N) [(0, z33c1), (2, z33c0)] from ⟨z33lp0 N, z33lp2 N, trivial⟩) (z33core N)
def ref1_FaithfulTree (N : Nat) (x0 : List τ2) : Option Bool :=
 bnd (ref1_contents N N x0) fun t4 =>
 bnd (ref1_Faithful N t4) fun t5 =>
 some t5
abbrev z21sg (f : SV [.v (.sl τ4)] → BV [] → Option (Bool)) : AF := { ps := [.v (.sl τ4)], bs := [], rs := [.v .bool], cs := [], R := Bool, out := fun z => ((z, ()), ()), f := f }
noncomputable abbrev z21g (N : Nat) : AF := z21sg fun x _ => ref1_FaithfulTree N x.1
abbrev z21pk : SV [.v .bool] → BV [] → Bool := fun x _ => x.1
def z21fn (N : Nat) : FuncId → Option Tmp → Option AF := fun f _ =>
 match f with
   | 20 => some (z33g N)
   | 21 => some (z34sg fun x _ => ref1_contents N N x.1)
   | _ => none
theorem z21fn_ok (N : Nat) : FnOk (z21fn N) := by
 intro f q F h
 unfold z21fn at h
 split at h
 · cases h; exact z33sound N
 · cases h; exact z34sound N N
 · cases h
def z21h : Nat → Hint := fun i =>
 match i with
 | _ => hint0
abbrev z21E (N : Nat) : Env := mkE z21h (z21fn N) FF FF
noncomputable def z21LP (N : Nat) : Nat → Code → St → (Ex → St → Option Bool) → Option Bool := fun i c =>
 match i with
 | i => fun st k => iter (z21h i) (exec (z21E N) N c i) N st k
theorem z21core (N : Nat) (x : SV [.v (.sl τ4)]) (y : BV []) : runL (z21E N) Tryz.f7 (z21g N) z21pk (z21LP N) x y = ref1_FaithfulTree N x.1 := by kernel_rfl
theorem z21sound (N : Nat) : Snd 7 (z21g N) :=
 sndL (z21fn_ok N) Tryz.func7 rfl Tryz.call7 (z21g N) z21pk (fun _ _ => rfl) N (z21LP N) (show LoopsOk (z21LP N) (z21E N) N (resD (z21E N) Tryz.f7 (z21g N) z21pk) [] from trivial) (z21core N)
def z19L0T (N : Nat) (x0 : List τ3) (c8 : List τ3) (c9 : Int) (k0 : Option Int) (self : Int → Option Int) (s10 : Int) : Option Int :=
 br (decide (s10 < c9))
   (bnd (geti c8 s10) fun t13 =>
   bnd (blob_Digest N t13.2) fun t20 =>
   br (!(t13.1 == t20))
     (some (15 : Int))
     (br (decide ((t13.2.length : Int) > (2000000 : Int)))
       (some (2 : Int))
       (br (decide (s10 > (0 : Int)))
         (bnd (geti x0 (IntKind.i64.wrap (s10 - (1 : Int)))) fun t36 =>
         br (Op.bytesLess t13.1 t36.1 || t13.1 == t36.1)
           (some (8 : Int))
           (self (IntKind.i64.wrap (s10 + (1 : Int)))))
         (self (IntKind.i64.wrap (s10 + (1 : Int)))))))
   (k0)
def z19L0 (N : Nat) (x0 : List τ3) (c8 : List τ3) (c9 : Int) (k0 : Option Int) : Nat → Int → Option Int
 | 0, _ => none
 | n + 1, s10 => z19L0T N x0 c8 c9 k0 (z19L0 N x0 c8 c9 k0 n) s10
def blob_CheckObjects (N : Nat) (x0 : List τ3) : Option Int :=
 br (decide ((x0.length : Int) > (4000 : Int)))
   (some (2 : Int))
   (z19L0 N x0 x0 (x0.length : Int) (some (0 : Int)) N (0 : Int))
abbrev z19sg (f : SV [.v (.sl τ7)] → BV [] → Option (Int)) : AF := { ps := [.v (.sl τ7)], bs := [], rs := [.v τ5], cs := [], R := Int, out := fun z => ((z, ()), ()), f := f }
noncomputable abbrev z19g (N : Nat) : AF := z19sg fun x _ => blob_CheckObjects N x.1
abbrev z19pk : SV [.v τ5] → BV [] → Int := fun x _ => x.1
def z19fn (N : Nat) : FuncId → Option Tmp → Option AF := fun f _ =>
 match f with
   | 19 => some (z43g N)
   | _ => none
theorem z19fn_ok (N : Nat) : FnOk (z19fn N) := by
 intro f q F h
 unfold z19fn at h
 split at h
 · cases h; exact z43sound N
 · cases h
def z19h : Nat → Hint := fun i =>
 match i with
 | 0 => ⟨[], [0, 8, 9, 10], [], [], [], []⟩
 | _ => hint0
abbrev z19E (N : Nat) : Env := mkE z19h (z19fn N) FF FF
noncomputable abbrev z19c0 : Code := cAt (bodyOf Tryz.f43) [true, true, false, true, false, false]
noncomputable abbrev z19R (N : Nat) := resD (z19E N) Tryz.f43 (z19g N) z19pk
abbrev z19L0_fs : List (Nat × Sl) := [(0, .v (.sl τ7)), (8, .v (.sl τ7)), (9, .v τ5), (10, .v τ5)]
abbrev z19L0_bs : List (Nat × Sb) := []
def z19L0_hd (x0 : List τ3) (c8 : List τ3) (c9 : Int) (s10 : Int) : St := ⟨42, [(0, .v (.sl τ7) x0), (8, .v (.sl τ7) c8), (9, .v τ5 c9), (10, .v τ5 s10)], []⟩
def z19L0_tl0 (_x0 : List τ3) (_c8 : List τ3) (_c9 : Int) : St := ⟨42, [], []⟩
def z19L0_G (N : Nat) (x0 : List τ3) (c8 : List τ3) (c9 : Int) (s10 : Int) (k : Ex → St → Option Int) : Option Int :=
 z19L0 N x0 c8 c9 (k (.exit 0) (z19L0_tl0 x0 c8 c9)) N s10
abbrev z19L0_F (N : Nat) : FV z19L0_fs → HV z19L0_bs → (Ex → St → Option Int) → Option Int := fun x _ k => z19L0_G N x.1 x.2.1 x.2.2.1 x.2.2.2.1 k
noncomputable def z19LP (N : Nat) : Nat → Code → St → (Ex → St → Option Int) → Option Int := fun i c =>
 match i with
 | 0 => (LPc 42 z19L0_fs z19L0_bs (z19L0_F N) (fun st k => iter (z19h 0) (exec (z19E N) N c 0) N st k))
 | i => fun st k => iter (z19h i) (exec (z19E N) N c i) N st k
theorem z19L0_step (N : Nat) (x0 : List τ3) (c8 : List τ3) (c9 : Int) (KX : Nat → St → Option Int) (I : St → Option Int) (s10 : Int) :
   execL (z19LP N) (z19E N) z19c0 0 (z19L0_hd x0 c8 c9 s10) (roundK (z19h 0) I KX (z19R N)) = z19L0T N x0 c8 c9 (KX 0 (z19L0_tl0 x0 c8 c9)) (fun s10 => I (z19L0_hd x0 c8 c9 s10)) s10 := by kernel_rfl
theorem z19L0_ok (N : Nat) : ∀ x y k, (∀ st, k .ret st = (z19R N) st) → iter (z19h 0) (exec (z19E N) N z19c0 0) N ⟨42, unF z19L0_fs x, unH z19L0_bs y⟩ k = z19L0_F N x y k := fun x _ k hk =>
 iter_link (S := (Int) × Unit) (z19h 0) _ (execL (z19LP N) (z19E N) z19c0 0) (z19R N) (fun st k hk => execL_eq _ _ N _ z19c0 0 (show LoopsOk (z19LP N) (z19E N) N (z19R N) [] from trivial) st k hk) (fun s => z19L0_hd x.1 x.2.1 x.2.2.1 s.1) k hk
   (fun self s => z19L0T N x.1 x.2.1 x.2.2.1 (k (.exit 0) (z19L0_tl0 x.1 x.2.1 x.2.2.1)) (fun s10 => self (s10, ())) s.1) (fun n s => z19L0 N x.1 x.2.1 x.2.2.1 (k (.exit 0) (z19L0_tl0 x.1 x.2.1 x.2.2.1)) n s.1) (fun _ => rfl) (fun _ _ => rfl)
   (fun I s => z19L0_step N x.1 x.2.1 x.2.2.1 (fun j => k (.exit j)) I s.1) N (x.2.2.2.1, ())
theorem z19lp0 (N : Nat) : ∀ st k, (∀ st, k .ret st = (z19R N) st) → z19LP N 0 z19c0 st k = iter (Env.hint (z19E N) 0) (exec (z19E N) N z19c0 0) N st k := fun st k hk => LPc_eq 42 z19L0_fs z19L0_bs _ _ (z19R N) (z19L0_ok N) _ st k hk (rfl)
theorem z19core (N : Nat) (x : SV [.v (.sl τ7)]) (y : BV []) : runL (z19E N) Tryz.f43 (z19g N) z19pk (z19LP N) x y = blob_CheckObjects N x.1 := by kernel_rfl
theorem z19sound (N : Nat) : Snd 43 (z19g N) :=
 sndL (z19fn_ok N) Tryz.func43 rfl Tryz.call43 (z19g N) z19pk (fun _ _ => rfl) N (z19LP N) (show LoopsOk (z19LP N) (z19E N) N (z19R N) [(0, z19c0)] from ⟨z19lp0 N, trivial⟩) (z19core N)
def blob_IsDigest (_N : Nat) (x0 : Str) : Option Bool :=
 br ((x0.length : Int) == (16 : Int))
   (bnd (strings_Trim x0 ([48, 49, 50, 51, 52, 53, 54, 55, 56, 57, 97, 98, 99, 100, 101, 102] : Str)) fun t8 =>
   some (t8 == ([] : Str)))
   (some false)
abbrev z32sg (f : SV [.v .str] → BV [] → Option (Bool)) : AF := { ps := [.v .str], bs := [], rs := [.v .bool], cs := [], R := Bool, out := fun z => ((z, ()), ()), f := f }
noncomputable abbrev z32g (N : Nat) : AF := z32sg fun x _ => blob_IsDigest N x.1
abbrev z32pk : SV [.v .bool] → BV [] → Bool := fun x _ => x.1
def z32fn (_N : Nat) : FuncId → Option Tmp → Option AF := fun f _ =>
 match f with
   | 68 => some (z42sg fun x _ => strings_Trim x.1 x.2.1)
   | _ => none
theorem z32fn_ok (N : Nat) : FnOk (z32fn N) := by
 intro f q F h
 unfold z32fn at h
 split at h
 · cases h; exact z42sound
 · cases h
def z32h : Nat → Hint := fun i =>
 match i with
 | _ => hint0
abbrev z32E (N : Nat) : Env := mkE z32h (z32fn N) FF FF
noncomputable def z32LP (N : Nat) : Nat → Code → St → (Ex → St → Option Bool) → Option Bool := fun i c =>
 match i with
 | i => fun st k => iter (z32h i) (exec (z32E N) N c i) N st k
theorem z32core (N : Nat) (x : SV [.v .str]) (y : BV []) : runL (z32E N) Tryz.f44 (z32g N) z32pk (z32LP N) x y = blob_IsDigest N x.1 := by kernel_rfl
theorem z32sound (N : Nat) : Snd 44 (z32g N) :=
 sndL (z32fn_ok N) Tryz.func44 rfl Tryz.call44 (z32g N) z32pk (fun _ _ => rfl) N (z32LP N) (show LoopsOk (z32LP N) (z32E N) N (resD (z32E N) Tryz.f44 (z32g N) z32pk) [] from trivial) (z32core N)
def blob_checkRoot (N : Nat) (x0 : Str) (x1 : List τ3) : Option Int :=
 bnd (blob_CheckObjects N x1) fun t7 =>
 br (t7 != (0 : Int))
   (some t7)
   (bnd (blob_IsDigest N x0) fun t12 =>
   br (!t12)
     (some (3 : Int))
     (some (0 : Int)))
abbrev z29sg (f : SV [.v .str, .v (.sl τ7)] → BV [] → Option (Int)) : AF := { ps := [.v .str, .v (.sl τ7)], bs := [], rs := [.v τ5], cs := [], R := Int, out := fun z => ((z, ()), ()), f := f }
noncomputable abbrev z29g (N : Nat) : AF := z29sg fun x _ => blob_checkRoot N x.1 x.2.1
abbrev z29pk : SV [.v τ5] → BV [] → Int := fun x _ => x.1
def z29fn (N : Nat) : FuncId → Option Tmp → Option AF := fun f _ =>
 match f with
   | 43 => some (z19g N)
   | 44 => some (z32g N)
   | _ => none
theorem z29fn_ok (N : Nat) : FnOk (z29fn N) := by
 intro f q F h
 unfold z29fn at h
 split at h
 · cases h; exact z19sound N
 · cases h; exact z32sound N
 · cases h
def z29h : Nat → Hint := fun i =>
 match i with
 | _ => hint0
abbrev z29E (N : Nat) : Env := mkE z29h (z29fn N) FF FF
noncomputable def z29LP (N : Nat) : Nat → Code → St → (Ex → St → Option Int) → Option Int := fun i c =>
 match i with
 | i => fun st k => iter (z29h i) (exec (z29E N) N c i) N st k
theorem z29core (N : Nat) (x : SV [.v .str, .v (.sl τ7)]) (y : BV []) : runL (z29E N) Tryz.f22 (z29g N) z29pk (z29LP N) x y = blob_checkRoot N x.1 x.2.1 := by kernel_rfl
theorem z29sound (N : Nat) : Snd 22 (z29g N) :=
 sndL (z29fn_ok N) Tryz.func22 rfl Tryz.call22 (z29g N) z29pk (fun _ _ => rfl) N (z29LP N) (show LoopsOk (z29LP N) (z29E N) N (resD (z29E N) Tryz.f22 (z29g N) z29pk) [] from trivial) (z29core N)
def blob_Find_1 (_N : Nat) (x0 : Str × List UInt8) (x1 : Str) : Option Int :=
 bnd (strings_Compare x0.1 x1) fun t8 =>
 some t8
abbrev z44sg (f : SV [.v τ7, .v .str] → BV [] → Option (Int)) : AF := { ps := [.v τ7, .v .str], bs := [], rs := [.v τ5], cs := [], R := Int, out := fun z => ((z, ()), ()), f := f }
noncomputable abbrev z44g (N : Nat) : AF := z44sg fun x _ => blob_Find_1 N x.1 x.2.1
abbrev z44pk : SV [.v τ5] → BV [] → Int := fun x _ => x.1
def z44fn (_N : Nat) : FuncId → Option Tmp → Option AF := fun f _ =>
 match f with
   | 18 => some (z28sg fun x _ => strings_Compare x.1 x.2.1)
   | _ => none
theorem z44fn_ok (N : Nat) : FnOk (z44fn N) := by
 intro f q F h
 unfold z44fn at h
 split at h
 · cases h; exact z28sound
 · cases h
def z44h : Nat → Hint := fun i =>
 match i with
 | _ => hint0
abbrev z44E (N : Nat) : Env := mkE z44h (z44fn N) FF FF
noncomputable def z44LP (N : Nat) : Nat → Code → St → (Ex → St → Option Int) → Option Int := fun i c =>
 match i with
 | i => fun st k => iter (z44h i) (exec (z44E N) N c i) N st k
theorem z44core (N : Nat) (x : SV [.v τ7, .v .str]) (y : BV []) : runL (z44E N) Tryz.f48 (z44g N) z44pk (z44LP N) x y = blob_Find_1 N x.1 x.2.1 := by kernel_rfl
theorem z44sound (N : Nat) : Snd 48 (z44g N) :=
 sndL (z44fn_ok N) Tryz.func48 rfl Tryz.call48 (z44g N) z44pk (fun _ _ => rfl) N (z44LP N) (show LoopsOk (z44LP N) (z44E N) N (resD (z44E N) Tryz.f48 (z44g N) z44pk) [] from trivial) (z44core N)
def z0L0T (N : Nat) (x0 : List τ3) (x1 : Str) (k0 : Int → Option (Int × Bool)) (self : Int → Int → Option (Int × Bool)) (s9 : Int) (s10 : Int) : Option (Int × Bool) :=
 br (decide (s9 < s10))
   (br (decide (0 ≤ (1 : Int)))
     (bnd (geti x0 (IntKind.i64.wrap (shrI .u64 (IntKind.u64.wrap (IntKind.i64.wrap (s9 + s10))) (1 : Int)))) fun t27 =>
     bnd (blob_Find_1 N t27 x1) fun t30 =>
     br (decide (t30 < (0 : Int)))
       (self (IntKind.i64.wrap ((IntKind.i64.wrap (shrI .u64 (IntKind.u64.wrap (IntKind.i64.wrap (s9 + s10))) (1 : Int))) + (1 : Int))) s10)
       (self s9 (IntKind.i64.wrap (shrI .u64 (IntKind.u64.wrap (IntKind.i64.wrap (s9 + s10))) (1 : Int)))))
     none)
   (k0 s9)
def z0L0 (N : Nat) (x0 : List τ3) (x1 : Str) (k0 : Int → Option (Int × Bool)) : Nat → Int → Int → Option (Int × Bool)
 | 0, _, _ => none
 | n + 1, s9, s10 => z0L0T N x0 x1 k0 (z0L0 N x0 x1 k0 n) s9 s10
def slices_BinarySearchFunc_api_Object_string (N : Nat) (x0 : List τ3) (x1 : Str) (_x2 : Unit) : Option (Int × Bool) :=
 z0L0 N x0 x1 (fun o0_9 =>
     br (decide (o0_9 < (x0.length : Int)))
       (bnd (geti x0 o0_9) fun t43 =>
       bnd (blob_Find_1 N t43 x1) fun t46 =>
       some (o0_9, t46 == (0 : Int)))
       (some (o0_9, false))) N (0 : Int) (x0.length : Int)
abbrev z0sg (f : SV [.v (.sl τ7), .v .str, .v (.clo 48 .un)] → BV [] → Option (Int × Bool)) : AF := { ps := [.v (.sl τ7), .v .str, .v (.clo 48 .un)], bs := [], rs := [.v τ5, .v .bool], cs := [], R := Int × Bool, out := fun z => ((z.1, z.2, ()), ()), f := f }
noncomputable abbrev z0g (N : Nat) : AF := z0sg fun x _ => slices_BinarySearchFunc_api_Object_string N x.1 x.2.1 x.2.2.1
abbrev z0pk : SV [.v τ5, .v .bool] → BV [] → (Int × Bool) := fun x _ => (x.1, x.2.1)
def z0fn (N : Nat) : FuncId → Option Tmp → Option AF := fun f _ =>
 match f with
   | 48 => some (z44g N)
   | _ => none
theorem z0fn_ok (N : Nat) : FnOk (z0fn N) := by
 intro f q F h
 unfold z0fn at h
 split at h
 · cases h; exact z44sound N
 · cases h
def z0h : Nat → Hint := fun i =>
 match i with
 | 0 => ⟨[], [0, 1, 2, 8, 9, 10], [], [0, 1, 2, 8, 9], [], []⟩
 | _ => hint0
abbrev z0E (N : Nat) : Env := mkE z0h (z0fn N) FF FF
noncomputable abbrev z0c0 : Code := cAt (bodyOf Tryz.f47) [true, true, true, false, false, false]
noncomputable abbrev z0R (N : Nat) := resD (z0E N) Tryz.f47 (z0g N) z0pk
abbrev z0L0_fs : List (Nat × Sl) := [(0, .v (.sl τ7)), (1, .v .str), (2, .v (.clo 48 .un)), (8, .v τ5), (9, .v τ5), (10, .v τ5)]
abbrev z0L0_bs : List (Nat × Sb) := []
def z0L0_hd (x0 : List τ3) (x1 : Str) (x2 : Unit) (c8 : Int) (s9 : Int) (s10 : Int) : St := ⟨49, [(0, .v (.sl τ7) x0), (1, .v .str x1), (2, .v (.clo 48 .un) x2), (8, .v τ5 c8), (9, .v τ5 s9), (10, .v τ5 s10)], []⟩
def z0L0_tl0 (x0 : List τ3) (x1 : Str) (x2 : Unit) (c8 : Int) (o0_9 : Int) : St := ⟨49, [(0, .v (.sl τ7) x0), (1, .v .str x1), (2, .v (.clo 48 .un) x2), (8, .v τ5 c8), (9, .v τ5 o0_9)], []⟩
def z0L0_G (N : Nat) (x0 : List τ3) (x1 : Str) (x2 : Unit) (c8 : Int) (s9 : Int) (s10 : Int) (k : Ex → St → Option (Int × Bool)) : Option (Int × Bool) :=
 z0L0 N x0 x1 (fun o0_9 => k (.exit 0) (z0L0_tl0 x0 x1 x2 c8 o0_9)) N s9 s10
abbrev z0L0_F (N : Nat) : FV z0L0_fs → HV z0L0_bs → (Ex → St → Option (Int × Bool)) → Option (Int × Bool) := fun x _ k => z0L0_G N x.1 x.2.1 x.2.2.1 x.2.2.2.1 x.2.2.2.2.1 x.2.2.2.2.2.1 k
noncomputable def z0LP (N : Nat) : Nat → Code → St → (Ex → St → Option (Int × Bool)) → Option (Int × Bool) := fun i c =>
 match i with
 | 0 => (LPc 49 z0L0_fs z0L0_bs (z0L0_F N) (fun st k => iter (z0h 0) (exec (z0E N) N c 0) N st k))
 | i => fun st k => iter (z0h i) (exec (z0E N) N c i) N st k
theorem z0L0_step (N : Nat) (x0 : List τ3) (x1 : Str) (x2 : Unit) (c8 : Int) (KX : Nat → St → Option (Int × Bool)) (I : St → Option (Int × Bool)) (s9 : Int) (s10 : Int) :
   execL (z0LP N) (z0E N) z0c0 0 (z0L0_hd x0 x1 x2 c8 s9 s10) (roundK (z0h 0) I KX (z0R N)) = z0L0T N x0 x1 (fun o0_9 => KX 0 (z0L0_tl0 x0 x1 x2 c8 o0_9)) (fun s9 s10 => I (z0L0_hd x0 x1 x2 c8 s9 s10)) s9 s10 := by kernel_rfl
theorem z0L0_ok (N : Nat) : ∀ x y k, (∀ st, k .ret st = (z0R N) st) → iter (z0h 0) (exec (z0E N) N z0c0 0) N ⟨49, unF z0L0_fs x, unH z0L0_bs y⟩ k = z0L0_F N x y k := fun x _ k hk =>
 iter_link (S := (Int) × (Int) × Unit) (z0h 0) _ (execL (z0LP N) (z0E N) z0c0 0) (z0R N) (fun st k hk => execL_eq _ _ N _ z0c0 0 (show LoopsOk (z0LP N) (z0E N) N (z0R N) [] from trivial) st k hk) (fun s => z0L0_hd x.1 x.2.1 x.2.2.1 x.2.2.2.1 s.1 s.2.1) k hk
   (fun self s => z0L0T N x.1 x.2.1 (fun o0_9 => k (.exit 0) (z0L0_tl0 x.1 x.2.1 x.2.2.1 x.2.2.2.1 o0_9)) (fun s9 s10 => self (s9, s10, ())) s.1 s.2.1) (fun n s => z0L0 N x.1 x.2.1 (fun o0_9 => k (.exit 0) (z0L0_tl0 x.1 x.2.1 x.2.2.1 x.2.2.2.1 o0_9)) n s.1 s.2.1) (fun _ => rfl) (fun _ _ => rfl)
   (fun I s => z0L0_step N x.1 x.2.1 x.2.2.1 x.2.2.2.1 (fun j => k (.exit j)) I s.1 s.2.1) N (x.2.2.2.2.1, x.2.2.2.2.2.1, ())
theorem z0lp0 (N : Nat) : ∀ st k, (∀ st, k .ret st = (z0R N) st) → z0LP N 0 z0c0 st k = iter (Env.hint (z0E N) 0) (exec (z0E N) N z0c0 0) N st k := fun st k hk => LPc_eq 49 z0L0_fs z0L0_bs _ _ (z0R N) (z0L0_ok N) _ st k hk (rfl)
theorem z0core (N : Nat) (x : SV [.v (.sl τ7), .v .str, .v (.clo 48 .un)]) (y : BV []) : runL (z0E N) Tryz.f47 (z0g N) z0pk (z0LP N) x y = slices_BinarySearchFunc_api_Object_string N x.1 x.2.1 x.2.2.1 := by kernel_rfl
theorem z0sound (N : Nat) : Snd 47 (z0g N) :=
 sndL (z0fn_ok N) Tryz.func47 rfl Tryz.call47 (z0g N) z0pk (fun _ _ => rfl) N (z0LP N) (show LoopsOk (z0LP N) (z0E N) N (z0R N) [(0, z0c0)] from ⟨z0lp0 N, trivial⟩) (z0core N)
def blob_Find (N : Nat) (x0 : List τ3) (x1 : Str) : Option (List UInt8 × Bool) :=
 bnd (slices_BinarySearchFunc_api_Object_string N x0 x1 ()) fun t11 =>
 br (!t11.2)
   (some (([] : List UInt8), false))
   (bnd (geti x0 t11.1) fun t18 =>
   some (t18.2, true))
abbrev z57sg (f : SV [.v (.sl τ7), .v .str] → BV [] → Option (List UInt8 × Bool)) : AF := { ps := [.v (.sl τ7), .v .str], bs := [], rs := [.v τ17, .v .bool], cs := [], R := List UInt8 × Bool, out := fun z => ((z.1, z.2, ()), ()), f := f }
noncomputable abbrev z57g (N : Nat) : AF := z57sg fun x _ => blob_Find N x.1 x.2.1
abbrev z57pk : SV [.v τ17, .v .bool] → BV [] → (List UInt8 × Bool) := fun x _ => (x.1, x.2.1)
def z57fn (N : Nat) : FuncId → Option Tmp → Option AF := fun f _ =>
 match f with
   | 47 => some (z0g N)
   | _ => none
theorem z57fn_ok (N : Nat) : FnOk (z57fn N) := by
 intro f q F h
 unfold z57fn at h
 split at h
 · cases h; exact z0sound N
 · cases h
def z57h : Nat → Hint := fun i =>
 match i with
 | _ => hint0
abbrev z57E (N : Nat) : Env := mkE z57h (z57fn N) FF FF
noncomputable def z57LP (N : Nat) : Nat → Code → St → (Ex → St → Option (List UInt8 × Bool)) → Option (List UInt8 × Bool) := fun i c =>
 match i with
 | i => fun st k => iter (z57h i) (exec (z57E N) N c i) N st k
theorem z57core (N : Nat) (x : SV [.v (.sl τ7), .v .str]) (y : BV []) : runL (z57E N) Tryz.f26 (z57g N) z57pk (z57LP N) x y = blob_Find N x.1 x.2.1 := by kernel_rfl
theorem z57sound (N : Nat) : Snd 26 (z57g N) :=
 sndL (z57fn_ok N) Tryz.func26 rfl Tryz.call26 (z57g N) z57pk (fun _ _ => rfl) N (z57LP N) (show LoopsOk (z57LP N) (z57E N) N (resD (z57E N) Tryz.f26 (z57g N) z57pk) [] from trivial) (z57core N)
def blob_readEntry (N : Nat) (x0 : Str) : Option (τ9 × Bool) :=
 bnd (strings_Split x0 ([32] : Str)) fun t6 =>
 bnd
   (br ((t6.length : Int) == (4 : Int))
     (bnd (geti t6 (0 : Int)) fun t14 =>
     br (t14 == ([102, 105, 108, 101] : Str))
       (bnd (geti t6 (3 : Int)) fun t20 =>
       br (t20 == ([120] : Str))
         (some true)
         (bnd (geti t6 (3 : Int)) fun t25 =>
         some (t25 == ([45] : Str))))
       (some false))
     (some false)) fun j8 =>
 br (j8)
   (bnd (geti t6 (1 : Int)) fun t41 =>
   bnd (geti t6 (2 : Int)) fun t44 =>
   bnd (geti t6 (0 : Int)) fun t47 =>
   bnd (geti t6 (1 : Int)) fun t61 =>
   br ((t6.length : Int) == (4 : Int))
     (bnd (geti t6 (3 : Int)) fun t55 =>
     both
       (bnd (blob_isPart N t61) fun t63 =>
       br (t63)
         (bnd (geti t6 (2 : Int)) fun t66 =>
         bnd (blob_IsDigest N t66) fun t68 =>
         times 1
           (some ((t41, (t44, (t47 == ([100, 105, 114] : Str), t55 == ([120] : Str)))), t68)))
         (times 1
           (some ((t41, (t44, (t47 == ([100, 105, 114] : Str), t55 == ([120] : Str)))), false))))
       (bnd (blob_isPart N t61) fun t63 =>
       both
         (br (t63)
           (bnd (geti t6 (2 : Int)) fun t66 =>
           bnd (blob_IsDigest N t66) fun t68 =>
           times 1
             (some ((t41, (t44, (t47 == ([100, 105, 114] : Str), t55 == ([120] : Str)))), t68)))
           (times 1
             (some ((t41, (t44, (t47 == ([100, 105, 114] : Str), t55 == ([120] : Str)))), false))))
         (br (t63)
           (both
             (bnd (geti t6 (2 : Int)) fun t66 =>
             bnd (blob_IsDigest N t66) fun t68 =>
             times 1
               (some ((t41, (t44, (t47 == ([100, 105, 114] : Str), t55 == ([120] : Str)))), t68)))
             (bnd (geti t6 (2 : Int)) fun t66 =>
             both
               (bnd (blob_IsDigest N t66) fun t68 =>
               times 1
                 (some ((t41, (t44, (t47 == ([100, 105, 114] : Str), t55 == ([120] : Str)))), t68)))
               (both
                 (bnd (blob_IsDigest N t66) fun t68 =>
                 times 1
                   (some ((t41, (t44, (t47 == ([100, 105, 114] : Str), t55 == ([120] : Str)))), t68)))
                 (bnd (blob_IsDigest N t66) fun t68 =>
                 both
                   (times 1
                     (some ((t41, (t44, (t47 == ([100, 105, 114] : Str), t55 == ([120] : Str)))), t68)))
                   (some ((t41, (t44, (t47 == ([100, 105, 114] : Str), t55 == ([120] : Str)))), t68))))))
           (both
             (times 1
               (some ((t41, (t44, (t47 == ([100, 105, 114] : Str), t55 == ([120] : Str)))), false)))
             (both
               (times 1
                 (some ((t41, (t44, (t47 == ([100, 105, 114] : Str), t55 == ([120] : Str)))), false)))
               (both
                 (times 1
                   (some ((t41, (t44, (t47 == ([100, 105, 114] : Str), t55 == ([120] : Str)))), false)))
                 (both
                   (times 1
                     (some ((t41, (t44, (t47 == ([100, 105, 114] : Str), t55 == ([120] : Str)))), false)))
                   (some ((t41, (t44, (t47 == ([100, 105, 114] : Str), t55 == ([120] : Str)))), false)))))))))
     (both
       (bnd (blob_isPart N t61) fun t63_1 =>
       br (t63_1)
         (bnd (geti t6 (2 : Int)) fun t66_2 =>
         bnd (blob_IsDigest N t66_2) fun t68_3 =>
         times 1
           (some ((t41, (t44, (t47 == ([100, 105, 114] : Str), false))), t68_3)))
         (times 1
           (some ((t41, (t44, (t47 == ([100, 105, 114] : Str), false))), false))))
       (bnd (blob_isPart N t61) fun t63_1 =>
       both
         (br (t63_1)
           (bnd (geti t6 (2 : Int)) fun t66_2 =>
           bnd (blob_IsDigest N t66_2) fun t68_3 =>
           times 1
             (some ((t41, (t44, (t47 == ([100, 105, 114] : Str), false))), t68_3)))
           (times 1
             (some ((t41, (t44, (t47 == ([100, 105, 114] : Str), false))), false))))
         (br (t63_1)
           (both
             (bnd (geti t6 (2 : Int)) fun t66_2 =>
             bnd (blob_IsDigest N t66_2) fun t68_3 =>
             times 1
               (some ((t41, (t44, (t47 == ([100, 105, 114] : Str), false))), t68_3)))
             (bnd (geti t6 (2 : Int)) fun t66_2 =>
             both
               (bnd (blob_IsDigest N t66_2) fun t68_3 =>
               times 1
                 (some ((t41, (t44, (t47 == ([100, 105, 114] : Str), false))), t68_3)))
               (both
                 (bnd (blob_IsDigest N t66_2) fun t68_3 =>
                 times 1
                   (some ((t41, (t44, (t47 == ([100, 105, 114] : Str), false))), t68_3)))
                 (bnd (blob_IsDigest N t66_2) fun t68_3 =>
                 both
                   (times 1
                     (some ((t41, (t44, (t47 == ([100, 105, 114] : Str), false))), t68_3)))
                   (some ((t41, (t44, (t47 == ([100, 105, 114] : Str), false))), t68_3))))))
           (both
             (times 1
               (some ((t41, (t44, (t47 == ([100, 105, 114] : Str), false))), false)))
             (both
               (times 1
                 (some ((t41, (t44, (t47 == ([100, 105, 114] : Str), false))), false)))
               (both
                 (times 1
                   (some ((t41, (t44, (t47 == ([100, 105, 114] : Str), false))), false)))
                 (both
                   (times 1
                     (some ((t41, (t44, (t47 == ([100, 105, 114] : Str), false))), false)))
                   (some ((t41, (t44, (t47 == ([100, 105, 114] : Str), false))), false))))))))))
   (bnd
     (br ((t6.length : Int) == (3 : Int))
       (bnd (geti t6 (0 : Int)) fun t36 =>
       some (t36 == ([100, 105, 114] : Str)))
       (some false)) fun j30 =>
   br (j30)
     (bnd (geti t6 (1 : Int)) fun t41_4 =>
     bnd (geti t6 (2 : Int)) fun t44_5 =>
     bnd (geti t6 (0 : Int)) fun t47_6 =>
     bnd (geti t6 (1 : Int)) fun t61_7 =>
     br ((t6.length : Int) == (4 : Int))
       (bnd (geti t6 (3 : Int)) fun t55_8 =>
       both
         (bnd (blob_isPart N t61_7) fun t63_9 =>
         br (t63_9)
           (bnd (geti t6 (2 : Int)) fun t66_10 =>
           bnd (blob_IsDigest N t66_10) fun t68_11 =>
           times 1
             (some ((t41_4, (t44_5, (t47_6 == ([100, 105, 114] : Str), t55_8 == ([120] : Str)))), t68_11)))
           (times 1
             (some ((t41_4, (t44_5, (t47_6 == ([100, 105, 114] : Str), t55_8 == ([120] : Str)))), false))))
         (bnd (blob_isPart N t61_7) fun t63_9 =>
         both
           (br (t63_9)
             (bnd (geti t6 (2 : Int)) fun t66_10 =>
             bnd (blob_IsDigest N t66_10) fun t68_11 =>
             times 1
               (some ((t41_4, (t44_5, (t47_6 == ([100, 105, 114] : Str), t55_8 == ([120] : Str)))), t68_11)))
             (times 1
               (some ((t41_4, (t44_5, (t47_6 == ([100, 105, 114] : Str), t55_8 == ([120] : Str)))), false))))
           (br (t63_9)
             (both
               (bnd (geti t6 (2 : Int)) fun t66_10 =>
               bnd (blob_IsDigest N t66_10) fun t68_11 =>
               times 1
                 (some ((t41_4, (t44_5, (t47_6 == ([100, 105, 114] : Str), t55_8 == ([120] : Str)))), t68_11)))
               (bnd (geti t6 (2 : Int)) fun t66_10 =>
               both
                 (bnd (blob_IsDigest N t66_10) fun t68_11 =>
                 times 1
                   (some ((t41_4, (t44_5, (t47_6 == ([100, 105, 114] : Str), t55_8 == ([120] : Str)))), t68_11)))
                 (both
                   (bnd (blob_IsDigest N t66_10) fun t68_11 =>
                   times 1
                     (some ((t41_4, (t44_5, (t47_6 == ([100, 105, 114] : Str), t55_8 == ([120] : Str)))), t68_11)))
                   (bnd (blob_IsDigest N t66_10) fun t68_11 =>
                   both
                     (times 1
                       (some ((t41_4, (t44_5, (t47_6 == ([100, 105, 114] : Str), t55_8 == ([120] : Str)))), t68_11)))
                     (some ((t41_4, (t44_5, (t47_6 == ([100, 105, 114] : Str), t55_8 == ([120] : Str)))), t68_11))))))
             (both
               (times 1
                 (some ((t41_4, (t44_5, (t47_6 == ([100, 105, 114] : Str), t55_8 == ([120] : Str)))), false)))
               (both
                 (times 1
                   (some ((t41_4, (t44_5, (t47_6 == ([100, 105, 114] : Str), t55_8 == ([120] : Str)))), false)))
                 (both
                   (times 1
                     (some ((t41_4, (t44_5, (t47_6 == ([100, 105, 114] : Str), t55_8 == ([120] : Str)))), false)))
                   (both
                     (times 1
                       (some ((t41_4, (t44_5, (t47_6 == ([100, 105, 114] : Str), t55_8 == ([120] : Str)))), false)))
                     (some ((t41_4, (t44_5, (t47_6 == ([100, 105, 114] : Str), t55_8 == ([120] : Str)))), false)))))))))
       (both
         (bnd (blob_isPart N t61_7) fun t63_12 =>
         br (t63_12)
           (bnd (geti t6 (2 : Int)) fun t66_13 =>
           bnd (blob_IsDigest N t66_13) fun t68_14 =>
           times 1
             (some ((t41_4, (t44_5, (t47_6 == ([100, 105, 114] : Str), false))), t68_14)))
           (times 1
             (some ((t41_4, (t44_5, (t47_6 == ([100, 105, 114] : Str), false))), false))))
         (bnd (blob_isPart N t61_7) fun t63_12 =>
         both
           (br (t63_12)
             (bnd (geti t6 (2 : Int)) fun t66_13 =>
             bnd (blob_IsDigest N t66_13) fun t68_14 =>
             times 1
               (some ((t41_4, (t44_5, (t47_6 == ([100, 105, 114] : Str), false))), t68_14)))
             (times 1
               (some ((t41_4, (t44_5, (t47_6 == ([100, 105, 114] : Str), false))), false))))
           (br (t63_12)
             (both
               (bnd (geti t6 (2 : Int)) fun t66_13 =>
               bnd (blob_IsDigest N t66_13) fun t68_14 =>
               times 1
                 (some ((t41_4, (t44_5, (t47_6 == ([100, 105, 114] : Str), false))), t68_14)))
               (bnd (geti t6 (2 : Int)) fun t66_13 =>
               both
                 (bnd (blob_IsDigest N t66_13) fun t68_14 =>
                 times 1
                   (some ((t41_4, (t44_5, (t47_6 == ([100, 105, 114] : Str), false))), t68_14)))
                 (both
                   (bnd (blob_IsDigest N t66_13) fun t68_14 =>
                   times 1
                     (some ((t41_4, (t44_5, (t47_6 == ([100, 105, 114] : Str), false))), t68_14)))
                   (bnd (blob_IsDigest N t66_13) fun t68_14 =>
                   both
                     (times 1
                       (some ((t41_4, (t44_5, (t47_6 == ([100, 105, 114] : Str), false))), t68_14)))
                     (some ((t41_4, (t44_5, (t47_6 == ([100, 105, 114] : Str), false))), t68_14))))))
             (both
               (times 1
                 (some ((t41_4, (t44_5, (t47_6 == ([100, 105, 114] : Str), false))), false)))
               (both
                 (times 1
                   (some ((t41_4, (t44_5, (t47_6 == ([100, 105, 114] : Str), false))), false)))
                 (both
                   (times 1
                     (some ((t41_4, (t44_5, (t47_6 == ([100, 105, 114] : Str), false))), false)))
                   (both
                     (times 1
                       (some ((t41_4, (t44_5, (t47_6 == ([100, 105, 114] : Str), false))), false)))
                     (some ((t41_4, (t44_5, (t47_6 == ([100, 105, 114] : Str), false))), false))))))))))
     (some ((([] : Str), (([] : Str), (false, false))), false)))
abbrev z31sg (f : SV [.v .str] → BV [] → Option (τ9 × Bool)) : AF := { ps := [.v .str], bs := [], rs := [.v τ10, .v .bool], cs := [], R := τ9 × Bool, out := fun z => ((z.1, z.2, ()), ()), f := f }
noncomputable abbrev z31g (N : Nat) : AF := z31sg fun x _ => blob_readEntry N x.1
abbrev z31pk : SV [.v τ10, .v .bool] → BV [] → (τ9 × Bool) := fun x _ => (x.1, x.2.1)
def z31fn (N : Nat) : FuncId → Option Tmp → Option AF := fun f _ =>
 match f with
   | 44 => some (z32g N)
   | 52 => some (z35sg fun x _ => strings_Split x.1 x.2.1)
   | 53 => some (z48g N)
   | _ => none
theorem z31fn_ok (N : Nat) : FnOk (z31fn N) := by
 intro f q F h
 unfold z31fn at h
 split at h
 · cases h; exact z32sound N
 · cases h; exact z35sound
 · cases h; exact z48sound N
 · cases h
def z31h : Nat → Hint := fun i =>
 match i with
 | 100005 => ⟨[], [1], [], [], [], []⟩
 | _ => hint0
abbrev z31E (N : Nat) : Env := mkE z31h (z31fn N) FF FF |>.jk (fun i => match i with | 3 => some 8 | 4 => some 30 | _ => none)
noncomputable def z31LP (N : Nat) : Nat → Code → St → (Ex → St → Option (τ9 × Bool)) → Option (τ9 × Bool) := fun i c =>
 match i with
 | i => fun st k => iter (z31h i) (exec (z31E N) N c i) N st k
theorem z31core (N : Nat) (x : SV [.v .str]) (y : BV []) : runL (z31E N) Tryz.f50 (z31g N) z31pk (z31LP N) x y = blob_readEntry N x.1 := by kernel_rfl
theorem z31sound (N : Nat) : Snd 50 (z31g N) :=
 runD_sound (EnvOk.jk (mkE_ok z31h (z31fn N) _ _ (z31fn_ok N)) _) Tryz.func50 rfl Tryz.call50 (z31g N) z31pk (fun _ _ => rfl) N (fun x y _ h => ((runL_eq (z31E N) N Tryz.f50 (z31g N) z31pk (z31LP N) (show LoopsOk (z31LP N) (z31E N) N (resD (z31E N) Tryz.f50 (z31g N) z31pk) [] from trivial) x y).trans (z31core N x y)).trans h)
def z41L0T (N : Nat) (k0 : (List τ9) → Option (Bool × List τ9)) (self : Str → (List τ9) → Option (Bool × List τ9)) (s5 : Str) (w1004 : List τ9) : Option (Bool × List τ9) :=
 br (!(s5 == ([] : Str)))
   (bnd (strings_Cut s5 ([10] : Str)) fun t17 =>
   bnd (blob_readEntry N t17.1) fun t23 =>
   br (!t17.2.2)
     (some (false, ([] : List τ9)))
     (br (!t23.2)
       (some (false, ([] : List τ9)))
       (br (decide ((w1004.length : Int) > (0 : Int)))
         (bnd (geti w1004 (IntKind.i64.wrap ((w1004.length : Int) - (1 : Int)))) fun t43 =>
         br (Op.bytesLess t23.1.1 t43.1 || t23.1.1 == t43.1)
           (some (false, ([] : List τ9)))
           (br (decide ((w1004.length + [t23.1].length) * (24 * Ty.sz τ10) ≤ 140737488355328))
             (self t17.2.1 (w1004 ++ [t23.1]))
             none))
         (br (decide ((w1004.length + [t23.1].length) * (24 * Ty.sz τ10) ≤ 140737488355328))
           (self t17.2.1 (w1004 ++ [t23.1]))
           none))))
   (k0 w1004)
def z41L0 (N : Nat) (k0 : (List τ9) → Option (Bool × List τ9)) : Nat → Str → (List τ9) → Option (Bool × List τ9)
 | 0, _, _ => none
 | n + 1, s5, w1004 => z41L0T N k0 (z41L0 N k0 n) s5 w1004
def blob_readDir (N : Nat) (x0 : List UInt8) : Option (Bool × List τ9) :=
 z41L0 N (fun o0_w1004 =>
     some (true, o0_w1004)) N x0 ([] : List τ9)
abbrev z41sg (f : SV [.v τ17] → BV [] → Option (Bool × List τ9)) : AF := { ps := [.v τ17], bs := [], rs := [.row 0, .v .bool], cs := [.row 71 τ10 false], R := Bool × List τ9, out := fun z => (((), z.1, ()), (z.2, ())), f := f }
noncomputable abbrev z41g (N : Nat) : AF := z41sg fun x _ => blob_readDir N x.1
abbrev z41pk : SV [.row 0, .v .bool] → BV [.row 71 τ10 false] → (Bool × List τ9) := fun x y => (x.2.1, y.1)
def z41fn (N : Nat) : FuncId → Option Tmp → Option AF := fun f _ =>
 match f with
   | 49 => some (z52sg fun x _ => strings_Cut x.1 x.2.1)
   | 50 => some (z31g N)
   | _ => none
theorem z41fn_ok (N : Nat) : FnOk (z41fn N) := by
 intro f q F h
 unfold z41fn at h
 split at h
 · cases h; exact z52sound
 · cases h; exact z31sound N
 · cases h
def z41h : Nat → Hint := fun i =>
 match i with
 | 0 => ⟨[], [4, 5], [1004], [4], [1004], []⟩
 | _ => hint0
abbrev z41E (N : Nat) : Env := mkE z41h (z41fn N) FF FF
noncomputable abbrev z41c0 : Code := cAt (bodyOf Tryz.f27) [true, true, true, false, false, false]
noncomputable abbrev z41R (N : Nat) := resD (z41E N) Tryz.f27 (z41g N) z41pk
abbrev z41L0_fs : List (Nat × Sl) := [(4, .row 1004), (5, .v .str)]
abbrev z41L0_bs : List (Nat × Sb) := [(1004, .row 71 τ10 false)]
def z41L0_hd (s5 : Str) (w1004 : List τ9) : St := ⟨55, [(4, .row 1004), (5, .v .str s5)], [(1004, .row 71 τ10 false w1004)]⟩
def z41L0_tl0 (o0_w1004 : List τ9) : St := ⟨55, [(4, .row 1004)], [(1004, .row 71 τ10 false o0_w1004)]⟩
def z41L0_G (N : Nat) (s5 : Str) (w1004 : List τ9) (k : Ex → St → Option (Bool × List τ9)) : Option (Bool × List τ9) :=
 z41L0 N (fun o0_w1004 => k (.exit 0) (z41L0_tl0 o0_w1004)) N s5 w1004
abbrev z41L0_F (N : Nat) : FV z41L0_fs → HV z41L0_bs → (Ex → St → Option (Bool × List τ9)) → Option (Bool × List τ9) := fun x y k => z41L0_G N x.2.1 y.1 k
noncomputable def z41LP (N : Nat) : Nat → Code → St → (Ex → St → Option (Bool × List τ9)) → Option (Bool × List τ9) := fun i c =>
 match i with
 | 0 => (LPc 55 z41L0_fs z41L0_bs (z41L0_F N) (fun st k => iter (z41h 0) (exec (z41E N) N c 0) N st k))
 | i => fun st k => iter (z41h i) (exec (z41E N) N c i) N st k
theorem z41L0_step (N : Nat) (KX : Nat → St → Option (Bool × List τ9)) (I : St → Option (Bool × List τ9)) (s5 : Str) (w1004 : List τ9) :
   execL (z41LP N) (z41E N) z41c0 0 (z41L0_hd s5 w1004) (roundK (z41h 0) I KX (z41R N)) = z41L0T N (fun o0_w1004 => KX 0 (z41L0_tl0 o0_w1004)) (fun s5 w1004 => I (z41L0_hd s5 w1004)) s5 w1004 := by kernel_rfl
theorem z41L0_ok (N : Nat) : ∀ x y k, (∀ st, k .ret st = (z41R N) st) → iter (z41h 0) (exec (z41E N) N z41c0 0) N ⟨55, unF z41L0_fs x, unH z41L0_bs y⟩ k = z41L0_F N x y k := fun x y k hk =>
 iter_link (S := (Str) × (List τ9) × Unit) (z41h 0) _ (execL (z41LP N) (z41E N) z41c0 0) (z41R N) (fun st k hk => execL_eq _ _ N _ z41c0 0 (show LoopsOk (z41LP N) (z41E N) N (z41R N) [] from trivial) st k hk) (fun s => z41L0_hd s.1 s.2.1) k hk
   (fun self s => z41L0T N (fun o0_w1004 => k (.exit 0) (z41L0_tl0 o0_w1004)) (fun s5 w1004 => self (s5, w1004, ())) s.1 s.2.1) (fun n s => z41L0 N (fun o0_w1004 => k (.exit 0) (z41L0_tl0 o0_w1004)) n s.1 s.2.1) (fun _ => rfl) (fun _ _ => rfl)
   (fun I s => z41L0_step N (fun j => k (.exit j)) I s.1 s.2.1) N (x.2.1, y.1, ())
theorem z41lp0 (N : Nat) : ∀ st k, (∀ st, k .ret st = (z41R N) st) → z41LP N 0 z41c0 st k = iter (Env.hint (z41E N) 0) (exec (z41E N) N z41c0 0) N st k := fun st k hk => LPc_eq 55 z41L0_fs z41L0_bs _ _ (z41R N) (z41L0_ok N) _ st k hk (rfl)
theorem z41core (N : Nat) (x : SV [.v τ17]) (y : BV []) : runL (z41E N) Tryz.f27 (z41g N) z41pk (z41LP N) x y = blob_readDir N x.1 := by kernel_rfl
theorem z41sound (N : Nat) : Snd 27 (z41g N) :=
 sndL (z41fn_ok N) Tryz.func27 rfl Tryz.call27 (z41g N) z41pk (fun _ _ => rfl) N (z41LP N) (show LoopsOk (z41LP N) (z41E N) N (z41R N) [(0, z41c0)] from ⟨z41lp0 N, trivial⟩) (z41core N)
abbrev z18sg (f : SV [.box 0 0, .v .str, .v .str] → BV [.cells [.v (.sl τ7), .row 1], .row 62 τ4 true] → Option τ13) : AF := { ps := [.box 0 0, .v .str, .v .str], bs := [.cells [.v (.sl τ7), .row 1], .row 62 τ4 true], rs := [.v τ5], cs := [.cells [.v (.sl τ7), .row 1], .row 62 τ4 true], R := Int × List τ3 × List τ2, out := fun z => ((z.1, ()), ((z.2.1, (), ()), z.2.2, ())), f := f }
end
end Go.Proofs.YtjiddcchklaiiaaGreatDoor


/-
 DERIVED: THE SHELF's CONTRACTS AT THIS DUMP, IN PLAIN WORDS (tools/lay-plain.mjs out of 'TryzShelfF.lean', which tools/lay-shelf.mjs wrote): THE SAME DECLARATIONS UNDER THE SAME NAMES: 'import', 'namespace', 'open', 'def', 'theorem' AND NOTHING ELSE: no command of the shelf's: FOR A HAND-IN. Each laying: the table of numbers ('.._ren') and one theorem, a field a fact of the dump's own or the kernel's comparison; each contract: ONE APPLICATION.
-/
namespace Go.Proofs
open Go.Shelf
def Tryz.sortF_ren : Go.Shelf.Ren := ⟨fun | 6 => 24 | 15 => 36 | 14 => 46 | 28 => 64 | 29 => 65 | 20 => 69 | 21 => 70 | 22 => 71 | 23 => 72 | 24 => 73 | 25 => 74 | 26 => 75 | 27 => 76 | 46 => 103 | 47 => 91 | 48 => 92 | 49 => 104 | 50 => 105 | 57 => 123 | n => n, fun | 22 => 22 | 24 => 62 | 25 => 63 | 3 => 3 | 39 => 84 | 0 => 0 | 53 => 114 | 55 => 85 | 4 => 4 | 46 => 108 | 45 => 107 | 50 => 95 | 5 => 5 | 9 => 9 | 66 => 131 | 70 => 135 | 76 => 152 | 77 => 153 | n => n, fun | n => n⟩
theorem Tryz.sortF : Go.Proofs.SlLaysF0.n6 Tryz.prog Tryz.sortF_ren := {
 mixed := by kernel_rfl
 f6 := ⟨Tryz.f24.name, by decide, Tryz.func24.trans (congrArg some (by kernel_rfl))⟩
 f14 := ⟨Tryz.f46.name, by decide, Tryz.func46.trans (congrArg some (by kernel_rfl))⟩
 f15 := Tryz.func36.trans (congrArg some (by kernel_rfl))
 f20 := ⟨Tryz.f69.name, by decide, Tryz.func69.trans (congrArg some (by kernel_rfl))⟩
 f21 := ⟨Tryz.f70.name, by decide, Tryz.func70.trans (congrArg some (by kernel_rfl))⟩
 f22 := ⟨Tryz.f71.name, by decide, Tryz.func71.trans (congrArg some (by kernel_rfl))⟩
 f23 := ⟨Tryz.f72.name, by decide, Tryz.func72.trans (congrArg some (by kernel_rfl))⟩
 f24 := ⟨Tryz.f73.name, by decide, Tryz.func73.trans (congrArg some (by kernel_rfl))⟩
 f25 := ⟨Tryz.f74.name, by decide, Tryz.func74.trans (congrArg some (by kernel_rfl))⟩
 f26 := ⟨Tryz.f75.name, by decide, Tryz.func75.trans (congrArg some (by kernel_rfl))⟩
 f27 := ⟨Tryz.f76.name, by decide, Tryz.func76.trans (congrArg some (by kernel_rfl))⟩
 f28 := Tryz.func64.trans (congrArg some (by kernel_rfl))
 f29 := Tryz.func65.trans (congrArg some (by kernel_rfl))
 f46 := ⟨Tryz.f103.name, by decide, Tryz.func103.trans (congrArg some (by kernel_rfl))⟩
 f47 := Tryz.func91.trans (congrArg some (by kernel_rfl))
 f48 := Tryz.func92.trans (congrArg some (by kernel_rfl))
 f49 := ⟨Tryz.f104.name, by decide, Tryz.func104.trans (congrArg some (by kernel_rfl))⟩
 f50 := ⟨Tryz.f105.name, by decide, Tryz.func105.trans (congrArg some (by kernel_rfl))⟩
 f57 := ⟨Tryz.f123.name, by decide, Tryz.func123.trans (congrArg some (by kernel_rfl))⟩
 t0 := Tryz.underlying0
 a0 := Tryz.isAgg0
 z0 := Tryz.sizeOf0
 v0 := Tryz.zeroValue0
 t3 := Tryz.underlying3
 a3 := Tryz.isAgg3
 z3 := Tryz.sizeOf3
 v3 := Tryz.zeroValue3
 t4 := Tryz.underlying4
 a4 := Tryz.isAgg4
 z4 := Tryz.sizeOf4
 v4 := Tryz.zeroValue4
 t5 := Tryz.underlying5
 a5 := Tryz.isAgg5
 z5 := Tryz.sizeOf5
 v5 := Tryz.zeroValue5
 t9 := Tryz.underlying9
 a9 := Tryz.isAgg9
 z9 := Tryz.sizeOf9
 v9 := Tryz.zeroValue9
 t22 := Tryz.underlying22
 a22 := Tryz.isAgg22
 z22 := Tryz.sizeOf22
 v22 := Tryz.zeroValue22
 t25 := Tryz.underlying63
 a25 := Tryz.isAgg63
 z25 := Tryz.sizeOf63
 v25 := Tryz.zeroValue63
 t39 := Tryz.underlying84
 a39 := Tryz.isAgg84
 z39 := Tryz.sizeOf84
 v39 := Tryz.zeroValue84
 t45 := Tryz.underlying107
 a45 := Tryz.isAgg107
 z45 := Tryz.sizeOf107
 v45 := Tryz.zeroValue107
 t46 := Tryz.underlying108
 a46 := Tryz.isAgg108
 z46 := Tryz.sizeOf108
 v46 := Tryz.zeroValue108
 t50 := Tryz.underlying95
 a50 := Tryz.isAgg95
 z50 := Tryz.sizeOf95
 v50 := Tryz.zeroValue95
 t53 := Tryz.underlying114
 a53 := Tryz.isAgg114
 z53 := Tryz.sizeOf114
 v53 := Tryz.zeroValue114
 t55 := Tryz.underlying85
 a55 := Tryz.isAgg85
 z55 := Tryz.sizeOf85
 v55 := Tryz.zeroValue85
 t66 := Tryz.underlying131
 a66 := Tryz.isAgg131
 z66 := Tryz.sizeOf131
 v66 := Tryz.zeroValue131
 t70 := Tryz.underlying135
 a70 := Tryz.isAgg135
 z70 := Tryz.sizeOf135
 v70 := Tryz.zeroValue135
 t76 := Tryz.underlying152
 a76 := Tryz.isAgg152
 z76 := Tryz.sizeOf152
 v76 := Tryz.zeroValue152
 t77 := Tryz.underlying153
 a77 := Tryz.isAgg153
 z77 := Tryz.sizeOf153
 v77 := Tryz.zeroValue153 }
end Go.Proofs


/- slices.SortFunc of files by their paths, out of the kit's contract: it turns a row of its caller's. -/
namespace Go.Proofs.YtjiddcchklaiiaaGreatDoor
set_option linter.unusedVariables false
set_option linter.unusedSimpArgs false
open Go Go.RowKit Go.Shelf Go.Sort
theorem filesOf1_calls (x y : KC 2) (W : World) : Calls Tryz.prog 25 #[.agg (encK x).toArray, .agg (encK y).toArray] W fun e w' => e = .returned (.int .i64 (cfK x y)) ∧ ∃ q os', w' = Sort.grow (W.drewN q) os' := by
 obtain ⟨⟨xs, xc⟩, hx1, hx2⟩ := x
 obtain ⟨⟨ys, yc⟩, hy1, hy2⟩ := y
 match xc, hx1, yc, hy1 with
 | [x1, x2], _, [y1, y2], _ =>
   have e1 : (Value.agg #[.string ⟨xs.toArray⟩, x1, x2]).cells = #[.string ⟨xs.toArray⟩, x1, x2] := rfl
   unfold cfK encK
   dsimp only
   rw [← compare_cf]
   go_enter Tryz.func25, Tryz.ntmps25
   go_wp2_with fail
   refine (Tryz.strings_Compare _ _ _).mono ?_
   rintro e w1 ⟨rfl, rfl⟩
   go_wp2_with fail
   all_goals go_ret
   all_goals exact ⟨by simp_all, 0, _, by rw [Sort.alloc_eq_grow, Sort.alloc_eq_grow, Sort.grow_grow]; rfl⟩
theorem aggF : ∀ w, (isAgg 62).run Tryz.prog w = .ok true w := by
 intro w; kernel_rfl
theorem sizeF : ∀ w, (Go.sizeOf 62).run Tryz.prog w = .ok 3 w := by
 intro w; kernel_rfl
def slices_SortFunc_file (_u : Unit) (xs : List τ2) : Option τ15 := sortK (fun p : Str × Bool × List UInt8 => p.1) xs
theorem z17sound : Sound Tryz.prog GW B0G 24 ⟨[.row 0, .v (.clo 25 .un)], [.row 62 τ4 true], [], [.row 62 τ4 true, .none], List τ2, fun z => ((), (z, ((), ()))), fun x y => slices_SortFunc_file x.2.1 y.1⟩ :=
 sortK_sound (t := .pr .bool τ17) Tryz.call24 (fun b cap d w hH hb hs => by
   have eg : ∀ args w, (callFunc 25 args).run Tryz.prog w = .ok (.enter 25 args) w := Tryz.call25
   exact AnyQ.slices_SortFunc Tryz.sortF 3 aggF sizeF encK encK_len encK_one cfK swo_cfK 25 #[] b 0 cap d w eg (fun _ _ _ _ x y => filesOf1_calls x y _) hH hb hs)
   (fun w => AnyF.slices_SortFunc_none Tryz.sortF none 0 _ w)
end Go.Proofs.YtjiddcchklaiiaaGreatDoor



/- slices.Delete of strings, out of the kit's contract: it turns a row of its caller's. -/
namespace Go.Proofs.YtjiddcchklaiiaaGreatDoor
set_option linter.unusedVariables false
set_option linter.unusedSimpArgs false
open Go Go.RowKit Go.Shelf
theorem els_str {M : Nat → Nat → Prop} {w : World} {xs : List Str} {cs : List Value} (hl : cs.length = xs.length) (h : Els M w .str xs cs) : cs = xs.map fun x => Value.string ⟨x.toArray⟩ := by
 apply List.ext_getElem
 · simpa using hl
 · intro i h1 h2
   have h3 : i < xs.length := by omega
   have := h i h3
   have e : (cs.drop (i * Ty.sz .str)).take (Ty.sz .str) = [cs[i]] := by
     show (cs.drop (i * 1)).take 1 = _
     rw [Nat.mul_one, List.drop_eq_getElem_cons h1]; rfl
   rw [e] at this
   have e2 : [cs[i]] = [Value.string ⟨xs[i].toArray⟩] := this
   rw [List.getElem_map]
   injection e2
theorem str_els {M : Nat → Nat → Prop} {w : World} (xs : List Str) : Els M w .str xs (xs.map fun x => Value.string ⟨x.toArray⟩) := fun i h => by
 have e : ((xs.map fun x => Value.string ⟨x.toArray⟩).drop (i * Ty.sz .str)).take (Ty.sz .str) = [Value.string ⟨xs[i].toArray⟩] := by
   show ((xs.map fun x => Value.string ⟨x.toArray⟩).drop (i * 1)).take 1 = _
   rw [Nat.mul_one, List.drop_eq_getElem_cons (by simpa using h), List.getElem_map]; rfl
 rw [e]
 rfl
end Go.Proofs.YtjiddcchklaiiaaGreatDoor



/-
 DERIVED: THE SHELF's CONTRACTS AT THIS DUMP, IN PLAIN WORDS (tools/lay-plain.mjs out of 'TryzShelfS.lean', which tools/lay-shelf.mjs wrote): THE SAME DECLARATIONS UNDER THE SAME NAMES: 'import', 'namespace', 'open', 'def', 'theorem' AND NOTHING ELSE: no command of the shelf's: FOR A HAND-IN. Each laying: the table of numbers ('.._ren') and one theorem, a field a fact of the dump's own or the kernel's comparison; each contract: ONE APPLICATION.
-/
namespace Go.Proofs
open Go.Shelf
def Tryz.sortS_ren : Go.Shelf.Ren := ⟨fun | 6 => 28 | 8 => 36 | 9 => 51 | 19 => 64 | 20 => 65 | 21 => 78 | 22 => 79 | 23 => 80 | 24 => 81 | 25 => 82 | 26 => 83 | 27 => 84 | 28 => 85 | 29 => 86 | 36 => 107 | 31 => 91 | 32 => 92 | 37 => 108 | 38 => 109 | 39 => 110 | 41 => 128 | n => n, fun | 27 => 31 | 29 => 9 | 3 => 3 | 32 => 84 | 26 => 31 | 0 => 0 | 44 => 114 | 46 => 85 | 4 => 4 | 36 => 108 | 35 => 107 | 41 => 95 | 5 => 5 | 9 => 9 | 53 => 131 | 57 => 135 | 63 => 152 | 64 => 153 | n => n, fun | n => n⟩
theorem Tryz.sortS : Go.Proofs.SlLaysM.n6 Tryz.prog Tryz.sortS_ren := {
 mixed := by kernel_rfl
 f6 := ⟨Tryz.f28.name, by decide, Tryz.func28.trans (congrArg some (by kernel_rfl))⟩
 f8 := Tryz.func36.trans (congrArg some (by kernel_rfl))
 f9 := ⟨Tryz.f51.name, by decide, Tryz.func51.trans (congrArg some (by kernel_rfl))⟩
 f19 := Tryz.func64.trans (congrArg some (by kernel_rfl))
 f20 := Tryz.func65.trans (congrArg some (by kernel_rfl))
 f21 := ⟨Tryz.f78.name, by decide, Tryz.func78.trans (congrArg some (by kernel_rfl))⟩
 f22 := ⟨Tryz.f79.name, by decide, Tryz.func79.trans (congrArg some (by kernel_rfl))⟩
 f23 := ⟨Tryz.f80.name, by decide, Tryz.func80.trans (congrArg some (by kernel_rfl))⟩
 f24 := ⟨Tryz.f81.name, by decide, Tryz.func81.trans (congrArg some (by kernel_rfl))⟩
 f25 := ⟨Tryz.f82.name, by decide, Tryz.func82.trans (congrArg some (by kernel_rfl))⟩
 f26 := ⟨Tryz.f83.name, by decide, Tryz.func83.trans (congrArg some (by kernel_rfl))⟩
 f27 := ⟨Tryz.f84.name, by decide, Tryz.func84.trans (congrArg some (by kernel_rfl))⟩
 f28 := ⟨Tryz.f85.name, by decide, Tryz.func85.trans (congrArg some (by kernel_rfl))⟩
 f29 := ⟨Tryz.f86.name, by decide, Tryz.func86.trans (congrArg some (by kernel_rfl))⟩
 f31 := Tryz.func91.trans (congrArg some (by kernel_rfl))
 f32 := Tryz.func92.trans (congrArg some (by kernel_rfl))
 f36 := ⟨Tryz.f107.name, by decide, Tryz.func107.trans (congrArg some (by kernel_rfl))⟩
 f37 := ⟨Tryz.f108.name, by decide, Tryz.func108.trans (congrArg some (by kernel_rfl))⟩
 f38 := ⟨Tryz.f109.name, by decide, Tryz.func109.trans (congrArg some (by kernel_rfl))⟩
 f39 := ⟨Tryz.f110.name, by decide, Tryz.func110.trans (congrArg some (by kernel_rfl))⟩
 f41 := ⟨Tryz.f128.name, by decide, Tryz.func128.trans (congrArg some (by kernel_rfl))⟩
 t0 := Tryz.underlying0
 a0 := Tryz.isAgg0
 z0 := Tryz.sizeOf0
 v0 := Tryz.zeroValue0
 t3 := Tryz.underlying3
 a3 := Tryz.isAgg3
 z3 := Tryz.sizeOf3
 v3 := Tryz.zeroValue3
 t4 := Tryz.underlying4
 a4 := Tryz.isAgg4
 z4 := Tryz.sizeOf4
 v4 := Tryz.zeroValue4
 t5 := Tryz.underlying5
 a5 := Tryz.isAgg5
 z5 := Tryz.sizeOf5
 v5 := Tryz.zeroValue5
 t9 := Tryz.underlying9
 a9 := Tryz.isAgg9
 z9 := Tryz.sizeOf9
 v9 := Tryz.zeroValue9
 t26 := Tryz.underlying31
 a26 := Tryz.isAgg31
 z26 := Tryz.sizeOf31
 v26 := Tryz.zeroValue31
 t27 := Tryz.underlying31
 a27 := Tryz.isAgg31
 z27 := Tryz.sizeOf31
 v27 := Tryz.zeroValue31
 t29 := Tryz.underlying9
 a29 := Tryz.isAgg9
 z29 := Tryz.sizeOf9
 v29 := Tryz.zeroValue9
 t32 := Tryz.underlying84
 a32 := Tryz.isAgg84
 z32 := Tryz.sizeOf84
 v32 := Tryz.zeroValue84
 t35 := Tryz.underlying107
 a35 := Tryz.isAgg107
 z35 := Tryz.sizeOf107
 v35 := Tryz.zeroValue107
 t36 := Tryz.underlying108
 a36 := Tryz.isAgg108
 z36 := Tryz.sizeOf108
 v36 := Tryz.zeroValue108
 t41 := Tryz.underlying95
 a41 := Tryz.isAgg95
 z41 := Tryz.sizeOf95
 v41 := Tryz.zeroValue95
 t44 := Tryz.underlying114
 a44 := Tryz.isAgg114
 z44 := Tryz.sizeOf114
 v44 := Tryz.zeroValue114
 t46 := Tryz.underlying85
 a46 := Tryz.isAgg85
 z46 := Tryz.sizeOf85
 v46 := Tryz.zeroValue85
 t53 := Tryz.underlying131
 a53 := Tryz.isAgg131
 z53 := Tryz.sizeOf131
 v53 := Tryz.zeroValue131
 t57 := Tryz.underlying135
 a57 := Tryz.isAgg135
 z57 := Tryz.sizeOf135
 v57 := Tryz.zeroValue135
 t63 := Tryz.underlying152
 a63 := Tryz.isAgg152
 z63 := Tryz.sizeOf152
 v63 := Tryz.zeroValue152
 t64 := Tryz.underlying153
 a64 := Tryz.isAgg153
 z64 := Tryz.sizeOf153
 v64 := Tryz.zeroValue153 }
end Go.Proofs


/- slices.Sort of strings, out of the kit's contract: it turns a row of its caller's. -/
namespace Go.Proofs.YtjiddcchklaiiaaGreatDoor
set_option linter.unusedVariables false
set_option linter.unusedSimpArgs false
open Go Go.RowKit Go.Shelf
def leStr (x y : Str) : Bool := decide (x ≤ y)
def slices_Sort_string_string (xs : List Str) : Option (List Str) := if xs.length < 4611686018427387904 then some (xs.mergeSort leStr) else none
theorem z9sound : Sound Tryz.prog GW B0G 28 ⟨[.row 0], [.row 9 .str true], [], [.row 9 .str true, .none], List Str, fun z => ((), (z, ((), ()))), fun x y => slices_Sort_string_string y.1⟩ := by
 refine Sound.ofRowKept (ps := []) (t := .str) (F := fun x xs => slices_Sort_string_string xs) Tryz.call28 (by decide) fun M w g v0 vs x xs zs cs hG hMl hM hown hels hA hz => ?_
 match vs, hA with
 | [], hA =>
   change slices_Sort_string_string xs = some zs at hz
   unfold slices_Sort_string_string at hz
   split at hz
   case isFalse => cases hz
   rename_i hbig
   injection hz with hz
   have hl := hown.1
   have hl' : cs.length = xs.length := by rw [hl]; exact Nat.mul_one _
   have hcs := els_str hl' hels
   have hzl : zs.length = xs.length := by rw [← hz]; exact List.length_mergeSort _
   rcases hown.2 with ⟨e1, e2⟩ | ⟨b, cap, cur, e1, _, hg, hle, hmax, hsz, htk⟩
   · have hx0 : xs = [] := List.eq_nil_of_length_eq_zero e2
     subst hx0 e1
     refine (AnyM.slices_Sort_string_none Tryz.sortS none 0 w).mono fun e w' hp => ?_
     obtain ⟨rfl, rfl⟩ := hp
     have hz0 : zs = [] := List.eq_nil_of_length_eq_zero hzl
     subst hz0
     exact ⟨[], rfl, ExtX.refl _ _, ⟨rfl, .inl ⟨rfl, rfl⟩⟩, fun i h => absurd h (Nat.not_lt_zero _)⟩
   · subst e1
     have hsz' : cur.size = cap := by rw [hsz]; exact Nat.mul_one _
     have htk' : cur.toList.take xs.length = xs.map fun x => Value.string ⟨x.toArray⟩ := by rw [← hcs, ← htk]; congr 1; exact (Nat.mul_one _).symm
     have hb : b < w.heap.size := by
       apply Classical.byContradiction
       intro hn
       rw [Array.getElem?_eq_none (by omega)] at hg
       cases hg
     have hH : Sort.Holds encStr w b 0 xs.toArray := fun k hk => by
       have hk : k < xs.length := by simpa using hk
       have h1 : cur.toList[k]? = some (Value.string ⟨xs[k].toArray⟩) := by
         have := congrArg (fun l => l[k]?) htk'
         simp only [List.getElem?_take, hk, if_true, List.getElem?_map, List.getElem?_eq_getElem hk, Option.map_some] at this
         exact this
       refine ⟨?_, by unfold World.frozen?; rw [hg]; simp⟩
       rw [Nat.zero_add]
       have e : encStr xs.toArray[k]! = Value.string ⟨xs[k].toArray⟩ := by simp [encStr, hk]
       rw [e]
       unfold World.cell?
       rw [hg]
       simpa using h1
     refine (AnyM.slices_Sort_string Tryz.sortS b 0 cap xs w hH hb hbig).mono fun e w' hp => ?_
     obtain ⟨rfl, n, os, rfl⟩ := hp
     have ez : (xs.mergeSort fun x y => decide (x ≤ y)) = zs := hz
     rw [ez]
     refine ⟨zs.map fun x => Value.string ⟨x.toArray⟩, rfl, (sortW_ext encStr).mono (fun k hk => by simpa [Value.ownBlock] using hk), ⟨by rw [List.length_map]; exact (Nat.mul_one _).symm, .inr ⟨b, cap, _, by rw [hzl], Nat.zero_le _, sortW_block encStr hg, by omega, hmax, ?_, ?_⟩⟩, str_els _⟩
     · rw [putCells_size]; exact hsz
     · rw [show zs.length * Ty.sz .str = zs.length from Nat.mul_one _]
       exact putCells_take encStr zs cur (by omega)
end Go.Proofs.YtjiddcchklaiiaaGreatDoor


