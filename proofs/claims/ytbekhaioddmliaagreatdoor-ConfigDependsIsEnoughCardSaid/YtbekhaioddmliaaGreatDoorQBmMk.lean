/- What functions of the program compute, as plain functions (printed). -/
import Derived.Test.YtbekhaioddmliaaGreatDoorQZeF14
import Derived.Test.YtbekhaioddmliaaGreatDoorQBmI
import Derived.Shelf.SlGeneric
import Derived.Shelf.SlIter.Nil
import Derived.Ground.GgzProg
import Derived.Test.YtbekhaioddmliaaGreatDoorProg
import Derived.Test.YtbekhaioddmliaaGreatDoorQZeF11
namespace Go.Proofs.YtbekhaioddmliaaGreatDoor
open Go Go.RowKit
set_option maxRecDepth 100000
set_option linter.unusedVariables false
noncomputable section
def z29L0T (_N : Nat) (c9 : List τ18) (c10 : Int) (k0 : Int → Option τ18) (self : Int → Int → Option τ18) (s3 : Int) (s11 : Int) : Option τ18 :=
 br (decide (s11 < c10))
   (bnd (geti c9 s11) fun t13 =>
   br (decide ((IntKind.i64.wrap (s3 + (t13.length : Int))) < (0 : Int)))
     none
     (self (IntKind.i64.wrap (s3 + (t13.length : Int))) (IntKind.i64.wrap (s11 + (1 : Int)))))
   (k0 s3)
def z29L0 (N : Nat) (c9 : List τ18) (c10 : Int) (k0 : Int → Option τ18) : Nat → Int → Int → Option τ18
 | 0, _, _ => none
 | n + 1, s3, s11 => z29L0T N c9 c10 k0 (z29L0 N c9 c10 k0 n) s3 s11
def z29L1T (_N : Nat) (x0 : List τ18) (c26 : Int) (k2 : τ18 → Option τ18) (self : Int → τ18 → Option τ18) (s27 : Int) (w102400 : List τ3) : Option τ18 :=
 br (decide (s27 < c26))
   (bnd (geti x0 s27) fun t29 =>
   br (decide ((w102400.length + t29.length) * (24 * Ty.sz τ2) ≤ 140737488355328))
     (self (IntKind.i64.wrap (s27 + (1 : Int))) (w102400 ++ t29))
     none)
   (k2 w102400)
def z29L1 (N : Nat) (x0 : List τ18) (c26 : Int) (k2 : τ18 → Option τ18) : Nat → Int → τ18 → Option τ18
 | 0, _, _ => none
 | n + 1, s27, w102400 => z29L1T N x0 c26 k2 (z29L1 N x0 c26 k2 n) s27 w102400
def slices_Concat_api_Attr (N : Nat) (x0 : List τ18) : Option τ18 :=
 z29L0 N x0 (x0.length : Int) (fun o0_3 =>
     bnd (slices_Grow_api_Attr o0_3) fun t24 =>
     z29L1 N x0 (x0.length : Int) (fun o1_w102400 =>
         some o1_w102400) N (0 : Int) t24) N (0 : Int) (0 : Int)
abbrev z29sg (f : SV [.v (.sl (.sl τ2))] → BV [] → Option τ18) : AF := { ps := [.v (.sl (.sl τ2))], bs := [], rs := [.row 0], cs := [.row 102 τ2 false], R := List τ3, out := fun z => (((), ()), (z, ())), f := f }
noncomputable abbrev z29g (N : Nat) : AF := z29sg fun x _ => slices_Concat_api_Attr N x.1
abbrev z29pk : SV [.row 0] → BV [.row 102 τ2 false] → τ18 := fun _ y => y.1
def z29fn (_N : Nat) : FuncId → Option Tmp → Option AF := fun f _ =>
 match f with
   | 181 => some (z37sg fun x _ => slices_Grow_api_Attr x.2.1)
   | _ => none
theorem z29fn_ok (N : Nat) : FnOk (z29fn N) := by
 intro f q F h
 unfold z29fn at h
 split at h
 · cases h; exact z37sound
 · cases h
def z29h : Nat → Hint := fun i =>
 match i with
 | 0 => ⟨[], [0, 3, 9, 10, 11], [], [0, 3], [], []⟩
 | 2 => ⟨[], [6, 25, 26, 27], [102400], [6], [102400], []⟩
 | _ => hint0
abbrev z29E (N : Nat) : Env := mkE z29h (z29fn N) FF FF
noncomputable abbrev z29c1 : Code := cAt (bodyOf Tryz.f115) [true, true, false, true, false, false]
noncomputable abbrev z29c0 : Code := cAt (bodyOf Tryz.f115) [true, true, true, true, false, true, false, false]
noncomputable abbrev z29R (N : Nat) := resD (z29E N) Tryz.f115 (z29g N) z29pk
abbrev z29L0_fs : List (Nat × Sl) := [(0, .v (.sl (.sl τ2))), (3, .v τ5), (9, .v (.sl (.sl τ2))), (10, .v τ5), (11, .v τ5)]
abbrev z29L0_bs : List (Nat × Sb) := []
def z29L0_hd (x0 : List τ18) (c9 : List τ18) (c10 : Int) (s3 : Int) (s11 : Int) : St := ⟨36, [(0, .v (.sl (.sl τ2)) x0), (3, .v τ5 s3), (9, .v (.sl (.sl τ2)) c9), (10, .v τ5 c10), (11, .v τ5 s11)], []⟩
def z29L0_tl0 (x0 : List τ18) (_c9 : List τ18) (_c10 : Int) (o0_3 : Int) : St := ⟨36, [(0, .v (.sl (.sl τ2)) x0), (3, .v τ5 o0_3)], []⟩
def z29L0_G (N : Nat) (x0 : List τ18) (c9 : List τ18) (c10 : Int) (s3 : Int) (s11 : Int) (k : Ex → St → Option τ18) : Option τ18 :=
 z29L0 N c9 c10 (fun o0_3 => k (.exit 0) (z29L0_tl0 x0 c9 c10 o0_3)) N s3 s11
abbrev z29L0_F (N : Nat) : FV z29L0_fs → HV z29L0_bs → (Ex → St → Option τ18) → Option τ18 := fun x _ k => z29L0_G N x.1 x.2.2.1 x.2.2.2.1 x.2.1 x.2.2.2.2.1 k
abbrev z29L1_fs : List (Nat × Sl) := [(6, .row 102400), (25, .v (.sl (.sl τ2))), (26, .v τ5), (27, .v τ5)]
abbrev z29L1_bs : List (Nat × Sb) := [(102400, .row 102 τ2 false)]
def z29L1_hd (x0 : List τ18) (c26 : Int) (s27 : Int) (w102400 : List τ3) : St := ⟨36, [(6, .row 102400), (25, .v (.sl (.sl τ2)) x0), (26, .v τ5 c26), (27, .v τ5 s27)], [(102400, .row 102 τ2 false w102400)]⟩
def z29L1_tl2 (_x0 : List τ18) (_c26 : Int) (o1_w102400 : List τ3) : St := ⟨36, [(6, .row 102400)], [(102400, .row 102 τ2 false o1_w102400)]⟩
def z29L1_G (N : Nat) (x0 : List τ18) (c26 : Int) (s27 : Int) (w102400 : List τ3) (k : Ex → St → Option τ18) : Option τ18 :=
 z29L1 N x0 c26 (fun o1_w102400 => k (.exit 2) (z29L1_tl2 x0 c26 o1_w102400)) N s27 w102400
abbrev z29L1_F (N : Nat) : FV z29L1_fs → HV z29L1_bs → (Ex → St → Option τ18) → Option τ18 := fun x y k => z29L1_G N x.2.1 x.2.2.1 x.2.2.2.1 y.1 k
noncomputable def z29LP (N : Nat) : Nat → Code → St → (Ex → St → Option τ18) → Option τ18 := fun i c =>
 match i with
 | 0 => (LPc 36 z29L0_fs z29L0_bs (z29L0_F N) (fun st k => iter (z29h 0) (exec (z29E N) N c 0) N st k))
 | 2 => (LPc 36 z29L1_fs z29L1_bs (z29L1_F N) (fun st k => iter (z29h 2) (exec (z29E N) N c 2) N st k))
 | i => fun st k => iter (z29h i) (exec (z29E N) N c i) N st k
theorem z29L1_step (N : Nat) (x0 : List τ18) (c26 : Int) (KX : Nat → St → Option τ18) (I : St → Option τ18) (s27 : Int) (w102400 : List τ3) :
   execL (z29LP N) (z29E N) z29c0 2 (z29L1_hd x0 c26 s27 w102400) (roundK (z29h 2) I KX (z29R N)) = z29L1T N x0 c26 (fun o1_w102400 => KX 2 (z29L1_tl2 x0 c26 o1_w102400)) (fun s27 w102400 => I (z29L1_hd x0 c26 s27 w102400)) s27 w102400 := by kernel_rfl
theorem z29L1_ok (N : Nat) : ∀ x y k, (∀ st, k .ret st = (z29R N) st) → iter (z29h 2) (exec (z29E N) N z29c0 2) N ⟨36, unF z29L1_fs x, unH z29L1_bs y⟩ k = z29L1_F N x y k := fun x y k hk =>
 iter_link (S := (Int) × τ18 × Unit) (z29h 2) _ (execL (z29LP N) (z29E N) z29c0 2) (z29R N) (fun st k hk => execL_eq _ _ N _ z29c0 2 (show LoopsOk (z29LP N) (z29E N) N (z29R N) [] from trivial) st k hk) (fun s => z29L1_hd x.2.1 x.2.2.1 s.1 s.2.1) k hk
   (fun self s => z29L1T N x.2.1 x.2.2.1 (fun o1_w102400 => k (.exit 2) (z29L1_tl2 x.2.1 x.2.2.1 o1_w102400)) (fun s27 w102400 => self (s27, w102400, ())) s.1 s.2.1) (fun n s => z29L1 N x.2.1 x.2.2.1 (fun o1_w102400 => k (.exit 2) (z29L1_tl2 x.2.1 x.2.2.1 o1_w102400)) n s.1 s.2.1) (fun _ => rfl) (fun _ _ => rfl)
   (fun I s => z29L1_step N x.2.1 x.2.2.1 (fun j => k (.exit j)) I s.1 s.2.1) N (x.2.2.2.1, y.1, ())
theorem z29lp2 (N : Nat) : ∀ st k, (∀ st, k .ret st = (z29R N) st) → z29LP N 2 z29c0 st k = iter (Env.hint (z29E N) 2) (exec (z29E N) N z29c0 2) N st k := fun st k hk => LPc_eq 36 z29L1_fs z29L1_bs _ _ (z29R N) (z29L1_ok N) _ st k hk (rfl)
theorem z29L0_step (N : Nat) (x0 : List τ18) (c9 : List τ18) (c10 : Int) (KX : Nat → St → Option τ18) (I : St → Option τ18) (s3 : Int) (s11 : Int) :
   execL (z29LP N) (z29E N) z29c1 0 (z29L0_hd x0 c9 c10 s3 s11) (roundK (z29h 0) I KX (z29R N)) = z29L0T N c9 c10 (fun o0_3 => KX 0 (z29L0_tl0 x0 c9 c10 o0_3)) (fun s3 s11 => I (z29L0_hd x0 c9 c10 s3 s11)) s3 s11 := by kernel_rfl
theorem z29L0_ok (N : Nat) : ∀ x y k, (∀ st, k .ret st = (z29R N) st) → iter (z29h 0) (exec (z29E N) N z29c1 0) N ⟨36, unF z29L0_fs x, unH z29L0_bs y⟩ k = z29L0_F N x y k := fun x _ k hk =>
 iter_link (S := (Int) × (Int) × Unit) (z29h 0) _ (execL (z29LP N) (z29E N) z29c1 0) (z29R N) (fun st k hk => execL_eq _ _ N _ z29c1 0 (show LoopsOk (z29LP N) (z29E N) N (z29R N) [] from trivial) st k hk) (fun s => z29L0_hd x.1 x.2.2.1 x.2.2.2.1 s.1 s.2.1) k hk
   (fun self s => z29L0T N x.2.2.1 x.2.2.2.1 (fun o0_3 => k (.exit 0) (z29L0_tl0 x.1 x.2.2.1 x.2.2.2.1 o0_3)) (fun s3 s11 => self (s3, s11, ())) s.1 s.2.1) (fun n s => z29L0 N x.2.2.1 x.2.2.2.1 (fun o0_3 => k (.exit 0) (z29L0_tl0 x.1 x.2.2.1 x.2.2.2.1 o0_3)) n s.1 s.2.1) (fun _ => rfl) (fun _ _ => rfl)
   (fun I s => z29L0_step N x.1 x.2.2.1 x.2.2.2.1 (fun j => k (.exit j)) I s.1 s.2.1) N (x.2.1, x.2.2.2.2.1, ())
theorem z29lp0 (N : Nat) : ∀ st k, (∀ st, k .ret st = (z29R N) st) → z29LP N 0 z29c1 st k = iter (Env.hint (z29E N) 0) (exec (z29E N) N z29c1 0) N st k := fun st k hk => LPc_eq 36 z29L0_fs z29L0_bs _ _ (z29R N) (z29L0_ok N) _ st k hk (rfl)
theorem z29core (N : Nat) (x : SV [.v (.sl (.sl τ2))]) (y : BV []) : runL (z29E N) Tryz.f115 (z29g N) z29pk (z29LP N) x y = slices_Concat_api_Attr N x.1 := by kernel_rfl
theorem z29sound (N : Nat) : Snd 115 (z29g N) :=
 sndL (z29fn_ok N) Tryz.func115 rfl Tryz.call115 (z29g N) z29pk (fun _ _ => rfl) N (z29LP N) (show LoopsOk (z29LP N) (z29E N) N (z29R N) [(0, z29c1), (2, z29c0)] from ⟨z29lp0 N, z29lp2 N, trivial⟩) (z29core N)
def z96L0T (_N : Nat) (x1 : Str) (c9 : List τ3) (c10 : Int) (k0 : Option (GValue × Bool)) (self : Int → Option (GValue × Bool)) (s11 : Int) : Option (GValue × Bool) :=
 br (decide (s11 < c10))
   (bnd (geti c9 s11) fun t13 =>
   br (t13.1 == x1)
     (some (GValue.mk t13.2.kind t13.2.text t13.2.number t13.2.list t13.2.cases, true))
     (self (IntKind.i64.wrap (s11 + (1 : Int)))))
   (k0)
def z96L0 (N : Nat) (x1 : Str) (c9 : List τ3) (c10 : Int) (k0 : Option (GValue × Bool)) : Nat → Int → Option (GValue × Bool)
 | 0, _ => none
 | n + 1, s11 => z96L0T N x1 c9 c10 k0 (z96L0 N x1 c9 c10 k0 n) s11
def ref2_attr (N : Nat) (x0 : Str × Str × List τ3) (x1 : Str) : Option (GValue × Bool) :=
 z96L0 N x1 x0.2.2 (x0.2.2.length : Int) (some (GValue.mk (0 : Int) ([] : Str) (0 : Int) ([] : List Str) ([] : List τ3), false)) N (0 : Int)
abbrev z96sg (f : SV [.v τ10, .v .str] → BV [] → Option (GValue × Bool)) : AF := { ps := [.v τ10, .v .str], bs := [], rs := [.v τ14, .v .bool], cs := [], R := GValue × Bool, out := fun z => ((z.1, z.2, ()), ()), f := f }
noncomputable abbrev z96g (N : Nat) : AF := z96sg fun x _ => ref2_attr N x.1 x.2.1
abbrev z96pk : SV [.v τ14, .v .bool] → BV [] → (GValue × Bool) := fun x _ => (x.1, x.2.1)
def z96fn (_N : Nat) : FuncId → Option Tmp → Option AF := fun f _ =>
 match f with
   | _ => none
theorem z96fn_ok (N : Nat) : FnOk (z96fn N) := by
 intro f q F h
 unfold z96fn at h
 split at h
 · cases h
def z96h : Nat → Hint := fun i =>
 match i with
 | 0 => ⟨[], [1, 4, 9, 10, 11], [1004], [4], [1004], []⟩
 | _ => hint0
abbrev z96E (N : Nat) : Env := mkE z96h (z96fn N) FF FF
noncomputable abbrev z96c0 : Code := cAt (bodyOf Tryz.f116) [true, false, true, false, false]
noncomputable abbrev z96R (N : Nat) := resD (z96E N) Tryz.f116 (z96g N) z96pk
abbrev z96L0_fs : List (Nat × Sl) := [(1, .v .str), (4, .box 1004 0), (9, .v (.sl τ2)), (10, .v τ5), (11, .v τ5)]
abbrev z96L0_bs : List (Nat × Sb) := [(1004, .cells [.v τ5, .v .str, .v τ5, .nilS, .nilS])]
def z96L0_hd (x1 : Str) (c9 : List τ3) (c10 : Int) (κ4_0 : Int) (κ4_1 : Str) (κ4_2 : Int) (s11 : Int) : St := ⟨23, [(1, .v .str x1), (4, .box 1004 0), (9, .v (.sl τ2) c9), (10, .v τ5 c10), (11, .v τ5 s11)], [(1004, .cells [.v τ5 κ4_0, .v .str κ4_1, .v τ5 κ4_2, .nilS, .nilS])]⟩
def z96L0_tl0 (_x1 : Str) (_c9 : List τ3) (_c10 : Int) (κ4_0 : Int) (κ4_1 : Str) (κ4_2 : Int) : St := ⟨23, [(4, .box 1004 0)], [(1004, .cells [.v τ5 κ4_0, .v .str κ4_1, .v τ5 κ4_2, .nilS, .nilS])]⟩
def z96L0_G (N : Nat) (x1 : Str) (c9 : List τ3) (c10 : Int) (κ4_0 : Int) (κ4_1 : Str) (κ4_2 : Int) (s11 : Int) (k : Ex → St → Option (GValue × Bool)) : Option (GValue × Bool) :=
 z96L0 N x1 c9 c10 (k (.exit 0) (z96L0_tl0 x1 c9 c10 κ4_0 κ4_1 κ4_2)) N s11
abbrev z96L0_F (N : Nat) : FV z96L0_fs → HV z96L0_bs → (Ex → St → Option (GValue × Bool)) → Option (GValue × Bool) := fun x y k => z96L0_G N x.1 x.2.2.1 x.2.2.2.1 y.1.1 y.1.2.1 y.1.2.2.1 x.2.2.2.2.1 k
noncomputable def z96LP (N : Nat) : Nat → Code → St → (Ex → St → Option (GValue × Bool)) → Option (GValue × Bool) := fun i c =>
 match i with
 | 0 => (LPc 23 z96L0_fs z96L0_bs (z96L0_F N) (fun st k => iter (z96h 0) (exec (z96E N) N c 0) N st k))
 | i => fun st k => iter (z96h i) (exec (z96E N) N c i) N st k
theorem z96L0_step (N : Nat) (x1 : Str) (c9 : List τ3) (c10 : Int) (κ4_0 : Int) (κ4_1 : Str) (κ4_2 : Int) (KX : Nat → St → Option (GValue × Bool)) (I : St → Option (GValue × Bool)) (s11 : Int) :
   execL (z96LP N) (z96E N) z96c0 0 (z96L0_hd x1 c9 c10 κ4_0 κ4_1 κ4_2 s11) (roundK (z96h 0) I KX (z96R N)) = z96L0T N x1 c9 c10 (KX 0 (z96L0_tl0 x1 c9 c10 κ4_0 κ4_1 κ4_2)) (fun s11 => I (z96L0_hd x1 c9 c10 κ4_0 κ4_1 κ4_2 s11)) s11 := by kernel_rfl
theorem z96L0_ok (N : Nat) : ∀ x y k, (∀ st, k .ret st = (z96R N) st) → iter (z96h 0) (exec (z96E N) N z96c0 0) N ⟨23, unF z96L0_fs x, unH z96L0_bs y⟩ k = z96L0_F N x y k := fun x y k hk =>
 iter_link (S := (Int) × Unit) (z96h 0) _ (execL (z96LP N) (z96E N) z96c0 0) (z96R N) (fun st k hk => execL_eq _ _ N _ z96c0 0 (show LoopsOk (z96LP N) (z96E N) N (z96R N) [] from trivial) st k hk) (fun s => z96L0_hd x.1 x.2.2.1 x.2.2.2.1 y.1.1 y.1.2.1 y.1.2.2.1 s.1) k hk
   (fun self s => z96L0T N x.1 x.2.2.1 x.2.2.2.1 (k (.exit 0) (z96L0_tl0 x.1 x.2.2.1 x.2.2.2.1 y.1.1 y.1.2.1 y.1.2.2.1)) (fun s11 => self (s11, ())) s.1) (fun n s => z96L0 N x.1 x.2.2.1 x.2.2.2.1 (k (.exit 0) (z96L0_tl0 x.1 x.2.2.1 x.2.2.2.1 y.1.1 y.1.2.1 y.1.2.2.1)) n s.1) (fun _ => rfl) (fun _ _ => rfl)
   (fun I s => z96L0_step N x.1 x.2.2.1 x.2.2.2.1 y.1.1 y.1.2.1 y.1.2.2.1 (fun j => k (.exit j)) I s.1) N (x.2.2.2.2.1, ())
theorem z96lp0 (N : Nat) : ∀ st k, (∀ st, k .ret st = (z96R N) st) → z96LP N 0 z96c0 st k = iter (Env.hint (z96E N) 0) (exec (z96E N) N z96c0 0) N st k := fun st k hk => LPc_eq 23 z96L0_fs z96L0_bs _ _ (z96R N) (z96L0_ok N) _ st k hk (rfl)
theorem z96core (N : Nat) (x : SV [.v τ10, .v .str]) (y : BV []) : runL (z96E N) Tryz.f116 (z96g N) z96pk (z96LP N) x y = ref2_attr N x.1 x.2.1 := by kernel_rfl
theorem z96sound (N : Nat) : Snd 116 (z96g N) :=
 sndL (z96fn_ok N) Tryz.func116 rfl Tryz.call116 (z96g N) z96pk (fun _ _ => rfl) N (z96LP N) (show LoopsOk (z96LP N) (z96E N) N (z96R N) [(0, z96c0)] from ⟨z96lp0 N, trivial⟩) (z96core N)
def z60L0T (_N : Nat) (c21 : Int) (t20 : List τ3) (k0 : τ25 → Option τ25) (self : Int → τ25 → Option τ25) (s22 : Int) (w1005 : List Str) : Option τ25 :=
 br (decide (s22 < c21))
   (bnd (geti t20 s22) fun t24 =>
   br (decide ((w1005.length + [t24.1].length) * (24 * Ty.sz .str) ≤ 140737488355328))
     (self (IntKind.i64.wrap (s22 + (1 : Int))) (w1005 ++ [t24.1]))
     none)
   (k0 w1005)
def z60L0 (N : Nat) (c21 : Int) (t20 : List τ3) (k0 : τ25 → Option τ25) : Nat → Int → τ25 → Option τ25
 | 0, _, _ => none
 | n + 1, s22, w1005 => z60L0T N c21 t20 k0 (z60L0 N c21 t20 k0 n) s22 w1005
def z60L1T (N : Nat) (c44 : Int) (c1002_0_1 : Str) (c1002_1_2 : Str) (c1002_2_3 : List τ3) (c1003_0_4 : Str) (c1003_1_5 : Str) (c1003_2_6 : List τ3) (t43 : List Str) (k2 : τ25 → Option τ25) (self : Int → τ25 → Option τ25) (s45 : Int) (w1006 : List Str) : Option τ25 :=
 br (decide (s45 < c44))
   (br (decide (0 ≤ s45 ∧ s45 < (t43.length : Int)))
     (bnd (geti t43 s45) fun t48 =>
     bnd (ref2_attr N (c1002_0_1, (c1002_1_2, c1002_2_3)) t48) fun t52 =>
     bnd (ref2_attr N (c1003_0_4, (c1003_1_5, c1003_2_6)) t48) fun t58 =>
     br (t52.2 != t58.2)
       (br (decide ((w1006.length + [t48].length) * (24 * Ty.sz .str) ≤ 140737488355328))
         (self (IntKind.i64.wrap (s45 + (1 : Int))) (w1006 ++ [t48]))
         none)
       (bnd (ref2_SameValue N N (GValue.mk t52.1.kind t52.1.text t52.1.number t52.1.list t52.1.cases) (GValue.mk t58.1.kind t58.1.text t58.1.number t58.1.list t58.1.cases)) fun t67 =>
       br (!t67)
         (br (decide ((w1006.length + [t48].length) * (24 * Ty.sz .str) ≤ 140737488355328))
           (self (IntKind.i64.wrap (s45 + (1 : Int))) (w1006 ++ [t48]))
           none)
         (self (IntKind.i64.wrap (s45 + (1 : Int))) w1006)))
     none)
   (k2 w1006)
def z60L1 (N : Nat) (c44 : Int) (c1002_0_1 : Str) (c1002_1_2 : Str) (c1002_2_3 : List τ3) (c1003_0_4 : Str) (c1003_1_5 : Str) (c1003_2_6 : List τ3) (t43 : List Str) (k2 : τ25 → Option τ25) : Nat → Int → τ25 → Option τ25
 | 0, _, _ => none
 | n + 1, s45, w1006 => z60L1T N c44 c1002_0_1 c1002_1_2 c1002_2_3 c1003_0_4 c1003_1_5 c1003_2_6 t43 k2 (z60L1 N c44 c1002_0_1 c1002_1_2 c1002_2_3 c1003_0_4 c1003_1_5 c1003_2_6 t43 k2 n) s45 w1006
def ref2_otherAttrs (N : Nat) (x0 : Str × Str × List τ3) (x1 : Str × Str × List τ3) : Option τ25 :=
 bnd (slices_Concat_api_Attr N [x0.2.2, x1.2.2]) fun t20 =>
 z60L0 N (t20.length : Int) t20 (fun o0_w1005 =>
     bnd (slices_Sort_string_string o0_w1005) fun t33 =>
     br (!(x0.2.1 == x1.2.1))
       (br (decide ((([] : List Str).length + [([107, 105, 110, 100] : Str)].length) * (24 * Ty.sz .str) ≤ 140737488355328))
         (bnd (slices_Compact_string_string t33) fun t43 =>
         z60L1 N (t43.length : Int) x0.1 x0.2.1 x0.2.2 x1.1 x1.2.1 x1.2.2 t43 (fun o1_w1006 =>
             some o1_w1006) N (0 : Int) (([] : List Str) ++ [([107, 105, 110, 100] : Str)]))
         none)
       (bnd (slices_Compact_string_string t33) fun t43_7 =>
       z60L1 N (t43_7.length : Int) x0.1 x0.2.1 x0.2.2 x1.1 x1.2.1 x1.2.2 t43_7 (fun o1_w1006 =>
           some o1_w1006) N (0 : Int) ([] : List Str))) N (0 : Int) ([] : List Str)
abbrev z60sg (f : SV [.v τ10, .v τ10] → BV [] → Option τ25) : AF := { ps := [.v τ10, .v τ10], bs := [], rs := [.row 0], cs := [.row 9 .str true], R := List Str, out := fun z => (((), ()), (z, ())), f := f }
noncomputable abbrev z60g (N : Nat) : AF := z60sg fun x _ => ref2_otherAttrs N x.1 x.2.1
abbrev z60pk : SV [.row 0] → BV [.row 9 .str true] → τ25 := fun _ y => y.1
def z60fn (N : Nat) : FuncId → Option Tmp → Option AF := fun f _ =>
 match f with
   | 10 => some (z66sg fun x _ => ref2_SameValue N N x.1 x.2.1)
   | 57 => some (z24sg fun _ y => slices_Sort_string_string y.1)
   | 72 => some (z10sg fun _ y => slices_Compact_string_string y.1)
   | 115 => some (z29g N)
   | 116 => some (z96g N)
   | _ => none
theorem z60fn_ok (N : Nat) : FnOk (z60fn N) := by
 intro f q F h
 unfold z60fn at h
 split at h
 · cases h; exact z66sound N N
 · cases h; exact z24sound
 · cases h; exact z10sound
 · cases h; exact z29sound N
 · cases h; exact z96sound N
 · cases h
def z60h : Nat → Hint := fun i =>
 match i with
 | 0 => ⟨[], [2, 3, 5, 6, 20, 21, 22], [1002, 1003, 1005, 1006, 102000], [2, 3, 5, 6], [1002, 1003, 1005, 1006], []⟩
 | 2 => ⟨[], [2, 3, 6, 43, 44, 45], [1002, 1003, 1005, 1006], [6], [1006], []⟩
 | _ => hint0
abbrev z60E (N : Nat) : Env := mkE z60h (z60fn N) (fun i => match i with | 4 => true | 5 => true | 6 => true | 10 => true | 12 => true | 14 => true | 19 => true | 21 => true | 29 => true | 30 => true | 40 => true | 41 => true | 44 => true | 72 => true | 73 => true | _ => false) (fun _ => false)
noncomputable abbrev z60c1 : Code := cAt (bodyOf Tryz.f63) [true, true, false, true, false, false]
noncomputable abbrev z60c0 : Code := cAt (bodyOf Tryz.f63) [true, true, true, true, true, false, true, false, false]
noncomputable abbrev z60R (N : Nat) := resD (z60E N) Tryz.f63 (z60g N) z60pk
abbrev z60L0_fs : List (Nat × Sl) := [(2, .box 1002 0), (3, .box 1003 0), (5, .row 1005), (6, .row 1006), (20, .row 102000), (21, .v τ5), (22, .v τ5)]
abbrev z60L0_bs : List (Nat × Sb) := [(1002, .cells [.v .str, .v .str, .v (.sl τ2)]), (1003, .cells [.v .str, .v .str, .v (.sl τ2)]), (1005, .row 9 .str true), (1006, .row 9 .str true), (102000, .row 102 τ2 false)]
def z60L0_hd (c21 : Int) (κ2_0 : Str) (κ2_1 : Str) (κ2_2 : List τ3) (κ3_0 : Str) (κ3_1 : Str) (κ3_2 : List τ3) (cw1006 : List Str) (t20 : List τ3) (s22 : Int) (w1005 : List Str) : St := ⟨76, [(2, .box 1002 0), (3, .box 1003 0), (5, .row 1005), (6, .row 1006), (20, .row 102000), (21, .v τ5 c21), (22, .v τ5 s22)], [(1002, .cells [.v .str κ2_0, .v .str κ2_1, .v (.sl τ2) κ2_2]), (1003, .cells [.v .str κ3_0, .v .str κ3_1, .v (.sl τ2) κ3_2]), (1005, .row 9 .str true w1005), (1006, .row 9 .str true cw1006), (102000, .row 102 τ2 false t20)]⟩
def z60L0_tl0 (_c21 : Int) (κ2_0 : Str) (κ2_1 : Str) (κ2_2 : List τ3) (κ3_0 : Str) (κ3_1 : Str) (κ3_2 : List τ3) (cw1006 : List Str) (_t20 : List τ3) (o0_w1005 : List Str) : St := ⟨76, [(2, .box 1002 0), (3, .box 1003 0), (5, .row 1005), (6, .row 1006)], [(1002, .cells [.v .str κ2_0, .v .str κ2_1, .v (.sl τ2) κ2_2]), (1003, .cells [.v .str κ3_0, .v .str κ3_1, .v (.sl τ2) κ3_2]), (1005, .row 9 .str true o0_w1005), (1006, .row 9 .str true cw1006)]⟩
def z60L0_G (N : Nat) (c21 : Int) (κ2_0 : Str) (κ2_1 : Str) (κ2_2 : List τ3) (κ3_0 : Str) (κ3_1 : Str) (κ3_2 : List τ3) (cw1006 : List Str) (t20 : List τ3) (s22 : Int) (w1005 : List Str) (k : Ex → St → Option τ25) : Option τ25 :=
 z60L0 N c21 t20 (fun o0_w1005 => k (.exit 0) (z60L0_tl0 c21 κ2_0 κ2_1 κ2_2 κ3_0 κ3_1 κ3_2 cw1006 t20 o0_w1005)) N s22 w1005
abbrev z60L0_F (N : Nat) : FV z60L0_fs → HV z60L0_bs → (Ex → St → Option τ25) → Option τ25 := fun x y k => z60L0_G N x.2.2.2.2.2.1 y.1.1 y.1.2.1 y.1.2.2.1 y.2.1.1 y.2.1.2.1 y.2.1.2.2.1 y.2.2.2.1 y.2.2.2.2.1 x.2.2.2.2.2.2.1 y.2.2.1 k
abbrev z60L1_fs : List (Nat × Sl) := [(2, .box 1002 0), (3, .box 1003 0), (6, .row 1006), (43, .row 1005), (44, .v τ5), (45, .v τ5)]
abbrev z60L1_bs : List (Nat × Sb) := [(1002, .cells [.v .str, .v .str, .v (.sl τ2)]), (1003, .cells [.v .str, .v .str, .v (.sl τ2)]), (1005, .row 9 .str true), (1006, .row 9 .str true)]
def z60L1_hd (c44 : Int) (c1002_0_1 : Str) (c1002_1_2 : Str) (c1002_2_3 : List τ3) (c1003_0_4 : Str) (c1003_1_5 : Str) (c1003_2_6 : List τ3) (t43 : List Str) (s45 : Int) (w1006 : List Str) : St := ⟨76, [(2, .box 1002 0), (3, .box 1003 0), (6, .row 1006), (43, .row 1005), (44, .v τ5 c44), (45, .v τ5 s45)], [(1002, .cells [.v .str c1002_0_1, .v .str c1002_1_2, .v (.sl τ2) c1002_2_3]), (1003, .cells [.v .str c1003_0_4, .v .str c1003_1_5, .v (.sl τ2) c1003_2_6]), (1005, .row 9 .str true t43), (1006, .row 9 .str true w1006)]⟩
def z60L1_tl2 (_c44 : Int) (_c1002_0_1 : Str) (_c1002_1_2 : Str) (_c1002_2_3 : List τ3) (_c1003_0_4 : Str) (_c1003_1_5 : Str) (_c1003_2_6 : List τ3) (_t43 : List Str) (o1_w1006 : List Str) : St := ⟨76, [(6, .row 1006)], [(1006, .row 9 .str true o1_w1006)]⟩
def z60L1_G (N : Nat) (c44 : Int) (c1002_0_1 : Str) (c1002_1_2 : Str) (c1002_2_3 : List τ3) (c1003_0_4 : Str) (c1003_1_5 : Str) (c1003_2_6 : List τ3) (t43 : List Str) (s45 : Int) (w1006 : List Str) (k : Ex → St → Option τ25) : Option τ25 :=
 z60L1 N c44 c1002_0_1 c1002_1_2 c1002_2_3 c1003_0_4 c1003_1_5 c1003_2_6 t43 (fun o1_w1006 => k (.exit 2) (z60L1_tl2 c44 c1002_0_1 c1002_1_2 c1002_2_3 c1003_0_4 c1003_1_5 c1003_2_6 t43 o1_w1006)) N s45 w1006
abbrev z60L1_F (N : Nat) : FV z60L1_fs → HV z60L1_bs → (Ex → St → Option τ25) → Option τ25 := fun x y k => z60L1_G N x.2.2.2.2.1 y.1.1 y.1.2.1 y.1.2.2.1 y.2.1.1 y.2.1.2.1 y.2.1.2.2.1 y.2.2.1 x.2.2.2.2.2.1 y.2.2.2.1 k
noncomputable def z60LP (N : Nat) : Nat → Code → St → (Ex → St → Option τ25) → Option τ25 := fun i c =>
 match i with
 | 0 => (LPc 76 z60L0_fs z60L0_bs (z60L0_F N) (fun st k => iter (z60h 0) (exec (z60E N) N c 0) N st k))
 | 2 => (LPc 76 z60L1_fs z60L1_bs (z60L1_F N) (fun st k => iter (z60h 2) (exec (z60E N) N c 2) N st k))
 | i => fun st k => iter (z60h i) (exec (z60E N) N c i) N st k
theorem z60L1_step (N : Nat) (c44 : Int) (c1002_0_1 : Str) (c1002_1_2 : Str) (c1002_2_3 : List τ3) (c1003_0_4 : Str) (c1003_1_5 : Str) (c1003_2_6 : List τ3) (t43 : List Str) (KX : Nat → St → Option τ25) (I : St → Option τ25) (s45 : Int) (w1006 : List Str) :
   execL (z60LP N) (z60E N) z60c0 2 (z60L1_hd c44 c1002_0_1 c1002_1_2 c1002_2_3 c1003_0_4 c1003_1_5 c1003_2_6 t43 s45 w1006) (roundK (z60h 2) I KX (z60R N)) = z60L1T N c44 c1002_0_1 c1002_1_2 c1002_2_3 c1003_0_4 c1003_1_5 c1003_2_6 t43 (fun o1_w1006 => KX 2 (z60L1_tl2 c44 c1002_0_1 c1002_1_2 c1002_2_3 c1003_0_4 c1003_1_5 c1003_2_6 t43 o1_w1006)) (fun s45 w1006 => I (z60L1_hd c44 c1002_0_1 c1002_1_2 c1002_2_3 c1003_0_4 c1003_1_5 c1003_2_6 t43 s45 w1006)) s45 w1006 := by kernel_rfl
theorem z60L1_ok (N : Nat) : ∀ x y k, (∀ st, k .ret st = (z60R N) st) → iter (z60h 2) (exec (z60E N) N z60c0 2) N ⟨76, unF z60L1_fs x, unH z60L1_bs y⟩ k = z60L1_F N x y k := fun x y k hk =>
 iter_link (S := (Int) × τ25 × Unit) (z60h 2) _ (execL (z60LP N) (z60E N) z60c0 2) (z60R N) (fun st k hk => execL_eq _ _ N _ z60c0 2 (show LoopsOk (z60LP N) (z60E N) N (z60R N) [] from trivial) st k hk) (fun s => z60L1_hd x.2.2.2.2.1 y.1.1 y.1.2.1 y.1.2.2.1 y.2.1.1 y.2.1.2.1 y.2.1.2.2.1 y.2.2.1 s.1 s.2.1) k hk
   (fun self s => z60L1T N x.2.2.2.2.1 y.1.1 y.1.2.1 y.1.2.2.1 y.2.1.1 y.2.1.2.1 y.2.1.2.2.1 y.2.2.1 (fun o1_w1006 => k (.exit 2) (z60L1_tl2 x.2.2.2.2.1 y.1.1 y.1.2.1 y.1.2.2.1 y.2.1.1 y.2.1.2.1 y.2.1.2.2.1 y.2.2.1 o1_w1006)) (fun s45 w1006 => self (s45, w1006, ())) s.1 s.2.1) (fun n s => z60L1 N x.2.2.2.2.1 y.1.1 y.1.2.1 y.1.2.2.1 y.2.1.1 y.2.1.2.1 y.2.1.2.2.1 y.2.2.1 (fun o1_w1006 => k (.exit 2) (z60L1_tl2 x.2.2.2.2.1 y.1.1 y.1.2.1 y.1.2.2.1 y.2.1.1 y.2.1.2.1 y.2.1.2.2.1 y.2.2.1 o1_w1006)) n s.1 s.2.1) (fun _ => rfl) (fun _ _ => rfl)
   (fun I s => z60L1_step N x.2.2.2.2.1 y.1.1 y.1.2.1 y.1.2.2.1 y.2.1.1 y.2.1.2.1 y.2.1.2.2.1 y.2.2.1 (fun j => k (.exit j)) I s.1 s.2.1) N (x.2.2.2.2.2.1, y.2.2.2.1, ())
theorem z60lp2 (N : Nat) : ∀ st k, (∀ st, k .ret st = (z60R N) st) → z60LP N 2 z60c0 st k = iter (Env.hint (z60E N) 2) (exec (z60E N) N z60c0 2) N st k := fun st k hk => LPc_eq 76 z60L1_fs z60L1_bs _ _ (z60R N) (z60L1_ok N) _ st k hk (rfl)
theorem z60L0_step (N : Nat) (c21 : Int) (κ2_0 : Str) (κ2_1 : Str) (κ2_2 : List τ3) (κ3_0 : Str) (κ3_1 : Str) (κ3_2 : List τ3) (cw1006 : List Str) (t20 : List τ3) (KX : Nat → St → Option τ25) (I : St → Option τ25) (s22 : Int) (w1005 : List Str) :
   execL (z60LP N) (z60E N) z60c1 0 (z60L0_hd c21 κ2_0 κ2_1 κ2_2 κ3_0 κ3_1 κ3_2 cw1006 t20 s22 w1005) (roundK (z60h 0) I KX (z60R N)) = z60L0T N c21 t20 (fun o0_w1005 => KX 0 (z60L0_tl0 c21 κ2_0 κ2_1 κ2_2 κ3_0 κ3_1 κ3_2 cw1006 t20 o0_w1005)) (fun s22 w1005 => I (z60L0_hd c21 κ2_0 κ2_1 κ2_2 κ3_0 κ3_1 κ3_2 cw1006 t20 s22 w1005)) s22 w1005 := by kernel_rfl
theorem z60L0_ok (N : Nat) : ∀ x y k, (∀ st, k .ret st = (z60R N) st) → iter (z60h 0) (exec (z60E N) N z60c1 0) N ⟨76, unF z60L0_fs x, unH z60L0_bs y⟩ k = z60L0_F N x y k := fun x y k hk =>
 iter_link (S := (Int) × τ25 × Unit) (z60h 0) _ (execL (z60LP N) (z60E N) z60c1 0) (z60R N) (fun st k hk => execL_eq _ _ N _ z60c1 0 (show LoopsOk (z60LP N) (z60E N) N (z60R N) [] from trivial) st k hk) (fun s => z60L0_hd x.2.2.2.2.2.1 y.1.1 y.1.2.1 y.1.2.2.1 y.2.1.1 y.2.1.2.1 y.2.1.2.2.1 y.2.2.2.1 y.2.2.2.2.1 s.1 s.2.1) k hk
   (fun self s => z60L0T N x.2.2.2.2.2.1 y.2.2.2.2.1 (fun o0_w1005 => k (.exit 0) (z60L0_tl0 x.2.2.2.2.2.1 y.1.1 y.1.2.1 y.1.2.2.1 y.2.1.1 y.2.1.2.1 y.2.1.2.2.1 y.2.2.2.1 y.2.2.2.2.1 o0_w1005)) (fun s22 w1005 => self (s22, w1005, ())) s.1 s.2.1) (fun n s => z60L0 N x.2.2.2.2.2.1 y.2.2.2.2.1 (fun o0_w1005 => k (.exit 0) (z60L0_tl0 x.2.2.2.2.2.1 y.1.1 y.1.2.1 y.1.2.2.1 y.2.1.1 y.2.1.2.1 y.2.1.2.2.1 y.2.2.2.1 y.2.2.2.2.1 o0_w1005)) n s.1 s.2.1) (fun _ => rfl) (fun _ _ => rfl)
   (fun I s => z60L0_step N x.2.2.2.2.2.1 y.1.1 y.1.2.1 y.1.2.2.1 y.2.1.1 y.2.1.2.1 y.2.1.2.2.1 y.2.2.2.1 y.2.2.2.2.1 (fun j => k (.exit j)) I s.1 s.2.1) N (x.2.2.2.2.2.2.1, y.2.2.1, ())
theorem z60lp0 (N : Nat) : ∀ st k, (∀ st, k .ret st = (z60R N) st) → z60LP N 0 z60c1 st k = iter (Env.hint (z60E N) 0) (exec (z60E N) N z60c1 0) N st k := fun st k hk => LPc_eq 76 z60L0_fs z60L0_bs _ _ (z60R N) (z60L0_ok N) _ st k hk (rfl)
theorem z60core (N : Nat) (x : SV [.v τ10, .v τ10]) (y : BV []) : runL (z60E N) Tryz.f63 (z60g N) z60pk (z60LP N) x y = ref2_otherAttrs N x.1 x.2.1 := by kernel_rfl
theorem z60sound (N : Nat) : Snd 63 (z60g N) :=
 runD_sound (mkE_ok z60h (z60fn N) _ _ (z60fn_ok N)) Tryz.func63 rfl Tryz.call63 (z60g N) z60pk (fun _ _ => rfl) N (fun x y _ h => ((runL_eq (z60E N) N Tryz.f63 (z60g N) z60pk (z60LP N) (show LoopsOk (z60LP N) (z60E N) N (z60R N) [(0, z60c1), (2, z60c0)] from ⟨z60lp0 N, z60lp2 N, trivial⟩) x y).trans (z60core N x y)).trans h)
def z54L0T (N : Nat) (c22 : List τ17) (c23 : Int) (κ3_1 : List τ17) (k0 : Option Bool) (self : Int → Option Bool) (s24 : Int) : Option Bool :=
 br (decide (s24 < c23))
   (bnd (geti c22 s24) fun t27 =>
   bnd (geti κ3_1 s24) fun t34 =>
   br (!(t27.1 == t34.1))
     (both
       (both
         (times 1
           (some false))
         (some false))
       (both
         (both
           (times 1
             (some false))
           (times 1
             (times 3
               (some false))))
         (times 4
           (some false))))
     (bnd (geti κ3_1 s24) fun t45 =>
     br ((t27.2.2.length : Int) != (t45.2.2.length : Int))
       (some false)
       (bnd (geti κ3_1 s24) fun t56 =>
       bnd (ref2_otherAttrs N t27 t56) fun t58 =>
       br (decide ((t58.length : Int) > (0 : Int)))
         (some false)
         (self (IntKind.i64.wrap (s24 + (1 : Int)))))))
   (k0)
def z54L0 (N : Nat) (c22 : List τ17) (c23 : Int) (κ3_1 : List τ17) (k0 : Option Bool) : Nat → Int → Option Bool
 | 0, _ => none
 | n + 1, s24 => z54L0T N c22 c23 κ3_1 k0 (z54L0 N c22 c23 κ3_1 k0 n) s24
def ref2_SamePackage (N : Nat) (x0 : Str × List τ17) (x1 : Str × List τ17) : Option Bool :=
 br (!(x0.1 == x1.1))
   (some false)
   (br ((x0.2.length : Int) != (x1.2.length : Int))
     (some false)
     (z54L0 N x0.2 (x0.2.length : Int) x1.2 (some true) N (0 : Int)))
abbrev z54sg (f : SV [.v (.pr .str (.sl τ10)), .v (.pr .str (.sl τ10))] → BV [] → Option (Bool)) : AF := { ps := [.v (.pr .str (.sl τ10)), .v (.pr .str (.sl τ10))], bs := [], rs := [.v .bool], cs := [], R := Bool, out := fun z => ((z, ()), ()), f := f }
noncomputable abbrev z54g (N : Nat) : AF := z54sg fun x _ => ref2_SamePackage N x.1 x.2.1
abbrev z54pk : SV [.v .bool] → BV [] → Bool := fun x _ => x.1
def z54fn (N : Nat) : FuncId → Option Tmp → Option AF := fun f _ =>
 match f with
   | 63 => some (z60g N)
   | _ => none
theorem z54fn_ok (N : Nat) : FnOk (z54fn N) := by
 intro f q F h
 unfold z54fn at h
 split at h
 · cases h; exact z60sound N
 · cases h
def z54h : Nat → Hint := fun i =>
 match i with
 | 0 => ⟨[], [3, 22, 23, 24], [1003], [], [], []⟩
 | 100006 => ⟨[1003, 1006], [1], [], [], [], []⟩
 | _ => hint0
abbrev z54E (N : Nat) : Env := mkE z54h (z54fn N) FF FF
noncomputable abbrev z54c0 : Code := cAt (bodyOf Tryz.f24) [true, true, false, true, false, false]
noncomputable abbrev z54R (N : Nat) := resD (z54E N) Tryz.f24 (z54g N) z54pk
abbrev z54L0_fs : List (Nat × Sl) := [(3, .box 1003 0), (22, .v (.sl τ10)), (23, .v τ5), (24, .v τ5)]
abbrev z54L0_bs : List (Nat × Sb) := [(1003, .cells [.v .str, .v (.sl τ10)])]
def z54L0_hd (c22 : List τ17) (c23 : Int) (κ3_0 : Str) (κ3_1 : List τ17) (s24 : Int) : St := ⟨63, [(3, .box 1003 0), (22, .v (.sl τ10) c22), (23, .v τ5 c23), (24, .v τ5 s24)], [(1003, .cells [.v .str κ3_0, .v (.sl τ10) κ3_1])]⟩
def z54L0_tl0 (_c22 : List τ17) (_c23 : Int) (_κ3_0 : Str) (_κ3_1 : List τ17) : St := ⟨63, [], []⟩
def z54L0_G (N : Nat) (c22 : List τ17) (c23 : Int) (κ3_0 : Str) (κ3_1 : List τ17) (s24 : Int) (k : Ex → St → Option Bool) : Option Bool :=
 z54L0 N c22 c23 κ3_1 (k (.exit 0) (z54L0_tl0 c22 c23 κ3_0 κ3_1)) N s24
abbrev z54L0_F (N : Nat) : FV z54L0_fs → HV z54L0_bs → (Ex → St → Option Bool) → Option Bool := fun x y k => z54L0_G N x.2.1 x.2.2.1 y.1.1 y.1.2.1 x.2.2.2.1 k
noncomputable def z54LP (N : Nat) : Nat → Code → St → (Ex → St → Option Bool) → Option Bool := fun i c =>
 match i with
 | 0 => (LPc 63 z54L0_fs z54L0_bs (z54L0_F N) (fun st k => iter (z54h 0) (exec (z54E N) N c 0) N st k))
 | i => fun st k => iter (z54h i) (exec (z54E N) N c i) N st k
theorem z54L0_step (N : Nat) (c22 : List τ17) (c23 : Int) (κ3_0 : Str) (κ3_1 : List τ17) (KX : Nat → St → Option Bool) (I : St → Option Bool) (s24 : Int) :
   execL (z54LP N) (z54E N) z54c0 0 (z54L0_hd c22 c23 κ3_0 κ3_1 s24) (roundK (z54h 0) I KX (z54R N)) = z54L0T N c22 c23 κ3_1 (KX 0 (z54L0_tl0 c22 c23 κ3_0 κ3_1)) (fun s24 => I (z54L0_hd c22 c23 κ3_0 κ3_1 s24)) s24 := by kernel_rfl
theorem z54L0_ok (N : Nat) : ∀ x y k, (∀ st, k .ret st = (z54R N) st) → iter (z54h 0) (exec (z54E N) N z54c0 0) N ⟨63, unF z54L0_fs x, unH z54L0_bs y⟩ k = z54L0_F N x y k := fun x y k hk =>
 iter_link (S := (Int) × Unit) (z54h 0) _ (execL (z54LP N) (z54E N) z54c0 0) (z54R N) (fun st k hk => execL_eq _ _ N _ z54c0 0 (show LoopsOk (z54LP N) (z54E N) N (z54R N) [] from trivial) st k hk) (fun s => z54L0_hd x.2.1 x.2.2.1 y.1.1 y.1.2.1 s.1) k hk
   (fun self s => z54L0T N x.2.1 x.2.2.1 y.1.2.1 (k (.exit 0) (z54L0_tl0 x.2.1 x.2.2.1 y.1.1 y.1.2.1)) (fun s24 => self (s24, ())) s.1) (fun n s => z54L0 N x.2.1 x.2.2.1 y.1.2.1 (k (.exit 0) (z54L0_tl0 x.2.1 x.2.2.1 y.1.1 y.1.2.1)) n s.1) (fun _ => rfl) (fun _ _ => rfl)
   (fun I s => z54L0_step N x.2.1 x.2.2.1 y.1.1 y.1.2.1 (fun j => k (.exit j)) I s.1) N (x.2.2.2.1, ())
theorem z54lp0 (N : Nat) : ∀ st k, (∀ st, k .ret st = (z54R N) st) → z54LP N 0 z54c0 st k = iter (Env.hint (z54E N) 0) (exec (z54E N) N z54c0 0) N st k := fun st k hk => LPc_eq 63 z54L0_fs z54L0_bs _ _ (z54R N) (z54L0_ok N) _ st k hk (rfl)
theorem z54core (N : Nat) (x : SV [.v (.pr .str (.sl τ10)), .v (.pr .str (.sl τ10))]) (y : BV []) : runL (z54E N) Tryz.f24 (z54g N) z54pk (z54LP N) x y = ref2_SamePackage N x.1 x.2.1 := by kernel_rfl
theorem z54sound (N : Nat) : Snd 24 (z54g N) :=
 sndL (z54fn_ok N) Tryz.func24 rfl Tryz.call24 (z54g N) z54pk (fun _ _ => rfl) N (z54LP N) (show LoopsOk (z54LP N) (z54E N) N (z54R N) [(0, z54c0)] from ⟨z54lp0 N, trivial⟩) (z54core N)
end
end Go.Proofs.YtbekhaioddmliaaGreatDoor


/- A function that leaves all that its caller has as it is, and makes one thing anew. -/
namespace Go.Proofs.YtbekhaioddmliaaGreatDoor
set_option linter.unusedVariables false
set_option linter.unusedSimpArgs false
open Go Go.RowKit Go.Shelf
theorem Sound.ofMade {P : Program} {G : World → Prop} {B0 : Nat} {f : FuncId} {ps : List Sl} {bs : List Sb} {rs : List Sl} {cs : List Sb} {R : Type} {out : R → SV rs × BV cs} {F : SV ps → BV bs → Option R}
   (hcall : ∀ (args : Array Value) (w : World), (callFunc f args).run P w = .ok (.enter f args) w) (hlen : cs.length = bs.length + 1)
   (h : ∀ (M : Nat → Nat → Prop) (w : World) (g : Gh) (vs : List Value) (x : SV ps) (y : BV bs) (z : R), G w → B0 ≤ w.heap.size → Frag B0 M w g ps bs x y vs → F x y = some z →
     Calls P f vs.toArray w fun e w' => ∃ vs' gx, e = .returned (rets vs') ∧ Ext w w' ∧ (∀ b, gx.blk = some b → w.heap.size ≤ b ∧ b < w'.heap.size ∧ (0 < gx.lo → ∀ es c, w'.heap[b]? ≠ some (.map es c))) ∧
       ∀ (M' : Nat → Nat → Prop) (g' : Gh), (∀ r y, g r = some y → g' r = some y) → g' bs.length = some gx → Step M w M' w' →
         All2 (RepD0 M' w' g') (lays id rs (out z).1) vs' ∧ ∀ r blk, blkAt id cs (out z).2 r = some blk → ∃ gy, g' r = some gy ∧ RepB M' w' g' gy blk) :
   Sound P G B0 f ⟨ps, bs, rs, cs, R, out, F⟩ := by
 refine ⟨hcall, fun M w g vs x y z hG hB hF hz => ?_⟩
 refine (h M w g vs x y z hG hB hF hz).mono fun e w' hp => ?_
 obtain ⟨vs', gx, he, hE, hnew, hrest⟩ := hp
 obtain ⟨g', hgd⟩ : ∃ g' : Gh, g' = g.set bs.length (some gx) := ⟨_, rfl⟩
 have hgn : g' bs.length = some gx := by rw [hgd, Gh.set_same]
 have hgo : ∀ r y, g r = some y → g' r = some y := fun r y hr => by
   have hd : r < bs.length := hF.dom r y hr
   rw [hgd, Gh.set_other _ _ (by omega)]; exact hr
 have hgc : ∀ r y, g' r = some y → (r = bs.length ∧ y = gx) ∨ g r = some y := fun r y hr => by
   by_cases e : r = bs.length
   · subst e
     rw [hgn] at hr
     exact .inl ⟨rfl, (Option.some.inj hr).symm⟩
   · rw [hgd, Gh.set_other _ _ e] at hr
     exact .inr hr
 have hlow : ∀ r y b, g r = some y → y.blk = some b → B0 ≤ b ∧ b < w.heap.size := fun r y b h1 h2 => hF.low r y b h1 h2
 have hstep : Step M w (Mafter M g g') w' := by
   have key : ∀ b o, b < w.heap.size → ¬ M b o → ¬ Mafter M g g' b o := fun b o hb hm hm' => by
     rcases hm' with ⟨h1, _⟩ | ⟨r, y, hr, hyb, hlo⟩
     · exact hm h1
     · rcases hgc r y hr with ⟨_, rfl⟩ | hr
       · have := (hnew b hyb).1; omega
       · exact hm ((hF.chg r y b o hr hyb).2 hlo)
   exact ⟨fun ad u hu hm => ⟨hE.cell hu, key _ _ (World.block_lt_of_cell? w _ hu) hm⟩, fun b es c hb hm => ⟨(hE.block b (lt_of_map hb)).trans hb, key _ _ (lt_of_map hb) hm⟩⟩
 obtain ⟨hA, hR⟩ := hrest _ g' hgo hgn hstep
 refine ⟨vs', g', he, ExtX.of_ext hE, hstep, ?_, fun r y hr _ => hgo r y hr, fun b hb => ?_⟩
 · exact {
     args := hA
     res := hR
     dom := fun r y hr => by
       show r < cs.length
       rcases hgc r y hr with ⟨rfl, _⟩ | hr
       · omega
       · have hd : r < bs.length := hF.dom r y hr
         omega
     inj := fun r r' y y' b hr hr' hb hb' => by
       rcases hgc r y hr with ⟨rfl, rfl⟩ | h1
       · rcases hgc r' y' hr' with ⟨rfl, _⟩ | h2
         · rfl
         · have := (hnew b hb).1; have := (hlow _ _ _ h2 hb').2; omega
       · rcases hgc r' y' hr' with ⟨rfl, rfl⟩ | h2
         · have := (hnew b hb').1; have := (hlow _ _ _ h1 hb).2; omega
         · exact hF.inj r r' y y' b h1 h2 hb hb'
     low := fun r y b hr hb => by
       rcases hgc r y hr with ⟨_, rfl⟩ | h1
       · exact ⟨Nat.le_trans hB (hnew b hb).1, (hnew b hb).2.1⟩
       · have := hlow _ _ _ h1 hb; exact ⟨this.1, Nat.lt_of_lt_of_le this.2 hE.size⟩
     chg := fun r y b o hr hb => by
       refine ⟨fun hm => ?_, fun hle => .inr ⟨r, y, hr, hb, hle⟩⟩
       rcases hm with ⟨h1, h2⟩ | ⟨r', y', hr', hb', hlo⟩
       · rcases hgc r y hr with ⟨_, rfl⟩ | h3
         · have := (hnew b hb).1; have := hF.mlt b o h1; omega
         · exact absurd ⟨r, y, h3, hb⟩ h2
       · rcases hgc r y hr with ⟨e1, rfl⟩ | h3
         · rcases hgc r' y' hr' with ⟨_, rfl⟩ | h4
           · exact hlo
           · have := (hnew b hb).1; have := (hlow _ _ _ h4 hb').2; omega
         · rcases hgc r' y' hr' with ⟨_, rfl⟩ | h4
           · have := (hnew b hb').1; have := (hlow _ _ _ h3 hb).2; omega
           · have := hF.inj r r' y y' b h3 h4 hb hb'
             subst this
             rw [h3] at h4
             cases h4
             exact hlo
     mlt := fun b o hm => by
       rcases hm with ⟨h1, _⟩ | ⟨r, y, hr, hb, _⟩
       · exact Nat.lt_of_lt_of_le (hF.mlt b o h1) hE.size
       · rcases hgc r y hr with ⟨_, rfl⟩ | h3
         · exact (hnew b hb).2.1
         · exact Nat.lt_of_lt_of_le (hlow _ _ _ h3 hb).2 hE.size
     row := fun r y b hr hb h0 => by
       rcases hgc r y hr with ⟨_, rfl⟩ | h3
       · exact (hnew b hb).2.2 h0
       · intro es c hc
         rw [hE.block b (hlow _ _ _ h3 hb).2] at hc
         exact hF.row r y b h3 hb h0 es c hc }
 · obtain ⟨r, y, hr, hb⟩ := hb
   rcases hgc r y hr with ⟨_, rfl⟩ | h3
   · exact .inr (hnew b hb).1
   · exact .inl ⟨r, y, h3, hb⟩
end Go.Proofs.YtbekhaioddmliaaGreatDoor


/-
 DERIVED: THE SHELF's CONTRACTS AT THIS DUMP, IN PLAIN WORDS (tools/lay-plain.mjs out of 'TryzShelfK.lean', which tools/lay-shelf.mjs wrote): THE SAME DECLARATIONS UNDER THE SAME NAMES: 'import', 'namespace', 'open', 'def', 'theorem' AND NOTHING ELSE: no command of the shelf's: FOR A HAND-IN. Each laying: the table of numbers ('.._ren') and one theorem, a field a fact of the dump's own or the kernel's comparison; each contract: ONE APPLICATION.
-/
namespace Go.Proofs
open Go.Shelf
def Tryz.keysK_ren : Go.Shelf.Ren := ⟨fun | 7 => 68 | 10 => 123 | n => n, fun | 23 => 105 | 26 => 9 | 3 => 4 | 28 => 113 | 0 => 0 | 27 => 112 | 33 => 86 | 4 => 4 | n => n, fun | n => n⟩
theorem Tryz.keysK : Go.Proofs.SlLaysZ.n7 Tryz.prog Tryz.keysK_ren := {
 mixed := by kernel_rfl
 f7 := ⟨Tryz.f68.name, by decide, Tryz.func68.trans (congrArg some (by kernel_rfl))⟩
 f10 := ⟨Tryz.f123.name, by decide, Tryz.func123.trans (congrArg some (by kernel_rfl))⟩
 t0 := Tryz.underlying0
 a0 := Tryz.isAgg0
 z0 := Tryz.sizeOf0
 v0 := Tryz.zeroValue0
 t4 := Tryz.underlying4
 a4 := Tryz.isAgg4
 z4 := Tryz.sizeOf4
 v4 := Tryz.zeroValue4
 t23 := Tryz.underlying105
 a23 := Tryz.isAgg105
 z23 := Tryz.sizeOf105
 v23 := Tryz.zeroValue105
 t26 := Tryz.underlying9
 a26 := Tryz.isAgg9
 z26 := Tryz.sizeOf9
 v26 := Tryz.zeroValue9
 t27 := Tryz.underlying112
 a27 := Tryz.isAgg112
 z27 := Tryz.sizeOf112
 v27 := Tryz.zeroValue112
 t28 := Tryz.underlying113
 a28 := Tryz.isAgg113
 z28 := Tryz.sizeOf113
 v28 := Tryz.zeroValue113
 t33 := Tryz.underlying86
 a33 := Tryz.isAgg86
 z33 := Tryz.sizeOf86
 v33 := Tryz.zeroValue86 }
def Tryz.sortedK_ren : Go.Shelf.Ren := ⟨fun | 6 => 67 | 8 => 122 | 9 => 57 | 11 => 183 | 13 => 107 | 12 => 106 | 23 => 163 | 24 => 164 | 14 => 154 | 15 => 155 | 16 => 156 | 17 => 157 | 18 => 158 | 19 => 159 | 20 => 160 | 21 => 161 | 22 => 162 | 25 => 194 | 26 => 195 | 27 => 196 | 28 => 197 | 29 => 198 | 30 => 199 | 31 => 214 | n => n, fun | 26 => 9 | 28 => 113 | 24 => 29 | 0 => 0 | 3 => 3 | 37 => 142 | 48 => 192 | 50 => 194 | 4 => 4 | 40 => 185 | 39 => 184 | 45 => 130 | 5 => 5 | 9 => 9 | 51 => 214 | 55 => 218 | 57 => 231 | 58 => 232 | 33 => 86 | n => n, fun | n => n⟩
theorem Tryz.sortedK : Go.Proofs.SlLaysZ.n6 Tryz.prog Tryz.sortedK_ren := {
 mixed := by kernel_rfl
 f6 := ⟨Tryz.f67.name, by decide, Tryz.func67.trans (congrArg some (by kernel_rfl))⟩
 f8 := ⟨Tryz.f122.name, by decide, Tryz.func122.trans (congrArg some (by kernel_rfl))⟩
 f11 := ⟨Tryz.f183.name, by decide, Tryz.func183.trans (congrArg some (by kernel_rfl))⟩
 t0 := Tryz.underlying0
 a0 := Tryz.isAgg0
 z0 := Tryz.sizeOf0
 v0 := Tryz.zeroValue0
 t24 := Tryz.underlying29
 a24 := Tryz.isAgg29
 z24 := Tryz.sizeOf29
 v24 := Tryz.zeroValue29
 t26 := Tryz.underlying9
 a26 := Tryz.isAgg9
 z26 := Tryz.sizeOf9
 v26 := Tryz.zeroValue9
 t28 := Tryz.underlying113
 a28 := Tryz.isAgg113
 z28 := Tryz.sizeOf113
 v28 := Tryz.zeroValue113
 i26 := by kernel_rfl }
end Go.Proofs


/- The keys of a map of the caller's, in order: maps.Keys and slices.Sorted, out of the kit's contracts. -/
namespace Go.Proofs.YtbekhaioddmliaaGreatDoor
set_option linter.unusedVariables false
set_option linter.unusedSimpArgs false
open Go Go.RowKit Go.Shelf Go.Maps Go.Sort
def maps_Keys_bool (m : List τ21) : Option (List τ21) := some m
theorem z65sound : Sound Tryz.prog GW B0G 68 ⟨[.mref 0], [.map .bool], [.fnc 123 [1]], [.map .bool, .cells [.mref 0]], List τ21, fun z => (((), ()), (z, (((), ()), ()))), fun x y => maps_Keys_bool y.1⟩ := by
 refine Sound.ofMade Tryz.call68 rfl fun M w g vs x y z hG hB hF hz => ?_
 obtain ⟨m, _⟩ := y
 obtain rfl : m = z := Option.some.inj hz
 match vs, hF.args with
 | [v], ⟨h0, _⟩ =>
   obtain ⟨gx, b, hg0, hv, rfl⟩ := h0
   obtain ⟨gx', hg', hrep⟩ := hF.res 0 (.map .bool m) rfl
   refine ((callsIn_wide (n := 5)).1 (AnyZ.keys_in Tryz.keysK Fence.wide 5 trivial rfl (some b) w)).mono fun e w' hp => ?_
   obtain ⟨rfl, rfl⟩ := hp
   refine ⟨[.func (.func 123) #[] #[boxV w.heap.size]], ⟨some w.heap.size, 0, boxV w.heap.size⟩, rfl, (Ext.refl w).alloc _, fun b' hb => ?_, fun M' g' hgo hgn hst => ⟨⟨⟨_, rfl, ⟨⟨_, _, hgn, rfl, rfl⟩, trivial⟩⟩, trivial⟩, fun r blk hr => ?_⟩⟩
   · obtain rfl : w.heap.size = b' := Option.some.inj hb
     exact ⟨Nat.le_refl _, by simp, fun h => absurd h (Nat.lt_irrefl 0)⟩
   · match r, hr with
     | 0, hr =>
       obtain rfl : Blk.map .bool m = blk := Option.some.inj hr
       exact ⟨gx', hgo _ _ hg', (RepB.step hst (fun b' hb => by
         exact ((Ext.refl w).alloc _).block b' (hF.low _ _ _ hg' hb).2) hrep : RepB M' _ g gx' (.map .bool m))⟩
     | 1, hr =>
       obtain rfl : Blk.cells [.mref 0] = blk := Option.some.inj hr
       exact ⟨_, hgn, ⟨_, #[.map (some b)], _, rfl, heap_alloc_new _ _, ⟨⟨gx, b, hgo _ _ hg0, hv, rfl⟩, trivial⟩⟩⟩
     | 2, hr => cases hr
     | r + 3, hr => cases hr
def keyR (_ : Value) : Option (DataW Unit × List MemPlace) := some (.lit (.bool true), [])
theorem key_rd {P : Program} {k : TypeId} (hk : P.underlying k = some .string) {x : MapEntry} {s : Str} (hx : x.key = .string ⟨s.toArray⟩) (hl : s.length ≤ maxLen) : Go.WideElems.rd P k keyR x = some (.string s, .lit (.bool true)) := by
 unfold Go.WideElems.rd
 have : keyOf P k x.key = some (.string s) := by
   rw [hx]
   have : (⟨s.toArray⟩ : ByteArray).size ≤ maxLen := by show s.toArray.size ≤ _; simpa using hl
   simp [keyOf, hk, mapKey, this]
 rw [this]; rfl
theorem key_map {P : Program} {k : TypeId} (hk : P.underlying k = some .string) {e : Ty} {M : Nat → Nat → Prop} {w : World} : ∀ (m : List (List UInt8 × e.den)) (es : List MapEntry), All2 (fun x y => y.key = .string ⟨x.1.toArray⟩ ∧ RepV M w e x.2 y.val) m es → (∀ p ∈ m, p.1.length ≤ maxLen) →
   es.map (fun x => strOf (Go.WideElems.rg P k keyR x).1) = m.map (·.1)
 | [], [], _, _ => rfl
 | (s, x) :: m, y :: es, h, hl => by
   rw [List.map_cons, List.map_cons, key_map hk m es h.2 fun p hp => hl p (List.mem_cons_of_mem _ hp)]
   congr 1
   unfold Go.WideElems.rg
   rw [key_rd hk h.1.1 (hl _ List.mem_cons_self)]; rfl
 | [], _ :: _, h, _ => h.elim
 | _ :: _, [], h, _ => h.elim
def slices_Sorted_keys (m : List τ21) : Option (List τ21 × List Str) := if m.length * 16 ≤ 140737488355328 ∧ ∀ p ∈ m, p.1.length ≤ maxLen then some (m, (m.map (·.1)).mergeSort leStr) else none
theorem sortsK (m : Nat) : AnyZ.SortsIn Tryz.prog Tryz.sortedK_ren Fence.wide m :=
 ⟨fun blk off cap ss W hH hblk hsz => callsIn_wide.2 (AnyM.slices_Sort_string Tryz.sortS blk off cap ss W hH hblk hsz),
  fun p cap W => callsIn_wide.2 (AnyM.slices_Sort_string_none Tryz.sortS p cap W)⟩
set_option maxHeartbeats 1000000 in
theorem z47sound : Sound Tryz.prog GW B0G 67 ⟨[.fnc 123 [0]], [.cells [.mref 1], .map .bool], [.row 2], [.cells [.mref 1], .map .bool, .row 9 .str false], List τ21 × List Str, fun z => (((), ()), (((), ()), (z.1, (z.2, ())))), fun x y => slices_Sorted_keys y.2.1⟩ := by
 refine Sound.ofMade Tryz.call67 rfl fun M w g vs x y z hG hB hF hz => ?_
 obtain ⟨_, m, _⟩ := y
 change slices_Sorted_keys m = some z at hz
 unfold slices_Sorted_keys at hz
 split at hz
 case isFalse => cases hz
 rename_i hc
 obtain rfl := Option.some.inj hz
 match vs, hF.args with
 | [v], ⟨h0, _⟩ =>
   obtain ⟨cv, rfl, hcs⟩ := h0
   obtain ⟨g1, hg1, hr1⟩ := hF.res 0 (.cells [.mref 1]) rfl
   obtain ⟨g2, hg2, hr2⟩ := hF.res 1 (.map .bool m) rfl
   have hr1' := hr1
   have hr2' := hr2
   obtain ⟨bm, vs1, el, e1, hb1, ha1⟩ := hr1
   obtain ⟨b, es, c, e2, hb2, ha2, hst2⟩ := hr2
   have hcv : cv.toList = [boxV bm] := by
     match cv.toList, hcs with
     | [u], ⟨⟨gy, by_, hgy, hv, hu⟩, _⟩ =>
       have : g 0 = some gy := hgy
       rw [hg1] at this
       cases this
       rw [e1] at hv
       rw [hu, ← hv]
   have hcv2 : cv = #[boxV bm] := by rw [← Array.toArray_toList (xs := cv), hcv]
   subst hcv2
   have hvs1 : vs1 = #[.map (some b)] := by
     rw [← Array.toArray_toList (xs := vs1)]
     match vs1.toList, ha1 with
     | [u], ⟨⟨gy, by_, hgy, hv, hu⟩, _⟩ =>
       have : g 1 = some gy := hgy
       rw [hg2] at this
       cases this
       rw [e2] at hv
       rw [hu, ← hv]
   subst hvs1
   have hml : es.size = m.length := by rw [ha2.len, Array.length_toList]
   have hun : Tryz.prog.underlying 9 = some .string := Tryz.underlying9
   have hown : w.ownsMap Tryz.prog 9 keyR b m.length (.map ((es.toList.map (Go.WideElems.rg Tryz.prog 9 keyR)).foldr DataW.insert [])) := by
     refine ⟨es, c, hb2, ⟨?_, hst2, fun x hx => ?_⟩, by omega, rfl⟩
     · have := hc.1; unfold maxLen; omega
     · obtain ⟨i, hi⟩ := List.getElem?_of_mem hx
       obtain ⟨p, hp, hkey, _⟩ := ha2.get' hi
       exact ⟨_, key_rd hun hkey (hc.2 p (List.mem_of_getElem? hp))⟩
   have hsize : Maps.size (DataW.map (H := Unit) ((es.toList.map (Go.WideElems.rg Tryz.prog 9 keyR)).foldr DataW.insert [])) = m.length := by
     show (List.length _) = _
     rw [DataW.length_sorted, List.length_map, Array.length_toList, hml]
   have hperm : (strKeys (DataW.map (H := Unit) ((es.toList.map (Go.WideElems.rg Tryz.prog 9 keyR)).foldr DataW.insert []))).Perm (m.map (·.1)) := by
     rw [← key_map hun m es.toList ha2 hc.2]
     have e : ∀ l : List (Lit × DataW Unit), strKeys (DataW.map l) = l.map fun p => strOf p.1 := fun _ => rfl
     have h9 := (Go.WideShapes.sorted_perm (es.toList.map (Go.WideElems.rg Tryz.prog 9 keyR))).map (fun p : Lit × DataW Unit => strOf p.1)
     rw [List.map_map, Function.comp_def] at h9
     rw [e]
     generalize ((es.toList.map (Go.WideElems.rg Tryz.prog 9 keyR)).foldr DataW.insert []).map (fun p : Lit × DataW Unit => strOf p.1) = A at h9 ⊢
     generalize (Go.WideElems.rg Tryz.prog 9 keyR : MapEntry → Lit × DataW Unit) = f at h9 ⊢
     exact h9
   have hcell : w.cell? ⟨bm, 0, none⟩ = some (.map (some b)) := by
     unfold World.cell?
     rw [hb1]; rfl
   have hseq : SeqGives Fence.wide 2 Tryz.prog 123 #[boxV bm] encStr (fun ss => ss.Perm (strKeys _)) (Maps.size _) w :=
     AnyZ.keys_gives (ρ := Tryz.keysK_ren) { Tryz.keysK with } Fence.wide _ trivial rfl (by omega) bm b m.length _ w (lt_of_map hb1) hcell hown
   have hmax : Maps.size (DataW.map (H := Unit) ((es.toList.map (Go.WideElems.rg Tryz.prog 9 keyR)).foldr DataW.insert [])) ≤ maxLen := by rw [hsize]; have := hc.1; unfold maxLen; omega
   have hbytes : Maps.size (DataW.map (H := Unit) ((es.toList.map (Go.WideElems.rg Tryz.prog 9 keyR)).foldr DataW.insert [])) * 16 ≤ 140737488355328 := by rw [hsize]; exact hc.1
   refine ((callsIn_wide (n := 5)).1 (AnyZ.sorted_in Tryz.sortedK Fence.wide 5 trivial trivial trivial trivial rfl (by omega) (sortsK _) (enters_of Tryz.func57 (by kernel_rfl) rfl) 123 #[boxV bm] trivial (enters_of Tryz.func123 (by kernel_rfl) rfl) _ _ hmax hbytes w hseq)).mono fun e w' hp => ?_
   obtain ⟨v', ss, rfl, hS, hrow, hnil, hbel⟩ := hp
   have hsort : ss.mergeSort (fun x y => decide (x ≤ y)) = (m.map (·.1)).mergeSort leStr := mergeSort_of_perm (hS.trans hperm)
   have hslen : ss.length = ((m.map (·.1)).mergeSort leStr).length := by rw [List.length_mergeSort]; exact (hS.trans hperm).length_eq
   rw [hsort, hslen] at hrow
   have hE : Ext w w' := ⟨hbel.os, hbel.tape, hbel.output, hbel.size, fun k hk => hbel.block k hk⟩
   obtain ⟨A', c', hv', _⟩ := Row.of_own' hrow
   refine ⟨[v'], ⟨v'.ownBlock, ((m.map (·.1)).mergeSort leStr).length * 1, v'⟩, rfl, hE, fun b' hb => ?_, fun M' g' hgo hgn hst => ⟨⟨⟨_, A', _, c', hgn, rfl, hv'⟩, trivial⟩, fun r blk hr => ?_⟩⟩
   · rcases hrow.2 with ⟨e3, _⟩ | ⟨g3, cap, cur, e3, hb3, hg3, _⟩
     · rw [e3] at hb; cases hb
     · rw [e3] at hb
       simp only [Value.ownBlock, Option.some.injEq] at hb
       subst hb
       refine ⟨hb3, lt_of_map hg3, fun _ es' c'' h => ?_⟩
       rw [hg3] at h; cases h
   · match r, hr with
     | 0, hr =>
       obtain rfl : Blk.cells [.mref 1] = blk := Option.some.inj hr
       exact ⟨g1, hgo _ _ hg1, bm, #[.map (some b)], el, e1, (hE.block bm (lt_of_map hb1)).trans hb1, ⟨⟨g2, b, hgo _ _ hg2, by rw [e2], rfl⟩, trivial⟩⟩
     | 1, hr =>
       obtain rfl : Blk.map .bool m = blk := Option.some.inj hr
       exact ⟨g2, hgo _ _ hg2, (RepB.step hst (fun b' hb => hE.block b' (hF.low _ _ _ hg2 hb).2) hr2' : RepB M' _ g g2 (.map .bool m))⟩
     | 2, hr =>
       obtain rfl : Blk.row 9 .str false ((m.map (·.1)).mergeSort leStr) = blk := Option.some.inj hr
       exact ⟨_, hgn, by decide, _, ownsRow_base_a hrow (Nat.zero_le _), rfl, rfl, str_els _⟩
     | 3, hr => cases hr
     | r + 4, hr => cases hr
end Go.Proofs.YtbekhaioddmliaaGreatDoor


