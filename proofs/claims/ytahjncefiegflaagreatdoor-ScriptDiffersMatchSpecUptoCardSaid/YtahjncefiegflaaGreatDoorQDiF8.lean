/- What functions of the program compute, as plain functions (printed). -/
import Derived.Test.YtahjncefiegflaaGreatDoorQDiF7
namespace Go.Proofs.YtahjncefiegflaaGreatDoor
open Go Go.RowKit
set_option maxRecDepth 100000
set_option linter.unusedVariables false
noncomputable section
def z48L0T (N : Nat) (c35 : List τ2) (c36 : Int) (t33 : List τ14) (k0 : (List τ4) → Option τ9) (self : Int → (List τ4) → Option τ9) (s37 : Int) (w1010 : List τ4) : Option τ9 :=
 br (decide (s37 < c36))
  (bnd (geti c35 s37) fun t39 =>
  br (!((mget t33 t39.1).isSome))
   (br (decide ((w1010.length + [(t39.1, ((2 : Int), ([] : List Str)))].length) * (24 * Ty.sz τ7) ≤ 140737488355328))
    (self (IntKind.i64.wrap (s37 + (1 : Int))) (w1010 ++ [(t39.1, ((2 : Int), ([] : List Str)))]))
    none)
   (bnd (script_attrsDiffer N t39 (((mget t33 t39.1).getD (zero τ3)).1, (((mget t33 t39.1).getD (zero τ3)).2))) fun t58 =>
   br (decide ((t58.length : Int) > (0 : Int)))
    (br (decide ((w1010.length + [(t39.1, ((3 : Int), t58))].length) * (24 * Ty.sz τ7) ≤ 140737488355328))
     (self (IntKind.i64.wrap (s37 + (1 : Int))) (w1010 ++ [(t39.1, ((3 : Int), t58))]))
     none)
    (self (IntKind.i64.wrap (s37 + (1 : Int))) w1010)))
  (k0 w1010)
def z48L0 (N : Nat) (c35 : List τ2) (c36 : Int) (t33 : List τ14) (k0 : (List τ4) → Option τ9) : Nat → Int → (List τ4) → Option τ9
 | 0, _, _ => none
 | n + 1, s37, w1010 => z48L0T N c35 c36 t33 k0 (z48L0 N c35 c36 t33 k0 n) s37 w1010
def z48L1T (_N : Nat) (c71 : List τ2) (c72 : Int) (t31 : List τ14) (k2 : (List τ4) → Option τ9) (self : Int → (List τ4) → Option τ9) (s73 : Int) (w1010_1 : List τ4) : Option τ9 :=
 br (decide (s73 < c72))
  (bnd (geti c71 s73) fun t75 =>
  br (!((mget t31 t75.1).isSome))
   (br (decide ((w1010_1.length + [(t75.1, ((1 : Int), ([] : List Str)))].length) * (24 * Ty.sz τ7) ≤ 140737488355328))
    (self (IntKind.i64.wrap (s73 + (1 : Int))) (w1010_1 ++ [(t75.1, ((1 : Int), ([] : List Str)))]))
    none)
   (self (IntKind.i64.wrap (s73 + (1 : Int))) w1010_1))
  (k2 w1010_1)
def z48L1 (N : Nat) (c71 : List τ2) (c72 : Int) (t31 : List τ14) (k2 : (List τ4) → Option τ9) : Nat → Int → (List τ4) → Option τ9
 | 0, _, _ => none
 | n + 1, s73, w1010_1 => z48L1T N c71 c72 t31 k2 (z48L1 N c71 c72 t31 k2 n) s73 w1010_1
def script_Differ (N : Nat) (x0 : Str × List τ2) (x1 : Str × List τ2) : Option τ9 :=
 bnd (script_CheckPackage N x0) fun t21 =>
 br (t21 != (0 : Int))
  (some (t21, ([] : List τ4)))
  (bnd (script_CheckPackage N x1) fun t26 =>
  br (t26 != (0 : Int))
   (some (t26, ([] : List τ4)))
   (bnd (script_targetsOf N x0) fun t31 =>
   bnd (script_targetsOf N x1) fun t33 =>
   z48L0 N x0.2 (x0.2.length : Int) t33 (fun o0_w1010 =>
     z48L1 N x1.2 (x1.2.length : Int) t31 (fun o1_w1010 =>
       bnd (slices_SortFunc_change () o1_w1010) fun t94 =>
       some ((0 : Int), t94)) N (0 : Int) o0_w1010) N (0 : Int) ([] : List τ4)))
abbrev z48sg (f : SV [.v τ12, .v τ12] → BV [] → Option τ9) : AF := { ps := [.v τ12, .v τ12], bs := [], rs := [.row 0, .v τ5], cs := [.row 98 τ7 true], R := Int × List τ4, out := fun z => (((), z.1, ()), (z.2, ())), f := f }
noncomputable abbrev z48g (N : Nat) : AF := z48sg fun x _ => script_Differ N x.1 x.2.1
abbrev z48pk : SV [.row 0, .v τ5] → BV [.row 98 τ7 true] → τ9 := fun x y => (x.2.1, y.1)
def z48fn (N : Nat) : FuncId → Option Tmp → Option AF := fun f _ =>
 match f with
  | 20 => some (z19g N)
  | 64 => some (z36g N)
  | 65 => some (z25g N)
  | 66 => some (z15sg fun x y => slices_SortFunc_change x.2.1 y.1)
  | _ => none
theorem z48fn_ok (N : Nat) : FnOk (z48fn N) := by
 intro f q F h
 unfold z48fn at h
 split at h
 · cases h; exact z19sound N
 · cases h; exact z36sound N
 · cases h; exact z25sound N
 · cases h; exact z15sound
 · cases h
def z48h : Nat → Hint := fun i =>
 match i with
 | 0 => ⟨[], [3, 8, 9, 10, 35, 36, 37], [1003, 1010, 103100, 103300], [3, 8, 10], [1003, 1010, 103100], []⟩
 | 2 => ⟨[], [8, 10, 71, 72, 73], [1010, 103100], [10], [1010], []⟩
 | 100007 => ⟨[1002, 1003], [], [], [], [], []⟩
 | _ => hint0
abbrev z48E (N : Nat) : Env := mkE z48h (z48fn N) (fun i => match i with | 4 => true | 5 => true | 6 => true | 7 => true | 8 => true | 9 => true | 10 => true | 14 => true | 15 => true | 19 => true | 36 => true | 54 => true | 55 => true | 60 => true | 67 => true | 68 => true | 72 => true | 90 => true | 91 => true | _ => false) (fun _ => false)
noncomputable abbrev z48c1 : Code := cAt (bodyOf Tryz.f28) [true, true, true, true, true, false, true, false, false]
noncomputable abbrev z48c0 : Code := cAt (bodyOf Tryz.f28) [true, true, true, true, true, true, false, true, false, false]
noncomputable abbrev z48R (N : Nat) := resD (z48E N) Tryz.f28 (z48g N) z48pk
abbrev z48L0_fs : List (Nat × Sl) := [(3, .box 1003 0), (8, .mref 103100), (9, .mref 103300), (10, .row 1010), (35, .v (.sl τ3)), (36, .v τ5), (37, .v τ5)]
abbrev z48L0_bs : List (Nat × Sb) := [(1003, .cells [.v .str, .v (.sl τ3)]), (1010, .row 98 τ7 true), (103100, .map τ3), (103300, .map τ3)]
def z48L0_hd (c35 : List τ2) (c36 : Int) (κ3_0 : Str) (κ3_1 : List τ2) (t31 : List τ14) (t33 : List τ14) (s37 : Int) (w1010 : List τ4) : St := ⟨96, [(3, .box 1003 0), (8, .mref 103100), (9, .mref 103300), (10, .row 1010), (35, .v (.sl τ3) c35), (36, .v τ5 c36), (37, .v τ5 s37)], [(1003, .cells [.v .str κ3_0, .v (.sl τ3) κ3_1]), (1010, .row 98 τ7 true w1010), (103100, .map τ3 t31), (103300, .map τ3 t33)]⟩
def z48L0_tl0 (_c35 : List τ2) (_c36 : Int) (κ3_0 : Str) (κ3_1 : List τ2) (t31 : List τ14) (_t33 : List τ14) (o0_w1010 : List τ4) : St := ⟨96, [(3, .box 1003 0), (8, .mref 103100), (10, .row 1010)], [(1003, .cells [.v .str κ3_0, .v (.sl τ3) κ3_1]), (1010, .row 98 τ7 true o0_w1010), (103100, .map τ3 t31)]⟩
def z48L0_G (N : Nat) (c35 : List τ2) (c36 : Int) (κ3_0 : Str) (κ3_1 : List τ2) (t31 : List τ14) (t33 : List τ14) (s37 : Int) (w1010 : List τ4) (k : Ex → St → Option τ9) : Option τ9 :=
 z48L0 N c35 c36 t33 (fun o0_w1010 => k (.exit 0) (z48L0_tl0 c35 c36 κ3_0 κ3_1 t31 t33 o0_w1010)) N s37 w1010
abbrev z48L0_F (N : Nat) : FV z48L0_fs → HV z48L0_bs → (Ex → St → Option τ9) → Option τ9 := fun x y k => z48L0_G N x.2.2.2.2.1 x.2.2.2.2.2.1 y.1.1 y.1.2.1 y.2.2.1 y.2.2.2.1 x.2.2.2.2.2.2.1 y.2.1 k
abbrev z48L1_fs : List (Nat × Sl) := [(8, .mref 103100), (10, .row 1010), (71, .v (.sl τ3)), (72, .v τ5), (73, .v τ5)]
abbrev z48L1_bs : List (Nat × Sb) := [(1010, .row 98 τ7 true), (103100, .map τ3)]
def z48L1_hd (c71 : List τ2) (c72 : Int) (t31 : List τ14) (s73 : Int) (w1010_1 : List τ4) : St := ⟨96, [(8, .mref 103100), (10, .row 1010), (71, .v (.sl τ3) c71), (72, .v τ5 c72), (73, .v τ5 s73)], [(1010, .row 98 τ7 true w1010_1), (103100, .map τ3 t31)]⟩
def z48L1_tl2 (_c71 : List τ2) (_c72 : Int) (_t31 : List τ14) (o1_w1010 : List τ4) : St := ⟨96, [(10, .row 1010)], [(1010, .row 98 τ7 true o1_w1010)]⟩
def z48L1_G (N : Nat) (c71 : List τ2) (c72 : Int) (t31 : List τ14) (s73 : Int) (w1010_1 : List τ4) (k : Ex → St → Option τ9) : Option τ9 :=
 z48L1 N c71 c72 t31 (fun o1_w1010 => k (.exit 2) (z48L1_tl2 c71 c72 t31 o1_w1010)) N s73 w1010_1
abbrev z48L1_F (N : Nat) : FV z48L1_fs → HV z48L1_bs → (Ex → St → Option τ9) → Option τ9 := fun x y k => z48L1_G N x.2.2.1 x.2.2.2.1 y.2.1 x.2.2.2.2.1 y.1 k
noncomputable def z48LP (N : Nat) : Nat → Code → St → (Ex → St → Option τ9) → Option τ9 := fun i c =>
 match i with
 | 0 => (LPc 96 z48L0_fs z48L0_bs (z48L0_F N) (fun st k => iter (z48h 0) (exec (z48E N) N c 0) N st k))
 | 2 => (LPc 96 z48L1_fs z48L1_bs (z48L1_F N) (fun st k => iter (z48h 2) (exec (z48E N) N c 2) N st k))
 | i => fun st k => iter (z48h i) (exec (z48E N) N c i) N st k
theorem z48L1_step (N : Nat) (c71 : List τ2) (c72 : Int) (t31 : List τ14) (KX : Nat → St → Option τ9) (I : St → Option τ9) (s73 : Int) (w1010_1 : List τ4) :
  execL (z48LP N) (z48E N) z48c0 2 (z48L1_hd c71 c72 t31 s73 w1010_1) (roundK (z48h 2) I KX (z48R N)) = z48L1T N c71 c72 t31 (fun o1_w1010 => KX 2 (z48L1_tl2 c71 c72 t31 o1_w1010)) (fun s73 w1010_1 => I (z48L1_hd c71 c72 t31 s73 w1010_1)) s73 w1010_1 := by kernel_rfl
theorem z48L1_ok (N : Nat) : ∀ x y k, (∀ st, k .ret st = (z48R N) st) → iter (z48h 2) (exec (z48E N) N z48c0 2) N ⟨96, unF z48L1_fs x, unH z48L1_bs y⟩ k = z48L1_F N x y k := fun x y k hk =>
 iter_link (S := (Int) × (List τ4) × Unit) (z48h 2) _ (execL (z48LP N) (z48E N) z48c0 2) (z48R N) (fun st k hk => execL_eq _ _ N _ z48c0 2 (show LoopsOk (z48LP N) (z48E N) N (z48R N) [] from trivial) st k hk) (fun s => z48L1_hd x.2.2.1 x.2.2.2.1 y.2.1 s.1 s.2.1) k hk
  (fun self s => z48L1T N x.2.2.1 x.2.2.2.1 y.2.1 (fun o1_w1010 => k (.exit 2) (z48L1_tl2 x.2.2.1 x.2.2.2.1 y.2.1 o1_w1010)) (fun s73 w1010_1 => self (s73, w1010_1, ())) s.1 s.2.1) (fun n s => z48L1 N x.2.2.1 x.2.2.2.1 y.2.1 (fun o1_w1010 => k (.exit 2) (z48L1_tl2 x.2.2.1 x.2.2.2.1 y.2.1 o1_w1010)) n s.1 s.2.1) (fun _ => rfl) (fun _ _ => rfl)
  (fun I s => z48L1_step N x.2.2.1 x.2.2.2.1 y.2.1 (fun j => k (.exit j)) I s.1 s.2.1) N (x.2.2.2.2.1, y.1, ())
theorem z48lp2 (N : Nat) : ∀ st k, (∀ st, k .ret st = (z48R N) st) → z48LP N 2 z48c0 st k = iter (Env.hint (z48E N) 2) (exec (z48E N) N z48c0 2) N st k := fun st k hk => LPc_eq 96 z48L1_fs z48L1_bs _ _ (z48R N) (z48L1_ok N) _ st k hk (rfl)
theorem z48L0_step (N : Nat) (c35 : List τ2) (c36 : Int) (κ3_0 : Str) (κ3_1 : List τ2) (t31 : List τ14) (t33 : List τ14) (KX : Nat → St → Option τ9) (I : St → Option τ9) (s37 : Int) (w1010 : List τ4) :
  execL (z48LP N) (z48E N) z48c1 0 (z48L0_hd c35 c36 κ3_0 κ3_1 t31 t33 s37 w1010) (roundK (z48h 0) I KX (z48R N)) = z48L0T N c35 c36 t33 (fun o0_w1010 => KX 0 (z48L0_tl0 c35 c36 κ3_0 κ3_1 t31 t33 o0_w1010)) (fun s37 w1010 => I (z48L0_hd c35 c36 κ3_0 κ3_1 t31 t33 s37 w1010)) s37 w1010 := by kernel_rfl
theorem z48L0_ok (N : Nat) : ∀ x y k, (∀ st, k .ret st = (z48R N) st) → iter (z48h 0) (exec (z48E N) N z48c1 0) N ⟨96, unF z48L0_fs x, unH z48L0_bs y⟩ k = z48L0_F N x y k := fun x y k hk =>
 iter_link (S := (Int) × (List τ4) × Unit) (z48h 0) _ (execL (z48LP N) (z48E N) z48c1 0) (z48R N) (fun st k hk => execL_eq _ _ N _ z48c1 0 (show LoopsOk (z48LP N) (z48E N) N (z48R N) [] from trivial) st k hk) (fun s => z48L0_hd x.2.2.2.2.1 x.2.2.2.2.2.1 y.1.1 y.1.2.1 y.2.2.1 y.2.2.2.1 s.1 s.2.1) k hk
  (fun self s => z48L0T N x.2.2.2.2.1 x.2.2.2.2.2.1 y.2.2.2.1 (fun o0_w1010 => k (.exit 0) (z48L0_tl0 x.2.2.2.2.1 x.2.2.2.2.2.1 y.1.1 y.1.2.1 y.2.2.1 y.2.2.2.1 o0_w1010)) (fun s37 w1010 => self (s37, w1010, ())) s.1 s.2.1) (fun n s => z48L0 N x.2.2.2.2.1 x.2.2.2.2.2.1 y.2.2.2.1 (fun o0_w1010 => k (.exit 0) (z48L0_tl0 x.2.2.2.2.1 x.2.2.2.2.2.1 y.1.1 y.1.2.1 y.2.2.1 y.2.2.2.1 o0_w1010)) n s.1 s.2.1) (fun _ => rfl) (fun _ _ => rfl)
  (fun I s => z48L0_step N x.2.2.2.2.1 x.2.2.2.2.2.1 y.1.1 y.1.2.1 y.2.2.1 y.2.2.2.1 (fun j => k (.exit j)) I s.1 s.2.1) N (x.2.2.2.2.2.2.1, y.2.1, ())
theorem z48lp0 (N : Nat) : ∀ st k, (∀ st, k .ret st = (z48R N) st) → z48LP N 0 z48c1 st k = iter (Env.hint (z48E N) 0) (exec (z48E N) N z48c1 0) N st k := fun st k hk => LPc_eq 96 z48L0_fs z48L0_bs _ _ (z48R N) (z48L0_ok N) _ st k hk (rfl)
theorem z48core (N : Nat) (x : SV [.v τ12, .v τ12]) (y : BV []) : runL (z48E N) Tryz.f28 (z48g N) z48pk (z48LP N) x y = script_Differ N x.1 x.2.1 := by kernel_rfl
theorem z48sound (N : Nat) : Snd 28 (z48g N) :=
 runD_sound (mkE_ok z48h (z48fn N) _ _ (z48fn_ok N)) Tryz.func28 rfl Tryz.call28 (z48g N) z48pk (fun _ _ => rfl) N (fun x y _ h => ((runL_eq (z48E N) N Tryz.f28 (z48g N) z48pk (z48LP N) (show LoopsOk (z48LP N) (z48E N) N (z48R N) [(0, z48c1), (2, z48c0)] from ⟨z48lp0 N, z48lp2 N, trivial⟩) x y).trans (z48core N x y)).trans h)
def z13L0T (_N : Nat) (c9 : List τ15) (c10 : Int) (k0 : Int → Option τ15) (self : Int → Int → Option τ15) (s3 : Int) (s11 : Int) : Option τ15 :=
 br (decide (s11 < c10))
  (bnd (geti c9 s11) fun t13 =>
  br (decide ((IntKind.i64.wrap (s3 + (t13.length : Int))) < (0 : Int)))
   none
   (self (IntKind.i64.wrap (s3 + (t13.length : Int))) (IntKind.i64.wrap (s11 + (1 : Int)))))
  (k0 s3)
def z13L0 (N : Nat) (c9 : List τ15) (c10 : Int) (k0 : Int → Option τ15) : Nat → Int → Int → Option τ15
 | 0, _, _ => none
 | n + 1, s3, s11 => z13L0T N c9 c10 k0 (z13L0 N c9 c10 k0 n) s3 s11
def z13L1T (_N : Nat) (x0 : List τ15) (c26 : Int) (k2 : τ15 → Option τ15) (self : Int → τ15 → Option τ15) (s27 : Int) (w102400 : List τ2) : Option τ15 :=
 br (decide (s27 < c26))
  (bnd (geti x0 s27) fun t29 =>
  br (decide ((w102400.length + t29.length) * (24 * Ty.sz τ3) ≤ 140737488355328))
   (self (IntKind.i64.wrap (s27 + (1 : Int))) (w102400 ++ t29))
   none)
  (k2 w102400)
def z13L1 (N : Nat) (x0 : List τ15) (c26 : Int) (k2 : τ15 → Option τ15) : Nat → Int → τ15 → Option τ15
 | 0, _, _ => none
 | n + 1, s27, w102400 => z13L1T N x0 c26 k2 (z13L1 N x0 c26 k2 n) s27 w102400
def slices_Concat_api_Target (N : Nat) (x0 : List τ15) : Option τ15 :=
 z13L0 N x0 (x0.length : Int) (fun o0_3 =>
   bnd (slices_Grow_target o0_3) fun t24 =>
   z13L1 N x0 (x0.length : Int) (fun o1_w102400 =>
     some o1_w102400) N (0 : Int) t24) N (0 : Int) (0 : Int)
abbrev z13sg (f : SV [.v (.sl (.sl τ3))] → BV [] → Option τ15) : AF := { ps := [.v (.sl (.sl τ3))], bs := [], rs := [.row 0], cs := [.row 40 τ3 false], R := List τ2, out := fun z => (((), ()), (z, ())), f := f }
noncomputable abbrev z13g (N : Nat) : AF := z13sg fun x _ => slices_Concat_api_Target N x.1
abbrev z13pk : SV [.row 0] → BV [.row 40 τ3 false] → τ15 := fun _ y => y.1
def z13fn (_N : Nat) : FuncId → Option Tmp → Option AF := fun f _ =>
 match f with
  | 113 => some (z26sg fun x _ => slices_Grow_target x.2.1)
  | _ => none
theorem z13fn_ok (N : Nat) : FnOk (z13fn N) := by
 intro f q F h
 unfold z13fn at h
 split at h
 · cases h; exact z26sound
 · cases h
def z13h : Nat → Hint := fun i =>
 match i with
 | 0 => ⟨[], [0, 3, 9, 10, 11], [], [0, 3], [], []⟩
 | 2 => ⟨[], [6, 25, 26, 27], [102400], [6], [102400], []⟩
 | _ => hint0
abbrev z13E (N : Nat) : Env := mkE z13h (z13fn N) FF FF
noncomputable abbrev z13c1 : Code := cAt (bodyOf Tryz.f69) [true, true, false, true, false, false]
noncomputable abbrev z13c0 : Code := cAt (bodyOf Tryz.f69) [true, true, true, true, false, true, false, false]
noncomputable abbrev z13R (N : Nat) := resD (z13E N) Tryz.f69 (z13g N) z13pk
abbrev z13L0_fs : List (Nat × Sl) := [(0, .v (.sl (.sl τ3))), (3, .v τ5), (9, .v (.sl (.sl τ3))), (10, .v τ5), (11, .v τ5)]
abbrev z13L0_bs : List (Nat × Sb) := []
def z13L0_hd (x0 : List τ15) (c9 : List τ15) (c10 : Int) (s3 : Int) (s11 : Int) : St := ⟨36, [(0, .v (.sl (.sl τ3)) x0), (3, .v τ5 s3), (9, .v (.sl (.sl τ3)) c9), (10, .v τ5 c10), (11, .v τ5 s11)], []⟩
def z13L0_tl0 (x0 : List τ15) (_c9 : List τ15) (_c10 : Int) (o0_3 : Int) : St := ⟨36, [(0, .v (.sl (.sl τ3)) x0), (3, .v τ5 o0_3)], []⟩
def z13L0_G (N : Nat) (x0 : List τ15) (c9 : List τ15) (c10 : Int) (s3 : Int) (s11 : Int) (k : Ex → St → Option τ15) : Option τ15 :=
 z13L0 N c9 c10 (fun o0_3 => k (.exit 0) (z13L0_tl0 x0 c9 c10 o0_3)) N s3 s11
abbrev z13L0_F (N : Nat) : FV z13L0_fs → HV z13L0_bs → (Ex → St → Option τ15) → Option τ15 := fun x _ k => z13L0_G N x.1 x.2.2.1 x.2.2.2.1 x.2.1 x.2.2.2.2.1 k
abbrev z13L1_fs : List (Nat × Sl) := [(6, .row 102400), (25, .v (.sl (.sl τ3))), (26, .v τ5), (27, .v τ5)]
abbrev z13L1_bs : List (Nat × Sb) := [(102400, .row 40 τ3 false)]
def z13L1_hd (x0 : List τ15) (c26 : Int) (s27 : Int) (w102400 : List τ2) : St := ⟨36, [(6, .row 102400), (25, .v (.sl (.sl τ3)) x0), (26, .v τ5 c26), (27, .v τ5 s27)], [(102400, .row 40 τ3 false w102400)]⟩
def z13L1_tl2 (_x0 : List τ15) (_c26 : Int) (o1_w102400 : List τ2) : St := ⟨36, [(6, .row 102400)], [(102400, .row 40 τ3 false o1_w102400)]⟩
def z13L1_G (N : Nat) (x0 : List τ15) (c26 : Int) (s27 : Int) (w102400 : List τ2) (k : Ex → St → Option τ15) : Option τ15 :=
 z13L1 N x0 c26 (fun o1_w102400 => k (.exit 2) (z13L1_tl2 x0 c26 o1_w102400)) N s27 w102400
abbrev z13L1_F (N : Nat) : FV z13L1_fs → HV z13L1_bs → (Ex → St → Option τ15) → Option τ15 := fun x y k => z13L1_G N x.2.1 x.2.2.1 x.2.2.2.1 y.1 k
noncomputable def z13LP (N : Nat) : Nat → Code → St → (Ex → St → Option τ15) → Option τ15 := fun i c =>
 match i with
 | 0 => (LPc 36 z13L0_fs z13L0_bs (z13L0_F N) (fun st k => iter (z13h 0) (exec (z13E N) N c 0) N st k))
 | 2 => (LPc 36 z13L1_fs z13L1_bs (z13L1_F N) (fun st k => iter (z13h 2) (exec (z13E N) N c 2) N st k))
 | i => fun st k => iter (z13h i) (exec (z13E N) N c i) N st k
theorem z13L1_step (N : Nat) (x0 : List τ15) (c26 : Int) (KX : Nat → St → Option τ15) (I : St → Option τ15) (s27 : Int) (w102400 : List τ2) :
  execL (z13LP N) (z13E N) z13c0 2 (z13L1_hd x0 c26 s27 w102400) (roundK (z13h 2) I KX (z13R N)) = z13L1T N x0 c26 (fun o1_w102400 => KX 2 (z13L1_tl2 x0 c26 o1_w102400)) (fun s27 w102400 => I (z13L1_hd x0 c26 s27 w102400)) s27 w102400 := by kernel_rfl
theorem z13L1_ok (N : Nat) : ∀ x y k, (∀ st, k .ret st = (z13R N) st) → iter (z13h 2) (exec (z13E N) N z13c0 2) N ⟨36, unF z13L1_fs x, unH z13L1_bs y⟩ k = z13L1_F N x y k := fun x y k hk =>
 iter_link (S := (Int) × τ15 × Unit) (z13h 2) _ (execL (z13LP N) (z13E N) z13c0 2) (z13R N) (fun st k hk => execL_eq _ _ N _ z13c0 2 (show LoopsOk (z13LP N) (z13E N) N (z13R N) [] from trivial) st k hk) (fun s => z13L1_hd x.2.1 x.2.2.1 s.1 s.2.1) k hk
  (fun self s => z13L1T N x.2.1 x.2.2.1 (fun o1_w102400 => k (.exit 2) (z13L1_tl2 x.2.1 x.2.2.1 o1_w102400)) (fun s27 w102400 => self (s27, w102400, ())) s.1 s.2.1) (fun n s => z13L1 N x.2.1 x.2.2.1 (fun o1_w102400 => k (.exit 2) (z13L1_tl2 x.2.1 x.2.2.1 o1_w102400)) n s.1 s.2.1) (fun _ => rfl) (fun _ _ => rfl)
  (fun I s => z13L1_step N x.2.1 x.2.2.1 (fun j => k (.exit j)) I s.1 s.2.1) N (x.2.2.2.1, y.1, ())
theorem z13lp2 (N : Nat) : ∀ st k, (∀ st, k .ret st = (z13R N) st) → z13LP N 2 z13c0 st k = iter (Env.hint (z13E N) 2) (exec (z13E N) N z13c0 2) N st k := fun st k hk => LPc_eq 36 z13L1_fs z13L1_bs _ _ (z13R N) (z13L1_ok N) _ st k hk (rfl)
theorem z13L0_step (N : Nat) (x0 : List τ15) (c9 : List τ15) (c10 : Int) (KX : Nat → St → Option τ15) (I : St → Option τ15) (s3 : Int) (s11 : Int) :
  execL (z13LP N) (z13E N) z13c1 0 (z13L0_hd x0 c9 c10 s3 s11) (roundK (z13h 0) I KX (z13R N)) = z13L0T N c9 c10 (fun o0_3 => KX 0 (z13L0_tl0 x0 c9 c10 o0_3)) (fun s3 s11 => I (z13L0_hd x0 c9 c10 s3 s11)) s3 s11 := by kernel_rfl
theorem z13L0_ok (N : Nat) : ∀ x y k, (∀ st, k .ret st = (z13R N) st) → iter (z13h 0) (exec (z13E N) N z13c1 0) N ⟨36, unF z13L0_fs x, unH z13L0_bs y⟩ k = z13L0_F N x y k := fun x _ k hk =>
 iter_link (S := (Int) × (Int) × Unit) (z13h 0) _ (execL (z13LP N) (z13E N) z13c1 0) (z13R N) (fun st k hk => execL_eq _ _ N _ z13c1 0 (show LoopsOk (z13LP N) (z13E N) N (z13R N) [] from trivial) st k hk) (fun s => z13L0_hd x.1 x.2.2.1 x.2.2.2.1 s.1 s.2.1) k hk
  (fun self s => z13L0T N x.2.2.1 x.2.2.2.1 (fun o0_3 => k (.exit 0) (z13L0_tl0 x.1 x.2.2.1 x.2.2.2.1 o0_3)) (fun s3 s11 => self (s3, s11, ())) s.1 s.2.1) (fun n s => z13L0 N x.2.2.1 x.2.2.2.1 (fun o0_3 => k (.exit 0) (z13L0_tl0 x.1 x.2.2.1 x.2.2.2.1 o0_3)) n s.1 s.2.1) (fun _ => rfl) (fun _ _ => rfl)
  (fun I s => z13L0_step N x.1 x.2.2.1 x.2.2.2.1 (fun j => k (.exit j)) I s.1 s.2.1) N (x.2.1, x.2.2.2.2.1, ())
theorem z13lp0 (N : Nat) : ∀ st k, (∀ st, k .ret st = (z13R N) st) → z13LP N 0 z13c1 st k = iter (Env.hint (z13E N) 0) (exec (z13E N) N z13c1 0) N st k := fun st k hk => LPc_eq 36 z13L0_fs z13L0_bs _ _ (z13R N) (z13L0_ok N) _ st k hk (rfl)
theorem z13core (N : Nat) (x : SV [.v (.sl (.sl τ3))]) (y : BV []) : runL (z13E N) Tryz.f69 (z13g N) z13pk (z13LP N) x y = slices_Concat_api_Target N x.1 := by kernel_rfl
theorem z13sound (N : Nat) : Snd 69 (z13g N) :=
 sndL (z13fn_ok N) Tryz.func69 rfl Tryz.call69 (z13g N) z13pk (fun _ _ => rfl) N (z13LP N) (show LoopsOk (z13LP N) (z13E N) N (z13R N) [(0, z13c1), (2, z13c0)] from ⟨z13lp0 N, z13lp2 N, trivial⟩) (z13core N)
def z47L0T (_N : Nat) (x1 : Str) (c9 : List τ2) (c10 : Int) (k0 : Option (τ2 × Bool)) (self : Int → Option (τ2 × Bool)) (s11 : Int) : Option (τ2 × Bool) :=
 br (decide (s11 < c10))
  (bnd (geti c9 s11) fun t13 =>
  br (t13.1 == x1)
   (some (t13, true))
   (self (IntKind.i64.wrap (s11 + (1 : Int)))))
  (k0)
def z47L0 (N : Nat) (x1 : Str) (c9 : List τ2) (c10 : Int) (k0 : Option (τ2 × Bool)) : Nat → Int → Option (τ2 × Bool)
 | 0, _ => none
 | n + 1, s11 => z47L0T N x1 c9 c10 k0 (z47L0 N x1 c9 c10 k0 n) s11
def ref2_targetOf (N : Nat) (x0 : Str × List τ2) (x1 : Str) : Option (τ2 × Bool) :=
 z47L0 N x1 x0.2 (x0.2.length : Int) (some ((([] : Str), (([] : Str), ([] : List τ0))), false)) N (0 : Int)
abbrev z47sg (f : SV [.v τ12, .v .str] → BV [] → Option (τ2 × Bool)) : AF := { ps := [.v τ12, .v .str], bs := [], rs := [.v τ3, .v .bool], cs := [], R := τ2 × Bool, out := fun z => ((z.1, z.2, ()), ()), f := f }
noncomputable abbrev z47g (N : Nat) : AF := z47sg fun x _ => ref2_targetOf N x.1 x.2.1
abbrev z47pk : SV [.v τ3, .v .bool] → BV [] → (τ2 × Bool) := fun x _ => (x.1, x.2.1)
def z47fn (_N : Nat) : FuncId → Option Tmp → Option AF := fun f _ =>
 match f with
  | _ => none
theorem z47fn_ok (N : Nat) : FnOk (z47fn N) := by
 intro f q F h
 unfold z47fn at h
 split at h
 · cases h
def z47h : Nat → Hint := fun i =>
 match i with
 | 0 => ⟨[], [1, 4, 9, 10, 11], [1004], [4], [1004], []⟩
 | _ => hint0
abbrev z47E (N : Nat) : Env := mkE z47h (z47fn N) FF FF
noncomputable abbrev z47c0 : Code := cAt (bodyOf Tryz.f72) [true, false, true, false, false]
noncomputable abbrev z47R (N : Nat) := resD (z47E N) Tryz.f72 (z47g N) z47pk
abbrev z47L0_fs : List (Nat × Sl) := [(1, .v .str), (4, .box 1004 0), (9, .v (.sl τ3)), (10, .v τ5), (11, .v τ5)]
abbrev z47L0_bs : List (Nat × Sb) := [(1004, .cells [.v .str, .v .str, .nilS])]
def z47L0_hd (x1 : Str) (c9 : List τ2) (c10 : Int) (κ4_0 : Str) (κ4_1 : Str) (s11 : Int) : St := ⟨22, [(1, .v .str x1), (4, .box 1004 0), (9, .v (.sl τ3) c9), (10, .v τ5 c10), (11, .v τ5 s11)], [(1004, .cells [.v .str κ4_0, .v .str κ4_1, .nilS])]⟩
def z47L0_tl0 (_x1 : Str) (_c9 : List τ2) (_c10 : Int) (κ4_0 : Str) (κ4_1 : Str) : St := ⟨22, [(4, .box 1004 0)], [(1004, .cells [.v .str κ4_0, .v .str κ4_1, .nilS])]⟩
def z47L0_G (N : Nat) (x1 : Str) (c9 : List τ2) (c10 : Int) (κ4_0 : Str) (κ4_1 : Str) (s11 : Int) (k : Ex → St → Option (τ2 × Bool)) : Option (τ2 × Bool) :=
 z47L0 N x1 c9 c10 (k (.exit 0) (z47L0_tl0 x1 c9 c10 κ4_0 κ4_1)) N s11
abbrev z47L0_F (N : Nat) : FV z47L0_fs → HV z47L0_bs → (Ex → St → Option (τ2 × Bool)) → Option (τ2 × Bool) := fun x y k => z47L0_G N x.1 x.2.2.1 x.2.2.2.1 y.1.1 y.1.2.1 x.2.2.2.2.1 k
noncomputable def z47LP (N : Nat) : Nat → Code → St → (Ex → St → Option (τ2 × Bool)) → Option (τ2 × Bool) := fun i c =>
 match i with
 | 0 => (LPc 22 z47L0_fs z47L0_bs (z47L0_F N) (fun st k => iter (z47h 0) (exec (z47E N) N c 0) N st k))
 | i => fun st k => iter (z47h i) (exec (z47E N) N c i) N st k
theorem z47L0_step (N : Nat) (x1 : Str) (c9 : List τ2) (c10 : Int) (κ4_0 : Str) (κ4_1 : Str) (KX : Nat → St → Option (τ2 × Bool)) (I : St → Option (τ2 × Bool)) (s11 : Int) :
  execL (z47LP N) (z47E N) z47c0 0 (z47L0_hd x1 c9 c10 κ4_0 κ4_1 s11) (roundK (z47h 0) I KX (z47R N)) = z47L0T N x1 c9 c10 (KX 0 (z47L0_tl0 x1 c9 c10 κ4_0 κ4_1)) (fun s11 => I (z47L0_hd x1 c9 c10 κ4_0 κ4_1 s11)) s11 := by kernel_rfl
theorem z47L0_ok (N : Nat) : ∀ x y k, (∀ st, k .ret st = (z47R N) st) → iter (z47h 0) (exec (z47E N) N z47c0 0) N ⟨22, unF z47L0_fs x, unH z47L0_bs y⟩ k = z47L0_F N x y k := fun x y k hk =>
 iter_link (S := (Int) × Unit) (z47h 0) _ (execL (z47LP N) (z47E N) z47c0 0) (z47R N) (fun st k hk => execL_eq _ _ N _ z47c0 0 (show LoopsOk (z47LP N) (z47E N) N (z47R N) [] from trivial) st k hk) (fun s => z47L0_hd x.1 x.2.2.1 x.2.2.2.1 y.1.1 y.1.2.1 s.1) k hk
  (fun self s => z47L0T N x.1 x.2.2.1 x.2.2.2.1 (k (.exit 0) (z47L0_tl0 x.1 x.2.2.1 x.2.2.2.1 y.1.1 y.1.2.1)) (fun s11 => self (s11, ())) s.1) (fun n s => z47L0 N x.1 x.2.2.1 x.2.2.2.1 (k (.exit 0) (z47L0_tl0 x.1 x.2.2.1 x.2.2.2.1 y.1.1 y.1.2.1)) n s.1) (fun _ => rfl) (fun _ _ => rfl)
  (fun I s => z47L0_step N x.1 x.2.2.1 x.2.2.2.1 y.1.1 y.1.2.1 (fun j => k (.exit j)) I s.1) N (x.2.2.2.2.1, ())
theorem z47lp0 (N : Nat) : ∀ st k, (∀ st, k .ret st = (z47R N) st) → z47LP N 0 z47c0 st k = iter (Env.hint (z47E N) 0) (exec (z47E N) N z47c0 0) N st k := fun st k hk => LPc_eq 22 z47L0_fs z47L0_bs _ _ (z47R N) (z47L0_ok N) _ st k hk (rfl)
theorem z47core (N : Nat) (x : SV [.v τ12, .v .str]) (y : BV []) : runL (z47E N) Tryz.f72 (z47g N) z47pk (z47LP N) x y = ref2_targetOf N x.1 x.2.1 := by kernel_rfl
theorem z47sound (N : Nat) : Snd 72 (z47g N) :=
 sndL (z47fn_ok N) Tryz.func72 rfl Tryz.call72 (z47g N) z47pk (fun _ _ => rfl) N (z47LP N) (show LoopsOk (z47LP N) (z47E N) N (z47R N) [(0, z47c0)] from ⟨z47lp0 N, trivial⟩) (z47core N)
def z14L0T (_N : Nat) (c9 : List τ8) (c10 : Int) (k0 : Int → Option τ8) (self : Int → Int → Option τ8) (s3 : Int) (s11 : Int) : Option τ8 :=
 br (decide (s11 < c10))
  (bnd (geti c9 s11) fun t13 =>
  br (decide ((IntKind.i64.wrap (s3 + (t13.length : Int))) < (0 : Int)))
   none
   (self (IntKind.i64.wrap (s3 + (t13.length : Int))) (IntKind.i64.wrap (s11 + (1 : Int)))))
  (k0 s3)
def z14L0 (N : Nat) (c9 : List τ8) (c10 : Int) (k0 : Int → Option τ8) : Nat → Int → Int → Option τ8
 | 0, _, _ => none
 | n + 1, s3, s11 => z14L0T N c9 c10 k0 (z14L0 N c9 c10 k0 n) s3 s11
def z14L1T (_N : Nat) (x0 : List τ8) (c26 : Int) (k2 : τ8 → Option τ8) (self : Int → τ8 → Option τ8) (s27 : Int) (w102400 : List τ0) : Option τ8 :=
 br (decide (s27 < c26))
  (bnd (geti x0 s27) fun t29 =>
  br (decide ((w102400.length + t29.length) * (24 * Ty.sz τ11) ≤ 140737488355328))
   (self (IntKind.i64.wrap (s27 + (1 : Int))) (w102400 ++ t29))
   none)
  (k2 w102400)
def z14L1 (N : Nat) (x0 : List τ8) (c26 : Int) (k2 : τ8 → Option τ8) : Nat → Int → τ8 → Option τ8
 | 0, _, _ => none
 | n + 1, s27, w102400 => z14L1T N x0 c26 k2 (z14L1 N x0 c26 k2 n) s27 w102400
def slices_Concat_api_Attr (N : Nat) (x0 : List τ8) : Option τ8 :=
 z14L0 N x0 (x0.length : Int) (fun o0_3 =>
   bnd (slices_Grow_attr o0_3) fun t24 =>
   z14L1 N x0 (x0.length : Int) (fun o1_w102400 =>
     some o1_w102400) N (0 : Int) t24) N (0 : Int) (0 : Int)
abbrev z14sg (f : SV [.v (.sl τ1)] → BV [] → Option τ8) : AF := { ps := [.v (.sl τ1)], bs := [], rs := [.row 0], cs := [.row 84 τ11 false], R := List τ0, out := fun z => (((), ()), (z, ())), f := f }
noncomputable abbrev z14g (N : Nat) : AF := z14sg fun x _ => slices_Concat_api_Attr N x.1
abbrev z14pk : SV [.row 0] → BV [.row 84 τ11 false] → τ8 := fun _ y => y.1
def z14fn (_N : Nat) : FuncId → Option Tmp → Option AF := fun f _ =>
 match f with
  | 163 => some (z37sg fun x _ => slices_Grow_attr x.2.1)
  | _ => none
theorem z14fn_ok (N : Nat) : FnOk (z14fn N) := by
 intro f q F h
 unfold z14fn at h
 split at h
 · cases h; exact z37sound
 · cases h
def z14h : Nat → Hint := fun i =>
 match i with
 | 0 => ⟨[], [0, 3, 9, 10, 11], [], [0, 3], [], []⟩
 | 2 => ⟨[], [6, 25, 26, 27], [102400], [6], [102400], []⟩
 | _ => hint0
abbrev z14E (N : Nat) : Env := mkE z14h (z14fn N) FF FF
noncomputable abbrev z14c1 : Code := cAt (bodyOf Tryz.f115) [true, true, false, true, false, false]
noncomputable abbrev z14c0 : Code := cAt (bodyOf Tryz.f115) [true, true, true, true, false, true, false, false]
noncomputable abbrev z14R (N : Nat) := resD (z14E N) Tryz.f115 (z14g N) z14pk
abbrev z14L0_fs : List (Nat × Sl) := [(0, .v (.sl τ1)), (3, .v τ5), (9, .v (.sl τ1)), (10, .v τ5), (11, .v τ5)]
abbrev z14L0_bs : List (Nat × Sb) := []
def z14L0_hd (x0 : List τ8) (c9 : List τ8) (c10 : Int) (s3 : Int) (s11 : Int) : St := ⟨36, [(0, .v (.sl τ1) x0), (3, .v τ5 s3), (9, .v (.sl τ1) c9), (10, .v τ5 c10), (11, .v τ5 s11)], []⟩
def z14L0_tl0 (x0 : List τ8) (_c9 : List τ8) (_c10 : Int) (o0_3 : Int) : St := ⟨36, [(0, .v (.sl τ1) x0), (3, .v τ5 o0_3)], []⟩
def z14L0_G (N : Nat) (x0 : List τ8) (c9 : List τ8) (c10 : Int) (s3 : Int) (s11 : Int) (k : Ex → St → Option τ8) : Option τ8 :=
 z14L0 N c9 c10 (fun o0_3 => k (.exit 0) (z14L0_tl0 x0 c9 c10 o0_3)) N s3 s11
abbrev z14L0_F (N : Nat) : FV z14L0_fs → HV z14L0_bs → (Ex → St → Option τ8) → Option τ8 := fun x _ k => z14L0_G N x.1 x.2.2.1 x.2.2.2.1 x.2.1 x.2.2.2.2.1 k
abbrev z14L1_fs : List (Nat × Sl) := [(6, .row 102400), (25, .v (.sl τ1)), (26, .v τ5), (27, .v τ5)]
abbrev z14L1_bs : List (Nat × Sb) := [(102400, .row 84 τ11 false)]
def z14L1_hd (x0 : List τ8) (c26 : Int) (s27 : Int) (w102400 : List τ0) : St := ⟨36, [(6, .row 102400), (25, .v (.sl τ1) x0), (26, .v τ5 c26), (27, .v τ5 s27)], [(102400, .row 84 τ11 false w102400)]⟩
def z14L1_tl2 (_x0 : List τ8) (_c26 : Int) (o1_w102400 : List τ0) : St := ⟨36, [(6, .row 102400)], [(102400, .row 84 τ11 false o1_w102400)]⟩
def z14L1_G (N : Nat) (x0 : List τ8) (c26 : Int) (s27 : Int) (w102400 : List τ0) (k : Ex → St → Option τ8) : Option τ8 :=
 z14L1 N x0 c26 (fun o1_w102400 => k (.exit 2) (z14L1_tl2 x0 c26 o1_w102400)) N s27 w102400
abbrev z14L1_F (N : Nat) : FV z14L1_fs → HV z14L1_bs → (Ex → St → Option τ8) → Option τ8 := fun x y k => z14L1_G N x.2.1 x.2.2.1 x.2.2.2.1 y.1 k
noncomputable def z14LP (N : Nat) : Nat → Code → St → (Ex → St → Option τ8) → Option τ8 := fun i c =>
 match i with
 | 0 => (LPc 36 z14L0_fs z14L0_bs (z14L0_F N) (fun st k => iter (z14h 0) (exec (z14E N) N c 0) N st k))
 | 2 => (LPc 36 z14L1_fs z14L1_bs (z14L1_F N) (fun st k => iter (z14h 2) (exec (z14E N) N c 2) N st k))
 | i => fun st k => iter (z14h i) (exec (z14E N) N c i) N st k
theorem z14L1_step (N : Nat) (x0 : List τ8) (c26 : Int) (KX : Nat → St → Option τ8) (I : St → Option τ8) (s27 : Int) (w102400 : List τ0) :
  execL (z14LP N) (z14E N) z14c0 2 (z14L1_hd x0 c26 s27 w102400) (roundK (z14h 2) I KX (z14R N)) = z14L1T N x0 c26 (fun o1_w102400 => KX 2 (z14L1_tl2 x0 c26 o1_w102400)) (fun s27 w102400 => I (z14L1_hd x0 c26 s27 w102400)) s27 w102400 := by kernel_rfl
theorem z14L1_ok (N : Nat) : ∀ x y k, (∀ st, k .ret st = (z14R N) st) → iter (z14h 2) (exec (z14E N) N z14c0 2) N ⟨36, unF z14L1_fs x, unH z14L1_bs y⟩ k = z14L1_F N x y k := fun x y k hk =>
 iter_link (S := (Int) × τ8 × Unit) (z14h 2) _ (execL (z14LP N) (z14E N) z14c0 2) (z14R N) (fun st k hk => execL_eq _ _ N _ z14c0 2 (show LoopsOk (z14LP N) (z14E N) N (z14R N) [] from trivial) st k hk) (fun s => z14L1_hd x.2.1 x.2.2.1 s.1 s.2.1) k hk
  (fun self s => z14L1T N x.2.1 x.2.2.1 (fun o1_w102400 => k (.exit 2) (z14L1_tl2 x.2.1 x.2.2.1 o1_w102400)) (fun s27 w102400 => self (s27, w102400, ())) s.1 s.2.1) (fun n s => z14L1 N x.2.1 x.2.2.1 (fun o1_w102400 => k (.exit 2) (z14L1_tl2 x.2.1 x.2.2.1 o1_w102400)) n s.1 s.2.1) (fun _ => rfl) (fun _ _ => rfl)
  (fun I s => z14L1_step N x.2.1 x.2.2.1 (fun j => k (.exit j)) I s.1 s.2.1) N (x.2.2.2.1, y.1, ())
theorem z14lp2 (N : Nat) : ∀ st k, (∀ st, k .ret st = (z14R N) st) → z14LP N 2 z14c0 st k = iter (Env.hint (z14E N) 2) (exec (z14E N) N z14c0 2) N st k := fun st k hk => LPc_eq 36 z14L1_fs z14L1_bs _ _ (z14R N) (z14L1_ok N) _ st k hk (rfl)
theorem z14L0_step (N : Nat) (x0 : List τ8) (c9 : List τ8) (c10 : Int) (KX : Nat → St → Option τ8) (I : St → Option τ8) (s3 : Int) (s11 : Int) :
  execL (z14LP N) (z14E N) z14c1 0 (z14L0_hd x0 c9 c10 s3 s11) (roundK (z14h 0) I KX (z14R N)) = z14L0T N c9 c10 (fun o0_3 => KX 0 (z14L0_tl0 x0 c9 c10 o0_3)) (fun s3 s11 => I (z14L0_hd x0 c9 c10 s3 s11)) s3 s11 := by kernel_rfl
theorem z14L0_ok (N : Nat) : ∀ x y k, (∀ st, k .ret st = (z14R N) st) → iter (z14h 0) (exec (z14E N) N z14c1 0) N ⟨36, unF z14L0_fs x, unH z14L0_bs y⟩ k = z14L0_F N x y k := fun x _ k hk =>
 iter_link (S := (Int) × (Int) × Unit) (z14h 0) _ (execL (z14LP N) (z14E N) z14c1 0) (z14R N) (fun st k hk => execL_eq _ _ N _ z14c1 0 (show LoopsOk (z14LP N) (z14E N) N (z14R N) [] from trivial) st k hk) (fun s => z14L0_hd x.1 x.2.2.1 x.2.2.2.1 s.1 s.2.1) k hk
  (fun self s => z14L0T N x.2.2.1 x.2.2.2.1 (fun o0_3 => k (.exit 0) (z14L0_tl0 x.1 x.2.2.1 x.2.2.2.1 o0_3)) (fun s3 s11 => self (s3, s11, ())) s.1 s.2.1) (fun n s => z14L0 N x.2.2.1 x.2.2.2.1 (fun o0_3 => k (.exit 0) (z14L0_tl0 x.1 x.2.2.1 x.2.2.2.1 o0_3)) n s.1 s.2.1) (fun _ => rfl) (fun _ _ => rfl)
  (fun I s => z14L0_step N x.1 x.2.2.1 x.2.2.2.1 (fun j => k (.exit j)) I s.1 s.2.1) N (x.2.1, x.2.2.2.2.1, ())
theorem z14lp0 (N : Nat) : ∀ st k, (∀ st, k .ret st = (z14R N) st) → z14LP N 0 z14c1 st k = iter (Env.hint (z14E N) 0) (exec (z14E N) N z14c1 0) N st k := fun st k hk => LPc_eq 36 z14L0_fs z14L0_bs _ _ (z14R N) (z14L0_ok N) _ st k hk (rfl)
theorem z14core (N : Nat) (x : SV [.v (.sl τ1)]) (y : BV []) : runL (z14E N) Tryz.f115 (z14g N) z14pk (z14LP N) x y = slices_Concat_api_Attr N x.1 := by kernel_rfl
theorem z14sound (N : Nat) : Snd 115 (z14g N) :=
 sndL (z14fn_ok N) Tryz.func115 rfl Tryz.call115 (z14g N) z14pk (fun _ _ => rfl) N (z14LP N) (show LoopsOk (z14LP N) (z14E N) N (z14R N) [(0, z14c1), (2, z14c0)] from ⟨z14lp0 N, z14lp2 N, trivial⟩) (z14core N)
def z41L0T (_N : Nat) (c21 : Int) (t20 : List τ0) (k0 : τ10 → Option τ10) (self : Int → τ10 → Option τ10) (s22 : Int) (w1005 : List Str) : Option τ10 :=
 br (decide (s22 < c21))
  (bnd (geti t20 s22) fun t24 =>
  br (decide ((w1005.length + [t24.1].length) * (24 * Ty.sz .str) ≤ 140737488355328))
   (self (IntKind.i64.wrap (s22 + (1 : Int))) (w1005 ++ [t24.1]))
   none)
  (k0 w1005)
def z41L0 (N : Nat) (c21 : Int) (t20 : List τ0) (k0 : τ10 → Option τ10) : Nat → Int → τ10 → Option τ10
 | 0, _, _ => none
 | n + 1, s22, w1005 => z41L0T N c21 t20 k0 (z41L0 N c21 t20 k0 n) s22 w1005
def z41L1T (N : Nat) (c44 : Int) (c1002_0_1 : Str) (c1002_1_2 : Str) (c1002_2_3 : List τ0) (c1003_0_4 : Str) (c1003_1_5 : Str) (c1003_2_6 : List τ0) (t43 : List Str) (k2 : τ10 → Option τ10) (self : Int → τ10 → Option τ10) (s45 : Int) (w1006 : List Str) : Option τ10 :=
 br (decide (s45 < c44))
  (br (decide (0 ≤ s45 ∧ s45 < (t43.length : Int)))
   (bnd (geti t43 s45) fun t48 =>
   bnd (ref2_attr N (c1002_0_1, (c1002_1_2, c1002_2_3)) t48) fun t52 =>
   bnd (ref2_attr N (c1003_0_4, (c1003_1_5, c1003_2_6)) t48) fun t58 =>
   br (t52.2 != t58.2)
    (br (decide ((w1006.length + [t48].length) * (24 * Ty.sz .str) ≤ 140737488355328))
     (self (IntKind.i64.wrap (s45 + (1 : Int))) (w1006 ++ [t48]))
     none)
    (bnd (ref2_SameValue N N (GValue.mk t52.1.kind t52.1.text t52.1.number t52.1.list t52.1.cases) (GValue.mk t58.1.kind t58.1.text t58.1.number t58.1.list t58.1.cases)) fun t67 =>
    br (!t67)
     (br (decide ((w1006.length + [t48].length) * (24 * Ty.sz .str) ≤ 140737488355328))
      (self (IntKind.i64.wrap (s45 + (1 : Int))) (w1006 ++ [t48]))
      none)
     (self (IntKind.i64.wrap (s45 + (1 : Int))) w1006)))
   none)
  (k2 w1006)
def z41L1 (N : Nat) (c44 : Int) (c1002_0_1 : Str) (c1002_1_2 : Str) (c1002_2_3 : List τ0) (c1003_0_4 : Str) (c1003_1_5 : Str) (c1003_2_6 : List τ0) (t43 : List Str) (k2 : τ10 → Option τ10) : Nat → Int → τ10 → Option τ10
 | 0, _, _ => none
 | n + 1, s45, w1006 => z41L1T N c44 c1002_0_1 c1002_1_2 c1002_2_3 c1003_0_4 c1003_1_5 c1003_2_6 t43 k2 (z41L1 N c44 c1002_0_1 c1002_1_2 c1002_2_3 c1003_0_4 c1003_1_5 c1003_2_6 t43 k2 n) s45 w1006
def ref2_otherAttrs (N : Nat) (x0 : Str × Str × List τ0) (x1 : Str × Str × List τ0) : Option τ10 :=
 bnd (slices_Concat_api_Attr N [x0.2.2, x1.2.2]) fun t20 =>
 z41L0 N (t20.length : Int) t20 (fun o0_w1005 =>
   bnd (slices_Sort_string_string o0_w1005) fun t33 =>
   br (!(x0.2.1 == x1.2.1))
    (br (decide ((([] : List Str).length + [([107, 105, 110, 100] : Str)].length) * (24 * Ty.sz .str) ≤ 140737488355328))
     (bnd (slices_Compact_string_string t33) fun t43 =>
     z41L1 N (t43.length : Int) x0.1 x0.2.1 x0.2.2 x1.1 x1.2.1 x1.2.2 t43 (fun o1_w1006 =>
       some o1_w1006) N (0 : Int) (([] : List Str) ++ [([107, 105, 110, 100] : Str)]))
     none)
    (bnd (slices_Compact_string_string t33) fun t43_7 =>
    z41L1 N (t43_7.length : Int) x0.1 x0.2.1 x0.2.2 x1.1 x1.2.1 x1.2.2 t43_7 (fun o1_w1006 =>
      some o1_w1006) N (0 : Int) ([] : List Str))) N (0 : Int) ([] : List Str)
abbrev z41sg (f : SV [.v τ3, .v τ3] → BV [] → Option τ10) : AF := { ps := [.v τ3, .v τ3], bs := [], rs := [.row 0], cs := [.row 9 .str true], R := List Str, out := fun z => (((), ()), (z, ())), f := f }
noncomputable abbrev z41g (N : Nat) : AF := z41sg fun x _ => ref2_otherAttrs N x.1 x.2.1
abbrev z41pk : SV [.row 0] → BV [.row 9 .str true] → τ10 := fun _ y => y.1
def z41fn (N : Nat) : FuncId → Option Tmp → Option AF := fun f _ =>
 match f with
  | 12 => some (z42sg fun x _ => ref2_SameValue N N x.1 x.2.1)
  | 55 => some (z67g N)
  | 70 => some (slices_Sort_string_string_sg fun _ y => slices_Sort_string_string y.1)
  | 71 => some (slices_Compact_string_string_sg fun _ y => slices_Compact_string_string y.1)
  | 115 => some (z14g N)
  | _ => none
theorem z41fn_ok (N : Nat) : FnOk (z41fn N) := by
 intro f q F h
 unfold z41fn at h
 split at h
 · cases h; exact z42sound N N
 · cases h; exact z67sound N
 · cases h; exact slices_Sort_string_string_sound
 · cases h; exact slices_Compact_string_string_sound
 · cases h; exact z14sound N
 · cases h
def z41h : Nat → Hint := fun i =>
 match i with
 | 0 => ⟨[], [2, 3, 5, 6, 20, 21, 22], [1002, 1003, 1005, 1006, 102000], [2, 3, 5, 6], [1002, 1003, 1005, 1006], []⟩
 | 2 => ⟨[], [2, 3, 6, 43, 44, 45], [1002, 1003, 1005, 1006], [6], [1006], []⟩
 | _ => hint0
abbrev z41E (N : Nat) : Env := mkE z41h (z41fn N) (fun i => match i with | 4 => true | 5 => true | 6 => true | 10 => true | 12 => true | 14 => true | 19 => true | 21 => true | 29 => true | 30 => true | 40 => true | 41 => true | 44 => true | 72 => true | 73 => true | _ => false) (fun _ => false)
noncomputable abbrev z41c1 : Code := cAt (bodyOf Tryz.f73) [true, true, false, true, false, false]
noncomputable abbrev z41c0 : Code := cAt (bodyOf Tryz.f73) [true, true, true, true, true, false, true, false, false]
noncomputable abbrev z41R (N : Nat) := resD (z41E N) Tryz.f73 (z41g N) z41pk
abbrev z41L0_fs : List (Nat × Sl) := [(2, .box 1002 0), (3, .box 1003 0), (5, .row 1005), (6, .row 1006), (20, .row 102000), (21, .v τ5), (22, .v τ5)]
abbrev z41L0_bs : List (Nat × Sb) := [(1002, .cells [.v .str, .v .str, .v τ1]), (1003, .cells [.v .str, .v .str, .v τ1]), (1005, .row 9 .str true), (1006, .row 9 .str true), (102000, .row 84 τ11 false)]
def z41L0_hd (c21 : Int) (κ2_0 : Str) (κ2_1 : Str) (κ2_2 : List τ0) (κ3_0 : Str) (κ3_1 : Str) (κ3_2 : List τ0) (cw1006 : List Str) (t20 : List τ0) (s22 : Int) (w1005 : List Str) : St := ⟨76, [(2, .box 1002 0), (3, .box 1003 0), (5, .row 1005), (6, .row 1006), (20, .row 102000), (21, .v τ5 c21), (22, .v τ5 s22)], [(1002, .cells [.v .str κ2_0, .v .str κ2_1, .v τ1 κ2_2]), (1003, .cells [.v .str κ3_0, .v .str κ3_1, .v τ1 κ3_2]), (1005, .row 9 .str true w1005), (1006, .row 9 .str true cw1006), (102000, .row 84 τ11 false t20)]⟩
def z41L0_tl0 (_c21 : Int) (κ2_0 : Str) (κ2_1 : Str) (κ2_2 : List τ0) (κ3_0 : Str) (κ3_1 : Str) (κ3_2 : List τ0) (cw1006 : List Str) (_t20 : List τ0) (o0_w1005 : List Str) : St := ⟨76, [(2, .box 1002 0), (3, .box 1003 0), (5, .row 1005), (6, .row 1006)], [(1002, .cells [.v .str κ2_0, .v .str κ2_1, .v τ1 κ2_2]), (1003, .cells [.v .str κ3_0, .v .str κ3_1, .v τ1 κ3_2]), (1005, .row 9 .str true o0_w1005), (1006, .row 9 .str true cw1006)]⟩
def z41L0_G (N : Nat) (c21 : Int) (κ2_0 : Str) (κ2_1 : Str) (κ2_2 : List τ0) (κ3_0 : Str) (κ3_1 : Str) (κ3_2 : List τ0) (cw1006 : List Str) (t20 : List τ0) (s22 : Int) (w1005 : List Str) (k : Ex → St → Option τ10) : Option τ10 :=
 z41L0 N c21 t20 (fun o0_w1005 => k (.exit 0) (z41L0_tl0 c21 κ2_0 κ2_1 κ2_2 κ3_0 κ3_1 κ3_2 cw1006 t20 o0_w1005)) N s22 w1005
abbrev z41L0_F (N : Nat) : FV z41L0_fs → HV z41L0_bs → (Ex → St → Option τ10) → Option τ10 := fun x y k => z41L0_G N x.2.2.2.2.2.1 y.1.1 y.1.2.1 y.1.2.2.1 y.2.1.1 y.2.1.2.1 y.2.1.2.2.1 y.2.2.2.1 y.2.2.2.2.1 x.2.2.2.2.2.2.1 y.2.2.1 k
abbrev z41L1_fs : List (Nat × Sl) := [(2, .box 1002 0), (3, .box 1003 0), (6, .row 1006), (43, .row 1005), (44, .v τ5), (45, .v τ5)]
abbrev z41L1_bs : List (Nat × Sb) := [(1002, .cells [.v .str, .v .str, .v τ1]), (1003, .cells [.v .str, .v .str, .v τ1]), (1005, .row 9 .str true), (1006, .row 9 .str true)]
def z41L1_hd (c44 : Int) (c1002_0_1 : Str) (c1002_1_2 : Str) (c1002_2_3 : List τ0) (c1003_0_4 : Str) (c1003_1_5 : Str) (c1003_2_6 : List τ0) (t43 : List Str) (s45 : Int) (w1006 : List Str) : St := ⟨76, [(2, .box 1002 0), (3, .box 1003 0), (6, .row 1006), (43, .row 1005), (44, .v τ5 c44), (45, .v τ5 s45)], [(1002, .cells [.v .str c1002_0_1, .v .str c1002_1_2, .v τ1 c1002_2_3]), (1003, .cells [.v .str c1003_0_4, .v .str c1003_1_5, .v τ1 c1003_2_6]), (1005, .row 9 .str true t43), (1006, .row 9 .str true w1006)]⟩
def z41L1_tl2 (_c44 : Int) (_c1002_0_1 : Str) (_c1002_1_2 : Str) (_c1002_2_3 : List τ0) (_c1003_0_4 : Str) (_c1003_1_5 : Str) (_c1003_2_6 : List τ0) (_t43 : List Str) (o1_w1006 : List Str) : St := ⟨76, [(6, .row 1006)], [(1006, .row 9 .str true o1_w1006)]⟩
def z41L1_G (N : Nat) (c44 : Int) (c1002_0_1 : Str) (c1002_1_2 : Str) (c1002_2_3 : List τ0) (c1003_0_4 : Str) (c1003_1_5 : Str) (c1003_2_6 : List τ0) (t43 : List Str) (s45 : Int) (w1006 : List Str) (k : Ex → St → Option τ10) : Option τ10 :=
 z41L1 N c44 c1002_0_1 c1002_1_2 c1002_2_3 c1003_0_4 c1003_1_5 c1003_2_6 t43 (fun o1_w1006 => k (.exit 2) (z41L1_tl2 c44 c1002_0_1 c1002_1_2 c1002_2_3 c1003_0_4 c1003_1_5 c1003_2_6 t43 o1_w1006)) N s45 w1006
abbrev z41L1_F (N : Nat) : FV z41L1_fs → HV z41L1_bs → (Ex → St → Option τ10) → Option τ10 := fun x y k => z41L1_G N x.2.2.2.2.1 y.1.1 y.1.2.1 y.1.2.2.1 y.2.1.1 y.2.1.2.1 y.2.1.2.2.1 y.2.2.1 x.2.2.2.2.2.1 y.2.2.2.1 k
noncomputable def z41LP (N : Nat) : Nat → Code → St → (Ex → St → Option τ10) → Option τ10 := fun i c =>
 match i with
 | 0 => (LPc 76 z41L0_fs z41L0_bs (z41L0_F N) (fun st k => iter (z41h 0) (exec (z41E N) N c 0) N st k))
 | 2 => (LPc 76 z41L1_fs z41L1_bs (z41L1_F N) (fun st k => iter (z41h 2) (exec (z41E N) N c 2) N st k))
 | i => fun st k => iter (z41h i) (exec (z41E N) N c i) N st k
theorem z41L1_step (N : Nat) (c44 : Int) (c1002_0_1 : Str) (c1002_1_2 : Str) (c1002_2_3 : List τ0) (c1003_0_4 : Str) (c1003_1_5 : Str) (c1003_2_6 : List τ0) (t43 : List Str) (KX : Nat → St → Option τ10) (I : St → Option τ10) (s45 : Int) (w1006 : List Str) :
  execL (z41LP N) (z41E N) z41c0 2 (z41L1_hd c44 c1002_0_1 c1002_1_2 c1002_2_3 c1003_0_4 c1003_1_5 c1003_2_6 t43 s45 w1006) (roundK (z41h 2) I KX (z41R N)) = z41L1T N c44 c1002_0_1 c1002_1_2 c1002_2_3 c1003_0_4 c1003_1_5 c1003_2_6 t43 (fun o1_w1006 => KX 2 (z41L1_tl2 c44 c1002_0_1 c1002_1_2 c1002_2_3 c1003_0_4 c1003_1_5 c1003_2_6 t43 o1_w1006)) (fun s45 w1006 => I (z41L1_hd c44 c1002_0_1 c1002_1_2 c1002_2_3 c1003_0_4 c1003_1_5 c1003_2_6 t43 s45 w1006)) s45 w1006 := by kernel_rfl
theorem z41L1_ok (N : Nat) : ∀ x y k, (∀ st, k .ret st = (z41R N) st) → iter (z41h 2) (exec (z41E N) N z41c0 2) N ⟨76, unF z41L1_fs x, unH z41L1_bs y⟩ k = z41L1_F N x y k := fun x y k hk =>
 iter_link (S := (Int) × τ10 × Unit) (z41h 2) _ (execL (z41LP N) (z41E N) z41c0 2) (z41R N) (fun st k hk => execL_eq _ _ N _ z41c0 2 (show LoopsOk (z41LP N) (z41E N) N (z41R N) [] from trivial) st k hk) (fun s => z41L1_hd x.2.2.2.2.1 y.1.1 y.1.2.1 y.1.2.2.1 y.2.1.1 y.2.1.2.1 y.2.1.2.2.1 y.2.2.1 s.1 s.2.1) k hk
  (fun self s => z41L1T N x.2.2.2.2.1 y.1.1 y.1.2.1 y.1.2.2.1 y.2.1.1 y.2.1.2.1 y.2.1.2.2.1 y.2.2.1 (fun o1_w1006 => k (.exit 2) (z41L1_tl2 x.2.2.2.2.1 y.1.1 y.1.2.1 y.1.2.2.1 y.2.1.1 y.2.1.2.1 y.2.1.2.2.1 y.2.2.1 o1_w1006)) (fun s45 w1006 => self (s45, w1006, ())) s.1 s.2.1) (fun n s => z41L1 N x.2.2.2.2.1 y.1.1 y.1.2.1 y.1.2.2.1 y.2.1.1 y.2.1.2.1 y.2.1.2.2.1 y.2.2.1 (fun o1_w1006 => k (.exit 2) (z41L1_tl2 x.2.2.2.2.1 y.1.1 y.1.2.1 y.1.2.2.1 y.2.1.1 y.2.1.2.1 y.2.1.2.2.1 y.2.2.1 o1_w1006)) n s.1 s.2.1) (fun _ => rfl) (fun _ _ => rfl)
  (fun I s => z41L1_step N x.2.2.2.2.1 y.1.1 y.1.2.1 y.1.2.2.1 y.2.1.1 y.2.1.2.1 y.2.1.2.2.1 y.2.2.1 (fun j => k (.exit j)) I s.1 s.2.1) N (x.2.2.2.2.2.1, y.2.2.2.1, ())
theorem z41lp2 (N : Nat) : ∀ st k, (∀ st, k .ret st = (z41R N) st) → z41LP N 2 z41c0 st k = iter (Env.hint (z41E N) 2) (exec (z41E N) N z41c0 2) N st k := fun st k hk => LPc_eq 76 z41L1_fs z41L1_bs _ _ (z41R N) (z41L1_ok N) _ st k hk (rfl)
theorem z41L0_step (N : Nat) (c21 : Int) (κ2_0 : Str) (κ2_1 : Str) (κ2_2 : List τ0) (κ3_0 : Str) (κ3_1 : Str) (κ3_2 : List τ0) (cw1006 : List Str) (t20 : List τ0) (KX : Nat → St → Option τ10) (I : St → Option τ10) (s22 : Int) (w1005 : List Str) :
  execL (z41LP N) (z41E N) z41c1 0 (z41L0_hd c21 κ2_0 κ2_1 κ2_2 κ3_0 κ3_1 κ3_2 cw1006 t20 s22 w1005) (roundK (z41h 0) I KX (z41R N)) = z41L0T N c21 t20 (fun o0_w1005 => KX 0 (z41L0_tl0 c21 κ2_0 κ2_1 κ2_2 κ3_0 κ3_1 κ3_2 cw1006 t20 o0_w1005)) (fun s22 w1005 => I (z41L0_hd c21 κ2_0 κ2_1 κ2_2 κ3_0 κ3_1 κ3_2 cw1006 t20 s22 w1005)) s22 w1005 := by kernel_rfl
theorem z41L0_ok (N : Nat) : ∀ x y k, (∀ st, k .ret st = (z41R N) st) → iter (z41h 0) (exec (z41E N) N z41c1 0) N ⟨76, unF z41L0_fs x, unH z41L0_bs y⟩ k = z41L0_F N x y k := fun x y k hk =>
 iter_link (S := (Int) × τ10 × Unit) (z41h 0) _ (execL (z41LP N) (z41E N) z41c1 0) (z41R N) (fun st k hk => execL_eq _ _ N _ z41c1 0 (show LoopsOk (z41LP N) (z41E N) N (z41R N) [] from trivial) st k hk) (fun s => z41L0_hd x.2.2.2.2.2.1 y.1.1 y.1.2.1 y.1.2.2.1 y.2.1.1 y.2.1.2.1 y.2.1.2.2.1 y.2.2.2.1 y.2.2.2.2.1 s.1 s.2.1) k hk
  (fun self s => z41L0T N x.2.2.2.2.2.1 y.2.2.2.2.1 (fun o0_w1005 => k (.exit 0) (z41L0_tl0 x.2.2.2.2.2.1 y.1.1 y.1.2.1 y.1.2.2.1 y.2.1.1 y.2.1.2.1 y.2.1.2.2.1 y.2.2.2.1 y.2.2.2.2.1 o0_w1005)) (fun s22 w1005 => self (s22, w1005, ())) s.1 s.2.1) (fun n s => z41L0 N x.2.2.2.2.2.1 y.2.2.2.2.1 (fun o0_w1005 => k (.exit 0) (z41L0_tl0 x.2.2.2.2.2.1 y.1.1 y.1.2.1 y.1.2.2.1 y.2.1.1 y.2.1.2.1 y.2.1.2.2.1 y.2.2.2.1 y.2.2.2.2.1 o0_w1005)) n s.1 s.2.1) (fun _ => rfl) (fun _ _ => rfl)
  (fun I s => z41L0_step N x.2.2.2.2.2.1 y.1.1 y.1.2.1 y.1.2.2.1 y.2.1.1 y.2.1.2.1 y.2.1.2.2.1 y.2.2.2.1 y.2.2.2.2.1 (fun j => k (.exit j)) I s.1 s.2.1) N (x.2.2.2.2.2.2.1, y.2.2.1, ())
theorem z41lp0 (N : Nat) : ∀ st k, (∀ st, k .ret st = (z41R N) st) → z41LP N 0 z41c1 st k = iter (Env.hint (z41E N) 0) (exec (z41E N) N z41c1 0) N st k := fun st k hk => LPc_eq 76 z41L0_fs z41L0_bs _ _ (z41R N) (z41L0_ok N) _ st k hk (rfl)
theorem z41core (N : Nat) (x : SV [.v τ3, .v τ3]) (y : BV []) : runL (z41E N) Tryz.f73 (z41g N) z41pk (z41LP N) x y = ref2_otherAttrs N x.1 x.2.1 := by kernel_rfl
theorem z41sound (N : Nat) : Snd 73 (z41g N) :=
 runD_sound (mkE_ok z41h (z41fn N) _ _ (z41fn_ok N)) Tryz.func73 rfl Tryz.call73 (z41g N) z41pk (fun _ _ => rfl) N (fun x y _ h => ((runL_eq (z41E N) N Tryz.f73 (z41g N) z41pk (z41LP N) (show LoopsOk (z41LP N) (z41E N) N (z41R N) [(0, z41c1), (2, z41c0)] from ⟨z41lp0 N, z41lp2 N, trivial⟩) x y).trans (z41core N x y)).trans h)
end
end Go.Proofs.YtahjncefiegflaaGreatDoor

