/- What functions of the program compute, as plain functions (printed). -/
import Derived.Test.YtjiddcchklaiiaaGreatDoorQBmSw
import Derived.Test.YtjiddcchklaiiaaGreatDoorQNm
import Derived.Test.YtjiddcchklaiiaaGreatDoorQBmOb
import Derived.Test.YtjiddcchklaiiaaGreatDoorQTsT
import Derived.Shelf.Strings.SlTrimAscii
import Derived.Lib.Join
namespace Go.Proofs.YtjiddcchklaiiaaGreatDoor
open Go Go.RowKit
set_option maxRecDepth 100000
set_option linter.unusedVariables false
noncomputable section
def z17L0T (N : Nat) (r_blob_writer_dir : τ16 → τ17 → Option τ11) (t10 : List τ0) (c16 : Int) (k0 : τ17 → Option τ11) (self : Int → τ17 → Option τ11) (s17 : Int) (m1_1 : List (Str × τ7)) : Option τ11 :=
 br (decide (s17 < c16))
   (bnd (geti t10 s17) fun t19 =>
   br (!t19.2.1.isNone)
     (bnd (t19.2.1) fun t27 =>
     bnd (blob_writer_put N t27.2.2 m1_1) fun t30 =>
     self (IntKind.i64.wrap (s17 + (1 : Int))) t30.2)
     (bnd (r_blob_writer_dir t19.2.2 m1_1) fun t34 =>
     self (IntKind.i64.wrap (s17 + (1 : Int))) t34.2))
   (k0 m1_1)
def z17L0 (N : Nat) (r_blob_writer_dir : τ16 → τ17 → Option τ11) (t10 : List τ0) (c16 : Int) (k0 : τ17 → Option τ11) : Nat → Int → τ17 → Option τ11
 | 0, _, _ => none
 | n + 1, s17, m1_1 => z17L0T N r_blob_writer_dir t10 c16 k0 (z17L0 N r_blob_writer_dir t10 c16 k0 n) s17 m1_1
def blob_writer_dir_b (N : Nat) (r_blob_writer_dir : τ16 → τ17 → Option τ11) (x1 : List τ2) (m1 : List (Str × τ7)) : Option τ11 :=
 bnd (blob_nodes x1) fun t10 =>
 bnd (blob_dirText N N t10) fun t13 =>
 bnd (blob_writer_put N t13 m1) fun t14 =>
 z17L0 N r_blob_writer_dir t10 (t10.length : Int) (fun o0_m1 =>
     some (t14.1, o0_m1)) N (0 : Int) t14.2
abbrev z17sg (f : SV [.box 0 0, .v (.sl τ1)] → BV [.cells [.mref 1], .map τ15] → Option τ11) : AF := { ps := [.box 0 0, .v (.sl τ1)], bs := [.cells [.mref 1], .map τ15], rs := [.v .str], cs := [.cells [.mref 1], .map τ15], R := Str × List (Str × τ7), out := fun z => ((z.1, ()), (((), ()), z.2, ())), f := f }
abbrev z17pk : SV [.v .str] → BV [.cells [.mref 1], .map τ15] → τ11 := fun x y => (x.1, y.2.1)
def z17fn (N : Nat) (r_blob_writer_dir : τ16 → τ17 → Option τ11) : FuncId → Option Tmp → Option AF := fun f _ =>
 match f with
   | 15 => some (z22sg fun x y => r_blob_writer_dir x.2.1 y.2.1)
   | 32 => some (z52sg fun x _ => blob_nodes x.1)
   | 33 => some (z23g N)
   | 34 => some (z38sg fun x _ => blob_dirText N N x.1)
   | _ => none
theorem z17fn_ok (N : Nat) (r_blob_writer_dir : τ16 → τ17 → Option τ11) (h_blob_writer_dir : Sound Tryz.prog GW B0G 15 (z22sg fun x y => r_blob_writer_dir x.2.1 y.2.1)) : ∀ f q F, z17fn N r_blob_writer_dir f q = some F → Sound Tryz.prog GW B0G f F := by
 intro f q F h
 unfold z17fn at h
 split at h
 · cases h; exact h_blob_writer_dir
 · cases h; exact z52sound
 · cases h; exact z23sound N
 · cases h; exact z38sound N N
 · cases h
def z17h : Nat → Hint := fun i =>
 match i with
 | 0 => ⟨[], [0, 6, 15, 16, 17], [0, 1], [6], [0, 1], []⟩
 | _ => hint0
abbrev z17E (N : Nat) (r_blob_writer_dir : τ16 → τ17 → Option τ11) : Env := mkE z17h (z17fn N r_blob_writer_dir) (fun _ => false) (fun _ => false)
noncomputable abbrev z17c0 : Code := cAt (bodyOf Tryz.f15) [true, true, true, false, true, false, false]
abbrev z17L0_fs : List (Nat × Sl) := [(0, .box 0 0), (6, .v .str), (15, .v (.sl τ3)), (16, .v τ6), (17, .v τ6)]
abbrev z17L0_bs : List (Nat × Sb) := [(0, .cells [.mref 1]), (1, .map τ15)]
def z17L0_hd (c6 : Str) (t10 : List τ0) (c16 : Int) (s17 : Int) (m1_1 : List (Str × τ7)) : St := ⟨37, [(0, .box 0 0), (6, .v .str c6), (15, .v (.sl τ3) t10), (16, .v τ6 c16), (17, .v τ6 s17)], [(0, .cells [.mref 1]), (1, .map τ15 m1_1)]⟩
def z17L0_tl0 (c6 : Str) (_t10 : List τ0) (_c16 : Int) (o0_m1 : List (Str × τ7)) : St := ⟨37, [(6, .v .str c6)], [(0, .cells [.mref 1]), (1, .map τ15 o0_m1)]⟩
def z17L0_G (N : Nat) (r_blob_writer_dir : τ16 → τ17 → Option τ11) (c6 : Str) (t10 : List τ0) (c16 : Int) (s17 : Int) (m1_1 : List (Str × τ7)) (k : Ex → St → Option τ11) : Option τ11 :=
 z17L0 N r_blob_writer_dir t10 c16 (fun o0_m1 => k (.exit 0) (z17L0_tl0 c6 t10 c16 o0_m1)) N s17 m1_1
abbrev z17L0_F (N : Nat) (r_blob_writer_dir : τ16 → τ17 → Option τ11) : FV z17L0_fs → HV z17L0_bs → (Ex → St → Option τ11) → Option τ11 := fun x y k => z17L0_G N r_blob_writer_dir x.2.1 x.2.2.1 x.2.2.2.1 x.2.2.2.2.1 y.2.1 k
noncomputable def z17LP (N : Nat) (r_blob_writer_dir : τ16 → τ17 → Option τ11) : Nat → Code → St → (Ex → St → Option τ11) → Option τ11 := fun i c =>
 match i with
 | 0 => (LPc 37 z17L0_fs z17L0_bs (z17L0_F N r_blob_writer_dir) (fun st k => iter (z17h 0) (exec (z17E N r_blob_writer_dir) N c 0) N st k))
 | i => fun st k => iter (z17h i) (exec (z17E N r_blob_writer_dir) N c i) N st k
theorem z17L0_step (N : Nat) (r_blob_writer_dir : τ16 → τ17 → Option τ11) (c6 : Str) (t10 : List τ0) (c16 : Int) (KX : Nat → St → Option τ11) (I : St → Option τ11) (s17 : Int) (m1_1 : List (Str × τ7)) :
   execL (z17LP N r_blob_writer_dir) (z17E N r_blob_writer_dir) z17c0 0 (z17L0_hd c6 t10 c16 s17 m1_1) (roundK (z17h 0) I KX (resD (z17E N r_blob_writer_dir) Tryz.f15 (z17sg fun x y => blob_writer_dir_b N r_blob_writer_dir x.2.1 y.2.1) z17pk)) = z17L0T N r_blob_writer_dir t10 c16 (fun o0_m1 => KX 0 (z17L0_tl0 c6 t10 c16 o0_m1)) (fun s17 m1_1 => I (z17L0_hd c6 t10 c16 s17 m1_1)) s17 m1_1 := by kernel_rfl
theorem z17L0_ok (N : Nat) (r_blob_writer_dir : τ16 → τ17 → Option τ11) : ∀ x y k, (∀ st, k .ret st = (resD (z17E N r_blob_writer_dir) Tryz.f15 (z17sg fun x y => blob_writer_dir_b N r_blob_writer_dir x.2.1 y.2.1) z17pk) st) → iter (z17h 0) (exec (z17E N r_blob_writer_dir) N z17c0 0) N ⟨37, unF z17L0_fs x, unH z17L0_bs y⟩ k = z17L0_F N r_blob_writer_dir x y k := fun x y k hk =>
 iter_link (S := (Int) × τ17 × Unit) (z17h 0) _ (execL (z17LP N r_blob_writer_dir) (z17E N r_blob_writer_dir) z17c0 0) (resD (z17E N r_blob_writer_dir) Tryz.f15 (z17sg fun x y => blob_writer_dir_b N r_blob_writer_dir x.2.1 y.2.1) z17pk) (fun st k hk => execL_eq _ _ N _ z17c0 0 (show LoopsOk (z17LP N r_blob_writer_dir) (z17E N r_blob_writer_dir) N (resD (z17E N r_blob_writer_dir) Tryz.f15 (z17sg fun x y => blob_writer_dir_b N r_blob_writer_dir x.2.1 y.2.1) z17pk) [] from trivial) st k hk) (fun s => z17L0_hd x.2.1 x.2.2.1 x.2.2.2.1 s.1 s.2.1) k hk
   (fun self s => z17L0T N r_blob_writer_dir x.2.2.1 x.2.2.2.1 (fun o0_m1 => k (.exit 0) (z17L0_tl0 x.2.1 x.2.2.1 x.2.2.2.1 o0_m1)) (fun s17 m1_1 => self (s17, m1_1, ())) s.1 s.2.1) (fun n s => z17L0 N r_blob_writer_dir x.2.2.1 x.2.2.2.1 (fun o0_m1 => k (.exit 0) (z17L0_tl0 x.2.1 x.2.2.1 x.2.2.2.1 o0_m1)) n s.1 s.2.1) (fun _ => rfl) (fun _ _ => rfl)
   (fun I s => z17L0_step N r_blob_writer_dir x.2.1 x.2.2.1 x.2.2.2.1 (fun j => k (.exit j)) I s.1 s.2.1) N (x.2.2.2.2.1, y.2.1, ())
theorem z17lp0 (N : Nat) (r_blob_writer_dir : τ16 → τ17 → Option τ11) : ∀ st k, (∀ st, k .ret st = (resD (z17E N r_blob_writer_dir) Tryz.f15 (z17sg fun x y => blob_writer_dir_b N r_blob_writer_dir x.2.1 y.2.1) z17pk) st) → z17LP N r_blob_writer_dir 0 z17c0 st k = iter (Env.hint (z17E N r_blob_writer_dir) 0) (exec (z17E N r_blob_writer_dir) N z17c0 0) N st k := fun st k hk => LPc_eq 37 z17L0_fs z17L0_bs _ _ (resD (z17E N r_blob_writer_dir) Tryz.f15 (z17sg fun x y => blob_writer_dir_b N r_blob_writer_dir x.2.1 y.2.1) z17pk) (z17L0_ok N r_blob_writer_dir) _ st k hk (rfl)
theorem z17core (N : Nat) (r_blob_writer_dir : τ16 → τ17 → Option τ11) (x : SV [.box 0 0, .v (.sl τ1)]) (y : BV [.cells [.mref 1], .map τ15]) : runL (z17E N r_blob_writer_dir) Tryz.f15 (z17sg fun x y => blob_writer_dir_b N r_blob_writer_dir x.2.1 y.2.1) z17pk (z17LP N r_blob_writer_dir) x y = blob_writer_dir_b N r_blob_writer_dir x.2.1 y.2.1 := by kernel_rfl
theorem z17sound (N : Nat) (r_blob_writer_dir : τ16 → τ17 → Option τ11) (h_blob_writer_dir : Sound Tryz.prog GW B0G 15 (z22sg fun x y => r_blob_writer_dir x.2.1 y.2.1)) : Sound Tryz.prog GW B0G 15 (z17sg fun x y => blob_writer_dir_b N r_blob_writer_dir x.2.1 y.2.1) :=
 runD_sound (mkE_ok z17h (z17fn N r_blob_writer_dir) _ _ (z17fn_ok N r_blob_writer_dir h_blob_writer_dir)) Tryz.func15 rfl Tryz.call15 (z17sg fun x y => blob_writer_dir_b N r_blob_writer_dir x.2.1 y.2.1) z17pk (fun _ _ => rfl) N (fun x y _ h => ((runL_eq (z17E N r_blob_writer_dir) N Tryz.f15 (z17sg fun x y => blob_writer_dir_b N r_blob_writer_dir x.2.1 y.2.1) z17pk (z17LP N r_blob_writer_dir) (show LoopsOk (z17LP N r_blob_writer_dir) (z17E N r_blob_writer_dir) N (resD (z17E N r_blob_writer_dir) Tryz.f15 (z17sg fun x y => blob_writer_dir_b N r_blob_writer_dir x.2.1 y.2.1) z17pk) [(0, z17c0)] from ⟨z17lp0 N r_blob_writer_dir, trivial⟩) x y).trans (z17core N r_blob_writer_dir x y)).trans h)
def blob_writer_dir (N : Nat) : Nat → τ16 → τ17 → Option τ11
 | 0 => fun _ _ => none
 | d + 1 => blob_writer_dir_b N (blob_writer_dir N d)
theorem z22sound (N : Nat) : ∀ d, Sound Tryz.prog GW B0G 15 (z22sg fun x y => blob_writer_dir N d x.2.1 y.2.1)
 | 0 => Sound.never Tryz.call15 (fun _ _ => rfl)
 | d + 1 => z17sound N (blob_writer_dir N d) (z22sound N d)
def z45L0T (_N : Nat) (k0 : (List τ4) → Option τ18) (self : (List τ4) → τ17 → Option τ18) (w1008 : List τ4) (i1032 : List (Str × τ7)) : Option τ18 :=
 br (i1032.isEmpty)
   (k0 w1008)
   (allC i1032 fun p33 q33 =>
   br (decide ((w1008.length + [p33].length) * (24 * Ty.sz (.pr .str τ15)) ≤ 140737488355328))
     (self (w1008 ++ [p33]) q33)
     none)
def z45L0 (N : Nat) (k0 : (List τ4) → Option τ18) : Nat → (List τ4) → τ17 → Option τ18
 | 0, _, _ => none
 | n + 1, w1008, i1032 => z45L0T N k0 (z45L0 N k0 n) w1008 i1032
def blob_TreeOf (N : Nat) (x0 : List τ2) : Option τ18 :=
 bnd (blob_CheckFiles N x0) fun t12 =>
 br (t12 != (0 : Int))
   (some (([] : Str), (t12, ([] : List τ4))))
   (bnd (blob_writer_dir N N x0 ([] : List (Str × τ7))) fun t21 =>
   br (decide ((t21.2.length : Int) > (4000 : Int)))
     (some (([] : Str), ((2 : Int), ([] : List τ4))))
     (z45L0 N (fun o0_w1008 =>
         bnd (slices_SortFunc_object () o0_w1008) fun t45 =>
         some (t21.1, ((0 : Int), t45))) N ([] : List τ4) t21.2))
abbrev z45sg (f : SV [.v (.sl τ1)] → BV [] → Option τ18) : AF := { ps := [.v (.sl τ1)], bs := [], rs := [.v .str, .row 0, .v τ6], cs := [.row 38 (.pr .str τ15) true], R := Str × Int × List τ4, out := fun z => ((z.1, (), z.2.1, ()), (z.2.2, ())), f := f }
noncomputable abbrev z45g (N : Nat) : AF := z45sg fun x _ => blob_TreeOf N x.1
abbrev z45pk : SV [.v .str, .row 0, .v τ6] → BV [.row 38 (.pr .str τ15) true] → τ18 := fun x y => (x.1, x.2.2.1, y.1)
def z45fn (N : Nat) : FuncId → Option Tmp → Option AF := fun f _ =>
 match f with
   | 14 => some (z21g N)
   | 15 => some (z22sg fun x y => blob_writer_dir N N x.2.1 y.2.1)
   | 16 => some (z11sg fun x y => slices_SortFunc_object x.2.1 y.1)
   | _ => none
theorem z45fn_ok (N : Nat) : FnOk (z45fn N) := by
 intro f q F h
 unfold z45fn at h
 split at h
 · cases h; exact z21sound N
 · cases h; exact z22sound N N
 · cases h; exact z11sound
 · cases h
def z45h : Nat → Hint := fun i =>
 match i with
 | 0 => ⟨[], [7, 8, 32], [1008, 1032], [7, 8], [1008], []⟩
 | _ => hint0
abbrev z45E (N : Nat) : Env := mkE z45h (z45fn N) (fun i => match i with | 2 => true | 3 => true | 4 => true | 5 => true | 6 => true | 7 => true | 8 => true | 9 => true | 10 => true | 26 => true | 42 => true | 43 => true | _ => false) (fun _ => false)
noncomputable abbrev z45c0 : Code := cAt (bodyOf Tryz.f5) [true, true, true, true, true, true, false, true, false, false]
noncomputable abbrev z45R (N : Nat) := resD (z45E N) Tryz.f5 (z45g N) z45pk
abbrev z45L0_fs : List (Nat × Sl) := [(7, .v .str), (8, .row 1008), (32, .box 1032 0)]
abbrev z45L0_bs : List (Nat × Sb) := [(1008, .row 38 (.pr .str τ15) true), (1032, .iter τ15)]
def z45L0_hd (c7 : Str) (w1008 : List τ4) (i1032 : List (Str × τ7)) : St := ⟨48, [(7, .v .str c7), (8, .row 1008), (32, .box 1032 0)], [(1008, .row 38 (.pr .str τ15) true w1008), (1032, .iter τ15 i1032 none)]⟩
def z45L0_tl0 (c7 : Str) (o0_w1008 : List τ4) : St := ⟨48, [(7, .v .str c7), (8, .row 1008)], [(1008, .row 38 (.pr .str τ15) true o0_w1008)]⟩
def z45L0_G (N : Nat) (c7 : Str) (w1008 : List τ4) (i1032 : List (Str × τ7)) (k : Ex → St → Option τ18) : Option τ18 :=
 z45L0 N (fun o0_w1008 => k (.exit 0) (z45L0_tl0 c7 o0_w1008)) N w1008 i1032
abbrev z45L0_F (N : Nat) : FV z45L0_fs → HV z45L0_bs → (Ex → St → Option τ18) → Option τ18 := fun x y k => z45L0_G N x.1 y.1 y.2.1 k
noncomputable def z45LP (N : Nat) : Nat → Code → St → (Ex → St → Option τ18) → Option τ18 := fun i c =>
 match i with
 | 0 => (LPc 48 z45L0_fs z45L0_bs (z45L0_F N) (fun st k => iter (z45h 0) (exec (z45E N) N c 0) N st k))
 | i => fun st k => iter (z45h i) (exec (z45E N) N c i) N st k
theorem z45L0_step (N : Nat) (c7 : Str) (KX : Nat → St → Option τ18) (I : St → Option τ18) (w1008 : List τ4) (i1032 : List (Str × τ7)) :
   execL (z45LP N) (z45E N) z45c0 0 (z45L0_hd c7 w1008 i1032) (roundK (z45h 0) I KX (z45R N)) = z45L0T N (fun o0_w1008 => KX 0 (z45L0_tl0 c7 o0_w1008)) (fun w1008 i1032 => I (z45L0_hd c7 w1008 i1032)) w1008 i1032 := by kernel_rfl
theorem z45L0_ok (N : Nat) : ∀ x y k, (∀ st, k .ret st = (z45R N) st) → iter (z45h 0) (exec (z45E N) N z45c0 0) N ⟨48, unF z45L0_fs x, unH z45L0_bs y⟩ k = z45L0_F N x y k := fun x y k hk =>
 iter_link (S := (List τ4) × τ17 × Unit) (z45h 0) _ (execL (z45LP N) (z45E N) z45c0 0) (z45R N) (fun st k hk => execL_eq _ _ N _ z45c0 0 (show LoopsOk (z45LP N) (z45E N) N (z45R N) [] from trivial) st k hk) (fun s => z45L0_hd x.1 s.1 s.2.1) k hk
   (fun self s => z45L0T N (fun o0_w1008 => k (.exit 0) (z45L0_tl0 x.1 o0_w1008)) (fun w1008 i1032 => self (w1008, i1032, ())) s.1 s.2.1) (fun n s => z45L0 N (fun o0_w1008 => k (.exit 0) (z45L0_tl0 x.1 o0_w1008)) n s.1 s.2.1) (fun _ => rfl) (fun _ _ => rfl)
   (fun I s => z45L0_step N x.1 (fun j => k (.exit j)) I s.1 s.2.1) N (y.1, y.2.1, ())
theorem z45lp0 (N : Nat) : ∀ st k, (∀ st, k .ret st = (z45R N) st) → z45LP N 0 z45c0 st k = iter (Env.hint (z45E N) 0) (exec (z45E N) N z45c0 0) N st k := fun st k hk => LPc_eq 48 z45L0_fs z45L0_bs _ _ (z45R N) (z45L0_ok N) _ st k hk (rfl)
theorem z45core (N : Nat) (x : SV [.v (.sl τ1)]) (y : BV []) : runL (z45E N) Tryz.f5 (z45g N) z45pk (z45LP N) x y = blob_TreeOf N x.1 := by kernel_rfl
theorem z45sound (N : Nat) : Snd 5 (z45g N) :=
 runD_sound (mkE_ok z45h (z45fn N) _ _ (z45fn_ok N)) Tryz.func5 rfl Tryz.call5 (z45g N) z45pk (fun _ _ => rfl) N (fun x y _ h => ((runL_eq (z45E N) N Tryz.f5 (z45g N) z45pk (z45LP N) (show LoopsOk (z45LP N) (z45E N) N (z45R N) [(0, z45c0)] from ⟨z45lp0 N, trivial⟩) x y).trans (z45core N x y)).trans h)
def law1_awake (N : Nat) : Option Bool :=
 bnd (blob_Digest N ([] : List UInt8)) fun t1 =>
 some (t1 == ([99, 98, 102, 50, 57, 99, 101, 52, 56, 52, 50, 50, 50, 51, 50, 53] : Str))
abbrev z53sg (f : SV [] → BV [] → Option (Bool)) : AF := { ps := [], bs := [], rs := [.v .bool], cs := [], R := Bool, out := fun z => ((z, ()), ()), f := f }
noncomputable abbrev z53g (N : Nat) : AF := z53sg fun _ _ => law1_awake N
abbrev z53pk : SV [.v .bool] → BV [] → Bool := fun x _ => x.1
def z53fn (N : Nat) : FuncId → Option Tmp → Option AF := fun f _ =>
 match f with
   | 19 => some (z42g N)
   | _ => none
theorem z53fn_ok (N : Nat) : FnOk (z53fn N) := by
 intro f q F h
 unfold z53fn at h
 split at h
 · cases h; exact z42sound N
 · cases h
def z53h : Nat → Hint := fun i =>
 match i with
 | _ => hint0
abbrev z53E (N : Nat) : Env := mkE z53h (z53fn N) FF FF
noncomputable def z53LP (N : Nat) : Nat → Code → St → (Ex → St → Option Bool) → Option Bool := fun i c =>
 match i with
 | i => fun st k => iter (z53h i) (exec (z53E N) N c i) N st k
theorem z53core (N : Nat) (x : SV []) (y : BV []) : runL (z53E N) Tryz.f6 (z53g N) z53pk (z53LP N) x y = law1_awake N := by kernel_rfl
theorem z53sound (N : Nat) : Snd 6 (z53g N) :=
 sndL (z53fn_ok N) Tryz.func6 rfl Tryz.call6 (z53g N) z53pk (fun _ _ => rfl) N (z53LP N) (show LoopsOk (z53LP N) (z53E N) N (resD (z53E N) Tryz.f6 (z53g N) z53pk) [] from trivial) (z53core N)
def stringslite_HasPrefix (_N : Nat) (x0 : Str) (x1 : Str) : Option Bool :=
 br (decide ((x0.length : Int) ≥ (x1.length : Int)))
   (bnd (slc x0 (0 : Int) (x1.length : Int)) fun t14 =>
   some (t14 == x1))
   (some false)
abbrev z13sg (f : SV [.v .str, .v .str] → BV [] → Option (Bool)) : AF := { ps := [.v .str, .v .str], bs := [], rs := [.v .bool], cs := [], R := Bool, out := fun z => ((z, ()), ()), f := f }
noncomputable abbrev z13g (N : Nat) : AF := z13sg fun x _ => stringslite_HasPrefix N x.1 x.2.1
abbrev z13pk : SV [.v .bool] → BV [] → Bool := fun x _ => x.1
def z13fn (_N : Nat) : FuncId → Option Tmp → Option AF := fun f _ =>
 match f with
   | _ => none
theorem z13fn_ok (N : Nat) : FnOk (z13fn N) := by
 intro f q F h
 unfold z13fn at h
 split at h
 · cases h
def z13h : Nat → Hint := fun i =>
 match i with
 | _ => hint0
abbrev z13E (N : Nat) : Env := mkE z13h (z13fn N) FF FF
noncomputable def z13LP (N : Nat) : Nat → Code → St → (Ex → St → Option Bool) → Option Bool := fun i c =>
 match i with
 | i => fun st k => iter (z13h i) (exec (z13E N) N c i) N st k
theorem z13core (N : Nat) (x : SV [.v .str, .v .str]) (y : BV []) : runL (z13E N) Tryz.f118 (z13g N) z13pk (z13LP N) x y = stringslite_HasPrefix N x.1 x.2.1 := by kernel_rfl
theorem z13sound (N : Nat) : Snd 118 (z13g N) :=
 sndL (z13fn_ok N) Tryz.func118 rfl Tryz.call118 (z13g N) z13pk (fun _ _ => rfl) N (z13LP N) (show LoopsOk (z13LP N) (z13E N) N (resD (z13E N) Tryz.f118 (z13g N) z13pk) [] from trivial) (z13core N)
def strings_HasPrefix (N : Nat) (x0 : Str) (x1 : Str) : Option Bool :=
 bnd (stringslite_HasPrefix N x0 x1) fun t7 =>
 some t7
abbrev z19sg (f : SV [.v .str, .v .str] → BV [] → Option (Bool)) : AF := { ps := [.v .str, .v .str], bs := [], rs := [.v .bool], cs := [], R := Bool, out := fun z => ((z, ()), ()), f := f }
noncomputable abbrev z19g (N : Nat) : AF := z19sg fun x _ => strings_HasPrefix N x.1 x.2.1
abbrev z19pk : SV [.v .bool] → BV [] → Bool := fun x _ => x.1
def z19fn (N : Nat) : FuncId → Option Tmp → Option AF := fun f _ =>
 match f with
   | 118 => some (z13g N)
   | _ => none
theorem z19fn_ok (N : Nat) : FnOk (z19fn N) := by
 intro f q F h
 unfold z19fn at h
 split at h
 · cases h; exact z13sound N
 · cases h
def z19h : Nat → Hint := fun i =>
 match i with
 | _ => hint0
abbrev z19E (N : Nat) : Env := mkE z19h (z19fn N) FF FF
noncomputable def z19LP (N : Nat) : Nat → Code → St → (Ex → St → Option Bool) → Option Bool := fun i c =>
 match i with
 | i => fun st k => iter (z19h i) (exec (z19E N) N c i) N st k
theorem z19core (N : Nat) (x : SV [.v .str, .v .str]) (y : BV []) : runL (z19E N) Tryz.f95 (z19g N) z19pk (z19LP N) x y = strings_HasPrefix N x.1 x.2.1 := by kernel_rfl
theorem z19sound (N : Nat) : Snd 95 (z19g N) :=
 sndL (z19fn_ok N) Tryz.func95 rfl Tryz.call95 (z19g N) z19pk (fun _ _ => rfl) N (z19LP N) (show LoopsOk (z19LP N) (z19E N) N (resD (z19E N) Tryz.f95 (z19g N) z19pk) [] from trivial) (z19core N)
def ref1_Lies (N : Nat) (x0 : Str) (x1 : Str) : Option Bool :=
 br (decide (x1.length + ([47] : Str).length ≤ 9223372036854775807))
   (bnd (strings_HasPrefix N x0 (x1 ++ ([47] : Str))) fun t8 =>
   some t8)
   none
abbrev z57sg (f : SV [.v .str, .v .str] → BV [] → Option (Bool)) : AF := { ps := [.v .str, .v .str], bs := [], rs := [.v .bool], cs := [], R := Bool, out := fun z => ((z, ()), ()), f := f }
noncomputable abbrev z57g (N : Nat) : AF := z57sg fun x _ => ref1_Lies N x.1 x.2.1
abbrev z57pk : SV [.v .bool] → BV [] → Bool := fun x _ => x.1
def z57fn (N : Nat) : FuncId → Option Tmp → Option AF := fun f _ =>
 match f with
   | 95 => some (z19g N)
   | _ => none
theorem z57fn_ok (N : Nat) : FnOk (z57fn N) := by
 intro f q F h
 unfold z57fn at h
 split at h
 · cases h; exact z19sound N
 · cases h
def z57h : Nat → Hint := fun i =>
 match i with
 | _ => hint0
abbrev z57E (N : Nat) : Env := mkE z57h (z57fn N) FF FF
noncomputable def z57LP (N : Nat) : Nat → Code → St → (Ex → St → Option Bool) → Option Bool := fun i c =>
 match i with
 | i => fun st k => iter (z57h i) (exec (z57E N) N c i) N st k
theorem z57core (N : Nat) (x : SV [.v .str, .v .str]) (y : BV []) : runL (z57E N) Tryz.f67 (z57g N) z57pk (z57LP N) x y = ref1_Lies N x.1 x.2.1 := by kernel_rfl
theorem z57sound (N : Nat) : Snd 67 (z57g N) :=
 sndL (z57fn_ok N) Tryz.func67 rfl Tryz.call67 (z57g N) z57pk (fun _ _ => rfl) N (z57LP N) (show LoopsOk (z57LP N) (z57E N) N (resD (z57E N) Tryz.f67 (z57g N) z57pk) [] from trivial) (z57core N)
def z54L0T (N : Nat) (x0 : List τ2) (x1 : Str) (k0 : τ16 → Option (Bool × List τ2)) (self : Int → τ16 → Option (Bool × List τ2)) (s7 : Int) (w1006 : List τ2) : Option (Bool × List τ2) :=
 br (decide (s7 < (x0.length : Int)))
   (bnd (geti x0 s7) fun t17 =>
   br (t17.1 == x1)
     (bnd (geti x0 s7) fun t24 =>
     some (false, [t24]))
     (bnd (geti x0 s7) fun t29 =>
     bnd (ref1_Lies N t29.1 x1) fun t33 =>
     br (t33)
       (bnd (geti x0 s7) fun t36 =>
       bnd (slc t36.1 (IntKind.i64.wrap ((x1.length : Int) + (1 : Int))) (t36.1.length : Int)) fun t43 =>
       br (decide ((w1006.length + [(t43, t36.2)].length) * (24 * Ty.sz τ1) ≤ 140737488355328))
         (self (IntKind.i64.wrap (s7 + (1 : Int))) (w1006 ++ [(t43, t36.2)]))
         none)
       (self (IntKind.i64.wrap (s7 + (1 : Int))) w1006)))
   (k0 w1006)
def z54L0 (N : Nat) (x0 : List τ2) (x1 : Str) (k0 : τ16 → Option (Bool × List τ2)) : Nat → Int → τ16 → Option (Bool × List τ2)
 | 0, _, _ => none
 | n + 1, s7, w1006 => z54L0T N x0 x1 k0 (z54L0 N x0 x1 k0 n) s7 w1006
def ref1_below (N : Nat) (x0 : List τ2) (x1 : Str) : Option (Bool × List τ2) :=
 z54L0 N x0 x1 (fun o0_w1006 =>
     some (true, o0_w1006)) N (0 : Int) ([] : List τ2)
abbrev z54sg (f : SV [.v (.sl τ1), .v .str] → BV [] → Option (Bool × List τ2)) : AF := { ps := [.v (.sl τ1), .v .str], bs := [], rs := [.row 0, .v .bool], cs := [.row 62 τ1 false], R := Bool × List τ2, out := fun z => (((), z.1, ()), (z.2, ())), f := f }
noncomputable abbrev z54g (N : Nat) : AF := z54sg fun x _ => ref1_below N x.1 x.2.1
abbrev z54pk : SV [.row 0, .v .bool] → BV [.row 62 τ1 false] → (Bool × List τ2) := fun x y => (x.2.1, y.1)
def z54fn (N : Nat) : FuncId → Option Tmp → Option AF := fun f _ =>
 match f with
   | 67 => some (z57g N)
   | _ => none
theorem z54fn_ok (N : Nat) : FnOk (z54fn N) := by
 intro f q F h
 unfold z54fn at h
 split at h
 · cases h; exact z57sound N
 · cases h
def z54h : Nat → Hint := fun i =>
 match i with
 | 0 => ⟨[], [0, 1, 6, 7], [1006], [6], [1006], []⟩
 | _ => hint0
abbrev z54E (N : Nat) : Env := mkE z54h (z54fn N) FF FF
noncomputable abbrev z54c0 : Code := cAt (bodyOf Tryz.f42) [true, true, false, true, false, false]
noncomputable abbrev z54R (N : Nat) := resD (z54E N) Tryz.f42 (z54g N) z54pk
abbrev z54L0_fs : List (Nat × Sl) := [(0, .v (.sl τ1)), (1, .v .str), (6, .row 1006), (7, .v τ6)]
abbrev z54L0_bs : List (Nat × Sb) := [(1006, .row 62 τ1 false)]
def z54L0_hd (x0 : List τ2) (x1 : Str) (s7 : Int) (w1006 : List τ2) : St := ⟨50, [(0, .v (.sl τ1) x0), (1, .v .str x1), (6, .row 1006), (7, .v τ6 s7)], [(1006, .row 62 τ1 false w1006)]⟩
def z54L0_tl0 (_x0 : List τ2) (_x1 : Str) (o0_w1006 : List τ2) : St := ⟨50, [(6, .row 1006)], [(1006, .row 62 τ1 false o0_w1006)]⟩
def z54L0_G (N : Nat) (x0 : List τ2) (x1 : Str) (s7 : Int) (w1006 : List τ2) (k : Ex → St → Option (Bool × List τ2)) : Option (Bool × List τ2) :=
 z54L0 N x0 x1 (fun o0_w1006 => k (.exit 0) (z54L0_tl0 x0 x1 o0_w1006)) N s7 w1006
abbrev z54L0_F (N : Nat) : FV z54L0_fs → HV z54L0_bs → (Ex → St → Option (Bool × List τ2)) → Option (Bool × List τ2) := fun x y k => z54L0_G N x.1 x.2.1 x.2.2.2.1 y.1 k
noncomputable def z54LP (N : Nat) : Nat → Code → St → (Ex → St → Option (Bool × List τ2)) → Option (Bool × List τ2) := fun i c =>
 match i with
 | 0 => (LPc 50 z54L0_fs z54L0_bs (z54L0_F N) (fun st k => iter (z54h 0) (exec (z54E N) N c 0) N st k))
 | i => fun st k => iter (z54h i) (exec (z54E N) N c i) N st k
theorem z54L0_step (N : Nat) (x0 : List τ2) (x1 : Str) (KX : Nat → St → Option (Bool × List τ2)) (I : St → Option (Bool × List τ2)) (s7 : Int) (w1006 : List τ2) :
   execL (z54LP N) (z54E N) z54c0 0 (z54L0_hd x0 x1 s7 w1006) (roundK (z54h 0) I KX (z54R N)) = z54L0T N x0 x1 (fun o0_w1006 => KX 0 (z54L0_tl0 x0 x1 o0_w1006)) (fun s7 w1006 => I (z54L0_hd x0 x1 s7 w1006)) s7 w1006 := by kernel_rfl
theorem z54L0_ok (N : Nat) : ∀ x y k, (∀ st, k .ret st = (z54R N) st) → iter (z54h 0) (exec (z54E N) N z54c0 0) N ⟨50, unF z54L0_fs x, unH z54L0_bs y⟩ k = z54L0_F N x y k := fun x y k hk =>
 iter_link (S := (Int) × τ16 × Unit) (z54h 0) _ (execL (z54LP N) (z54E N) z54c0 0) (z54R N) (fun st k hk => execL_eq _ _ N _ z54c0 0 (show LoopsOk (z54LP N) (z54E N) N (z54R N) [] from trivial) st k hk) (fun s => z54L0_hd x.1 x.2.1 s.1 s.2.1) k hk
   (fun self s => z54L0T N x.1 x.2.1 (fun o0_w1006 => k (.exit 0) (z54L0_tl0 x.1 x.2.1 o0_w1006)) (fun s7 w1006 => self (s7, w1006, ())) s.1 s.2.1) (fun n s => z54L0 N x.1 x.2.1 (fun o0_w1006 => k (.exit 0) (z54L0_tl0 x.1 x.2.1 o0_w1006)) n s.1 s.2.1) (fun _ => rfl) (fun _ _ => rfl)
   (fun I s => z54L0_step N x.1 x.2.1 (fun j => k (.exit j)) I s.1 s.2.1) N (x.2.2.2.1, y.1, ())
theorem z54lp0 (N : Nat) : ∀ st k, (∀ st, k .ret st = (z54R N) st) → z54LP N 0 z54c0 st k = iter (Env.hint (z54E N) 0) (exec (z54E N) N z54c0 0) N st k := fun st k hk => LPc_eq 50 z54L0_fs z54L0_bs _ _ (z54R N) (z54L0_ok N) _ st k hk (rfl)
theorem z54core (N : Nat) (x : SV [.v (.sl τ1), .v .str]) (y : BV []) : runL (z54E N) Tryz.f42 (z54g N) z54pk (z54LP N) x y = ref1_below N x.1 x.2.1 := by kernel_rfl
theorem z54sound (N : Nat) : Snd 42 (z54g N) :=
 sndL (z54fn_ok N) Tryz.func42 rfl Tryz.call42 (z54g N) z54pk (fun _ _ => rfl) N (z54LP N) (show LoopsOk (z54LP N) (z54E N) N (z54R N) [(0, z54c0)] from ⟨z54lp0 N, trivial⟩) (z54core N)
def z49L0T (_N : Nat) (x0 : List UInt8) (k0 : Int → Option Str) (self : Int → Int → Option Str) (s3 : Int) (s4 : Int) : Option Str :=
 br (decide (s4 < (x0.length : Int)))
   (bnd (geti x0 s4) fun t17 =>
   self (IntKind.u64.wrap ((xorI .u64 s3 (IntKind.u64.wrap (UInt8.toNat t17 : Int))) * (1099511628211 : Int))) (IntKind.i64.wrap (s4 + (1 : Int))))
   (k0 s3)
def z49L0 (N : Nat) (x0 : List UInt8) (k0 : Int → Option Str) : Nat → Int → Int → Option Str
 | 0, _, _ => none
 | n + 1, s3, s4 => z49L0T N x0 k0 (z49L0 N x0 k0 n) s3 s4
def z49L1T (_N : Nat) (o0_3 : Int) (k2 : Str → Option Str) (self : Str → Int → Option Str) (s5 : Str) (s6 : Int) : Option Str :=
 br (decide (s6 ≥ (0 : Int)))
   (br (decide (0 ≤ s6))
     (br ((16 : Int) == 0)
       none
       (bnd (slc ([48, 49, 50, 51, 52, 53, 54, 55, 56, 57, 97, 98, 99, 100, 101, 102] : Str) (Int.tmod (shrI .u64 o0_3 s6) (16 : Int)) (IntKind.u64.wrap ((Int.tmod (shrI .u64 o0_3 s6) (16 : Int)) + (1 : Int)))) fun t34 =>
       br (decide (s5.length + t34.length ≤ 9223372036854775807))
         (self (s5 ++ t34) (IntKind.i64.wrap (s6 - (4 : Int))))
         none))
     none)
   (k2 s5)
def z49L1 (N : Nat) (o0_3 : Int) (k2 : Str → Option Str) : Nat → Str → Int → Option Str
 | 0, _, _ => none
 | n + 1, s5, s6 => z49L1T N o0_3 k2 (z49L1 N o0_3 k2 n) s5 s6
def ref1_Digest (N : Nat) (x0 : List UInt8) : Option Str :=
 z49L0 N x0 (fun o0_3 =>
     z49L1 N o0_3 (fun o1_5 =>
         some o1_5) N ([] : Str) (60 : Int)) N (14695981039346656037 : Int) (0 : Int)
abbrev z49sg (f : SV [.v τ15] → BV [] → Option (Str)) : AF := { ps := [.v τ15], bs := [], rs := [.v .str], cs := [], R := Str, out := fun z => ((z, ()), ()), f := f }
noncomputable abbrev z49g (N : Nat) : AF := z49sg fun x _ => ref1_Digest N x.1
abbrev z49pk : SV [.v .str] → BV [] → Str := fun x _ => x.1
def z49fn (_N : Nat) : FuncId → Option Tmp → Option AF := fun f _ =>
 match f with
   | _ => none
theorem z49fn_ok (N : Nat) : FnOk (z49fn N) := by
 intro f q F h
 unfold z49fn at h
 split at h
 · cases h
def z49h : Nat → Hint := fun i =>
 match i with
 | 0 => ⟨[], [0, 3, 4], [], [3], [], []⟩
 | 2 => ⟨[], [3, 5, 6], [], [5], [], []⟩
 | _ => hint0
abbrev z49E (N : Nat) : Env := mkE z49h (z49fn N) FF FF
noncomputable abbrev z49c1 : Code := cAt (bodyOf Tryz.f38) [true, true, false, true, false, false]
noncomputable abbrev z49c0 : Code := cAt (bodyOf Tryz.f38) [true, true, true, true, false, true, false, false]
noncomputable abbrev z49R (N : Nat) := resD (z49E N) Tryz.f38 (z49g N) z49pk
abbrev z49L0_fs : List (Nat × Sl) := [(0, .v τ15), (3, .v (.int .u64)), (4, .v τ6)]
abbrev z49L0_bs : List (Nat × Sb) := []
def z49L0_hd (x0 : List UInt8) (s3 : Int) (s4 : Int) : St := ⟨37, [(0, .v τ15 x0), (3, .v (.int .u64) s3), (4, .v τ6 s4)], []⟩
def z49L0_tl0 (_x0 : List UInt8) (o0_3 : Int) : St := ⟨37, [(3, .v (.int .u64) o0_3)], []⟩
def z49L0_G (N : Nat) (x0 : List UInt8) (s3 : Int) (s4 : Int) (k : Ex → St → Option Str) : Option Str :=
 z49L0 N x0 (fun o0_3 => k (.exit 0) (z49L0_tl0 x0 o0_3)) N s3 s4
abbrev z49L0_F (N : Nat) : FV z49L0_fs → HV z49L0_bs → (Ex → St → Option Str) → Option Str := fun x _ k => z49L0_G N x.1 x.2.1 x.2.2.1 k
abbrev z49L1_fs : List (Nat × Sl) := [(3, .v (.int .u64)), (5, .v .str), (6, .v τ6)]
abbrev z49L1_bs : List (Nat × Sb) := []
def z49L1_hd (o0_3 : Int) (s5 : Str) (s6 : Int) : St := ⟨37, [(3, .v (.int .u64) o0_3), (5, .v .str s5), (6, .v τ6 s6)], []⟩
def z49L1_tl2 (_o0_3 : Int) (o1_5 : Str) : St := ⟨37, [(5, .v .str o1_5)], []⟩
def z49L1_G (N : Nat) (o0_3 : Int) (s5 : Str) (s6 : Int) (k : Ex → St → Option Str) : Option Str :=
 z49L1 N o0_3 (fun o1_5 => k (.exit 2) (z49L1_tl2 o0_3 o1_5)) N s5 s6
abbrev z49L1_F (N : Nat) : FV z49L1_fs → HV z49L1_bs → (Ex → St → Option Str) → Option Str := fun x _ k => z49L1_G N x.1 x.2.1 x.2.2.1 k
noncomputable def z49LP (N : Nat) : Nat → Code → St → (Ex → St → Option Str) → Option Str := fun i c =>
 match i with
 | 0 => (LPc 37 z49L0_fs z49L0_bs (z49L0_F N) (fun st k => iter (z49h 0) (exec (z49E N) N c 0) N st k))
 | 2 => (LPc 37 z49L1_fs z49L1_bs (z49L1_F N) (fun st k => iter (z49h 2) (exec (z49E N) N c 2) N st k))
 | i => fun st k => iter (z49h i) (exec (z49E N) N c i) N st k
theorem z49L1_step (N : Nat) (o0_3 : Int) (KX : Nat → St → Option Str) (I : St → Option Str) (s5 : Str) (s6 : Int) :
   execL (z49LP N) (z49E N) z49c0 2 (z49L1_hd o0_3 s5 s6) (roundK (z49h 2) I KX (z49R N)) = z49L1T N o0_3 (fun o1_5 => KX 2 (z49L1_tl2 o0_3 o1_5)) (fun s5 s6 => I (z49L1_hd o0_3 s5 s6)) s5 s6 := by kernel_rfl
theorem z49L1_ok (N : Nat) : ∀ x y k, (∀ st, k .ret st = (z49R N) st) → iter (z49h 2) (exec (z49E N) N z49c0 2) N ⟨37, unF z49L1_fs x, unH z49L1_bs y⟩ k = z49L1_F N x y k := fun x _ k hk =>
 iter_link (S := (Str) × (Int) × Unit) (z49h 2) _ (execL (z49LP N) (z49E N) z49c0 2) (z49R N) (fun st k hk => execL_eq _ _ N _ z49c0 2 (show LoopsOk (z49LP N) (z49E N) N (z49R N) [] from trivial) st k hk) (fun s => z49L1_hd x.1 s.1 s.2.1) k hk
   (fun self s => z49L1T N x.1 (fun o1_5 => k (.exit 2) (z49L1_tl2 x.1 o1_5)) (fun s5 s6 => self (s5, s6, ())) s.1 s.2.1) (fun n s => z49L1 N x.1 (fun o1_5 => k (.exit 2) (z49L1_tl2 x.1 o1_5)) n s.1 s.2.1) (fun _ => rfl) (fun _ _ => rfl)
   (fun I s => z49L1_step N x.1 (fun j => k (.exit j)) I s.1 s.2.1) N (x.2.1, x.2.2.1, ())
theorem z49lp2 (N : Nat) : ∀ st k, (∀ st, k .ret st = (z49R N) st) → z49LP N 2 z49c0 st k = iter (Env.hint (z49E N) 2) (exec (z49E N) N z49c0 2) N st k := fun st k hk => LPc_eq 37 z49L1_fs z49L1_bs _ _ (z49R N) (z49L1_ok N) _ st k hk (rfl)
theorem z49L0_step (N : Nat) (x0 : List UInt8) (KX : Nat → St → Option Str) (I : St → Option Str) (s3 : Int) (s4 : Int) :
   execL (z49LP N) (z49E N) z49c1 0 (z49L0_hd x0 s3 s4) (roundK (z49h 0) I KX (z49R N)) = z49L0T N x0 (fun o0_3 => KX 0 (z49L0_tl0 x0 o0_3)) (fun s3 s4 => I (z49L0_hd x0 s3 s4)) s3 s4 := by kernel_rfl
theorem z49L0_ok (N : Nat) : ∀ x y k, (∀ st, k .ret st = (z49R N) st) → iter (z49h 0) (exec (z49E N) N z49c1 0) N ⟨37, unF z49L0_fs x, unH z49L0_bs y⟩ k = z49L0_F N x y k := fun x _ k hk =>
 iter_link (S := (Int) × (Int) × Unit) (z49h 0) _ (execL (z49LP N) (z49E N) z49c1 0) (z49R N) (fun st k hk => execL_eq _ _ N _ z49c1 0 (show LoopsOk (z49LP N) (z49E N) N (z49R N) [] from trivial) st k hk) (fun s => z49L0_hd x.1 s.1 s.2.1) k hk
   (fun self s => z49L0T N x.1 (fun o0_3 => k (.exit 0) (z49L0_tl0 x.1 o0_3)) (fun s3 s4 => self (s3, s4, ())) s.1 s.2.1) (fun n s => z49L0 N x.1 (fun o0_3 => k (.exit 0) (z49L0_tl0 x.1 o0_3)) n s.1 s.2.1) (fun _ => rfl) (fun _ _ => rfl)
   (fun I s => z49L0_step N x.1 (fun j => k (.exit j)) I s.1 s.2.1) N (x.2.1, x.2.2.1, ())
theorem z49lp0 (N : Nat) : ∀ st k, (∀ st, k .ret st = (z49R N) st) → z49LP N 0 z49c1 st k = iter (Env.hint (z49E N) 0) (exec (z49E N) N z49c1 0) N st k := fun st k hk => LPc_eq 37 z49L0_fs z49L0_bs _ _ (z49R N) (z49L0_ok N) _ st k hk (rfl)
theorem z49core (N : Nat) (x : SV [.v τ15]) (y : BV []) : runL (z49E N) Tryz.f38 (z49g N) z49pk (z49LP N) x y = ref1_Digest N x.1 := by kernel_rfl
theorem z49sound (N : Nat) : Snd 38 (z49g N) :=
 sndL (z49fn_ok N) Tryz.func38 rfl Tryz.call38 (z49g N) z49pk (fun _ _ => rfl) N (z49LP N) (show LoopsOk (z49LP N) (z49E N) N (z49R N) [(0, z49c1), (2, z49c0)] from ⟨z49lp0 N, z49lp2 N, trivial⟩) (z49core N)
abbrev z58sg (f : SV [.v (.sl τ1)] → BV [] → Option (Str)) : AF := { ps := [.v (.sl τ1)], bs := [], rs := [.v .str], cs := [], R := Str, out := fun z => ((z, ()), ()), f := f }
def z50L0T (N : Nat) (r_ref1_text : τ16 → Option (Str)) (x0 : List τ2) (c4 : List Str) (k0 : Str → Option Str) (self : Str → Int → Option Str) (s3 : Str) (s6 : Int) : Option Str :=
 br (decide (s6 < (c4.length : Int)))
   (bnd (geti c4 s6) fun t25 =>
   bnd (ref1_below N x0 t25) fun t27 =>
   br (t27.1)
     (bnd (geti c4 s6) fun t34 =>
     br (decide (([100, 105, 114, 32] : Str).length + t34.length ≤ 9223372036854775807))
       (br (decide ((([100, 105, 114, 32] : Str) ++ t34).length + ([32] : Str).length ≤ 9223372036854775807))
         (bnd (r_ref1_text t27.2) fun t39 =>
         br (decide (t39.length * 24 ≤ 140737488355328))
           (bnd (ref1_Digest N t39) fun t41 =>
           br (decide (((([100, 105, 114, 32] : Str) ++ t34) ++ ([32] : Str)).length + t41.length ≤ 9223372036854775807))
             (br (decide ((((([100, 105, 114, 32] : Str) ++ t34) ++ ([32] : Str)) ++ t41).length + ([10] : Str).length ≤ 9223372036854775807))
               (br (decide (s3.length + ((((([100, 105, 114, 32] : Str) ++ t34) ++ ([32] : Str)) ++ t41) ++ ([10] : Str)).length ≤ 9223372036854775807))
                 (self (s3 ++ ((((([100, 105, 114, 32] : Str) ++ t34) ++ ([32] : Str)) ++ t41) ++ ([10] : Str))) (IntKind.i64.wrap (s6 + (1 : Int))))
                 none)
               none)
             none)
           none)
         none)
       none)
     (bnd (geti t27.2 (0 : Int)) fun t46 =>
     br (t46.2.1)
       (bnd (geti c4 s6) fun t52 =>
       br (decide (([102, 105, 108, 101, 32] : Str).length + t52.length ≤ 9223372036854775807))
         (br (decide ((([102, 105, 108, 101, 32] : Str) ++ t52).length + ([32] : Str).length ≤ 9223372036854775807))
           (bnd (geti t27.2 (0 : Int)) fun t57 =>
           bnd (ref1_Digest N t57.2.2) fun t60 =>
           br (decide (((([102, 105, 108, 101, 32] : Str) ++ t52) ++ ([32] : Str)).length + t60.length ≤ 9223372036854775807))
             (br (decide ((((([102, 105, 108, 101, 32] : Str) ++ t52) ++ ([32] : Str)) ++ t60).length + ([32, 120, 10] : Str).length ≤ 9223372036854775807))
               (br (decide (s3.length + ((((([102, 105, 108, 101, 32] : Str) ++ t52) ++ ([32] : Str)) ++ t60) ++ ([32, 120, 10] : Str)).length ≤ 9223372036854775807))
                 (self (s3 ++ ((((([102, 105, 108, 101, 32] : Str) ++ t52) ++ ([32] : Str)) ++ t60) ++ ([32, 120, 10] : Str))) (IntKind.i64.wrap (s6 + (1 : Int))))
                 none)
               none)
             none)
           none)
         none)
       (bnd (geti c4 s6) fun t52_1 =>
       br (decide (([102, 105, 108, 101, 32] : Str).length + t52_1.length ≤ 9223372036854775807))
         (br (decide ((([102, 105, 108, 101, 32] : Str) ++ t52_1).length + ([32] : Str).length ≤ 9223372036854775807))
           (bnd (geti t27.2 (0 : Int)) fun t57_2 =>
           bnd (ref1_Digest N t57_2.2.2) fun t60_3 =>
           br (decide (((([102, 105, 108, 101, 32] : Str) ++ t52_1) ++ ([32] : Str)).length + t60_3.length ≤ 9223372036854775807))
             (br (decide ((((([102, 105, 108, 101, 32] : Str) ++ t52_1) ++ ([32] : Str)) ++ t60_3).length + ([32, 45, 10] : Str).length ≤ 9223372036854775807))
               (br (decide (s3.length + ((((([102, 105, 108, 101, 32] : Str) ++ t52_1) ++ ([32] : Str)) ++ t60_3) ++ ([32, 45, 10] : Str)).length ≤ 9223372036854775807))
                 (self (s3 ++ ((((([102, 105, 108, 101, 32] : Str) ++ t52_1) ++ ([32] : Str)) ++ t60_3) ++ ([32, 45, 10] : Str))) (IntKind.i64.wrap (s6 + (1 : Int))))
                 none)
               none)
             none)
           none)
         none)))
   (k0 s3)
def z50L0 (N : Nat) (r_ref1_text : τ16 → Option (Str)) (x0 : List τ2) (c4 : List Str) (k0 : Str → Option Str) : Nat → Str → Int → Option Str
 | 0, _, _ => none
 | n + 1, s3, s6 => z50L0T N r_ref1_text x0 c4 k0 (z50L0 N r_ref1_text x0 c4 k0 n) s3 s6
def ref1_text_b (N : Nat) (r_ref1_text : τ16 → Option (Str)) (x0 : List τ2) : Option Str :=
 bnd (ref1_names x0) fun t12 =>
 z50L0 N r_ref1_text x0 t12.1 (fun o0_3 =>
     some o0_3) N ([] : Str) (0 : Int)
abbrev z50sg (f : SV [.v (.sl τ1)] → BV [] → Option (Str)) : AF := { ps := [.v (.sl τ1)], bs := [], rs := [.v .str], cs := [], R := Str, out := fun z => ((z, ()), ()), f := f }
abbrev z50pk : SV [.v .str] → BV [] → Str := fun x _ => x.1
def z50fn (N : Nat) (r_ref1_text : τ16 → Option (Str)) : FuncId → Option Tmp → Option AF := fun f _ =>
 match f with
   | 38 => some (z49g N)
   | 40 => some (z58sg fun x _ => r_ref1_text x.1)
   | 41 => some (z55sg fun x _ => ref1_names x.1)
   | 42 => some (z54g N)
   | _ => none
theorem z50fn_ok (N : Nat) (r_ref1_text : τ16 → Option (Str)) (h_ref1_text : Sound Tryz.prog GW B0G 40 (z58sg fun x y => r_ref1_text x.1)) : ∀ f q F, z50fn N r_ref1_text f q = some F → Sound Tryz.prog GW B0G f F := by
 intro f q F h
 unfold z50fn at h
 split at h
 · cases h; exact z49sound N
 · cases h; exact h_ref1_text
 · cases h; exact z55sound
 · cases h; exact z54sound N
 · cases h
def z50h : Nat → Hint := fun i =>
 match i with
 | 0 => ⟨[], [0, 3, 4, 6], [], [3], [], []⟩
 | 100008 => hint0
 | _ => hint0
abbrev z50E (N : Nat) (r_ref1_text : τ16 → Option (Str)) : Env := mkE z50h (z50fn N r_ref1_text) (fun _ => false) (fun _ => false)
noncomputable abbrev z50c0 : Code := cAt (bodyOf Tryz.f40) [true, true, true, false, true, false, false]
abbrev z50L0_fs : List (Nat × Sl) := [(0, .v (.sl τ1)), (3, .v .str), (4, .v (.sl .str)), (6, .v τ6)]
abbrev z50L0_bs : List (Nat × Sb) := []
def z50L0_hd (x0 : List τ2) (c4 : List Str) (s3 : Str) (s6 : Int) : St := ⟨66, [(0, .v (.sl τ1) x0), (3, .v .str s3), (4, .v (.sl .str) c4), (6, .v τ6 s6)], []⟩
def z50L0_tl0 (_x0 : List τ2) (_c4 : List Str) (o0_3 : Str) : St := ⟨66, [(3, .v .str o0_3)], []⟩
def z50L0_G (N : Nat) (r_ref1_text : τ16 → Option (Str)) (x0 : List τ2) (c4 : List Str) (s3 : Str) (s6 : Int) (k : Ex → St → Option Str) : Option Str :=
 z50L0 N r_ref1_text x0 c4 (fun o0_3 => k (.exit 0) (z50L0_tl0 x0 c4 o0_3)) N s3 s6
abbrev z50L0_F (N : Nat) (r_ref1_text : τ16 → Option (Str)) : FV z50L0_fs → HV z50L0_bs → (Ex → St → Option Str) → Option Str := fun x _ k => z50L0_G N r_ref1_text x.1 x.2.2.1 x.2.1 x.2.2.2.1 k
noncomputable def z50LP (N : Nat) (r_ref1_text : τ16 → Option (Str)) : Nat → Code → St → (Ex → St → Option Str) → Option Str := fun i c =>
 match i with
 | 0 => (LPc 66 z50L0_fs z50L0_bs (z50L0_F N r_ref1_text) (fun st k => iter (z50h 0) (exec (z50E N r_ref1_text) N c 0) N st k))
 | i => fun st k => iter (z50h i) (exec (z50E N r_ref1_text) N c i) N st k
theorem z50L0_step (N : Nat) (r_ref1_text : τ16 → Option (Str)) (x0 : List τ2) (c4 : List Str) (KX : Nat → St → Option Str) (I : St → Option Str) (s3 : Str) (s6 : Int) :
   execL (z50LP N r_ref1_text) (z50E N r_ref1_text) z50c0 0 (z50L0_hd x0 c4 s3 s6) (roundK (z50h 0) I KX (resD (z50E N r_ref1_text) Tryz.f40 (z50sg fun x _ => ref1_text_b N r_ref1_text x.1) z50pk)) = z50L0T N r_ref1_text x0 c4 (fun o0_3 => KX 0 (z50L0_tl0 x0 c4 o0_3)) (fun s3 s6 => I (z50L0_hd x0 c4 s3 s6)) s3 s6 := by kernel_rfl
theorem z50L0_ok (N : Nat) (r_ref1_text : τ16 → Option (Str)) : ∀ x y k, (∀ st, k .ret st = (resD (z50E N r_ref1_text) Tryz.f40 (z50sg fun x _ => ref1_text_b N r_ref1_text x.1) z50pk) st) → iter (z50h 0) (exec (z50E N r_ref1_text) N z50c0 0) N ⟨66, unF z50L0_fs x, unH z50L0_bs y⟩ k = z50L0_F N r_ref1_text x y k := fun x _ k hk =>
 iter_link (S := (Str) × (Int) × Unit) (z50h 0) _ (execL (z50LP N r_ref1_text) (z50E N r_ref1_text) z50c0 0) (resD (z50E N r_ref1_text) Tryz.f40 (z50sg fun x _ => ref1_text_b N r_ref1_text x.1) z50pk) (fun st k hk => execL_eq _ _ N _ z50c0 0 (show LoopsOk (z50LP N r_ref1_text) (z50E N r_ref1_text) N (resD (z50E N r_ref1_text) Tryz.f40 (z50sg fun x _ => ref1_text_b N r_ref1_text x.1) z50pk) [] from trivial) st k hk) (fun s => z50L0_hd x.1 x.2.2.1 s.1 s.2.1) k hk
   (fun self s => z50L0T N r_ref1_text x.1 x.2.2.1 (fun o0_3 => k (.exit 0) (z50L0_tl0 x.1 x.2.2.1 o0_3)) (fun s3 s6 => self (s3, s6, ())) s.1 s.2.1) (fun n s => z50L0 N r_ref1_text x.1 x.2.2.1 (fun o0_3 => k (.exit 0) (z50L0_tl0 x.1 x.2.2.1 o0_3)) n s.1 s.2.1) (fun _ => rfl) (fun _ _ => rfl)
   (fun I s => z50L0_step N r_ref1_text x.1 x.2.2.1 (fun j => k (.exit j)) I s.1 s.2.1) N (x.2.1, x.2.2.2.1, ())
theorem z50lp0 (N : Nat) (r_ref1_text : τ16 → Option (Str)) : ∀ st k, (∀ st, k .ret st = (resD (z50E N r_ref1_text) Tryz.f40 (z50sg fun x _ => ref1_text_b N r_ref1_text x.1) z50pk) st) → z50LP N r_ref1_text 0 z50c0 st k = iter (Env.hint (z50E N r_ref1_text) 0) (exec (z50E N r_ref1_text) N z50c0 0) N st k := fun st k hk => LPc_eq 66 z50L0_fs z50L0_bs _ _ (resD (z50E N r_ref1_text) Tryz.f40 (z50sg fun x _ => ref1_text_b N r_ref1_text x.1) z50pk) (z50L0_ok N r_ref1_text) _ st k hk (rfl)
theorem z50core (N : Nat) (r_ref1_text : τ16 → Option (Str)) (x : SV [.v (.sl τ1)]) (y : BV []) : runL (z50E N r_ref1_text) Tryz.f40 (z50sg fun x _ => ref1_text_b N r_ref1_text x.1) z50pk (z50LP N r_ref1_text) x y = ref1_text_b N r_ref1_text x.1 := by kernel_rfl
theorem z50sound (N : Nat) (r_ref1_text : τ16 → Option (Str)) (h_ref1_text : Sound Tryz.prog GW B0G 40 (z58sg fun x y => r_ref1_text x.1)) : Sound Tryz.prog GW B0G 40 (z50sg fun x _ => ref1_text_b N r_ref1_text x.1) :=
 runD_sound (mkE_ok z50h (z50fn N r_ref1_text) _ _ (z50fn_ok N r_ref1_text h_ref1_text)) Tryz.func40 rfl Tryz.call40 (z50sg fun x _ => ref1_text_b N r_ref1_text x.1) z50pk (fun _ _ => rfl) N (fun x y _ h => ((runL_eq (z50E N r_ref1_text) N Tryz.f40 (z50sg fun x _ => ref1_text_b N r_ref1_text x.1) z50pk (z50LP N r_ref1_text) (show LoopsOk (z50LP N r_ref1_text) (z50E N r_ref1_text) N (resD (z50E N r_ref1_text) Tryz.f40 (z50sg fun x _ => ref1_text_b N r_ref1_text x.1) z50pk) [(0, z50c0)] from ⟨z50lp0 N r_ref1_text, trivial⟩) x y).trans (z50core N r_ref1_text x y)).trans h)
def ref1_text (N : Nat) : Nat → τ16 → Option (Str)
 | 0 => fun _ => none
 | d + 1 => ref1_text_b N (ref1_text N d)
theorem z58sound (N : Nat) : ∀ d, Sound Tryz.prog GW B0G 40 (z58sg fun x y => ref1_text N d x.1)
 | 0 => Sound.never Tryz.call40 (fun _ _ => rfl)
 | d + 1 => z50sound N (ref1_text N d) (z58sound N d)
abbrev z33sg (f : SV [.v (.sl τ1)] → BV [] → Option (List τ7)) : AF := { ps := [.v (.sl τ1)], bs := [], rs := [.v (.sl τ15)], cs := [], R := List τ7, out := fun z => ((z, ()), ()), f := f }
def z24L0T (N : Nat) (r_ref1_contents : τ16 → Option (List τ7)) (x0 : List τ2) (c4 : List Str) (k0 : (List τ7) → Option (List τ7)) (self : Int → (List τ7) → Option (List τ7)) (s6 : Int) (w1012 : List τ7) : Option (List τ7) :=
 br (decide (s6 < (c4.length : Int)))
   (bnd (geti c4 s6) fun t28 =>
   bnd (ref1_below N x0 t28) fun t30 =>
   br (t30.1)
     (bnd (r_ref1_contents t30.2) fun t36 =>
     br (decide ((w1012.length + t36.length) * (24 * Ty.sz τ15) ≤ 140737488355328))
       (self (IntKind.i64.wrap (s6 + (1 : Int))) (w1012 ++ t36))
       none)
     (bnd (geti t30.2 (0 : Int)) fun t40 =>
     br (decide ((w1012.length + [t40.2.2].length) * (24 * Ty.sz τ15) ≤ 140737488355328))
       (self (IntKind.i64.wrap (s6 + (1 : Int))) (w1012 ++ [t40.2.2]))
       none))
   (k0 w1012)
def z24L0 (N : Nat) (r_ref1_contents : τ16 → Option (List τ7)) (x0 : List τ2) (c4 : List Str) (k0 : (List τ7) → Option (List τ7)) : Nat → Int → (List τ7) → Option (List τ7)
 | 0, _, _ => none
 | n + 1, s6, w1012 => z24L0T N r_ref1_contents x0 c4 k0 (z24L0 N r_ref1_contents x0 c4 k0 n) s6 w1012
def ref1_contents_b (N : Nat) (r_ref1_contents : τ16 → Option (List τ7)) (x0 : List τ2) : Option (List τ7) :=
 bnd (ref1_text N N x0) fun t10 =>
 br (decide (t10.length * 24 ≤ 140737488355328))
   (bnd (ref1_names x0) fun t15 =>
   z24L0 N r_ref1_contents x0 t15.1 (fun o0_w1012 =>
       some o0_w1012) N (0 : Int) [t10])
   none
abbrev z24sg (f : SV [.v (.sl τ1)] → BV [] → Option (List τ7)) : AF := { ps := [.v (.sl τ1)], bs := [], rs := [.v (.sl τ15)], cs := [], R := List τ7, out := fun z => ((z, ()), ()), f := f }
abbrev z24pk : SV [.v (.sl τ15)] → BV [] → (List τ7) := fun x _ => x.1
def z24fn (N : Nat) (r_ref1_contents : τ16 → Option (List τ7)) : FuncId → Option Tmp → Option AF := fun f _ =>
 match f with
   | 21 => some (z33sg fun x _ => r_ref1_contents x.1)
   | 40 => some (z58sg fun x _ => ref1_text N N x.1)
   | 41 => some (z55sg fun x _ => ref1_names x.1)
   | 42 => some (z54g N)
   | _ => none
theorem z24fn_ok (N : Nat) (r_ref1_contents : τ16 → Option (List τ7)) (h_ref1_contents : Sound Tryz.prog GW B0G 21 (z33sg fun x y => r_ref1_contents x.1)) : ∀ f q F, z24fn N r_ref1_contents f q = some F → Sound Tryz.prog GW B0G f F := by
 intro f q F h
 unfold z24fn at h
 split at h
 · cases h; exact h_ref1_contents
 · cases h; exact z58sound N N
 · cases h; exact z55sound
 · cases h; exact z54sound N
 · cases h
def z24h : Nat → Hint := fun i =>
 match i with
 | 0 => ⟨[], [0, 3, 4, 6], [1012], [3], [1012], []⟩
 | _ => hint0
abbrev z24E (N : Nat) (r_ref1_contents : τ16 → Option (List τ7)) : Env := mkE z24h (z24fn N r_ref1_contents) (fun _ => false) (fun _ => false)
noncomputable abbrev z24c0 : Code := cAt (bodyOf Tryz.f21) [true, true, true, false, true, false, false]
abbrev z24L0_fs : List (Nat × Sl) := [(0, .v (.sl τ1)), (3, .row 1012), (4, .v (.sl .str)), (6, .v τ6)]
abbrev z24L0_bs : List (Nat × Sb) := [(1012, .row 36 τ15 false)]
def z24L0_hd (x0 : List τ2) (c4 : List Str) (s6 : Int) (w1012 : List τ7) : St := ⟨46, [(0, .v (.sl τ1) x0), (3, .row 1012), (4, .v (.sl .str) c4), (6, .v τ6 s6)], [(1012, .row 36 τ15 false w1012)]⟩
def z24L0_tl0 (_x0 : List τ2) (_c4 : List Str) (o0_w1012 : List τ7) : St := ⟨46, [(3, .row 1012)], [(1012, .row 36 τ15 false o0_w1012)]⟩
def z24L0_G (N : Nat) (r_ref1_contents : τ16 → Option (List τ7)) (x0 : List τ2) (c4 : List Str) (s6 : Int) (w1012 : List τ7) (k : Ex → St → Option (List τ7)) : Option (List τ7) :=
 z24L0 N r_ref1_contents x0 c4 (fun o0_w1012 => k (.exit 0) (z24L0_tl0 x0 c4 o0_w1012)) N s6 w1012
abbrev z24L0_F (N : Nat) (r_ref1_contents : τ16 → Option (List τ7)) : FV z24L0_fs → HV z24L0_bs → (Ex → St → Option (List τ7)) → Option (List τ7) := fun x y k => z24L0_G N r_ref1_contents x.1 x.2.2.1 x.2.2.2.1 y.1 k
noncomputable def z24LP (N : Nat) (r_ref1_contents : τ16 → Option (List τ7)) : Nat → Code → St → (Ex → St → Option (List τ7)) → Option (List τ7) := fun i c =>
 match i with
 | 0 => (LPc 46 z24L0_fs z24L0_bs (z24L0_F N r_ref1_contents) (fun st k => iter (z24h 0) (exec (z24E N r_ref1_contents) N c 0) N st k))
 | i => fun st k => iter (z24h i) (exec (z24E N r_ref1_contents) N c i) N st k
theorem z24L0_step (N : Nat) (r_ref1_contents : τ16 → Option (List τ7)) (x0 : List τ2) (c4 : List Str) (KX : Nat → St → Option (List τ7)) (I : St → Option (List τ7)) (s6 : Int) (w1012 : List τ7) :
   execL (z24LP N r_ref1_contents) (z24E N r_ref1_contents) z24c0 0 (z24L0_hd x0 c4 s6 w1012) (roundK (z24h 0) I KX (resD (z24E N r_ref1_contents) Tryz.f21 (z24sg fun x _ => ref1_contents_b N r_ref1_contents x.1) z24pk)) = z24L0T N r_ref1_contents x0 c4 (fun o0_w1012 => KX 0 (z24L0_tl0 x0 c4 o0_w1012)) (fun s6 w1012 => I (z24L0_hd x0 c4 s6 w1012)) s6 w1012 := by kernel_rfl
theorem z24L0_ok (N : Nat) (r_ref1_contents : τ16 → Option (List τ7)) : ∀ x y k, (∀ st, k .ret st = (resD (z24E N r_ref1_contents) Tryz.f21 (z24sg fun x _ => ref1_contents_b N r_ref1_contents x.1) z24pk) st) → iter (z24h 0) (exec (z24E N r_ref1_contents) N z24c0 0) N ⟨46, unF z24L0_fs x, unH z24L0_bs y⟩ k = z24L0_F N r_ref1_contents x y k := fun x y k hk =>
 iter_link (S := (Int) × (List τ7) × Unit) (z24h 0) _ (execL (z24LP N r_ref1_contents) (z24E N r_ref1_contents) z24c0 0) (resD (z24E N r_ref1_contents) Tryz.f21 (z24sg fun x _ => ref1_contents_b N r_ref1_contents x.1) z24pk) (fun st k hk => execL_eq _ _ N _ z24c0 0 (show LoopsOk (z24LP N r_ref1_contents) (z24E N r_ref1_contents) N (resD (z24E N r_ref1_contents) Tryz.f21 (z24sg fun x _ => ref1_contents_b N r_ref1_contents x.1) z24pk) [] from trivial) st k hk) (fun s => z24L0_hd x.1 x.2.2.1 s.1 s.2.1) k hk
   (fun self s => z24L0T N r_ref1_contents x.1 x.2.2.1 (fun o0_w1012 => k (.exit 0) (z24L0_tl0 x.1 x.2.2.1 o0_w1012)) (fun s6 w1012 => self (s6, w1012, ())) s.1 s.2.1) (fun n s => z24L0 N r_ref1_contents x.1 x.2.2.1 (fun o0_w1012 => k (.exit 0) (z24L0_tl0 x.1 x.2.2.1 o0_w1012)) n s.1 s.2.1) (fun _ => rfl) (fun _ _ => rfl)
   (fun I s => z24L0_step N r_ref1_contents x.1 x.2.2.1 (fun j => k (.exit j)) I s.1 s.2.1) N (x.2.2.2.1, y.1, ())
theorem z24lp0 (N : Nat) (r_ref1_contents : τ16 → Option (List τ7)) : ∀ st k, (∀ st, k .ret st = (resD (z24E N r_ref1_contents) Tryz.f21 (z24sg fun x _ => ref1_contents_b N r_ref1_contents x.1) z24pk) st) → z24LP N r_ref1_contents 0 z24c0 st k = iter (Env.hint (z24E N r_ref1_contents) 0) (exec (z24E N r_ref1_contents) N z24c0 0) N st k := fun st k hk => LPc_eq 46 z24L0_fs z24L0_bs _ _ (resD (z24E N r_ref1_contents) Tryz.f21 (z24sg fun x _ => ref1_contents_b N r_ref1_contents x.1) z24pk) (z24L0_ok N r_ref1_contents) _ st k hk (rfl)
theorem z24core (N : Nat) (r_ref1_contents : τ16 → Option (List τ7)) (x : SV [.v (.sl τ1)]) (y : BV []) : runL (z24E N r_ref1_contents) Tryz.f21 (z24sg fun x _ => ref1_contents_b N r_ref1_contents x.1) z24pk (z24LP N r_ref1_contents) x y = ref1_contents_b N r_ref1_contents x.1 := by kernel_rfl
theorem z24sound (N : Nat) (r_ref1_contents : τ16 → Option (List τ7)) (h_ref1_contents : Sound Tryz.prog GW B0G 21 (z33sg fun x y => r_ref1_contents x.1)) : Sound Tryz.prog GW B0G 21 (z24sg fun x _ => ref1_contents_b N r_ref1_contents x.1) :=
 runD_sound (mkE_ok z24h (z24fn N r_ref1_contents) _ _ (z24fn_ok N r_ref1_contents h_ref1_contents)) Tryz.func21 rfl Tryz.call21 (z24sg fun x _ => ref1_contents_b N r_ref1_contents x.1) z24pk (fun _ _ => rfl) N (fun x y _ h => ((runL_eq (z24E N r_ref1_contents) N Tryz.f21 (z24sg fun x _ => ref1_contents_b N r_ref1_contents x.1) z24pk (z24LP N r_ref1_contents) (show LoopsOk (z24LP N r_ref1_contents) (z24E N r_ref1_contents) N (resD (z24E N r_ref1_contents) Tryz.f21 (z24sg fun x _ => ref1_contents_b N r_ref1_contents x.1) z24pk) [(0, z24c0)] from ⟨z24lp0 N r_ref1_contents, trivial⟩) x y).trans (z24core N r_ref1_contents x y)).trans h)
def ref1_contents (N : Nat) : Nat → τ16 → Option (List τ7)
 | 0 => fun _ => none
 | d + 1 => ref1_contents_b N (ref1_contents N d)
theorem z33sound (N : Nat) : ∀ d, Sound Tryz.prog GW B0G 21 (z33sg fun x y => ref1_contents N d x.1)
 | 0 => Sound.never Tryz.call21 (fun _ _ => rfl)
 | d + 1 => z24sound N (ref1_contents N d) (z33sound N d)
def bytes_Equal (_N : Nat) (x0 : List UInt8) (x1 : List UInt8) : Option Bool :=
 some (x0 == x1)
abbrev z48sg (f : SV [.v τ15, .v τ15] → BV [] → Option (Bool)) : AF := { ps := [.v τ15, .v τ15], bs := [], rs := [.v .bool], cs := [], R := Bool, out := fun z => ((z, ()), ()), f := f }
noncomputable abbrev z48g (N : Nat) : AF := z48sg fun x _ => bytes_Equal N x.1 x.2.1
abbrev z48pk : SV [.v .bool] → BV [] → Bool := fun x _ => x.1
def z48fn (_N : Nat) : FuncId → Option Tmp → Option AF := fun f _ =>
 match f with
   | _ => none
theorem z48fn_ok (N : Nat) : FnOk (z48fn N) := by
 intro f q F h
 unfold z48fn at h
 split at h
 · cases h
def z48h : Nat → Hint := fun i =>
 match i with
 | _ => hint0
abbrev z48E (N : Nat) : Env := mkE z48h (z48fn N) FF FF
noncomputable def z48LP (N : Nat) : Nat → Code → St → (Ex → St → Option Bool) → Option Bool := fun i c =>
 match i with
 | i => fun st k => iter (z48h i) (exec (z48E N) N c i) N st k
theorem z48core (N : Nat) (x : SV [.v τ15, .v τ15]) (y : BV []) : runL (z48E N) Tryz.f39 (z48g N) z48pk (z48LP N) x y = bytes_Equal N x.1 x.2.1 := by kernel_rfl
theorem z48sound (N : Nat) : Snd 39 (z48g N) :=
 sndL (z48fn_ok N) Tryz.func39 rfl Tryz.call39 (z48g N) z48pk (fun _ _ => rfl) N (z48LP N) (show LoopsOk (z48LP N) (z48E N) N (resD (z48E N) Tryz.f39 (z48g N) z48pk) [] from trivial) (z48core N)
end
end Go.Proofs.YtjiddcchklaiiaaGreatDoor


/- strings.Trim and strings.Join, out of the kit's contracts. -/
namespace Go.Proofs.YtjiddcchklaiiaaGreatDoor
set_option linter.unusedVariables false
set_option linter.unusedSimpArgs false
open Go Go.RowKit Go.Shelf
def strings_Trim (a b : Str) : Option Str := if a.length ≤ 9223372036854775807 ∧ b.length < 1000000 ∧ b.all (fun c => decide (c.toNat < 128)) = true then some (Lib.trimS a b) else none
theorem z41sound : Sound Tryz.prog GW B0G 68 ⟨[.v .str, .v .str], [], [.v .str], [], Str, fun z => ((z, ()), ()), fun x _ => strings_Trim x.1 x.2.1⟩ := by
 refine Sound.ofExt Tryz.call68 fun M w vs x z hG hM hA hz => ?_
 obtain ⟨a, b, u⟩ := x
 match vs, hA with
 | [v1, v2], hA =>
   obtain ⟨h1, h2, _⟩ := hA
   rw [RepV.str h1, RepV.str h2]
   change strings_Trim a b = some z at hz
   unfold strings_Trim at hz
   split at hz
   · rename_i hc
     injection hz with hz
     subst hz
     refine (Any.strings_Trim_laid Tryz.lays160 (by kernel_rfl) ⟨a.toArray⟩ ⟨b.toArray⟩ w hc.1 (Nat.lt_of_lt_of_le hc.2.1 (by decide)) (ascii_of_all hc.2.2)).mono fun e w' hp => ?_
     exact ⟨[_], hp.1, hp.2, vStr _, trivial⟩
   · cases hz
end Go.Proofs.YtjiddcchklaiiaaGreatDoor


