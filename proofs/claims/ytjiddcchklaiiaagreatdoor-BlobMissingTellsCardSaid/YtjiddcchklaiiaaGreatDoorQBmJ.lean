/- What functions of the program compute, as plain functions (printed). -/
import Derived.Test.YtjiddcchklaiiaaGreatDoorQBmSw
import Derived.Test.YtjiddcchklaiiaaGreatDoorQNm
import Derived.Test.YtjiddcchklaiiaaGreatDoorQBmOb
import Derived.Test.YtjiddcchklaiiaaGreatDoorQTsT
import Derived.Shelf.Strings.SlTrimAscii
import Derived.Lib.Join
namespace Go.Proofs.YtjiddcchklaiiaaGreatDoor
open Go Go.RowKit
set_option maxRecDepth 100000
set_option linter.unusedVariables false
noncomputable section
def z20L0T (N : Nat) (r_blob_writer_dir : τ15 → τ18 → Option τ12) (t10 : List τ0) (c16 : Int) (k0 : τ18 → Option τ12) (self : Int → τ18 → Option τ12) (s17 : Int) (m1_1 : List (Str × τ8)) : Option τ12 :=
 br (decide (s17 < c16))
   (bnd (geti t10 s17) fun t19 =>
   br (!t19.2.1.isNone)
     (bnd (t19.2.1) fun t27 =>
     bnd (blob_writer_put N t27.2.2 m1_1) fun t30 =>
     self (IntKind.i64.wrap (s17 + (1 : Int))) t30.2)
     (bnd (r_blob_writer_dir t19.2.2 m1_1) fun t34 =>
     self (IntKind.i64.wrap (s17 + (1 : Int))) t34.2))
   (k0 m1_1)
def z20L0 (N : Nat) (r_blob_writer_dir : τ15 → τ18 → Option τ12) (t10 : List τ0) (c16 : Int) (k0 : τ18 → Option τ12) : Nat → Int → τ18 → Option τ12
 | 0, _, _ => none
 | n + 1, s17, m1_1 => z20L0T N r_blob_writer_dir t10 c16 k0 (z20L0 N r_blob_writer_dir t10 c16 k0 n) s17 m1_1
def blob_writer_dir_b (N : Nat) (r_blob_writer_dir : τ15 → τ18 → Option τ12) (x1 : List τ2) (m1 : List (Str × τ8)) : Option τ12 :=
 bnd (blob_nodes x1) fun t10 =>
 bnd (blob_dirText N N t10) fun t13 =>
 bnd (blob_writer_put N t13 m1) fun t14 =>
 z20L0 N r_blob_writer_dir t10 (t10.length : Int) (fun o0_m1 =>
     some (t14.1, o0_m1)) N (0 : Int) t14.2
abbrev z20sg (f : SV [.box 0 0, .v (.sl τ4)] → BV [.cells [.mref 1], .map τ17] → Option τ12) : AF := { ps := [.box 0 0, .v (.sl τ4)], bs := [.cells [.mref 1], .map τ17], rs := [.v .str], cs := [.cells [.mref 1], .map τ17], R := Str × List (Str × τ8), out := fun z => ((z.1, ()), (((), ()), z.2, ())), f := f }
abbrev z20pk : SV [.v .str] → BV [.cells [.mref 1], .map τ17] → τ12 := fun x y => (x.1, y.2.1)
def z20fn (N : Nat) (r_blob_writer_dir : τ15 → τ18 → Option τ12) : FuncId → Option Tmp → Option AF := fun f _ =>
 match f with
   | 15 => some (z25sg fun x y => r_blob_writer_dir x.2.1 y.2.1)
   | 32 => some (z53sg fun x _ => blob_nodes x.1)
   | 33 => some (z26g N)
   | 34 => some (z39sg fun x _ => blob_dirText N N x.1)
   | _ => none
theorem z20fn_ok (N : Nat) (r_blob_writer_dir : τ15 → τ18 → Option τ12) (h_blob_writer_dir : Sound Tryz.prog GW B0G 15 (z25sg fun x y => r_blob_writer_dir x.2.1 y.2.1)) : ∀ f q F, z20fn N r_blob_writer_dir f q = some F → Sound Tryz.prog GW B0G f F := by
 intro f q F h
 unfold z20fn at h
 split at h
 · cases h; exact h_blob_writer_dir
 · cases h; exact z53sound
 · cases h; exact z26sound N
 · cases h; exact z39sound N N
 · cases h
def z20h : Nat → Hint := fun i =>
 match i with
 | 0 => ⟨[], [0, 6, 15, 16, 17], [0, 1], [6], [0, 1], []⟩
 | _ => hint0
abbrev z20E (N : Nat) (r_blob_writer_dir : τ15 → τ18 → Option τ12) : Env := mkE z20h (z20fn N r_blob_writer_dir) (fun _ => false) (fun _ => false)
noncomputable abbrev z20c0 : Code := cAt (bodyOf Tryz.f15) [true, true, true, false, true, false, false]
abbrev z20L0_fs : List (Nat × Sl) := [(0, .box 0 0), (6, .v .str), (15, .v (.sl τ1)), (16, .v τ5), (17, .v τ5)]
abbrev z20L0_bs : List (Nat × Sb) := [(0, .cells [.mref 1]), (1, .map τ17)]
def z20L0_hd (c6 : Str) (t10 : List τ0) (c16 : Int) (s17 : Int) (m1_1 : List (Str × τ8)) : St := ⟨37, [(0, .box 0 0), (6, .v .str c6), (15, .v (.sl τ1) t10), (16, .v τ5 c16), (17, .v τ5 s17)], [(0, .cells [.mref 1]), (1, .map τ17 m1_1)]⟩
def z20L0_tl0 (c6 : Str) (_t10 : List τ0) (_c16 : Int) (o0_m1 : List (Str × τ8)) : St := ⟨37, [(6, .v .str c6)], [(0, .cells [.mref 1]), (1, .map τ17 o0_m1)]⟩
def z20L0_G (N : Nat) (r_blob_writer_dir : τ15 → τ18 → Option τ12) (c6 : Str) (t10 : List τ0) (c16 : Int) (s17 : Int) (m1_1 : List (Str × τ8)) (k : Ex → St → Option τ12) : Option τ12 :=
 z20L0 N r_blob_writer_dir t10 c16 (fun o0_m1 => k (.exit 0) (z20L0_tl0 c6 t10 c16 o0_m1)) N s17 m1_1
abbrev z20L0_F (N : Nat) (r_blob_writer_dir : τ15 → τ18 → Option τ12) : FV z20L0_fs → HV z20L0_bs → (Ex → St → Option τ12) → Option τ12 := fun x y k => z20L0_G N r_blob_writer_dir x.2.1 x.2.2.1 x.2.2.2.1 x.2.2.2.2.1 y.2.1 k
noncomputable def z20LP (N : Nat) (r_blob_writer_dir : τ15 → τ18 → Option τ12) : Nat → Code → St → (Ex → St → Option τ12) → Option τ12 := fun i c =>
 match i with
 | 0 => (LPc 37 z20L0_fs z20L0_bs (z20L0_F N r_blob_writer_dir) (fun st k => iter (z20h 0) (exec (z20E N r_blob_writer_dir) N c 0) N st k))
 | i => fun st k => iter (z20h i) (exec (z20E N r_blob_writer_dir) N c i) N st k
theorem z20L0_step (N : Nat) (r_blob_writer_dir : τ15 → τ18 → Option τ12) (c6 : Str) (t10 : List τ0) (c16 : Int) (KX : Nat → St → Option τ12) (I : St → Option τ12) (s17 : Int) (m1_1 : List (Str × τ8)) :
   execL (z20LP N r_blob_writer_dir) (z20E N r_blob_writer_dir) z20c0 0 (z20L0_hd c6 t10 c16 s17 m1_1) (roundK (z20h 0) I KX (resD (z20E N r_blob_writer_dir) Tryz.f15 (z20sg fun x y => blob_writer_dir_b N r_blob_writer_dir x.2.1 y.2.1) z20pk)) = z20L0T N r_blob_writer_dir t10 c16 (fun o0_m1 => KX 0 (z20L0_tl0 c6 t10 c16 o0_m1)) (fun s17 m1_1 => I (z20L0_hd c6 t10 c16 s17 m1_1)) s17 m1_1 := by kernel_rfl
theorem z20L0_ok (N : Nat) (r_blob_writer_dir : τ15 → τ18 → Option τ12) : ∀ x y k, (∀ st, k .ret st = (resD (z20E N r_blob_writer_dir) Tryz.f15 (z20sg fun x y => blob_writer_dir_b N r_blob_writer_dir x.2.1 y.2.1) z20pk) st) → iter (z20h 0) (exec (z20E N r_blob_writer_dir) N z20c0 0) N ⟨37, unF z20L0_fs x, unH z20L0_bs y⟩ k = z20L0_F N r_blob_writer_dir x y k := fun x y k hk =>
 iter_link (S := (Int) × τ18 × Unit) (z20h 0) _ (execL (z20LP N r_blob_writer_dir) (z20E N r_blob_writer_dir) z20c0 0) (resD (z20E N r_blob_writer_dir) Tryz.f15 (z20sg fun x y => blob_writer_dir_b N r_blob_writer_dir x.2.1 y.2.1) z20pk) (fun st k hk => execL_eq _ _ N _ z20c0 0 (show LoopsOk (z20LP N r_blob_writer_dir) (z20E N r_blob_writer_dir) N (resD (z20E N r_blob_writer_dir) Tryz.f15 (z20sg fun x y => blob_writer_dir_b N r_blob_writer_dir x.2.1 y.2.1) z20pk) [] from trivial) st k hk) (fun s => z20L0_hd x.2.1 x.2.2.1 x.2.2.2.1 s.1 s.2.1) k hk
   (fun self s => z20L0T N r_blob_writer_dir x.2.2.1 x.2.2.2.1 (fun o0_m1 => k (.exit 0) (z20L0_tl0 x.2.1 x.2.2.1 x.2.2.2.1 o0_m1)) (fun s17 m1_1 => self (s17, m1_1, ())) s.1 s.2.1) (fun n s => z20L0 N r_blob_writer_dir x.2.2.1 x.2.2.2.1 (fun o0_m1 => k (.exit 0) (z20L0_tl0 x.2.1 x.2.2.1 x.2.2.2.1 o0_m1)) n s.1 s.2.1) (fun _ => rfl) (fun _ _ => rfl)
   (fun I s => z20L0_step N r_blob_writer_dir x.2.1 x.2.2.1 x.2.2.2.1 (fun j => k (.exit j)) I s.1 s.2.1) N (x.2.2.2.2.1, y.2.1, ())
theorem z20lp0 (N : Nat) (r_blob_writer_dir : τ15 → τ18 → Option τ12) : ∀ st k, (∀ st, k .ret st = (resD (z20E N r_blob_writer_dir) Tryz.f15 (z20sg fun x y => blob_writer_dir_b N r_blob_writer_dir x.2.1 y.2.1) z20pk) st) → z20LP N r_blob_writer_dir 0 z20c0 st k = iter (Env.hint (z20E N r_blob_writer_dir) 0) (exec (z20E N r_blob_writer_dir) N z20c0 0) N st k := fun st k hk => LPc_eq 37 z20L0_fs z20L0_bs _ _ (resD (z20E N r_blob_writer_dir) Tryz.f15 (z20sg fun x y => blob_writer_dir_b N r_blob_writer_dir x.2.1 y.2.1) z20pk) (z20L0_ok N r_blob_writer_dir) _ st k hk (rfl)
theorem z20core (N : Nat) (r_blob_writer_dir : τ15 → τ18 → Option τ12) (x : SV [.box 0 0, .v (.sl τ4)]) (y : BV [.cells [.mref 1], .map τ17]) : runL (z20E N r_blob_writer_dir) Tryz.f15 (z20sg fun x y => blob_writer_dir_b N r_blob_writer_dir x.2.1 y.2.1) z20pk (z20LP N r_blob_writer_dir) x y = blob_writer_dir_b N r_blob_writer_dir x.2.1 y.2.1 := by kernel_rfl
theorem z20sound (N : Nat) (r_blob_writer_dir : τ15 → τ18 → Option τ12) (h_blob_writer_dir : Sound Tryz.prog GW B0G 15 (z25sg fun x y => r_blob_writer_dir x.2.1 y.2.1)) : Sound Tryz.prog GW B0G 15 (z20sg fun x y => blob_writer_dir_b N r_blob_writer_dir x.2.1 y.2.1) :=
 runD_sound (mkE_ok z20h (z20fn N r_blob_writer_dir) _ _ (z20fn_ok N r_blob_writer_dir h_blob_writer_dir)) Tryz.func15 rfl Tryz.call15 (z20sg fun x y => blob_writer_dir_b N r_blob_writer_dir x.2.1 y.2.1) z20pk (fun _ _ => rfl) N (fun x y _ h => ((runL_eq (z20E N r_blob_writer_dir) N Tryz.f15 (z20sg fun x y => blob_writer_dir_b N r_blob_writer_dir x.2.1 y.2.1) z20pk (z20LP N r_blob_writer_dir) (show LoopsOk (z20LP N r_blob_writer_dir) (z20E N r_blob_writer_dir) N (resD (z20E N r_blob_writer_dir) Tryz.f15 (z20sg fun x y => blob_writer_dir_b N r_blob_writer_dir x.2.1 y.2.1) z20pk) [(0, z20c0)] from ⟨z20lp0 N r_blob_writer_dir, trivial⟩) x y).trans (z20core N r_blob_writer_dir x y)).trans h)
def blob_writer_dir (N : Nat) : Nat → τ15 → τ18 → Option τ12
 | 0 => fun _ _ => none
 | d + 1 => blob_writer_dir_b N (blob_writer_dir N d)
theorem z25sound (N : Nat) : ∀ d, Sound Tryz.prog GW B0G 15 (z25sg fun x y => blob_writer_dir N d x.2.1 y.2.1)
 | 0 => Sound.never Tryz.call15 (fun _ _ => rfl)
 | d + 1 => z20sound N (blob_writer_dir N d) (z25sound N d)
def z46L0T (_N : Nat) (k0 : τ16 → Option τ19) (self : τ16 → τ18 → Option τ19) (w1008 : List τ3) (i1032 : List (Str × τ8)) : Option τ19 :=
 br (i1032.isEmpty)
   (k0 w1008)
   (allC i1032 fun p33 q33 =>
   br (decide ((w1008.length + [p33].length) * (24 * Ty.sz τ7) ≤ 140737488355328))
     (self (w1008 ++ [p33]) q33)
     none)
def z46L0 (N : Nat) (k0 : τ16 → Option τ19) : Nat → τ16 → τ18 → Option τ19
 | 0, _, _ => none
 | n + 1, w1008, i1032 => z46L0T N k0 (z46L0 N k0 n) w1008 i1032
def blob_TreeOf (N : Nat) (x0 : List τ2) : Option τ19 :=
 bnd (blob_CheckFiles N x0) fun t12 =>
 br (t12 != (0 : Int))
   (some (([] : Str), (t12, ([] : List τ3))))
   (bnd (blob_writer_dir N N x0 ([] : List (Str × τ8))) fun t21 =>
   br (decide ((t21.2.length : Int) > (4000 : Int)))
     (some (([] : Str), ((2 : Int), ([] : List τ3))))
     (z46L0 N (fun o0_w1008 =>
         bnd (slices_SortFunc_object () o0_w1008) fun t45 =>
         some (t21.1, ((0 : Int), t45))) N ([] : List τ3) t21.2))
abbrev z46sg (f : SV [.v (.sl τ4)] → BV [] → Option τ19) : AF := { ps := [.v (.sl τ4)], bs := [], rs := [.v .str, .row 0, .v τ5], cs := [.row 38 τ7 true], R := Str × Int × List τ3, out := fun z => ((z.1, (), z.2.1, ()), (z.2.2, ())), f := f }
noncomputable abbrev z46g (N : Nat) : AF := z46sg fun x _ => blob_TreeOf N x.1
abbrev z46pk : SV [.v .str, .row 0, .v τ5] → BV [.row 38 τ7 true] → τ19 := fun x y => (x.1, x.2.2.1, y.1)
def z46fn (N : Nat) : FuncId → Option Tmp → Option AF := fun f _ =>
 match f with
   | 14 => some (z24g N)
   | 15 => some (z25sg fun x y => blob_writer_dir N N x.2.1 y.2.1)
   | 16 => some (z12sg fun x y => slices_SortFunc_object x.2.1 y.1)
   | _ => none
theorem z46fn_ok (N : Nat) : FnOk (z46fn N) := by
 intro f q F h
 unfold z46fn at h
 split at h
 · cases h; exact z24sound N
 · cases h; exact z25sound N N
 · cases h; exact z12sound
 · cases h
def z46h : Nat → Hint := fun i =>
 match i with
 | 0 => ⟨[], [7, 8, 32], [1008, 1032], [7, 8], [1008], []⟩
 | _ => hint0
abbrev z46E (N : Nat) : Env := mkE z46h (z46fn N) (fun i => match i with | 2 => true | 3 => true | 4 => true | 5 => true | 6 => true | 7 => true | 8 => true | 9 => true | 10 => true | 26 => true | 42 => true | 43 => true | _ => false) (fun _ => false)
noncomputable abbrev z46c0 : Code := cAt (bodyOf Tryz.f5) [true, true, true, true, true, true, false, true, false, false]
noncomputable abbrev z46R (N : Nat) := resD (z46E N) Tryz.f5 (z46g N) z46pk
abbrev z46L0_fs : List (Nat × Sl) := [(7, .v .str), (8, .row 1008), (32, .box 1032 0)]
abbrev z46L0_bs : List (Nat × Sb) := [(1008, .row 38 τ7 true), (1032, .iter τ17)]
def z46L0_hd (c7 : Str) (w1008 : List τ3) (i1032 : List (Str × τ8)) : St := ⟨48, [(7, .v .str c7), (8, .row 1008), (32, .box 1032 0)], [(1008, .row 38 τ7 true w1008), (1032, .iter τ17 i1032 none)]⟩
def z46L0_tl0 (c7 : Str) (o0_w1008 : List τ3) : St := ⟨48, [(7, .v .str c7), (8, .row 1008)], [(1008, .row 38 τ7 true o0_w1008)]⟩
def z46L0_G (N : Nat) (c7 : Str) (w1008 : List τ3) (i1032 : List (Str × τ8)) (k : Ex → St → Option τ19) : Option τ19 :=
 z46L0 N (fun o0_w1008 => k (.exit 0) (z46L0_tl0 c7 o0_w1008)) N w1008 i1032
abbrev z46L0_F (N : Nat) : FV z46L0_fs → HV z46L0_bs → (Ex → St → Option τ19) → Option τ19 := fun x y k => z46L0_G N x.1 y.1 y.2.1 k
noncomputable def z46LP (N : Nat) : Nat → Code → St → (Ex → St → Option τ19) → Option τ19 := fun i c =>
 match i with
 | 0 => (LPc 48 z46L0_fs z46L0_bs (z46L0_F N) (fun st k => iter (z46h 0) (exec (z46E N) N c 0) N st k))
 | i => fun st k => iter (z46h i) (exec (z46E N) N c i) N st k
theorem z46L0_step (N : Nat) (c7 : Str) (KX : Nat → St → Option τ19) (I : St → Option τ19) (w1008 : List τ3) (i1032 : List (Str × τ8)) :
   execL (z46LP N) (z46E N) z46c0 0 (z46L0_hd c7 w1008 i1032) (roundK (z46h 0) I KX (z46R N)) = z46L0T N (fun o0_w1008 => KX 0 (z46L0_tl0 c7 o0_w1008)) (fun w1008 i1032 => I (z46L0_hd c7 w1008 i1032)) w1008 i1032 := by kernel_rfl
theorem z46L0_ok (N : Nat) : ∀ x y k, (∀ st, k .ret st = (z46R N) st) → iter (z46h 0) (exec (z46E N) N z46c0 0) N ⟨48, unF z46L0_fs x, unH z46L0_bs y⟩ k = z46L0_F N x y k := fun x y k hk =>
 iter_link (S := τ16 × τ18 × Unit) (z46h 0) _ (execL (z46LP N) (z46E N) z46c0 0) (z46R N) (fun st k hk => execL_eq _ _ N _ z46c0 0 (show LoopsOk (z46LP N) (z46E N) N (z46R N) [] from trivial) st k hk) (fun s => z46L0_hd x.1 s.1 s.2.1) k hk
   (fun self s => z46L0T N (fun o0_w1008 => k (.exit 0) (z46L0_tl0 x.1 o0_w1008)) (fun w1008 i1032 => self (w1008, i1032, ())) s.1 s.2.1) (fun n s => z46L0 N (fun o0_w1008 => k (.exit 0) (z46L0_tl0 x.1 o0_w1008)) n s.1 s.2.1) (fun _ => rfl) (fun _ _ => rfl)
   (fun I s => z46L0_step N x.1 (fun j => k (.exit j)) I s.1 s.2.1) N (y.1, y.2.1, ())
theorem z46lp0 (N : Nat) : ∀ st k, (∀ st, k .ret st = (z46R N) st) → z46LP N 0 z46c0 st k = iter (Env.hint (z46E N) 0) (exec (z46E N) N z46c0 0) N st k := fun st k hk => LPc_eq 48 z46L0_fs z46L0_bs _ _ (z46R N) (z46L0_ok N) _ st k hk (rfl)
theorem z46core (N : Nat) (x : SV [.v (.sl τ4)]) (y : BV []) : runL (z46E N) Tryz.f5 (z46g N) z46pk (z46LP N) x y = blob_TreeOf N x.1 := by kernel_rfl
theorem z46sound (N : Nat) : Snd 5 (z46g N) :=
 runD_sound (mkE_ok z46h (z46fn N) _ _ (z46fn_ok N)) Tryz.func5 rfl Tryz.call5 (z46g N) z46pk (fun _ _ => rfl) N (fun x y _ h => ((runL_eq (z46E N) N Tryz.f5 (z46g N) z46pk (z46LP N) (show LoopsOk (z46LP N) (z46E N) N (z46R N) [(0, z46c0)] from ⟨z46lp0 N, trivial⟩) x y).trans (z46core N x y)).trans h)
def law1_awake (N : Nat) : Option Bool :=
 bnd (blob_Digest N ([] : List UInt8)) fun t1 =>
 some (t1 == ([99, 98, 102, 50, 57, 99, 101, 52, 56, 52, 50, 50, 50, 51, 50, 53] : Str))
abbrev z54sg (f : SV [] → BV [] → Option (Bool)) : AF := { ps := [], bs := [], rs := [.v .bool], cs := [], R := Bool, out := fun z => ((z, ()), ()), f := f }
noncomputable abbrev z54g (N : Nat) : AF := z54sg fun _ _ => law1_awake N
abbrev z54pk : SV [.v .bool] → BV [] → Bool := fun x _ => x.1
def z54fn (N : Nat) : FuncId → Option Tmp → Option AF := fun f _ =>
 match f with
   | 19 => some (z43g N)
   | _ => none
theorem z54fn_ok (N : Nat) : FnOk (z54fn N) := by
 intro f q F h
 unfold z54fn at h
 split at h
 · cases h; exact z43sound N
 · cases h
def z54h : Nat → Hint := fun i =>
 match i with
 | _ => hint0
abbrev z54E (N : Nat) : Env := mkE z54h (z54fn N) FF FF
noncomputable def z54LP (N : Nat) : Nat → Code → St → (Ex → St → Option Bool) → Option Bool := fun i c =>
 match i with
 | i => fun st k => iter (z54h i) (exec (z54E N) N c i) N st k
theorem z54core (N : Nat) (x : SV []) (y : BV []) : runL (z54E N) Tryz.f6 (z54g N) z54pk (z54LP N) x y = law1_awake N := by kernel_rfl
theorem z54sound (N : Nat) : Snd 6 (z54g N) :=
 sndL (z54fn_ok N) Tryz.func6 rfl Tryz.call6 (z54g N) z54pk (fun _ _ => rfl) N (z54LP N) (show LoopsOk (z54LP N) (z54E N) N (resD (z54E N) Tryz.f6 (z54g N) z54pk) [] from trivial) (z54core N)
def stringslite_HasPrefix (_N : Nat) (x0 : Str) (x1 : Str) : Option Bool :=
 br (decide ((x0.length : Int) ≥ (x1.length : Int)))
   (bnd (slc x0 (0 : Int) (x1.length : Int)) fun t14 =>
   some (t14 == x1))
   (some false)
abbrev z15sg (f : SV [.v .str, .v .str] → BV [] → Option (Bool)) : AF := { ps := [.v .str, .v .str], bs := [], rs := [.v .bool], cs := [], R := Bool, out := fun z => ((z, ()), ()), f := f }
noncomputable abbrev z15g (N : Nat) : AF := z15sg fun x _ => stringslite_HasPrefix N x.1 x.2.1
abbrev z15pk : SV [.v .bool] → BV [] → Bool := fun x _ => x.1
def z15fn (_N : Nat) : FuncId → Option Tmp → Option AF := fun f _ =>
 match f with
   | _ => none
theorem z15fn_ok (N : Nat) : FnOk (z15fn N) := by
 intro f q F h
 unfold z15fn at h
 split at h
 · cases h
def z15h : Nat → Hint := fun i =>
 match i with
 | _ => hint0
abbrev z15E (N : Nat) : Env := mkE z15h (z15fn N) FF FF
noncomputable def z15LP (N : Nat) : Nat → Code → St → (Ex → St → Option Bool) → Option Bool := fun i c =>
 match i with
 | i => fun st k => iter (z15h i) (exec (z15E N) N c i) N st k
theorem z15core (N : Nat) (x : SV [.v .str, .v .str]) (y : BV []) : runL (z15E N) Tryz.f118 (z15g N) z15pk (z15LP N) x y = stringslite_HasPrefix N x.1 x.2.1 := by kernel_rfl
theorem z15sound (N : Nat) : Snd 118 (z15g N) :=
 sndL (z15fn_ok N) Tryz.func118 rfl Tryz.call118 (z15g N) z15pk (fun _ _ => rfl) N (z15LP N) (show LoopsOk (z15LP N) (z15E N) N (resD (z15E N) Tryz.f118 (z15g N) z15pk) [] from trivial) (z15core N)
def strings_HasPrefix (N : Nat) (x0 : Str) (x1 : Str) : Option Bool :=
 bnd (stringslite_HasPrefix N x0 x1) fun t7 =>
 some t7
abbrev z22sg (f : SV [.v .str, .v .str] → BV [] → Option (Bool)) : AF := { ps := [.v .str, .v .str], bs := [], rs := [.v .bool], cs := [], R := Bool, out := fun z => ((z, ()), ()), f := f }
noncomputable abbrev z22g (N : Nat) : AF := z22sg fun x _ => strings_HasPrefix N x.1 x.2.1
abbrev z22pk : SV [.v .bool] → BV [] → Bool := fun x _ => x.1
def z22fn (N : Nat) : FuncId → Option Tmp → Option AF := fun f _ =>
 match f with
   | 118 => some (z15g N)
   | _ => none
theorem z22fn_ok (N : Nat) : FnOk (z22fn N) := by
 intro f q F h
 unfold z22fn at h
 split at h
 · cases h; exact z15sound N
 · cases h
def z22h : Nat → Hint := fun i =>
 match i with
 | _ => hint0
abbrev z22E (N : Nat) : Env := mkE z22h (z22fn N) FF FF
noncomputable def z22LP (N : Nat) : Nat → Code → St → (Ex → St → Option Bool) → Option Bool := fun i c =>
 match i with
 | i => fun st k => iter (z22h i) (exec (z22E N) N c i) N st k
theorem z22core (N : Nat) (x : SV [.v .str, .v .str]) (y : BV []) : runL (z22E N) Tryz.f95 (z22g N) z22pk (z22LP N) x y = strings_HasPrefix N x.1 x.2.1 := by kernel_rfl
theorem z22sound (N : Nat) : Snd 95 (z22g N) :=
 sndL (z22fn_ok N) Tryz.func95 rfl Tryz.call95 (z22g N) z22pk (fun _ _ => rfl) N (z22LP N) (show LoopsOk (z22LP N) (z22E N) N (resD (z22E N) Tryz.f95 (z22g N) z22pk) [] from trivial) (z22core N)
def ref1_Lies (N : Nat) (x0 : Str) (x1 : Str) : Option Bool :=
 br (decide (x1.length + ([47] : Str).length ≤ 9223372036854775807))
   (bnd (strings_HasPrefix N x0 (x1 ++ ([47] : Str))) fun t8 =>
   some t8)
   none
abbrev z58sg (f : SV [.v .str, .v .str] → BV [] → Option (Bool)) : AF := { ps := [.v .str, .v .str], bs := [], rs := [.v .bool], cs := [], R := Bool, out := fun z => ((z, ()), ()), f := f }
noncomputable abbrev z58g (N : Nat) : AF := z58sg fun x _ => ref1_Lies N x.1 x.2.1
abbrev z58pk : SV [.v .bool] → BV [] → Bool := fun x _ => x.1
def z58fn (N : Nat) : FuncId → Option Tmp → Option AF := fun f _ =>
 match f with
   | 95 => some (z22g N)
   | _ => none
theorem z58fn_ok (N : Nat) : FnOk (z58fn N) := by
 intro f q F h
 unfold z58fn at h
 split at h
 · cases h; exact z22sound N
 · cases h
def z58h : Nat → Hint := fun i =>
 match i with
 | _ => hint0
abbrev z58E (N : Nat) : Env := mkE z58h (z58fn N) FF FF
noncomputable def z58LP (N : Nat) : Nat → Code → St → (Ex → St → Option Bool) → Option Bool := fun i c =>
 match i with
 | i => fun st k => iter (z58h i) (exec (z58E N) N c i) N st k
theorem z58core (N : Nat) (x : SV [.v .str, .v .str]) (y : BV []) : runL (z58E N) Tryz.f67 (z58g N) z58pk (z58LP N) x y = ref1_Lies N x.1 x.2.1 := by kernel_rfl
theorem z58sound (N : Nat) : Snd 67 (z58g N) :=
 sndL (z58fn_ok N) Tryz.func67 rfl Tryz.call67 (z58g N) z58pk (fun _ _ => rfl) N (z58LP N) (show LoopsOk (z58LP N) (z58E N) N (resD (z58E N) Tryz.f67 (z58g N) z58pk) [] from trivial) (z58core N)
def z55L0T (N : Nat) (x0 : List τ2) (x1 : Str) (k0 : τ15 → Option (Bool × List τ2)) (self : Int → τ15 → Option (Bool × List τ2)) (s7 : Int) (w1006 : List τ2) : Option (Bool × List τ2) :=
 br (decide (s7 < (x0.length : Int)))
   (bnd (geti x0 s7) fun t17 =>
   br (t17.1 == x1)
     (bnd (geti x0 s7) fun t24 =>
     some (false, [t24]))
     (bnd (geti x0 s7) fun t29 =>
     bnd (ref1_Lies N t29.1 x1) fun t33 =>
     br (t33)
       (bnd (geti x0 s7) fun t36 =>
       bnd (slc t36.1 (IntKind.i64.wrap ((x1.length : Int) + (1 : Int))) (t36.1.length : Int)) fun t43 =>
       br (decide ((w1006.length + [(t43, t36.2)].length) * (24 * Ty.sz τ4) ≤ 140737488355328))
         (self (IntKind.i64.wrap (s7 + (1 : Int))) (w1006 ++ [(t43, t36.2)]))
         none)
       (self (IntKind.i64.wrap (s7 + (1 : Int))) w1006)))
   (k0 w1006)
def z55L0 (N : Nat) (x0 : List τ2) (x1 : Str) (k0 : τ15 → Option (Bool × List τ2)) : Nat → Int → τ15 → Option (Bool × List τ2)
 | 0, _, _ => none
 | n + 1, s7, w1006 => z55L0T N x0 x1 k0 (z55L0 N x0 x1 k0 n) s7 w1006
def ref1_below (N : Nat) (x0 : List τ2) (x1 : Str) : Option (Bool × List τ2) :=
 z55L0 N x0 x1 (fun o0_w1006 =>
     some (true, o0_w1006)) N (0 : Int) ([] : List τ2)
abbrev z55sg (f : SV [.v (.sl τ4), .v .str] → BV [] → Option (Bool × List τ2)) : AF := { ps := [.v (.sl τ4), .v .str], bs := [], rs := [.row 0, .v .bool], cs := [.row 62 τ4 false], R := Bool × List τ2, out := fun z => (((), z.1, ()), (z.2, ())), f := f }
noncomputable abbrev z55g (N : Nat) : AF := z55sg fun x _ => ref1_below N x.1 x.2.1
abbrev z55pk : SV [.row 0, .v .bool] → BV [.row 62 τ4 false] → (Bool × List τ2) := fun x y => (x.2.1, y.1)
def z55fn (N : Nat) : FuncId → Option Tmp → Option AF := fun f _ =>
 match f with
   | 67 => some (z58g N)
   | _ => none
theorem z55fn_ok (N : Nat) : FnOk (z55fn N) := by
 intro f q F h
 unfold z55fn at h
 split at h
 · cases h; exact z58sound N
 · cases h
def z55h : Nat → Hint := fun i =>
 match i with
 | 0 => ⟨[], [0, 1, 6, 7], [1006], [6], [1006], []⟩
 | _ => hint0
abbrev z55E (N : Nat) : Env := mkE z55h (z55fn N) FF FF
noncomputable abbrev z55c0 : Code := cAt (bodyOf Tryz.f42) [true, true, false, true, false, false]
noncomputable abbrev z55R (N : Nat) := resD (z55E N) Tryz.f42 (z55g N) z55pk
abbrev z55L0_fs : List (Nat × Sl) := [(0, .v (.sl τ4)), (1, .v .str), (6, .row 1006), (7, .v τ5)]
abbrev z55L0_bs : List (Nat × Sb) := [(1006, .row 62 τ4 false)]
def z55L0_hd (x0 : List τ2) (x1 : Str) (s7 : Int) (w1006 : List τ2) : St := ⟨50, [(0, .v (.sl τ4) x0), (1, .v .str x1), (6, .row 1006), (7, .v τ5 s7)], [(1006, .row 62 τ4 false w1006)]⟩
def z55L0_tl0 (_x0 : List τ2) (_x1 : Str) (o0_w1006 : List τ2) : St := ⟨50, [(6, .row 1006)], [(1006, .row 62 τ4 false o0_w1006)]⟩
def z55L0_G (N : Nat) (x0 : List τ2) (x1 : Str) (s7 : Int) (w1006 : List τ2) (k : Ex → St → Option (Bool × List τ2)) : Option (Bool × List τ2) :=
 z55L0 N x0 x1 (fun o0_w1006 => k (.exit 0) (z55L0_tl0 x0 x1 o0_w1006)) N s7 w1006
abbrev z55L0_F (N : Nat) : FV z55L0_fs → HV z55L0_bs → (Ex → St → Option (Bool × List τ2)) → Option (Bool × List τ2) := fun x y k => z55L0_G N x.1 x.2.1 x.2.2.2.1 y.1 k
noncomputable def z55LP (N : Nat) : Nat → Code → St → (Ex → St → Option (Bool × List τ2)) → Option (Bool × List τ2) := fun i c =>
 match i with
 | 0 => (LPc 50 z55L0_fs z55L0_bs (z55L0_F N) (fun st k => iter (z55h 0) (exec (z55E N) N c 0) N st k))
 | i => fun st k => iter (z55h i) (exec (z55E N) N c i) N st k
theorem z55L0_step (N : Nat) (x0 : List τ2) (x1 : Str) (KX : Nat → St → Option (Bool × List τ2)) (I : St → Option (Bool × List τ2)) (s7 : Int) (w1006 : List τ2) :
   execL (z55LP N) (z55E N) z55c0 0 (z55L0_hd x0 x1 s7 w1006) (roundK (z55h 0) I KX (z55R N)) = z55L0T N x0 x1 (fun o0_w1006 => KX 0 (z55L0_tl0 x0 x1 o0_w1006)) (fun s7 w1006 => I (z55L0_hd x0 x1 s7 w1006)) s7 w1006 := by kernel_rfl
theorem z55L0_ok (N : Nat) : ∀ x y k, (∀ st, k .ret st = (z55R N) st) → iter (z55h 0) (exec (z55E N) N z55c0 0) N ⟨50, unF z55L0_fs x, unH z55L0_bs y⟩ k = z55L0_F N x y k := fun x y k hk =>
 iter_link (S := (Int) × τ15 × Unit) (z55h 0) _ (execL (z55LP N) (z55E N) z55c0 0) (z55R N) (fun st k hk => execL_eq _ _ N _ z55c0 0 (show LoopsOk (z55LP N) (z55E N) N (z55R N) [] from trivial) st k hk) (fun s => z55L0_hd x.1 x.2.1 s.1 s.2.1) k hk
   (fun self s => z55L0T N x.1 x.2.1 (fun o0_w1006 => k (.exit 0) (z55L0_tl0 x.1 x.2.1 o0_w1006)) (fun s7 w1006 => self (s7, w1006, ())) s.1 s.2.1) (fun n s => z55L0 N x.1 x.2.1 (fun o0_w1006 => k (.exit 0) (z55L0_tl0 x.1 x.2.1 o0_w1006)) n s.1 s.2.1) (fun _ => rfl) (fun _ _ => rfl)
   (fun I s => z55L0_step N x.1 x.2.1 (fun j => k (.exit j)) I s.1 s.2.1) N (x.2.2.2.1, y.1, ())
theorem z55lp0 (N : Nat) : ∀ st k, (∀ st, k .ret st = (z55R N) st) → z55LP N 0 z55c0 st k = iter (Env.hint (z55E N) 0) (exec (z55E N) N z55c0 0) N st k := fun st k hk => LPc_eq 50 z55L0_fs z55L0_bs _ _ (z55R N) (z55L0_ok N) _ st k hk (rfl)
theorem z55core (N : Nat) (x : SV [.v (.sl τ4), .v .str]) (y : BV []) : runL (z55E N) Tryz.f42 (z55g N) z55pk (z55LP N) x y = ref1_below N x.1 x.2.1 := by kernel_rfl
theorem z55sound (N : Nat) : Snd 42 (z55g N) :=
 sndL (z55fn_ok N) Tryz.func42 rfl Tryz.call42 (z55g N) z55pk (fun _ _ => rfl) N (z55LP N) (show LoopsOk (z55LP N) (z55E N) N (z55R N) [(0, z55c0)] from ⟨z55lp0 N, trivial⟩) (z55core N)
def z50L0T (_N : Nat) (x0 : List UInt8) (k0 : Int → Option Str) (self : Int → Int → Option Str) (s3 : Int) (s4 : Int) : Option Str :=
 br (decide (s4 < (x0.length : Int)))
   (bnd (geti x0 s4) fun t17 =>
   self (IntKind.u64.wrap ((xorI .u64 s3 (IntKind.u64.wrap (UInt8.toNat t17 : Int))) * (1099511628211 : Int))) (IntKind.i64.wrap (s4 + (1 : Int))))
   (k0 s3)
def z50L0 (N : Nat) (x0 : List UInt8) (k0 : Int → Option Str) : Nat → Int → Int → Option Str
 | 0, _, _ => none
 | n + 1, s3, s4 => z50L0T N x0 k0 (z50L0 N x0 k0 n) s3 s4
def z50L1T (_N : Nat) (o0_3 : Int) (k2 : Str → Option Str) (self : Str → Int → Option Str) (s5 : Str) (s6 : Int) : Option Str :=
 br (decide (s6 ≥ (0 : Int)))
   (br (decide (0 ≤ s6))
     (br ((16 : Int) == 0)
       none
       (bnd (slc ([48, 49, 50, 51, 52, 53, 54, 55, 56, 57, 97, 98, 99, 100, 101, 102] : Str) (Int.tmod (shrI .u64 o0_3 s6) (16 : Int)) (IntKind.u64.wrap ((Int.tmod (shrI .u64 o0_3 s6) (16 : Int)) + (1 : Int)))) fun t34 =>
       br (decide (s5.length + t34.length ≤ 9223372036854775807))
         (self (s5 ++ t34) (IntKind.i64.wrap (s6 - (4 : Int))))
         none))
     none)
   (k2 s5)
def z50L1 (N : Nat) (o0_3 : Int) (k2 : Str → Option Str) : Nat → Str → Int → Option Str
 | 0, _, _ => none
 | n + 1, s5, s6 => z50L1T N o0_3 k2 (z50L1 N o0_3 k2 n) s5 s6
def ref1_Digest (N : Nat) (x0 : List UInt8) : Option Str :=
 z50L0 N x0 (fun o0_3 =>
     z50L1 N o0_3 (fun o1_5 =>
         some o1_5) N ([] : Str) (60 : Int)) N (14695981039346656037 : Int) (0 : Int)
abbrev z50sg (f : SV [.v τ17] → BV [] → Option (Str)) : AF := { ps := [.v τ17], bs := [], rs := [.v .str], cs := [], R := Str, out := fun z => ((z, ()), ()), f := f }
noncomputable abbrev z50g (N : Nat) : AF := z50sg fun x _ => ref1_Digest N x.1
abbrev z50pk : SV [.v .str] → BV [] → Str := fun x _ => x.1
def z50fn (_N : Nat) : FuncId → Option Tmp → Option AF := fun f _ =>
 match f with
   | _ => none
theorem z50fn_ok (N : Nat) : FnOk (z50fn N) := by
 intro f q F h
 unfold z50fn at h
 split at h
 · cases h
def z50h : Nat → Hint := fun i =>
 match i with
 | 0 => ⟨[], [0, 3, 4], [], [3], [], []⟩
 | 2 => ⟨[], [3, 5, 6], [], [5], [], []⟩
 | _ => hint0
abbrev z50E (N : Nat) : Env := mkE z50h (z50fn N) FF FF
noncomputable abbrev z50c1 : Code := cAt (bodyOf Tryz.f38) [true, true, false, true, false, false]
noncomputable abbrev z50c0 : Code := cAt (bodyOf Tryz.f38) [true, true, true, true, false, true, false, false]
noncomputable abbrev z50R (N : Nat) := resD (z50E N) Tryz.f38 (z50g N) z50pk
abbrev z50L0_fs : List (Nat × Sl) := [(0, .v τ17), (3, .v (.int .u64)), (4, .v τ5)]
abbrev z50L0_bs : List (Nat × Sb) := []
def z50L0_hd (x0 : List UInt8) (s3 : Int) (s4 : Int) : St := ⟨37, [(0, .v τ17 x0), (3, .v (.int .u64) s3), (4, .v τ5 s4)], []⟩
def z50L0_tl0 (_x0 : List UInt8) (o0_3 : Int) : St := ⟨37, [(3, .v (.int .u64) o0_3)], []⟩
def z50L0_G (N : Nat) (x0 : List UInt8) (s3 : Int) (s4 : Int) (k : Ex → St → Option Str) : Option Str :=
 z50L0 N x0 (fun o0_3 => k (.exit 0) (z50L0_tl0 x0 o0_3)) N s3 s4
abbrev z50L0_F (N : Nat) : FV z50L0_fs → HV z50L0_bs → (Ex → St → Option Str) → Option Str := fun x _ k => z50L0_G N x.1 x.2.1 x.2.2.1 k
abbrev z50L1_fs : List (Nat × Sl) := [(3, .v (.int .u64)), (5, .v .str), (6, .v τ5)]
abbrev z50L1_bs : List (Nat × Sb) := []
def z50L1_hd (o0_3 : Int) (s5 : Str) (s6 : Int) : St := ⟨37, [(3, .v (.int .u64) o0_3), (5, .v .str s5), (6, .v τ5 s6)], []⟩
def z50L1_tl2 (_o0_3 : Int) (o1_5 : Str) : St := ⟨37, [(5, .v .str o1_5)], []⟩
def z50L1_G (N : Nat) (o0_3 : Int) (s5 : Str) (s6 : Int) (k : Ex → St → Option Str) : Option Str :=
 z50L1 N o0_3 (fun o1_5 => k (.exit 2) (z50L1_tl2 o0_3 o1_5)) N s5 s6
abbrev z50L1_F (N : Nat) : FV z50L1_fs → HV z50L1_bs → (Ex → St → Option Str) → Option Str := fun x _ k => z50L1_G N x.1 x.2.1 x.2.2.1 k
noncomputable def z50LP (N : Nat) : Nat → Code → St → (Ex → St → Option Str) → Option Str := fun i c =>
 match i with
 | 0 => (LPc 37 z50L0_fs z50L0_bs (z50L0_F N) (fun st k => iter (z50h 0) (exec (z50E N) N c 0) N st k))
 | 2 => (LPc 37 z50L1_fs z50L1_bs (z50L1_F N) (fun st k => iter (z50h 2) (exec (z50E N) N c 2) N st k))
 | i => fun st k => iter (z50h i) (exec (z50E N) N c i) N st k
theorem z50L1_step (N : Nat) (o0_3 : Int) (KX : Nat → St → Option Str) (I : St → Option Str) (s5 : Str) (s6 : Int) :
   execL (z50LP N) (z50E N) z50c0 2 (z50L1_hd o0_3 s5 s6) (roundK (z50h 2) I KX (z50R N)) = z50L1T N o0_3 (fun o1_5 => KX 2 (z50L1_tl2 o0_3 o1_5)) (fun s5 s6 => I (z50L1_hd o0_3 s5 s6)) s5 s6 := by kernel_rfl
theorem z50L1_ok (N : Nat) : ∀ x y k, (∀ st, k .ret st = (z50R N) st) → iter (z50h 2) (exec (z50E N) N z50c0 2) N ⟨37, unF z50L1_fs x, unH z50L1_bs y⟩ k = z50L1_F N x y k := fun x _ k hk =>
 iter_link (S := (Str) × (Int) × Unit) (z50h 2) _ (execL (z50LP N) (z50E N) z50c0 2) (z50R N) (fun st k hk => execL_eq _ _ N _ z50c0 2 (show LoopsOk (z50LP N) (z50E N) N (z50R N) [] from trivial) st k hk) (fun s => z50L1_hd x.1 s.1 s.2.1) k hk
   (fun self s => z50L1T N x.1 (fun o1_5 => k (.exit 2) (z50L1_tl2 x.1 o1_5)) (fun s5 s6 => self (s5, s6, ())) s.1 s.2.1) (fun n s => z50L1 N x.1 (fun o1_5 => k (.exit 2) (z50L1_tl2 x.1 o1_5)) n s.1 s.2.1) (fun _ => rfl) (fun _ _ => rfl)
   (fun I s => z50L1_step N x.1 (fun j => k (.exit j)) I s.1 s.2.1) N (x.2.1, x.2.2.1, ())
theorem z50lp2 (N : Nat) : ∀ st k, (∀ st, k .ret st = (z50R N) st) → z50LP N 2 z50c0 st k = iter (Env.hint (z50E N) 2) (exec (z50E N) N z50c0 2) N st k := fun st k hk => LPc_eq 37 z50L1_fs z50L1_bs _ _ (z50R N) (z50L1_ok N) _ st k hk (rfl)
theorem z50L0_step (N : Nat) (x0 : List UInt8) (KX : Nat → St → Option Str) (I : St → Option Str) (s3 : Int) (s4 : Int) :
   execL (z50LP N) (z50E N) z50c1 0 (z50L0_hd x0 s3 s4) (roundK (z50h 0) I KX (z50R N)) = z50L0T N x0 (fun o0_3 => KX 0 (z50L0_tl0 x0 o0_3)) (fun s3 s4 => I (z50L0_hd x0 s3 s4)) s3 s4 := by kernel_rfl
theorem z50L0_ok (N : Nat) : ∀ x y k, (∀ st, k .ret st = (z50R N) st) → iter (z50h 0) (exec (z50E N) N z50c1 0) N ⟨37, unF z50L0_fs x, unH z50L0_bs y⟩ k = z50L0_F N x y k := fun x _ k hk =>
 iter_link (S := (Int) × (Int) × Unit) (z50h 0) _ (execL (z50LP N) (z50E N) z50c1 0) (z50R N) (fun st k hk => execL_eq _ _ N _ z50c1 0 (show LoopsOk (z50LP N) (z50E N) N (z50R N) [] from trivial) st k hk) (fun s => z50L0_hd x.1 s.1 s.2.1) k hk
   (fun self s => z50L0T N x.1 (fun o0_3 => k (.exit 0) (z50L0_tl0 x.1 o0_3)) (fun s3 s4 => self (s3, s4, ())) s.1 s.2.1) (fun n s => z50L0 N x.1 (fun o0_3 => k (.exit 0) (z50L0_tl0 x.1 o0_3)) n s.1 s.2.1) (fun _ => rfl) (fun _ _ => rfl)
   (fun I s => z50L0_step N x.1 (fun j => k (.exit j)) I s.1 s.2.1) N (x.2.1, x.2.2.1, ())
theorem z50lp0 (N : Nat) : ∀ st k, (∀ st, k .ret st = (z50R N) st) → z50LP N 0 z50c1 st k = iter (Env.hint (z50E N) 0) (exec (z50E N) N z50c1 0) N st k := fun st k hk => LPc_eq 37 z50L0_fs z50L0_bs _ _ (z50R N) (z50L0_ok N) _ st k hk (rfl)
theorem z50core (N : Nat) (x : SV [.v τ17]) (y : BV []) : runL (z50E N) Tryz.f38 (z50g N) z50pk (z50LP N) x y = ref1_Digest N x.1 := by kernel_rfl
theorem z50sound (N : Nat) : Snd 38 (z50g N) :=
 sndL (z50fn_ok N) Tryz.func38 rfl Tryz.call38 (z50g N) z50pk (fun _ _ => rfl) N (z50LP N) (show LoopsOk (z50LP N) (z50E N) N (z50R N) [(0, z50c1), (2, z50c0)] from ⟨z50lp0 N, z50lp2 N, trivial⟩) (z50core N)
abbrev z59sg (f : SV [.v (.sl τ4)] → BV [] → Option (Str)) : AF := { ps := [.v (.sl τ4)], bs := [], rs := [.v .str], cs := [], R := Str, out := fun z => ((z, ()), ()), f := f }
def z51L0T (N : Nat) (r_ref1_text : τ15 → Option (Str)) (x0 : List τ2) (c4 : List Str) (k0 : Str → Option Str) (self : Str → Int → Option Str) (s3 : Str) (s6 : Int) : Option Str :=
 br (decide (s6 < (c4.length : Int)))
   (bnd (geti c4 s6) fun t25 =>
   bnd (ref1_below N x0 t25) fun t27 =>
   br (t27.1)
     (bnd (geti c4 s6) fun t34 =>
     br (decide (([100, 105, 114, 32] : Str).length + t34.length ≤ 9223372036854775807))
       (br (decide ((([100, 105, 114, 32] : Str) ++ t34).length + ([32] : Str).length ≤ 9223372036854775807))
         (bnd (r_ref1_text t27.2) fun t39 =>
         br (decide (t39.length * 24 ≤ 140737488355328))
           (bnd (ref1_Digest N t39) fun t41 =>
           br (decide (((([100, 105, 114, 32] : Str) ++ t34) ++ ([32] : Str)).length + t41.length ≤ 9223372036854775807))
             (br (decide ((((([100, 105, 114, 32] : Str) ++ t34) ++ ([32] : Str)) ++ t41).length + ([10] : Str).length ≤ 9223372036854775807))
               (br (decide (s3.length + ((((([100, 105, 114, 32] : Str) ++ t34) ++ ([32] : Str)) ++ t41) ++ ([10] : Str)).length ≤ 9223372036854775807))
                 (self (s3 ++ ((((([100, 105, 114, 32] : Str) ++ t34) ++ ([32] : Str)) ++ t41) ++ ([10] : Str))) (IntKind.i64.wrap (s6 + (1 : Int))))
                 none)
               none)
             none)
           none)
         none)
       none)
     (bnd (geti t27.2 (0 : Int)) fun t46 =>
     br (t46.2.1)
       (bnd (geti c4 s6) fun t52 =>
       br (decide (([102, 105, 108, 101, 32] : Str).length + t52.length ≤ 9223372036854775807))
         (br (decide ((([102, 105, 108, 101, 32] : Str) ++ t52).length + ([32] : Str).length ≤ 9223372036854775807))
           (bnd (geti t27.2 (0 : Int)) fun t57 =>
           bnd (ref1_Digest N t57.2.2) fun t60 =>
           br (decide (((([102, 105, 108, 101, 32] : Str) ++ t52) ++ ([32] : Str)).length + t60.length ≤ 9223372036854775807))
             (br (decide ((((([102, 105, 108, 101, 32] : Str) ++ t52) ++ ([32] : Str)) ++ t60).length + ([32, 120, 10] : Str).length ≤ 9223372036854775807))
               (br (decide (s3.length + ((((([102, 105, 108, 101, 32] : Str) ++ t52) ++ ([32] : Str)) ++ t60) ++ ([32, 120, 10] : Str)).length ≤ 9223372036854775807))
                 (self (s3 ++ ((((([102, 105, 108, 101, 32] : Str) ++ t52) ++ ([32] : Str)) ++ t60) ++ ([32, 120, 10] : Str))) (IntKind.i64.wrap (s6 + (1 : Int))))
                 none)
               none)
             none)
           none)
         none)
       (bnd (geti c4 s6) fun t52_1 =>
       br (decide (([102, 105, 108, 101, 32] : Str).length + t52_1.length ≤ 9223372036854775807))
         (br (decide ((([102, 105, 108, 101, 32] : Str) ++ t52_1).length + ([32] : Str).length ≤ 9223372036854775807))
           (bnd (geti t27.2 (0 : Int)) fun t57_2 =>
           bnd (ref1_Digest N t57_2.2.2) fun t60_3 =>
           br (decide (((([102, 105, 108, 101, 32] : Str) ++ t52_1) ++ ([32] : Str)).length + t60_3.length ≤ 9223372036854775807))
             (br (decide ((((([102, 105, 108, 101, 32] : Str) ++ t52_1) ++ ([32] : Str)) ++ t60_3).length + ([32, 45, 10] : Str).length ≤ 9223372036854775807))
               (br (decide (s3.length + ((((([102, 105, 108, 101, 32] : Str) ++ t52_1) ++ ([32] : Str)) ++ t60_3) ++ ([32, 45, 10] : Str)).length ≤ 9223372036854775807))
                 (self (s3 ++ ((((([102, 105, 108, 101, 32] : Str) ++ t52_1) ++ ([32] : Str)) ++ t60_3) ++ ([32, 45, 10] : Str))) (IntKind.i64.wrap (s6 + (1 : Int))))
                 none)
               none)
             none)
           none)
         none)))
   (k0 s3)
def z51L0 (N : Nat) (r_ref1_text : τ15 → Option (Str)) (x0 : List τ2) (c4 : List Str) (k0 : Str → Option Str) : Nat → Str → Int → Option Str
 | 0, _, _ => none
 | n + 1, s3, s6 => z51L0T N r_ref1_text x0 c4 k0 (z51L0 N r_ref1_text x0 c4 k0 n) s3 s6
def ref1_text_b (N : Nat) (r_ref1_text : τ15 → Option (Str)) (x0 : List τ2) : Option Str :=
 bnd (ref1_names x0) fun t12 =>
 z51L0 N r_ref1_text x0 t12.1 (fun o0_3 =>
     some o0_3) N ([] : Str) (0 : Int)
abbrev z51sg (f : SV [.v (.sl τ4)] → BV [] → Option (Str)) : AF := { ps := [.v (.sl τ4)], bs := [], rs := [.v .str], cs := [], R := Str, out := fun z => ((z, ()), ()), f := f }
abbrev z51pk : SV [.v .str] → BV [] → Str := fun x _ => x.1
def z51fn (N : Nat) (r_ref1_text : τ15 → Option (Str)) : FuncId → Option Tmp → Option AF := fun f _ =>
 match f with
   | 38 => some (z50g N)
   | 40 => some (z59sg fun x _ => r_ref1_text x.1)
   | 41 => some (z56sg fun x _ => ref1_names x.1)
   | 42 => some (z55g N)
   | _ => none
theorem z51fn_ok (N : Nat) (r_ref1_text : τ15 → Option (Str)) (h_ref1_text : Sound Tryz.prog GW B0G 40 (z59sg fun x y => r_ref1_text x.1)) : ∀ f q F, z51fn N r_ref1_text f q = some F → Sound Tryz.prog GW B0G f F := by
 intro f q F h
 unfold z51fn at h
 split at h
 · cases h; exact z50sound N
 · cases h; exact h_ref1_text
 · cases h; exact z56sound
 · cases h; exact z55sound N
 · cases h
def z51h : Nat → Hint := fun i =>
 match i with
 | 0 => ⟨[], [0, 3, 4, 6], [], [3], [], []⟩
 | 100008 => hint0
 | _ => hint0
abbrev z51E (N : Nat) (r_ref1_text : τ15 → Option (Str)) : Env := mkE z51h (z51fn N r_ref1_text) (fun _ => false) (fun _ => false)
noncomputable abbrev z51c0 : Code := cAt (bodyOf Tryz.f40) [true, true, true, false, true, false, false]
abbrev z51L0_fs : List (Nat × Sl) := [(0, .v (.sl τ4)), (3, .v .str), (4, .v (.sl .str)), (6, .v τ5)]
abbrev z51L0_bs : List (Nat × Sb) := []
def z51L0_hd (x0 : List τ2) (c4 : List Str) (s3 : Str) (s6 : Int) : St := ⟨66, [(0, .v (.sl τ4) x0), (3, .v .str s3), (4, .v (.sl .str) c4), (6, .v τ5 s6)], []⟩
def z51L0_tl0 (_x0 : List τ2) (_c4 : List Str) (o0_3 : Str) : St := ⟨66, [(3, .v .str o0_3)], []⟩
def z51L0_G (N : Nat) (r_ref1_text : τ15 → Option (Str)) (x0 : List τ2) (c4 : List Str) (s3 : Str) (s6 : Int) (k : Ex → St → Option Str) : Option Str :=
 z51L0 N r_ref1_text x0 c4 (fun o0_3 => k (.exit 0) (z51L0_tl0 x0 c4 o0_3)) N s3 s6
abbrev z51L0_F (N : Nat) (r_ref1_text : τ15 → Option (Str)) : FV z51L0_fs → HV z51L0_bs → (Ex → St → Option Str) → Option Str := fun x _ k => z51L0_G N r_ref1_text x.1 x.2.2.1 x.2.1 x.2.2.2.1 k
noncomputable def z51LP (N : Nat) (r_ref1_text : τ15 → Option (Str)) : Nat → Code → St → (Ex → St → Option Str) → Option Str := fun i c =>
 match i with
 | 0 => (LPc 66 z51L0_fs z51L0_bs (z51L0_F N r_ref1_text) (fun st k => iter (z51h 0) (exec (z51E N r_ref1_text) N c 0) N st k))
 | i => fun st k => iter (z51h i) (exec (z51E N r_ref1_text) N c i) N st k
theorem z51L0_step (N : Nat) (r_ref1_text : τ15 → Option (Str)) (x0 : List τ2) (c4 : List Str) (KX : Nat → St → Option Str) (I : St → Option Str) (s3 : Str) (s6 : Int) :
   execL (z51LP N r_ref1_text) (z51E N r_ref1_text) z51c0 0 (z51L0_hd x0 c4 s3 s6) (roundK (z51h 0) I KX (resD (z51E N r_ref1_text) Tryz.f40 (z51sg fun x _ => ref1_text_b N r_ref1_text x.1) z51pk)) = z51L0T N r_ref1_text x0 c4 (fun o0_3 => KX 0 (z51L0_tl0 x0 c4 o0_3)) (fun s3 s6 => I (z51L0_hd x0 c4 s3 s6)) s3 s6 := by kernel_rfl
theorem z51L0_ok (N : Nat) (r_ref1_text : τ15 → Option (Str)) : ∀ x y k, (∀ st, k .ret st = (resD (z51E N r_ref1_text) Tryz.f40 (z51sg fun x _ => ref1_text_b N r_ref1_text x.1) z51pk) st) → iter (z51h 0) (exec (z51E N r_ref1_text) N z51c0 0) N ⟨66, unF z51L0_fs x, unH z51L0_bs y⟩ k = z51L0_F N r_ref1_text x y k := fun x _ k hk =>
 iter_link (S := (Str) × (Int) × Unit) (z51h 0) _ (execL (z51LP N r_ref1_text) (z51E N r_ref1_text) z51c0 0) (resD (z51E N r_ref1_text) Tryz.f40 (z51sg fun x _ => ref1_text_b N r_ref1_text x.1) z51pk) (fun st k hk => execL_eq _ _ N _ z51c0 0 (show LoopsOk (z51LP N r_ref1_text) (z51E N r_ref1_text) N (resD (z51E N r_ref1_text) Tryz.f40 (z51sg fun x _ => ref1_text_b N r_ref1_text x.1) z51pk) [] from trivial) st k hk) (fun s => z51L0_hd x.1 x.2.2.1 s.1 s.2.1) k hk
   (fun self s => z51L0T N r_ref1_text x.1 x.2.2.1 (fun o0_3 => k (.exit 0) (z51L0_tl0 x.1 x.2.2.1 o0_3)) (fun s3 s6 => self (s3, s6, ())) s.1 s.2.1) (fun n s => z51L0 N r_ref1_text x.1 x.2.2.1 (fun o0_3 => k (.exit 0) (z51L0_tl0 x.1 x.2.2.1 o0_3)) n s.1 s.2.1) (fun _ => rfl) (fun _ _ => rfl)
   (fun I s => z51L0_step N r_ref1_text x.1 x.2.2.1 (fun j => k (.exit j)) I s.1 s.2.1) N (x.2.1, x.2.2.2.1, ())
theorem z51lp0 (N : Nat) (r_ref1_text : τ15 → Option (Str)) : ∀ st k, (∀ st, k .ret st = (resD (z51E N r_ref1_text) Tryz.f40 (z51sg fun x _ => ref1_text_b N r_ref1_text x.1) z51pk) st) → z51LP N r_ref1_text 0 z51c0 st k = iter (Env.hint (z51E N r_ref1_text) 0) (exec (z51E N r_ref1_text) N z51c0 0) N st k := fun st k hk => LPc_eq 66 z51L0_fs z51L0_bs _ _ (resD (z51E N r_ref1_text) Tryz.f40 (z51sg fun x _ => ref1_text_b N r_ref1_text x.1) z51pk) (z51L0_ok N r_ref1_text) _ st k hk (rfl)
theorem z51core (N : Nat) (r_ref1_text : τ15 → Option (Str)) (x : SV [.v (.sl τ4)]) (y : BV []) : runL (z51E N r_ref1_text) Tryz.f40 (z51sg fun x _ => ref1_text_b N r_ref1_text x.1) z51pk (z51LP N r_ref1_text) x y = ref1_text_b N r_ref1_text x.1 := by kernel_rfl
theorem z51sound (N : Nat) (r_ref1_text : τ15 → Option (Str)) (h_ref1_text : Sound Tryz.prog GW B0G 40 (z59sg fun x y => r_ref1_text x.1)) : Sound Tryz.prog GW B0G 40 (z51sg fun x _ => ref1_text_b N r_ref1_text x.1) :=
 runD_sound (mkE_ok z51h (z51fn N r_ref1_text) _ _ (z51fn_ok N r_ref1_text h_ref1_text)) Tryz.func40 rfl Tryz.call40 (z51sg fun x _ => ref1_text_b N r_ref1_text x.1) z51pk (fun _ _ => rfl) N (fun x y _ h => ((runL_eq (z51E N r_ref1_text) N Tryz.f40 (z51sg fun x _ => ref1_text_b N r_ref1_text x.1) z51pk (z51LP N r_ref1_text) (show LoopsOk (z51LP N r_ref1_text) (z51E N r_ref1_text) N (resD (z51E N r_ref1_text) Tryz.f40 (z51sg fun x _ => ref1_text_b N r_ref1_text x.1) z51pk) [(0, z51c0)] from ⟨z51lp0 N r_ref1_text, trivial⟩) x y).trans (z51core N r_ref1_text x y)).trans h)
def ref1_text (N : Nat) : Nat → τ15 → Option (Str)
 | 0 => fun _ => none
 | d + 1 => ref1_text_b N (ref1_text N d)
theorem z59sound (N : Nat) : ∀ d, Sound Tryz.prog GW B0G 40 (z59sg fun x y => ref1_text N d x.1)
 | 0 => Sound.never Tryz.call40 (fun _ _ => rfl)
 | d + 1 => z51sound N (ref1_text N d) (z59sound N d)
abbrev z34sg (f : SV [.v (.sl τ4)] → BV [] → Option (List τ8)) : AF := { ps := [.v (.sl τ4)], bs := [], rs := [.v (.sl τ17)], cs := [], R := List τ8, out := fun z => ((z, ()), ()), f := f }
def z27L0T (N : Nat) (r_ref1_contents : τ15 → Option (List τ8)) (x0 : List τ2) (c4 : List Str) (k0 : (List τ8) → Option (List τ8)) (self : Int → (List τ8) → Option (List τ8)) (s6 : Int) (w1012 : List τ8) : Option (List τ8) :=
 br (decide (s6 < (c4.length : Int)))
   (bnd (geti c4 s6) fun t28 =>
   bnd (ref1_below N x0 t28) fun t30 =>
   br (t30.1)
     (bnd (r_ref1_contents t30.2) fun t36 =>
     br (decide ((w1012.length + t36.length) * (24 * Ty.sz τ17) ≤ 140737488355328))
       (self (IntKind.i64.wrap (s6 + (1 : Int))) (w1012 ++ t36))
       none)
     (bnd (geti t30.2 (0 : Int)) fun t40 =>
     br (decide ((w1012.length + [t40.2.2].length) * (24 * Ty.sz τ17) ≤ 140737488355328))
       (self (IntKind.i64.wrap (s6 + (1 : Int))) (w1012 ++ [t40.2.2]))
       none))
   (k0 w1012)
def z27L0 (N : Nat) (r_ref1_contents : τ15 → Option (List τ8)) (x0 : List τ2) (c4 : List Str) (k0 : (List τ8) → Option (List τ8)) : Nat → Int → (List τ8) → Option (List τ8)
 | 0, _, _ => none
 | n + 1, s6, w1012 => z27L0T N r_ref1_contents x0 c4 k0 (z27L0 N r_ref1_contents x0 c4 k0 n) s6 w1012
def ref1_contents_b (N : Nat) (r_ref1_contents : τ15 → Option (List τ8)) (x0 : List τ2) : Option (List τ8) :=
 bnd (ref1_text N N x0) fun t10 =>
 br (decide (t10.length * 24 ≤ 140737488355328))
   (bnd (ref1_names x0) fun t15 =>
   z27L0 N r_ref1_contents x0 t15.1 (fun o0_w1012 =>
       some o0_w1012) N (0 : Int) [t10])
   none
abbrev z27sg (f : SV [.v (.sl τ4)] → BV [] → Option (List τ8)) : AF := { ps := [.v (.sl τ4)], bs := [], rs := [.v (.sl τ17)], cs := [], R := List τ8, out := fun z => ((z, ()), ()), f := f }
abbrev z27pk : SV [.v (.sl τ17)] → BV [] → (List τ8) := fun x _ => x.1
def z27fn (N : Nat) (r_ref1_contents : τ15 → Option (List τ8)) : FuncId → Option Tmp → Option AF := fun f _ =>
 match f with
   | 21 => some (z34sg fun x _ => r_ref1_contents x.1)
   | 40 => some (z59sg fun x _ => ref1_text N N x.1)
   | 41 => some (z56sg fun x _ => ref1_names x.1)
   | 42 => some (z55g N)
   | _ => none
theorem z27fn_ok (N : Nat) (r_ref1_contents : τ15 → Option (List τ8)) (h_ref1_contents : Sound Tryz.prog GW B0G 21 (z34sg fun x y => r_ref1_contents x.1)) : ∀ f q F, z27fn N r_ref1_contents f q = some F → Sound Tryz.prog GW B0G f F := by
 intro f q F h
 unfold z27fn at h
 split at h
 · cases h; exact h_ref1_contents
 · cases h; exact z59sound N N
 · cases h; exact z56sound
 · cases h; exact z55sound N
 · cases h
def z27h : Nat → Hint := fun i =>
 match i with
 | 0 => ⟨[], [0, 3, 4, 6], [1012], [3], [1012], []⟩
 | _ => hint0
abbrev z27E (N : Nat) (r_ref1_contents : τ15 → Option (List τ8)) : Env := mkE z27h (z27fn N r_ref1_contents) (fun _ => false) (fun _ => false)
noncomputable abbrev z27c0 : Code := cAt (bodyOf Tryz.f21) [true, true, true, false, true, false, false]
abbrev z27L0_fs : List (Nat × Sl) := [(0, .v (.sl τ4)), (3, .row 1012), (4, .v (.sl .str)), (6, .v τ5)]
abbrev z27L0_bs : List (Nat × Sb) := [(1012, .row 36 τ17 false)]
def z27L0_hd (x0 : List τ2) (c4 : List Str) (s6 : Int) (w1012 : List τ8) : St := ⟨46, [(0, .v (.sl τ4) x0), (3, .row 1012), (4, .v (.sl .str) c4), (6, .v τ5 s6)], [(1012, .row 36 τ17 false w1012)]⟩
def z27L0_tl0 (_x0 : List τ2) (_c4 : List Str) (o0_w1012 : List τ8) : St := ⟨46, [(3, .row 1012)], [(1012, .row 36 τ17 false o0_w1012)]⟩
def z27L0_G (N : Nat) (r_ref1_contents : τ15 → Option (List τ8)) (x0 : List τ2) (c4 : List Str) (s6 : Int) (w1012 : List τ8) (k : Ex → St → Option (List τ8)) : Option (List τ8) :=
 z27L0 N r_ref1_contents x0 c4 (fun o0_w1012 => k (.exit 0) (z27L0_tl0 x0 c4 o0_w1012)) N s6 w1012
abbrev z27L0_F (N : Nat) (r_ref1_contents : τ15 → Option (List τ8)) : FV z27L0_fs → HV z27L0_bs → (Ex → St → Option (List τ8)) → Option (List τ8) := fun x y k => z27L0_G N r_ref1_contents x.1 x.2.2.1 x.2.2.2.1 y.1 k
noncomputable def z27LP (N : Nat) (r_ref1_contents : τ15 → Option (List τ8)) : Nat → Code → St → (Ex → St → Option (List τ8)) → Option (List τ8) := fun i c =>
 match i with
 | 0 => (LPc 46 z27L0_fs z27L0_bs (z27L0_F N r_ref1_contents) (fun st k => iter (z27h 0) (exec (z27E N r_ref1_contents) N c 0) N st k))
 | i => fun st k => iter (z27h i) (exec (z27E N r_ref1_contents) N c i) N st k
theorem z27L0_step (N : Nat) (r_ref1_contents : τ15 → Option (List τ8)) (x0 : List τ2) (c4 : List Str) (KX : Nat → St → Option (List τ8)) (I : St → Option (List τ8)) (s6 : Int) (w1012 : List τ8) :
   execL (z27LP N r_ref1_contents) (z27E N r_ref1_contents) z27c0 0 (z27L0_hd x0 c4 s6 w1012) (roundK (z27h 0) I KX (resD (z27E N r_ref1_contents) Tryz.f21 (z27sg fun x _ => ref1_contents_b N r_ref1_contents x.1) z27pk)) = z27L0T N r_ref1_contents x0 c4 (fun o0_w1012 => KX 0 (z27L0_tl0 x0 c4 o0_w1012)) (fun s6 w1012 => I (z27L0_hd x0 c4 s6 w1012)) s6 w1012 := by kernel_rfl
theorem z27L0_ok (N : Nat) (r_ref1_contents : τ15 → Option (List τ8)) : ∀ x y k, (∀ st, k .ret st = (resD (z27E N r_ref1_contents) Tryz.f21 (z27sg fun x _ => ref1_contents_b N r_ref1_contents x.1) z27pk) st) → iter (z27h 0) (exec (z27E N r_ref1_contents) N z27c0 0) N ⟨46, unF z27L0_fs x, unH z27L0_bs y⟩ k = z27L0_F N r_ref1_contents x y k := fun x y k hk =>
 iter_link (S := (Int) × (List τ8) × Unit) (z27h 0) _ (execL (z27LP N r_ref1_contents) (z27E N r_ref1_contents) z27c0 0) (resD (z27E N r_ref1_contents) Tryz.f21 (z27sg fun x _ => ref1_contents_b N r_ref1_contents x.1) z27pk) (fun st k hk => execL_eq _ _ N _ z27c0 0 (show LoopsOk (z27LP N r_ref1_contents) (z27E N r_ref1_contents) N (resD (z27E N r_ref1_contents) Tryz.f21 (z27sg fun x _ => ref1_contents_b N r_ref1_contents x.1) z27pk) [] from trivial) st k hk) (fun s => z27L0_hd x.1 x.2.2.1 s.1 s.2.1) k hk
   (fun self s => z27L0T N r_ref1_contents x.1 x.2.2.1 (fun o0_w1012 => k (.exit 0) (z27L0_tl0 x.1 x.2.2.1 o0_w1012)) (fun s6 w1012 => self (s6, w1012, ())) s.1 s.2.1) (fun n s => z27L0 N r_ref1_contents x.1 x.2.2.1 (fun o0_w1012 => k (.exit 0) (z27L0_tl0 x.1 x.2.2.1 o0_w1012)) n s.1 s.2.1) (fun _ => rfl) (fun _ _ => rfl)
   (fun I s => z27L0_step N r_ref1_contents x.1 x.2.2.1 (fun j => k (.exit j)) I s.1 s.2.1) N (x.2.2.2.1, y.1, ())
theorem z27lp0 (N : Nat) (r_ref1_contents : τ15 → Option (List τ8)) : ∀ st k, (∀ st, k .ret st = (resD (z27E N r_ref1_contents) Tryz.f21 (z27sg fun x _ => ref1_contents_b N r_ref1_contents x.1) z27pk) st) → z27LP N r_ref1_contents 0 z27c0 st k = iter (Env.hint (z27E N r_ref1_contents) 0) (exec (z27E N r_ref1_contents) N z27c0 0) N st k := fun st k hk => LPc_eq 46 z27L0_fs z27L0_bs _ _ (resD (z27E N r_ref1_contents) Tryz.f21 (z27sg fun x _ => ref1_contents_b N r_ref1_contents x.1) z27pk) (z27L0_ok N r_ref1_contents) _ st k hk (rfl)
theorem z27core (N : Nat) (r_ref1_contents : τ15 → Option (List τ8)) (x : SV [.v (.sl τ4)]) (y : BV []) : runL (z27E N r_ref1_contents) Tryz.f21 (z27sg fun x _ => ref1_contents_b N r_ref1_contents x.1) z27pk (z27LP N r_ref1_contents) x y = ref1_contents_b N r_ref1_contents x.1 := by kernel_rfl
theorem z27sound (N : Nat) (r_ref1_contents : τ15 → Option (List τ8)) (h_ref1_contents : Sound Tryz.prog GW B0G 21 (z34sg fun x y => r_ref1_contents x.1)) : Sound Tryz.prog GW B0G 21 (z27sg fun x _ => ref1_contents_b N r_ref1_contents x.1) :=
 runD_sound (mkE_ok z27h (z27fn N r_ref1_contents) _ _ (z27fn_ok N r_ref1_contents h_ref1_contents)) Tryz.func21 rfl Tryz.call21 (z27sg fun x _ => ref1_contents_b N r_ref1_contents x.1) z27pk (fun _ _ => rfl) N (fun x y _ h => ((runL_eq (z27E N r_ref1_contents) N Tryz.f21 (z27sg fun x _ => ref1_contents_b N r_ref1_contents x.1) z27pk (z27LP N r_ref1_contents) (show LoopsOk (z27LP N r_ref1_contents) (z27E N r_ref1_contents) N (resD (z27E N r_ref1_contents) Tryz.f21 (z27sg fun x _ => ref1_contents_b N r_ref1_contents x.1) z27pk) [(0, z27c0)] from ⟨z27lp0 N r_ref1_contents, trivial⟩) x y).trans (z27core N r_ref1_contents x y)).trans h)
def ref1_contents (N : Nat) : Nat → τ15 → Option (List τ8)
 | 0 => fun _ => none
 | d + 1 => ref1_contents_b N (ref1_contents N d)
theorem z34sound (N : Nat) : ∀ d, Sound Tryz.prog GW B0G 21 (z34sg fun x y => ref1_contents N d x.1)
 | 0 => Sound.never Tryz.call21 (fun _ _ => rfl)
 | d + 1 => z27sound N (ref1_contents N d) (z34sound N d)
def bytes_Equal (_N : Nat) (x0 : List UInt8) (x1 : List UInt8) : Option Bool :=
 some (x0 == x1)
abbrev z49sg (f : SV [.v τ17, .v τ17] → BV [] → Option (Bool)) : AF := { ps := [.v τ17, .v τ17], bs := [], rs := [.v .bool], cs := [], R := Bool, out := fun z => ((z, ()), ()), f := f }
noncomputable abbrev z49g (N : Nat) : AF := z49sg fun x _ => bytes_Equal N x.1 x.2.1
abbrev z49pk : SV [.v .bool] → BV [] → Bool := fun x _ => x.1
def z49fn (_N : Nat) : FuncId → Option Tmp → Option AF := fun f _ =>
 match f with
   | _ => none
theorem z49fn_ok (N : Nat) : FnOk (z49fn N) := by
 intro f q F h
 unfold z49fn at h
 split at h
 · cases h
def z49h : Nat → Hint := fun i =>
 match i with
 | _ => hint0
abbrev z49E (N : Nat) : Env := mkE z49h (z49fn N) FF FF
noncomputable def z49LP (N : Nat) : Nat → Code → St → (Ex → St → Option Bool) → Option Bool := fun i c =>
 match i with
 | i => fun st k => iter (z49h i) (exec (z49E N) N c i) N st k
theorem z49core (N : Nat) (x : SV [.v τ17, .v τ17]) (y : BV []) : runL (z49E N) Tryz.f39 (z49g N) z49pk (z49LP N) x y = bytes_Equal N x.1 x.2.1 := by kernel_rfl
theorem z49sound (N : Nat) : Snd 39 (z49g N) :=
 sndL (z49fn_ok N) Tryz.func39 rfl Tryz.call39 (z49g N) z49pk (fun _ _ => rfl) N (z49LP N) (show LoopsOk (z49LP N) (z49E N) N (resD (z49E N) Tryz.f39 (z49g N) z49pk) [] from trivial) (z49core N)
end
end Go.Proofs.YtjiddcchklaiiaaGreatDoor


/- strings.Trim and strings.Join, out of the kit's contracts. -/
namespace Go.Proofs.YtjiddcchklaiiaaGreatDoor
set_option linter.unusedVariables false
set_option linter.unusedSimpArgs false
open Go Go.RowKit Go.Shelf
def strings_Trim (a b : Str) : Option Str := if a.length ≤ 9223372036854775807 ∧ b.length < 1000000 ∧ b.all (fun c => decide (c.toNat < 128)) = true then some (Lib.trimS a b) else none
theorem z42sound : Sound Tryz.prog GW B0G 68 ⟨[.v .str, .v .str], [], [.v .str], [], Str, fun z => ((z, ()), ()), fun x _ => strings_Trim x.1 x.2.1⟩ := by
 refine Sound.ofExt Tryz.call68 fun M w vs x z hG hM hA hz => ?_
 obtain ⟨a, b, u⟩ := x
 match vs, hA with
 | [v1, v2], hA =>
   obtain ⟨h1, h2, _⟩ := hA
   rw [RepV.str h1, RepV.str h2]
   change strings_Trim a b = some z at hz
   unfold strings_Trim at hz
   split at hz
   · rename_i hc
     injection hz with hz
     subst hz
     refine (Any.strings_Trim_laid Tryz.lays160 (by kernel_rfl) ⟨a.toArray⟩ ⟨b.toArray⟩ w hc.1 (Nat.lt_of_lt_of_le hc.2.1 (by decide)) (ascii_of_all hc.2.2)).mono fun e w' hp => ?_
     exact ⟨[_], hp.1, hp.2, vStr _, trivial⟩
   · cases hz
end Go.Proofs.YtjiddcchklaiiaaGreatDoor


