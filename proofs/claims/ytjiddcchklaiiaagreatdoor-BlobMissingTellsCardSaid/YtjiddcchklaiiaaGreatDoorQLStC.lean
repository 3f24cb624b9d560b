/- What functions of the program compute, as plain functions (printed). -/
import Derived.Test.YtjiddcchklaiiaaGreatDoorQTsF2
import Derived.Test.YtjiddcchklaiiaaGreatDoorQTsT
import Derived.Deep.AppendLies
import Derived.IntWalk
import Derived.Test.YtjiddcchklaiiaaGreatDoorQFor2
namespace Go.Proofs.YtjiddcchklaiiaaGreatDoor
open Go Go.RowKit
set_option maxRecDepth 100000
set_option linter.unusedVariables false
noncomputable section
def z7L0T (N : Nat) (x1 : Int) (x2 : Unit) (c6 : Int) (k0 : Int → τ6 → Option τ6) (self : Int → Int → τ6 → Option τ6) (s7 : Int) (s8 : Int) (w0_1 : List τ0) : Option τ6 :=
 br (decide (s8 ≤ x1))
   (bnd (slices_insertionSortCmpFunc_blob_node N s7 s8 x2 w0_1) fun t18 =>
   self s8 (IntKind.i64.wrap (s8 + c6)) t18)
   (k0 s7 w0_1)
def z7L0 (N : Nat) (x1 : Int) (x2 : Unit) (c6 : Int) (k0 : Int → τ6 → Option τ6) : Nat → Int → Int → τ6 → Option τ6
 | 0, _, _, _ => none
 | n + 1, s7, s8, w0_1 => z7L0T N x1 x2 c6 k0 (z7L0 N x1 x2 c6 k0 n) s7 s8 w0_1
def z7L2T (N : Nat) (x1 : Int) (x2 : Unit) (s6 : Int) (k4 : Int → τ6 → Option τ6) (self : Int → Int → τ6 → Option τ6) (s7_3 : Int) (s8_4 : Int) (w0_5 : List τ0) : Option τ6 :=
 br (decide (s8_4 ≤ x1))
   (bnd (slices_symMergeCmpFunc_blob_node N N s7_3 (IntKind.i64.wrap (s7_3 + s6)) s8_4 x2 w0_5) fun t43 =>
   self s8_4 (IntKind.i64.wrap (s8_4 + (IntKind.i64.wrap ((2 : Int) * s6)))) t43)
   (k4 s7_3 w0_5)
def z7L2 (N : Nat) (x1 : Int) (x2 : Unit) (s6 : Int) (k4 : Int → τ6 → Option τ6) : Nat → Int → Int → τ6 → Option τ6
 | 0, _, _, _ => none
 | n + 1, s7_3, s8_4, w0_5 => z7L2T N x1 x2 s6 k4 (z7L2 N x1 x2 s6 k4 n) s7_3 s8_4 w0_5
def z7L1T (N : Nat) (x1 : Int) (x2 : Unit) (k2 : τ6 → Option τ6) (self : Int → τ6 → Option τ6) (s6 : Int) (w0_2 : List τ0) : Option τ6 :=
 br (decide (s6 < x1))
   (z7L2 N x1 x2 s6 (fun o2_7 o2_w0 =>
       br (decide ((IntKind.i64.wrap (o2_7 + s6)) < x1))
         (bnd (slices_symMergeCmpFunc_blob_node N N o2_7 (IntKind.i64.wrap (o2_7 + s6)) x1 x2 o2_w0) fun t60 =>
         self (IntKind.i64.wrap (s6 * (2 : Int))) t60)
         (self (IntKind.i64.wrap (s6 * (2 : Int))) o2_w0)) N (0 : Int) (IntKind.i64.wrap ((2 : Int) * s6)) w0_2)
   (k2 w0_2)
def z7L1 (N : Nat) (x1 : Int) (x2 : Unit) (k2 : τ6 → Option τ6) : Nat → Int → τ6 → Option τ6
 | 0, _, _ => none
 | n + 1, s6, w0_2 => z7L1T N x1 x2 k2 (z7L1 N x1 x2 k2 n) s6 w0_2
def slices_stableCmpFunc_blob_node (N : Nat) (x1 : Int) (x2 : Unit) (w0 : List τ0) : Option τ6 :=
 z7L0 N x1 x2 (20 : Int) (fun o0_7 o0_w0 =>
     bnd (slices_insertionSortCmpFunc_blob_node N o0_7 x1 x2 o0_w0) fun t27 =>
     z7L1 N x1 x2 (fun o1_w0 =>
         some o1_w0) N (20 : Int) t27) N (0 : Int) (20 : Int) w0
abbrev z7sg (f : SV [.row 0, .v τ5, .v (.clo 55 .un)] → BV [.row 81 τ1 true] → Option τ6) : AF := { ps := [.row 0, .v τ5, .v (.clo 55 .un)], bs := [.row 81 τ1 true], rs := [], cs := [.row 81 τ1 true], R := List τ0, out := fun z => ((), (z, ())), f := f }
noncomputable abbrev z7g (N : Nat) : AF := z7sg fun x y => slices_stableCmpFunc_blob_node N x.2.1 x.2.2.1 y.1
abbrev z7pk : SV [] → BV [.row 81 τ1 true] → τ6 := fun _ y => y.1
def z7fn (N : Nat) : FuncId → Option Tmp → Option AF := fun f _ =>
 match f with
   | 115 => some (z1g N)
   | 116 => some (z4sg fun x y => slices_symMergeCmpFunc_blob_node N N x.2.1 x.2.2.1 x.2.2.2.1 x.2.2.2.2.1 y.1)
   | _ => none
theorem z7fn_ok (N : Nat) : FnOk (z7fn N) := by
 intro f q F h
 unfold z7fn at h
 split at h
 · cases h; exact z1sound N
 · cases h; exact z4sound N N
 · cases h
def z7h : Nat → Hint := fun i =>
 match i with
 | 0 => ⟨[], [0, 1, 2, 6, 7, 8], [0], [0, 1, 2, 6, 7], [0], []⟩
 | 2 => ⟨[], [0, 1, 2, 6], [0], [], [0], []⟩
 | 4 => ⟨[], [0, 1, 2, 6, 7, 8], [0], [0, 1, 2, 6, 7], [0], []⟩
 | _ => hint0
abbrev z7E (N : Nat) : Env := mkE z7h (z7fn N) FF FF
noncomputable abbrev z7c2 : Code := cAt (bodyOf Tryz.f89) [true, true, false, false, false]
noncomputable abbrev z7c1 : Code := cAt (bodyOf Tryz.f89) [true, true, true, true, false, false]
noncomputable abbrev z7c0 : Code := cAt (bodyOf Tryz.f89) [true, true, true, true, false, false, true, false, true, false, false, false]
noncomputable abbrev z7R (N : Nat) := resD (z7E N) Tryz.f89 (z7g N) z7pk
abbrev z7L0_fs : List (Nat × Sl) := [(0, .row 0), (1, .v τ5), (2, .v (.clo 55 .un)), (6, .v τ5), (7, .v τ5), (8, .v τ5)]
abbrev z7L0_bs : List (Nat × Sb) := [(0, .row 81 τ1 true)]
def z7L0_hd (x1 : Int) (x2 : Unit) (c6 : Int) (s7 : Int) (s8 : Int) (w0_1 : List τ0) : St := ⟨63, [(0, .row 0), (1, .v τ5 x1), (2, .v (.clo 55 .un) x2), (6, .v τ5 c6), (7, .v τ5 s7), (8, .v τ5 s8)], [(0, .row 81 τ1 true w0_1)]⟩
def z7L0_tl0 (x1 : Int) (x2 : Unit) (c6 : Int) (o0_7 : Int) (o0_w0 : List τ0) : St := ⟨63, [(0, .row 0), (1, .v τ5 x1), (2, .v (.clo 55 .un) x2), (6, .v τ5 c6), (7, .v τ5 o0_7)], [(0, .row 81 τ1 true o0_w0)]⟩
def z7L0_G (N : Nat) (x1 : Int) (x2 : Unit) (c6 : Int) (s7 : Int) (s8 : Int) (w0_1 : List τ0) (k : Ex → St → Option τ6) : Option τ6 :=
 z7L0 N x1 x2 c6 (fun o0_7 o0_w0 => k (.exit 0) (z7L0_tl0 x1 x2 c6 o0_7 o0_w0)) N s7 s8 w0_1
abbrev z7L0_F (N : Nat) : FV z7L0_fs → HV z7L0_bs → (Ex → St → Option τ6) → Option τ6 := fun x y k => z7L0_G N x.2.1 x.2.2.1 x.2.2.2.1 x.2.2.2.2.1 x.2.2.2.2.2.1 y.1 k
abbrev z7L2_fs : List (Nat × Sl) := [(0, .row 0), (1, .v τ5), (2, .v (.clo 55 .un)), (6, .v τ5), (7, .v τ5), (8, .v τ5)]
abbrev z7L2_bs : List (Nat × Sb) := [(0, .row 81 τ1 true)]
def z7L2_hd (x1 : Int) (x2 : Unit) (s6 : Int) (s7_3 : Int) (s8_4 : Int) (w0_5 : List τ0) : St := ⟨63, [(0, .row 0), (1, .v τ5 x1), (2, .v (.clo 55 .un) x2), (6, .v τ5 s6), (7, .v τ5 s7_3), (8, .v τ5 s8_4)], [(0, .row 81 τ1 true w0_5)]⟩
def z7L2_tl4 (x1 : Int) (x2 : Unit) (s6 : Int) (o2_7 : Int) (o2_w0 : List τ0) : St := ⟨63, [(0, .row 0), (1, .v τ5 x1), (2, .v (.clo 55 .un) x2), (6, .v τ5 s6), (7, .v τ5 o2_7)], [(0, .row 81 τ1 true o2_w0)]⟩
def z7L2_G (N : Nat) (x1 : Int) (x2 : Unit) (s6 : Int) (s7_3 : Int) (s8_4 : Int) (w0_5 : List τ0) (k : Ex → St → Option τ6) : Option τ6 :=
 z7L2 N x1 x2 s6 (fun o2_7 o2_w0 => k (.exit 4) (z7L2_tl4 x1 x2 s6 o2_7 o2_w0)) N s7_3 s8_4 w0_5
abbrev z7L2_F (N : Nat) : FV z7L2_fs → HV z7L2_bs → (Ex → St → Option τ6) → Option τ6 := fun x y k => z7L2_G N x.2.1 x.2.2.1 x.2.2.2.1 x.2.2.2.2.1 x.2.2.2.2.2.1 y.1 k
abbrev z7L1_fs : List (Nat × Sl) := [(0, .row 0), (1, .v τ5), (2, .v (.clo 55 .un)), (6, .v τ5)]
abbrev z7L1_bs : List (Nat × Sb) := [(0, .row 81 τ1 true)]
def z7L1_hd (x1 : Int) (x2 : Unit) (s6 : Int) (w0_2 : List τ0) : St := ⟨63, [(0, .row 0), (1, .v τ5 x1), (2, .v (.clo 55 .un) x2), (6, .v τ5 s6)], [(0, .row 81 τ1 true w0_2)]⟩
def z7L1_tl2 (_x1 : Int) (_x2 : Unit) (o1_w0 : List τ0) : St := ⟨63, [], [(0, .row 81 τ1 true o1_w0)]⟩
def z7L1_G (N : Nat) (x1 : Int) (x2 : Unit) (s6 : Int) (w0_2 : List τ0) (k : Ex → St → Option τ6) : Option τ6 :=
 z7L1 N x1 x2 (fun o1_w0 => k (.exit 2) (z7L1_tl2 x1 x2 o1_w0)) N s6 w0_2
abbrev z7L1_F (N : Nat) : FV z7L1_fs → HV z7L1_bs → (Ex → St → Option τ6) → Option τ6 := fun x y k => z7L1_G N x.2.1 x.2.2.1 x.2.2.2.1 y.1 k
noncomputable def z7LP (N : Nat) : Nat → Code → St → (Ex → St → Option τ6) → Option τ6 := fun i c =>
 match i with
 | 0 => (LPc 63 z7L0_fs z7L0_bs (z7L0_F N) (fun st k => iter (z7h 0) (exec (z7E N) N c 0) N st k))
 | 2 => (LPc 63 z7L1_fs z7L1_bs (z7L1_F N) (fun st k => iter (z7h 2) (exec (z7E N) N c 2) N st k))
 | 4 => (LPc 63 z7L2_fs z7L2_bs (z7L2_F N) (fun st k => iter (z7h 4) (exec (z7E N) N c 4) N st k))
 | i => fun st k => iter (z7h i) (exec (z7E N) N c i) N st k
theorem z7L2_step (N : Nat) (x1 : Int) (x2 : Unit) (s6 : Int) (KX : Nat → St → Option τ6) (I : St → Option τ6) (s7_3 : Int) (s8_4 : Int) (w0_5 : List τ0) :
   execL (z7LP N) (z7E N) z7c0 4 (z7L2_hd x1 x2 s6 s7_3 s8_4 w0_5) (roundK (z7h 4) I KX (z7R N)) = z7L2T N x1 x2 s6 (fun o2_7 o2_w0 => KX 4 (z7L2_tl4 x1 x2 s6 o2_7 o2_w0)) (fun s7_3 s8_4 w0_5 => I (z7L2_hd x1 x2 s6 s7_3 s8_4 w0_5)) s7_3 s8_4 w0_5 := by kernel_rfl
theorem z7L2_ok (N : Nat) : ∀ x y k, (∀ st, k .ret st = (z7R N) st) → iter (z7h 4) (exec (z7E N) N z7c0 4) N ⟨63, unF z7L2_fs x, unH z7L2_bs y⟩ k = z7L2_F N x y k := fun x y k hk =>
 iter_link (S := (Int) × (Int) × τ6 × Unit) (z7h 4) _ (execL (z7LP N) (z7E N) z7c0 4) (z7R N) (fun st k hk => execL_eq _ _ N _ z7c0 4 (show LoopsOk (z7LP N) (z7E N) N (z7R N) [] from trivial) st k hk) (fun s => z7L2_hd x.2.1 x.2.2.1 x.2.2.2.1 s.1 s.2.1 s.2.2.1) k hk
   (fun self s => z7L2T N x.2.1 x.2.2.1 x.2.2.2.1 (fun o2_7 o2_w0 => k (.exit 4) (z7L2_tl4 x.2.1 x.2.2.1 x.2.2.2.1 o2_7 o2_w0)) (fun s7_3 s8_4 w0_5 => self (s7_3, s8_4, w0_5, ())) s.1 s.2.1 s.2.2.1) (fun n s => z7L2 N x.2.1 x.2.2.1 x.2.2.2.1 (fun o2_7 o2_w0 => k (.exit 4) (z7L2_tl4 x.2.1 x.2.2.1 x.2.2.2.1 o2_7 o2_w0)) n s.1 s.2.1 s.2.2.1) (fun _ => rfl) (fun _ _ => rfl)
   (fun I s => z7L2_step N x.2.1 x.2.2.1 x.2.2.2.1 (fun j => k (.exit j)) I s.1 s.2.1 s.2.2.1) N (x.2.2.2.2.1, x.2.2.2.2.2.1, y.1, ())
theorem z7lp4 (N : Nat) : ∀ st k, (∀ st, k .ret st = (z7R N) st) → z7LP N 4 z7c0 st k = iter (Env.hint (z7E N) 4) (exec (z7E N) N z7c0 4) N st k := fun st k hk => LPc_eq 63 z7L2_fs z7L2_bs _ _ (z7R N) (z7L2_ok N) _ st k hk (rfl)
theorem z7L1_step (N : Nat) (x1 : Int) (x2 : Unit) (KX : Nat → St → Option τ6) (I : St → Option τ6) (s6 : Int) (w0_2 : List τ0) :
   execL (z7LP N) (z7E N) z7c1 2 (z7L1_hd x1 x2 s6 w0_2) (roundK (z7h 2) I KX (z7R N)) = z7L1T N x1 x2 (fun o1_w0 => KX 2 (z7L1_tl2 x1 x2 o1_w0)) (fun s6 w0_2 => I (z7L1_hd x1 x2 s6 w0_2)) s6 w0_2 := by kernel_rfl
theorem z7L1_ok (N : Nat) : ∀ x y k, (∀ st, k .ret st = (z7R N) st) → iter (z7h 2) (exec (z7E N) N z7c1 2) N ⟨63, unF z7L1_fs x, unH z7L1_bs y⟩ k = z7L1_F N x y k := fun x y k hk =>
 iter_link (S := (Int) × τ6 × Unit) (z7h 2) _ (execL (z7LP N) (z7E N) z7c1 2) (z7R N) (fun st k hk => execL_eq _ _ N _ z7c1 2 (show LoopsOk (z7LP N) (z7E N) N (z7R N) [(4, z7c0)] from ⟨z7lp4 N, trivial⟩) st k hk) (fun s => z7L1_hd x.2.1 x.2.2.1 s.1 s.2.1) k hk
   (fun self s => z7L1T N x.2.1 x.2.2.1 (fun o1_w0 => k (.exit 2) (z7L1_tl2 x.2.1 x.2.2.1 o1_w0)) (fun s6 w0_2 => self (s6, w0_2, ())) s.1 s.2.1) (fun n s => z7L1 N x.2.1 x.2.2.1 (fun o1_w0 => k (.exit 2) (z7L1_tl2 x.2.1 x.2.2.1 o1_w0)) n s.1 s.2.1) (fun _ => rfl) (fun _ _ => rfl)
   (fun I s => z7L1_step N x.2.1 x.2.2.1 (fun j => k (.exit j)) I s.1 s.2.1) N (x.2.2.2.1, y.1, ())
theorem z7lp2 (N : Nat) : ∀ st k, (∀ st, k .ret st = (z7R N) st) → z7LP N 2 z7c1 st k = iter (Env.hint (z7E N) 2) (exec (z7E N) N z7c1 2) N st k := fun st k hk => LPc_eq 63 z7L1_fs z7L1_bs _ _ (z7R N) (z7L1_ok N) _ st k hk (rfl)
theorem z7L0_step (N : Nat) (x1 : Int) (x2 : Unit) (c6 : Int) (KX : Nat → St → Option τ6) (I : St → Option τ6) (s7 : Int) (s8 : Int) (w0_1 : List τ0) :
   execL (z7LP N) (z7E N) z7c2 0 (z7L0_hd x1 x2 c6 s7 s8 w0_1) (roundK (z7h 0) I KX (z7R N)) = z7L0T N x1 x2 c6 (fun o0_7 o0_w0 => KX 0 (z7L0_tl0 x1 x2 c6 o0_7 o0_w0)) (fun s7 s8 w0_1 => I (z7L0_hd x1 x2 c6 s7 s8 w0_1)) s7 s8 w0_1 := by kernel_rfl
theorem z7L0_ok (N : Nat) : ∀ x y k, (∀ st, k .ret st = (z7R N) st) → iter (z7h 0) (exec (z7E N) N z7c2 0) N ⟨63, unF z7L0_fs x, unH z7L0_bs y⟩ k = z7L0_F N x y k := fun x y k hk =>
 iter_link (S := (Int) × (Int) × τ6 × Unit) (z7h 0) _ (execL (z7LP N) (z7E N) z7c2 0) (z7R N) (fun st k hk => execL_eq _ _ N _ z7c2 0 (show LoopsOk (z7LP N) (z7E N) N (z7R N) [] from trivial) st k hk) (fun s => z7L0_hd x.2.1 x.2.2.1 x.2.2.2.1 s.1 s.2.1 s.2.2.1) k hk
   (fun self s => z7L0T N x.2.1 x.2.2.1 x.2.2.2.1 (fun o0_7 o0_w0 => k (.exit 0) (z7L0_tl0 x.2.1 x.2.2.1 x.2.2.2.1 o0_7 o0_w0)) (fun s7 s8 w0_1 => self (s7, s8, w0_1, ())) s.1 s.2.1 s.2.2.1) (fun n s => z7L0 N x.2.1 x.2.2.1 x.2.2.2.1 (fun o0_7 o0_w0 => k (.exit 0) (z7L0_tl0 x.2.1 x.2.2.1 x.2.2.2.1 o0_7 o0_w0)) n s.1 s.2.1 s.2.2.1) (fun _ => rfl) (fun _ _ => rfl)
   (fun I s => z7L0_step N x.2.1 x.2.2.1 x.2.2.2.1 (fun j => k (.exit j)) I s.1 s.2.1 s.2.2.1) N (x.2.2.2.2.1, x.2.2.2.2.2.1, y.1, ())
theorem z7lp0 (N : Nat) : ∀ st k, (∀ st, k .ret st = (z7R N) st) → z7LP N 0 z7c2 st k = iter (Env.hint (z7E N) 0) (exec (z7E N) N z7c2 0) N st k := fun st k hk => LPc_eq 63 z7L0_fs z7L0_bs _ _ (z7R N) (z7L0_ok N) _ st k hk (rfl)
theorem z7core (N : Nat) (x : SV [.row 0, .v τ5, .v (.clo 55 .un)]) (y : BV [.row 81 τ1 true]) : runL (z7E N) Tryz.f89 (z7g N) z7pk (z7LP N) x y = slices_stableCmpFunc_blob_node N x.2.1 x.2.2.1 y.1 := by kernel_rfl
theorem z7sound (N : Nat) : Snd 89 (z7g N) :=
 sndL (z7fn_ok N) Tryz.func89 rfl Tryz.call89 (z7g N) z7pk (fun _ _ => rfl) N (z7LP N) (show LoopsOk (z7LP N) (z7E N) N (z7R N) [(0, z7c2), (2, z7c1), (4, z7c0)] from ⟨z7lp0 N, z7lp2 N, z7lp4 N, trivial⟩) (z7core N)
def slices_SortStableFunc_blob_node (N : Nat) (x1 : Unit) (w0 : List τ0) : Option τ6 :=
 bnd (slices_stableCmpFunc_blob_node N (w0.length : Int) x1 w0) fun t8 =>
 some t8
abbrev z5sg (f : SV [.row 0, .v (.clo 55 .un)] → BV [.row 81 τ1 true] → Option τ6) : AF := { ps := [.row 0, .v (.clo 55 .un)], bs := [.row 81 τ1 true], rs := [], cs := [.row 81 τ1 true], R := List τ0, out := fun z => ((), (z, ())), f := f }
noncomputable abbrev z5g (N : Nat) : AF := z5sg fun x y => slices_SortStableFunc_blob_node N x.2.1 y.1
abbrev z5pk : SV [] → BV [.row 81 τ1 true] → τ6 := fun _ y => y.1
def z5fn (N : Nat) : FuncId → Option Tmp → Option AF := fun f _ =>
 match f with
   | 89 => some (z7g N)
   | _ => none
theorem z5fn_ok (N : Nat) : FnOk (z5fn N) := by
 intro f q F h
 unfold z5fn at h
 split at h
 · cases h; exact z7sound N
 · cases h
def z5h : Nat → Hint := fun i =>
 match i with
 | _ => hint0
abbrev z5E (N : Nat) : Env := mkE z5h (z5fn N) FF FF
noncomputable def z5LP (N : Nat) : Nat → Code → St → (Ex → St → Option τ6) → Option τ6 := fun i c =>
 match i with
 | i => fun st k => iter (z5h i) (exec (z5E N) N c i) N st k
theorem z5core (N : Nat) (x : SV [.row 0, .v (.clo 55 .un)]) (y : BV [.row 81 τ1 true]) : runL (z5E N) Tryz.f54 (z5g N) z5pk (z5LP N) x y = slices_SortStableFunc_blob_node N x.2.1 y.1 := by kernel_rfl
theorem z5sound (N : Nat) : Snd 54 (z5g N) :=
 sndL (z5fn_ok N) Tryz.func54 rfl Tryz.call54 (z5g N) z5pk (fun _ _ => rfl) N (z5LP N) (show LoopsOk (z5LP N) (z5E N) N (resD (z5E N) Tryz.f54 (z5g N) z5pk) [] from trivial) (z5core N)
end
end Go.Proofs.YtjiddcchklaiiaaGreatDoor


/- What lies in memory while the nodes of a directory are gathered: the nodes, and the files of the last of them, each a row that is added to. -/
namespace Go.Proofs.YtjiddcchklaiiaaGreatDoor
set_option linter.unusedVariables false
set_option linter.unusedSimpArgs false
open Go Go.RowKit Go.Shelf
abbrev fT : Ty := .pr .str (.pr .bool τ17)
abbrev ndT : Ty := .pr .str (.pr (.np fT) (.sl fT))
abbrev FileD : Type := Str × Bool × List UInt8
abbrev NodeD : Type := Str × Option FileD × List FileD
theorem Els.app {M : Nat → Nat → Prop} {w : World} {t : Ty} {xs ys : List t.den} {cs ds : List Value} (hl : cs.length = xs.length * t.sz) (hx : Els M w t xs cs) (hy : Els M w t ys ds) : Els M w t (xs ++ ys) (cs ++ ds) := fun i h => by
 by_cases hi : i < xs.length
 · rw [List.getElem_append_left hi]
   have h1 : i * t.sz + t.sz ≤ cs.length := by
     rw [hl]
     have : (i + 1) * t.sz ≤ xs.length * t.sz := Nat.mul_le_mul_right _ hi
     rw [Nat.add_mul] at this; omega
   have e : ((cs ++ ds).drop (i * t.sz)).take t.sz = (cs.drop (i * t.sz)).take t.sz := by
     rw [List.drop_append_of_le_length (by omega), List.take_append_of_le_length (by rw [List.length_drop]; omega)]
   rw [e]; exact hx i hi
 · have hj : i - xs.length < ys.length := by rw [List.length_append] at h; omega
   rw [List.getElem_append_right (by omega)]
   have e : ((cs ++ ds).drop (i * t.sz)) = ds.drop ((i - xs.length) * t.sz) := by
     rw [List.drop_append, List.drop_of_length_le (by rw [hl]; exact Nat.mul_le_mul_right _ (by omega)), hl, ← Nat.sub_mul]
     rfl
   rw [e]; exact hy _ hj
theorem Els.one {M : Nat → Nat → Prop} {w : World} {t : Ty} {x : t.den} {cs : List Value} (h : RepC M w t x cs) : Els M w t [x] cs := fun i hi => by
 have : i = 0 := by simp at hi; exact hi
 subst this
 have hl := RepC.len _ _ _ h
 simp only [List.getElem_cons_zero, Nat.zero_mul, List.drop_zero]
 rw [List.take_of_length_le (by omega)]
 exact h
theorem Els.mono {M M' : Nat → Nat → Prop} {w w' : World} (hs : Step M w M' w') {t : Ty} {xs : List t.den} {cs : List Value} (h : Els M w t xs cs) : Els M' w' t xs cs := fun i hi => RepC.step hs _ _ _ (h i hi)
def M2 (M : Nat → Nat → Prop) (V FV : Value) : Nat → Nat → Prop := fun b _o => M b _o ∨ V.ownBlock = some b ∨ FV.ownBlock = some b
theorem step2 {M : Nat → Nat → Prop} {w w' : World} {V FV V' FV' : Value}
   (hb : ∀ b, b < w.heap.size → V.ownBlock ≠ some b → FV.ownBlock ≠ some b → w'.heap[b]? = w.heap[b]? ∧ V'.ownBlock ≠ some b ∧ FV'.ownBlock ≠ some b) : Step (M2 M V FV) w (M2 M V' FV') w' := by
 have key : ∀ b o, b < w.heap.size → ¬ M2 M V FV b o → w'.heap[b]? = w.heap[b]? ∧ ¬ M2 M V' FV' b o := fun b o hlt hm => by
   obtain ⟨h1, h2, h3⟩ := hb b hlt (fun h => hm (.inr (.inl h))) (fun h => hm (.inr (.inr h)))
   refine ⟨h1, fun h => ?_⟩
   rcases h with h | h | h
   · exact hm (.inl h)
   · exact h2 h
   · exact h3 h
 refine ⟨fun ad u hu hm => ?_, fun b es c h hm => ?_⟩
 · obtain ⟨h1, h2⟩ := key ad.block ad.off (World.block_lt_of_cell? w _ hu) hm
   exact ⟨(cell_of_block h1).trans hu, h2⟩
 · obtain ⟨h1, h2⟩ := key b 0 (lt_of_map h) hm
   exact ⟨h1.trans h, h2⟩
theorem step0 {M : Nat → Nat → Prop} {w0 w' : World} {V' FV' : Value} (hE : Ext w0 w') (h1 : ∀ b, V'.ownBlock = some b → w0.heap.size ≤ b) (h2 : ∀ b, FV'.ownBlock = some b → w0.heap.size ≤ b) : Step M w0 (M2 M V' FV') w' := by
 have key : ∀ b o, b < w0.heap.size → ¬ M b o → w'.heap[b]? = w0.heap[b]? ∧ ¬ M2 M V' FV' b o := fun b o hlt hm => by
   refine ⟨hE.block b hlt, fun h => ?_⟩
   rcases h with h | h | h
   · exact hm h
   · have := h1 b h; omega
   · have := h2 b h; omega
 refine ⟨fun ad u hu hm => ?_, fun b es c h hm => ?_⟩
 · obtain ⟨h1, h2⟩ := key ad.block ad.off (World.block_lt_of_cell? w0 _ hu) hm
   exact ⟨(cell_of_block h1).trans hu, h2⟩
 · obtain ⟨h1, h2⟩ := key b 0 (lt_of_map h) hm
   exact ⟨h1.trans h, h2⟩
abbrev nilV : Value := .slice none 0 0
structure NdC (NT : TypeId) (M : Nat → Nat → Prop) (w0 w : World) (V : Value) (cs : List Value) (ns : List NodeD) : Prop where
 ext : Ext w0 w
 own : w.ownsRow w0.heap.size NT 3 V ns.length cs
 els : Els (M2 M V nilV) w ndT ns cs
structure NdO (NT FT : TypeId) (M : Nat → Nat → Prop) (w0 w : World) (V FV : Value) (cs fcs : List Value) (p : Value) (ms : List NodeD) (nm : Str) (fo : Option FileD) (fs : List FileD) : Prop where
 ext : Ext w0 w
 own : w.ownsRow w0.heap.size NT 3 V (ms.length + 1) (cs ++ [.string ⟨nm.toArray⟩, p, FV])
 len : cs.length = ms.length * 3
 els : Els (M2 M V FV) w ndT ms cs
 ptr : RepC (M2 M V FV) w (.np fT) fo [p]
 fown : w.ownsRow w0.heap.size FT 3 FV fs.length fcs
 fels : Els (M2 M V FV) w fT fs fcs
 ne : ∀ b, V.ownBlock = some b → FV.ownBlock ≠ some b
variable {NT FT : TypeId} {M : Nat → Nat → Prop} {w0 w w' : World} {V FV V' FV' : Value} {cs fcs : List Value} {p : Value} {ns ms : List NodeD} {nm : Str} {fo : Option FileD} {fs : List FileD}
theorem own_ext {base : Nat} {e : TypeId} {size : Nat} {v : Value} {n : Nat} {xs : List Value} (h : w.ownsRow base e size v n xs) (hE : Ext w w') : w'.ownsRow base e size v n xs :=
 h.kept (row := none) ⟨hE.os, hE.tape, hE.output, hE.size, fun k hk _ => hE.block k hk⟩ (by cases hv : v.ownBlock <;> simp)
theorem stepE (hE : Ext w w') : Step (M2 M V FV) w (M2 M V FV) w' := Step.ext hE
theorem NdC.up (h : NdC NT M w0 w V cs ns) (hE : Ext w w') : NdC NT M w0 w' V cs ns := ⟨h.ext.trans hE, own_ext h.own hE, h.els.mono (stepE hE)⟩
theorem NdO.up (h : NdO NT FT M w0 w V FV cs fcs p ms nm fo fs) (hE : Ext w w') : NdO NT FT M w0 w' V FV cs fcs p ms nm fo fs :=
 ⟨h.ext.trans hE, own_ext h.own hE, h.len, h.els.mono (stepE hE), RepC.step (stepE hE) _ _ _ h.ptr, own_ext h.fown hE, h.fels.mono (stepE hE), h.ne⟩
theorem NdC.start (w0 : World) : NdC NT M w0 w0 nilV [] [] := ⟨Ext.refl _, World.ownsRow_nil _ _ _ _, fun i h => absurd h (Nat.not_lt_zero i)⟩
theorem NdO.close (h : NdO NT FT M w0 w V FV cs fcs p ms nm fo fs) (hM : ∀ b o, M b o → b < w0.heap.size) : NdC NT M w0 w V (cs ++ [.string ⟨nm.toArray⟩, p, FV]) (ms ++ [(nm, fo, fs)]) := by
 have hs : Step (M2 M V FV) w (M2 M V nilV) w := step2 fun b hb h1 h2 => ⟨rfl, h1, fun h => by cases h⟩
 refine ⟨h.ext, by rw [List.length_append]; exact h.own, Els.app h.len (h.els.mono hs) (Els.one ?_)⟩
 have hf : RepC (M2 M V nilV) w (.sl fT) fs [FV] := RepC.of_own (t := fT) (by decide) h.fown (fun b o hb _ hm => by
   rcases hm with hm | hm | hm
   · have := hM b o hm; have := (h.fown.lt b hb).1; omega
   · exact h.ne b hm hb
   · cases hm) (h.fels.mono hs)
 exact ⟨[_], [p, FV], rfl, rfl, [p], [FV], rfl, RepC.step hs _ _ _ h.ptr, hf⟩
theorem NdC.push (h : NdC NT M w0 w V cs ns) (hg : w.grownBy w' V.ownBlock) {g c : Nat} (hV : V' = .slice (some ⟨g, 0, none⟩) (ns.length + 1) c) (hat : V.ownBlock = some g ∨ w.heap.size ≤ g)
   (hown : w'.ownsRow w0.heap.size NT 3 V' (ns.length + 1) (cs ++ [.string ⟨nm.toArray⟩, p, nilV])) (hp : RepC M w0 (.np fT) fo [p]) : NdO NT FT M w0 w' V' nilV cs [] p ns nm fo [] := by
 have hE : Ext w0 w' := h.ext.grown hg fun k hk => (h.own.lt k hk).1
 have hs : Step (M2 M V nilV) w (M2 M V' nilV) w' := step2 fun b hb h1 h2 => by
   refine ⟨hg.block b hb (fun e => h1 e.symm), fun e => ?_, h2⟩
   rw [hV] at e
   simp only [Value.ownBlock, Option.some.injEq] at e
   subst e
   rcases hat with h3 | h3
   · exact h1 h3
   · omega
 refine ⟨hE, hown, h.own.1, h.els.mono hs, RepC.step (step0 hE (fun b hb => (hown.lt b hb).1) (fun b hb => by cases hb)) _ _ _ hp, World.ownsRow_nil _ _ _ _, fun i h => absurd h (Nat.not_lt_zero i), fun b hb h => by cases h⟩
theorem NdO.more (h : NdO NT FT M w0 w V FV cs fcs p ms nm fo fs) (hg : w.grownBy w' FV.ownBlock) {g c gV nV cV : Nat} (hVs : V = .slice (some ⟨gV, 0, none⟩) nV cV) (hV : FV' = .slice (some ⟨g, 0, none⟩) (fs.length + 1) c) (hat : FV.ownBlock = some g ∨ w.heap.size ≤ g)
   {x : FileD} {es : List Value} (hown : w'.ownsRow w0.heap.size FT 3 FV' (fs.length + 1) (fcs ++ es)) (hx : RepC M w0 fT x es) :
   NdO NT FT M w0 (w'.setCell ⟨gV, ms.length * 3 + 2, none⟩ FV') V FV' cs (fcs ++ es) p ms nm fo (fs ++ [x]) := by
 have hgV : V.ownBlock = some gV := by rw [hVs]; rfl
 have hgn : g ≠ gV := fun e => by
   subst e
   rcases hat with h3 | h3
   · exact h.ne _ hgV h3
   · have := (h.own.lt _ hgV).2; omega
 have hown2 : w'.ownsRow w0.heap.size NT 3 V (ms.length + 1) (cs ++ [.string ⟨nm.toArray⟩, p, FV]) := h.own.kept hg (.inr (by rw [hgV]; exact fun e => h.ne _ hgV e.symm))
 have hnV : nV = ms.length + 1 := by
   rcases hown2.2 with ⟨_, h0⟩ | ⟨g', cap, cur, e, _⟩
   · omega
   · rw [hVs] at e; injection e
 subst hnV
 rw [hVs] at hown2
 obtain ⟨ho3, hg3⟩ := hown2.stored (ms.length * 3 + 2) FV'
 have hset : (cs ++ [.string ⟨nm.toArray⟩, p, FV]).set (ms.length * 3 + 2) FV' = cs ++ [.string ⟨nm.toArray⟩, p, FV'] := by
   rw [List.set_append_right _ _ (by rw [h.len]; omega), h.len]
   have : ms.length * 3 + 2 - ms.length * 3 = 2 := by omega
   rw [this]; rfl
 rw [hset, ← hVs] at ho3
 have hE : Ext w0 w' := h.ext.grown hg fun k hk => (h.fown.lt k hk).1
 have hE2 : Ext w0 (w'.setCell ⟨gV, ms.length * 3 + 2, none⟩ FV') := hE.grown hg3 fun k hk => by
   injection hk with hk; subst hk; exact (h.own.lt _ hgV).1
 have hs : Step (M2 M V FV) w (M2 M V FV') (w'.setCell ⟨gV, ms.length * 3 + 2, none⟩ FV') := step2 fun b hb h1 h2 => by
   refine ⟨(hg3.block b (Nat.lt_of_lt_of_le hb hg.size) fun e => h1 (by rw [hgV]; exact e.symm)).trans (hg.block b hb fun e => h2 e.symm), h1, fun e => ?_⟩
   rw [hV] at e
   simp only [Value.ownBlock, Option.some.injEq] at e
   subst e
   rcases hat with h3 | h3
   · exact h2 h3
   · omega
 have hfo : (w'.setCell ⟨gV, ms.length * 3 + 2, none⟩ FV').ownsRow w0.heap.size FT 3 FV' (fs.length + 1) (fcs ++ es) := hown.kept hg3 (.inr (by rw [hV]; simp [Value.ownBlock, hgn]))
 refine ⟨hE2, ho3, h.len, h.els.mono hs, RepC.step hs _ _ _ h.ptr, by rw [List.length_append]; exact hfo, Els.app h.fown.1 (h.fels.mono hs) (Els.one (RepC.step (step0 hE2 (fun b hb => (h.own.lt b hb).1) fun b hb => (hown.lt b hb).1) _ _ _ hx)), fun b hb e => ?_⟩
 rw [hV] at e
 rw [hgV] at hb
 simp only [Value.ownBlock, Option.some.injEq] at e hb
 exact hgn (e.trans hb.symm)
end Go.Proofs.YtjiddcchklaiiaaGreatDoor


/- The printed stable sort of nodes, plainly: blocks change places, and turn. -/
namespace Go.Proofs.YtjiddcchklaiiaaGreatDoor
set_option linter.unusedVariables false
set_option linter.unusedSimpArgs false
open Go Go.RowKit
theorem w64 (n : Int) (h0 : -1000000000000 ≤ n) (h1 : n ≤ 1000000000000) : IntKind.i64.wrap n = n := IntWalk.i64_in n (by omega)
theorem geti_at {α : Type} (P : List α) (x : α) (S : List α) (i : Int) (h : i = (P.length : Int)) : geti (P ++ x :: S) i = some x := by
 subst h
 unfold geti
 rw [if_pos (Int.natCast_nonneg _), Int.toNat_natCast]
 simp
theorem seti_at {α : Type} (P : List α) (x y : α) (S : List α) (i : Int) (h : i = (P.length : Int)) : seti (P ++ x :: S) i y = P ++ y :: S := by
 subst h
 unfold seti
 rw [Int.toNat_natCast, List.set_append_right _ _ (Nat.le_refl _), Nat.sub_self]
 rfl
theorem swap_two {α R : Type} (P Q S : List α) (x y : α) (i j : Int) (hi : i = (P.length : Int)) (hj : j = ((P.length + 1 + Q.length : Nat) : Int)) :
   geti (P ++ x :: (Q ++ y :: S)) i = some x ∧ geti (P ++ x :: (Q ++ y :: S)) j = some y ∧ 0 ≤ i ∧ i < ((P ++ x :: (Q ++ y :: S)).length : Int) ∧ 0 ≤ j ∧ j < ((P ++ x :: (Q ++ y :: S)).length : Int) ∧
   seti (seti (P ++ x :: (Q ++ y :: S)) i y) j x = P ++ y :: (Q ++ x :: S) ∧ seti (seti (P ++ x :: (Q ++ y :: S)) j x) i y = P ++ y :: (Q ++ x :: S) ∧
   geti (seti (P ++ x :: (Q ++ y :: S)) i y) j = some y ∧ geti (seti (P ++ x :: (Q ++ y :: S)) j x) i = some x ∧ (seti (P ++ x :: (Q ++ y :: S)) i y).length = (P ++ x :: (Q ++ y :: S)).length ∧ (seti (P ++ x :: (Q ++ y :: S)) j x).length = (P ++ x :: (Q ++ y :: S)).length := by
 have e : ∀ a b : α, P ++ a :: (Q ++ b :: S) = (P ++ a :: Q) ++ b :: S := fun a b => by simp
 have hl : ∀ a : α, (P ++ a :: Q).length = P.length + 1 + Q.length := fun a => by simp; omega
 have s1 : seti (P ++ x :: (Q ++ y :: S)) i y = P ++ y :: (Q ++ y :: S) := seti_at _ _ _ _ _ hi
 have s2 : seti (P ++ x :: (Q ++ y :: S)) j x = P ++ x :: (Q ++ x :: S) := by rw [e, seti_at _ _ _ _ _ (by rw [hl]; exact hj), ← e]
 refine ⟨geti_at _ _ _ _ hi, ?_, by omega, by simp; omega, by omega, by simp; omega, ?_, ?_, ?_, ?_, ?_, ?_⟩
 · rw [e]; exact geti_at _ _ _ _ (by rw [hl]; exact hj)
 · rw [s1, e, seti_at _ _ _ _ _ (by rw [hl]; exact hj), ← e]
 · rw [s2]; exact seti_at _ _ _ _ _ hi
 · rw [s1, e]; exact geti_at _ _ _ _ (by rw [hl]; exact hj)
 · rw [s2]; exact geti_at _ _ _ _ hi
 · rw [s1]; simp
 · rw [s2]; simp
theorem swapR {N : Nat} (k0 : List NodeD → Option (List NodeD)) (R : List NodeD) : ∀ (A B P Q : List NodeD) (fuel : Nat) (a b n s : Int), A.length = B.length → (P.length : Int) = a + s → ((P.length + A.length + Q.length : Nat) : Int) = b + s → s + (A.length : Int) = n → A.length < fuel →
   P.length + A.length + Q.length + B.length ≤ 1000000 → 0 ≤ s → 0 ≤ a → 0 ≤ b →
   z3L0 N a b n k0 fuel s (P ++ (A ++ (Q ++ (B ++ R)))) = k0 (P ++ (B ++ (Q ++ (A ++ R))))
 | [], [], P, Q, fuel + 1, a, b, n, s, _, h1, h2, h3, h4, h5, h6, h7, h8 => by
   rw [z3L0]
   unfold z3L0T
   simp only [List.length_nil, Int.natCast_zero, Int.add_zero] at h3
   rw [decide_eq_false (by omega), br_false]
 | x :: A, y :: B, P, Q, fuel + 1, a, b, n, s, h0, h1, h2, h3, h4, h5, h6, h7, h8 => by
   simp only [List.length_cons] at h0 h2 h3 h4 h5
   rw [z3L0]
   unfold z3L0T
   have e : P ++ (x :: A ++ (Q ++ (y :: B ++ R))) = P ++ x :: ((A ++ Q) ++ y :: (B ++ R)) := by simp
   obtain ⟨g1, g2, b1, b2, b3, b4, s1, s2, g3, g4, l1, l2⟩ := swap_two (R := Unit) (α := NodeD) P (A ++ Q) (B ++ R) x y (a + s) (b + s) h1.symm (by rw [List.length_append]; omega)
   rw [e, w64 (b + s) (by omega) (by omega), w64 (a + s) (by omega) (by omega), w64 (s + 1) (by omega) (by omega)]
   have ih := swapR (N := N) k0 R A B (P ++ [y]) (Q ++ [x]) fuel a b n (s + 1) (by omega) (by simp; omega) (by simp; omega) (by omega) (by omega) (by simp; omega) (by omega) h7 h8
   have e2 : P ++ [y] ++ (A ++ (Q ++ [x] ++ (B ++ R))) = P ++ y :: ((A ++ Q) ++ x :: (B ++ R)) := by simp
   have e3 : P ++ [y] ++ (B ++ (Q ++ [x] ++ (A ++ R))) = P ++ (y :: B ++ (Q ++ (x :: A ++ R))) := by simp
   rw [e2, e3] at ih
   rw [decide_eq_true (by omega), br_true, decide_eq_true ⟨b3, b4⟩, br_true, decide_eq_true ⟨b1, b2⟩, br_true, g1, g2]
   simp only [bnd_some, g1, l1, decide_eq_true (And.intro b1 b2), decide_eq_true (And.intro b3 b4), br_true, g3, s1, both_self]
   exact ih
theorem swapRange_eq {N : Nat} (P A Q B R : List NodeD) (a b n : Int) (h0 : A.length = B.length) (h1 : (P.length : Int) = a) (h2 : ((P.length + A.length + Q.length : Nat) : Int) = b) (h3 : (A.length : Int) = n) (h4 : A.length < N) (h5 : P.length + A.length + Q.length + B.length ≤ 1000000) :
   slices_swapRangeCmpFunc_blob_node N a b n () (P ++ (A ++ (Q ++ (B ++ R)))) = some (P ++ (B ++ (Q ++ (A ++ R)))) := by
 unfold slices_swapRangeCmpFunc_blob_node
 exact swapR (fun w => some w) R A B P Q N a b n 0 h0 (by omega) (by omega) (by omega) h4 h5 (Int.le_refl _) (by omega) (by omega)
theorem rotR {N : Nat} (hN : 1000000 < N) (P Z : List NodeD) : ∀ (fuel : Nat) (X Y P' Z' : List NodeD) (m i j : Int), (X.length : Int) = i → (Y.length : Int) = j → 0 < X.length → 0 < Y.length → X.length + Y.length ≤ fuel → ((P'.length + X.length : Nat) : Int) = m →
   P'.length + X.length + Y.length ≤ 1000000 →
   z6L0 N m () (fun o w => bnd (slices_swapRangeCmpFunc_blob_node N (IntKind.i64.wrap (m - o)) m o () w) fun t => some t) fuel i j (P' ++ (X ++ (Y ++ Z'))) = some (P' ++ (Y ++ (X ++ Z')))
 | 0, X, Y, P', Z', m, i, j, h1, h2, h3, h4, h5, h6, h7 => by omega
 | fuel + 1, X, Y, P', Z', m, i, j, h1, h2, h3, h4, h5, h6, h7 => by
   rw [z6L0]
   unfold z6L0T
   rw [w64 (m - i) (by omega) (by omega), w64 (i - j) (by omega) (by omega), w64 (j - i) (by omega) (by omega), w64 (m + j) (by omega) (by omega), w64 (m + j - i) (by omega) (by omega)]
   by_cases hij : i = j
   · subst hij
     rw [show (i != i) = false by simp, br_false]
     simp only []
     rw [w64 (m - i) (by omega) (by omega)]
     have := swapRange_eq (N := N) P' X [] Y Z' (m - i) m i (by omega) (by omega) (by simp; omega) h1 (by omega) (by simp; omega)
     simp only [List.nil_append] at this
     rw [this, bnd_some]
   · rw [show (i != j) = true by simpa using hij, br_true]
     by_cases hgt : i > j
     · rw [decide_eq_true hgt, br_true]
       obtain ⟨X1, X2, rfl, hx1⟩ : ∃ X1 X2, X = X1 ++ X2 ∧ X1.length = Y.length := ⟨X.take Y.length, X.drop Y.length, (List.take_append_drop _ _).symm, by rw [List.length_take]; omega⟩
       rw [List.length_append] at h1 h3 h5 h6 h7
       have hs := swapRange_eq (N := N) P' X1 X2 Y Z' (m - i) m j (by omega) (by omega) (by omega) (by omega) (by omega) (by omega)
       rw [List.append_assoc, hs, bnd_some]
       have ih := rotR hN P Z fuel X2 X1 (P' ++ Y) Z' m (i - j) j (by omega) (by omega) (by omega) (by omega) (by omega) (by rw [List.length_append]; omega) (by rw [List.length_append]; omega)
       rw [show P' ++ (Y ++ (X2 ++ (X1 ++ Z'))) = P' ++ Y ++ (X2 ++ (X1 ++ Z')) by simp, ih]
       simp
     · rw [decide_eq_false hgt, br_false]
       obtain ⟨Y1, Y2, rfl, hy2⟩ : ∃ Y1 Y2, Y = Y1 ++ Y2 ∧ Y2.length = X.length := ⟨Y.take (Y.length - X.length), Y.drop (Y.length - X.length), (List.take_append_drop _ _).symm, by rw [List.length_drop]; omega⟩
       rw [List.length_append] at h2 h4 h5 h7
       have hs := swapRange_eq (N := N) P' X Y1 Y2 Z' (m - i) (m + j - i) i (by omega) (by omega) (by omega) (by omega) (by omega) (by omega)
       rw [List.append_assoc, hs, bnd_some]
       have ih := rotR hN P Z fuel Y2 Y1 P' (X ++ Z') m i (j - i) (by omega) (by omega) (by omega) (by omega) (by omega) (by omega) (by omega)
       rw [ih]
       simp
theorem rotate_eq {N : Nat} (hN : 1000000 < N) (P X Y Z : List NodeD) (a m b : Int) (h1 : (P.length : Int) = a) (h2 : ((P.length + X.length : Nat) : Int) = m) (h3 : ((P.length + X.length + Y.length : Nat) : Int) = b) (h4 : 0 < X.length) (h5 : 0 < Y.length) (h6 : P.length + X.length + Y.length ≤ 1000000) :
   slices_rotateCmpFunc_blob_node N a m b () (P ++ (X ++ (Y ++ Z))) = some (P ++ (Y ++ (X ++ Z))) := by
 unfold slices_rotateCmpFunc_blob_node
 rw [w64 (m - a) (by omega) (by omega), w64 (b - m) (by omega) (by omega)]
 exact rotR hN P Z N X Y P Z m (m - a) (b - m) (by omega) (by omega) h4 h5 (by omega) (by omega) h6
end Go.Proofs.YtjiddcchklaiiaaGreatDoor


/- The printed stable sort of nodes, plainly: the order, insertion, search by halves. -/
namespace Go.Proofs.YtjiddcchklaiiaaGreatDoor
set_option linter.unusedVariables false
set_option linter.unusedSimpArgs false
open Go Go.RowKit
def leN (x y : NodeD) : Prop := ¬ y.1 < x.1
def SortedN (l : List NodeD) : Prop := l.Pairwise leN
theorem leN_trans {x y z : NodeD} (h1 : leN x y) (h2 : leN y z) : leN x z := fun h => absurd (List.le_trans (List.not_lt.1 h1) (List.not_lt.1 h2)) (List.not_le.2 h)
theorem leN_of_lt {x y : NodeD} (h : x.1 < y.1) : leN x y := fun h' => str_lt_irrefl _ (str_lt_trans h h')
theorem bytesLess_lt : ∀ (x y : List UInt8), Op.bytesLess x y = decide (x < y)
 | [], [] => by simp [Op.bytesLess]
 | _ :: _, [] => by simp [Op.bytesLess]
 | [], _ :: _ => by simp [Op.bytesLess]
 | a :: x, b :: y => by
   rw [Op.bytesLess, bytesLess_lt x y]
   simp only [List.cons_lt_cons_iff]
   by_cases h1 : a < b <;> by_cases h2 : a = b <;> by_cases h3 : x < y <;> simp [h1, h2, h3]
theorem compare_neg : ∀ a b : Str, decide (Lib.compareBytes a b < 0) = Op.bytesLess a b
 | [], [] => by simp [Lib.compareBytes, Op.bytesLess]
 | [], _ :: _ => by simp [Lib.compareBytes, Op.bytesLess]
 | _ :: _, [] => by simp [Lib.compareBytes, Op.bytesLess]
 | a :: x, b :: y => by
   rw [Lib.compareBytes, Op.bytesLess]
   by_cases h1 : a < b
   · simp [h1]
   · by_cases h2 : b < a
     · have : a ≠ b := fun e => by subst e; exact h1 h2
       simp [h1, h2, this]
     · have e : a = b := UInt8.le_antisymm (UInt8.not_lt.1 h2) (UInt8.not_lt.1 h1)
       subst e
       simp [h1, compare_neg x y]
theorem cmp_node (N : Nat) (x y : NodeD) : ∃ c, blob_nodes_1 N x y = some c ∧ decide (c < 0) = decide (x.1 < y.1) :=
 ⟨Lib.compareBytes x.1 y.1, by unfold blob_nodes_1 strings_Compare; rw [bnd_some], by rw [compare_neg, bytesLess_lt]⟩
theorem insIn {N : Nat} (k2 : List NodeD → Option (List NodeD)) (P R : List NodeD) (x : NodeD) (a : Int) (ha : (P.length : Int) = a) : ∀ (n : Nat) (S1 S2 : List NodeD) (fuel : Nat) (s : Int), S1.length = n → SortedN (S1 ++ S2) → (∀ z ∈ S2, x.1 < z.1) → s = ((P.length + S1.length : Nat) : Int) → S1.length < fuel →
   P.length + S1.length + S2.length + R.length ≤ 1000000 →
   ∃ T, T.Perm (S1 ++ x :: S2) ∧ SortedN T ∧ z1L1 N a k2 fuel s (P ++ (S1 ++ x :: (S2 ++ R))) = k2 (P ++ (T ++ R))
 | 0, S1, S2, fuel + 1, s, hn, h1, h2, h3, h4, h5 => by
   obtain rfl := List.eq_nil_of_length_eq_zero hn
   refine ⟨x :: S2, List.Perm.refl _, List.Pairwise.cons (fun z hz => leN_of_lt (h2 z hz)) h1, ?_⟩
   rw [z1L1]
   unfold z1L1T
   simp only [List.length_nil, Nat.add_zero] at h3
   rw [decide_eq_false (by omega), br_false]
   rfl
 | n + 1, S1, S2, fuel + 1, s, hn, h1, h2, h3, h4, h5 => by
   obtain ⟨S, z, rfl⟩ : ∃ S z, S1 = S ++ [z] := by
     rcases List.eq_nil_or_concat S1 with h | ⟨S, z, h⟩
     · rw [h] at hn; simp at hn
     · exact ⟨S, z, by rw [h, List.concat_eq_append]⟩
   rw [List.length_append] at hn h3 h4 h5
   simp only [List.length_singleton] at hn h3 h4 h5
   rw [z1L1]
   unfold z1L1T
   obtain ⟨g1, g2, b1, b2, b3, b4, s1, s2, g3, g4, l1, l2⟩ := swap_two (R := Unit) (P ++ S) [] (S2 ++ R) z x (s - 1) s (by rw [List.length_append]; omega) (by rw [List.length_append]; simp; omega)
   have e : P ++ (S ++ [z] ++ x :: (S2 ++ R)) = (P ++ S) ++ z :: ([] ++ x :: (S2 ++ R)) := by simp
   rw [e, w64 (s - 1) (by omega) (by omega), decide_eq_true (by omega), br_true, decide_eq_true ⟨b3, b4⟩, br_true, g2, bnd_some, decide_eq_true ⟨b1, b2⟩, br_true, g1, bnd_some]
   obtain ⟨c, hc1, hc2⟩ := cmp_node N x z
   rw [hc1, bnd_some, hc2]
   by_cases hxz : x.1 < z.1
   · rw [decide_eq_true hxz, br_true]
     simp only [bnd_some, g1, g2, l2, decide_eq_true (And.intro b1 b2), decide_eq_true (And.intro b3 b4), br_true, g4, s2, both_self]
     have e0 : S ++ [z] ++ S2 = S ++ z :: S2 := by simp
     obtain ⟨T, t1, t2, t3⟩ := insIn (N := N) k2 P R x a ha n S (z :: S2) fuel (s - 1) (by omega) (by rw [← e0]; exact h1) (fun y hy => by
       rcases List.mem_cons.1 hy with rfl | hy
       · exact hxz
       · exact h2 y hy) (by omega) (by omega) (by simp; omega)
     refine ⟨T, t1.trans ?_, t2, ?_⟩
     · have : (S ++ [z] ++ x :: S2) = S ++ z :: x :: S2 := by simp
       rw [this]
       exact List.Perm.append_left S (List.Perm.swap z x S2)
     · rw [← t3]
       simp
   · rw [decide_eq_false hxz, br_false]
     refine ⟨S ++ [z] ++ x :: S2, List.Perm.refl _, ?_, by simp⟩
     have hp := List.pairwise_append.1 h1
     refine List.pairwise_append.2 ⟨hp.1, List.Pairwise.cons (fun y hy => leN_of_lt (h2 y hy)) hp.2.1, fun u hu y hy => ?_⟩
     have huz : leN u z := by
       rcases List.mem_append.1 hu with h | h
       · exact (List.pairwise_append.1 hp.1).2.2 u h z (List.mem_singleton.2 rfl)
       · rw [List.mem_singleton.1 h]; exact str_lt_irrefl _
     rcases List.mem_cons.1 hy with rfl | hy
     · exact leN_trans huz hxz
     · exact hp.2.2 u hu y hy
theorem insOut {N : Nat} (hN : 1000000 < N) (P R : List NodeD) (a b : Int) (ha : (P.length : Int) = a) : ∀ (X S : List NodeD) (fuel : Nat) (s : Int), SortedN S → s = ((P.length + S.length : Nat) : Int) → ((P.length + S.length + X.length : Nat) : Int) = b → X.length < fuel →
   P.length + S.length + X.length + R.length ≤ 1000000 →
   ∃ T, T.Perm (S ++ X) ∧ SortedN T ∧ z1L0 N a b (fun w => some w) fuel s (P ++ (S ++ (X ++ R))) = some (P ++ (T ++ R))
 | [], S, fuel + 1, s, h1, h2, h3, h4, h5 => by
   refine ⟨S, by simp, h1, ?_⟩
   rw [z1L0]
   unfold z1L0T
   simp only [List.length_nil, Nat.add_zero] at h3
   rw [decide_eq_false (by omega), br_false]
   rfl
 | x :: X, S, fuel + 1, s, h1, h2, h3, h4, h5 => by
   simp only [List.length_cons] at h3 h4 h5
   rw [z1L0]
   unfold z1L0T
   rw [decide_eq_true (by omega), br_true, w64 (s + 1) (by omega) (by omega)]
   obtain ⟨T, t1, t2, t3⟩ := insIn (N := N) (fun o => z1L0 N a b (fun w => some w) fuel (s + 1) o) P (X ++ R) x a ha S.length S [] N s rfl (by simpa using h1) (fun z hz => by simp at hz) h2 (by omega) (by simp; omega)
   rw [List.nil_append] at t3
   have e : P ++ (S ++ (x :: X ++ R)) = P ++ (S ++ x :: (X ++ R)) := by simp
   rw [e, t3]
   have hl := t1.length_eq
   simp only [List.length_append, List.length_singleton] at hl
   obtain ⟨T2, u1, u2, u3⟩ := insOut hN P R a b ha X T fuel (s + 1) t2 (by omega) (by omega) (by omega) (by omega)
   refine ⟨T2, u1.trans ((t1.append_right X).trans (by simp)), u2, u3⟩
theorem insertion_eq {N : Nat} (hN : 1000000 < N) (P X R : List NodeD) (a b : Int) (h1 : (P.length : Int) = a) (h2 : ((P.length + X.length : Nat) : Int) = b) (h3 : P.length + X.length + R.length ≤ 1000000) :
   ∃ T, T.Perm X ∧ SortedN T ∧ slices_insertionSortCmpFunc_blob_node N a b () (P ++ (X ++ R)) = some (P ++ (T ++ R)) := by
 unfold slices_insertionSortCmpFunc_blob_node
 rw [w64 (a + 1) (by omega) (by omega)]
 cases X with
 | nil =>
   refine ⟨[], List.Perm.refl _, List.Pairwise.nil, ?_⟩
   obtain ⟨N', rfl⟩ : ∃ N', N = N' + 1 := ⟨N - 1, by omega⟩
   rw [z1L0]
   unfold z1L0T
   simp only [List.length_nil, Nat.add_zero] at h2
   rw [decide_eq_false (by omega), br_false]
 | cons x X =>
   simp only [List.length_cons] at h2 h3
   obtain ⟨T, t1, t2, t3⟩ := insOut hN P R a b h1 X [x] N (a + 1) (List.pairwise_singleton _ _) (by simp; omega) (by simp; omega) (by omega) (by simp; omega)
   exact ⟨T, t1, t2, by simpa using t3⟩
theorem mid_eq (s t : Nat) (h : s + t ≤ 4000000) : IntKind.i64.wrap (shrI .u64 (IntKind.u64.wrap (IntKind.i64.wrap ((s : Int) + (t : Int)))) (1 : Int)) = (((s + t) / 2 : Nat) : Int) := by
 rw [w64 ((s : Int) + (t : Int)) (by omega) (by omega), IntWalk.u64_in ((s : Int) + (t : Int)) (by omega)]
 have e : shrI .u64 ((s : Int) + (t : Int)) 1 = (((s + t) / 2 : Nat) : Int) := by
   unfold shrI
   have h2 : (2 : Int) ^ (min (1 : Int).toNat IntKind.u64.bits) = 2 := by decide
   rw [h2, Int.fdiv_eq_ediv_of_nonneg _ (by decide)]
   omega
 rw [e, w64 _ (by omega) (by omega)]
theorem bsearchN {R : Type} (f : Nat → Bool) (L : Nat → Int → Int → R) (k : Int → R) (lo hi : Nat) (mono : ∀ i j, lo ≤ i → i ≤ j → j < hi → f j = true → f i = true)
   (hs : ∀ n s t : Nat, lo ≤ s → s < t → t ≤ hi → L (n + 1) s t = if f ((s + t) / 2) = true then L n (((s + t) / 2 + 1 : Nat) : Int) t else L n s (((s + t) / 2 : Nat) : Int)) (he : ∀ n s : Nat, L (n + 1) s s = k s) :
   ∀ (fuel s t : Nat), lo ≤ s → s ≤ t → t ≤ hi → t - s < fuel → (∀ i, lo ≤ i → i < s → f i = true) → (∀ i, t ≤ i → i < hi → f i = false) →
     ∃ c : Nat, lo ≤ c ∧ c ≤ hi ∧ L fuel s t = k c ∧ (∀ i, lo ≤ i → i < c → f i = true) ∧ (∀ i, c ≤ i → i < hi → f i = false)
 | fuel + 1, s, t, h1, h2, h3, h4, h5, h6 => by
   by_cases hst : s = t
   · subst hst
     exact ⟨s, h1, h3, he _ _, h5, h6⟩
   · rw [hs fuel s t h1 (by omega) h3]
     by_cases hf : f ((s + t) / 2) = true
     · rw [if_pos hf]
       exact bsearchN f L k lo hi mono hs he fuel _ t (by omega) (by omega) h3 (by omega) (fun i hi1 hi2 => mono i ((s + t) / 2) hi1 (by omega) (by omega) hf) h6
     · rw [if_neg hf]
       refine bsearchN f L k lo hi mono hs he fuel s _ h1 (by omega) (by omega) (by omega) h5 (fun i hi1 hi2 => ?_)
       cases hfi : f i with
       | false => rfl
       | true => exact absurd (mono _ i (by omega) hi1 hi2 hfi) hf
end Go.Proofs.YtjiddcchklaiiaaGreatDoor


/- The printed stable sort of nodes, plainly: two parts that are in order become one. -/
namespace Go.Proofs.YtjiddcchklaiiaaGreatDoor
set_option linter.unusedVariables false
set_option linter.unusedSimpArgs false
open Go Go.RowKit
abbrev LN : Type := List NodeD
theorem geti_natS {α : Type} (w : List α) (i : Nat) : geti w (i : Int) = w[i]? := by
 unfold geti
 rw [if_pos (Int.natCast_nonneg _), Int.toNat_natCast]
theorem in_nat {α : Type} (w : List α) (i : Nat) (h : i < w.length) : decide (0 ≤ (i : Int) ∧ (i : Int) < (w.length : Int)) = true := decide_eq_true ⟨Int.natCast_nonneg _, by omega⟩
def ltAt (w : LN) (i j : Nat) : Bool := match w[i]?, w[j]? with
 | some x, some y => decide (x.1 < y.1)
 | _, _ => false
theorem ltAt_eq {w : LN} {i j : Nat} (hi : i < w.length) (hj : j < w.length) : ltAt w i j = decide (w[i].1 < w[j].1) := by
 unfold ltAt
 rw [List.getElem?_eq_getElem hi, List.getElem?_eq_getElem hj]
section
variable {N : Nat} {r : Int → Int → Int → Unit → LN → Option LN} {w : LN}
theorem srch0 (a lo hi : Nat) (ha : a < w.length) (hh : hi ≤ w.length) (h6 : w.length ≤ 1000000) (hl : lo ≤ hi) (hN : 1000000 < N) (mono : ∀ i j, lo ≤ i → i ≤ j → j < hi → ltAt w j a = true → ltAt w i a = true) :
   ∃ c : Nat, lo ≤ c ∧ c ≤ hi ∧ (∀ k, z2L0 N r a w k N lo hi = k c) ∧ (∀ i, lo ≤ i → i < c → ltAt w i a = true) ∧ (∀ i, c ≤ i → i < hi → ltAt w i a = false) := by
 obtain ⟨c, h1, h2, h3, h4, h5⟩ := bsearchN (fun i => ltAt w i a) (fun n s t => fun k => z2L0 N r a w k n s t) (fun s => fun k => k s) lo hi mono (fun n s t h1 h2 h3 => by
   funext k
   rw [z2L0]
   unfold z2L0T
   rw [mid_eq s t (by omega), decide_eq_true (by omega), br_true, decide_eq_true (by decide), br_true, in_nat w _ (by omega), br_true, geti_natS, List.getElem?_eq_getElem (by omega), bnd_some, in_nat w _ ha, br_true, geti_natS, List.getElem?_eq_getElem ha, bnd_some]
   obtain ⟨x, e1, e2⟩ := cmp_node N (w[(s + t) / 2]'(by omega)) w[a]
   rw [e1, bnd_some, e2, ← ltAt_eq (by omega) ha, w64 _ (by omega) (by omega)]
   cases ltAt w ((s + t) / 2) a <;> simp) (fun n s => by
   funext k
   rw [z2L0]
   unfold z2L0T
   rw [decide_eq_false (by omega), br_false]) N lo hi (Nat.le_refl _) hl (Nat.le_refl _) (by omega) (fun i h1 h2 => by omega) (fun i h1 h2 => by omega)
 exact ⟨c, h1, h2, fun k => congrFun h3 k, h4, h5⟩
theorem srch2 (m lo hi : Nat) (ha : m < w.length) (hh : hi ≤ w.length) (h6 : w.length ≤ 1000000) (hl : lo ≤ hi) (hN : 1000000 < N) (mono : ∀ i j, lo ≤ i → i ≤ j → j < hi → (!ltAt w m j) = true → (!ltAt w m i) = true) :
   ∃ c : Nat, lo ≤ c ∧ c ≤ hi ∧ (∀ k, z2L2 N r m w k N lo hi = k c) ∧ (∀ i, lo ≤ i → i < c → (!ltAt w m i) = true) ∧ (∀ i, c ≤ i → i < hi → (!ltAt w m i) = false) := by
 obtain ⟨c, h1, h2, h3, h4, h5⟩ := bsearchN (fun i => !ltAt w m i) (fun n s t => fun k => z2L2 N r m w k n s t) (fun s => fun k => k s) lo hi mono (fun n s t h1 h2 h3 => by
   funext k
   rw [z2L2]
   unfold z2L2T
   rw [mid_eq s t (by omega), decide_eq_true (by omega), br_true, decide_eq_true (by decide), br_true, in_nat w _ ha, br_true, geti_natS w m, List.getElem?_eq_getElem ha, bnd_some, in_nat w _ (by omega), br_true, geti_natS, List.getElem?_eq_getElem (by omega), bnd_some]
   obtain ⟨x, e1, e2⟩ := cmp_node N w[m] (w[(s + t) / 2]'(by omega))
   rw [e1, bnd_some, e2, ← ltAt_eq ha (by omega), w64 _ (by omega) (by omega)]
   cases ltAt w m ((s + t) / 2) <;> simp) (fun n s => by
   funext k
   rw [z2L2]
   unfold z2L2T
   rw [decide_eq_false (by omega), br_false]) N lo hi (Nat.le_refl _) hl (Nat.le_refl _) (by omega) (fun i h1 h2 => by omega) (fun i h1 h2 => by omega)
 exact ⟨c, h1, h2, fun k => congrFun h3 k, h4, h5⟩
theorem srch4 (p lo hi : Nat) (hp : hi ≤ p + 1) (hpl : p - lo < w.length) (hh : hi ≤ w.length) (h6 : w.length ≤ 1000000) (hl : lo ≤ hi) (hlp : p ≤ 2000000) (hN : 1000000 < N) (mono : ∀ i j, lo ≤ i → i ≤ j → j < hi → (!ltAt w (p - j) j) = true → (!ltAt w (p - i) i) = true) :
   ∃ c : Nat, lo ≤ c ∧ c ≤ hi ∧ (∀ k, z2L4 N r p w k N lo hi = k c) ∧ (∀ i, lo ≤ i → i < c → (!ltAt w (p - i) i) = true) ∧ (∀ i, c ≤ i → i < hi → (!ltAt w (p - i) i) = false) := by
 obtain ⟨c, h1, h2, h3, h4, h5⟩ := bsearchN (fun i => !ltAt w (p - i) i) (fun n s t => fun k => z2L4 N r p w k n s t) (fun s => fun k => k s) lo hi mono (fun n s t h1 h2 h3 => by
   funext k
   rw [z2L4]
   unfold z2L4T
   have e : IntKind.i64.wrap ((p : Int) - (((s + t) / 2 : Nat) : Int)) = ((p - (s + t) / 2 : Nat) : Int) := by rw [w64 _ (by omega) (by omega)]; omega
   rw [mid_eq s t (by omega), e, decide_eq_true (by omega), br_true, decide_eq_true (by decide), br_true, in_nat w _ (by omega), br_true, geti_natS w (p - (s + t) / 2), List.getElem?_eq_getElem (by omega), bnd_some, in_nat w _ (by omega), br_true, geti_natS, List.getElem?_eq_getElem (by omega), bnd_some]
   obtain ⟨x, e1, e2⟩ := cmp_node N (w[p - (s + t) / 2]'(by omega)) (w[(s + t) / 2]'(by omega))
   rw [e1, bnd_some, e2, ← ltAt_eq (by omega) (by omega), w64 _ (by omega) (by omega)]
   cases ltAt w (p - (s + t) / 2) ((s + t) / 2) <;> simp) (fun n s => by
   funext k
   rw [z2L4]
   unfold z2L4T
   rw [decide_eq_false (by omega), br_false]) N lo hi (Nat.le_refl _) hl (Nat.le_refl _) (by omega) (fun i h1 h2 => by omega) (fun i h1 h2 => by omega)
 exact ⟨c, h1, h2, fun k => congrFun h3 k, h4, h5⟩
theorem fwd (k2 : LN → Option LN) (x : NodeD) (R : LN) (o : Int) : ∀ (B P : LN) (fuel : Nat) (s : Int), s = (P.length : Int) → o - 1 = ((P.length + B.length : Nat) : Int) → B.length < fuel → P.length + B.length ≤ 1000000 →
   z2L1 N r o k2 fuel s (P ++ x :: (B ++ R)) = k2 (P ++ (B ++ x :: R))
 | [], P, fuel + 1, s, h1, h2, h3, h4 => by
   rw [z2L1]
   unfold z2L1T
   simp only [List.length_nil, Nat.add_zero] at h2
   rw [w64 (o - 1) (by omega) (by omega), decide_eq_false (by omega), br_false]
   rfl
 | y :: B, P, fuel + 1, s, h1, h2, h3, h4 => by
   simp only [List.length_cons] at h2 h3 h4
   rw [z2L1]
   unfold z2L1T
   obtain ⟨g1, g2, b1, b2, b3, b4, s1, s2, g3, g4, l1, l2⟩ := swap_two (R := Unit) P [] (B ++ R) x y s (s + 1) h1 (by simp; omega)
   have e : P ++ x :: (y :: B ++ R) = P ++ x :: ([] ++ y :: (B ++ R)) := by simp
   rw [e, w64 (o - 1) (by omega) (by omega), w64 (s + 1) (by omega) (by omega), decide_eq_true (by omega), br_true, decide_eq_true ⟨b3, b4⟩, br_true, decide_eq_true ⟨b1, b2⟩, br_true, g1, g2]
   simp only [bnd_some, g1, l1, decide_eq_true (And.intro b1 b2), decide_eq_true (And.intro b3 b4), br_true, g3, s1, both_self]
   have ih := fwd k2 x R o B (P ++ [y]) fuel (s + 1) (by simp; omega) (by simp; omega) (by omega) (by simp; omega)
   rw [show P ++ y :: ([] ++ x :: (B ++ R)) = P ++ [y] ++ x :: (B ++ R) by simp, ih]
   simp
theorem bwd (k6 : LN → Option LN) (y : NodeD) (P : LN) (o : Int) (ho : o = (P.length : Int)) : ∀ (n : Nat) (A R : LN) (fuel : Nat) (s : Int), A.length = n → s = ((P.length + A.length : Nat) : Int) → A.length < fuel → P.length + A.length ≤ 1000000 →
   z2L3 N r o k6 fuel s (P ++ (A ++ y :: R)) = k6 (P ++ y :: (A ++ R))
 | 0, A, R, fuel + 1, s, hn, h1, h2, h3 => by
   obtain rfl := List.eq_nil_of_length_eq_zero hn
   rw [z2L3]
   unfold z2L3T
   simp only [List.length_nil, Nat.add_zero] at h1
   rw [decide_eq_false (by omega), br_false]
   rfl
 | n + 1, A, R, fuel + 1, s, hn, h1, h2, h3 => by
   obtain ⟨A, z, rfl⟩ : ∃ S z, A = S ++ [z] := by
     rcases List.eq_nil_or_concat A with h | ⟨S, z, h⟩
     · rw [h] at hn; simp at hn
     · exact ⟨S, z, by rw [h, List.concat_eq_append]⟩
   rw [List.length_append] at hn h1 h2 h3
   simp only [List.length_singleton] at hn h1 h2 h3
   rw [z2L3]
   unfold z2L3T
   obtain ⟨g1, g2, b1, b2, b3, b4, s1, s2, g3, g4, l1, l2⟩ := swap_two (R := Unit) (P ++ A) [] R z y (s - 1) s (by rw [List.length_append]; omega) (by rw [List.length_append]; simp; omega)
   have e : P ++ (A ++ [z] ++ y :: R) = (P ++ A) ++ z :: ([] ++ y :: R) := by simp
   rw [e, w64 (s - 1) (by omega) (by omega), decide_eq_true (by omega), br_true, decide_eq_true ⟨b1, b2⟩, br_true, decide_eq_true ⟨b3, b4⟩, br_true, g1, g2]
   simp only [bnd_some, g2, l2, decide_eq_true (And.intro b1 b2), decide_eq_true (And.intro b3 b4), br_true, g4, s2, both_self]
   have ih := bwd k6 y P o ho n A (z :: R) fuel (s - 1) (by omega) (by omega) (by omega) (by omega)
   rw [show (P ++ A) ++ y :: ([] ++ z :: R) = P ++ (A ++ y :: (z :: R)) by simp, ih]
   simp
end
end Go.Proofs.YtjiddcchklaiiaaGreatDoor

