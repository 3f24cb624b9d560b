/- What functions of the program compute, as plain functions (printed). -/
import Derived.Test.YtjiddcchklaiiaaGreatDoorQTsT
namespace Go.Proofs.YtjiddcchklaiiaaGreatDoor
open Go Go.RowKit
abbrev FF : Nat → Bool := fun _ => false
abbrev hint0 : Hint := ⟨[], [], [], [], [], []⟩
abbrev FnOk (fn : FuncId → Option Tmp → Option AF) : Prop := ∀ f q F, fn f q = some F → Sound Tryz.prog GW B0G f F
abbrev Snd : FuncId → AF → Prop := Sound Tryz.prog GW B0G
theorem sndL {h : Nat → Hint} {fn : FuncId → Option Tmp → Option AF} (ok : FnOk fn) {f : FuncId} {g : Func} {c : Code} (hf : Tryz.prog.funcs[f]? = some g) (hb : g.body = some c)
  (hcall : ∀ (args : Array Value) (w : World), (callFunc f args).run Tryz.prog w = .ok (.enter f args) w) (F : AF) (pk : SV F.rs → BV F.cs → F.R) (hpk : ∀ x y, F.out (pk x y) = (x, y)) (N : Nat)
  (LP : Nat → Code → St → (Ex → St → Option F.R) → Option F.R) (hl : LoopsOk LP (mkE h fn FF FF) N (resD (mkE h fn FF FF) g F pk) (loops (bodyOf g) 0))
  (core : ∀ x y, runL (mkE h fn FF FF) g F pk LP x y = F.f x y) (hkp : keptF F.bs F.cs = false := by rfl) : Snd f F :=
 runD_sound (mkE_ok h fn _ _ ok) hf hb hcall F pk hpk N (fun x y _ e => ((runL_eq (mkE h fn FF FF) N g F pk LP hl x y).trans (core x y)).trans e) hkp
end Go.Proofs.YtjiddcchklaiiaaGreatDoor
namespace Go.Proofs.YtjiddcchklaiiaaGreatDoor
open Go Go.RowKit
set_option maxRecDepth 100000
set_option linter.unusedVariables false
noncomputable section
def blob_nodes_1 (_N : Nat) (x0 : Str × (Option τ2) × List τ2) (x1 : Str × (Option τ2) × List τ2) : Option Int :=
 bnd (strings_Compare x0.1 x1.1) fun t9 =>
 some t9
abbrev z40sg (f : SV [.v τ1, .v τ1] → BV [] → Option (Int)) : AF := { ps := [.v τ1, .v τ1], bs := [], rs := [.v τ5], cs := [], R := Int, out := fun z => ((z, ()), ()), f := f }
noncomputable abbrev z40g (N : Nat) : AF := z40sg fun x _ => blob_nodes_1 N x.1 x.2.1
abbrev z40pk : SV [.v τ5] → BV [] → Int := fun x _ => x.1
def z40fn (_N : Nat) : FuncId → Option Tmp → Option AF := fun f _ =>
 match f with
  | 18 => some (z28sg fun x _ => strings_Compare x.1 x.2.1)
  | _ => none
theorem z40fn_ok (N : Nat) : FnOk (z40fn N) := by
 intro f q F h
 unfold z40fn at h
 split at h
 · cases h; exact z28sound
 · cases h
def z40h : Nat → Hint := fun i =>
 match i with
 | _ => hint0
abbrev z40E (N : Nat) : Env := mkE z40h (z40fn N) FF FF
noncomputable def z40LP (N : Nat) : Nat → Code → St → (Ex → St → Option Int) → Option Int := fun i c =>
 match i with
 | i => fun st k => iter (z40h i) (exec (z40E N) N c i) N st k
theorem z40core (N : Nat) (x : SV [.v τ1, .v τ1]) (y : BV []) : runL (z40E N) Tryz.f55 (z40g N) z40pk (z40LP N) x y = blob_nodes_1 N x.1 x.2.1 := by kernel_rfl
theorem z40sound (N : Nat) : Snd 55 (z40g N) :=
 sndL (z40fn_ok N) Tryz.func55 rfl Tryz.call55 (z40g N) z40pk (fun _ _ => rfl) N (z40LP N) (show LoopsOk (z40LP N) (z40E N) N (resD (z40E N) Tryz.f55 (z40g N) z40pk) [] from trivial) (z40core N)
def z1L1T (N : Nat) (x1 : Int) (k2 : τ6 → Option τ6) (self : Int → τ6 → Option τ6) (s9 : Int) (w0_2 : List τ0) : Option τ6 :=
 br (decide (s9 > x1))
  (br (decide (0 ≤ s9 ∧ s9 < (w0_2.length : Int)))
   (bnd (geti w0_2 s9) fun t26 =>
   br (decide (0 ≤ (IntKind.i64.wrap (s9 - (1 : Int))) ∧ (IntKind.i64.wrap (s9 - (1 : Int))) < (w0_2.length : Int)))
    (bnd (geti w0_2 (IntKind.i64.wrap (s9 - (1 : Int)))) fun t31 =>
    bnd (blob_nodes_1 N t26 t31) fun t32 =>
    br (decide (t32 < (0 : Int)))
     (br (decide (0 ≤ (IntKind.i64.wrap (s9 - (1 : Int))) ∧ (IntKind.i64.wrap (s9 - (1 : Int))) < (w0_2.length : Int)))
      (br (decide (0 ≤ s9 ∧ s9 < (w0_2.length : Int)))
       (both
        (bnd (geti w0_2 (IntKind.i64.wrap (s9 - (1 : Int)))) fun t46 =>
        bnd (geti w0_2 s9) fun t50 =>
        br (decide (0 ≤ s9 ∧ s9 < (w0_2.length : Int)))
         (bnd (geti w0_2 s9) fun _ =>
         br (decide (0 ≤ (IntKind.i64.wrap (s9 - (1 : Int))) ∧ (IntKind.i64.wrap (s9 - (1 : Int))) < ((seti w0_2 s9 t46).length : Int)))
          (bnd (geti (seti w0_2 s9 t46) (IntKind.i64.wrap (s9 - (1 : Int)))) fun _ =>
          self (IntKind.i64.wrap (s9 - (1 : Int))) (seti (seti w0_2 s9 t46) (IntKind.i64.wrap (s9 - (1 : Int))) t50))
          none)
         none)
        (bnd (geti w0_2 s9) fun t50 =>
        bnd (geti w0_2 (IntKind.i64.wrap (s9 - (1 : Int)))) fun t46 =>
        br (decide (0 ≤ s9 ∧ s9 < (w0_2.length : Int)))
         (bnd (geti w0_2 s9) fun _ =>
         br (decide (0 ≤ (IntKind.i64.wrap (s9 - (1 : Int))) ∧ (IntKind.i64.wrap (s9 - (1 : Int))) < ((seti w0_2 s9 t46).length : Int)))
          (bnd (geti (seti w0_2 s9 t46) (IntKind.i64.wrap (s9 - (1 : Int)))) fun _ =>
          self (IntKind.i64.wrap (s9 - (1 : Int))) (seti (seti w0_2 s9 t46) (IntKind.i64.wrap (s9 - (1 : Int))) t50))
          none)
         none))
       none)
      none)
     (k2 w0_2))
    none)
   none)
  (k2 w0_2)
def z1L1 (N : Nat) (x1 : Int) (k2 : τ6 → Option τ6) : Nat → Int → τ6 → Option τ6
 | 0, _, _ => none
 | n + 1, s9, w0_2 => z1L1T N x1 k2 (z1L1 N x1 k2 n) s9 w0_2
def z1L0T (N : Nat) (x1 : Int) (x2 : Int) (k0 : τ6 → Option τ6) (self : Int → τ6 → Option τ6) (s8 : Int) (w0_1 : List τ0) : Option τ6 :=
 br (decide (s8 < x2))
  (z1L1 N x1 (fun o1_w0 =>
    self (IntKind.i64.wrap (s8 + (1 : Int))) o1_w0) N s8 w0_1)
  (k0 w0_1)
def z1L0 (N : Nat) (x1 : Int) (x2 : Int) (k0 : τ6 → Option τ6) : Nat → Int → τ6 → Option τ6
 | 0, _, _ => none
 | n + 1, s8, w0_1 => z1L0T N x1 x2 k0 (z1L0 N x1 x2 k0 n) s8 w0_1
def slices_insertionSortCmpFunc_blob_node (N : Nat) (x1 : Int) (x2 : Int) (_x3 : Unit) (w0 : List τ0) : Option τ6 :=
 z1L0 N x1 x2 (fun o0_w0 =>
   some o0_w0) N (IntKind.i64.wrap (x1 + (1 : Int))) w0
abbrev z1sg (f : SV [.row 0, .v τ5, .v τ5, .v (.clo 55 .un)] → BV [.row 81 τ1 true] → Option τ6) : AF := { ps := [.row 0, .v τ5, .v τ5, .v (.clo 55 .un)], bs := [.row 81 τ1 true], rs := [], cs := [.row 81 τ1 true], R := List τ0, out := fun z => ((), (z, ())), f := f }
noncomputable abbrev z1g (N : Nat) : AF := z1sg fun x y => slices_insertionSortCmpFunc_blob_node N x.2.1 x.2.2.1 x.2.2.2.1 y.1
abbrev z1pk : SV [] → BV [.row 81 τ1 true] → τ6 := fun _ y => y.1
def z1fn (N : Nat) : FuncId → Option Tmp → Option AF := fun f _ =>
 match f with
  | 55 => some (z40g N)
  | _ => none
theorem z1fn_ok (N : Nat) : FnOk (z1fn N) := by
 intro f q F h
 unfold z1fn at h
 split at h
 · cases h; exact z40sound N
 · cases h
def z1h : Nat → Hint := fun i =>
 match i with
 | 0 => ⟨[], [0, 1, 2, 3, 8], [0], [], [0], []⟩
 | 2 => ⟨[], [0, 1, 2, 3, 8, 9], [0], [0, 1, 2, 3, 8], [0], []⟩
 | 100004 => ⟨[0], [1], [], [], [], []⟩
 | 100006 => ⟨[], [1, 2], [], [], [], []⟩
 | _ => hint0
abbrev z1E (N : Nat) : Env := mkE z1h (z1fn N) FF FF
noncomputable abbrev z1c1 : Code := cAt (bodyOf Tryz.f115) [true, false, false]
noncomputable abbrev z1c0 : Code := cAt (bodyOf Tryz.f115) [true, false, false, true, false, false, true, false, false]
noncomputable abbrev z1R (N : Nat) := resD (z1E N) Tryz.f115 (z1g N) z1pk
abbrev z1L1_fs : List (Nat × Sl) := [(0, .row 0), (1, .v τ5), (2, .v τ5), (3, .v (.clo 55 .un)), (8, .v τ5), (9, .v τ5)]
abbrev z1L1_bs : List (Nat × Sb) := [(0, .row 81 τ1 true)]
def z1L1_hd (x1 : Int) (x2 : Int) (x3 : Unit) (s8 : Int) (s9 : Int) (w0_2 : List τ0) : St := ⟨53, [(0, .row 0), (1, .v τ5 x1), (2, .v τ5 x2), (3, .v (.clo 55 .un) x3), (8, .v τ5 s8), (9, .v τ5 s9)], [(0, .row 81 τ1 true w0_2)]⟩
def z1L1_tl2 (x1 : Int) (x2 : Int) (x3 : Unit) (s8 : Int) (o1_w0 : List τ0) : St := ⟨53, [(0, .row 0), (1, .v τ5 x1), (2, .v τ5 x2), (3, .v (.clo 55 .un) x3), (8, .v τ5 s8)], [(0, .row 81 τ1 true o1_w0)]⟩
def z1L1_G (N : Nat) (x1 : Int) (x2 : Int) (x3 : Unit) (s8 : Int) (s9 : Int) (w0_2 : List τ0) (k : Ex → St → Option τ6) : Option τ6 :=
 z1L1 N x1 (fun o1_w0 => k (.exit 2) (z1L1_tl2 x1 x2 x3 s8 o1_w0)) N s9 w0_2
abbrev z1L1_F (N : Nat) : FV z1L1_fs → HV z1L1_bs → (Ex → St → Option τ6) → Option τ6 := fun x y k => z1L1_G N x.2.1 x.2.2.1 x.2.2.2.1 x.2.2.2.2.1 x.2.2.2.2.2.1 y.1 k
abbrev z1L0_fs : List (Nat × Sl) := [(0, .row 0), (1, .v τ5), (2, .v τ5), (3, .v (.clo 55 .un)), (8, .v τ5)]
abbrev z1L0_bs : List (Nat × Sb) := [(0, .row 81 τ1 true)]
def z1L0_hd (x1 : Int) (x2 : Int) (x3 : Unit) (s8 : Int) (w0_1 : List τ0) : St := ⟨53, [(0, .row 0), (1, .v τ5 x1), (2, .v τ5 x2), (3, .v (.clo 55 .un) x3), (8, .v τ5 s8)], [(0, .row 81 τ1 true w0_1)]⟩
def z1L0_tl0 (_x1 : Int) (_x2 : Int) (_x3 : Unit) (o0_w0 : List τ0) : St := ⟨53, [], [(0, .row 81 τ1 true o0_w0)]⟩
def z1L0_G (N : Nat) (x1 : Int) (x2 : Int) (x3 : Unit) (s8 : Int) (w0_1 : List τ0) (k : Ex → St → Option τ6) : Option τ6 :=
 z1L0 N x1 x2 (fun o0_w0 => k (.exit 0) (z1L0_tl0 x1 x2 x3 o0_w0)) N s8 w0_1
abbrev z1L0_F (N : Nat) : FV z1L0_fs → HV z1L0_bs → (Ex → St → Option τ6) → Option τ6 := fun x y k => z1L0_G N x.2.1 x.2.2.1 x.2.2.2.1 x.2.2.2.2.1 y.1 k
noncomputable def z1LP (N : Nat) : Nat → Code → St → (Ex → St → Option τ6) → Option τ6 := fun i c =>
 match i with
 | 0 => (LPc 53 z1L0_fs z1L0_bs (z1L0_F N) (fun st k => iter (z1h 0) (exec (z1E N) N c 0) N st k))
 | 2 => (LPc 53 z1L1_fs z1L1_bs (z1L1_F N) (fun st k => iter (z1h 2) (exec (z1E N) N c 2) N st k))
 | i => fun st k => iter (z1h i) (exec (z1E N) N c i) N st k
theorem z1L1_step (N : Nat) (x1 : Int) (x2 : Int) (x3 : Unit) (s8 : Int) (KX : Nat → St → Option τ6) (I : St → Option τ6) (s9 : Int) (w0_2 : List τ0) :
  execL (z1LP N) (z1E N) z1c0 2 (z1L1_hd x1 x2 x3 s8 s9 w0_2) (roundK (z1h 2) I KX (z1R N)) = z1L1T N x1 (fun o1_w0 => KX 2 (z1L1_tl2 x1 x2 x3 s8 o1_w0)) (fun s9 w0_2 => I (z1L1_hd x1 x2 x3 s8 s9 w0_2)) s9 w0_2 := by kernel_rfl
theorem z1L1_ok (N : Nat) : ∀ x y k, (∀ st, k .ret st = (z1R N) st) → iter (z1h 2) (exec (z1E N) N z1c0 2) N ⟨53, unF z1L1_fs x, unH z1L1_bs y⟩ k = z1L1_F N x y k := fun x y k hk =>
 iter_link (S := (Int) × τ6 × Unit) (z1h 2) _ (execL (z1LP N) (z1E N) z1c0 2) (z1R N) (fun st k hk => execL_eq _ _ N _ z1c0 2 (show LoopsOk (z1LP N) (z1E N) N (z1R N) [] from trivial) st k hk) (fun s => z1L1_hd x.2.1 x.2.2.1 x.2.2.2.1 x.2.2.2.2.1 s.1 s.2.1) k hk
  (fun self s => z1L1T N x.2.1 (fun o1_w0 => k (.exit 2) (z1L1_tl2 x.2.1 x.2.2.1 x.2.2.2.1 x.2.2.2.2.1 o1_w0)) (fun s9 w0_2 => self (s9, w0_2, ())) s.1 s.2.1) (fun n s => z1L1 N x.2.1 (fun o1_w0 => k (.exit 2) (z1L1_tl2 x.2.1 x.2.2.1 x.2.2.2.1 x.2.2.2.2.1 o1_w0)) n s.1 s.2.1) (fun _ => rfl) (fun _ _ => rfl)
  (fun I s => z1L1_step N x.2.1 x.2.2.1 x.2.2.2.1 x.2.2.2.2.1 (fun j => k (.exit j)) I s.1 s.2.1) N (x.2.2.2.2.2.1, y.1, ())
theorem z1lp2 (N : Nat) : ∀ st k, (∀ st, k .ret st = (z1R N) st) → z1LP N 2 z1c0 st k = iter (Env.hint (z1E N) 2) (exec (z1E N) N z1c0 2) N st k := fun st k hk => LPc_eq 53 z1L1_fs z1L1_bs _ _ (z1R N) (z1L1_ok N) _ st k hk (rfl)
theorem z1L0_step (N : Nat) (x1 : Int) (x2 : Int) (x3 : Unit) (KX : Nat → St → Option τ6) (I : St → Option τ6) (s8 : Int) (w0_1 : List τ0) :
  execL (z1LP N) (z1E N) z1c1 0 (z1L0_hd x1 x2 x3 s8 w0_1) (roundK (z1h 0) I KX (z1R N)) = z1L0T N x1 x2 (fun o0_w0 => KX 0 (z1L0_tl0 x1 x2 x3 o0_w0)) (fun s8 w0_1 => I (z1L0_hd x1 x2 x3 s8 w0_1)) s8 w0_1 := by kernel_rfl
theorem z1L0_ok (N : Nat) : ∀ x y k, (∀ st, k .ret st = (z1R N) st) → iter (z1h 0) (exec (z1E N) N z1c1 0) N ⟨53, unF z1L0_fs x, unH z1L0_bs y⟩ k = z1L0_F N x y k := fun x y k hk =>
 iter_link (S := (Int) × τ6 × Unit) (z1h 0) _ (execL (z1LP N) (z1E N) z1c1 0) (z1R N) (fun st k hk => execL_eq _ _ N _ z1c1 0 (show LoopsOk (z1LP N) (z1E N) N (z1R N) [(2, z1c0)] from ⟨z1lp2 N, trivial⟩) st k hk) (fun s => z1L0_hd x.2.1 x.2.2.1 x.2.2.2.1 s.1 s.2.1) k hk
  (fun self s => z1L0T N x.2.1 x.2.2.1 (fun o0_w0 => k (.exit 0) (z1L0_tl0 x.2.1 x.2.2.1 x.2.2.2.1 o0_w0)) (fun s8 w0_1 => self (s8, w0_1, ())) s.1 s.2.1) (fun n s => z1L0 N x.2.1 x.2.2.1 (fun o0_w0 => k (.exit 0) (z1L0_tl0 x.2.1 x.2.2.1 x.2.2.2.1 o0_w0)) n s.1 s.2.1) (fun _ => rfl) (fun _ _ => rfl)
  (fun I s => z1L0_step N x.2.1 x.2.2.1 x.2.2.2.1 (fun j => k (.exit j)) I s.1 s.2.1) N (x.2.2.2.2.1, y.1, ())
theorem z1lp0 (N : Nat) : ∀ st k, (∀ st, k .ret st = (z1R N) st) → z1LP N 0 z1c1 st k = iter (Env.hint (z1E N) 0) (exec (z1E N) N z1c1 0) N st k := fun st k hk => LPc_eq 53 z1L0_fs z1L0_bs _ _ (z1R N) (z1L0_ok N) _ st k hk (rfl)
theorem z1core (N : Nat) (x : SV [.row 0, .v τ5, .v τ5, .v (.clo 55 .un)]) (y : BV [.row 81 τ1 true]) : runL (z1E N) Tryz.f115 (z1g N) z1pk (z1LP N) x y = slices_insertionSortCmpFunc_blob_node N x.2.1 x.2.2.1 x.2.2.2.1 y.1 := by kernel_rfl
theorem z1sound (N : Nat) : Snd 115 (z1g N) :=
 sndL (z1fn_ok N) Tryz.func115 rfl Tryz.call115 (z1g N) z1pk (fun _ _ => rfl) N (z1LP N) (show LoopsOk (z1LP N) (z1E N) N (z1R N) [(0, z1c1), (2, z1c0)] from ⟨z1lp0 N, z1lp2 N, trivial⟩) (z1core N)
def z3L0T (_N : Nat) (x1 : Int) (x2 : Int) (x3 : Int) (k0 : τ6 → Option τ6) (self : Int → τ6 → Option τ6) (s10 : Int) (w0_1 : List τ0) : Option τ6 :=
 br (decide (s10 < x3))
  (br (decide (0 ≤ (IntKind.i64.wrap (x2 + s10)) ∧ (IntKind.i64.wrap (x2 + s10)) < (w0_1.length : Int)))
   (br (decide (0 ≤ (IntKind.i64.wrap (x1 + s10)) ∧ (IntKind.i64.wrap (x1 + s10)) < (w0_1.length : Int)))
    (both
     (bnd (geti w0_1 (IntKind.i64.wrap (x2 + s10))) fun t29 =>
     bnd (geti w0_1 (IntKind.i64.wrap (x1 + s10))) fun t35 =>
     br (decide (0 ≤ (IntKind.i64.wrap (x1 + s10)) ∧ (IntKind.i64.wrap (x1 + s10)) < (w0_1.length : Int)))
      (bnd (geti w0_1 (IntKind.i64.wrap (x1 + s10))) fun _ =>
      br (decide (0 ≤ (IntKind.i64.wrap (x2 + s10)) ∧ (IntKind.i64.wrap (x2 + s10)) < ((seti w0_1 (IntKind.i64.wrap (x1 + s10)) t29).length : Int)))
       (bnd (geti (seti w0_1 (IntKind.i64.wrap (x1 + s10)) t29) (IntKind.i64.wrap (x2 + s10))) fun _ =>
       self (IntKind.i64.wrap (s10 + (1 : Int))) (seti (seti w0_1 (IntKind.i64.wrap (x1 + s10)) t29) (IntKind.i64.wrap (x2 + s10)) t35))
       none)
      none)
     (bnd (geti w0_1 (IntKind.i64.wrap (x1 + s10))) fun t35 =>
     bnd (geti w0_1 (IntKind.i64.wrap (x2 + s10))) fun t29 =>
     br (decide (0 ≤ (IntKind.i64.wrap (x1 + s10)) ∧ (IntKind.i64.wrap (x1 + s10)) < (w0_1.length : Int)))
      (bnd (geti w0_1 (IntKind.i64.wrap (x1 + s10))) fun _ =>
      br (decide (0 ≤ (IntKind.i64.wrap (x2 + s10)) ∧ (IntKind.i64.wrap (x2 + s10)) < ((seti w0_1 (IntKind.i64.wrap (x1 + s10)) t29).length : Int)))
       (bnd (geti (seti w0_1 (IntKind.i64.wrap (x1 + s10)) t29) (IntKind.i64.wrap (x2 + s10))) fun _ =>
       self (IntKind.i64.wrap (s10 + (1 : Int))) (seti (seti w0_1 (IntKind.i64.wrap (x1 + s10)) t29) (IntKind.i64.wrap (x2 + s10)) t35))
       none)
      none))
    none)
   none)
  (k0 w0_1)
def z3L0 (N : Nat) (x1 : Int) (x2 : Int) (x3 : Int) (k0 : τ6 → Option τ6) : Nat → Int → τ6 → Option τ6
 | 0, _, _ => none
 | n + 1, s10, w0_1 => z3L0T N x1 x2 x3 k0 (z3L0 N x1 x2 x3 k0 n) s10 w0_1
def slices_swapRangeCmpFunc_blob_node (N : Nat) (x1 : Int) (x2 : Int) (x3 : Int) (_x4 : Unit) (w0 : List τ0) : Option τ6 :=
 z3L0 N x1 x2 x3 (fun o0_w0 =>
   some o0_w0) N (0 : Int) w0
abbrev z3sg (f : SV [.row 0, .v τ5, .v τ5, .v τ5, .v (.clo 55 .un)] → BV [.row 81 τ1 true] → Option τ6) : AF := { ps := [.row 0, .v τ5, .v τ5, .v τ5, .v (.clo 55 .un)], bs := [.row 81 τ1 true], rs := [], cs := [.row 81 τ1 true], R := List τ0, out := fun z => ((), (z, ())), f := f }
noncomputable abbrev z3g (N : Nat) : AF := z3sg fun x y => slices_swapRangeCmpFunc_blob_node N x.2.1 x.2.2.1 x.2.2.2.1 x.2.2.2.2.1 y.1
abbrev z3pk : SV [] → BV [.row 81 τ1 true] → τ6 := fun _ y => y.1
def z3fn (_N : Nat) : FuncId → Option Tmp → Option AF := fun f _ =>
 match f with
  | _ => none
theorem z3fn_ok (N : Nat) : FnOk (z3fn N) := by
 intro f q F h
 unfold z3fn at h
 split at h
 · cases h
def z3h : Nat → Hint := fun i =>
 match i with
 | 0 => ⟨[], [0, 1, 2, 3, 10], [0], [], [0], []⟩
 | 100003 => ⟨[], [1, 2], [], [], [], []⟩
 | _ => hint0
abbrev z3E (N : Nat) : Env := mkE z3h (z3fn N) FF FF
noncomputable abbrev z3c0 : Code := cAt (bodyOf Tryz.f137) [true, false, false]
noncomputable abbrev z3R (N : Nat) := resD (z3E N) Tryz.f137 (z3g N) z3pk
abbrev z3L0_fs : List (Nat × Sl) := [(0, .row 0), (1, .v τ5), (2, .v τ5), (3, .v τ5), (10, .v τ5)]
abbrev z3L0_bs : List (Nat × Sb) := [(0, .row 81 τ1 true)]
def z3L0_hd (x1 : Int) (x2 : Int) (x3 : Int) (s10 : Int) (w0_1 : List τ0) : St := ⟨38, [(0, .row 0), (1, .v τ5 x1), (2, .v τ5 x2), (3, .v τ5 x3), (10, .v τ5 s10)], [(0, .row 81 τ1 true w0_1)]⟩
def z3L0_tl0 (_x1 : Int) (_x2 : Int) (_x3 : Int) (o0_w0 : List τ0) : St := ⟨38, [], [(0, .row 81 τ1 true o0_w0)]⟩
def z3L0_G (N : Nat) (x1 : Int) (x2 : Int) (x3 : Int) (s10 : Int) (w0_1 : List τ0) (k : Ex → St → Option τ6) : Option τ6 :=
 z3L0 N x1 x2 x3 (fun o0_w0 => k (.exit 0) (z3L0_tl0 x1 x2 x3 o0_w0)) N s10 w0_1
abbrev z3L0_F (N : Nat) : FV z3L0_fs → HV z3L0_bs → (Ex → St → Option τ6) → Option τ6 := fun x y k => z3L0_G N x.2.1 x.2.2.1 x.2.2.2.1 x.2.2.2.2.1 y.1 k
noncomputable def z3LP (N : Nat) : Nat → Code → St → (Ex → St → Option τ6) → Option τ6 := fun i c =>
 match i with
 | 0 => (LPc 38 z3L0_fs z3L0_bs (z3L0_F N) (fun st k => iter (z3h 0) (exec (z3E N) N c 0) N st k))
 | i => fun st k => iter (z3h i) (exec (z3E N) N c i) N st k
theorem z3L0_step (N : Nat) (x1 : Int) (x2 : Int) (x3 : Int) (KX : Nat → St → Option τ6) (I : St → Option τ6) (s10 : Int) (w0_1 : List τ0) :
  execL (z3LP N) (z3E N) z3c0 0 (z3L0_hd x1 x2 x3 s10 w0_1) (roundK (z3h 0) I KX (z3R N)) = z3L0T N x1 x2 x3 (fun o0_w0 => KX 0 (z3L0_tl0 x1 x2 x3 o0_w0)) (fun s10 w0_1 => I (z3L0_hd x1 x2 x3 s10 w0_1)) s10 w0_1 := by kernel_rfl
theorem z3L0_ok (N : Nat) : ∀ x y k, (∀ st, k .ret st = (z3R N) st) → iter (z3h 0) (exec (z3E N) N z3c0 0) N ⟨38, unF z3L0_fs x, unH z3L0_bs y⟩ k = z3L0_F N x y k := fun x y k hk =>
 iter_link (S := (Int) × τ6 × Unit) (z3h 0) _ (execL (z3LP N) (z3E N) z3c0 0) (z3R N) (fun st k hk => execL_eq _ _ N _ z3c0 0 (show LoopsOk (z3LP N) (z3E N) N (z3R N) [] from trivial) st k hk) (fun s => z3L0_hd x.2.1 x.2.2.1 x.2.2.2.1 s.1 s.2.1) k hk
  (fun self s => z3L0T N x.2.1 x.2.2.1 x.2.2.2.1 (fun o0_w0 => k (.exit 0) (z3L0_tl0 x.2.1 x.2.2.1 x.2.2.2.1 o0_w0)) (fun s10 w0_1 => self (s10, w0_1, ())) s.1 s.2.1) (fun n s => z3L0 N x.2.1 x.2.2.1 x.2.2.2.1 (fun o0_w0 => k (.exit 0) (z3L0_tl0 x.2.1 x.2.2.1 x.2.2.2.1 o0_w0)) n s.1 s.2.1) (fun _ => rfl) (fun _ _ => rfl)
  (fun I s => z3L0_step N x.2.1 x.2.2.1 x.2.2.2.1 (fun j => k (.exit j)) I s.1 s.2.1) N (x.2.2.2.2.1, y.1, ())
theorem z3lp0 (N : Nat) : ∀ st k, (∀ st, k .ret st = (z3R N) st) → z3LP N 0 z3c0 st k = iter (Env.hint (z3E N) 0) (exec (z3E N) N z3c0 0) N st k := fun st k hk => LPc_eq 38 z3L0_fs z3L0_bs _ _ (z3R N) (z3L0_ok N) _ st k hk (rfl)
theorem z3core (N : Nat) (x : SV [.row 0, .v τ5, .v τ5, .v τ5, .v (.clo 55 .un)]) (y : BV [.row 81 τ1 true]) : runL (z3E N) Tryz.f137 (z3g N) z3pk (z3LP N) x y = slices_swapRangeCmpFunc_blob_node N x.2.1 x.2.2.1 x.2.2.2.1 x.2.2.2.2.1 y.1 := by kernel_rfl
theorem z3sound (N : Nat) : Snd 137 (z3g N) :=
 sndL (z3fn_ok N) Tryz.func137 rfl Tryz.call137 (z3g N) z3pk (fun _ _ => rfl) N (z3LP N) (show LoopsOk (z3LP N) (z3E N) N (z3R N) [(0, z3c0)] from ⟨z3lp0 N, trivial⟩) (z3core N)
def z6L0T (N : Nat) (x2 : Int) (x4 : Unit) (k0 : Int → τ6 → Option τ6) (self : Int → Int → τ6 → Option τ6) (s10 : Int) (s11 : Int) (w0_1 : List τ0) : Option τ6 :=
 br (s10 != s11)
  (br (decide (s10 > s11))
   (bnd (slices_swapRangeCmpFunc_blob_node N (IntKind.i64.wrap (x2 - s10)) x2 s11 x4 w0_1) fun t31 =>
   self (IntKind.i64.wrap (s10 - s11)) s11 t31)
   (bnd (slices_swapRangeCmpFunc_blob_node N (IntKind.i64.wrap (x2 - s10)) (IntKind.i64.wrap ((IntKind.i64.wrap (x2 + s11)) - s10)) s10 x4 w0_1) fun t46 =>
   self s10 (IntKind.i64.wrap (s11 - s10)) t46))
  (k0 s10 w0_1)
def z6L0 (N : Nat) (x2 : Int) (x4 : Unit) (k0 : Int → τ6 → Option τ6) : Nat → Int → Int → τ6 → Option τ6
 | 0, _, _, _ => none
 | n + 1, s10, s11, w0_1 => z6L0T N x2 x4 k0 (z6L0 N x2 x4 k0 n) s10 s11 w0_1
def slices_rotateCmpFunc_blob_node (N : Nat) (x1 : Int) (x2 : Int) (x3 : Int) (x4 : Unit) (w0 : List τ0) : Option τ6 :=
 z6L0 N x2 x4 (fun o0_10 o0_w0 =>
   bnd (slices_swapRangeCmpFunc_blob_node N (IntKind.i64.wrap (x2 - o0_10)) x2 o0_10 x4 o0_w0) fun t57 =>
   some t57) N (IntKind.i64.wrap (x2 - x1)) (IntKind.i64.wrap (x3 - x2)) w0
abbrev z6sg (f : SV [.row 0, .v τ5, .v τ5, .v τ5, .v (.clo 55 .un)] → BV [.row 81 τ1 true] → Option τ6) : AF := { ps := [.row 0, .v τ5, .v τ5, .v τ5, .v (.clo 55 .un)], bs := [.row 81 τ1 true], rs := [], cs := [.row 81 τ1 true], R := List τ0, out := fun z => ((), (z, ())), f := f }
noncomputable abbrev z6g (N : Nat) : AF := z6sg fun x y => slices_rotateCmpFunc_blob_node N x.2.1 x.2.2.1 x.2.2.2.1 x.2.2.2.2.1 y.1
abbrev z6pk : SV [] → BV [.row 81 τ1 true] → τ6 := fun _ y => y.1
def z6fn (N : Nat) : FuncId → Option Tmp → Option AF := fun f _ =>
 match f with
  | 137 => some (z3g N)
  | _ => none
theorem z6fn_ok (N : Nat) : FnOk (z6fn N) := by
 intro f q F h
 unfold z6fn at h
 split at h
 · cases h; exact z3sound N
 · cases h
def z6h : Nat → Hint := fun i =>
 match i with
 | 0 => ⟨[], [0, 2, 4, 10, 11], [0], [0, 2, 4, 10], [0], []⟩
 | _ => hint0
abbrev z6E (N : Nat) : Env := mkE z6h (z6fn N) FF FF
noncomputable abbrev z6c0 : Code := cAt (bodyOf Tryz.f131) [true, true, false, false, false]
noncomputable abbrev z6R (N : Nat) := resD (z6E N) Tryz.f131 (z6g N) z6pk
abbrev z6L0_fs : List (Nat × Sl) := [(0, .row 0), (2, .v τ5), (4, .v (.clo 55 .un)), (10, .v τ5), (11, .v τ5)]
abbrev z6L0_bs : List (Nat × Sb) := [(0, .row 81 τ1 true)]
def z6L0_hd (x2 : Int) (x4 : Unit) (s10 : Int) (s11 : Int) (w0_1 : List τ0) : St := ⟨58, [(0, .row 0), (2, .v τ5 x2), (4, .v (.clo 55 .un) x4), (10, .v τ5 s10), (11, .v τ5 s11)], [(0, .row 81 τ1 true w0_1)]⟩
def z6L0_tl0 (x2 : Int) (x4 : Unit) (o0_10 : Int) (o0_w0 : List τ0) : St := ⟨58, [(0, .row 0), (2, .v τ5 x2), (4, .v (.clo 55 .un) x4), (10, .v τ5 o0_10)], [(0, .row 81 τ1 true o0_w0)]⟩
def z6L0_G (N : Nat) (x2 : Int) (x4 : Unit) (s10 : Int) (s11 : Int) (w0_1 : List τ0) (k : Ex → St → Option τ6) : Option τ6 :=
 z6L0 N x2 x4 (fun o0_10 o0_w0 => k (.exit 0) (z6L0_tl0 x2 x4 o0_10 o0_w0)) N s10 s11 w0_1
abbrev z6L0_F (N : Nat) : FV z6L0_fs → HV z6L0_bs → (Ex → St → Option τ6) → Option τ6 := fun x y k => z6L0_G N x.2.1 x.2.2.1 x.2.2.2.1 x.2.2.2.2.1 y.1 k
noncomputable def z6LP (N : Nat) : Nat → Code → St → (Ex → St → Option τ6) → Option τ6 := fun i c =>
 match i with
 | 0 => (LPc 58 z6L0_fs z6L0_bs (z6L0_F N) (fun st k => iter (z6h 0) (exec (z6E N) N c 0) N st k))
 | i => fun st k => iter (z6h i) (exec (z6E N) N c i) N st k
theorem z6L0_step (N : Nat) (x2 : Int) (x4 : Unit) (KX : Nat → St → Option τ6) (I : St → Option τ6) (s10 : Int) (s11 : Int) (w0_1 : List τ0) :
  execL (z6LP N) (z6E N) z6c0 0 (z6L0_hd x2 x4 s10 s11 w0_1) (roundK (z6h 0) I KX (z6R N)) = z6L0T N x2 x4 (fun o0_10 o0_w0 => KX 0 (z6L0_tl0 x2 x4 o0_10 o0_w0)) (fun s10 s11 w0_1 => I (z6L0_hd x2 x4 s10 s11 w0_1)) s10 s11 w0_1 := by kernel_rfl
theorem z6L0_ok (N : Nat) : ∀ x y k, (∀ st, k .ret st = (z6R N) st) → iter (z6h 0) (exec (z6E N) N z6c0 0) N ⟨58, unF z6L0_fs x, unH z6L0_bs y⟩ k = z6L0_F N x y k := fun x y k hk =>
 iter_link (S := (Int) × (Int) × τ6 × Unit) (z6h 0) _ (execL (z6LP N) (z6E N) z6c0 0) (z6R N) (fun st k hk => execL_eq _ _ N _ z6c0 0 (show LoopsOk (z6LP N) (z6E N) N (z6R N) [] from trivial) st k hk) (fun s => z6L0_hd x.2.1 x.2.2.1 s.1 s.2.1 s.2.2.1) k hk
  (fun self s => z6L0T N x.2.1 x.2.2.1 (fun o0_10 o0_w0 => k (.exit 0) (z6L0_tl0 x.2.1 x.2.2.1 o0_10 o0_w0)) (fun s10 s11 w0_1 => self (s10, s11, w0_1, ())) s.1 s.2.1 s.2.2.1) (fun n s => z6L0 N x.2.1 x.2.2.1 (fun o0_10 o0_w0 => k (.exit 0) (z6L0_tl0 x.2.1 x.2.2.1 o0_10 o0_w0)) n s.1 s.2.1 s.2.2.1) (fun _ => rfl) (fun _ _ => rfl)
  (fun I s => z6L0_step N x.2.1 x.2.2.1 (fun j => k (.exit j)) I s.1 s.2.1 s.2.2.1) N (x.2.2.2.1, x.2.2.2.2.1, y.1, ())
theorem z6lp0 (N : Nat) : ∀ st k, (∀ st, k .ret st = (z6R N) st) → z6LP N 0 z6c0 st k = iter (Env.hint (z6E N) 0) (exec (z6E N) N z6c0 0) N st k := fun st k hk => LPc_eq 58 z6L0_fs z6L0_bs _ _ (z6R N) (z6L0_ok N) _ st k hk (rfl)
theorem z6core (N : Nat) (x : SV [.row 0, .v τ5, .v τ5, .v τ5, .v (.clo 55 .un)]) (y : BV [.row 81 τ1 true]) : runL (z6E N) Tryz.f131 (z6g N) z6pk (z6LP N) x y = slices_rotateCmpFunc_blob_node N x.2.1 x.2.2.1 x.2.2.2.1 x.2.2.2.2.1 y.1 := by kernel_rfl
theorem z6sound (N : Nat) : Snd 131 (z6g N) :=
 sndL (z6fn_ok N) Tryz.func131 rfl Tryz.call131 (z6g N) z6pk (fun _ _ => rfl) N (z6LP N) (show LoopsOk (z6LP N) (z6E N) N (z6R N) [(0, z6c0)] from ⟨z6lp0 N, trivial⟩) (z6core N)
abbrev z4sg (f : SV [.row 0, .v τ5, .v τ5, .v τ5, .v (.clo 55 .un)] → BV [.row 81 τ1 true] → Option τ6) : AF := { ps := [.row 0, .v τ5, .v τ5, .v τ5, .v (.clo 55 .un)], bs := [.row 81 τ1 true], rs := [], cs := [.row 81 τ1 true], R := List τ0, out := fun z => ((), (z, ())), f := f }
end
end Go.Proofs.YtjiddcchklaiiaaGreatDoor

