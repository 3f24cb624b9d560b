/- What functions of the program compute, as plain functions (printed). -/
import Derived.Test.YtahjncefiegflaaGreatDoorQDiT
namespace Go.Proofs.YtahjncefiegflaaGreatDoor
open Go Go.RowKit
abbrev FF : Nat → Bool := fun _ => false
abbrev hint0 : Hint := ⟨[], [], [], [], [], []⟩
abbrev FnOk (fn : FuncId → Option Tmp → Option AF) : Prop := ∀ f q F, fn f q = some F → Sound Tryz.prog GW B0G f F
abbrev Snd : FuncId → AF → Prop := Sound Tryz.prog GW B0G
theorem sndL {h : Nat → Hint} {fn : FuncId → Option Tmp → Option AF} (ok : FnOk fn) {f : FuncId} {g : Func} {c : Code} (hf : Tryz.prog.funcs[f]? = some g) (hb : g.body = some c)
  (hcall : ∀ (args : Array Value) (w : World), (callFunc f args).run Tryz.prog w = .ok (.enter f args) w) (F : AF) (pk : SV F.rs → BV F.cs → F.R) (hpk : ∀ x y, F.out (pk x y) = (x, y)) (N : Nat)
  (LP : Nat → Code → St → (Ex → St → Option F.R) → Option F.R) (hl : LoopsOk LP (mkE h fn FF FF) N (resD (mkE h fn FF FF) g F pk) (loops (bodyOf g) 0))
  (core : ∀ x y, runL (mkE h fn FF FF) g F pk LP x y = F.f x y) (hkp : keptF F.bs F.cs = false := by rfl) : Snd f F :=
 runD_sound (mkE_ok h fn _ _ ok) hf hb hcall F pk hpk N (fun x y _ e => ((runL_eq (mkE h fn FF FF) N g F pk LP hl x y).trans (core x y)).trans e) hkp
end Go.Proofs.YtahjncefiegflaaGreatDoor
namespace Go.Proofs.YtahjncefiegflaaGreatDoor
open Go Go.RowKit
set_option maxRecDepth 100000
set_option linter.unusedVariables false
noncomputable section
def blob_inPart (_N : Nat) (x0 : UInt8) : Option Bool :=
 br (decide (x0 ≥ (97 : UInt8)))
  (br (decide (x0 ≤ (122 : UInt8)))
   (some true)
   (br (decide (x0 ≥ (65 : UInt8)))
    (br (decide (x0 ≤ (90 : UInt8)))
     (some true)
     (br (decide (x0 ≥ (48 : UInt8)))
      (br (decide (x0 ≤ (57 : UInt8)))
       (some true)
       (bnd (strings_IndexByte ([46, 95, 45, 43] : Str) x0) fun t27 =>
       some (decide (t27 ≥ (0 : Int)))))
      (bnd (strings_IndexByte ([46, 95, 45, 43] : Str) x0) fun t27_1 =>
      some (decide (t27_1 ≥ (0 : Int))))))
    (br (decide (x0 ≥ (48 : UInt8)))
     (br (decide (x0 ≤ (57 : UInt8)))
      (some true)
      (bnd (strings_IndexByte ([46, 95, 45, 43] : Str) x0) fun t27_2 =>
      some (decide (t27_2 ≥ (0 : Int)))))
     (bnd (strings_IndexByte ([46, 95, 45, 43] : Str) x0) fun t27_3 =>
     some (decide (t27_3 ≥ (0 : Int)))))))
  (br (decide (x0 ≥ (65 : UInt8)))
   (br (decide (x0 ≤ (90 : UInt8)))
    (some true)
    (br (decide (x0 ≥ (48 : UInt8)))
     (br (decide (x0 ≤ (57 : UInt8)))
      (some true)
      (bnd (strings_IndexByte ([46, 95, 45, 43] : Str) x0) fun t27_4 =>
      some (decide (t27_4 ≥ (0 : Int)))))
     (bnd (strings_IndexByte ([46, 95, 45, 43] : Str) x0) fun t27_5 =>
     some (decide (t27_5 ≥ (0 : Int))))))
   (br (decide (x0 ≥ (48 : UInt8)))
    (br (decide (x0 ≤ (57 : UInt8)))
     (some true)
     (bnd (strings_IndexByte ([46, 95, 45, 43] : Str) x0) fun t27_6 =>
     some (decide (t27_6 ≥ (0 : Int)))))
    (bnd (strings_IndexByte ([46, 95, 45, 43] : Str) x0) fun t27_7 =>
    some (decide (t27_7 ≥ (0 : Int))))))
abbrev z56sg (f : SV [.v .u8] → BV [] → Option (Bool)) : AF := { ps := [.v .u8], bs := [], rs := [.v .bool], cs := [], R := Bool, out := fun z => ((z, ()), ()), f := f }
noncomputable abbrev z56g (N : Nat) : AF := z56sg fun x _ => blob_inPart N x.1
abbrev z56pk : SV [.v .bool] → BV [] → Bool := fun x _ => x.1
def z56fn (_N : Nat) : FuncId → Option Tmp → Option AF := fun f _ =>
 match f with
  | 116 => some (strings_IndexByte_sg fun x _ => strings_IndexByte x.1 x.2.1)
  | _ => none
theorem z56fn_ok (N : Nat) : FnOk (z56fn N) := by
 intro f q F h
 unfold z56fn at h
 split at h
 · cases h; exact strings_IndexByte_sound
 · cases h
def z56h : Nat → Hint := fun i =>
 match i with
 | _ => hint0
abbrev z56E (N : Nat) : Env := mkE z56h (z56fn N) FF FF
noncomputable def z56LP (N : Nat) : Nat → Code → St → (Ex → St → Option Bool) → Option Bool := fun i c =>
 match i with
 | i => fun st k => iter (z56h i) (exec (z56E N) N c i) N st k
theorem z56core (N : Nat) (x : SV [.v .u8]) (y : BV []) : runL (z56E N) Tryz.f137 (z56g N) z56pk (z56LP N) x y = blob_inPart N x.1 := by kernel_rfl
theorem z56sound (N : Nat) : Snd 137 (z56g N) :=
 sndL (z56fn_ok N) Tryz.func137 rfl Tryz.call137 (z56g N) z56pk (fun _ _ => rfl) N (z56LP N) (show LoopsOk (z56LP N) (z56E N) N (resD (z56E N) Tryz.f137 (z56g N) z56pk) [] from trivial) (z56core N)
def z57L0T (N : Nat) (x0 : Str) (c5 : Int) (k0 : Option Bool) (self : Int → Option Bool) (s6 : Int) : Option Bool :=
 br (decide (s6 < c5))
  (bnd (geti x0 s6) fun t11 =>
  bnd (blob_inPart N t11) fun t12 =>
  br (!t12)
   (some false)
   (self (IntKind.i64.wrap (s6 + (1 : Int)))))
  (k0)
def z57L0 (N : Nat) (x0 : Str) (c5 : Int) (k0 : Option Bool) : Nat → Int → Option Bool
 | 0, _ => none
 | n + 1, s6 => z57L0T N x0 c5 k0 (z57L0 N x0 c5 k0 n) s6
def blob_isPart (N : Nat) (x0 : Str) : Option Bool :=
 z57L0 N x0 (x0.length : Int) (br (!(x0 == ([] : Str)))
    (br (!(x0 == ([46] : Str)))
     (some (!(x0 == ([46, 46] : Str))))
     (some false))
    (some false)) N (0 : Int)
abbrev z57sg (f : SV [.v .str] → BV [] → Option (Bool)) : AF := { ps := [.v .str], bs := [], rs := [.v .bool], cs := [], R := Bool, out := fun z => ((z, ()), ()), f := f }
noncomputable abbrev z57g (N : Nat) : AF := z57sg fun x _ => blob_isPart N x.1
abbrev z57pk : SV [.v .bool] → BV [] → Bool := fun x _ => x.1
def z57fn (N : Nat) : FuncId → Option Tmp → Option AF := fun f _ =>
 match f with
  | 137 => some (z56g N)
  | _ => none
theorem z57fn_ok (N : Nat) : FnOk (z57fn N) := by
 intro f q F h
 unfold z57fn at h
 split at h
 · cases h; exact z56sound N
 · cases h
def z57h : Nat → Hint := fun i =>
 match i with
 | 0 => ⟨[], [0, 5, 6], [], [0], [], []⟩
 | _ => hint0
abbrev z57E (N : Nat) : Env := mkE z57h (z57fn N) FF FF
noncomputable abbrev z57c0 : Code := cAt (bodyOf Tryz.f104) [true, false, true, false, false]
noncomputable abbrev z57R (N : Nat) := resD (z57E N) Tryz.f104 (z57g N) z57pk
abbrev z57L0_fs : List (Nat × Sl) := [(0, .v .str), (5, .v τ5), (6, .v τ5)]
abbrev z57L0_bs : List (Nat × Sb) := []
def z57L0_hd (x0 : Str) (c5 : Int) (s6 : Int) : St := ⟨25, [(0, .v .str x0), (5, .v τ5 c5), (6, .v τ5 s6)], []⟩
def z57L0_tl0 (x0 : Str) (_c5 : Int) : St := ⟨25, [(0, .v .str x0)], []⟩
def z57L0_G (N : Nat) (x0 : Str) (c5 : Int) (s6 : Int) (k : Ex → St → Option Bool) : Option Bool :=
 z57L0 N x0 c5 (k (.exit 0) (z57L0_tl0 x0 c5)) N s6
abbrev z57L0_F (N : Nat) : FV z57L0_fs → HV z57L0_bs → (Ex → St → Option Bool) → Option Bool := fun x _ k => z57L0_G N x.1 x.2.1 x.2.2.1 k
noncomputable def z57LP (N : Nat) : Nat → Code → St → (Ex → St → Option Bool) → Option Bool := fun i c =>
 match i with
 | 0 => (LPc 25 z57L0_fs z57L0_bs (z57L0_F N) (fun st k => iter (z57h 0) (exec (z57E N) N c 0) N st k))
 | i => fun st k => iter (z57h i) (exec (z57E N) N c i) N st k
theorem z57L0_step (N : Nat) (x0 : Str) (c5 : Int) (KX : Nat → St → Option Bool) (I : St → Option Bool) (s6 : Int) :
  execL (z57LP N) (z57E N) z57c0 0 (z57L0_hd x0 c5 s6) (roundK (z57h 0) I KX (z57R N)) = z57L0T N x0 c5 (KX 0 (z57L0_tl0 x0 c5)) (fun s6 => I (z57L0_hd x0 c5 s6)) s6 := by kernel_rfl
theorem z57L0_ok (N : Nat) : ∀ x y k, (∀ st, k .ret st = (z57R N) st) → iter (z57h 0) (exec (z57E N) N z57c0 0) N ⟨25, unF z57L0_fs x, unH z57L0_bs y⟩ k = z57L0_F N x y k := fun x _ k hk =>
 iter_link (S := (Int) × Unit) (z57h 0) _ (execL (z57LP N) (z57E N) z57c0 0) (z57R N) (fun st k hk => execL_eq _ _ N _ z57c0 0 (show LoopsOk (z57LP N) (z57E N) N (z57R N) [] from trivial) st k hk) (fun s => z57L0_hd x.1 x.2.1 s.1) k hk
  (fun self s => z57L0T N x.1 x.2.1 (k (.exit 0) (z57L0_tl0 x.1 x.2.1)) (fun s6 => self (s6, ())) s.1) (fun n s => z57L0 N x.1 x.2.1 (k (.exit 0) (z57L0_tl0 x.1 x.2.1)) n s.1) (fun _ => rfl) (fun _ _ => rfl)
  (fun I s => z57L0_step N x.1 x.2.1 (fun j => k (.exit j)) I s.1) N (x.2.2.1, ())
theorem z57lp0 (N : Nat) : ∀ st k, (∀ st, k .ret st = (z57R N) st) → z57LP N 0 z57c0 st k = iter (Env.hint (z57E N) 0) (exec (z57E N) N z57c0 0) N st k := fun st k hk => LPc_eq 25 z57L0_fs z57L0_bs _ _ (z57R N) (z57L0_ok N) _ st k hk (rfl)
theorem z57core (N : Nat) (x : SV [.v .str]) (y : BV []) : runL (z57E N) Tryz.f104 (z57g N) z57pk (z57LP N) x y = blob_isPart N x.1 := by kernel_rfl
theorem z57sound (N : Nat) : Snd 104 (z57g N) :=
 sndL (z57fn_ok N) Tryz.func104 rfl Tryz.call104 (z57g N) z57pk (fun _ _ => rfl) N (z57LP N) (show LoopsOk (z57LP N) (z57E N) N (z57R N) [(0, z57c0)] from ⟨z57lp0 N, trivial⟩) (z57core N)
def z55L0T (N : Nat) (t14 : List Str) (c15 : Int) (k0 : Option Bool) (self : Int → Option Bool) (s16 : Int) : Option Bool :=
 br (decide (s16 < c15))
  (bnd (geti t14 s16) fun t18 =>
  bnd (blob_isPart N t18) fun t21 =>
  br (!t21)
   (some false)
   (self (IntKind.i64.wrap (s16 + (1 : Int)))))
  (k0)
def z55L0 (N : Nat) (t14 : List Str) (c15 : Int) (k0 : Option Bool) : Nat → Int → Option Bool
 | 0, _ => none
 | n + 1, s16 => z55L0T N t14 c15 k0 (z55L0 N t14 c15 k0 n) s16
def blob_IsPath (N : Nat) (x0 : Str) : Option Bool :=
 br (decide ((x0.length : Int) < (1 : Int)))
  (some false)
  (br (decide ((x0.length : Int) > (200 : Int)))
   (some false)
   (bnd (strings_Split x0 ([47] : Str)) fun t14 =>
   z55L0 N t14 (t14.length : Int) (some true) N (0 : Int)))
abbrev z55sg (f : SV [.v .str] → BV [] → Option (Bool)) : AF := { ps := [.v .str], bs := [], rs := [.v .bool], cs := [], R := Bool, out := fun z => ((z, ()), ()), f := f }
noncomputable abbrev z55g (N : Nat) : AF := z55sg fun x _ => blob_IsPath N x.1
abbrev z55pk : SV [.v .bool] → BV [] → Bool := fun x _ => x.1
def z55fn (N : Nat) : FuncId → Option Tmp → Option AF := fun f _ =>
 match f with
  | 103 => some (strings_Split_sg fun x _ => strings_Split x.1 x.2.1)
  | 104 => some (z57g N)
  | _ => none
theorem z55fn_ok (N : Nat) : FnOk (z55fn N) := by
 intro f q F h
 unfold z55fn at h
 split at h
 · cases h; exact strings_Split_sound
 · cases h; exact z57sound N
 · cases h
def z55h : Nat → Hint := fun i =>
 match i with
 | 0 => ⟨[], [14, 15, 16], [], [], [], []⟩
 | _ => hint0
abbrev z55E (N : Nat) : Env := mkE z55h (z55fn N) FF FF
noncomputable abbrev z55c0 : Code := cAt (bodyOf Tryz.f56) [true, true, false, true, false, false]
noncomputable abbrev z55R (N : Nat) := resD (z55E N) Tryz.f56 (z55g N) z55pk
abbrev z55L0_fs : List (Nat × Sl) := [(14, .v τ13), (15, .v τ5), (16, .v τ5)]
abbrev z55L0_bs : List (Nat × Sb) := []
def z55L0_hd (t14 : List Str) (c15 : Int) (s16 : Int) : St := ⟨24, [(14, .v τ13 t14), (15, .v τ5 c15), (16, .v τ5 s16)], []⟩
def z55L0_tl0 (_t14 : List Str) (_c15 : Int) : St := ⟨24, [], []⟩
def z55L0_G (N : Nat) (t14 : List Str) (c15 : Int) (s16 : Int) (k : Ex → St → Option Bool) : Option Bool :=
 z55L0 N t14 c15 (k (.exit 0) (z55L0_tl0 t14 c15)) N s16
abbrev z55L0_F (N : Nat) : FV z55L0_fs → HV z55L0_bs → (Ex → St → Option Bool) → Option Bool := fun x _ k => z55L0_G N x.1 x.2.1 x.2.2.1 k
noncomputable def z55LP (N : Nat) : Nat → Code → St → (Ex → St → Option Bool) → Option Bool := fun i c =>
 match i with
 | 0 => (LPc 24 z55L0_fs z55L0_bs (z55L0_F N) (fun st k => iter (z55h 0) (exec (z55E N) N c 0) N st k))
 | i => fun st k => iter (z55h i) (exec (z55E N) N c i) N st k
theorem z55L0_step (N : Nat) (t14 : List Str) (c15 : Int) (KX : Nat → St → Option Bool) (I : St → Option Bool) (s16 : Int) :
  execL (z55LP N) (z55E N) z55c0 0 (z55L0_hd t14 c15 s16) (roundK (z55h 0) I KX (z55R N)) = z55L0T N t14 c15 (KX 0 (z55L0_tl0 t14 c15)) (fun s16 => I (z55L0_hd t14 c15 s16)) s16 := by kernel_rfl
theorem z55L0_ok (N : Nat) : ∀ x y k, (∀ st, k .ret st = (z55R N) st) → iter (z55h 0) (exec (z55E N) N z55c0 0) N ⟨24, unF z55L0_fs x, unH z55L0_bs y⟩ k = z55L0_F N x y k := fun x _ k hk =>
 iter_link (S := (Int) × Unit) (z55h 0) _ (execL (z55LP N) (z55E N) z55c0 0) (z55R N) (fun st k hk => execL_eq _ _ N _ z55c0 0 (show LoopsOk (z55LP N) (z55E N) N (z55R N) [] from trivial) st k hk) (fun s => z55L0_hd x.1 x.2.1 s.1) k hk
  (fun self s => z55L0T N x.1 x.2.1 (k (.exit 0) (z55L0_tl0 x.1 x.2.1)) (fun s16 => self (s16, ())) s.1) (fun n s => z55L0 N x.1 x.2.1 (k (.exit 0) (z55L0_tl0 x.1 x.2.1)) n s.1) (fun _ => rfl) (fun _ _ => rfl)
  (fun I s => z55L0_step N x.1 x.2.1 (fun j => k (.exit j)) I s.1) N (x.2.2.1, ())
theorem z55lp0 (N : Nat) : ∀ st k, (∀ st, k .ret st = (z55R N) st) → z55LP N 0 z55c0 st k = iter (Env.hint (z55E N) 0) (exec (z55E N) N z55c0 0) N st k := fun st k hk => LPc_eq 24 z55L0_fs z55L0_bs _ _ (z55R N) (z55L0_ok N) _ st k hk (rfl)
theorem z55core (N : Nat) (x : SV [.v .str]) (y : BV []) : runL (z55E N) Tryz.f56 (z55g N) z55pk (z55LP N) x y = blob_IsPath N x.1 := by kernel_rfl
theorem z55sound (N : Nat) : Snd 56 (z55g N) :=
 sndL (z55fn_ok N) Tryz.func56 rfl Tryz.call56 (z55g N) z55pk (fun _ _ => rfl) N (z55LP N) (show LoopsOk (z55LP N) (z55E N) N (z55R N) [(0, z55c0)] from ⟨z55lp0 N, trivial⟩) (z55core N)
def z61L0T (_N : Nat) (x0 : Str) (c6 : Int) (k0 : Option Bool) (self : Int → Option Bool) (s7 : Int) : Option Bool :=
 br (decide (s7 < c6))
  (bnd (geti x0 s7) fun t12 =>
  br (decide (t12 < (97 : UInt8)))
   (br (decide (t12 < (65 : UInt8)))
    (br (decide (t12 < (48 : UInt8)))
     (bnd (strings_IndexByte ([46, 95, 45, 43] : Str) t12) fun t37 =>
     br (decide (t37 < (0 : Int)))
      (some false)
      (self (IntKind.i64.wrap (s7 + (1 : Int)))))
     (br (decide (t12 > (57 : UInt8)))
      (bnd (strings_IndexByte ([46, 95, 45, 43] : Str) t12) fun t37_1 =>
      br (decide (t37_1 < (0 : Int)))
       (some false)
       (self (IntKind.i64.wrap (s7 + (1 : Int)))))
      (self (IntKind.i64.wrap (s7 + (1 : Int))))))
    (br (decide (t12 > (90 : UInt8)))
     (br (decide (t12 < (48 : UInt8)))
      (bnd (strings_IndexByte ([46, 95, 45, 43] : Str) t12) fun t37_2 =>
      br (decide (t37_2 < (0 : Int)))
       (some false)
       (self (IntKind.i64.wrap (s7 + (1 : Int)))))
      (br (decide (t12 > (57 : UInt8)))
       (bnd (strings_IndexByte ([46, 95, 45, 43] : Str) t12) fun t37_3 =>
       br (decide (t37_3 < (0 : Int)))
        (some false)
        (self (IntKind.i64.wrap (s7 + (1 : Int)))))
       (self (IntKind.i64.wrap (s7 + (1 : Int))))))
     (self (IntKind.i64.wrap (s7 + (1 : Int))))))
   (br (decide (t12 > (122 : UInt8)))
    (br (decide (t12 < (65 : UInt8)))
     (br (decide (t12 < (48 : UInt8)))
      (bnd (strings_IndexByte ([46, 95, 45, 43] : Str) t12) fun t37_4 =>
      br (decide (t37_4 < (0 : Int)))
       (some false)
       (self (IntKind.i64.wrap (s7 + (1 : Int)))))
      (br (decide (t12 > (57 : UInt8)))
       (bnd (strings_IndexByte ([46, 95, 45, 43] : Str) t12) fun t37_5 =>
       br (decide (t37_5 < (0 : Int)))
        (some false)
        (self (IntKind.i64.wrap (s7 + (1 : Int)))))
       (self (IntKind.i64.wrap (s7 + (1 : Int))))))
     (br (decide (t12 > (90 : UInt8)))
      (br (decide (t12 < (48 : UInt8)))
       (bnd (strings_IndexByte ([46, 95, 45, 43] : Str) t12) fun t37_6 =>
       br (decide (t37_6 < (0 : Int)))
        (some false)
        (self (IntKind.i64.wrap (s7 + (1 : Int)))))
       (br (decide (t12 > (57 : UInt8)))
        (bnd (strings_IndexByte ([46, 95, 45, 43] : Str) t12) fun t37_7 =>
        br (decide (t37_7 < (0 : Int)))
         (some false)
         (self (IntKind.i64.wrap (s7 + (1 : Int)))))
        (self (IntKind.i64.wrap (s7 + (1 : Int))))))
      (self (IntKind.i64.wrap (s7 + (1 : Int))))))
    (self (IntKind.i64.wrap (s7 + (1 : Int))))))
  (k0)
def z61L0 (N : Nat) (x0 : Str) (c6 : Int) (k0 : Option Bool) : Nat → Int → Option Bool
 | 0, _ => none
 | n + 1, s7 => z61L0T N x0 c6 k0 (z61L0 N x0 c6 k0 n) s7
def ref2_isPart (N : Nat) (x0 : Str) : Option Bool :=
 z61L0 N x0 (x0.length : Int) (br (!(x0 == ([] : Str)))
    (br (!(x0 == ([46] : Str)))
     (some (!(x0 == ([46, 46] : Str))))
     (some false))
    (some false)) N (0 : Int)
abbrev z61sg (f : SV [.v .str] → BV [] → Option (Bool)) : AF := { ps := [.v .str], bs := [], rs := [.v .bool], cs := [], R := Bool, out := fun z => ((z, ()), ()), f := f }
noncomputable abbrev z61g (N : Nat) : AF := z61sg fun x _ => ref2_isPart N x.1
abbrev z61pk : SV [.v .bool] → BV [] → Bool := fun x _ => x.1
def z61fn (_N : Nat) : FuncId → Option Tmp → Option AF := fun f _ =>
 match f with
  | 116 => some (strings_IndexByte_sg fun x _ => strings_IndexByte x.1 x.2.1)
  | _ => none
theorem z61fn_ok (N : Nat) : FnOk (z61fn N) := by
 intro f q F h
 unfold z61fn at h
 split at h
 · cases h; exact strings_IndexByte_sound
 · cases h
def z61h : Nat → Hint := fun i =>
 match i with
 | 0 => ⟨[], [0, 6, 7], [], [0], [], []⟩
 | _ => hint0
abbrev z61E (N : Nat) : Env := mkE z61h (z61fn N) FF FF
noncomputable abbrev z61c0 : Code := cAt (bodyOf Tryz.f108) [true, false, true, false, false]
noncomputable abbrev z61R (N : Nat) := resD (z61E N) Tryz.f108 (z61g N) z61pk
abbrev z61L0_fs : List (Nat × Sl) := [(0, .v .str), (6, .v τ5), (7, .v τ5)]
abbrev z61L0_bs : List (Nat × Sb) := []
def z61L0_hd (x0 : Str) (c6 : Int) (s7 : Int) : St := ⟨51, [(0, .v .str x0), (6, .v τ5 c6), (7, .v τ5 s7)], []⟩
def z61L0_tl0 (x0 : Str) (_c6 : Int) : St := ⟨51, [(0, .v .str x0)], []⟩
def z61L0_G (N : Nat) (x0 : Str) (c6 : Int) (s7 : Int) (k : Ex → St → Option Bool) : Option Bool :=
 z61L0 N x0 c6 (k (.exit 0) (z61L0_tl0 x0 c6)) N s7
abbrev z61L0_F (N : Nat) : FV z61L0_fs → HV z61L0_bs → (Ex → St → Option Bool) → Option Bool := fun x _ k => z61L0_G N x.1 x.2.1 x.2.2.1 k
noncomputable def z61LP (N : Nat) : Nat → Code → St → (Ex → St → Option Bool) → Option Bool := fun i c =>
 match i with
 | 0 => (LPc 51 z61L0_fs z61L0_bs (z61L0_F N) (fun st k => iter (z61h 0) (exec (z61E N) N c 0) N st k))
 | i => fun st k => iter (z61h i) (exec (z61E N) N c i) N st k
theorem z61L0_step (N : Nat) (x0 : Str) (c6 : Int) (KX : Nat → St → Option Bool) (I : St → Option Bool) (s7 : Int) :
  execL (z61LP N) (z61E N) z61c0 0 (z61L0_hd x0 c6 s7) (roundK (z61h 0) I KX (z61R N)) = z61L0T N x0 c6 (KX 0 (z61L0_tl0 x0 c6)) (fun s7 => I (z61L0_hd x0 c6 s7)) s7 := by kernel_rfl
theorem z61L0_ok (N : Nat) : ∀ x y k, (∀ st, k .ret st = (z61R N) st) → iter (z61h 0) (exec (z61E N) N z61c0 0) N ⟨51, unF z61L0_fs x, unH z61L0_bs y⟩ k = z61L0_F N x y k := fun x _ k hk =>
 iter_link (S := (Int) × Unit) (z61h 0) _ (execL (z61LP N) (z61E N) z61c0 0) (z61R N) (fun st k hk => execL_eq _ _ N _ z61c0 0 (show LoopsOk (z61LP N) (z61E N) N (z61R N) [] from trivial) st k hk) (fun s => z61L0_hd x.1 x.2.1 s.1) k hk
  (fun self s => z61L0T N x.1 x.2.1 (k (.exit 0) (z61L0_tl0 x.1 x.2.1)) (fun s7 => self (s7, ())) s.1) (fun n s => z61L0 N x.1 x.2.1 (k (.exit 0) (z61L0_tl0 x.1 x.2.1)) n s.1) (fun _ => rfl) (fun _ _ => rfl)
  (fun I s => z61L0_step N x.1 x.2.1 (fun j => k (.exit j)) I s.1) N (x.2.2.1, ())
theorem z61lp0 (N : Nat) : ∀ st k, (∀ st, k .ret st = (z61R N) st) → z61LP N 0 z61c0 st k = iter (Env.hint (z61E N) 0) (exec (z61E N) N z61c0 0) N st k := fun st k hk => LPc_eq 51 z61L0_fs z61L0_bs _ _ (z61R N) (z61L0_ok N) _ st k hk (rfl)
theorem z61core (N : Nat) (x : SV [.v .str]) (y : BV []) : runL (z61E N) Tryz.f108 (z61g N) z61pk (z61LP N) x y = ref2_isPart N x.1 := by kernel_rfl
theorem z61sound (N : Nat) : Snd 108 (z61g N) :=
 sndL (z61fn_ok N) Tryz.func108 rfl Tryz.call108 (z61g N) z61pk (fun _ _ => rfl) N (z61LP N) (show LoopsOk (z61LP N) (z61E N) N (z61R N) [(0, z61c0)] from ⟨z61lp0 N, trivial⟩) (z61core N)
def ref2_within (_N : Nat) (x0 : Int) (x1 : Int) (x2 : Int) : Option Bool :=
 br (decide (x1 ≤ x0))
  (some (decide (x0 ≤ x2)))
  (some false)
abbrev z63sg (f : SV [.v τ5, .v τ5, .v τ5] → BV [] → Option (Bool)) : AF := { ps := [.v τ5, .v τ5, .v τ5], bs := [], rs := [.v .bool], cs := [], R := Bool, out := fun z => ((z, ()), ()), f := f }
noncomputable abbrev z63g (N : Nat) : AF := z63sg fun x _ => ref2_within N x.1 x.2.1 x.2.2.1
abbrev z63pk : SV [.v .bool] → BV [] → Bool := fun x _ => x.1
def z63fn (_N : Nat) : FuncId → Option Tmp → Option AF := fun f _ =>
 match f with
  | _ => none
theorem z63fn_ok (N : Nat) : FnOk (z63fn N) := by
 intro f q F h
 unfold z63fn at h
 split at h
 · cases h
def z63h : Nat → Hint := fun i =>
 match i with
 | _ => hint0
abbrev z63E (N : Nat) : Env := mkE z63h (z63fn N) FF FF
noncomputable def z63LP (N : Nat) : Nat → Code → St → (Ex → St → Option Bool) → Option Bool := fun i c =>
 match i with
 | i => fun st k => iter (z63h i) (exec (z63E N) N c i) N st k
theorem z63core (N : Nat) (x : SV [.v τ5, .v τ5, .v τ5]) (y : BV []) : runL (z63E N) Tryz.f47 (z63g N) z63pk (z63LP N) x y = ref2_within N x.1 x.2.1 x.2.2.1 := by kernel_rfl
theorem z63sound (N : Nat) : Snd 47 (z63g N) :=
 sndL (z63fn_ok N) Tryz.func47 rfl Tryz.call47 (z63g N) z63pk (fun _ _ => rfl) N (z63LP N) (show LoopsOk (z63LP N) (z63E N) N (resD (z63E N) Tryz.f47 (z63g N) z63pk) [] from trivial) (z63core N)
def z60L0T (N : Nat) (t6 : List Str) (c7 : Int) (k0 : Option Bool) (self : Int → Option Bool) (s8 : Int) : Option Bool :=
 br (decide (s8 < c7))
  (bnd (geti t6 s8) fun t10 =>
  bnd (ref2_isPart N t10) fun t13 =>
  br (!t13)
   (some false)
   (self (IntKind.i64.wrap (s8 + (1 : Int)))))
  (k0)
def z60L0 (N : Nat) (t6 : List Str) (c7 : Int) (k0 : Option Bool) : Nat → Int → Option Bool
 | 0, _ => none
 | n + 1, s8 => z60L0T N t6 c7 k0 (z60L0 N t6 c7 k0 n) s8
def ref2_IsPath (N : Nat) (x0 : Str) : Option Bool :=
 bnd (strings_Split x0 ([47] : Str)) fun t6 =>
 z60L0 N t6 (t6.length : Int) (bnd (ref2_within N (x0.length : Int) (1 : Int) (200 : Int)) fun t18 =>
   some t18) N (0 : Int)
abbrev z60sg (f : SV [.v .str] → BV [] → Option (Bool)) : AF := { ps := [.v .str], bs := [], rs := [.v .bool], cs := [], R := Bool, out := fun z => ((z, ()), ()), f := f }
noncomputable abbrev z60g (N : Nat) : AF := z60sg fun x _ => ref2_IsPath N x.1
abbrev z60pk : SV [.v .bool] → BV [] → Bool := fun x _ => x.1
def z60fn (N : Nat) : FuncId → Option Tmp → Option AF := fun f _ =>
 match f with
  | 47 => some (z63g N)
  | 103 => some (strings_Split_sg fun x _ => strings_Split x.1 x.2.1)
  | 108 => some (z61g N)
  | _ => none
theorem z60fn_ok (N : Nat) : FnOk (z60fn N) := by
 intro f q F h
 unfold z60fn at h
 split at h
 · cases h; exact z63sound N
 · cases h; exact strings_Split_sound
 · cases h; exact z61sound N
 · cases h
def z60h : Nat → Hint := fun i =>
 match i with
 | 0 => ⟨[], [0, 6, 7, 8], [], [0], [], []⟩
 | _ => hint0
abbrev z60E (N : Nat) : Env := mkE z60h (z60fn N) FF FF
noncomputable abbrev z60c0 : Code := cAt (bodyOf Tryz.f62) [true, false, true, false, false]
noncomputable abbrev z60R (N : Nat) := resD (z60E N) Tryz.f62 (z60g N) z60pk
abbrev z60L0_fs : List (Nat × Sl) := [(0, .v .str), (6, .v τ13), (7, .v τ5), (8, .v τ5)]
abbrev z60L0_bs : List (Nat × Sb) := []
def z60L0_hd (x0 : Str) (t6 : List Str) (c7 : Int) (s8 : Int) : St := ⟨19, [(0, .v .str x0), (6, .v τ13 t6), (7, .v τ5 c7), (8, .v τ5 s8)], []⟩
def z60L0_tl0 (x0 : Str) (_t6 : List Str) (_c7 : Int) : St := ⟨19, [(0, .v .str x0)], []⟩
def z60L0_G (N : Nat) (x0 : Str) (t6 : List Str) (c7 : Int) (s8 : Int) (k : Ex → St → Option Bool) : Option Bool :=
 z60L0 N t6 c7 (k (.exit 0) (z60L0_tl0 x0 t6 c7)) N s8
abbrev z60L0_F (N : Nat) : FV z60L0_fs → HV z60L0_bs → (Ex → St → Option Bool) → Option Bool := fun x _ k => z60L0_G N x.1 x.2.1 x.2.2.1 x.2.2.2.1 k
noncomputable def z60LP (N : Nat) : Nat → Code → St → (Ex → St → Option Bool) → Option Bool := fun i c =>
 match i with
 | 0 => (LPc 19 z60L0_fs z60L0_bs (z60L0_F N) (fun st k => iter (z60h 0) (exec (z60E N) N c 0) N st k))
 | i => fun st k => iter (z60h i) (exec (z60E N) N c i) N st k
theorem z60L0_step (N : Nat) (x0 : Str) (t6 : List Str) (c7 : Int) (KX : Nat → St → Option Bool) (I : St → Option Bool) (s8 : Int) :
  execL (z60LP N) (z60E N) z60c0 0 (z60L0_hd x0 t6 c7 s8) (roundK (z60h 0) I KX (z60R N)) = z60L0T N t6 c7 (KX 0 (z60L0_tl0 x0 t6 c7)) (fun s8 => I (z60L0_hd x0 t6 c7 s8)) s8 := by kernel_rfl
theorem z60L0_ok (N : Nat) : ∀ x y k, (∀ st, k .ret st = (z60R N) st) → iter (z60h 0) (exec (z60E N) N z60c0 0) N ⟨19, unF z60L0_fs x, unH z60L0_bs y⟩ k = z60L0_F N x y k := fun x _ k hk =>
 iter_link (S := (Int) × Unit) (z60h 0) _ (execL (z60LP N) (z60E N) z60c0 0) (z60R N) (fun st k hk => execL_eq _ _ N _ z60c0 0 (show LoopsOk (z60LP N) (z60E N) N (z60R N) [] from trivial) st k hk) (fun s => z60L0_hd x.1 x.2.1 x.2.2.1 s.1) k hk
  (fun self s => z60L0T N x.2.1 x.2.2.1 (k (.exit 0) (z60L0_tl0 x.1 x.2.1 x.2.2.1)) (fun s8 => self (s8, ())) s.1) (fun n s => z60L0 N x.2.1 x.2.2.1 (k (.exit 0) (z60L0_tl0 x.1 x.2.1 x.2.2.1)) n s.1) (fun _ => rfl) (fun _ _ => rfl)
  (fun I s => z60L0_step N x.1 x.2.1 x.2.2.1 (fun j => k (.exit j)) I s.1) N (x.2.2.2.1, ())
theorem z60lp0 (N : Nat) : ∀ st k, (∀ st, k .ret st = (z60R N) st) → z60LP N 0 z60c0 st k = iter (Env.hint (z60E N) 0) (exec (z60E N) N z60c0 0) N st k := fun st k hk => LPc_eq 19 z60L0_fs z60L0_bs _ _ (z60R N) (z60L0_ok N) _ st k hk (rfl)
theorem z60core (N : Nat) (x : SV [.v .str]) (y : BV []) : runL (z60E N) Tryz.f62 (z60g N) z60pk (z60LP N) x y = ref2_IsPath N x.1 := by kernel_rfl
theorem z60sound (N : Nat) : Snd 62 (z60g N) :=
 sndL (z60fn_ok N) Tryz.func62 rfl Tryz.call62 (z60g N) z60pk (fun _ _ => rfl) N (z60LP N) (show LoopsOk (z60LP N) (z60E N) N (z60R N) [(0, z60c0)] from ⟨z60lp0 N, trivial⟩) (z60core N)
def ref2_isPkg (N : Nat) (x0 : Str) : Option Bool :=
 br (x0 == ([] : Str))
  (some true)
  (bnd (ref2_IsPath N x0) fun t7 =>
  some t7)
abbrev z65sg (f : SV [.v .str] → BV [] → Option (Bool)) : AF := { ps := [.v .str], bs := [], rs := [.v .bool], cs := [], R := Bool, out := fun z => ((z, ()), ()), f := f }
noncomputable abbrev z65g (N : Nat) : AF := z65sg fun x _ => ref2_isPkg N x.1
abbrev z65pk : SV [.v .bool] → BV [] → Bool := fun x _ => x.1
def z65fn (N : Nat) : FuncId → Option Tmp → Option AF := fun f _ =>
 match f with
  | 62 => some (z60g N)
  | _ => none
theorem z65fn_ok (N : Nat) : FnOk (z65fn N) := by
 intro f q F h
 unfold z65fn at h
 split at h
 · cases h; exact z60sound N
 · cases h
def z65h : Nat → Hint := fun i =>
 match i with
 | _ => hint0
abbrev z65E (N : Nat) : Env := mkE z65h (z65fn N) FF FF
noncomputable def z65LP (N : Nat) : Nat → Code → St → (Ex → St → Option Bool) → Option Bool := fun i c =>
 match i with
 | i => fun st k => iter (z65h i) (exec (z65E N) N c i) N st k
theorem z65core (N : Nat) (x : SV [.v .str]) (y : BV []) : runL (z65E N) Tryz.f57 (z65g N) z65pk (z65LP N) x y = ref2_isPkg N x.1 := by kernel_rfl
theorem z65sound (N : Nat) : Snd 57 (z65g N) :=
 sndL (z65fn_ok N) Tryz.func57 rfl Tryz.call57 (z65g N) z65pk (fun _ _ => rfl) N (z65LP N) (show LoopsOk (z65LP N) (z65E N) N (resD (z65E N) Tryz.f57 (z65g N) z65pk) [] from trivial) (z65core N)
end
end Go.Proofs.YtahjncefiegflaaGreatDoor


/- What functions of the program compute, as plain functions (printed). -/
namespace Go.Proofs.YtahjncefiegflaaGreatDoor
open Go Go.RowKit
set_option maxRecDepth 100000
set_option linter.unusedVariables false
noncomputable section
def script_CheckValue_1 (_N : Nat) (x0 : Str) : Option Bool :=
 some (decide ((x0.length : Int) > (1000 : Int)))
abbrev z20sg (f : SV [.v .str] → BV [] → Option (Bool)) : AF := { ps := [.v .str], bs := [], rs := [.v .bool], cs := [], R := Bool, out := fun z => ((z, ()), ()), f := f }
noncomputable abbrev z20g (N : Nat) : AF := z20sg fun x _ => script_CheckValue_1 N x.1
abbrev z20pk : SV [.v .bool] → BV [] → Bool := fun x _ => x.1
def z20fn (_N : Nat) : FuncId → Option Tmp → Option AF := fun f _ =>
 match f with
  | _ => none
theorem z20fn_ok (N : Nat) : FnOk (z20fn N) := by
 intro f q F h
 unfold z20fn at h
 split at h
 · cases h
def z20h : Nat → Hint := fun i =>
 match i with
 | _ => hint0
abbrev z20E (N : Nat) : Env := mkE z20h (z20fn N) FF FF
noncomputable def z20LP (N : Nat) : Nat → Code → St → (Ex → St → Option Bool) → Option Bool := fun i c =>
 match i with
 | i => fun st k => iter (z20h i) (exec (z20E N) N c i) N st k
theorem z20core (N : Nat) (x : SV [.v .str]) (y : BV []) : runL (z20E N) Tryz.f41 (z20g N) z20pk (z20LP N) x y = script_CheckValue_1 N x.1 := by kernel_rfl
theorem z20sound (N : Nat) : Snd 41 (z20g N) :=
 sndL (z20fn_ok N) Tryz.func41 rfl Tryz.call41 (z20g N) z20pk (fun _ _ => rfl) N (z20LP N) (show LoopsOk (z20LP N) (z20E N) N (resD (z20E N) Tryz.f41 (z20g N) z20pk) [] from trivial) (z20core N)
def z50L0T (_N : Nat) (x0 : Str) (c5 : Int) (k0 : Option Bool) (self : Int → Option Bool) (s6 : Int) : Option Bool :=
 br (decide (s6 < c5))
  (bnd (geti x0 s6) fun t11 =>
  br (t11 != (10 : UInt8))
   (bnd (geti x0 s6) fun t16 =>
   br (decide (t16 < (32 : UInt8)))
    (some false)
    (bnd (geti x0 s6) fun t21 =>
    br (decide (t21 > (126 : UInt8)))
     (some false)
     (self (IntKind.i64.wrap (s6 + (1 : Int))))))
   (self (IntKind.i64.wrap (s6 + (1 : Int)))))
  (k0)
def z50L0 (N : Nat) (x0 : Str) (c5 : Int) (k0 : Option Bool) : Nat → Int → Option Bool
 | 0, _ => none
 | n + 1, s6 => z50L0T N x0 c5 k0 (z50L0 N x0 c5 k0 n) s6
def script_isText (N : Nat) (x0 : Str) : Option Bool :=
 z50L0 N x0 (x0.length : Int) (some true) N (0 : Int)
abbrev z50sg (f : SV [.v .str] → BV [] → Option (Bool)) : AF := { ps := [.v .str], bs := [], rs := [.v .bool], cs := [], R := Bool, out := fun z => ((z, ()), ()), f := f }
noncomputable abbrev z50g (N : Nat) : AF := z50sg fun x _ => script_isText N x.1
abbrev z50pk : SV [.v .bool] → BV [] → Bool := fun x _ => x.1
def z50fn (_N : Nat) : FuncId → Option Tmp → Option AF := fun f _ =>
 match f with
  | _ => none
theorem z50fn_ok (N : Nat) : FnOk (z50fn N) := by
 intro f q F h
 unfold z50fn at h
 split at h
 · cases h
def z50h : Nat → Hint := fun i =>
 match i with
 | 0 => ⟨[], [0, 5, 6], [], [], [], []⟩
 | _ => hint0
abbrev z50E (N : Nat) : Env := mkE z50h (z50fn N) FF FF
noncomputable abbrev z50c0 : Code := cAt (bodyOf Tryz.f42) [true, false, true, false, false]
noncomputable abbrev z50R (N : Nat) := resD (z50E N) Tryz.f42 (z50g N) z50pk
abbrev z50L0_fs : List (Nat × Sl) := [(0, .v .str), (5, .v τ5), (6, .v τ5)]
abbrev z50L0_bs : List (Nat × Sb) := []
def z50L0_hd (x0 : Str) (c5 : Int) (s6 : Int) : St := ⟨26, [(0, .v .str x0), (5, .v τ5 c5), (6, .v τ5 s6)], []⟩
def z50L0_tl0 (_x0 : Str) (_c5 : Int) : St := ⟨26, [], []⟩
def z50L0_G (N : Nat) (x0 : Str) (c5 : Int) (s6 : Int) (k : Ex → St → Option Bool) : Option Bool :=
 z50L0 N x0 c5 (k (.exit 0) (z50L0_tl0 x0 c5)) N s6
abbrev z50L0_F (N : Nat) : FV z50L0_fs → HV z50L0_bs → (Ex → St → Option Bool) → Option Bool := fun x _ k => z50L0_G N x.1 x.2.1 x.2.2.1 k
noncomputable def z50LP (N : Nat) : Nat → Code → St → (Ex → St → Option Bool) → Option Bool := fun i c =>
 match i with
 | 0 => (LPc 26 z50L0_fs z50L0_bs (z50L0_F N) (fun st k => iter (z50h 0) (exec (z50E N) N c 0) N st k))
 | i => fun st k => iter (z50h i) (exec (z50E N) N c i) N st k
theorem z50L0_step (N : Nat) (x0 : Str) (c5 : Int) (KX : Nat → St → Option Bool) (I : St → Option Bool) (s6 : Int) :
  execL (z50LP N) (z50E N) z50c0 0 (z50L0_hd x0 c5 s6) (roundK (z50h 0) I KX (z50R N)) = z50L0T N x0 c5 (KX 0 (z50L0_tl0 x0 c5)) (fun s6 => I (z50L0_hd x0 c5 s6)) s6 := by kernel_rfl
theorem z50L0_ok (N : Nat) : ∀ x y k, (∀ st, k .ret st = (z50R N) st) → iter (z50h 0) (exec (z50E N) N z50c0 0) N ⟨26, unF z50L0_fs x, unH z50L0_bs y⟩ k = z50L0_F N x y k := fun x _ k hk =>
 iter_link (S := (Int) × Unit) (z50h 0) _ (execL (z50LP N) (z50E N) z50c0 0) (z50R N) (fun st k hk => execL_eq _ _ N _ z50c0 0 (show LoopsOk (z50LP N) (z50E N) N (z50R N) [] from trivial) st k hk) (fun s => z50L0_hd x.1 x.2.1 s.1) k hk
  (fun self s => z50L0T N x.1 x.2.1 (k (.exit 0) (z50L0_tl0 x.1 x.2.1)) (fun s6 => self (s6, ())) s.1) (fun n s => z50L0 N x.1 x.2.1 (k (.exit 0) (z50L0_tl0 x.1 x.2.1)) n s.1) (fun _ => rfl) (fun _ _ => rfl)
  (fun I s => z50L0_step N x.1 x.2.1 (fun j => k (.exit j)) I s.1) N (x.2.2.1, ())
theorem z50lp0 (N : Nat) : ∀ st k, (∀ st, k .ret st = (z50R N) st) → z50LP N 0 z50c0 st k = iter (Env.hint (z50E N) 0) (exec (z50E N) N z50c0 0) N st k := fun st k hk => LPc_eq 26 z50L0_fs z50L0_bs _ _ (z50R N) (z50L0_ok N) _ st k hk (rfl)
theorem z50core (N : Nat) (x : SV [.v .str]) (y : BV []) : runL (z50E N) Tryz.f42 (z50g N) z50pk (z50LP N) x y = script_isText N x.1 := by kernel_rfl
theorem z50sound (N : Nat) : Snd 42 (z50g N) :=
 sndL (z50fn_ok N) Tryz.func42 rfl Tryz.call42 (z50g N) z50pk (fun _ _ => rfl) N (z50LP N) (show LoopsOk (z50LP N) (z50E N) N (z50R N) [(0, z50c0)] from ⟨z50lp0 N, trivial⟩) (z50core N)
def script_CheckValue_2 (N : Nat) (x0 : Str) : Option Bool :=
 bnd (script_isText N x0) fun t4 =>
 some (!t4)
abbrev z21sg (f : SV [.v .str] → BV [] → Option (Bool)) : AF := { ps := [.v .str], bs := [], rs := [.v .bool], cs := [], R := Bool, out := fun z => ((z, ()), ()), f := f }
noncomputable abbrev z21g (N : Nat) : AF := z21sg fun x _ => script_CheckValue_2 N x.1
abbrev z21pk : SV [.v .bool] → BV [] → Bool := fun x _ => x.1
def z21fn (N : Nat) : FuncId → Option Tmp → Option AF := fun f _ =>
 match f with
  | 42 => some (z50g N)
  | _ => none
theorem z21fn_ok (N : Nat) : FnOk (z21fn N) := by
 intro f q F h
 unfold z21fn at h
 split at h
 · cases h; exact z50sound N
 · cases h
def z21h : Nat → Hint := fun i =>
 match i with
 | _ => hint0
abbrev z21E (N : Nat) : Env := mkE z21h (z21fn N) FF FF
noncomputable def z21LP (N : Nat) : Nat → Code → St → (Ex → St → Option Bool) → Option Bool := fun i c =>
 match i with
 | i => fun st k => iter (z21h i) (exec (z21E N) N c i) N st k
theorem z21core (N : Nat) (x : SV [.v .str]) (y : BV []) : runL (z21E N) Tryz.f43 (z21g N) z21pk (z21LP N) x y = script_CheckValue_2 N x.1 := by kernel_rfl
theorem z21sound (N : Nat) : Snd 43 (z21g N) :=
 sndL (z21fn_ok N) Tryz.func43 rfl Tryz.call43 (z21g N) z21pk (fun _ _ => rfl) N (z21LP N) (show LoopsOk (z21LP N) (z21E N) N (resD (z21E N) Tryz.f43 (z21g N) z21pk) [] from trivial) (z21core N)
def script_checkText (N : Nat) (x0 : Str) : Option Int :=
 br (decide ((x0.length : Int) > (1000 : Int)))
  (some (2 : Int))
  (bnd (script_isText N x0) fun t7 =>
  br (!t7)
   (some (3 : Int))
   (some (0 : Int)))
abbrev z35sg (f : SV [.v .str] → BV [] → Option (Int)) : AF := { ps := [.v .str], bs := [], rs := [.v τ5], cs := [], R := Int, out := fun z => ((z, ()), ()), f := f }
noncomputable abbrev z35g (N : Nat) : AF := z35sg fun x _ => script_checkText N x.1
abbrev z35pk : SV [.v τ5] → BV [] → Int := fun x _ => x.1
def z35fn (N : Nat) : FuncId → Option Tmp → Option AF := fun f _ =>
 match f with
  | 42 => some (z50g N)
  | _ => none
theorem z35fn_ok (N : Nat) : FnOk (z35fn N) := by
 intro f q F h
 unfold z35fn at h
 split at h
 · cases h; exact z50sound N
 · cases h
def z35h : Nat → Hint := fun i =>
 match i with
 | _ => hint0
abbrev z35E (N : Nat) : Env := mkE z35h (z35fn N) FF FF
noncomputable def z35LP (N : Nat) : Nat → Code → St → (Ex → St → Option Int) → Option Int := fun i c =>
 match i with
 | i => fun st k => iter (z35h i) (exec (z35E N) N c i) N st k
theorem z35core (N : Nat) (x : SV [.v .str]) (y : BV []) : runL (z35E N) Tryz.f88 (z35g N) z35pk (z35LP N) x y = script_checkText N x.1 := by kernel_rfl
theorem z35sound (N : Nat) : Snd 88 (z35g N) :=
 sndL (z35fn_ok N) Tryz.func88 rfl Tryz.call88 (z35g N) z35pk (fun _ _ => rfl) N (z35LP N) (show LoopsOk (z35LP N) (z35E N) N (resD (z35E N) Tryz.f88 (z35g N) z35pk) [] from trivial) (z35core N)
def script_checkCases_1 (_N : Nat) (x0 : Str × GValue) (x1 : Str × GValue) : Option Bool :=
 some (x0.1 == x1.1)
abbrev z22sg (f : SV [.v τ11, .v (.ptr τ11)] → BV [] → Option (Bool)) : AF := { ps := [.v τ11, .v (.ptr τ11)], bs := [], rs := [.v .bool], cs := [], R := Bool, out := fun z => ((z, ()), ()), f := f }
noncomputable abbrev z22g (N : Nat) : AF := z22sg fun x _ => script_checkCases_1 N x.1 x.2.1
abbrev z22pk : SV [.v .bool] → BV [] → Bool := fun x _ => x.1
def z22fn (_N : Nat) : FuncId → Option Tmp → Option AF := fun f _ =>
 match f with
  | _ => none
theorem z22fn_ok (N : Nat) : FnOk (z22fn N) := by
 intro f q F h
 unfold z22fn at h
 split at h
 · cases h
def z22h : Nat → Hint := fun i =>
 match i with
 | _ => hint0
abbrev z22E (N : Nat) : Env := mkE z22h (z22fn N) FF FF
noncomputable def z22LP (N : Nat) : Nat → Code → St → (Ex → St → Option Bool) → Option Bool := fun i c =>
 match i with
 | i => fun st k => iter (z22h i) (exec (z22E N) N c i) N st k
theorem z22core (N : Nat) (x : SV [.v τ11, .v (.ptr τ11)]) (y : BV []) : runL (z22E N) Tryz.f90 (z22g N) z22pk (z22LP N) x y = script_checkCases_1 N x.1 x.2.1 := by kernel_rfl
theorem z22sound (N : Nat) : Snd 90 (z22g N) :=
 sndL (z22fn_ok N) Tryz.func90 rfl Tryz.call90 (z22g N) z22pk (fun _ _ => rfl) N (z22LP N) (show LoopsOk (z22LP N) (z22E N) N (resD (z22E N) Tryz.f90 (z22g N) z22pk) [] from trivial) (z22core N)
def z12L0T (N : Nat) (x0 : List τ0) (x1 : τ0 × Unit) (c7 : Int) (k0 : Option Int) (self : Int → Option Int) (s8 : Int) : Option Int :=
 br (decide (s8 < c7))
  (bnd (geti x0 s8) fun t14 =>
  bnd (script_checkCases_1 N t14 x1.1) fun t16 =>
  br (t16)
   (some s8)
   (self (IntKind.i64.wrap (s8 + (1 : Int)))))
  (k0)
def z12L0 (N : Nat) (x0 : List τ0) (x1 : τ0 × Unit) (c7 : Int) (k0 : Option Int) : Nat → Int → Option Int
 | 0, _ => none
 | n + 1, s8 => z12L0T N x0 x1 c7 k0 (z12L0 N x0 x1 c7 k0 n) s8
def slices_IndexFunc_api_Case (N : Nat) (x0 : List τ0) (x1 : τ0 × Unit) : Option Int :=
 z12L0 N x0 x1 (x0.length : Int) (some (-1 : Int)) N (0 : Int)
abbrev z12sg (f : SV [.v τ1, .v (.clo 90 (.pr (.ptr τ11) .un))] → BV [] → Option (Int)) : AF := { ps := [.v τ1, .v (.clo 90 (.pr (.ptr τ11) .un))], bs := [], rs := [.v τ5], cs := [], R := Int, out := fun z => ((z, ()), ()), f := f }
noncomputable abbrev z12g (N : Nat) : AF := z12sg fun x _ => slices_IndexFunc_api_Case N x.1 x.2.1
abbrev z12pk : SV [.v τ5] → BV [] → Int := fun x _ => x.1
def z12fn (N : Nat) : FuncId → Option Tmp → Option AF := fun f _ =>
 match f with
  | 90 => some (z22g N)
  | _ => none
theorem z12fn_ok (N : Nat) : FnOk (z12fn N) := by
 intro f q F h
 unfold z12fn at h
 split at h
 · cases h; exact z22sound N
 · cases h
def z12h : Nat → Hint := fun i =>
 match i with
 | 0 => ⟨[], [0, 1, 7, 8], [], [], [], []⟩
 | _ => hint0
abbrev z12E (N : Nat) : Env := mkE z12h (z12fn N) FF FF
noncomputable abbrev z12c0 : Code := cAt (bodyOf Tryz.f133) [true, false, true, false, false]
noncomputable abbrev z12R (N : Nat) := resD (z12E N) Tryz.f133 (z12g N) z12pk
abbrev z12L0_fs : List (Nat × Sl) := [(0, .v τ1), (1, .v (.clo 90 (.pr (.ptr τ11) .un))), (7, .v τ5), (8, .v τ5)]
abbrev z12L0_bs : List (Nat × Sb) := []
def z12L0_hd (x0 : List τ0) (x1 : τ0 × Unit) (c7 : Int) (s8 : Int) : St := ⟨19, [(0, .v τ1 x0), (1, .v (.clo 90 (.pr (.ptr τ11) .un)) x1), (7, .v τ5 c7), (8, .v τ5 s8)], []⟩
def z12L0_tl0 (_x0 : List τ0) (_x1 : τ0 × Unit) (_c7 : Int) : St := ⟨19, [], []⟩
def z12L0_G (N : Nat) (x0 : List τ0) (x1 : τ0 × Unit) (c7 : Int) (s8 : Int) (k : Ex → St → Option Int) : Option Int :=
 z12L0 N x0 x1 c7 (k (.exit 0) (z12L0_tl0 x0 x1 c7)) N s8
abbrev z12L0_F (N : Nat) : FV z12L0_fs → HV z12L0_bs → (Ex → St → Option Int) → Option Int := fun x _ k => z12L0_G N x.1 x.2.1 x.2.2.1 x.2.2.2.1 k
noncomputable def z12LP (N : Nat) : Nat → Code → St → (Ex → St → Option Int) → Option Int := fun i c =>
 match i with
 | 0 => (LPc 19 z12L0_fs z12L0_bs (z12L0_F N) (fun st k => iter (z12h 0) (exec (z12E N) N c 0) N st k))
 | i => fun st k => iter (z12h i) (exec (z12E N) N c i) N st k
theorem z12L0_step (N : Nat) (x0 : List τ0) (x1 : τ0 × Unit) (c7 : Int) (KX : Nat → St → Option Int) (I : St → Option Int) (s8 : Int) :
  execL (z12LP N) (z12E N) z12c0 0 (z12L0_hd x0 x1 c7 s8) (roundK (z12h 0) I KX (z12R N)) = z12L0T N x0 x1 c7 (KX 0 (z12L0_tl0 x0 x1 c7)) (fun s8 => I (z12L0_hd x0 x1 c7 s8)) s8 := by kernel_rfl
theorem z12L0_ok (N : Nat) : ∀ x y k, (∀ st, k .ret st = (z12R N) st) → iter (z12h 0) (exec (z12E N) N z12c0 0) N ⟨19, unF z12L0_fs x, unH z12L0_bs y⟩ k = z12L0_F N x y k := fun x _ k hk =>
 iter_link (S := (Int) × Unit) (z12h 0) _ (execL (z12LP N) (z12E N) z12c0 0) (z12R N) (fun st k hk => execL_eq _ _ N _ z12c0 0 (show LoopsOk (z12LP N) (z12E N) N (z12R N) [] from trivial) st k hk) (fun s => z12L0_hd x.1 x.2.1 x.2.2.1 s.1) k hk
  (fun self s => z12L0T N x.1 x.2.1 x.2.2.1 (k (.exit 0) (z12L0_tl0 x.1 x.2.1 x.2.2.1)) (fun s8 => self (s8, ())) s.1) (fun n s => z12L0 N x.1 x.2.1 x.2.2.1 (k (.exit 0) (z12L0_tl0 x.1 x.2.1 x.2.2.1)) n s.1) (fun _ => rfl) (fun _ _ => rfl)
  (fun I s => z12L0_step N x.1 x.2.1 x.2.2.1 (fun j => k (.exit j)) I s.1) N (x.2.2.2.1, ())
theorem z12lp0 (N : Nat) : ∀ st k, (∀ st, k .ret st = (z12R N) st) → z12LP N 0 z12c0 st k = iter (Env.hint (z12E N) 0) (exec (z12E N) N z12c0 0) N st k := fun st k hk => LPc_eq 19 z12L0_fs z12L0_bs _ _ (z12R N) (z12L0_ok N) _ st k hk (rfl)
theorem z12core (N : Nat) (x : SV [.v τ1, .v (.clo 90 (.pr (.ptr τ11) .un))]) (y : BV []) : runL (z12E N) Tryz.f133 (z12g N) z12pk (z12LP N) x y = slices_IndexFunc_api_Case N x.1 x.2.1 := by kernel_rfl
theorem z12sound (N : Nat) : Snd 133 (z12g N) :=
 sndL (z12fn_ok N) Tryz.func133 rfl Tryz.call133 (z12g N) z12pk (fun _ _ => rfl) N (z12LP N) (show LoopsOk (z12LP N) (z12E N) N (z12R N) [(0, z12c0)] from ⟨z12lp0 N, trivial⟩) (z12core N)
def slices_ContainsFunc_api_Case (N : Nat) (x0 : List τ0) (x1 : τ0 × Unit) : Option Bool :=
 bnd (slices_IndexFunc_api_Case N x0 x1) fun t7 =>
 some (decide (t7 ≥ (0 : Int)))
abbrev z6sg (f : SV [.v τ1, .v (.clo 90 (.pr (.ptr τ11) .un))] → BV [] → Option (Bool)) : AF := { ps := [.v τ1, .v (.clo 90 (.pr (.ptr τ11) .un))], bs := [], rs := [.v .bool], cs := [], R := Bool, out := fun z => ((z, ()), ()), f := f }
noncomputable abbrev z6g (N : Nat) : AF := z6sg fun x _ => slices_ContainsFunc_api_Case N x.1 x.2.1
abbrev z6pk : SV [.v .bool] → BV [] → Bool := fun x _ => x.1
def z6fn (N : Nat) : FuncId → Option Tmp → Option AF := fun f _ =>
 match f with
  | 133 => some (z12g N)
  | _ => none
theorem z6fn_ok (N : Nat) : FnOk (z6fn N) := by
 intro f q F h
 unfold z6fn at h
 split at h
 · cases h; exact z12sound N
 · cases h
def z6h : Nat → Hint := fun i =>
 match i with
 | _ => hint0
abbrev z6E (N : Nat) : Env := mkE z6h (z6fn N) FF FF
noncomputable def z6LP (N : Nat) : Nat → Code → St → (Ex → St → Option Bool) → Option Bool := fun i c =>
 match i with
 | i => fun st k => iter (z6h i) (exec (z6E N) N c i) N st k
theorem z6core (N : Nat) (x : SV [.v τ1, .v (.clo 90 (.pr (.ptr τ11) .un))]) (y : BV []) : runL (z6E N) Tryz.f89 (z6g N) z6pk (z6LP N) x y = slices_ContainsFunc_api_Case N x.1 x.2.1 := by kernel_rfl
theorem z6sound (N : Nat) : Snd 89 (z6g N) :=
 sndL (z6fn_ok N) Tryz.func89 rfl Tryz.call89 (z6g N) z6pk (fun _ _ => rfl) N (z6LP N) (show LoopsOk (z6LP N) (z6E N) N (resD (z6E N) Tryz.f89 (z6g N) z6pk) [] from trivial) (z6core N)
def z3L0T (N : Nat) (x0 : List Str) (c7 : Int) (k0 : Option Int) (self : Int → Option Int) (s8 : Int) : Option Int :=
 br (decide (s8 < c7))
  (bnd (geti x0 s8) fun t14 =>
  bnd (script_CheckValue_1 N t14) fun t16 =>
  br (t16)
   (some s8)
   (self (IntKind.i64.wrap (s8 + (1 : Int)))))
  (k0)
def z3L0 (N : Nat) (x0 : List Str) (c7 : Int) (k0 : Option Int) : Nat → Int → Option Int
 | 0, _ => none
 | n + 1, s8 => z3L0T N x0 c7 k0 (z3L0 N x0 c7 k0 n) s8
def slices_IndexFunc_string_string (N : Nat) (x0 : List Str) (_x1 : Unit) : Option Int :=
 z3L0 N x0 (x0.length : Int) (some (-1 : Int)) N (0 : Int)
abbrev z3sg (f : SV [.v τ13, .v (.clo 41 .un)] → BV [] → Option (Int)) : AF := { ps := [.v τ13, .v (.clo 41 .un)], bs := [], rs := [.v τ5], cs := [], R := Int, out := fun z => ((z, ()), ()), f := f }
noncomputable abbrev z3g (N : Nat) : AF := z3sg fun x _ => slices_IndexFunc_string_string N x.1 x.2.1
abbrev z3pk : SV [.v τ5] → BV [] → Int := fun x _ => x.1
def z3fn (N : Nat) : FuncId → Option Tmp → Option AF := fun f _ =>
 match f with
  | 41 => some (z20g N)
  | _ => none
theorem z3fn_ok (N : Nat) : FnOk (z3fn N) := by
 intro f q F h
 unfold z3fn at h
 split at h
 · cases h; exact z20sound N
 · cases h
def z3h : Nat → Hint := fun i =>
 match i with
 | 0 => ⟨[], [0, 1, 7, 8], [], [], [], []⟩
 | _ => hint0
abbrev z3E (N : Nat) : Env := mkE z3h (z3fn N) FF FF
noncomputable abbrev z3c0 : Code := cAt (bodyOf Tryz.f87) [true, false, true, false, false]
noncomputable abbrev z3R (N : Nat) := resD (z3E N) Tryz.f87 (z3g N) z3pk
abbrev z3L0_fs : List (Nat × Sl) := [(0, .v τ13), (1, .v (.clo 41 .un)), (7, .v τ5), (8, .v τ5)]
abbrev z3L0_bs : List (Nat × Sb) := []
def z3L0_hd (x0 : List Str) (x1 : Unit) (c7 : Int) (s8 : Int) : St := ⟨19, [(0, .v τ13 x0), (1, .v (.clo 41 .un) x1), (7, .v τ5 c7), (8, .v τ5 s8)], []⟩
def z3L0_tl0 (_x0 : List Str) (_x1 : Unit) (_c7 : Int) : St := ⟨19, [], []⟩
def z3L0_G (N : Nat) (x0 : List Str) (x1 : Unit) (c7 : Int) (s8 : Int) (k : Ex → St → Option Int) : Option Int :=
 z3L0 N x0 c7 (k (.exit 0) (z3L0_tl0 x0 x1 c7)) N s8
abbrev z3L0_F (N : Nat) : FV z3L0_fs → HV z3L0_bs → (Ex → St → Option Int) → Option Int := fun x _ k => z3L0_G N x.1 x.2.1 x.2.2.1 x.2.2.2.1 k
noncomputable def z3LP (N : Nat) : Nat → Code → St → (Ex → St → Option Int) → Option Int := fun i c =>
 match i with
 | 0 => (LPc 19 z3L0_fs z3L0_bs (z3L0_F N) (fun st k => iter (z3h 0) (exec (z3E N) N c 0) N st k))
 | i => fun st k => iter (z3h i) (exec (z3E N) N c i) N st k
theorem z3L0_step (N : Nat) (x0 : List Str) (x1 : Unit) (c7 : Int) (KX : Nat → St → Option Int) (I : St → Option Int) (s8 : Int) :
  execL (z3LP N) (z3E N) z3c0 0 (z3L0_hd x0 x1 c7 s8) (roundK (z3h 0) I KX (z3R N)) = z3L0T N x0 c7 (KX 0 (z3L0_tl0 x0 x1 c7)) (fun s8 => I (z3L0_hd x0 x1 c7 s8)) s8 := by kernel_rfl
theorem z3L0_ok (N : Nat) : ∀ x y k, (∀ st, k .ret st = (z3R N) st) → iter (z3h 0) (exec (z3E N) N z3c0 0) N ⟨19, unF z3L0_fs x, unH z3L0_bs y⟩ k = z3L0_F N x y k := fun x _ k hk =>
 iter_link (S := (Int) × Unit) (z3h 0) _ (execL (z3LP N) (z3E N) z3c0 0) (z3R N) (fun st k hk => execL_eq _ _ N _ z3c0 0 (show LoopsOk (z3LP N) (z3E N) N (z3R N) [] from trivial) st k hk) (fun s => z3L0_hd x.1 x.2.1 x.2.2.1 s.1) k hk
  (fun self s => z3L0T N x.1 x.2.2.1 (k (.exit 0) (z3L0_tl0 x.1 x.2.1 x.2.2.1)) (fun s8 => self (s8, ())) s.1) (fun n s => z3L0 N x.1 x.2.2.1 (k (.exit 0) (z3L0_tl0 x.1 x.2.1 x.2.2.1)) n s.1) (fun _ => rfl) (fun _ _ => rfl)
  (fun I s => z3L0_step N x.1 x.2.1 x.2.2.1 (fun j => k (.exit j)) I s.1) N (x.2.2.2.1, ())
theorem z3lp0 (N : Nat) : ∀ st k, (∀ st, k .ret st = (z3R N) st) → z3LP N 0 z3c0 st k = iter (Env.hint (z3E N) 0) (exec (z3E N) N z3c0 0) N st k := fun st k hk => LPc_eq 19 z3L0_fs z3L0_bs _ _ (z3R N) (z3L0_ok N) _ st k hk (rfl)
theorem z3core (N : Nat) (x : SV [.v τ13, .v (.clo 41 .un)]) (y : BV []) : runL (z3E N) Tryz.f87 (z3g N) z3pk (z3LP N) x y = slices_IndexFunc_string_string N x.1 x.2.1 := by kernel_rfl
theorem z3sound (N : Nat) : Snd 87 (z3g N) :=
 sndL (z3fn_ok N) Tryz.func87 rfl Tryz.call87 (z3g N) z3pk (fun _ _ => rfl) N (z3LP N) (show LoopsOk (z3LP N) (z3E N) N (z3R N) [(0, z3c0)] from ⟨z3lp0 N, trivial⟩) (z3core N)
def slices_ContainsFunc_string_string (N : Nat) (x0 : List Str) (x1 : Unit) : Option Bool :=
 bnd (slices_IndexFunc_string_string N x0 x1) fun t7 =>
 some (decide (t7 ≥ (0 : Int)))
abbrev z1sg (f : SV [.v τ13, .v (.clo 41 .un)] → BV [] → Option (Bool)) : AF := { ps := [.v τ13, .v (.clo 41 .un)], bs := [], rs := [.v .bool], cs := [], R := Bool, out := fun z => ((z, ()), ()), f := f }
noncomputable abbrev z1g (N : Nat) : AF := z1sg fun x _ => slices_ContainsFunc_string_string N x.1 x.2.1
abbrev z1pk : SV [.v .bool] → BV [] → Bool := fun x _ => x.1
def z1fn (N : Nat) : FuncId → Option Tmp → Option AF := fun f _ =>
 match f with
  | 87 => some (z3g N)
  | _ => none
theorem z1fn_ok (N : Nat) : FnOk (z1fn N) := by
 intro f q F h
 unfold z1fn at h
 split at h
 · cases h; exact z3sound N
 · cases h
def z1h : Nat → Hint := fun i =>
 match i with
 | _ => hint0
abbrev z1E (N : Nat) : Env := mkE z1h (z1fn N) FF FF
noncomputable def z1LP (N : Nat) : Nat → Code → St → (Ex → St → Option Bool) → Option Bool := fun i c =>
 match i with
 | i => fun st k => iter (z1h i) (exec (z1E N) N c i) N st k
theorem z1core (N : Nat) (x : SV [.v τ13, .v (.clo 41 .un)]) (y : BV []) : runL (z1E N) Tryz.f40 (z1g N) z1pk (z1LP N) x y = slices_ContainsFunc_string_string N x.1 x.2.1 := by kernel_rfl
theorem z1sound (N : Nat) : Snd 40 (z1g N) :=
 sndL (z1fn_ok N) Tryz.func40 rfl Tryz.call40 (z1g N) z1pk (fun _ _ => rfl) N (z1LP N) (show LoopsOk (z1LP N) (z1E N) N (resD (z1E N) Tryz.f40 (z1g N) z1pk) [] from trivial) (z1core N)
def z2L0T (N : Nat) (x0 : List Str) (c7 : Int) (k0 : Option Int) (self : Int → Option Int) (s8 : Int) : Option Int :=
 br (decide (s8 < c7))
  (bnd (geti x0 s8) fun t14 =>
  bnd (script_CheckValue_2 N t14) fun t16 =>
  br (t16)
   (some s8)
   (self (IntKind.i64.wrap (s8 + (1 : Int)))))
  (k0)
def z2L0 (N : Nat) (x0 : List Str) (c7 : Int) (k0 : Option Int) : Nat → Int → Option Int
 | 0, _ => none
 | n + 1, s8 => z2L0T N x0 c7 k0 (z2L0 N x0 c7 k0 n) s8
def slices_IndexFunc_string_string_2 (N : Nat) (x0 : List Str) (_x1 : Unit) : Option Int :=
 z2L0 N x0 (x0.length : Int) (some (-1 : Int)) N (0 : Int)
abbrev z2sg (f : SV [.v τ13, .v (.clo 43 .un)] → BV [] → Option (Int)) : AF := { ps := [.v τ13, .v (.clo 43 .un)], bs := [], rs := [.v τ5], cs := [], R := Int, out := fun z => ((z, ()), ()), f := f }
noncomputable abbrev z2g (N : Nat) : AF := z2sg fun x _ => slices_IndexFunc_string_string_2 N x.1 x.2.1
abbrev z2pk : SV [.v τ5] → BV [] → Int := fun x _ => x.1
def z2fn (N : Nat) : FuncId → Option Tmp → Option AF := fun f _ =>
 match f with
  | 43 => some (z21g N)
  | _ => none
theorem z2fn_ok (N : Nat) : FnOk (z2fn N) := by
 intro f q F h
 unfold z2fn at h
 split at h
 · cases h; exact z21sound N
 · cases h
def z2h : Nat → Hint := fun i =>
 match i with
 | 0 => ⟨[], [0, 1, 7, 8], [], [], [], []⟩
 | _ => hint0
abbrev z2E (N : Nat) : Env := mkE z2h (z2fn N) FF FF
noncomputable abbrev z2R (N : Nat) := resD (z2E N) Tryz.f87 (z2g N) z2pk
abbrev z2L0_fs : List (Nat × Sl) := [(0, .v τ13), (1, .v (.clo 43 .un)), (7, .v τ5), (8, .v τ5)]
abbrev z2L0_bs : List (Nat × Sb) := []
def z2L0_hd (x0 : List Str) (x1 : Unit) (c7 : Int) (s8 : Int) : St := ⟨19, [(0, .v τ13 x0), (1, .v (.clo 43 .un) x1), (7, .v τ5 c7), (8, .v τ5 s8)], []⟩
def z2L0_tl0 (_x0 : List Str) (_x1 : Unit) (_c7 : Int) : St := ⟨19, [], []⟩
def z2L0_G (N : Nat) (x0 : List Str) (x1 : Unit) (c7 : Int) (s8 : Int) (k : Ex → St → Option Int) : Option Int :=
 z2L0 N x0 c7 (k (.exit 0) (z2L0_tl0 x0 x1 c7)) N s8
abbrev z2L0_F (N : Nat) : FV z2L0_fs → HV z2L0_bs → (Ex → St → Option Int) → Option Int := fun x _ k => z2L0_G N x.1 x.2.1 x.2.2.1 x.2.2.2.1 k
noncomputable def z2LP (N : Nat) : Nat → Code → St → (Ex → St → Option Int) → Option Int := fun i c =>
 match i with
 | 0 => (LPc 19 z2L0_fs z2L0_bs (z2L0_F N) (fun st k => iter (z2h 0) (exec (z2E N) N c 0) N st k))
 | i => fun st k => iter (z2h i) (exec (z2E N) N c i) N st k
theorem z2L0_step (N : Nat) (x0 : List Str) (x1 : Unit) (c7 : Int) (KX : Nat → St → Option Int) (I : St → Option Int) (s8 : Int) :
  execL (z2LP N) (z2E N) z3c0 0 (z2L0_hd x0 x1 c7 s8) (roundK (z2h 0) I KX (z2R N)) = z2L0T N x0 c7 (KX 0 (z2L0_tl0 x0 x1 c7)) (fun s8 => I (z2L0_hd x0 x1 c7 s8)) s8 := by kernel_rfl
theorem z2L0_ok (N : Nat) : ∀ x y k, (∀ st, k .ret st = (z2R N) st) → iter (z2h 0) (exec (z2E N) N z3c0 0) N ⟨19, unF z2L0_fs x, unH z2L0_bs y⟩ k = z2L0_F N x y k := fun x _ k hk =>
 iter_link (S := (Int) × Unit) (z2h 0) _ (execL (z2LP N) (z2E N) z3c0 0) (z2R N) (fun st k hk => execL_eq _ _ N _ z3c0 0 (show LoopsOk (z2LP N) (z2E N) N (z2R N) [] from trivial) st k hk) (fun s => z2L0_hd x.1 x.2.1 x.2.2.1 s.1) k hk
  (fun self s => z2L0T N x.1 x.2.2.1 (k (.exit 0) (z2L0_tl0 x.1 x.2.1 x.2.2.1)) (fun s8 => self (s8, ())) s.1) (fun n s => z2L0 N x.1 x.2.2.1 (k (.exit 0) (z2L0_tl0 x.1 x.2.1 x.2.2.1)) n s.1) (fun _ => rfl) (fun _ _ => rfl)
  (fun I s => z2L0_step N x.1 x.2.1 x.2.2.1 (fun j => k (.exit j)) I s.1) N (x.2.2.2.1, ())
theorem z2lp0 (N : Nat) : ∀ st k, (∀ st, k .ret st = (z2R N) st) → z2LP N 0 z3c0 st k = iter (Env.hint (z2E N) 0) (exec (z2E N) N z3c0 0) N st k := fun st k hk => LPc_eq 19 z2L0_fs z2L0_bs _ _ (z2R N) (z2L0_ok N) _ st k hk (rfl)
theorem z2core (N : Nat) (x : SV [.v τ13, .v (.clo 43 .un)]) (y : BV []) : runL (z2E N) Tryz.f87 (z2g N) z2pk (z2LP N) x y = slices_IndexFunc_string_string_2 N x.1 x.2.1 := by kernel_rfl
theorem z2sound (N : Nat) : Snd 87 (z2g N) :=
 sndL (z2fn_ok N) Tryz.func87 rfl Tryz.call87 (z2g N) z2pk (fun _ _ => rfl) N (z2LP N) (show LoopsOk (z2LP N) (z2E N) N (z2R N) [(0, z3c0)] from ⟨z2lp0 N, trivial⟩) (z2core N)
def slices_ContainsFunc_string_string_2 (N : Nat) (x0 : List Str) (x1 : Unit) : Option Bool :=
 bnd (slices_IndexFunc_string_string_2 N x0 x1) fun t7 =>
 some (decide (t7 ≥ (0 : Int)))
abbrev z0sg (f : SV [.v τ13, .v (.clo 43 .un)] → BV [] → Option (Bool)) : AF := { ps := [.v τ13, .v (.clo 43 .un)], bs := [], rs := [.v .bool], cs := [], R := Bool, out := fun z => ((z, ()), ()), f := f }
noncomputable abbrev z0g (N : Nat) : AF := z0sg fun x _ => slices_ContainsFunc_string_string_2 N x.1 x.2.1
abbrev z0pk : SV [.v .bool] → BV [] → Bool := fun x _ => x.1
def z0fn (N : Nat) : FuncId → Option Tmp → Option AF := fun f _ =>
 match f with
  | 87 => some (z2g N)
  | _ => none
theorem z0fn_ok (N : Nat) : FnOk (z0fn N) := by
 intro f q F h
 unfold z0fn at h
 split at h
 · cases h; exact z2sound N
 · cases h
def z0h : Nat → Hint := fun i =>
 match i with
 | _ => hint0
abbrev z0E (N : Nat) : Env := mkE z0h (z0fn N) FF FF
noncomputable def z0LP (N : Nat) : Nat → Code → St → (Ex → St → Option Bool) → Option Bool := fun i c =>
 match i with
 | i => fun st k => iter (z0h i) (exec (z0E N) N c i) N st k
theorem z0core (N : Nat) (x : SV [.v τ13, .v (.clo 43 .un)]) (y : BV []) : runL (z0E N) Tryz.f40 (z0g N) z0pk (z0LP N) x y = slices_ContainsFunc_string_string_2 N x.1 x.2.1 := by kernel_rfl
theorem z0sound (N : Nat) : Snd 40 (z0g N) :=
 sndL (z0fn_ok N) Tryz.func40 rfl Tryz.call40 (z0g N) z0pk (fun _ _ => rfl) N (z0LP N) (show LoopsOk (z0LP N) (z0E N) N (resD (z0E N) Tryz.f40 (z0g N) z0pk) [] from trivial) (z0core N)
abbrev z30sg (f : SV [.v τ1] → BV [] → Option (Int)) : AF := { ps := [.v τ1], bs := [], rs := [.v τ5], cs := [], R := Int, out := fun z => ((z, ()), ()), f := f }
end
end Go.Proofs.YtahjncefiegflaaGreatDoor

