/- The types that the printed functions use, as the program has them. -/
import Derived.Test.YtbekhaioddmliaaDoorBmP
import Derived.Test.YtbekhaioddmliaaDoorProg
namespace Go.Proofs.YtbekhaioddmliaaDoor
open Go Go.RowKit
set_option maxRecDepth 100000
abbrev strings_Trim_sg (f : SV [.v .str, .v .str] → BV [] → Option (Str)) : AF := { ps := [.v .str, .v .str], bs := [], rs := [.v .str], cs := [], R := Str, out := fun z => ((z, ()), ()), f := f }
abbrev strings_Trim_pk : SV [.v .str] → BV [] → Str := fun x y => x.1abbrev strings_Join_sg (f : SV [.v (.sl .str), .v .str] → BV [] → Option (Str)) : AF := { ps := [.v (.sl .str), .v .str], bs := [], rs := [.v .str], cs := [], R := Str, out := fun z => ((z, ()), ()), f := f }
abbrev strings_Join_pk : SV [.v .str] → BV [] → Str := fun x y => x.1theorem tyOk_string : TyOk Tryd.prog 9 .str := ⟨_, by kernel_rfl, Tryd.underlying9, rfl⟩
theorem tyOk_ABapiDSetting : TyOk Tryd.prog 22 (.sl (.pr .str (.sl .str))) := ⟨_, by kernel_rfl, Tryd.underlying22, rfl⟩
theorem tyOk_ABapiDPair : TyOk Tryd.prog 23 (.sl (.pr .str .str)) := ⟨_, by kernel_rfl, Tryd.underlying23, rfl⟩
theorem tyOk_ABstring : TyOk Tryd.prog 46 (.sl .str) := ⟨_, by kernel_rfl, Tryd.underlying46, rfl⟩
theorem tyOk_smithyardSapiDPair : TyOk Tryd.prog 60 (.pr .str .str) := ⟨_, by kernel_rfl, Tryd.underlying60, rfl⟩
theorem tyOk_smithyardSapiDSetting : TyOk Tryd.prog 66 (.pr .str (.sl .str)) := ⟨_, by kernel_rfl, Tryd.underlying66, rfl⟩
def tyT : TypeId → Option Ty := fun T =>
  match T with
  | 9 => some .str
  | 22 => some (.sl (.pr .str (.sl .str)))
  | 23 => some (.sl (.pr .str .str))
  | 46 => some (.sl .str)
  | 60 => some (.pr .str .str)
  | 66 => some (.pr .str (.sl .str))
  | _ => none
theorem tyT_ok : ∀ T t, tyT T = some t → TyOk Tryd.prog T t := by
  intro T t h
  unfold tyT at h
  split at h
  · cases h; exact tyOk_string
  · cases h; exact tyOk_ABapiDSetting
  · cases h; exact tyOk_ABapiDPair
  · cases h; exact tyOk_ABstring
  · cases h; exact tyOk_smithyardSapiDPair
  · cases h; exact tyOk_smithyardSapiDSetting
  · cases h
def elT : TypeId → Option (TypeId × Ty) := fun T =>
  match T with
  | 22 => some (66, (.pr .str (.sl .str)))
  | 23 => some (60, (.pr .str .str))
  | 46 => some (9, .str)
  | _ => none
theorem elT_ok : ∀ T e t, elT T = some (e, t) → ElOk Tryd.prog T e t := by
  intro T e t h
  unfold elT at h
  split at h
  · cases h; exact ⟨tyOk_smithyardSapiDSetting, 40, ElemT.mk_ Tryd.underlying22 (z := mkV (.pr .str (.sl .str)) (zeroC (.pr .str (.sl .str)))) (by kernel_rfl) rfl (by decide) (by decide), by decide⟩
  · cases h; exact ⟨tyOk_smithyardSapiDPair, 32, ElemT.mk_ Tryd.underlying23 (z := mkV (.pr .str .str) (zeroC (.pr .str .str))) (by kernel_rfl) rfl (by decide) (by decide), by decide⟩
  · cases h; exact ⟨tyOk_string, 16, ElemT.mk_ Tryd.underlying46 (z := mkV .str (zeroC .str)) (by kernel_rfl) rfl (by decide) (by decide), by decide⟩
  · cases h
def fldT : TypeId → Nat → Option (Nat × Ty) := fun T f =>
  match T, f with
  | 60, 0 => some (0, .str)
  | 60, 1 => some (1, .str)
  | 66, 0 => some (0, .str)
  | 66, 1 => some (1, (.sl .str))
  | _, _ => none
theorem fldT_ok : ∀ T f off t, fldT T f = some (off, t) → FldOk Tryd.prog T f off t := by
  intro T f off t h
  unfold fldT at h
  split at h
  · cases h; exact ⟨_, _, Tryd.underlying60, rfl, rfl, tyOk_string, by decide⟩
  · cases h; exact ⟨_, _, Tryd.underlying60, rfl, rfl, tyOk_string, by decide⟩
  · cases h; exact ⟨_, _, Tryd.underlying66, rfl, rfl, tyOk_string, by decide⟩
  · cases h; exact ⟨_, _, Tryd.underlying66, rfl, rfl, tyOk_ABstring, by decide⟩
  · cases h
theorem mpT_ok : ∀ T e, tyT T = some (.mp e) → MpOk Tryd.prog T e := by
  intro T e h
  unfold tyT at h
  split at h
  · cases h
  · cases h
  · cases h
  · cases h
  · cases h
  · cases h
  · cases h
theorem bldT_ok : ∀ T t, tyT T = some t → t.isAgg = true → ∃ fs places, Tryd.prog.underlying T = some (.struct fs) ∧ fs.toList.mapM (fun f => (Tryd.prog.info? f.type).map fun i => (f.offset, i.size)) = some places := by
  intro T t h ha
  unfold tyT at h
  split at h
  · cases h; cases ha
  · cases h; cases ha
  · cases h; cases ha
  · cases h; cases ha
  · exact ⟨_, [(0, 1), (1, 1)], Tryd.underlying60, by kernel_rfl⟩
  · exact ⟨_, [(0, 1), (1, 1)], Tryd.underlying66, by kernel_rfl⟩
  · cases h
def cmpT : TypeId → Option Ty := fun T =>
  match T with
  | _ => none
theorem cmpT_ok : ∀ T t, cmpT T = some t → CmpOk Tryd.prog T t := by
  intro T t h
  unfold cmpT at h
  split at h
  · cases h
def mkE (h : Nat → Hint) (fn : FuncId → Option AF) (exq : Nat → Bool) (live : FuncId → Bool) : Env := { ty := tyT, el := elT, fld := fldT, cmp := cmpT, fn := fn, hint := h, exq := exq, live := live }
theorem mkE_ok (hh : Nat → Hint) (fn : FuncId → Option AF) (exq : Nat → Bool) (live : FuncId → Bool) (h : ∀ f F, fn f = some F → Sound Tryd.prog GW B0G f F) : EnvOk Tryd.prog GW B0G (mkE hh fn exq live) :=
  { ty := tyT_ok, el := elT_ok, fld := fldT_ok, mp := mpT_ok, bld := bldT_ok, cmp := cmpT_ok, fn := h, stable := GW_stable, mixed := by kernel_rfl }
end Go.Proofs.YtbekhaioddmliaaDoor
