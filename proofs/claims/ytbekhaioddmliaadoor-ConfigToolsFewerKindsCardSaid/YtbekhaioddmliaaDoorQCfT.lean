/- The types that the printed functions use, as the program has them. -/
import Derived.Test.YtbekhaioddmliaaDoorQBmJ
import Derived.Test.YtbekhaioddmliaaDoorQBmQ
import Derived.Test.YtbekhaioddmliaaDoorQBmC
import Derived.Test.YtbekhaioddmliaaDoorQBmF
import Derived.Test.YtbekhaioddmliaaDoorQBmD
import Derived.Test.YtbekhaioddmliaaDoorQBmI
import Derived.Test.YtbekhaioddmliaaDoorProg
namespace Go.Proofs.YtbekhaioddmliaaDoor
open Go Go.RowKit
set_option maxRecDepth 100000
abbrev strings_Trim_sg (f : SV [.v .str, .v .str] → BV [] → Option (Str)) : AF := { ps := [.v .str, .v .str], bs := [], rs := [.v .str], cs := [], R := Str, out := fun z => ((z, ()), ()), f := f }
abbrev strings_Join_sg (f : SV [.v (.sl .str), .v .str] → BV [] → Option (Str)) : AF := { ps := [.v (.sl .str), .v .str], bs := [], rs := [.v .str], cs := [], R := Str, out := fun z => ((z, ()), ()), f := f }
abbrev slices_Delete_string_string_sg (f : SV [.row 0, .v (.int .i64), .v (.int .i64)] → BV [.row 9 .str true] → Option (List Str)) : AF := { ps := [.row 0, .v (.int .i64), .v (.int .i64)], bs := [.row 9 .str true], rs := [.row 0], cs := [.row 9 .str true], R := List Str, out := fun z => (((), ()), (z, ())), f := f }
theorem tyOk_int : TyOk Tryd.prog 3 (.int .i64) := ⟨_, by kernel_rfl, Tryd.underlying3, rfl⟩
theorem tyOk_bool : TyOk Tryd.prog 4 .bool := ⟨_, by kernel_rfl, Tryd.underlying4, rfl⟩
theorem tyOk_string : TyOk Tryd.prog 9 .str := ⟨_, by kernel_rfl, Tryd.underlying9, rfl⟩
theorem tyOk_ABapiDSetting : TyOk Tryd.prog 22 (.sl (.pr .str (.sl .str))) := ⟨_, by kernel_rfl, Tryd.underlying22, rfl⟩
theorem tyOk_ABapiDPair : TyOk Tryd.prog 23 (.sl (.pr .str .str)) := ⟨_, by kernel_rfl, Tryd.underlying23, rfl⟩
theorem tyOk_ABapiDCondition : TyOk Tryd.prog 31 (.sl (.pr .str (.pr (.sl (.pr .str .str)) (.sl (.pr .str .str))))) := ⟨_, by kernel_rfl, Tryd.underlying31, rfl⟩
theorem tyOk_ABapiDPlatform : TyOk Tryd.prog 32 (.sl (.pr .str (.sl (.pr .str .str)))) := ⟨_, by kernel_rfl, Tryd.underlying32, rfl⟩
theorem tyOk_ABapiDTool : TyOk Tryd.prog 33 (.sl (.pr .str (.pr .str (.pr (.sl (.pr .str .str)) (.sl (.pr .str .str)))))) := ⟨_, by kernel_rfl, Tryd.underlying33, rfl⟩
theorem tyOk_smithyardSapiDWorld : TyOk Tryd.prog 36 (.pr (.sl (.pr .str (.sl .str))) (.pr (.sl (.pr .str (.pr (.sl (.pr .str .str)) (.sl (.pr .str .str))))) (.pr (.sl (.pr .str (.sl (.pr .str .str)))) (.pr (.sl (.pr .str (.pr .str (.pr (.sl (.pr .str .str)) (.sl (.pr .str .str)))))) (.sl (.pr .str (.pr (.sl (.pr .str .str)) (.sl .str)))))))) := ⟨_, by kernel_rfl, Tryd.underlying36, rfl⟩
theorem tyOk_smithyardSapiDCondition : TyOk Tryd.prog 38 (.pr .str (.pr (.sl (.pr .str .str)) (.sl (.pr .str .str)))) := ⟨_, by kernel_rfl, Tryd.underlying38, rfl⟩
theorem tyOk_smithyardSapiDPlatform : TyOk Tryd.prog 40 (.pr .str (.sl (.pr .str .str))) := ⟨_, by kernel_rfl, Tryd.underlying40, rfl⟩
theorem tyOk_ABstring : TyOk Tryd.prog 46 (.sl .str) := ⟨_, by kernel_rfl, Tryd.underlying46, rfl⟩
theorem tyOk_smithyardSapiDPair : TyOk Tryd.prog 60 (.pr .str .str) := ⟨_, by kernel_rfl, Tryd.underlying60, rfl⟩
theorem tyOk_smithyardSapiDSetting : TyOk Tryd.prog 66 (.pr .str (.sl .str)) := ⟨_, by kernel_rfl, Tryd.underlying66, rfl⟩
theorem tyOk_ABABapiDPair : TyOk Tryd.prog 69 (.sl (.sl (.pr .str .str))) := ⟨_, by kernel_rfl, Tryd.underlying69, rfl⟩
theorem tyOk_ABapiDCase : TyOk Tryd.prog 74 (.sl (.pr .str (.rc .value))) := ⟨_, by kernel_rfl, Tryd.underlying74, rfl⟩
theorem tyOk_smithyardSapiDValue : TyOk Tryd.prog 76 (.rc .value) := ⟨_, by kernel_rfl, Tryd.underlying76, rfl⟩
theorem tyOk_smithyardSapiDCase : TyOk Tryd.prog 81 (.pr .str (.rc .value)) := ⟨_, by kernel_rfl, Tryd.underlying81, rfl⟩
theorem tyOk_smithyardSapiDTool : TyOk Tryd.prog 103 (.pr .str (.pr .str (.pr (.sl (.pr .str .str)) (.sl (.pr .str .str))))) := ⟨_, by kernel_rfl, Tryd.underlying103, rfl⟩
theorem tyOk_uint : TyOk Tryd.prog 170 (.int .u64) := ⟨_, by kernel_rfl, Tryd.underlying170, rfl⟩
theorem tyOk_ABABstring : TyOk Tryd.prog 192 (.sl (.sl .str)) := ⟨_, by kernel_rfl, Tryd.underlying192, rfl⟩
def tyT : TypeId → Option Ty := fun T =>
  match T with
  | 3 => some (.int .i64)
  | 4 => some .bool
  | 9 => some .str
  | 22 => some (.sl (.pr .str (.sl .str)))
  | 23 => some (.sl (.pr .str .str))
  | 31 => some (.sl (.pr .str (.pr (.sl (.pr .str .str)) (.sl (.pr .str .str)))))
  | 32 => some (.sl (.pr .str (.sl (.pr .str .str))))
  | 33 => some (.sl (.pr .str (.pr .str (.pr (.sl (.pr .str .str)) (.sl (.pr .str .str))))))
  | 36 => some (.pr (.sl (.pr .str (.sl .str))) (.pr (.sl (.pr .str (.pr (.sl (.pr .str .str)) (.sl (.pr .str .str))))) (.pr (.sl (.pr .str (.sl (.pr .str .str)))) (.pr (.sl (.pr .str (.pr .str (.pr (.sl (.pr .str .str)) (.sl (.pr .str .str)))))) (.sl (.pr .str (.pr (.sl (.pr .str .str)) (.sl .str))))))))
  | 38 => some (.pr .str (.pr (.sl (.pr .str .str)) (.sl (.pr .str .str))))
  | 40 => some (.pr .str (.sl (.pr .str .str)))
  | 46 => some (.sl .str)
  | 60 => some (.pr .str .str)
  | 66 => some (.pr .str (.sl .str))
  | 69 => some (.sl (.sl (.pr .str .str)))
  | 74 => some (.sl (.pr .str (.rc .value)))
  | 76 => some (.rc .value)
  | 81 => some (.pr .str (.rc .value))
  | 103 => some (.pr .str (.pr .str (.pr (.sl (.pr .str .str)) (.sl (.pr .str .str)))))
  | 170 => some (.int .u64)
  | 192 => some (.sl (.sl .str))
  | _ => none
theorem tyT_ok : ∀ T t, tyT T = some t → TyOk Tryd.prog T t := by
  intro T t h
  unfold tyT at h
  split at h
  · cases h; exact tyOk_int
  · cases h; exact tyOk_bool
  · cases h; exact tyOk_string
  · cases h; exact tyOk_ABapiDSetting
  · cases h; exact tyOk_ABapiDPair
  · cases h; exact tyOk_ABapiDCondition
  · cases h; exact tyOk_ABapiDPlatform
  · cases h; exact tyOk_ABapiDTool
  · cases h; exact tyOk_smithyardSapiDWorld
  · cases h; exact tyOk_smithyardSapiDCondition
  · cases h; exact tyOk_smithyardSapiDPlatform
  · cases h; exact tyOk_ABstring
  · cases h; exact tyOk_smithyardSapiDPair
  · cases h; exact tyOk_smithyardSapiDSetting
  · cases h; exact tyOk_ABABapiDPair
  · cases h; exact tyOk_ABapiDCase
  · cases h; exact tyOk_smithyardSapiDValue
  · cases h; exact tyOk_smithyardSapiDCase
  · cases h; exact tyOk_smithyardSapiDTool
  · cases h; exact tyOk_uint
  · cases h; exact tyOk_ABABstring
  · cases h
def elT : TypeId → Option (TypeId × Ty) := fun T =>
  match T with
  | 22 => some (66, (.pr .str (.sl .str)))
  | 23 => some (60, (.pr .str .str))
  | 31 => some (38, (.pr .str (.pr (.sl (.pr .str .str)) (.sl (.pr .str .str)))))
  | 32 => some (40, (.pr .str (.sl (.pr .str .str))))
  | 33 => some (103, (.pr .str (.pr .str (.pr (.sl (.pr .str .str)) (.sl (.pr .str .str))))))
  | 46 => some (9, .str)
  | 69 => some (23, (.sl (.pr .str .str)))
  | 74 => some (81, (.pr .str (.rc .value)))
  | 192 => some (46, (.sl .str))
  | _ => none
theorem elT_ok : ∀ T e t, elT T = some (e, t) → ElOk Tryd.prog T e t := by
  intro T e t h
  unfold elT at h
  split at h
  · cases h; exact ⟨tyOk_smithyardSapiDSetting, 40, ElemT.mk_ Tryd.underlying22 (z := mkV (.pr .str (.sl .str)) (zeroC (.pr .str (.sl .str)))) (by kernel_rfl) rfl (by decide) (by decide), by decide⟩
  · cases h; exact ⟨tyOk_smithyardSapiDPair, 32, ElemT.mk_ Tryd.underlying23 (z := mkV (.pr .str .str) (zeroC (.pr .str .str))) (by kernel_rfl) rfl (by decide) (by decide), by decide⟩
  · cases h; exact ⟨tyOk_smithyardSapiDCondition, 64, ElemT.mk_ Tryd.underlying31 (z := mkV (.pr .str (.pr (.sl (.pr .str .str)) (.sl (.pr .str .str)))) (zeroC (.pr .str (.pr (.sl (.pr .str .str)) (.sl (.pr .str .str)))))) (by kernel_rfl) rfl (by decide) (by decide), by decide⟩
  · cases h; exact ⟨tyOk_smithyardSapiDPlatform, 40, ElemT.mk_ Tryd.underlying32 (z := mkV (.pr .str (.sl (.pr .str .str))) (zeroC (.pr .str (.sl (.pr .str .str))))) (by kernel_rfl) rfl (by decide) (by decide), by decide⟩
  · cases h; exact ⟨tyOk_smithyardSapiDTool, 80, ElemT.mk_ Tryd.underlying33 (z := mkV (.pr .str (.pr .str (.pr (.sl (.pr .str .str)) (.sl (.pr .str .str))))) (zeroC (.pr .str (.pr .str (.pr (.sl (.pr .str .str)) (.sl (.pr .str .str))))))) (by kernel_rfl) rfl (by decide) (by decide), by decide⟩
  · cases h; exact ⟨tyOk_string, 16, ElemT.mk_ Tryd.underlying46 (z := mkV .str (zeroC .str)) (by kernel_rfl) rfl (by decide) (by decide), by decide⟩
  · cases h; exact ⟨tyOk_ABapiDPair, 24, ElemT.mk_ Tryd.underlying69 (z := mkV (.sl (.pr .str .str)) (zeroC (.sl (.pr .str .str)))) (by kernel_rfl) rfl (by decide) (by decide), by decide⟩
  · cases h; exact ⟨tyOk_smithyardSapiDCase, 96, ElemT.mk_ Tryd.underlying74 (z := mkV (.pr .str (.rc .value)) (zeroC (.pr .str (.rc .value)))) (by kernel_rfl) rfl (by decide) (by decide), by decide⟩
  · cases h; exact ⟨tyOk_ABstring, 24, ElemT.mk_ Tryd.underlying192 (z := mkV (.sl .str) (zeroC (.sl .str))) (by kernel_rfl) rfl (by decide) (by decide), by decide⟩
  · cases h
def fldT : TypeId → Nat → Option (Nat × Ty) := fun T f =>
  match T, f with
  | 36, 0 => some (0, (.sl (.pr .str (.sl .str))))
  | 36, 1 => some (1, (.sl (.pr .str (.pr (.sl (.pr .str .str)) (.sl (.pr .str .str))))))
  | 36, 2 => some (2, (.sl (.pr .str (.sl (.pr .str .str)))))
  | 36, 3 => some (3, (.sl (.pr .str (.pr .str (.pr (.sl (.pr .str .str)) (.sl (.pr .str .str)))))))
  | 38, 0 => some (0, .str)
  | 38, 1 => some (1, (.sl (.pr .str .str)))
  | 38, 2 => some (2, (.sl (.pr .str .str)))
  | 40, 0 => some (0, .str)
  | 40, 1 => some (1, (.sl (.pr .str .str)))
  | 60, 0 => some (0, .str)
  | 60, 1 => some (1, .str)
  | 66, 0 => some (0, .str)
  | 66, 1 => some (1, (.sl .str))
  | 76, 0 => some (0, (.int .i64))
  | 76, 1 => some (1, .str)
  | 76, 2 => some (2, (.int .i64))
  | 76, 3 => some (3, (.sl .str))
  | 76, 4 => some (4, (.sl (.pr .str (.rc .value))))
  | 81, 0 => some (0, .str)
  | 81, 1 => some (1, (.rc .value))
  | 103, 0 => some (0, .str)
  | 103, 1 => some (1, .str)
  | 103, 2 => some (2, (.sl (.pr .str .str)))
  | 103, 3 => some (3, (.sl (.pr .str .str)))
  | _, _ => none
theorem fldT_ok : ∀ T f off t, fldT T f = some (off, t) → FldOk Tryd.prog T f off t := by
  intro T f off t h
  unfold fldT at h
  split at h
  · cases h; exact ⟨_, _, Tryd.underlying36, rfl, rfl, tyOk_ABapiDSetting, by decide⟩
  · cases h; exact ⟨_, _, Tryd.underlying36, rfl, rfl, tyOk_ABapiDCondition, by decide⟩
  · cases h; exact ⟨_, _, Tryd.underlying36, rfl, rfl, tyOk_ABapiDPlatform, by decide⟩
  · cases h; exact ⟨_, _, Tryd.underlying36, rfl, rfl, tyOk_ABapiDTool, by decide⟩
  · cases h; exact ⟨_, _, Tryd.underlying38, rfl, rfl, tyOk_string, by decide⟩
  · cases h; exact ⟨_, _, Tryd.underlying38, rfl, rfl, tyOk_ABapiDPair, by decide⟩
  · cases h; exact ⟨_, _, Tryd.underlying38, rfl, rfl, tyOk_ABapiDPair, by decide⟩
  · cases h; exact ⟨_, _, Tryd.underlying40, rfl, rfl, tyOk_string, by decide⟩
  · cases h; exact ⟨_, _, Tryd.underlying40, rfl, rfl, tyOk_ABapiDPair, by decide⟩
  · cases h; exact ⟨_, _, Tryd.underlying60, rfl, rfl, tyOk_string, by decide⟩
  · cases h; exact ⟨_, _, Tryd.underlying60, rfl, rfl, tyOk_string, by decide⟩
  · cases h; exact ⟨_, _, Tryd.underlying66, rfl, rfl, tyOk_string, by decide⟩
  · cases h; exact ⟨_, _, Tryd.underlying66, rfl, rfl, tyOk_ABstring, by decide⟩
  · cases h; exact ⟨_, _, Tryd.underlying76, rfl, rfl, tyOk_int, by decide⟩
  · cases h; exact ⟨_, _, Tryd.underlying76, rfl, rfl, tyOk_string, by decide⟩
  · cases h; exact ⟨_, _, Tryd.underlying76, rfl, rfl, tyOk_int, by decide⟩
  · cases h; exact ⟨_, _, Tryd.underlying76, rfl, rfl, tyOk_ABstring, by decide⟩
  · cases h; exact ⟨_, _, Tryd.underlying76, rfl, rfl, tyOk_ABapiDCase, by decide⟩
  · cases h; exact ⟨_, _, Tryd.underlying81, rfl, rfl, tyOk_string, by decide⟩
  · cases h; exact ⟨_, _, Tryd.underlying81, rfl, rfl, tyOk_smithyardSapiDValue, by decide⟩
  · cases h; exact ⟨_, _, Tryd.underlying103, rfl, rfl, tyOk_string, by decide⟩
  · cases h; exact ⟨_, _, Tryd.underlying103, rfl, rfl, tyOk_string, by decide⟩
  · cases h; exact ⟨_, _, Tryd.underlying103, rfl, rfl, tyOk_ABapiDPair, by decide⟩
  · cases h; exact ⟨_, _, Tryd.underlying103, rfl, rfl, tyOk_ABapiDPair, by decide⟩
  · cases h
theorem mpT_ok : ∀ T e, tyT T = some (.mp e) → MpOk Tryd.prog T e := by
  intro T e h
  unfold tyT at h
  split at h
  · cases h
  · cases h
  · cases h
  · cases h
  · cases h
  · cases h
  · cases h
  · cases h
  · cases h
  · cases h
  · cases h
  · cases h
  · cases h
  · cases h
  · cases h
  · cases h
  · cases h
  · cases h
  · cases h
  · cases h
  · cases h
  · cases h
theorem bldT_ok : ∀ T t, tyT T = some t → t.isAgg = true → ∃ fs places, Tryd.prog.underlying T = some (.struct fs) ∧ fs.toList.mapM (fun f => (Tryd.prog.info? f.type).map fun i => (f.offset, i.size)) = some places := by
  intro T t h ha
  unfold tyT at h
  split at h
  · cases h; cases ha
  · cases h; cases ha
  · cases h; cases ha
  · cases h; cases ha
  · cases h; cases ha
  · cases h; cases ha
  · cases h; cases ha
  · cases h; cases ha
  · exact ⟨_, [(0, 1), (1, 1), (2, 1), (3, 1), (4, 1)], Tryd.underlying36, by kernel_rfl⟩
  · exact ⟨_, [(0, 1), (1, 1), (2, 1)], Tryd.underlying38, by kernel_rfl⟩
  · exact ⟨_, [(0, 1), (1, 1)], Tryd.underlying40, by kernel_rfl⟩
  · cases h; cases ha
  · exact ⟨_, [(0, 1), (1, 1)], Tryd.underlying60, by kernel_rfl⟩
  · exact ⟨_, [(0, 1), (1, 1)], Tryd.underlying66, by kernel_rfl⟩
  · cases h; cases ha
  · cases h; cases ha
  · exact ⟨_, [(0, 1), (1, 1), (2, 1), (3, 1), (4, 1)], Tryd.underlying76, by kernel_rfl⟩
  · exact ⟨_, [(0, 1), (1, 5)], Tryd.underlying81, by kernel_rfl⟩
  · exact ⟨_, [(0, 1), (1, 1), (2, 1), (3, 1)], Tryd.underlying103, by kernel_rfl⟩
  · cases h; cases ha
  · cases h; cases ha
  · cases h
theorem cmpOk_smithyardSapiDPair : CmpOk Tryd.prog 60 (.pr .str .str) := CmpOk.flat rfl rfl Tryd.underlying60 (by kernel_rfl) (by kernel_rfl) (.cons rfl (by decide) (.str Tryd.underlying9) (.one rfl (by decide) (.str Tryd.underlying9)))
def cmpT : TypeId → Option Ty := fun T =>
  match T with
  | 60 => some (.pr .str .str)
  | _ => none
theorem cmpT_ok : ∀ T t, cmpT T = some t → CmpOk Tryd.prog T t := by
  intro T t h
  unfold cmpT at h
  split at h
  · cases h; exact cmpOk_smithyardSapiDPair
  · cases h
def mkE (h : Nat → Hint) (fn : FuncId → Option Tmp → Option AF) (exq : Nat → Bool) (live : FuncId → Bool) : Env := { ty := tyT, el := elT, fld := fldT, cmp := cmpT, fn := fn, hint := h, exq := exq, live := live }
theorem mkE_ok (hh : Nat → Hint) (fn : FuncId → Option Tmp → Option AF) (exq : Nat → Bool) (live : FuncId → Bool) (h : ∀ f q F, fn f q = some F → Sound Tryd.prog GW B0G f F) : EnvOk Tryd.prog GW B0G (mkE hh fn exq live) :=
  { ty := tyT_ok, el := elT_ok, fld := fldT_ok, mp := mpT_ok, bld := bldT_ok, cmp := cmpT_ok, fn := h, stable := GW_stable, mixed := by kernel_rfl }
end Go.Proofs.YtbekhaioddmliaaDoor
