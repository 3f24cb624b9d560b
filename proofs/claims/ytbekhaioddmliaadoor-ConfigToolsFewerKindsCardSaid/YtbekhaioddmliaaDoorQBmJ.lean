/- strings.Trim and strings.Join, out of the kit's contracts. -/
import Derived.Test.YtbekhaioddmliaaDoorQBmP
import Derived.Shelf.Strings.SlTrimAscii
namespace Go.Proofs.YtbekhaioddmliaaDoor
set_option linter.unusedVariables false
set_option linter.unusedSimpArgs false
open Go Go.RowKit Go.Shelf
def strings_Trim (a b : Str) : Option Str := if a.length ≤ 9223372036854775807 ∧ b.length < 1000000 ∧ b.all (fun c => decide (c.toNat < 128)) = true then some (Lib.trimS a b) else none
theorem strings_Trim_sound : Sound Tryd.prog GW B0G 92 ⟨[.v .str, .v .str], [], [.v .str], [], Str, fun z => ((z, ()), ()), fun x _ => strings_Trim x.1 x.2.1⟩ := by
  refine Sound.ofExt Tryd.call92 fun M w vs x z hG hM hA hz => ?_
  obtain ⟨a, b, u⟩ := x
  match vs, hA with
  | [v1, v2], hA =>
    obtain ⟨h1, h2, _⟩ := hA
    rw [RepV.str h1, RepV.str h2]
    change strings_Trim a b = some z at hz
    unfold strings_Trim at hz
    split at hz
    · rename_i hc
      injection hz with hz
      subst hz
      refine (Any.strings_Trim_laid Tryd.lays160 (by kernel_rfl) ⟨a.toArray⟩ ⟨b.toArray⟩ w hc.1 (Nat.lt_of_lt_of_le hc.2.1 (by decide)) (ascii_of_all hc.2.2)).mono fun e w' hp => ?_
      exact ⟨[_], hp.1, hp.2, vStr _, trivial⟩
    · cases hz
def strings_Join (l : List Str) (sep : Str) : Option Str := if (Lib.join l sep).length ≤ 140737488355328 ∧ l.length ≤ 140737488355328 then some (Lib.join l sep) else none
theorem strings_Join_sound : Sound Tryd.prog GW B0G 72 ⟨[.v (.sl .str), .v .str], [], [.v .str], [], Str, fun z => ((z, ()), ()), fun x _ => strings_Join x.1 x.2.1⟩ := by
  refine Sound.ofExt Tryd.call72 fun M w vs x z hG hM hA hz => ?_
  obtain ⟨l, b, u⟩ := x
  match vs, hA with
  | [v1, v2], hA =>
    obtain ⟨h1, h2, _⟩ := hA
    obtain ⟨A, c, e1, hc1, hc2, hcell⟩ := RepV.strs h1
    rw [e1, RepV.str h2]
    change strings_Join l b = some z at hz
    unfold strings_Join at hz
    split at hz
    · rename_i hc
      injection hz with hz
      subst hz
      rcases Classical.em (l = []) with hl | hl
      · subst hl
        refine (Any.strings_Join_none Tryd.lays156 Tryd.Builder_Extra_156 A c ⟨b.toArray⟩ w).mono fun e w' hp => ?_
        exact ⟨[_], hp.1, hp.2 ▸ Ext.refl w, vStr _, trivial⟩
      · replace hcell := hcell hl
        obtain ⟨bk, o, rfl, hcell⟩ := hcell
        have hm : (l.map fun x => (⟨x.toArray⟩ : ByteArray)).map (·.data.toList) = l := by rw [List.map_map]; exact List.map_id' l
        have hbk : bk < w.heap.size := by
          cases l with
          | nil => exact absurd rfl hl
          | cons x r => exact World.block_lt_of_cell? w _ (hcell 0 x rfl)
        have := Any.strings_Join Tryd.lays156 Tryd.Builder_Extra_156 bk o c (l.map fun x => (⟨x.toArray⟩ : ByteArray)) ⟨b.toArray⟩ w (fun j x hj => by
          rw [List.getElem?_map] at hj
          cases hx : l[j]? with
          | none => rw [hx] at hj; cases hj
          | some y => rw [hx] at hj; injection hj with hj; subst hj; exact hcell j y hx) hbk (by rw [List.length_map]; exact hc.2) (by rw [List.length_map]; exact hc1) (by rw [hm]; exact hc.1)
        rw [hm, List.length_map] at this
        refine this.mono fun e w' hp => ?_
        exact ⟨[_], hp.1, hp.2, vStr _, trivial⟩
    · cases hz
end Go.Proofs.YtbekhaioddmliaaDoor
