/- slices.Delete of strings, out of the kit's contract: it turns a row of its caller's. -/
import Derived.Test.YtbekhaioddmliaaDoorQBmR
namespace Go.Proofs.YtbekhaioddmliaaDoor
set_option linter.unusedVariables false
set_option linter.unusedSimpArgs false
open Go Go.RowKit Go.Shelf
def slices_Delete_string_string (i j : Int) (xs : List Str) : Option (List Str) := if 0 ≤ i ∧ i ≤ j ∧ j ≤ xs.length then some (xs.take i.toNat ++ xs.drop j.toNat) else none
theorem els_str {M : Nat → Nat → Prop} {w : World} {xs : List Str} {cs : List Value} (hl : cs.length = xs.length) (h : Els M w .str xs cs) : cs = xs.map fun x => Value.string ⟨x.toArray⟩ := by
  apply List.ext_getElem
  · simpa using hl
  · intro i h1 h2
    have h3 : i < xs.length := by omega
    have := h i h3
    have e : (cs.drop (i * Ty.sz .str)).take (Ty.sz .str) = [cs[i]] := by
      show (cs.drop (i * 1)).take 1 = _
      rw [Nat.mul_one, List.drop_eq_getElem_cons h1]; rfl
    rw [e] at this
    have e2 : [cs[i]] = [Value.string ⟨xs[i].toArray⟩] := this
    rw [List.getElem_map]
    injection e2
theorem str_els {M : Nat → Nat → Prop} {w : World} (xs : List Str) : Els M w .str xs (xs.map fun x => Value.string ⟨x.toArray⟩) := fun i h => by
  have e : ((xs.map fun x => Value.string ⟨x.toArray⟩).drop (i * Ty.sz .str)).take (Ty.sz .str) = [Value.string ⟨xs[i].toArray⟩] := by
    show ((xs.map fun x => Value.string ⟨x.toArray⟩).drop (i * 1)).take 1 = _
    rw [Nat.mul_one, List.drop_eq_getElem_cons (by simpa using h), List.getElem_map]; rfl
  rw [e]
  rfl
theorem slices_Delete_string_string_sound : Sound Tryd.prog GW B0G 32 ⟨[.row 0, .v (.int .i64), .v (.int .i64)], [.row 9 .str true], [.row 0], [.row 9 .str true], List Str, fun z => (((), ()), (z, ())), fun x y => slices_Delete_string_string x.2.1 x.2.2.1 y.1⟩ := by
  refine Sound.ofRow (ps := [.v (.int .i64), .v (.int .i64)]) (t := .str) true (F := fun x xs => slices_Delete_string_string x.1 x.2.1 xs) Tryd.call32 (by decide) fun M w g v0 vs x xs zs cs hG hMl hM hown hels hA hz => ?_
  obtain ⟨i, j, u⟩ := x
  match vs, hA with
  | [v1, v2], hA =>
    obtain ⟨h1, h2, _⟩ := hA
    rw [RepV.int h1, RepV.int h2]
    change slices_Delete_string_string i j xs = some zs at hz
    unfold slices_Delete_string_string at hz
    split at hz
    · rename_i hc
      injection hz with hz
      obtain ⟨hi0, hij, hjl⟩ := hc
      obtain ⟨i, rfl⟩ : ∃ n : Nat, i = (n : Int) := ⟨Int.toNat i, (Int.toNat_of_nonneg hi0).symm⟩
      obtain ⟨j, rfl⟩ : ∃ n : Nat, j = (n : Int) := ⟨Int.toNat j, (Int.toNat_of_nonneg (Int.le_trans hi0 hij)).symm⟩
      replace hij : (i : Int) ≤ (j : Int) := hij
      replace hjl : (j : Int) ≤ (xs.length : Int) := hjl
      rw [Int.toNat_natCast, Int.toNat_natCast] at hz
      have hl := hown.1
      have hl' : cs.length = xs.length := by rw [hl]; exact Nat.mul_one _
      have hcs := els_str hl' hels
      rcases hown.2 with ⟨e1, e2⟩ | ⟨b, cap, cur, e1, _, hg, hle, hmax, hsz, htk⟩
      · have hj0 : j = 0 := by omega
        have hi0 : i = 0 := by omega
        subst hj0 hi0
        have hx0 : xs = [] := List.eq_nil_of_length_eq_zero e2
        subst hx0 e1
        refine (Tryd.slices_Delete_string_empty none 0 w).mono fun e w' hp => ?_
        obtain ⟨rfl, rfl⟩ := hp
        subst hz
        exact ⟨_, [], rfl, fun h => (by cases h), ExtX.refl _ _, ⟨rfl, .inl ⟨rfl, rfl⟩⟩, fun i h => absurd h (Nat.not_lt_zero _), fun b hb => .inl hb⟩
      · subst e1
        have hsz' : cur.size = cap := by rw [hsz]; exact Nat.mul_one _
        have htk' : cur.toList.take xs.length = xs.map fun x => Value.string ⟨x.toArray⟩ := by rw [← hcs, ← htk]; congr 1; exact (Nat.mul_one _).symm
        have hcell : ∀ k, k < xs.length → w.cell? ⟨b, 0 + k, none⟩ = some (.string ⟨(xs[k]?.getD []).toArray⟩) := fun k hk => by
          have h1 : cur.toList[k]? = some (Value.string ⟨xs[k].toArray⟩) := by
            have := congrArg (fun l => l[k]?) htk'
            simp only [List.getElem?_take, hk, if_true, List.getElem?_map, List.getElem?_eq_getElem hk, Option.map_some] at this
            exact this
          rw [Nat.zero_add, List.getElem?_eq_getElem hk]
          unfold World.cell?
          rw [hg]
          simpa using h1
        refine (Tryd.slices_Delete_string_cells b 0 xs.length cap i j (fun k => ⟨(xs[k]?.getD []).toArray⟩) w hle (by unfold maxLen at hmax; omega) (by omega) (by omega) hcell (fun k hk => by unfold World.frozen?; rw [hg]; simp)).mono fun e w' hp => ?_
        obtain ⟨rfl, q, rfl⟩ := hp
        have hstrs : Lib.strsOf (fun k => (⟨(xs[k]?.getD []).toArray⟩ : ByteArray)) xs.length = xs := by
          apply List.ext_getElem
          · simp [Lib.strsOf]
          · intro k h1 h2
            simp [Lib.strsOf, h2]
        rw [hstrs]
        have hnew : (xs.take i ++ xs.drop j ++ List.replicate (j - i) []).length = xs.length := by
          simp only [List.length_append, List.length_take, List.length_drop, List.length_replicate]; omega
        have hzl : zs.length = xs.length - (j - i) := by
          rw [← hz]; simp only [List.length_append, List.length_take, List.length_drop]; omega
        have hblk := setCells_block b 9 (0, 0) ((xs.take i ++ xs.drop j ++ List.replicate (j - i) []).map encStr) 0 (w.drewN q) cur hg (by rw [List.length_map, hnew]; omega)
        refine ⟨_, zs.map fun x => Value.string ⟨x.toArray⟩, rfl, fun h => (by cases h), setCells_ext.mono (fun k hk => by simpa [Value.ownBlock] using hk), ⟨by rw [List.length_map]; exact (Nat.mul_one _).symm, .inr ⟨b, cap, _, by rw [hzl], Nat.zero_le _, hblk, by omega, hmax, ?_, ?_⟩⟩, str_els _, fun b hb => .inl hb⟩
        · have hcl : cur.toList.length = cap := by rw [Array.length_toList]; exact hsz'
          simp only [List.take_zero, List.nil_append, List.size_toArray, List.length_append, List.length_drop, List.length_map, List.length_take, List.length_replicate, hcl]
          show _ = cap * 1
          omega
        · show ((List.take 0 cur.toList ++ _ ++ _).toArray.toList).take (zs.length * 1) = _
          rw [Nat.mul_one, List.take_zero, List.nil_append, List.map_append, List.append_assoc]
          have e0 : (xs.take i ++ xs.drop j).map encStr = zs.map fun x => Value.string ⟨x.toArray⟩ := by rw [hz]
          rw [e0]
          have : zs.length = (zs.map fun x => Value.string ⟨x.toArray⟩).length := by simp
          rw [this]
          simp
    · cases hz
end Go.Proofs.YtbekhaioddmliaaDoor
