/- A function that turns a row of its caller's where it lies, and gives nothing back: the caller's slice is the one it was. -/
import Derived.Test.YtahjncefiegflaaGreatDoorQCnV
import Derived.Shelf.SlSortCmp.WholeK
import Derived.Shelf.SlGeneric
import Derived.Shelf.SortM.Plain
import Derived.Shelf.SortM.SortNone
import Derived.Ground.SlgmProg
import Derived.Test.YtahjncefiegflaaGreatDoorProg
import Derived.Test.YtahjncefiegflaaGreatDoorQBmDf
import Derived.Test.YtahjncefiegflaaGreatDoorQFor2
import Derived.Shelf.Spec.SlicesInsert
import Derived.Shelf.Spec.SlicesInsertGrow
import Derived.Ground.Names2Prog
namespace Go.Proofs.YtahjncefiegflaaGreatDoor
set_option linter.unusedVariables false
set_option linter.unusedSimpArgs false
open Go Go.RowKit Go.Shelf
theorem Sound.ofRowKept {P : Program} {G : World → Prop} {B0 : Nat} {f : FuncId} {ps : List Sl} {e : TypeId} {t : Ty} {F : SV ps → List t.den → Option (List t.den)}
    (hcall : ∀ (args : Array Value) (w : World), (callFunc f args).run P w = .ok (.enter f args) w) (hz : 0 < t.sz)
    (h : ∀ (M : Nat → Nat → Prop) (w : World) (g : Gh) (v0 : Value) (vs : List Value) (x : SV ps) (xs zs : List t.den) (cs : List Value), G w → (∀ b o, M b o → b < w.heap.size) → (∀ b, v0.ownBlock = some b → ∀ o, M b o) →
      w.ownsRow 0 e t.sz v0 xs.length cs → Els M w t xs cs → All2 (RepD0 M w g) (lays id ps x) vs → F x xs = some zs →
      Calls P f (v0 :: vs).toArray w fun en w' => ∃ cs', en = .returned (.tuple #[]) ∧ ExtX (fun b => v0.ownBlock = some b) w w' ∧
        w'.ownsRow 0 e t.sz v0 zs.length cs' ∧ Els M w t zs cs') :
    Sound P G B0 f ⟨.row 0 :: ps, [.row e t true], [], [.row e t true, .none], List t.den, fun z => ((), (z, ((), ()))), fun x y => F x.2 y.1⟩ := by
  refine ⟨hcall, fun M w g vs0 x y zs hG hB hF hz' => ?_⟩
  obtain ⟨_, x⟩ := x
  obtain ⟨xs, _⟩ := y
  match vs0, hF.args with
  | v0 :: vs, ⟨h0, hA⟩ =>
    obtain ⟨gx, A, n, c, hg0, hv, hv2⟩ := h0
    obtain ⟨gx', hg', _, cs, hown, hblk, hlo, hels⟩ := hF.res 0 (.row e t true xs) rfl
    replace hg0 : g 0 = some gx := hg0
    rw [hg'] at hg0
    cases hg0
    have hlo : gx.lo = 0 := hlo
    rw [← hv] at hown hblk
    have hM : ∀ b, v0.ownBlock = some b → ∀ o, M b o := fun b hb o => (hF.chg 0 gx b o hg' (by rw [hblk]; exact hb)).2 (by rw [hlo]; exact Nat.zero_le _)
    have honly : ∀ r gy, g r = some gy → r = 0 := fun r gy hr => by have := hF.dom r gy hr; exact Nat.lt_one_iff.1 this
    have hX : ∀ b, Xof g b ↔ v0.ownBlock = some b := fun b => by
      constructor
      · rintro ⟨r, gy, hr, hb⟩
        obtain rfl := honly r gy hr
        rw [hg'] at hr; cases hr
        rw [← hblk]; exact hb
      · intro hb
        exact ⟨0, gx, hg', by rw [hblk]; exact hb⟩
    refine (h M w g v0 vs x xs zs cs hG hF.mlt hM hown hels hA hz').mono fun en w' hp => ?_
    obtain ⟨cs', he, hE, hown', hels'⟩ := hp
    have hblk' : ∀ b, v0.ownBlock = some b → v0.ownBlock = some b ∨ w.heap.size ≤ b := fun b h => .inl h
    obtain ⟨v', hv0⟩ : ∃ v', v' = v0 := ⟨v0, rfl⟩
    rw [← hv0] at hown'
    replace hblk' : ∀ b, v'.ownBlock = some b → v0.ownBlock = some b ∨ w.heap.size ≤ b := by rw [hv0]; exact hblk'
    obtain ⟨g', hgd⟩ : ∃ g' : Gh, g' = fun r => if r = 0 then some ⟨v'.ownBlock, 0, v'⟩ else none := ⟨_, rfl⟩
    have hg0' : g' 0 = some ⟨v'.ownBlock, 0, v'⟩ := by rw [hgd]; rfl
    have hgo : ∀ r gy, g' r = some gy → r = 0 ∧ gy = ⟨v'.ownBlock, 0, v'⟩ := fun r gy hr => by
      rw [hgd] at hr
      by_cases h0 : r = 0
      · subst h0; simp at hr; exact ⟨rfl, hr.symm⟩
      · simp [h0] at hr
    have hnew : ∀ b o, Mafter M g g' b o → (M b o ∧ v0.ownBlock ≠ some b) ∨ v'.ownBlock = some b := fun b o hm => by
      rcases hm with ⟨hm, hx⟩ | ⟨r, gy, hr, hb, _⟩
      · exact .inl ⟨hm, fun hb => hx ((hX b).2 hb)⟩
      · obtain ⟨_, rfl⟩ := hgo r gy hr
        exact .inr hb
    have hstep : Step M w (Mafter M g g') w' := by
      have key : ∀ b o, b < w.heap.size → ¬ M b o → w'.heap[b]? = w.heap[b]? ∧ ¬ Mafter M g g' b o := fun b o hb hm => by
        have hnb : v0.ownBlock ≠ some b := fun h => hm (hM b h o)
        refine ⟨hE.block b hb hnb, fun hm' => ?_⟩
        rcases hnew b o hm' with ⟨h1, _⟩ | h1
        · exact hm h1
        · rcases hblk' b h1 with h2 | h2
          · exact hnb h2
          · omega
      refine ⟨fun ad u hu hm => ?_, fun b es c hb hm => ?_⟩
      · have hlt : ad.block < w.heap.size := World.block_lt_of_cell? w _ hu
        obtain ⟨h1, h2⟩ := key ad.block ad.off hlt hm
        exact ⟨(cell_of_block h1).trans hu, h2⟩
      · obtain ⟨h1, h2⟩ := key b 0 (lt_of_map hb) hm
        exact ⟨h1.trans hb, h2⟩
    obtain ⟨A', c', hv', _⟩ := Row.of_own' hown'
    have hlow : ∀ b, v'.ownBlock = some b → B0 ≤ b ∧ b < w'.heap.size := fun b hb => by
      refine ⟨?_, own_lt hown' hb⟩
      rcases hblk' b hb with h1 | h1
      · exact (hF.low 0 gx b hg' (by rw [hblk]; exact h1)).1
      · omega
    have hrow : RepD0 (Mafter M g g') w' g' (.row 0) v' := ⟨_, A', _, c', hg0', rfl, hv'⟩
    refine ⟨[], g', ?_, ⟨hE.os, hE.tape, hE.output, hE.size, fun k hk hx => hE.block k hk fun hb => hx ((hX k).2 hb)⟩, hstep, ?_, fun r gy hr hbm => ?_, fun b hb => ?_⟩
    · rw [he]
      rfl
    · exact {
        args := trivial
        res := fun r blk hr => by
          cases r with
          | zero =>
            obtain rfl : Blk.row e t true zs = blk := Option.some.inj hr
            exact ⟨_, hg0', hz, cs', hown', rfl, rfl, fun i hi => RepC.step hstep _ _ _ (hels' i hi)⟩
          | succ r =>
            cases r with
            | zero => cases hr
            | succ r => cases hr
        dom := fun r gy hr => by obtain ⟨rfl, _⟩ := hgo r gy hr; exact Nat.zero_lt_two
        inj := fun r r' gy gy' b hr hr' _ _ => by obtain ⟨rfl, _⟩ := hgo r gy hr; obtain ⟨rfl, _⟩ := hgo r' gy' hr'; rfl
        low := fun r gy b hr hb => by obtain ⟨_, rfl⟩ := hgo r gy hr; exact hlow b hb
        chg := fun r gy b o hr hb => ⟨fun _ => by obtain ⟨_, rfl⟩ := hgo r gy hr; exact Nat.zero_le _, fun hle => .inr ⟨r, gy, hr, hb, hle⟩⟩
        mlt := fun b o hm => by
          rcases hnew b o hm with ⟨h1, _⟩ | h1
          · exact Nat.lt_of_lt_of_le (hF.mlt b o h1) hE.size
          · exact (hlow b h1).2
        row := fun r gy b hr hb h0 => by obtain ⟨_, rfl⟩ := hgo r gy hr; exact absurd h0 (Nat.lt_irrefl 0) }
    · obtain rfl := honly r gy hr
      rw [hg'] at hr; cases hr
      rw [hg0', hv0]
      obtain ⟨b1, l1, v1⟩ := gx
      dsimp only at hv hblk hlo
      subst hv hblk hlo
      rfl
    · obtain ⟨r, gy, hr, hb⟩ := hb
      obtain ⟨_, rfl⟩ := hgo r gy hr
      rcases hblk' b hb with h1 | h1
      · exact .inl ((hX b).2 h1)
      · exact .inr h1
end Go.Proofs.YtahjncefiegflaaGreatDoor


/- What the kit's worlds of a sort hold. -/
namespace Go.Proofs.YtahjncefiegflaaGreatDoor
set_option linter.unusedVariables false
set_option linter.unusedSimpArgs false
open Go Go.RowKit Go.Shelf
theorem sortW_block {α : Type} [Inhabited α] (enc : α → Value) {w : World} {n b : Nat} {d : Array α} {os : Array Obj} {cur : Array Value} {e : TypeId} {fz : Nat × Nat} (h : w.heap[b]? = some (.cells cur e fz)) :
    (Sort.grow (Sort.putRow enc (Sort.ahead w n) b 0 d) os).heap[b]? = some (.cells (Sort.putCells enc 0 d cur) e fz) := by
  have hb : b < w.heap.size := by
    apply Classical.byContradiction
    intro hn
    rw [Array.getElem?_eq_none (by omega)] at h
    cases h
  have hb2 : b < (w.heap.modify b (Sort.onCells (Sort.putCells enc 0 d))).size := by rw [Array.size_modify]; exact hb
  show (w.heap.modify b (Sort.onCells (Sort.putCells enc 0 d)) ++ os)[b]? = _
  rw [Array.getElem?_append_left hb2, Array.getElem?_modify, if_pos rfl, h]
  rfl
theorem sortW_ext {α : Type} [Inhabited α] (enc : α → Value) {w : World} {n b : Nat} {d : Array α} {os : Array Obj} : ExtX (fun k => b = k) w (Sort.grow (Sort.putRow enc (Sort.ahead w n) b 0 d) os) := by
  refine ⟨rfl, rfl, rfl, ?_, fun k hk hx => ?_⟩
  · show w.heap.size ≤ (w.heap.modify b (Sort.onCells (Sort.putCells enc 0 d)) ++ os).size
    rw [Array.size_append, Array.size_modify]; omega
  · have hb2 : k < (w.heap.modify b (Sort.onCells (Sort.putCells enc 0 d))).size := by rw [Array.size_modify]; exact hk
    show (w.heap.modify b (Sort.onCells (Sort.putCells enc 0 d)) ++ os)[k]? = _
    rw [Array.getElem?_append_left hb2, Array.getElem?_modify, if_neg hx]
theorem putCells_size {α : Type} [Inhabited α] (enc : α → Value) (d : Array α) (cur : Array Value) : (Sort.putCells enc 0 d cur).size = cur.size := by
  unfold Sort.putCells; simp
theorem putCells_take {α : Type} [Inhabited α] (enc : α → Value) (zs : List α) (cur : Array Value) (h : zs.length ≤ cur.size) : (Sort.putCells enc 0 zs.toArray cur).toList.take zs.length = zs.map enc := by
  apply List.ext_getElem
  · have e : (Sort.putCells enc 0 zs.toArray cur).toList.length = cur.size := by
      rw [Array.length_toList]; exact putCells_size _ _ _
    rw [List.length_take, List.length_map, e]; omega
  · intro k h1 h2
    rw [List.length_map] at h2
    rw [List.getElem_take, Array.getElem_toList, List.getElem_map]
    unfold Sort.putCells
    rw [Array.getElem_mapIdx, if_pos ⟨Nat.zero_le _, by simpa using h2⟩]
    simp [h2]
end Go.Proofs.YtahjncefiegflaaGreatDoor


/-
  DERIVED: THE SHELF's CONTRACTS AT THIS DUMP, IN PLAIN WORDS (tools/lay-plain.mjs out of 'TryzShelfS.lean', which tools/lay-shelf.mjs wrote): THE SAME DECLARATIONS UNDER THE SAME NAMES: 'import', 'namespace', 'open', 'def', 'theorem' AND NOTHING ELSE: no command of the shelf's: FOR A HAND-IN. Each laying: the table of numbers ('.._ren') and one theorem, a field a fact of the dump's own or the kernel's comparison; each contract: ONE APPLICATION.
-/
namespace Go.Proofs
open Go.Shelf
def Tryz.sortS_ren : Go.Shelf.Ren := ⟨fun | 6 => 70 | 8 => 111 | 9 => 114 | 19 => 151 | 20 => 152 | 21 => 154 | 22 => 155 | 23 => 156 | 24 => 157 | 25 => 158 | 26 => 159 | 27 => 160 | 28 => 161 | 29 => 162 | 36 => 197 | 31 => 193 | 32 => 194 | 37 => 198 | 38 => 199 | 39 => 200 | 41 => 240 | n => n, fun | 27 => 22 | 29 => 9 | 3 => 3 | 32 => 150 | 26 => 22 | 0 => 0 | 44 => 199 | 46 => 201 | 4 => 4 | 36 => 192 | 35 => 191 | 41 => 196 | 5 => 5 | 9 => 9 | 53 => 241 | 57 => 245 | 63 => 287 | 64 => 288 | n => n, fun | n => n⟩
theorem Tryz.sortS : Go.Proofs.SlLaysM.n6 Tryz.prog Tryz.sortS_ren := {
  mixed := by kernel_rfl
  f6 := ⟨Tryz.f70.name, by decide, Tryz.func70.trans (congrArg some (by kernel_rfl))⟩
  f8 := Tryz.func111.trans (congrArg some (by kernel_rfl))
  f9 := ⟨Tryz.f114.name, by decide, Tryz.func114.trans (congrArg some (by kernel_rfl))⟩
  f19 := Tryz.func151.trans (congrArg some (by kernel_rfl))
  f20 := Tryz.func152.trans (congrArg some (by kernel_rfl))
  f21 := ⟨Tryz.f154.name, by decide, Tryz.func154.trans (congrArg some (by kernel_rfl))⟩
  f22 := ⟨Tryz.f155.name, by decide, Tryz.func155.trans (congrArg some (by kernel_rfl))⟩
  f23 := ⟨Tryz.f156.name, by decide, Tryz.func156.trans (congrArg some (by kernel_rfl))⟩
  f24 := ⟨Tryz.f157.name, by decide, Tryz.func157.trans (congrArg some (by kernel_rfl))⟩
  f25 := ⟨Tryz.f158.name, by decide, Tryz.func158.trans (congrArg some (by kernel_rfl))⟩
  f26 := ⟨Tryz.f159.name, by decide, Tryz.func159.trans (congrArg some (by kernel_rfl))⟩
  f27 := ⟨Tryz.f160.name, by decide, Tryz.func160.trans (congrArg some (by kernel_rfl))⟩
  f28 := ⟨Tryz.f161.name, by decide, Tryz.func161.trans (congrArg some (by kernel_rfl))⟩
  f29 := ⟨Tryz.f162.name, by decide, Tryz.func162.trans (congrArg some (by kernel_rfl))⟩
  f31 := Tryz.func193.trans (congrArg some (by kernel_rfl))
  f32 := Tryz.func194.trans (congrArg some (by kernel_rfl))
  f36 := ⟨Tryz.f197.name, by decide, Tryz.func197.trans (congrArg some (by kernel_rfl))⟩
  f37 := ⟨Tryz.f198.name, by decide, Tryz.func198.trans (congrArg some (by kernel_rfl))⟩
  f38 := ⟨Tryz.f199.name, by decide, Tryz.func199.trans (congrArg some (by kernel_rfl))⟩
  f39 := ⟨Tryz.f200.name, by decide, Tryz.func200.trans (congrArg some (by kernel_rfl))⟩
  f41 := ⟨Tryz.f240.name, by decide, Tryz.func240.trans (congrArg some (by kernel_rfl))⟩
  t0 := Tryz.underlying0
  a0 := Tryz.isAgg0
  z0 := Tryz.sizeOf0
  v0 := Tryz.zeroValue0
  t3 := Tryz.underlying3
  a3 := Tryz.isAgg3
  z3 := Tryz.sizeOf3
  v3 := Tryz.zeroValue3
  t4 := Tryz.underlying4
  a4 := Tryz.isAgg4
  z4 := Tryz.sizeOf4
  v4 := Tryz.zeroValue4
  t5 := Tryz.underlying5
  a5 := Tryz.isAgg5
  z5 := Tryz.sizeOf5
  v5 := Tryz.zeroValue5
  t9 := Tryz.underlying9
  a9 := Tryz.isAgg9
  z9 := Tryz.sizeOf9
  v9 := Tryz.zeroValue9
  t26 := Tryz.underlying22
  a26 := Tryz.isAgg22
  z26 := Tryz.sizeOf22
  v26 := Tryz.zeroValue22
  t27 := Tryz.underlying22
  a27 := Tryz.isAgg22
  z27 := Tryz.sizeOf22
  v27 := Tryz.zeroValue22
  t29 := Tryz.underlying9
  a29 := Tryz.isAgg9
  z29 := Tryz.sizeOf9
  v29 := Tryz.zeroValue9
  t32 := Tryz.underlying150
  a32 := Tryz.isAgg150
  z32 := Tryz.sizeOf150
  v32 := Tryz.zeroValue150
  t35 := Tryz.underlying191
  a35 := Tryz.isAgg191
  z35 := Tryz.sizeOf191
  v35 := Tryz.zeroValue191
  t36 := Tryz.underlying192
  a36 := Tryz.isAgg192
  z36 := Tryz.sizeOf192
  v36 := Tryz.zeroValue192
  t41 := Tryz.underlying196
  a41 := Tryz.isAgg196
  z41 := Tryz.sizeOf196
  v41 := Tryz.zeroValue196
  t44 := Tryz.underlying199
  a44 := Tryz.isAgg199
  z44 := Tryz.sizeOf199
  v44 := Tryz.zeroValue199
  t46 := Tryz.underlying201
  a46 := Tryz.isAgg201
  z46 := Tryz.sizeOf201
  v46 := Tryz.zeroValue201
  t53 := Tryz.underlying241
  a53 := Tryz.isAgg241
  z53 := Tryz.sizeOf241
  v53 := Tryz.zeroValue241
  t57 := Tryz.underlying245
  a57 := Tryz.isAgg245
  z57 := Tryz.sizeOf245
  v57 := Tryz.zeroValue245
  t63 := Tryz.underlying287
  a63 := Tryz.isAgg287
  z63 := Tryz.sizeOf287
  v63 := Tryz.zeroValue287
  t64 := Tryz.underlying288
  a64 := Tryz.isAgg288
  z64 := Tryz.sizeOf288
  v64 := Tryz.zeroValue288 }
end Go.Proofs


/- slices.Sort of strings, out of the kit's contract: it turns a row of its caller's. -/
namespace Go.Proofs.YtahjncefiegflaaGreatDoor
set_option linter.unusedVariables false
set_option linter.unusedSimpArgs false
open Go Go.RowKit Go.Shelf
def leStr (x y : Str) : Bool := decide (x ≤ y)
def slices_Sort_string_string (xs : List Str) : Option (List Str) := if xs.length < 4611686018427387904 then some (xs.mergeSort leStr) else none
theorem slices_Sort_string_string_sound : Sound Tryz.prog GW B0G 70 ⟨[.row 0], [.row 9 .str true], [], [.row 9 .str true, .none], List Str, fun z => ((), (z, ((), ()))), fun x y => slices_Sort_string_string y.1⟩ := by
  refine Sound.ofRowKept (ps := []) (t := .str) (F := fun x xs => slices_Sort_string_string xs) Tryz.call70 (by decide) fun M w g v0 vs x xs zs cs hG hMl hM hown hels hA hz => ?_
  match vs, hA with
  | [], hA =>
    change slices_Sort_string_string xs = some zs at hz
    unfold slices_Sort_string_string at hz
    split at hz
    case isFalse => cases hz
    rename_i hbig
    injection hz with hz
    have hl := hown.1
    have hl' : cs.length = xs.length := by rw [hl]; exact Nat.mul_one _
    have hcs := els_str hl' hels
    have hzl : zs.length = xs.length := by rw [← hz]; exact List.length_mergeSort _
    rcases hown.2 with ⟨e1, e2⟩ | ⟨b, cap, cur, e1, _, hg, hle, hmax, hsz, htk⟩
    · have hx0 : xs = [] := List.eq_nil_of_length_eq_zero e2
      subst hx0 e1
      refine (AnyM.slices_Sort_string_none Tryz.sortS none 0 w).mono fun e w' hp => ?_
      obtain ⟨rfl, rfl⟩ := hp
      have hz0 : zs = [] := List.eq_nil_of_length_eq_zero hzl
      subst hz0
      exact ⟨[], rfl, ExtX.refl _ _, ⟨rfl, .inl ⟨rfl, rfl⟩⟩, fun i h => absurd h (Nat.not_lt_zero _)⟩
    · subst e1
      have hsz' : cur.size = cap := by rw [hsz]; exact Nat.mul_one _
      have htk' : cur.toList.take xs.length = xs.map fun x => Value.string ⟨x.toArray⟩ := by rw [← hcs, ← htk]; congr 1; exact (Nat.mul_one _).symm
      have hb : b < w.heap.size := by
        apply Classical.byContradiction
        intro hn
        rw [Array.getElem?_eq_none (by omega)] at hg
        cases hg
      have hH : Sort.Holds encStr w b 0 xs.toArray := fun k hk => by
        have hk : k < xs.length := by simpa using hk
        have h1 : cur.toList[k]? = some (Value.string ⟨xs[k].toArray⟩) := by
          have := congrArg (fun l => l[k]?) htk'
          simp only [List.getElem?_take, hk, if_true, List.getElem?_map, List.getElem?_eq_getElem hk, Option.map_some] at this
          exact this
        refine ⟨?_, by unfold World.frozen?; rw [hg]; simp⟩
        rw [Nat.zero_add]
        have e : encStr xs.toArray[k]! = Value.string ⟨xs[k].toArray⟩ := by simp [encStr, hk]
        rw [e]
        unfold World.cell?
        rw [hg]
        simpa using h1
      refine (AnyM.slices_Sort_string Tryz.sortS b 0 cap xs w hH hb hbig).mono fun e w' hp => ?_
      obtain ⟨rfl, n, os, rfl⟩ := hp
      have ez : (xs.mergeSort fun x y => decide (x ≤ y)) = zs := hz
      rw [ez]
      refine ⟨zs.map fun x => Value.string ⟨x.toArray⟩, rfl, (sortW_ext encStr).mono (fun k hk => by simpa [Value.ownBlock] using hk), ⟨by rw [List.length_map]; exact (Nat.mul_one _).symm, .inr ⟨b, cap, _, by rw [hzl], Nat.zero_le _, sortW_block encStr hg, by omega, hmax, ?_, ?_⟩⟩, str_els _⟩
      · rw [putCells_size]; exact hsz
      · rw [show zs.length * Ty.sz .str = zs.length from Nat.mul_one _]
        exact putCells_take encStr zs cur (by omega)
end Go.Proofs.YtahjncefiegflaaGreatDoor



/- slices.Sort of strings with a meaning that can be reckoned: at short rows. -/
namespace Go.Proofs.YtahjncefiegflaaGreatDoor
set_option linter.unusedVariables false
open Go
theorem Sound.less {P : Program} {G : World → Prop} {B0 : Nat} {f : FuncId} {ps bs rs cs} {R : Type} {out : R → SV rs × BV cs} {F F' : SV ps → BV bs → Option R} (h : Sound P G B0 f ⟨ps, bs, rs, cs, R, out, F⟩) (e : ∀ x y z, F' x y = some z → F x y = some z) : Sound P G B0 f ⟨ps, bs, rs, cs, R, out, F'⟩ :=
  ⟨h.1, fun M w g vs x y z h1 h2 h3 h4 => h.2 M w g vs x y z h1 h2 h3 (e _ _ _ h4)⟩
def insS (a : Str) : List Str → List Str
  | [] => [a]
  | b :: l => match leStr a b with
    | true => a :: b :: l
    | false => b :: insS a l
def isortS : List Str → List Str
  | [] => []
  | a :: l => insS a (isortS l)
theorem insS_perm (a : Str) : ∀ l, (insS a l).Perm (a :: l)
  | [] => List.Perm.refl _
  | b :: l => by
    unfold insS
    split
    · exact List.Perm.refl _
    · exact ((insS_perm a l).cons b).trans (List.Perm.swap a b l)
theorem isortS_perm : ∀ l, (isortS l).Perm l
  | [] => List.Perm.refl _
  | a :: l => (insS_perm a _).trans ((isortS_perm l).cons a)
theorem insS_sorted (a : Str) : ∀ l : List Str, l.Pairwise (· ≤ ·) → (insS a l).Pairwise (· ≤ ·)
  | [], _ => by simp [insS]
  | b :: l, h => by
    obtain ⟨h1, h2⟩ := List.pairwise_cons.1 h
    unfold insS
    split
    · rename_i hab
      have hab : a ≤ b := by simpa [leStr] using hab
      refine List.pairwise_cons.2 ⟨fun c hc => ?_, h⟩
      rcases List.mem_cons.1 hc with rfl | hc
      · exact hab
      · exact List.le_trans hab (h1 c hc)
    · rename_i hab
      have hba : b ≤ a := by
        rcases List.le_total a b with h | h
        · exact absurd (show leStr a b = true by simpa [leStr] using h) (by rw [hab]; simp)
        · exact h
      refine List.pairwise_cons.2 ⟨fun c hc => ?_, insS_sorted a l h2⟩
      rcases List.mem_cons.1 ((insS_perm a l).mem_iff.1 hc) with rfl | hc
      · exact hba
      · exact h1 c hc
theorem isortS_sorted : ∀ l, (isortS l).Pairwise (· ≤ ·)
  | [] => List.Pairwise.nil
  | a :: l => insS_sorted a _ (isortS_sorted l)
theorem perm_sorted : ∀ (l1 l2 : List Str), l1.Perm l2 → l1.Pairwise (· ≤ ·) → l2.Pairwise (· ≤ ·) → l1 = l2
  | [], l2, h, _, _ => (List.nil_perm.1 h).symm
  | a :: l1, [], h, _, _ => by have := h.length_eq; simp at this
  | a :: l1, b :: l2, h, h1, h2 => by
    have hab : a = b := by
      apply Classical.byContradiction
      intro hne
      have ha : a ∈ b :: l2 := h.subset (List.mem_cons_self ..)
      have hb : b ∈ a :: l1 := h.symm.subset (List.mem_cons_self ..)
      rcases List.mem_cons.1 ha with e | ha
      · exact hne e
      · rcases List.mem_cons.1 hb with e | hb
        · exact hne e.symm
        · exact hne (List.le_antisymm ((List.pairwise_cons.1 h1).1 b hb) ((List.pairwise_cons.1 h2).1 a ha))
    subst hab
    rw [perm_sorted l1 l2 (List.Perm.cons_inv h) (List.pairwise_cons.1 h1).2 (List.pairwise_cons.1 h2).2]
theorem isortS_eq (l : List Str) : isortS l = l.mergeSort leStr := by
  refine perm_sorted _ _ ((isortS_perm l).trans (List.mergeSort_perm l leStr).symm) (isortS_sorted l) ?_
  have := List.pairwise_mergeSort (le := leStr) (fun a b c h1 h2 => by
    simp only [leStr, decide_eq_true_eq] at *
    exact List.le_trans h1 h2) (fun a b => by
    simp only [leStr, Bool.or_eq_true, decide_eq_true_eq]
    exact List.le_total _ _) l
  exact this.imp fun h => by simpa [leStr] using h
def slices_Sort_short (xs : List Str) : Option (List Str) := match Nat.blt xs.length 1000 with
  | true => some (isortS xs)
  | false => none
theorem slices_Sort_short_sound : Sound Tryz.prog GW B0G 70 ⟨[.row 0], [.row 9 .str true], [], [.row 9 .str true, .none], List Str, fun z => ((), (z, ((), ()))), fun x y => slices_Sort_short y.1⟩ :=
  slices_Sort_string_string_sound.less fun x y z h => by
    unfold slices_Sort_short at h
    split at h
    · rename_i hl
      cases h
      have hl : y.1.length < 1000 := by rw [Nat.blt_eq] at hl; exact hl
      unfold slices_Sort_string_string
      rw [if_pos (by omega), isortS_eq]
    · cases h
end Go.Proofs.YtahjncefiegflaaGreatDoor



/- The types and functions that are wanted to carry out one function, as the program has them. -/
namespace Go.Proofs.YtahjncefiegflaaGreatDoor.Aw
open Go Go.RowKit
set_option maxRecDepth 100000
set_option maxHeartbeats 4000000
abbrev strings_IndexByte_sg (f : SV [.v .str, .v .u8] → BV [] → Option (Int)) : AF := { ps := [.v .str, .v .u8], bs := [], rs := [.v (.int .i64)], cs := [], R := Int, out := fun z => ((z, ()), ()), f := f }
abbrev strings_Compare_sg (f : SV [.v .str, .v .str] → BV [] → Option (Int)) : AF := { ps := [.v .str, .v .str], bs := [], rs := [.v (.int .i64)], cs := [], R := Int, out := fun z => ((z, ()), ()), f := f }
abbrev strings_Split_sg (f : SV [.v .str, .v .str] → BV [] → Option (List Str)) : AF := { ps := [.v .str, .v .str], bs := [], rs := [.v (.sl .str)], cs := [], R := List Str, out := fun z => ((z, ()), ()), f := f }
theorem tyOk_func_ : TyOk Tryz.prog 1 (.clo 0 .un) := ⟨_, by kernel_rfl, Tryz.underlying1, rfl⟩
theorem tyOk_int : TyOk Tryz.prog 3 (.int .i64) := ⟨_, by kernel_rfl, Tryz.underlying3, rfl⟩
theorem tyOk_bool : TyOk Tryz.prog 4 .bool := ⟨_, by kernel_rfl, Tryz.underlying4, rfl⟩
theorem tyOk_uint8 : TyOk Tryz.prog 5 .u8 := ⟨_, by kernel_rfl, Tryz.underlying5, rfl⟩
theorem tyOk_string : TyOk Tryz.prog 9 .str := ⟨_, by kernel_rfl, Tryz.underlying9, rfl⟩
theorem tyOk_ABstring : TyOk Tryz.prog 22 (.sl .str) := ⟨_, by kernel_rfl, Tryz.underlying22, rfl⟩
theorem tyOk_ABapiDCase : TyOk Tryz.prog 23 (.sl (.pr .str (.rc .value))) := ⟨_, by kernel_rfl, Tryz.underlying23, rfl⟩
theorem tyOk_smithyardSapiDValue : TyOk Tryz.prog 25 (.rc .value) := ⟨_, by kernel_rfl, Tryz.underlying25, rfl⟩
theorem tyOk_smithyardSapiDFault : TyOk Tryz.prog 26 (.int .i64) := ⟨_, by kernel_rfl, Tryz.underlying26, rfl⟩
theorem tyOk_ABapiDTarget : TyOk Tryz.prog 35 (.sl (.pr .str (.pr .str (.sl (.pr .str (.rc .value)))))) := ⟨_, by kernel_rfl, Tryz.underlying35, rfl⟩
theorem tyOk_smithyardSapiDPackage : TyOk Tryz.prog 37 (.pr .str (.sl (.pr .str (.pr .str (.sl (.pr .str (.rc .value))))))) := ⟨_, by kernel_rfl, Tryz.underlying37, rfl⟩
theorem tyOk_ABapiDAttr : TyOk Tryz.prog 38 (.sl (.pr .str (.rc .value))) := ⟨_, by kernel_rfl, Tryz.underlying38, rfl⟩
theorem tyOk_smithyardSapiDTarget : TyOk Tryz.prog 40 (.pr .str (.pr .str (.sl (.pr .str (.rc .value))))) := ⟨_, by kernel_rfl, Tryz.underlying40, rfl⟩
theorem tyOk_ABapiDToken : TyOk Tryz.prog 59 (.sl (.pr (.int .i64) (.pr .str (.pr (.int .i64) (.int .i64))))) := ⟨_, by kernel_rfl, Tryz.underlying59, rfl⟩
theorem tyOk_smithyardSapiDToken : TyOk Tryz.prog 64 (.pr (.int .i64) (.pr .str (.pr (.int .i64) (.int .i64)))) := ⟨_, by kernel_rfl, Tryz.underlying64, rfl⟩
theorem tyOk_func_string_bool : TyOk Tryz.prog 65 (.clo 0 .un) := ⟨_, by kernel_rfl, Tryz.underlying65, rfl⟩
theorem tyOk_ABapiDLibrary : TyOk Tryz.prog 69 (.sl (.pr .str .str)) := ⟨_, by kernel_rfl, Tryz.underlying69, rfl⟩
theorem tyOk_ABapiDFile : TyOk Tryz.prog 70 (.sl (.pr .str (.pr .bool (.sl .u8)))) := ⟨_, by kernel_rfl, Tryz.underlying70, rfl⟩
theorem tyOk_smithyardSapiDSource : TyOk Tryz.prog 72 (.pr .str (.pr .str (.pr (.sl (.pr .str .str)) (.sl (.pr .str (.pr .bool (.sl .u8))))))) := ⟨_, by kernel_rfl, Tryz.underlying72, rfl⟩
theorem tyOk_smithyardSapiDCase : TyOk Tryz.prog 75 (.pr .str (.rc .value)) := ⟨_, by kernel_rfl, Tryz.underlying75, rfl⟩
theorem tyOk_smithyardSapiDAttr : TyOk Tryz.prog 84 (.pr .str (.rc .value)) := ⟨_, by kernel_rfl, Tryz.underlying84, rfl⟩
theorem tyOk_mapAstringBapiDTarget : TyOk Tryz.prog 94 (.mp (.pr .str (.pr .str (.sl (.pr .str (.rc .value)))))) := ⟨_, by kernel_rfl, Tryz.underlying94, rfl⟩
theorem tyOk_PscriptDlexer : TyOk Tryz.prog 107 (.np (.pr .str (.pr (.int .i64) (.sl (.pr (.int .i64) (.pr .str (.pr (.int .i64) (.int .i64)))))))) := ⟨_, by kernel_rfl, Tryz.underlying107, rfl⟩
theorem tyOk_smithyardSscriptDlexer : TyOk Tryz.prog 109 (.pr .str (.pr (.int .i64) (.sl (.pr (.int .i64) (.pr .str (.pr (.int .i64) (.int .i64))))))) := ⟨_, by kernel_rfl, Tryz.underlying109, rfl⟩
theorem tyOk_ABapiDStatement : TyOk Tryz.prog 116 (.sl (.rc .stmt)) := ⟨_, by kernel_rfl, Tryz.underlying116, rfl⟩
theorem tyOk_PscriptDmachine : TyOk Tryz.prog 119 (.np (.pr (.pr .str (.pr .str (.pr (.sl (.pr .str .str)) (.sl (.pr .str (.pr .bool (.sl .u8))))))) (.pr (.int .i64) (.pr (.int .i64) (.pr (.int .i64) (.pr (.mp (.np (.pr (.np .un) (.pr (.mp .bool) (.pr .bool .bool))))) (.mp (.pr .str (.pr .str (.sl (.pr .str (.rc .value)))))))))))) := ⟨_, by kernel_rfl, Tryz.underlying119, rfl⟩
theorem tyOk_mapAstringBPscriptDprogram : TyOk Tryz.prog 120 (.mp (.np (.pr (.np .un) (.pr (.mp .bool) (.pr .bool .bool))))) := ⟨_, by kernel_rfl, Tryz.underlying120, rfl⟩
theorem tyOk_smithyardSscriptDmachine : TyOk Tryz.prog 122 (.pr (.pr .str (.pr .str (.pr (.sl (.pr .str .str)) (.sl (.pr .str (.pr .bool (.sl .u8))))))) (.pr (.int .i64) (.pr (.int .i64) (.pr (.int .i64) (.pr (.mp (.np (.pr (.np .un) (.pr (.mp .bool) (.pr .bool .bool))))) (.mp (.pr .str (.pr .str (.sl (.pr .str (.rc .value))))))))))) := ⟨_, by kernel_rfl, Tryz.underlying122, rfl⟩
theorem tyOk_PscriptDprogram : TyOk Tryz.prog 123 (.np (.pr (.np .un) (.pr (.mp .bool) (.pr .bool .bool)))) := ⟨_, by kernel_rfl, Tryz.underlying123, rfl⟩
theorem tyOk_PscriptDscope : TyOk Tryz.prog 126 (.np .un) := ⟨_, by kernel_rfl, Tryz.underlying126, rfl⟩
theorem tyOk_mapAstringBbool : TyOk Tryz.prog 127 (.mp .bool) := ⟨_, by kernel_rfl, Tryz.underlying127, rfl⟩
theorem tyOk_smithyardSscriptDprogram : TyOk Tryz.prog 129 (.pr (.np .un) (.pr (.mp .bool) (.pr .bool .bool))) := ⟨_, by kernel_rfl, Tryz.underlying129, rfl⟩
theorem tyOk_func_apiDTarget_apiDTarget_int : TyOk Tryz.prog 131 (.clo 0 .un) := ⟨_, by kernel_rfl, Tryz.underlying131, rfl⟩
theorem tyOk_func_apiDCase_bool : TyOk Tryz.prog 136 (.clo 0 .un) := ⟨_, by kernel_rfl, Tryz.underlying136, rfl⟩
theorem tyOk_func_apiDCase_apiDCase_bool : TyOk Tryz.prog 138 (.clo 0 .un) := ⟨_, by kernel_rfl, Tryz.underlying138, rfl⟩
theorem tyOk_func_apiDAttr_bool : TyOk Tryz.prog 140 (.clo 0 .un) := ⟨_, by kernel_rfl, Tryz.underlying140, rfl⟩
theorem tyOk_func_uint8_bool : TyOk Tryz.prog 141 (.clo 0 .un) := ⟨_, by kernel_rfl, Tryz.underlying141, rfl⟩
theorem tyOk_uint : TyOk Tryz.prog 150 (.int .u64) := ⟨_, by kernel_rfl, Tryz.underlying150, rfl⟩
theorem tyOk_PapiDToken : TyOk Tryz.prog 157 (.np (.pr (.int .i64) (.pr .str (.pr (.int .i64) (.int .i64))))) := ⟨_, by kernel_rfl, Tryz.underlying157, rfl⟩
theorem tyOk_func_string_string_bool : TyOk Tryz.prog 159 (.clo 0 .un) := ⟨_, by kernel_rfl, Tryz.underlying159, rfl⟩
theorem tyOk_smithyardSapiDLibrary : TyOk Tryz.prog 165 (.pr .str .str) := ⟨_, by kernel_rfl, Tryz.underlying165, rfl⟩
theorem tyOk_PscriptDparser : TyOk Tryz.prog 167 (.np (.pr (.sl (.pr (.int .i64) (.pr .str (.pr (.int .i64) (.int .i64))))) (.pr (.int .i64) (.int .i64)))) := ⟨_, by kernel_rfl, Tryz.underlying167, rfl⟩
theorem tyOk_smithyardSscriptDparser : TyOk Tryz.prog 169 (.pr (.sl (.pr (.int .i64) (.pr .str (.pr (.int .i64) (.int .i64))))) (.pr (.int .i64) (.int .i64))) := ⟨_, by kernel_rfl, Tryz.underlying169, rfl⟩
theorem tyOk_ABapiDArg : TyOk Tryz.prog 174 (.sl (.pr .str (.rc .expr))) := ⟨_, by kernel_rfl, Tryz.underlying174, rfl⟩
theorem tyOk_ABapiDExpr : TyOk Tryz.prog 175 (.sl (.rc .expr)) := ⟨_, by kernel_rfl, Tryz.underlying175, rfl⟩
theorem tyOk_smithyardSapiDExpr : TyOk Tryz.prog 177 (.rc .expr) := ⟨_, by kernel_rfl, Tryz.underlying177, rfl⟩
theorem tyOk_smithyardSapiDStatement : TyOk Tryz.prog 179 (.rc .stmt) := ⟨_, by kernel_rfl, Tryz.underlying179, rfl⟩
theorem tyOk_ABABstring : TyOk Tryz.prog 183 (.sl (.sl .str)) := ⟨_, by kernel_rfl, Tryz.underlying183, rfl⟩
theorem tyOk_slicesDsortedHint : TyOk Tryz.prog 191 (.int .i64) := ⟨_, by kernel_rfl, Tryz.underlying191, rfl⟩
theorem tyOk_uint32 : TyOk Tryz.prog 199 (.int .u32) := ⟨_, by kernel_rfl, Tryz.underlying199, rfl⟩
theorem tyOk_uint64 : TyOk Tryz.prog 201 (.int .u64) := ⟨_, by kernel_rfl, Tryz.underlying201, rfl⟩
theorem tyOk_ABuint8 : TyOk Tryz.prog 209 (.sl .u8) := ⟨_, by kernel_rfl, Tryz.underlying209, rfl⟩
theorem tyOk_smithyardSapiDFile : TyOk Tryz.prog 212 (.pr .str (.pr .bool (.sl .u8))) := ⟨_, by kernel_rfl, Tryz.underlying212, rfl⟩
theorem tyOk_smithyardSscriptDbad : TyOk Tryz.prog 215 (.pr (.int .i64) .un) := ⟨_, by kernel_rfl, Tryz.underlying215, rfl⟩
theorem tyOk_mapAstringBscriptDbound : TyOk Tryz.prog 220 (.mp (.pr (.rc .value) (.np (.pr (.np (.pr (.np .un) (.pr (.mp .bool) (.pr .bool .bool)))) (.pr (.rc .stmt) .bool))))) := ⟨_, by kernel_rfl, Tryz.underlying220, rfl⟩
theorem tyOk_smithyardSscriptDscope : TyOk Tryz.prog 222 (.pr (.np .un) (.pr (.mp (.pr (.rc .value) (.np (.pr (.np (.pr (.np .un) (.pr (.mp .bool) (.pr .bool .bool)))) (.pr (.rc .stmt) .bool))))) (.sl .str))) := ⟨_, by kernel_rfl, Tryz.underlying222, rfl⟩
theorem tyOk_PscriptDmacro : TyOk Tryz.prog 225 (.np (.pr (.np (.pr (.np .un) (.pr (.mp .bool) (.pr .bool .bool)))) (.pr (.rc .stmt) .bool))) := ⟨_, by kernel_rfl, Tryz.underlying225, rfl⟩
theorem tyOk_smithyardSscriptDbound : TyOk Tryz.prog 227 (.pr (.rc .value) (.np (.pr (.np (.pr (.np .un) (.pr (.mp .bool) (.pr .bool .bool)))) (.pr (.rc .stmt) .bool)))) := ⟨_, by kernel_rfl, Tryz.underlying227, rfl⟩
theorem tyOk_smithyardSscriptDmacro : TyOk Tryz.prog 231 (.pr (.np (.pr (.np .un) (.pr (.mp .bool) (.pr .bool .bool)))) (.pr (.rc .stmt) .bool)) := ⟨_, by kernel_rfl, Tryz.underlying231, rfl⟩
theorem tyOk_slicesDxorshift : TyOk Tryz.prog 241 (.int .u64) := ⟨_, by kernel_rfl, Tryz.underlying241, rfl⟩
theorem tyOk_Pint : TyOk Tryz.prog 245 (.np (.int .i64)) := ⟨_, by kernel_rfl, Tryz.underlying245, rfl⟩
theorem tyOk_PapiDStatement : TyOk Tryz.prog 264 (.np (.rc .stmt)) := ⟨_, by kernel_rfl, Tryz.underlying264, rfl⟩
theorem tyOk_smithyardSscriptDfields : TyOk Tryz.prog 266 (.pr .bool (.pr .bool (.pr .bool (.pr .bool (.pr .bool (.pr .bool .bool)))))) := ⟨_, by kernel_rfl, Tryz.underlying266, rfl⟩
theorem tyOk_smithyardSapiDArg : TyOk Tryz.prog 270 (.pr .str (.rc .expr)) := ⟨_, by kernel_rfl, Tryz.underlying270, rfl⟩
theorem tyOk_mapAstringBapiDValue : TyOk Tryz.prog 274 (.mp (.rc .value)) := ⟨_, by kernel_rfl, Tryz.underlying274, rfl⟩
theorem tyOk_func_apiDLibrary_bool : TyOk Tryz.prog 278 (.clo 0 .un) := ⟨_, by kernel_rfl, Tryz.underlying278, rfl⟩
theorem tyOk_PslicesDxorshift : TyOk Tryz.prog 287 (.np (.int .u64)) := ⟨_, by kernel_rfl, Tryz.underlying287, rfl⟩
theorem tyOk_ABscriptDpart : TyOk Tryz.prog 298 (.sl (.rc .part)) := ⟨_, by kernel_rfl, Tryz.underlying298, rfl⟩
theorem tyOk_smithyardSscriptDpart : TyOk Tryz.prog 300 (.rc .part) := ⟨_, by kernel_rfl, Tryz.underlying300, rfl⟩
theorem tyOk_ABapiDValue : TyOk Tryz.prog 306 (.sl (.rc .value)) := ⟨_, by kernel_rfl, Tryz.underlying306, rfl⟩
theorem tyOk_func_apiDAttr_apiDAttr_int : TyOk Tryz.prog 311 (.clo 0 .un) := ⟨_, by kernel_rfl, Tryz.underlying311, rfl⟩
theorem tyOk_func_func_string_bool_ : TyOk Tryz.prog 319 (.clo 0 .un) := ⟨_, by kernel_rfl, Tryz.underlying319, rfl⟩
theorem tyOk_iterDSeqAstringB : TyOk Tryz.prog 320 (.clo 0 .un) := ⟨_, by kernel_rfl, Tryz.underlying320, rfl⟩
theorem tyOk_ABbool : TyOk Tryz.prog 351 (.sl .bool) := ⟨_, by kernel_rfl, Tryz.underlying351, rfl⟩
theorem tyOk_func_uint8_uint8_bool : TyOk Tryz.prog 353 (.clo 0 .un) := ⟨_, by kernel_rfl, Tryz.underlying353, rfl⟩
def tyT : TypeId → Option Ty := fun T =>
  match T with
  | 1 => some (.clo 0 .un)
  | 3 => some (.int .i64)
  | 4 => some .bool
  | 5 => some .u8
  | 9 => some .str
  | 22 => some (.sl .str)
  | 23 => some (.sl (.pr .str (.rc .value)))
  | 25 => some (.rc .value)
  | 26 => some (.int .i64)
  | 35 => some (.sl (.pr .str (.pr .str (.sl (.pr .str (.rc .value))))))
  | 37 => some (.pr .str (.sl (.pr .str (.pr .str (.sl (.pr .str (.rc .value)))))))
  | 38 => some (.sl (.pr .str (.rc .value)))
  | 40 => some (.pr .str (.pr .str (.sl (.pr .str (.rc .value)))))
  | 59 => some (.sl (.pr (.int .i64) (.pr .str (.pr (.int .i64) (.int .i64)))))
  | 64 => some (.pr (.int .i64) (.pr .str (.pr (.int .i64) (.int .i64))))
  | 65 => some (.clo 0 .un)
  | 69 => some (.sl (.pr .str .str))
  | 70 => some (.sl (.pr .str (.pr .bool (.sl .u8))))
  | 72 => some (.pr .str (.pr .str (.pr (.sl (.pr .str .str)) (.sl (.pr .str (.pr .bool (.sl .u8)))))))
  | 75 => some (.pr .str (.rc .value))
  | 84 => some (.pr .str (.rc .value))
  | 94 => some (.mp (.pr .str (.pr .str (.sl (.pr .str (.rc .value))))))
  | 107 => some (.np (.pr .str (.pr (.int .i64) (.sl (.pr (.int .i64) (.pr .str (.pr (.int .i64) (.int .i64))))))))
  | 109 => some (.pr .str (.pr (.int .i64) (.sl (.pr (.int .i64) (.pr .str (.pr (.int .i64) (.int .i64)))))))
  | 116 => some (.sl (.rc .stmt))
  | 119 => some (.np (.pr (.pr .str (.pr .str (.pr (.sl (.pr .str .str)) (.sl (.pr .str (.pr .bool (.sl .u8))))))) (.pr (.int .i64) (.pr (.int .i64) (.pr (.int .i64) (.pr (.mp (.np (.pr (.np .un) (.pr (.mp .bool) (.pr .bool .bool))))) (.mp (.pr .str (.pr .str (.sl (.pr .str (.rc .value))))))))))))
  | 120 => some (.mp (.np (.pr (.np .un) (.pr (.mp .bool) (.pr .bool .bool)))))
  | 122 => some (.pr (.pr .str (.pr .str (.pr (.sl (.pr .str .str)) (.sl (.pr .str (.pr .bool (.sl .u8))))))) (.pr (.int .i64) (.pr (.int .i64) (.pr (.int .i64) (.pr (.mp (.np (.pr (.np .un) (.pr (.mp .bool) (.pr .bool .bool))))) (.mp (.pr .str (.pr .str (.sl (.pr .str (.rc .value)))))))))))
  | 123 => some (.np (.pr (.np .un) (.pr (.mp .bool) (.pr .bool .bool))))
  | 126 => some (.np .un)
  | 127 => some (.mp .bool)
  | 129 => some (.pr (.np .un) (.pr (.mp .bool) (.pr .bool .bool)))
  | 131 => some (.clo 0 .un)
  | 136 => some (.clo 0 .un)
  | 138 => some (.clo 0 .un)
  | 140 => some (.clo 0 .un)
  | 141 => some (.clo 0 .un)
  | 150 => some (.int .u64)
  | 157 => some (.np (.pr (.int .i64) (.pr .str (.pr (.int .i64) (.int .i64)))))
  | 159 => some (.clo 0 .un)
  | 165 => some (.pr .str .str)
  | 167 => some (.np (.pr (.sl (.pr (.int .i64) (.pr .str (.pr (.int .i64) (.int .i64))))) (.pr (.int .i64) (.int .i64))))
  | 169 => some (.pr (.sl (.pr (.int .i64) (.pr .str (.pr (.int .i64) (.int .i64))))) (.pr (.int .i64) (.int .i64)))
  | 174 => some (.sl (.pr .str (.rc .expr)))
  | 175 => some (.sl (.rc .expr))
  | 177 => some (.rc .expr)
  | 179 => some (.rc .stmt)
  | 183 => some (.sl (.sl .str))
  | 191 => some (.int .i64)
  | 199 => some (.int .u32)
  | 201 => some (.int .u64)
  | 209 => some (.sl .u8)
  | 212 => some (.pr .str (.pr .bool (.sl .u8)))
  | 215 => some (.pr (.int .i64) .un)
  | 220 => some (.mp (.pr (.rc .value) (.np (.pr (.np (.pr (.np .un) (.pr (.mp .bool) (.pr .bool .bool)))) (.pr (.rc .stmt) .bool)))))
  | 222 => some (.pr (.np .un) (.pr (.mp (.pr (.rc .value) (.np (.pr (.np (.pr (.np .un) (.pr (.mp .bool) (.pr .bool .bool)))) (.pr (.rc .stmt) .bool))))) (.sl .str)))
  | 225 => some (.np (.pr (.np (.pr (.np .un) (.pr (.mp .bool) (.pr .bool .bool)))) (.pr (.rc .stmt) .bool)))
  | 227 => some (.pr (.rc .value) (.np (.pr (.np (.pr (.np .un) (.pr (.mp .bool) (.pr .bool .bool)))) (.pr (.rc .stmt) .bool))))
  | 231 => some (.pr (.np (.pr (.np .un) (.pr (.mp .bool) (.pr .bool .bool)))) (.pr (.rc .stmt) .bool))
  | 241 => some (.int .u64)
  | 245 => some (.np (.int .i64))
  | 264 => some (.np (.rc .stmt))
  | 266 => some (.pr .bool (.pr .bool (.pr .bool (.pr .bool (.pr .bool (.pr .bool .bool))))))
  | 270 => some (.pr .str (.rc .expr))
  | 274 => some (.mp (.rc .value))
  | 278 => some (.clo 0 .un)
  | 287 => some (.np (.int .u64))
  | 298 => some (.sl (.rc .part))
  | 300 => some (.rc .part)
  | 306 => some (.sl (.rc .value))
  | 311 => some (.clo 0 .un)
  | 319 => some (.clo 0 .un)
  | 320 => some (.clo 0 .un)
  | 351 => some (.sl .bool)
  | 353 => some (.clo 0 .un)
  | _ => none
theorem tyT_ok : ∀ T t, tyT T = some t → TyOk Tryz.prog T t := by
  intro T t h
  unfold tyT at h
  split at h
  · cases h; exact tyOk_func_
  · cases h; exact tyOk_int
  · cases h; exact tyOk_bool
  · cases h; exact tyOk_uint8
  · cases h; exact tyOk_string
  · cases h; exact tyOk_ABstring
  · cases h; exact tyOk_ABapiDCase
  · cases h; exact tyOk_smithyardSapiDValue
  · cases h; exact tyOk_smithyardSapiDFault
  · cases h; exact tyOk_ABapiDTarget
  · cases h; exact tyOk_smithyardSapiDPackage
  · cases h; exact tyOk_ABapiDAttr
  · cases h; exact tyOk_smithyardSapiDTarget
  · cases h; exact tyOk_ABapiDToken
  · cases h; exact tyOk_smithyardSapiDToken
  · cases h; exact tyOk_func_string_bool
  · cases h; exact tyOk_ABapiDLibrary
  · cases h; exact tyOk_ABapiDFile
  · cases h; exact tyOk_smithyardSapiDSource
  · cases h; exact tyOk_smithyardSapiDCase
  · cases h; exact tyOk_smithyardSapiDAttr
  · cases h; exact tyOk_mapAstringBapiDTarget
  · cases h; exact tyOk_PscriptDlexer
  · cases h; exact tyOk_smithyardSscriptDlexer
  · cases h; exact tyOk_ABapiDStatement
  · cases h; exact tyOk_PscriptDmachine
  · cases h; exact tyOk_mapAstringBPscriptDprogram
  · cases h; exact tyOk_smithyardSscriptDmachine
  · cases h; exact tyOk_PscriptDprogram
  · cases h; exact tyOk_PscriptDscope
  · cases h; exact tyOk_mapAstringBbool
  · cases h; exact tyOk_smithyardSscriptDprogram
  · cases h; exact tyOk_func_apiDTarget_apiDTarget_int
  · cases h; exact tyOk_func_apiDCase_bool
  · cases h; exact tyOk_func_apiDCase_apiDCase_bool
  · cases h; exact tyOk_func_apiDAttr_bool
  · cases h; exact tyOk_func_uint8_bool
  · cases h; exact tyOk_uint
  · cases h; exact tyOk_PapiDToken
  · cases h; exact tyOk_func_string_string_bool
  · cases h; exact tyOk_smithyardSapiDLibrary
  · cases h; exact tyOk_PscriptDparser
  · cases h; exact tyOk_smithyardSscriptDparser
  · cases h; exact tyOk_ABapiDArg
  · cases h; exact tyOk_ABapiDExpr
  · cases h; exact tyOk_smithyardSapiDExpr
  · cases h; exact tyOk_smithyardSapiDStatement
  · cases h; exact tyOk_ABABstring
  · cases h; exact tyOk_slicesDsortedHint
  · cases h; exact tyOk_uint32
  · cases h; exact tyOk_uint64
  · cases h; exact tyOk_ABuint8
  · cases h; exact tyOk_smithyardSapiDFile
  · cases h; exact tyOk_smithyardSscriptDbad
  · cases h; exact tyOk_mapAstringBscriptDbound
  · cases h; exact tyOk_smithyardSscriptDscope
  · cases h; exact tyOk_PscriptDmacro
  · cases h; exact tyOk_smithyardSscriptDbound
  · cases h; exact tyOk_smithyardSscriptDmacro
  · cases h; exact tyOk_slicesDxorshift
  · cases h; exact tyOk_Pint
  · cases h; exact tyOk_PapiDStatement
  · cases h; exact tyOk_smithyardSscriptDfields
  · cases h; exact tyOk_smithyardSapiDArg
  · cases h; exact tyOk_mapAstringBapiDValue
  · cases h; exact tyOk_func_apiDLibrary_bool
  · cases h; exact tyOk_PslicesDxorshift
  · cases h; exact tyOk_ABscriptDpart
  · cases h; exact tyOk_smithyardSscriptDpart
  · cases h; exact tyOk_ABapiDValue
  · cases h; exact tyOk_func_apiDAttr_apiDAttr_int
  · cases h; exact tyOk_func_func_string_bool_
  · cases h; exact tyOk_iterDSeqAstringB
  · cases h; exact tyOk_ABbool
  · cases h; exact tyOk_func_uint8_uint8_bool
  · cases h
def elT : TypeId → Option (TypeId × Ty) := fun T =>
  match T with
  | 22 => some (9, .str)
  | 23 => some (75, (.pr .str (.rc .value)))
  | 35 => some (40, (.pr .str (.pr .str (.sl (.pr .str (.rc .value))))))
  | 38 => some (84, (.pr .str (.rc .value)))
  | 59 => some (64, (.pr (.int .i64) (.pr .str (.pr (.int .i64) (.int .i64)))))
  | 69 => some (165, (.pr .str .str))
  | 70 => some (212, (.pr .str (.pr .bool (.sl .u8))))
  | 116 => some (179, (.rc .stmt))
  | 174 => some (270, (.pr .str (.rc .expr)))
  | 175 => some (177, (.rc .expr))
  | 183 => some (22, (.sl .str))
  | 209 => some (5, .u8)
  | 298 => some (300, (.rc .part))
  | 306 => some (25, (.rc .value))
  | 351 => some (4, .bool)
  | _ => none
theorem elT_ok : ∀ T e t, elT T = some (e, t) → ElOk Tryz.prog T e t := by
  intro T e t h
  unfold elT at h
  split at h
  · cases h; exact ⟨tyOk_string, 16, ElemT.mk_ Tryz.underlying22 (z := mkV .str (zeroC .str)) (by kernel_rfl) rfl (by decide) (by decide), by decide⟩
  · cases h; exact ⟨tyOk_smithyardSapiDCase, 96, ElemT.mk_ Tryz.underlying23 (z := mkV (.pr .str (.rc .value)) (zeroC (.pr .str (.rc .value)))) (by kernel_rfl) rfl (by decide) (by decide), by decide⟩
  · cases h; exact ⟨tyOk_smithyardSapiDTarget, 56, ElemT.mk_ Tryz.underlying35 (z := mkV (.pr .str (.pr .str (.sl (.pr .str (.rc .value))))) (zeroC (.pr .str (.pr .str (.sl (.pr .str (.rc .value))))))) (by kernel_rfl) rfl (by decide) (by decide), by decide⟩
  · cases h; exact ⟨tyOk_smithyardSapiDAttr, 96, ElemT.mk_ Tryz.underlying38 (z := mkV (.pr .str (.rc .value)) (zeroC (.pr .str (.rc .value)))) (by kernel_rfl) rfl (by decide) (by decide), by decide⟩
  · cases h; exact ⟨tyOk_smithyardSapiDToken, 40, ElemT.mk_ Tryz.underlying59 (z := mkV (.pr (.int .i64) (.pr .str (.pr (.int .i64) (.int .i64)))) (zeroC (.pr (.int .i64) (.pr .str (.pr (.int .i64) (.int .i64)))))) (by kernel_rfl) rfl (by decide) (by decide), by decide⟩
  · cases h; exact ⟨tyOk_smithyardSapiDLibrary, 32, ElemT.mk_ Tryz.underlying69 (z := mkV (.pr .str .str) (zeroC (.pr .str .str))) (by kernel_rfl) rfl (by decide) (by decide), by decide⟩
  · cases h; exact ⟨tyOk_smithyardSapiDFile, 48, ElemT.mk_ Tryz.underlying70 (z := mkV (.pr .str (.pr .bool (.sl .u8))) (zeroC (.pr .str (.pr .bool (.sl .u8))))) (by kernel_rfl) rfl (by decide) (by decide), by decide⟩
  · cases h; exact ⟨tyOk_smithyardSapiDStatement, 224, ElemT.mk_ Tryz.underlying116 (z := mkV (.rc .stmt) (zeroC (.rc .stmt))) (by kernel_rfl) rfl (by decide) (by decide), by decide⟩
  · cases h; exact ⟨tyOk_smithyardSapiDArg, 96, ElemT.mk_ Tryz.underlying174 (z := mkV (.pr .str (.rc .expr)) (zeroC (.pr .str (.rc .expr)))) (by kernel_rfl) rfl (by decide) (by decide), by decide⟩
  · cases h; exact ⟨tyOk_smithyardSapiDExpr, 80, ElemT.mk_ Tryz.underlying175 (z := mkV (.rc .expr) (zeroC (.rc .expr))) (by kernel_rfl) rfl (by decide) (by decide), by decide⟩
  · cases h; exact ⟨tyOk_ABstring, 24, ElemT.mk_ Tryz.underlying183 (z := mkV (.sl .str) (zeroC (.sl .str))) (by kernel_rfl) rfl (by decide) (by decide), by decide⟩
  · cases h; exact ⟨tyOk_uint8, 1, ElemT.mk_ Tryz.underlying209 (z := mkV .u8 (zeroC .u8)) (by kernel_rfl) rfl (by decide) (by decide), by decide⟩
  · cases h; exact ⟨tyOk_smithyardSscriptDpart, 112, ElemT.mk_ Tryz.underlying298 (z := mkV (.rc .part) (zeroC (.rc .part))) (by kernel_rfl) rfl (by decide) (by decide), by decide⟩
  · cases h; exact ⟨tyOk_smithyardSapiDValue, 80, ElemT.mk_ Tryz.underlying306 (z := mkV (.rc .value) (zeroC (.rc .value))) (by kernel_rfl) rfl (by decide) (by decide), by decide⟩
  · cases h; exact ⟨tyOk_bool, 1, ElemT.mk_ Tryz.underlying351 (z := mkV .bool (zeroC .bool)) (by kernel_rfl) rfl (by decide) (by decide), by decide⟩
  · cases h
def fldT : TypeId → Nat → Option (Nat × Ty) := fun T f =>
  match T, f with
  | 25, 0 => some (0, (.int .i64))
  | 25, 1 => some (1, .str)
  | 25, 2 => some (2, (.int .i64))
  | 25, 3 => some (3, (.sl .str))
  | 25, 4 => some (4, (.sl (.pr .str (.rc .value))))
  | 37, 0 => some (0, .str)
  | 37, 1 => some (1, (.sl (.pr .str (.pr .str (.sl (.pr .str (.rc .value)))))))
  | 40, 0 => some (0, .str)
  | 40, 1 => some (1, .str)
  | 40, 2 => some (2, (.sl (.pr .str (.rc .value))))
  | 64, 0 => some (0, (.int .i64))
  | 64, 1 => some (1, .str)
  | 64, 2 => some (2, (.int .i64))
  | 64, 3 => some (3, (.int .i64))
  | 72, 0 => some (0, .str)
  | 72, 1 => some (1, .str)
  | 72, 2 => some (2, (.sl (.pr .str .str)))
  | 72, 3 => some (3, (.sl (.pr .str (.pr .bool (.sl .u8)))))
  | 75, 0 => some (0, .str)
  | 75, 1 => some (1, (.rc .value))
  | 84, 0 => some (0, .str)
  | 84, 1 => some (1, (.rc .value))
  | 109, 0 => some (0, .str)
  | 109, 1 => some (1, (.int .i64))
  | 109, 2 => some (2, (.sl (.pr (.int .i64) (.pr .str (.pr (.int .i64) (.int .i64))))))
  | 122, 0 => some (0, (.pr .str (.pr .str (.pr (.sl (.pr .str .str)) (.sl (.pr .str (.pr .bool (.sl .u8))))))))
  | 122, 1 => some (4, (.int .i64))
  | 122, 2 => some (5, (.int .i64))
  | 122, 3 => some (6, (.int .i64))
  | 122, 4 => some (7, (.mp (.np (.pr (.np .un) (.pr (.mp .bool) (.pr .bool .bool))))))
  | 122, 5 => some (8, (.mp (.pr .str (.pr .str (.sl (.pr .str (.rc .value)))))))
  | 129, 0 => some (0, (.np .un))
  | 129, 1 => some (1, (.mp .bool))
  | 129, 2 => some (2, .bool)
  | 129, 3 => some (3, .bool)
  | 165, 0 => some (0, .str)
  | 165, 1 => some (1, .str)
  | 169, 0 => some (0, (.sl (.pr (.int .i64) (.pr .str (.pr (.int .i64) (.int .i64))))))
  | 169, 1 => some (1, (.int .i64))
  | 169, 2 => some (2, (.int .i64))
  | 177, 0 => some (0, (.int .i64))
  | 177, 1 => some (1, .str)
  | 177, 2 => some (2, (.int .i64))
  | 177, 3 => some (3, (.sl .str))
  | 177, 4 => some (4, (.sl (.rc .expr)))
  | 179, 0 => some (0, (.int .i64))
  | 179, 1 => some (1, .str)
  | 179, 2 => some (2, .str)
  | 179, 3 => some (3, (.sl .str))
  | 179, 4 => some (4, (.sl (.pr .str (.rc .expr))))
  | 179, 5 => some (5, (.rc .expr))
  | 179, 6 => some (10, (.sl (.rc .stmt)))
  | 179, 7 => some (11, (.sl (.rc .stmt)))
  | 179, 8 => some (12, (.int .i64))
  | 212, 0 => some (0, .str)
  | 212, 1 => some (1, .bool)
  | 212, 2 => some (2, (.sl .u8))
  | 215, 0 => some (0, (.int .i64))
  | 222, 0 => some (0, (.np .un))
  | 222, 1 => some (1, (.mp (.pr (.rc .value) (.np (.pr (.np (.pr (.np .un) (.pr (.mp .bool) (.pr .bool .bool)))) (.pr (.rc .stmt) .bool))))))
  | 222, 2 => some (2, (.sl .str))
  | 227, 0 => some (0, (.rc .value))
  | 227, 1 => some (5, (.np (.pr (.np (.pr (.np .un) (.pr (.mp .bool) (.pr .bool .bool)))) (.pr (.rc .stmt) .bool))))
  | 231, 0 => some (0, (.np (.pr (.np .un) (.pr (.mp .bool) (.pr .bool .bool)))))
  | 231, 1 => some (1, (.rc .stmt))
  | 231, 2 => some (14, .bool)
  | 266, 0 => some (0, .bool)
  | 266, 1 => some (1, .bool)
  | 266, 2 => some (2, .bool)
  | 266, 3 => some (3, .bool)
  | 266, 4 => some (4, .bool)
  | 266, 5 => some (5, .bool)
  | 266, 6 => some (6, .bool)
  | 270, 0 => some (0, .str)
  | 270, 1 => some (1, (.rc .expr))
  | 300, 0 => some (0, (.rc .expr))
  | 300, 1 => some (5, (.int .i64))
  | 300, 2 => some (6, (.sl (.rc .part)))
  | _, _ => none
theorem fldT_ok : ∀ T f off t, fldT T f = some (off, t) → FldOk Tryz.prog T f off t := by
  intro T f off t h
  unfold fldT at h
  split at h
  · cases h; exact ⟨_, _, Tryz.underlying25, rfl, rfl, tyOk_int, by decide⟩
  · cases h; exact ⟨_, _, Tryz.underlying25, rfl, rfl, tyOk_string, by decide⟩
  · cases h; exact ⟨_, _, Tryz.underlying25, rfl, rfl, tyOk_int, by decide⟩
  · cases h; exact ⟨_, _, Tryz.underlying25, rfl, rfl, tyOk_ABstring, by decide⟩
  · cases h; exact ⟨_, _, Tryz.underlying25, rfl, rfl, tyOk_ABapiDCase, by decide⟩
  · cases h; exact ⟨_, _, Tryz.underlying37, rfl, rfl, tyOk_string, by decide⟩
  · cases h; exact ⟨_, _, Tryz.underlying37, rfl, rfl, tyOk_ABapiDTarget, by decide⟩
  · cases h; exact ⟨_, _, Tryz.underlying40, rfl, rfl, tyOk_string, by decide⟩
  · cases h; exact ⟨_, _, Tryz.underlying40, rfl, rfl, tyOk_string, by decide⟩
  · cases h; exact ⟨_, _, Tryz.underlying40, rfl, rfl, tyOk_ABapiDAttr, by decide⟩
  · cases h; exact ⟨_, _, Tryz.underlying64, rfl, rfl, tyOk_int, by decide⟩
  · cases h; exact ⟨_, _, Tryz.underlying64, rfl, rfl, tyOk_string, by decide⟩
  · cases h; exact ⟨_, _, Tryz.underlying64, rfl, rfl, tyOk_int, by decide⟩
  · cases h; exact ⟨_, _, Tryz.underlying64, rfl, rfl, tyOk_int, by decide⟩
  · cases h; exact ⟨_, _, Tryz.underlying72, rfl, rfl, tyOk_string, by decide⟩
  · cases h; exact ⟨_, _, Tryz.underlying72, rfl, rfl, tyOk_string, by decide⟩
  · cases h; exact ⟨_, _, Tryz.underlying72, rfl, rfl, tyOk_ABapiDLibrary, by decide⟩
  · cases h; exact ⟨_, _, Tryz.underlying72, rfl, rfl, tyOk_ABapiDFile, by decide⟩
  · cases h; exact ⟨_, _, Tryz.underlying75, rfl, rfl, tyOk_string, by decide⟩
  · cases h; exact ⟨_, _, Tryz.underlying75, rfl, rfl, tyOk_smithyardSapiDValue, by decide⟩
  · cases h; exact ⟨_, _, Tryz.underlying84, rfl, rfl, tyOk_string, by decide⟩
  · cases h; exact ⟨_, _, Tryz.underlying84, rfl, rfl, tyOk_smithyardSapiDValue, by decide⟩
  · cases h; exact ⟨_, _, Tryz.underlying109, rfl, rfl, tyOk_string, by decide⟩
  · cases h; exact ⟨_, _, Tryz.underlying109, rfl, rfl, tyOk_int, by decide⟩
  · cases h; exact ⟨_, _, Tryz.underlying109, rfl, rfl, tyOk_ABapiDToken, by decide⟩
  · cases h; exact ⟨_, _, Tryz.underlying122, rfl, rfl, tyOk_smithyardSapiDSource, by decide⟩
  · cases h; exact ⟨_, _, Tryz.underlying122, rfl, rfl, tyOk_int, by decide⟩
  · cases h; exact ⟨_, _, Tryz.underlying122, rfl, rfl, tyOk_int, by decide⟩
  · cases h; exact ⟨_, _, Tryz.underlying122, rfl, rfl, tyOk_int, by decide⟩
  · cases h; exact ⟨_, _, Tryz.underlying122, rfl, rfl, tyOk_mapAstringBPscriptDprogram, by decide⟩
  · cases h; exact ⟨_, _, Tryz.underlying122, rfl, rfl, tyOk_mapAstringBapiDTarget, by decide⟩
  · cases h; exact ⟨_, _, Tryz.underlying129, rfl, rfl, tyOk_PscriptDscope, by decide⟩
  · cases h; exact ⟨_, _, Tryz.underlying129, rfl, rfl, tyOk_mapAstringBbool, by decide⟩
  · cases h; exact ⟨_, _, Tryz.underlying129, rfl, rfl, tyOk_bool, by decide⟩
  · cases h; exact ⟨_, _, Tryz.underlying129, rfl, rfl, tyOk_bool, by decide⟩
  · cases h; exact ⟨_, _, Tryz.underlying165, rfl, rfl, tyOk_string, by decide⟩
  · cases h; exact ⟨_, _, Tryz.underlying165, rfl, rfl, tyOk_string, by decide⟩
  · cases h; exact ⟨_, _, Tryz.underlying169, rfl, rfl, tyOk_ABapiDToken, by decide⟩
  · cases h; exact ⟨_, _, Tryz.underlying169, rfl, rfl, tyOk_int, by decide⟩
  · cases h; exact ⟨_, _, Tryz.underlying169, rfl, rfl, tyOk_int, by decide⟩
  · cases h; exact ⟨_, _, Tryz.underlying177, rfl, rfl, tyOk_int, by decide⟩
  · cases h; exact ⟨_, _, Tryz.underlying177, rfl, rfl, tyOk_string, by decide⟩
  · cases h; exact ⟨_, _, Tryz.underlying177, rfl, rfl, tyOk_int, by decide⟩
  · cases h; exact ⟨_, _, Tryz.underlying177, rfl, rfl, tyOk_ABstring, by decide⟩
  · cases h; exact ⟨_, _, Tryz.underlying177, rfl, rfl, tyOk_ABapiDExpr, by decide⟩
  · cases h; exact ⟨_, _, Tryz.underlying179, rfl, rfl, tyOk_int, by decide⟩
  · cases h; exact ⟨_, _, Tryz.underlying179, rfl, rfl, tyOk_string, by decide⟩
  · cases h; exact ⟨_, _, Tryz.underlying179, rfl, rfl, tyOk_string, by decide⟩
  · cases h; exact ⟨_, _, Tryz.underlying179, rfl, rfl, tyOk_ABstring, by decide⟩
  · cases h; exact ⟨_, _, Tryz.underlying179, rfl, rfl, tyOk_ABapiDArg, by decide⟩
  · cases h; exact ⟨_, _, Tryz.underlying179, rfl, rfl, tyOk_smithyardSapiDExpr, by decide⟩
  · cases h; exact ⟨_, _, Tryz.underlying179, rfl, rfl, tyOk_ABapiDStatement, by decide⟩
  · cases h; exact ⟨_, _, Tryz.underlying179, rfl, rfl, tyOk_ABapiDStatement, by decide⟩
  · cases h; exact ⟨_, _, Tryz.underlying179, rfl, rfl, tyOk_int, by decide⟩
  · cases h; exact ⟨_, _, Tryz.underlying212, rfl, rfl, tyOk_string, by decide⟩
  · cases h; exact ⟨_, _, Tryz.underlying212, rfl, rfl, tyOk_bool, by decide⟩
  · cases h; exact ⟨_, _, Tryz.underlying212, rfl, rfl, tyOk_ABuint8, by decide⟩
  · cases h; exact ⟨_, _, Tryz.underlying215, rfl, rfl, tyOk_int, by decide⟩
  · cases h; exact ⟨_, _, Tryz.underlying222, rfl, rfl, tyOk_PscriptDscope, by decide⟩
  · cases h; exact ⟨_, _, Tryz.underlying222, rfl, rfl, tyOk_mapAstringBscriptDbound, by decide⟩
  · cases h; exact ⟨_, _, Tryz.underlying222, rfl, rfl, tyOk_ABstring, by decide⟩
  · cases h; exact ⟨_, _, Tryz.underlying227, rfl, rfl, tyOk_smithyardSapiDValue, by decide⟩
  · cases h; exact ⟨_, _, Tryz.underlying227, rfl, rfl, tyOk_PscriptDmacro, by decide⟩
  · cases h; exact ⟨_, _, Tryz.underlying231, rfl, rfl, tyOk_PscriptDprogram, by decide⟩
  · cases h; exact ⟨_, _, Tryz.underlying231, rfl, rfl, tyOk_smithyardSapiDStatement, by decide⟩
  · cases h; exact ⟨_, _, Tryz.underlying231, rfl, rfl, tyOk_bool, by decide⟩
  · cases h; exact ⟨_, _, Tryz.underlying266, rfl, rfl, tyOk_bool, by decide⟩
  · cases h; exact ⟨_, _, Tryz.underlying266, rfl, rfl, tyOk_bool, by decide⟩
  · cases h; exact ⟨_, _, Tryz.underlying266, rfl, rfl, tyOk_bool, by decide⟩
  · cases h; exact ⟨_, _, Tryz.underlying266, rfl, rfl, tyOk_bool, by decide⟩
  · cases h; exact ⟨_, _, Tryz.underlying266, rfl, rfl, tyOk_bool, by decide⟩
  · cases h; exact ⟨_, _, Tryz.underlying266, rfl, rfl, tyOk_bool, by decide⟩
  · cases h; exact ⟨_, _, Tryz.underlying266, rfl, rfl, tyOk_bool, by decide⟩
  · cases h; exact ⟨_, _, Tryz.underlying270, rfl, rfl, tyOk_string, by decide⟩
  · cases h; exact ⟨_, _, Tryz.underlying270, rfl, rfl, tyOk_smithyardSapiDExpr, by decide⟩
  · cases h; exact ⟨_, _, Tryz.underlying300, rfl, rfl, tyOk_smithyardSapiDExpr, by decide⟩
  · cases h; exact ⟨_, _, Tryz.underlying300, rfl, rfl, tyOk_int, by decide⟩
  · cases h; exact ⟨_, _, Tryz.underlying300, rfl, rfl, tyOk_ABscriptDpart, by decide⟩
  · cases h
theorem mpT_ok : ∀ T e, tyT T = some (.mp e) → MpOk Tryz.prog T e := by
  intro T e h
  unfold tyT at h
  split at h
  · cases h
  · cases h
  · cases h
  · cases h
  · cases h
  · cases h
  · cases h
  · cases h
  · cases h
  · cases h
  · cases h
  · cases h
  · cases h
  · cases h
  · cases h
  · cases h
  · cases h
  · cases h
  · cases h
  · cases h
  · cases h
  · cases h; exact ⟨_, _, Tryz.underlying94, Tryz.underlying9, tyOk_smithyardSapiDTarget⟩
  · cases h
  · cases h
  · cases h
  · cases h
  · cases h; exact ⟨_, _, Tryz.underlying120, Tryz.underlying9, tyOk_PscriptDprogram⟩
  · cases h
  · cases h
  · cases h
  · cases h; exact ⟨_, _, Tryz.underlying127, Tryz.underlying9, tyOk_bool⟩
  · cases h
  · cases h
  · cases h
  · cases h
  · cases h
  · cases h
  · cases h
  · cases h
  · cases h
  · cases h
  · cases h
  · cases h
  · cases h
  · cases h
  · cases h
  · cases h
  · cases h
  · cases h
  · cases h
  · cases h
  · cases h
  · cases h
  · cases h
  · cases h; exact ⟨_, _, Tryz.underlying220, Tryz.underlying9, tyOk_smithyardSscriptDbound⟩
  · cases h
  · cases h
  · cases h
  · cases h
  · cases h
  · cases h
  · cases h
  · cases h
  · cases h
  · cases h; exact ⟨_, _, Tryz.underlying274, Tryz.underlying9, tyOk_smithyardSapiDValue⟩
  · cases h
  · cases h
  · cases h
  · cases h
  · cases h
  · cases h
  · cases h
  · cases h
  · cases h
  · cases h
  · cases h
theorem bldT_ok : ∀ T t, tyT T = some t → t.isAgg = true → ∃ fs places, Tryz.prog.underlying T = some (.struct fs) ∧ fs.toList.mapM (fun f => (Tryz.prog.info? f.type).map fun i => (f.offset, i.size)) = some places := by
  intro T t h ha
  unfold tyT at h
  split at h
  · cases h; cases ha
  · cases h; cases ha
  · cases h; cases ha
  · cases h; cases ha
  · cases h; cases ha
  · cases h; cases ha
  · cases h; cases ha
  · exact ⟨_, [(0, 1), (1, 1), (2, 1), (3, 1), (4, 1)], Tryz.underlying25, by kernel_rfl⟩
  · cases h; cases ha
  · cases h; cases ha
  · exact ⟨_, [(0, 1), (1, 1)], Tryz.underlying37, by kernel_rfl⟩
  · cases h; cases ha
  · exact ⟨_, [(0, 1), (1, 1), (2, 1)], Tryz.underlying40, by kernel_rfl⟩
  · cases h; cases ha
  · exact ⟨_, [(0, 1), (1, 1), (2, 1), (3, 1)], Tryz.underlying64, by kernel_rfl⟩
  · cases h; cases ha
  · cases h; cases ha
  · cases h; cases ha
  · exact ⟨_, [(0, 1), (1, 1), (2, 1), (3, 1)], Tryz.underlying72, by kernel_rfl⟩
  · exact ⟨_, [(0, 1), (1, 5)], Tryz.underlying75, by kernel_rfl⟩
  · exact ⟨_, [(0, 1), (1, 5)], Tryz.underlying84, by kernel_rfl⟩
  · cases h; cases ha
  · cases h; cases ha
  · exact ⟨_, [(0, 1), (1, 1), (2, 1)], Tryz.underlying109, by kernel_rfl⟩
  · cases h; cases ha
  · cases h; cases ha
  · cases h; cases ha
  · exact ⟨_, [(0, 4), (4, 1), (5, 1), (6, 1), (7, 1), (8, 1)], Tryz.underlying122, by kernel_rfl⟩
  · cases h; cases ha
  · cases h; cases ha
  · cases h; cases ha
  · exact ⟨_, [(0, 1), (1, 1), (2, 1), (3, 1)], Tryz.underlying129, by kernel_rfl⟩
  · cases h; cases ha
  · cases h; cases ha
  · cases h; cases ha
  · cases h; cases ha
  · cases h; cases ha
  · cases h; cases ha
  · cases h; cases ha
  · cases h; cases ha
  · exact ⟨_, [(0, 1), (1, 1)], Tryz.underlying165, by kernel_rfl⟩
  · cases h; cases ha
  · exact ⟨_, [(0, 1), (1, 1), (2, 1)], Tryz.underlying169, by kernel_rfl⟩
  · cases h; cases ha
  · cases h; cases ha
  · exact ⟨_, [(0, 1), (1, 1), (2, 1), (3, 1), (4, 1)], Tryz.underlying177, by kernel_rfl⟩
  · exact ⟨_, [(0, 1), (1, 1), (2, 1), (3, 1), (4, 1), (5, 5), (10, 1), (11, 1), (12, 1)], Tryz.underlying179, by kernel_rfl⟩
  · cases h; cases ha
  · cases h; cases ha
  · cases h; cases ha
  · cases h; cases ha
  · cases h; cases ha
  · exact ⟨_, [(0, 1), (1, 1), (2, 1)], Tryz.underlying212, by kernel_rfl⟩
  · exact ⟨_, [(0, 1)], Tryz.underlying215, by kernel_rfl⟩
  · cases h; cases ha
  · exact ⟨_, [(0, 1), (1, 1), (2, 1)], Tryz.underlying222, by kernel_rfl⟩
  · cases h; cases ha
  · exact ⟨_, [(0, 5), (5, 1)], Tryz.underlying227, by kernel_rfl⟩
  · exact ⟨_, [(0, 1), (1, 13), (14, 1)], Tryz.underlying231, by kernel_rfl⟩
  · cases h; cases ha
  · cases h; cases ha
  · cases h; cases ha
  · exact ⟨_, [(0, 1), (1, 1), (2, 1), (3, 1), (4, 1), (5, 1), (6, 1)], Tryz.underlying266, by kernel_rfl⟩
  · exact ⟨_, [(0, 1), (1, 5)], Tryz.underlying270, by kernel_rfl⟩
  · cases h; cases ha
  · cases h; cases ha
  · cases h; cases ha
  · cases h; cases ha
  · exact ⟨_, [(0, 5), (5, 1), (6, 1)], Tryz.underlying300, by kernel_rfl⟩
  · cases h; cases ha
  · cases h; cases ha
  · cases h; cases ha
  · cases h; cases ha
  · cases h; cases ha
  · cases h; cases ha
  · cases h
theorem ptT_ok : ∀ T t, tyT T = some t → isPtr t = true → (Tryz.prog.info? (Tryz.prog.pointee T)).isSome = true := by
  intro T t h ha
  unfold tyT at h
  split at h
  · cases h; cases ha
  · cases h; cases ha
  · cases h; cases ha
  · cases h; cases ha
  · cases h; cases ha
  · cases h; cases ha
  · cases h; cases ha
  · cases h; cases ha
  · cases h; cases ha
  · cases h; cases ha
  · cases h; cases ha
  · cases h; cases ha
  · cases h; cases ha
  · cases h; cases ha
  · cases h; cases ha
  · cases h; cases ha
  · cases h; cases ha
  · cases h; cases ha
  · cases h; cases ha
  · cases h; cases ha
  · cases h; cases ha
  · cases h; cases ha
  · kernel_rfl
  · cases h; cases ha
  · cases h; cases ha
  · kernel_rfl
  · cases h; cases ha
  · cases h; cases ha
  · kernel_rfl
  · kernel_rfl
  · cases h; cases ha
  · cases h; cases ha
  · cases h; cases ha
  · cases h; cases ha
  · cases h; cases ha
  · cases h; cases ha
  · cases h; cases ha
  · cases h; cases ha
  · kernel_rfl
  · cases h; cases ha
  · cases h; cases ha
  · kernel_rfl
  · cases h; cases ha
  · cases h; cases ha
  · cases h; cases ha
  · cases h; cases ha
  · cases h; cases ha
  · cases h; cases ha
  · cases h; cases ha
  · cases h; cases ha
  · cases h; cases ha
  · cases h; cases ha
  · cases h; cases ha
  · cases h; cases ha
  · cases h; cases ha
  · cases h; cases ha
  · kernel_rfl
  · cases h; cases ha
  · cases h; cases ha
  · cases h; cases ha
  · kernel_rfl
  · kernel_rfl
  · cases h; cases ha
  · cases h; cases ha
  · cases h; cases ha
  · cases h; cases ha
  · kernel_rfl
  · cases h; cases ha
  · cases h; cases ha
  · cases h; cases ha
  · cases h; cases ha
  · cases h; cases ha
  · cases h; cases ha
  · cases h; cases ha
  · cases h; cases ha
  · cases h
theorem cmpOk_smithyardSapiDToken : CmpOk Tryz.prog 64 (.pr (.int .i64) (.pr .str (.pr (.int .i64) (.int .i64)))) := CmpOk.flat rfl rfl Tryz.underlying64 (by kernel_rfl) (by kernel_rfl) (.cons rfl (by decide) (.int Tryz.underlying3) (.cons rfl (by decide) (.str Tryz.underlying9) (.cons rfl (by decide) (.int Tryz.underlying3) (.one rfl (by decide) (.int Tryz.underlying3)))))
theorem cmpOk_smithyardSapiDLibrary : CmpOk Tryz.prog 165 (.pr .str .str) := CmpOk.flat rfl rfl Tryz.underlying165 (by kernel_rfl) (by kernel_rfl) (.cons rfl (by decide) (.str Tryz.underlying9) (.one rfl (by decide) (.str Tryz.underlying9)))
theorem cmpOk_smithyardSscriptDbad : CmpOk Tryz.prog 215 (.pr (.int .i64) .un) := CmpOk.flat rfl rfl Tryz.underlying215 (by kernel_rfl) (by kernel_rfl) (.single rfl (by decide) (.int Tryz.underlying3))
theorem cmpOk_smithyardSscriptDfields : CmpOk Tryz.prog 266 (.pr .bool (.pr .bool (.pr .bool (.pr .bool (.pr .bool (.pr .bool .bool)))))) := CmpOk.flat rfl rfl Tryz.underlying266 (by kernel_rfl) (by kernel_rfl) (.cons rfl (by decide) (.bool Tryz.underlying4) (.cons rfl (by decide) (.bool Tryz.underlying4) (.cons rfl (by decide) (.bool Tryz.underlying4) (.cons rfl (by decide) (.bool Tryz.underlying4) (.cons rfl (by decide) (.bool Tryz.underlying4) (.cons rfl (by decide) (.bool Tryz.underlying4) (.one rfl (by decide) (.bool Tryz.underlying4))))))))
def cmpT : TypeId → Option Ty := fun T =>
  match T with
  | 64 => some (.pr (.int .i64) (.pr .str (.pr (.int .i64) (.int .i64))))
  | 165 => some (.pr .str .str)
  | 215 => some (.pr (.int .i64) .un)
  | 266 => some (.pr .bool (.pr .bool (.pr .bool (.pr .bool (.pr .bool (.pr .bool .bool))))))
  | _ => none
theorem cmpT_ok : ∀ T t, cmpT T = some t → CmpOk Tryz.prog T t := by
  intro T t h
  unfold cmpT at h
  split at h
  · cases h; exact cmpOk_smithyardSapiDToken
  · cases h; exact cmpOk_smithyardSapiDLibrary
  · cases h; exact cmpOk_smithyardSscriptDbad
  · cases h; exact cmpOk_smithyardSscriptDfields
  · cases h
def mkE (h : Nat → Hint) (fn : FuncId → Option Tmp → Option AF) (exq : Nat → Bool) (live : FuncId → Bool) : Env := { ty := tyT, el := elT, fld := fldT, cmp := cmpT, fn := fn, hint := h, exq := exq, live := live }
theorem mkE_ok (hh : Nat → Hint) (fn : FuncId → Option Tmp → Option AF) (exq : Nat → Bool) (live : FuncId → Bool) (h : ∀ f q F, fn f q = some F → Sound Tryz.prog GW B0G f F) : EnvOk Tryz.prog GW B0G (mkE hh fn exq live) :=
  { ty := tyT_ok, el := elT_ok, fld := fldT_ok, mp := mpT_ok, bld := bldT_ok, ptr := ptT_ok, cmp := cmpT_ok, fn := h, stable := GW_stable, mixed := by kernel_rfl }
noncomputable def Aw_tb : List (FuncId × Func) := [(11, Tryz.f11),
  (14, Tryz.f14),
  (31, Tryz.f31),
  (35, Tryz.f35),
  (36, Tryz.f36),
  (37, Tryz.f37),
  (40, Tryz.f40),
  (41, Tryz.f41),
  (42, Tryz.f42),
  (43, Tryz.f43),
  (44, Tryz.f44),
  (49, Tryz.f49),
  (50, Tryz.f50),
  (51, Tryz.f51),
  (52, Tryz.f52),
  (56, Tryz.f56),
  (71, Tryz.f71),
  (74, Tryz.f74),
  (75, Tryz.f75),
  (78, Tryz.f78),
  (79, Tryz.f79),
  (80, Tryz.f80),
  (81, Tryz.f81),
  (82, Tryz.f82),
  (83, Tryz.f83),
  (84, Tryz.f84),
  (85, Tryz.f85),
  (86, Tryz.f86),
  (87, Tryz.f87),
  (88, Tryz.f88),
  (89, Tryz.f89),
  (90, Tryz.f90),
  (92, Tryz.f92),
  (93, Tryz.f93),
  (94, Tryz.f94),
  (95, Tryz.f95),
  (96, Tryz.f96),
  (97, Tryz.f97),
  (98, Tryz.f98),
  (99, Tryz.f99),
  (101, Tryz.f101),
  (104, Tryz.f104),
  (111, Tryz.f111),
  (117, Tryz.f117),
  (118, Tryz.f118),
  (119, Tryz.f119),
  (120, Tryz.f120),
  (121, Tryz.f121),
  (125, Tryz.f125),
  (126, Tryz.f126),
  (127, Tryz.f127),
  (128, Tryz.f128),
  (129, Tryz.f129),
  (130, Tryz.f130),
  (131, Tryz.f131),
  (132, Tryz.f132),
  (133, Tryz.f133),
  (134, Tryz.f134),
  (135, Tryz.f135),
  (137, Tryz.f137),
  (138, Tryz.f138),
  (139, Tryz.f139),
  (151, Tryz.f151),
  (152, Tryz.f152),
  (164, Tryz.f164),
  (167, Tryz.f167),
  (168, Tryz.f168),
  (169, Tryz.f169),
  (170, Tryz.f170),
  (171, Tryz.f171),
  (172, Tryz.f172),
  (173, Tryz.f173),
  (174, Tryz.f174),
  (175, Tryz.f175),
  (176, Tryz.f176),
  (177, Tryz.f177),
  (178, Tryz.f178),
  (179, Tryz.f179),
  (180, Tryz.f180),
  (181, Tryz.f181),
  (182, Tryz.f182),
  (183, Tryz.f183),
  (184, Tryz.f184),
  (187, Tryz.f187),
  (189, Tryz.f189),
  (190, Tryz.f190),
  (193, Tryz.f193),
  (194, Tryz.f194),
  (207, Tryz.f207),
  (208, Tryz.f208),
  (209, Tryz.f209),
  (210, Tryz.f210),
  (211, Tryz.f211),
  (212, Tryz.f212),
  (213, Tryz.f213),
  (214, Tryz.f214),
  (215, Tryz.f215),
  (216, Tryz.f216),
  (217, Tryz.f217),
  (218, Tryz.f218),
  (219, Tryz.f219),
  (220, Tryz.f220),
  (221, Tryz.f221),
  (222, Tryz.f222),
  (223, Tryz.f223),
  (224, Tryz.f224),
  (225, Tryz.f225),
  (226, Tryz.f226),
  (227, Tryz.f227),
  (228, Tryz.f228),
  (229, Tryz.f229),
  (230, Tryz.f230),
  (231, Tryz.f231),
  (232, Tryz.f232),
  (233, Tryz.f233),
  (237, Tryz.f237),
  (245, Tryz.f245),
  (246, Tryz.f246),
  (247, Tryz.f247),
  (248, Tryz.f248),
  (249, Tryz.f249),
  (250, Tryz.f250),
  (251, Tryz.f251),
  (252, Tryz.f252),
  (253, Tryz.f253),
  (254, Tryz.f254),
  (255, Tryz.f255),
  (256, Tryz.f256),
  (257, Tryz.f257),
  (258, Tryz.f258),
  (259, Tryz.f259),
  (260, Tryz.f260),
  (261, Tryz.f261),
  (266, Tryz.f266),
  (267, Tryz.f267),
  (268, Tryz.f268),
  (269, Tryz.f269),
  (270, Tryz.f270),
  (271, Tryz.f271),
  (272, Tryz.f272),
  (274, Tryz.f274),
  (275, Tryz.f275),
  (276, Tryz.f276),
  (277, Tryz.f277),
  (278, Tryz.f278),
  (279, Tryz.f279),
  (280, Tryz.f280),
  (281, Tryz.f281),
  (282, Tryz.f282),
  (283, Tryz.f283),
  (284, Tryz.f284),
  (285, Tryz.f285),
  (286, Tryz.f286),
  (287, Tryz.f287),
  (288, Tryz.f288),
  (289, Tryz.f289),
  (294, Tryz.f294),
  (295, Tryz.f295),
  (297, Tryz.f297),
  (298, Tryz.f298),
  (299, Tryz.f299),
  (300, Tryz.f300),
  (301, Tryz.f301),
  (302, Tryz.f302),
  (303, Tryz.f303),
  (304, Tryz.f304),
  (305, Tryz.f305),
  (310, Tryz.f310),
  (311, Tryz.f311),
  (312, Tryz.f312),
  (313, Tryz.f313)]
noncomputable def Aw_fn : FuncId → Option Func := aget Aw_tb
theorem Aw_fn_ok : ∀ f fn, Aw_fn f = some fn → Tryz.prog.funcs[f]? = some fn ∧ ∀ (args : Array Value) (w : World), (callFunc f args).run Tryz.prog w = .ok (.enter f args) w :=
  fnsOk_get Aw_tb ⟨⟨Tryz.func11, Tryz.call11⟩,
  ⟨Tryz.func14, Tryz.call14⟩,
  ⟨Tryz.func31, Tryz.call31⟩,
  ⟨Tryz.func35, Tryz.call35⟩,
  ⟨Tryz.func36, Tryz.call36⟩,
  ⟨Tryz.func37, Tryz.call37⟩,
  ⟨Tryz.func40, Tryz.call40⟩,
  ⟨Tryz.func41, Tryz.call41⟩,
  ⟨Tryz.func42, Tryz.call42⟩,
  ⟨Tryz.func43, Tryz.call43⟩,
  ⟨Tryz.func44, Tryz.call44⟩,
  ⟨Tryz.func49, Tryz.call49⟩,
  ⟨Tryz.func50, Tryz.call50⟩,
  ⟨Tryz.func51, Tryz.call51⟩,
  ⟨Tryz.func52, Tryz.call52⟩,
  ⟨Tryz.func56, Tryz.call56⟩,
  ⟨Tryz.func71, Tryz.call71⟩,
  ⟨Tryz.func74, Tryz.call74⟩,
  ⟨Tryz.func75, Tryz.call75⟩,
  ⟨Tryz.func78, Tryz.call78⟩,
  ⟨Tryz.func79, Tryz.call79⟩,
  ⟨Tryz.func80, Tryz.call80⟩,
  ⟨Tryz.func81, Tryz.call81⟩,
  ⟨Tryz.func82, Tryz.call82⟩,
  ⟨Tryz.func83, Tryz.call83⟩,
  ⟨Tryz.func84, Tryz.call84⟩,
  ⟨Tryz.func85, Tryz.call85⟩,
  ⟨Tryz.func86, Tryz.call86⟩,
  ⟨Tryz.func87, Tryz.call87⟩,
  ⟨Tryz.func88, Tryz.call88⟩,
  ⟨Tryz.func89, Tryz.call89⟩,
  ⟨Tryz.func90, Tryz.call90⟩,
  ⟨Tryz.func92, Tryz.call92⟩,
  ⟨Tryz.func93, Tryz.call93⟩,
  ⟨Tryz.func94, Tryz.call94⟩,
  ⟨Tryz.func95, Tryz.call95⟩,
  ⟨Tryz.func96, Tryz.call96⟩,
  ⟨Tryz.func97, Tryz.call97⟩,
  ⟨Tryz.func98, Tryz.call98⟩,
  ⟨Tryz.func99, Tryz.call99⟩,
  ⟨Tryz.func101, Tryz.call101⟩,
  ⟨Tryz.func104, Tryz.call104⟩,
  ⟨Tryz.func111, Tryz.call111⟩,
  ⟨Tryz.func117, Tryz.call117⟩,
  ⟨Tryz.func118, Tryz.call118⟩,
  ⟨Tryz.func119, Tryz.call119⟩,
  ⟨Tryz.func120, Tryz.call120⟩,
  ⟨Tryz.func121, Tryz.call121⟩,
  ⟨Tryz.func125, Tryz.call125⟩,
  ⟨Tryz.func126, Tryz.call126⟩,
  ⟨Tryz.func127, Tryz.call127⟩,
  ⟨Tryz.func128, Tryz.call128⟩,
  ⟨Tryz.func129, Tryz.call129⟩,
  ⟨Tryz.func130, Tryz.call130⟩,
  ⟨Tryz.func131, Tryz.call131⟩,
  ⟨Tryz.func132, Tryz.call132⟩,
  ⟨Tryz.func133, Tryz.call133⟩,
  ⟨Tryz.func134, Tryz.call134⟩,
  ⟨Tryz.func135, Tryz.call135⟩,
  ⟨Tryz.func137, Tryz.call137⟩,
  ⟨Tryz.func138, Tryz.call138⟩,
  ⟨Tryz.func139, Tryz.call139⟩,
  ⟨Tryz.func151, Tryz.call151⟩,
  ⟨Tryz.func152, Tryz.call152⟩,
  ⟨Tryz.func164, Tryz.call164⟩,
  ⟨Tryz.func167, Tryz.call167⟩,
  ⟨Tryz.func168, Tryz.call168⟩,
  ⟨Tryz.func169, Tryz.call169⟩,
  ⟨Tryz.func170, Tryz.call170⟩,
  ⟨Tryz.func171, Tryz.call171⟩,
  ⟨Tryz.func172, Tryz.call172⟩,
  ⟨Tryz.func173, Tryz.call173⟩,
  ⟨Tryz.func174, Tryz.call174⟩,
  ⟨Tryz.func175, Tryz.call175⟩,
  ⟨Tryz.func176, Tryz.call176⟩,
  ⟨Tryz.func177, Tryz.call177⟩,
  ⟨Tryz.func178, Tryz.call178⟩,
  ⟨Tryz.func179, Tryz.call179⟩,
  ⟨Tryz.func180, Tryz.call180⟩,
  ⟨Tryz.func181, Tryz.call181⟩,
  ⟨Tryz.func182, Tryz.call182⟩,
  ⟨Tryz.func183, Tryz.call183⟩,
  ⟨Tryz.func184, Tryz.call184⟩,
  ⟨Tryz.func187, Tryz.call187⟩,
  ⟨Tryz.func189, Tryz.call189⟩,
  ⟨Tryz.func190, Tryz.call190⟩,
  ⟨Tryz.func193, Tryz.call193⟩,
  ⟨Tryz.func194, Tryz.call194⟩,
  ⟨Tryz.func207, Tryz.call207⟩,
  ⟨Tryz.func208, Tryz.call208⟩,
  ⟨Tryz.func209, Tryz.call209⟩,
  ⟨Tryz.func210, Tryz.call210⟩,
  ⟨Tryz.func211, Tryz.call211⟩,
  ⟨Tryz.func212, Tryz.call212⟩,
  ⟨Tryz.func213, Tryz.call213⟩,
  ⟨Tryz.func214, Tryz.call214⟩,
  ⟨Tryz.func215, Tryz.call215⟩,
  ⟨Tryz.func216, Tryz.call216⟩,
  ⟨Tryz.func217, Tryz.call217⟩,
  ⟨Tryz.func218, Tryz.call218⟩,
  ⟨Tryz.func219, Tryz.call219⟩,
  ⟨Tryz.func220, Tryz.call220⟩,
  ⟨Tryz.func221, Tryz.call221⟩,
  ⟨Tryz.func222, Tryz.call222⟩,
  ⟨Tryz.func223, Tryz.call223⟩,
  ⟨Tryz.func224, Tryz.call224⟩,
  ⟨Tryz.func225, Tryz.call225⟩,
  ⟨Tryz.func226, Tryz.call226⟩,
  ⟨Tryz.func227, Tryz.call227⟩,
  ⟨Tryz.func228, Tryz.call228⟩,
  ⟨Tryz.func229, Tryz.call229⟩,
  ⟨Tryz.func230, Tryz.call230⟩,
  ⟨Tryz.func231, Tryz.call231⟩,
  ⟨Tryz.func232, Tryz.call232⟩,
  ⟨Tryz.func233, Tryz.call233⟩,
  ⟨Tryz.func237, Tryz.call237⟩,
  ⟨Tryz.func245, Tryz.call245⟩,
  ⟨Tryz.func246, Tryz.call246⟩,
  ⟨Tryz.func247, Tryz.call247⟩,
  ⟨Tryz.func248, Tryz.call248⟩,
  ⟨Tryz.func249, Tryz.call249⟩,
  ⟨Tryz.func250, Tryz.call250⟩,
  ⟨Tryz.func251, Tryz.call251⟩,
  ⟨Tryz.func252, Tryz.call252⟩,
  ⟨Tryz.func253, Tryz.call253⟩,
  ⟨Tryz.func254, Tryz.call254⟩,
  ⟨Tryz.func255, Tryz.call255⟩,
  ⟨Tryz.func256, Tryz.call256⟩,
  ⟨Tryz.func257, Tryz.call257⟩,
  ⟨Tryz.func258, Tryz.call258⟩,
  ⟨Tryz.func259, Tryz.call259⟩,
  ⟨Tryz.func260, Tryz.call260⟩,
  ⟨Tryz.func261, Tryz.call261⟩,
  ⟨Tryz.func266, Tryz.call266⟩,
  ⟨Tryz.func267, Tryz.call267⟩,
  ⟨Tryz.func268, Tryz.call268⟩,
  ⟨Tryz.func269, Tryz.call269⟩,
  ⟨Tryz.func270, Tryz.call270⟩,
  ⟨Tryz.func271, Tryz.call271⟩,
  ⟨Tryz.func272, Tryz.call272⟩,
  ⟨Tryz.func274, Tryz.call274⟩,
  ⟨Tryz.func275, Tryz.call275⟩,
  ⟨Tryz.func276, Tryz.call276⟩,
  ⟨Tryz.func277, Tryz.call277⟩,
  ⟨Tryz.func278, Tryz.call278⟩,
  ⟨Tryz.func279, Tryz.call279⟩,
  ⟨Tryz.func280, Tryz.call280⟩,
  ⟨Tryz.func281, Tryz.call281⟩,
  ⟨Tryz.func282, Tryz.call282⟩,
  ⟨Tryz.func283, Tryz.call283⟩,
  ⟨Tryz.func284, Tryz.call284⟩,
  ⟨Tryz.func285, Tryz.call285⟩,
  ⟨Tryz.func286, Tryz.call286⟩,
  ⟨Tryz.func287, Tryz.call287⟩,
  ⟨Tryz.func288, Tryz.call288⟩,
  ⟨Tryz.func289, Tryz.call289⟩,
  ⟨Tryz.func294, Tryz.call294⟩,
  ⟨Tryz.func295, Tryz.call295⟩,
  ⟨Tryz.func297, Tryz.call297⟩,
  ⟨Tryz.func298, Tryz.call298⟩,
  ⟨Tryz.func299, Tryz.call299⟩,
  ⟨Tryz.func300, Tryz.call300⟩,
  ⟨Tryz.func301, Tryz.call301⟩,
  ⟨Tryz.func302, Tryz.call302⟩,
  ⟨Tryz.func303, Tryz.call303⟩,
  ⟨Tryz.func304, Tryz.call304⟩,
  ⟨Tryz.func305, Tryz.call305⟩,
  ⟨Tryz.func310, Tryz.call310⟩,
  ⟨Tryz.func311, Tryz.call311⟩,
  ⟨Tryz.func312, Tryz.call312⟩,
  ⟨Tryz.func313, Tryz.call313⟩, trivial⟩
def Aw_rows : FuncId → Bool := fun f =>
  match f with
  | 131 => true
  | 177 => true
  | 178 => true
  | 272 => true
  | 282 => true
  | 283 => true
  | _ => false
def Aw_frz : FuncId → Bool := fun f =>
  match f with
  | 226 => true
  | _ => false
def Aw_exq : FuncId → Nat → Bool := fun f i =>
  match f with
  | 126 => memN [12, 17] i
  | 294 => memN [3, 8] i
  | 300 => memN [18, 29] i
  | 310 => memN [18, 29] i
  | _ => false
def Aw_dfr : FuncId → Bool := fun f =>
  match f with
  | 126 => true
  | _ => false
def Aw_rcv : FuncId → Bool := fun f =>
  match f with
  | 168 => true
  | _ => false
def Aw_dat : FuncId → Bool := fun f =>
  match f with
  | 268 => true
  | 276 => true
  | _ => false
noncomputable def Aw_C : Call' := { fn := Aw_fn, rows := Aw_rows, frz := Aw_frz, exq := Aw_exq, dfr := Aw_dfr, rcv := Aw_rcv, dat := Aw_dat }
theorem Aw_rcv_ok : ∀ f, Aw_C.rcv f = true → (∀ (args : Array Value) (w : World), (callFunc f args).run Tryz.prog w = .ok (.enter f args) w) ∧ ∀ (caps : Array Value) (w : World), CallsD Tryz.prog f caps .returning w fun e u w' => (∃ v, e = .returned v) ∧ u = .returning ∧ w' = w := fun f h => by
  have h : Aw_rcv f = true := h
  unfold Aw_rcv at h
  split at h
  · exact ⟨Tryz.call168, idle_all⟩
  · cases h
noncomputable def Aw_xf : FuncId → Option Tmp → Option AF := fun f _ =>
  match f with
  | 116 => some (strings_IndexByte_sg fun x _ => strings_IndexByte x.1 x.2.1)
  | 68 => some (strings_Compare_sg fun x _ => strings_Compare x.1 x.2.1)
  | 103 => some (strings_Split_sg fun x _ => strings_Split x.1 x.2.1)
  | 296 => some (⟨[.nilS, .fnc 276 [0]], [.cells [.v (.sl .str)]], [.row 1], [.cells [.v (.sl .str)], .row 9 .str true], List Str × List Str, fun z => (((), ()), ((z.1, ()), (z.2, ()))), fun _ y => slices_AppendSeq y.1.1⟩)
  | 100 => some (Cn.slices_Clone_string_string_sg fun x _ => Cn.cloneS x.1)
  | 70 => some (⟨[.row 0], [.row 9 .str true], [], [.row 9 .str true, .none], List Str, fun z => ((), (z, ((), ()))), fun x y => slices_Sort_short y.1⟩)
  | _ => none
theorem Aw_xf_ok : ∀ f q F, Aw_xf f q = some F → Sound Tryz.prog GW B0G f F := by
  intro f q F h
  unfold Aw_xf at h
  split at h
  · cases h; exact strings_IndexByte_sound
  · cases h; exact strings_Compare_sound
  · cases h; exact strings_Split_sound
  · cases h; exact slices_AppendSeq_sound
  · cases h; exact Cn.cloneS_sound
  · cases h; exact slices_Sort_short_sound
  · cases h
noncomputable def Aw_E0 : Env := (mkE (fun _ => ⟨[], [], [], [], [], []⟩) Aw_xf (fun _ => false) (fun _ => true)).rawE
theorem Aw_E0_ok : EnvOk Tryz.prog GW B0G Aw_E0 := rawE_ok (mkE_ok _ _ _ _ Aw_xf_ok)
noncomputable def Aw_E : Env := mkDyn Aw_E0 Aw_C 100 40
theorem Aw_E_ok : EnvOk Tryz.prog GW B0G Aw_E := mkDyn_ok Aw_E0_ok Aw_fn_ok Aw_rcv_ok _ _
end Go.Proofs.YtahjncefiegflaaGreatDoor.Aw


/- What the function hands back. -/
namespace Go.Proofs.YtahjncefiegflaaGreatDoor
open Go Go.RowKit
set_option maxRecDepth 100000
theorem Aw_val : evalB Aw.Aw_E 100 Tryz.f11 = some true := by kernel_rfl
def law2_awake : Option Bool := some true
theorem law2_awake_sound : Sound Tryz.prog GW B0G 11 ⟨[], [], [.v .bool], [], Bool, fun z => ((z, ()), ()), fun _ _ => law2_awake⟩ := evalB_sound Aw.Aw_E_ok Tryz.func11 Tryz.call11 _ Aw_val
end Go.Proofs.YtahjncefiegflaaGreatDoor


/- slices.Compact of strings, out of the kit's contract: it turns a row of its caller's. -/
namespace Go.Proofs.YtahjncefiegflaaGreatDoor
set_option linter.unusedVariables false
set_option linter.unusedSimpArgs false
open Go Go.RowKit Go.Shelf
def slices_Compact_string_string (xs : List Str) : Option (List Str) := some (Lib.compact xs)
theorem compact_le (xs : List Str) : (Lib.compact xs).length ≤ xs.length := Lib.compact_length_le xs
theorem slices_Compact_string_string_sound : Sound Tryz.prog GW B0G 71 ⟨[.row 0], [.row 9 .str true], [.row 0], [.row 9 .str true], List Str, fun z => (((), ()), (z, ())), fun x y => slices_Compact_string_string y.1⟩ := by
  refine Sound.ofRow (ps := []) (t := .str) true (F := fun x xs => slices_Compact_string_string xs) Tryz.call71 (by decide) fun M w g v0 vs x xs zs cs hG hMl hM hown hels hA hz => ?_
  match vs, hA with
  | [], hA =>
      change slices_Compact_string_string xs = some zs at hz
      unfold slices_Compact_string_string at hz
      injection hz with hz
      have hl := hown.1
      have hl' : cs.length = xs.length := by rw [hl]; exact Nat.mul_one _
      have hcs := els_str hl' hels
      rcases hown.2 with ⟨e1, e2⟩ | ⟨b, cap, cur, e1, _, hg, hle, hmax, hsz, htk⟩
      · have hx0 : xs = [] := List.eq_nil_of_length_eq_zero e2
        subst hx0 e1
        refine (Tryz.slices_Compact_string_empty none 0 w).mono fun e w' hp => ?_
        obtain ⟨rfl, rfl⟩ := hp
        subst hz
        exact ⟨_, [], rfl, fun h => (by cases h), ExtX.refl _ _, ⟨rfl, .inl ⟨rfl, rfl⟩⟩, fun i h => absurd h (Nat.not_lt_zero _), fun b hb => .inl hb⟩
      · subst e1
        have hsz' : cur.size = cap := by rw [hsz]; exact Nat.mul_one _
        have htk' : cur.toList.take xs.length = xs.map fun x => Value.string ⟨x.toArray⟩ := by rw [← hcs, ← htk]; congr 1; exact (Nat.mul_one _).symm
        have hcell : ∀ k, k < xs.length → w.cell? ⟨b, 0 + k, none⟩ = some (.string ⟨(xs[k]?.getD []).toArray⟩) := fun k hk => by
          have h1 : cur.toList[k]? = some (Value.string ⟨xs[k].toArray⟩) := by
            have := congrArg (fun l => l[k]?) htk'
            simp only [List.getElem?_take, hk, if_true, List.getElem?_map, List.getElem?_eq_getElem hk, Option.map_some] at this
            exact this
          rw [Nat.zero_add, List.getElem?_eq_getElem hk]
          unfold World.cell?
          rw [hg]
          simpa using h1
        refine (Tryz.slices_Compact_string_cells b 0 xs.length cap (fun k => ⟨(xs[k]?.getD []).toArray⟩) w (by unfold maxLen at hmax; omega) hle hcell (fun k hk => by unfold World.frozen?; rw [hg]; simp)).mono fun e w' hp => ?_
        obtain ⟨rfl, q, rfl⟩ := hp
        have hstrs : Lib.strsOf (fun k => (⟨(xs[k]?.getD []).toArray⟩ : ByteArray)) xs.length = xs := by
          apply List.ext_getElem
          · simp [Lib.strsOf]
          · intro k h1 h2
            simp [Lib.strsOf, h2]
        rw [hstrs]
        rw [hz]
        have hzle : zs.length ≤ xs.length := by rw [← hz]; exact compact_le xs
        have hnew : (zs ++ List.replicate (xs.length - zs.length) []).length = xs.length := by
          simp only [List.length_append, List.length_replicate]; omega
        have hblk := setCells_block b 9 (0, 0) ((zs ++ List.replicate (xs.length - zs.length) []).map encStr) 0 (w.drewN q) cur hg (by rw [List.length_map, hnew]; omega)
        refine ⟨_, zs.map fun x => Value.string ⟨x.toArray⟩, rfl, fun h => (by cases h), setCells_ext.mono (fun k hk => by simpa [Value.ownBlock] using hk), ⟨by rw [List.length_map]; exact (Nat.mul_one _).symm, .inr ⟨b, cap, _, rfl, Nat.zero_le _, hblk, by omega, hmax, ?_, ?_⟩⟩, str_els _, fun b hb => .inl hb⟩
        · have hcl : cur.toList.length = cap := by rw [Array.length_toList]; exact hsz'
          simp only [List.take_zero, List.nil_append, List.size_toArray, List.length_append, List.length_drop, List.length_map, List.length_replicate, hcl]
          show _ = cap * 1
          omega
        · show ((List.take 0 cur.toList ++ _ ++ _).toArray.toList).take (zs.length * 1) = _
          rw [Nat.mul_one, List.take_zero, List.nil_append, List.map_append, List.append_assoc]
          have e0 : zs.map encStr = zs.map fun x => Value.string ⟨x.toArray⟩ := rfl
          rw [e0]
          have : zs.length = (zs.map fun x => Value.string ⟨x.toArray⟩).length := by simp
          rw [this]
          simp
end Go.Proofs.YtahjncefiegflaaGreatDoor



/-
  DERIVED: THE SHELF's CONTRACTS AT THIS DUMP, IN PLAIN WORDS (tools/lay-plain.mjs out of 'TryzShelfI.lean', which tools/lay-shelf.mjs wrote): THE SAME DECLARATIONS UNDER THE SAME NAMES: 'import', 'namespace', 'open', 'def', 'theorem' AND NOTHING ELSE: no command of the shelf's: FOR A HAND-IN. Each laying: the table of numbers ('.._ren') and one theorem, a field a fact of the dump's own or the kernel's comparison; each contract: ONE APPLICATION.
-/
namespace Go.Proofs
open Go.Shelf
def Tryz.insertS_ren : Go.Shelf.Ren := ⟨fun | 22 => 109 | 29 => 141 | 30 => 142 | 36 => 191 | 17 => 238 | n => n, fun | 24 => 22 | 9 => 9 | 3 => 3 | 4 => 4 | 0 => 0 | n => n, fun | n => n⟩
theorem Tryz.insertS : Go.Proofs.Lays2.n22 Tryz.prog Tryz.insertS_ren := {
  mixed := by kernel_rfl
  f17 := Tryz.func238.trans (congrArg some (by kernel_rfl))
  f22 := Tryz.func109.trans (congrArg some (by kernel_rfl))
  f29 := Tryz.func141.trans (congrArg some (by kernel_rfl))
  f30 := Tryz.func142.trans (congrArg some (by kernel_rfl))
  f36 := Tryz.func191.trans (congrArg some (by kernel_rfl))
  t0 := Tryz.underlying0
  a0 := Tryz.isAgg0
  z0 := Tryz.sizeOf0
  v0 := Tryz.zeroValue0
  t3 := Tryz.underlying3
  a3 := Tryz.isAgg3
  z3 := Tryz.sizeOf3
  v3 := Tryz.zeroValue3
  t4 := Tryz.underlying4
  a4 := Tryz.isAgg4
  z4 := Tryz.sizeOf4
  v4 := Tryz.zeroValue4
  t9 := Tryz.underlying9
  a9 := Tryz.isAgg9
  z9 := Tryz.sizeOf9
  v9 := Tryz.zeroValue9
  t24 := Tryz.underlying22
  a24 := Tryz.isAgg22
  z24 := Tryz.sizeOf22
  v24 := Tryz.zeroValue22
  i9 := by kernel_rfl }
end Go.Proofs

