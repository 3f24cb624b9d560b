/- A function that leaves all that its caller has as it is, and makes one thing anew. -/
import Derived.Test.YthlkidohpiebiaaDoorQBnF3
import Derived.Shelf.SlSortCmp.WholeK
import Derived.Shelf.SlGeneric
import Derived.Shelf.SortM.Plain
import Derived.Shelf.SortM.SortNone
import Derived.Ground.SlgmProg
import Derived.Test.YthlkidohpiebiaaDoorProg
import Derived.Shelf.SlIter.Nil
import Derived.Ground.GgzProg
import Derived.Test.YthlkidohpiebiaaDoorQAsc
import Derived.Shelf.SlSortCmp.NoneTotal
import Derived.Ground.SlsfProg
import Derived.Shelf.Strings.SlTrimAscii
import Derived.Lib.Join
namespace Go.Proofs.YthlkidohpiebiaaDoor
set_option linter.unusedVariables false
set_option linter.unusedSimpArgs false
open Go Go.RowKit Go.Shelf
theorem Sound.ofMade {P : Program} {G : World → Prop} {B0 : Nat} {f : FuncId} {ps : List Sl} {bs : List Sb} {rs : List Sl} {cs : List Sb} {R : Type} {out : R → SV rs × BV cs} {F : SV ps → BV bs → Option R}
    (hcall : ∀ (args : Array Value) (w : World), (callFunc f args).run P w = .ok (.enter f args) w) (hlen : cs.length = bs.length + 1)
    (h : ∀ (M : Nat → Nat → Prop) (w : World) (g : Gh) (vs : List Value) (x : SV ps) (y : BV bs) (z : R), G w → B0 ≤ w.heap.size → Frag B0 M w g ps bs x y vs → F x y = some z →
      Calls P f vs.toArray w fun e w' => ∃ vs' gx, e = .returned (rets vs') ∧ Ext w w' ∧ (∀ b, gx.blk = some b → w.heap.size ≤ b ∧ b < w'.heap.size ∧ (0 < gx.lo → ∀ es c, w'.heap[b]? ≠ some (.map es c))) ∧
        ∀ (M' : Nat → Nat → Prop) (g' : Gh), (∀ r y, g r = some y → g' r = some y) → g' bs.length = some gx → Step M w M' w' →
          All2 (RepD0 M' w' g') (lays id rs (out z).1) vs' ∧ ∀ r blk, blkAt id cs (out z).2 r = some blk → ∃ gy, g' r = some gy ∧ RepB M' w' g' gy blk) :
    Sound P G B0 f ⟨ps, bs, rs, cs, R, out, F⟩ := by
  refine ⟨hcall, fun M w g vs x y z hG hB hF hz => ?_⟩
  refine (h M w g vs x y z hG hB hF hz).mono fun e w' hp => ?_
  obtain ⟨vs', gx, he, hE, hnew, hrest⟩ := hp
  obtain ⟨g', hgd⟩ : ∃ g' : Gh, g' = g.set bs.length (some gx) := ⟨_, rfl⟩
  have hgn : g' bs.length = some gx := by rw [hgd, Gh.set_same]
  have hgo : ∀ r y, g r = some y → g' r = some y := fun r y hr => by
    have hd : r < bs.length := hF.dom r y hr
    rw [hgd, Gh.set_other _ _ (by omega)]; exact hr
  have hgc : ∀ r y, g' r = some y → (r = bs.length ∧ y = gx) ∨ g r = some y := fun r y hr => by
    by_cases e : r = bs.length
    · subst e
      rw [hgn] at hr
      exact .inl ⟨rfl, (Option.some.inj hr).symm⟩
    · rw [hgd, Gh.set_other _ _ e] at hr
      exact .inr hr
  have hlow : ∀ r y b, g r = some y → y.blk = some b → B0 ≤ b ∧ b < w.heap.size := fun r y b h1 h2 => hF.low r y b h1 h2
  have hstep : Step M w (Mafter M g g') w' := by
    have key : ∀ b o, b < w.heap.size → ¬ M b o → ¬ Mafter M g g' b o := fun b o hb hm hm' => by
      rcases hm' with ⟨h1, _⟩ | ⟨r, y, hr, hyb, hlo⟩
      · exact hm h1
      · rcases hgc r y hr with ⟨_, rfl⟩ | hr
        · have := (hnew b hyb).1; omega
        · exact hm ((hF.chg r y b o hr hyb).2 hlo)
    exact ⟨fun ad u hu hm => ⟨hE.cell hu, key _ _ (World.block_lt_of_cell? w _ hu) hm⟩, fun b es c hb hm => ⟨(hE.block b (lt_of_map hb)).trans hb, key _ _ (lt_of_map hb) hm⟩⟩
  obtain ⟨hA, hR⟩ := hrest _ g' hgo hgn hstep
  refine ⟨vs', g', he, ExtX.of_ext hE, hstep, ?_, fun r y hr _ => hgo r y hr, fun b hb => ?_⟩
  · exact {
      args := hA
      res := hR
      dom := fun r y hr => by
        show r < cs.length
        rcases hgc r y hr with ⟨rfl, _⟩ | hr
        · omega
        · have hd : r < bs.length := hF.dom r y hr
          omega
      inj := fun r r' y y' b hr hr' hb hb' => by
        rcases hgc r y hr with ⟨rfl, rfl⟩ | h1
        · rcases hgc r' y' hr' with ⟨rfl, _⟩ | h2
          · rfl
          · have := (hnew b hb).1; have := (hlow _ _ _ h2 hb').2; omega
        · rcases hgc r' y' hr' with ⟨rfl, rfl⟩ | h2
          · have := (hnew b hb').1; have := (hlow _ _ _ h1 hb).2; omega
          · exact hF.inj r r' y y' b h1 h2 hb hb'
      low := fun r y b hr hb => by
        rcases hgc r y hr with ⟨_, rfl⟩ | h1
        · exact ⟨Nat.le_trans hB (hnew b hb).1, (hnew b hb).2.1⟩
        · have := hlow _ _ _ h1 hb; exact ⟨this.1, Nat.lt_of_lt_of_le this.2 hE.size⟩
      chg := fun r y b o hr hb => by
        refine ⟨fun hm => ?_, fun hle => .inr ⟨r, y, hr, hb, hle⟩⟩
        rcases hm with ⟨h1, h2⟩ | ⟨r', y', hr', hb', hlo⟩
        · rcases hgc r y hr with ⟨_, rfl⟩ | h3
          · have := (hnew b hb).1; have := hF.mlt b o h1; omega
          · exact absurd ⟨r, y, h3, hb⟩ h2
        · rcases hgc r y hr with ⟨e1, rfl⟩ | h3
          · rcases hgc r' y' hr' with ⟨_, rfl⟩ | h4
            · exact hlo
            · have := (hnew b hb).1; have := (hlow _ _ _ h4 hb').2; omega
          · rcases hgc r' y' hr' with ⟨_, rfl⟩ | h4
            · have := (hnew b hb').1; have := (hlow _ _ _ h3 hb).2; omega
            · have := hF.inj r r' y y' b h3 h4 hb hb'
              subst this
              rw [h3] at h4
              cases h4
              exact hlo
      mlt := fun b o hm => by
        rcases hm with ⟨h1, _⟩ | ⟨r, y, hr, hb, _⟩
        · exact Nat.lt_of_lt_of_le (hF.mlt b o h1) hE.size
        · rcases hgc r y hr with ⟨_, rfl⟩ | h3
          · exact (hnew b hb).2.1
          · exact Nat.lt_of_lt_of_le (hlow _ _ _ h3 hb).2 hE.size
      row := fun r y b hr hb h0 => by
        rcases hgc r y hr with ⟨_, rfl⟩ | h3
        · exact (hnew b hb).2.2 h0
        · intro es c hc
          rw [hE.block b (hlow _ _ _ h3 hb).2] at hc
          exact hF.row r y b h3 hb h0 es c hc }
  · obtain ⟨r, y, hr, hb⟩ := hb
    rcases hgc r y hr with ⟨_, rfl⟩ | h3
    · exact .inr (hnew b hb).1
    · exact .inl ⟨r, y, h3, hb⟩
end Go.Proofs.YthlkidohpiebiaaDoor


/- slices.Delete of strings, out of the kit's contract: it turns a row of its caller's. -/
namespace Go.Proofs.YthlkidohpiebiaaDoor
set_option linter.unusedVariables false
set_option linter.unusedSimpArgs false
open Go Go.RowKit Go.Shelf
theorem str_els {M : Nat → Nat → Prop} {w : World} (xs : List Str) : Els M w .str xs (xs.map fun x => Value.string ⟨x.toArray⟩) := fun i h => by
  have e : ((xs.map fun x => Value.string ⟨x.toArray⟩).drop (i * Ty.sz .str)).take (Ty.sz .str) = [Value.string ⟨xs[i].toArray⟩] := by
    show ((xs.map fun x => Value.string ⟨x.toArray⟩).drop (i * 1)).take 1 = _
    rw [Nat.mul_one, List.drop_eq_getElem_cons (by simpa using h), List.getElem_map]; rfl
  rw [e]
  rfl
end Go.Proofs.YthlkidohpiebiaaDoor



/- A function that turns a row of its caller's where it lies, and gives nothing back: the caller's slice is the one it was. -/
namespace Go.Proofs.YthlkidohpiebiaaDoor
set_option linter.unusedVariables false
set_option linter.unusedSimpArgs false
open Go Go.RowKit Go.Shelf
end Go.Proofs.YthlkidohpiebiaaDoor


/- What the kit's worlds of a sort hold. -/
namespace Go.Proofs.YthlkidohpiebiaaDoor
set_option linter.unusedVariables false
set_option linter.unusedSimpArgs false
open Go Go.RowKit Go.Shelf
end Go.Proofs.YthlkidohpiebiaaDoor


/-
  DERIVED: THE SHELF's CONTRACTS AT THIS DUMP, IN PLAIN WORDS (tools/lay-plain.mjs out of 'TrydShelfS.lean', which tools/lay-shelf.mjs wrote): THE SAME DECLARATIONS UNDER THE SAME NAMES: 'import', 'namespace', 'open', 'def', 'theorem' AND NOTHING ELSE: no command of the shelf's: FOR A HAND-IN. Each laying: the table of numbers ('.._ren') and one theorem, a field a fact of the dump's own or the kernel's comparison; each contract: ONE APPLICATION.
-/
namespace Go.Proofs
open Go.Shelf
def Tryd.sortS_ren : Go.Shelf.Ren := ⟨fun | 6 => 102 | 8 => 109 | 9 => 125 | 19 => 137 | 20 => 138 | 21 => 155 | 22 => 156 | 23 => 157 | 24 => 158 | 25 => 159 | 26 => 160 | 27 => 161 | 28 => 162 | 29 => 163 | 36 => 176 | 31 => 167 | 32 => 168 | 37 => 177 | 38 => 178 | 39 => 179 | 41 => 184 | n => n, fun | 27 => 29 | 29 => 9 | 3 => 3 | 32 => 113 | 26 => 29 | 0 => 0 | 44 => 156 | 46 => 112 | 4 => 4 | 36 => 149 | 35 => 148 | 41 => 153 | 5 => 5 | 9 => 9 | 53 => 173 | 57 => 177 | 63 => 187 | 64 => 188 | n => n, fun | n => n⟩
theorem Tryd.sortS : Go.Proofs.SlLaysM.n6 Tryd.prog Tryd.sortS_ren := {
  mixed := by kernel_rfl
  f6 := ⟨Tryd.f102.name, by decide, Tryd.func102.trans (congrArg some (by kernel_rfl))⟩
  f8 := Tryd.func109.trans (congrArg some (by kernel_rfl))
  f9 := ⟨Tryd.f125.name, by decide, Tryd.func125.trans (congrArg some (by kernel_rfl))⟩
  f19 := Tryd.func137.trans (congrArg some (by kernel_rfl))
  f20 := Tryd.func138.trans (congrArg some (by kernel_rfl))
  f21 := ⟨Tryd.f155.name, by decide, Tryd.func155.trans (congrArg some (by kernel_rfl))⟩
  f22 := ⟨Tryd.f156.name, by decide, Tryd.func156.trans (congrArg some (by kernel_rfl))⟩
  f23 := ⟨Tryd.f157.name, by decide, Tryd.func157.trans (congrArg some (by kernel_rfl))⟩
  f24 := ⟨Tryd.f158.name, by decide, Tryd.func158.trans (congrArg some (by kernel_rfl))⟩
  f25 := ⟨Tryd.f159.name, by decide, Tryd.func159.trans (congrArg some (by kernel_rfl))⟩
  f26 := ⟨Tryd.f160.name, by decide, Tryd.func160.trans (congrArg some (by kernel_rfl))⟩
  f27 := ⟨Tryd.f161.name, by decide, Tryd.func161.trans (congrArg some (by kernel_rfl))⟩
  f28 := ⟨Tryd.f162.name, by decide, Tryd.func162.trans (congrArg some (by kernel_rfl))⟩
  f29 := ⟨Tryd.f163.name, by decide, Tryd.func163.trans (congrArg some (by kernel_rfl))⟩
  f31 := Tryd.func167.trans (congrArg some (by kernel_rfl))
  f32 := Tryd.func168.trans (congrArg some (by kernel_rfl))
  f36 := ⟨Tryd.f176.name, by decide, Tryd.func176.trans (congrArg some (by kernel_rfl))⟩
  f37 := ⟨Tryd.f177.name, by decide, Tryd.func177.trans (congrArg some (by kernel_rfl))⟩
  f38 := ⟨Tryd.f178.name, by decide, Tryd.func178.trans (congrArg some (by kernel_rfl))⟩
  f39 := ⟨Tryd.f179.name, by decide, Tryd.func179.trans (congrArg some (by kernel_rfl))⟩
  f41 := ⟨Tryd.f184.name, by decide, Tryd.func184.trans (congrArg some (by kernel_rfl))⟩
  t0 := Tryd.underlying0
  a0 := Tryd.isAgg0
  z0 := Tryd.sizeOf0
  v0 := Tryd.zeroValue0
  t3 := Tryd.underlying3
  a3 := Tryd.isAgg3
  z3 := Tryd.sizeOf3
  v3 := Tryd.zeroValue3
  t4 := Tryd.underlying4
  a4 := Tryd.isAgg4
  z4 := Tryd.sizeOf4
  v4 := Tryd.zeroValue4
  t5 := Tryd.underlying5
  a5 := Tryd.isAgg5
  z5 := Tryd.sizeOf5
  v5 := Tryd.zeroValue5
  t9 := Tryd.underlying9
  a9 := Tryd.isAgg9
  z9 := Tryd.sizeOf9
  v9 := Tryd.zeroValue9
  t26 := Tryd.underlying29
  a26 := Tryd.isAgg29
  z26 := Tryd.sizeOf29
  v26 := Tryd.zeroValue29
  t27 := Tryd.underlying29
  a27 := Tryd.isAgg29
  z27 := Tryd.sizeOf29
  v27 := Tryd.zeroValue29
  t29 := Tryd.underlying9
  a29 := Tryd.isAgg9
  z29 := Tryd.sizeOf9
  v29 := Tryd.zeroValue9
  t32 := Tryd.underlying113
  a32 := Tryd.isAgg113
  z32 := Tryd.sizeOf113
  v32 := Tryd.zeroValue113
  t35 := Tryd.underlying148
  a35 := Tryd.isAgg148
  z35 := Tryd.sizeOf148
  v35 := Tryd.zeroValue148
  t36 := Tryd.underlying149
  a36 := Tryd.isAgg149
  z36 := Tryd.sizeOf149
  v36 := Tryd.zeroValue149
  t41 := Tryd.underlying153
  a41 := Tryd.isAgg153
  z41 := Tryd.sizeOf153
  v41 := Tryd.zeroValue153
  t44 := Tryd.underlying156
  a44 := Tryd.isAgg156
  z44 := Tryd.sizeOf156
  v44 := Tryd.zeroValue156
  t46 := Tryd.underlying112
  a46 := Tryd.isAgg112
  z46 := Tryd.sizeOf112
  v46 := Tryd.zeroValue112
  t53 := Tryd.underlying173
  a53 := Tryd.isAgg173
  z53 := Tryd.sizeOf173
  v53 := Tryd.zeroValue173
  t57 := Tryd.underlying177
  a57 := Tryd.isAgg177
  z57 := Tryd.sizeOf177
  v57 := Tryd.zeroValue177
  t63 := Tryd.underlying187
  a63 := Tryd.isAgg187
  z63 := Tryd.sizeOf187
  v63 := Tryd.zeroValue187
  t64 := Tryd.underlying188
  a64 := Tryd.isAgg188
  z64 := Tryd.sizeOf188
  v64 := Tryd.zeroValue188 }
end Go.Proofs


/- slices.Sort of strings, out of the kit's contract: it turns a row of its caller's. -/
namespace Go.Proofs.YthlkidohpiebiaaDoor
set_option linter.unusedVariables false
set_option linter.unusedSimpArgs false
open Go Go.RowKit Go.Shelf
def leStr (x y : Str) : Bool := decide (x ≤ y)
end Go.Proofs.YthlkidohpiebiaaDoor



/-
  DERIVED: THE SHELF's CONTRACTS AT THIS DUMP, IN PLAIN WORDS (tools/lay-plain.mjs out of 'TrydShelfK.lean', which tools/lay-shelf.mjs wrote): THE SAME DECLARATIONS UNDER THE SAME NAMES: 'import', 'namespace', 'open', 'def', 'theorem' AND NOTHING ELSE: no command of the shelf's: FOR A HAND-IN. Each laying: the table of numbers ('.._ren') and one theorem, a field a fact of the dump's own or the kernel's comparison; each contract: ONE APPLICATION.
-/
namespace Go.Proofs
open Go.Shelf
def Tryd.keysK_ren : Go.Shelf.Ren := ⟨fun | 7 => 72 | 10 => 103 | n => n, fun | 23 => 82 | 26 => 9 | 3 => 4 | 28 => 90 | 0 => 0 | 27 => 89 | 33 => 58 | 4 => 4 | n => n, fun | n => n⟩
theorem Tryd.keysK : Go.Proofs.SlLaysZ.n7 Tryd.prog Tryd.keysK_ren := {
  mixed := by kernel_rfl
  f7 := ⟨Tryd.f72.name, by decide, Tryd.func72.trans (congrArg some (by kernel_rfl))⟩
  f10 := ⟨Tryd.f103.name, by decide, Tryd.func103.trans (congrArg some (by kernel_rfl))⟩
  t0 := Tryd.underlying0
  a0 := Tryd.isAgg0
  z0 := Tryd.sizeOf0
  v0 := Tryd.zeroValue0
  t4 := Tryd.underlying4
  a4 := Tryd.isAgg4
  z4 := Tryd.sizeOf4
  v4 := Tryd.zeroValue4
  t23 := Tryd.underlying82
  a23 := Tryd.isAgg82
  z23 := Tryd.sizeOf82
  v23 := Tryd.zeroValue82
  t26 := Tryd.underlying9
  a26 := Tryd.isAgg9
  z26 := Tryd.sizeOf9
  v26 := Tryd.zeroValue9
  t27 := Tryd.underlying89
  a27 := Tryd.isAgg89
  z27 := Tryd.sizeOf89
  v27 := Tryd.zeroValue89
  t28 := Tryd.underlying90
  a28 := Tryd.isAgg90
  z28 := Tryd.sizeOf90
  v28 := Tryd.zeroValue90
  t33 := Tryd.underlying58
  a33 := Tryd.isAgg58
  z33 := Tryd.sizeOf58
  v33 := Tryd.zeroValue58 }
def Tryd.sortedK_ren : Go.Shelf.Ren := ⟨fun | 6 => 71 | 8 => 101 | 9 => 102 | 11 => 124 | 13 => 109 | 12 => 125 | 23 => 137 | 24 => 138 | 14 => 155 | 15 => 156 | 16 => 157 | 17 => 158 | 18 => 159 | 19 => 160 | 20 => 161 | 21 => 162 | 22 => 163 | 25 => 176 | 26 => 167 | 27 => 168 | 28 => 177 | 29 => 178 | 30 => 179 | 31 => 184 | n => n, fun | 26 => 9 | 28 => 90 | 24 => 29 | 0 => 0 | 3 => 3 | 37 => 113 | 48 => 156 | 50 => 112 | 4 => 4 | 40 => 149 | 39 => 148 | 45 => 153 | 5 => 5 | 9 => 9 | 51 => 173 | 55 => 177 | 57 => 187 | 58 => 188 | 33 => 58 | n => n, fun | n => n⟩
theorem Tryd.sortedK : Go.Proofs.SlLaysZ.n6 Tryd.prog Tryd.sortedK_ren := {
  mixed := by kernel_rfl
  f6 := ⟨Tryd.f71.name, by decide, Tryd.func71.trans (congrArg some (by kernel_rfl))⟩
  f8 := ⟨Tryd.f101.name, by decide, Tryd.func101.trans (congrArg some (by kernel_rfl))⟩
  f11 := ⟨Tryd.f124.name, by decide, Tryd.func124.trans (congrArg some (by kernel_rfl))⟩
  t0 := Tryd.underlying0
  a0 := Tryd.isAgg0
  z0 := Tryd.sizeOf0
  v0 := Tryd.zeroValue0
  t24 := Tryd.underlying29
  a24 := Tryd.isAgg29
  z24 := Tryd.sizeOf29
  v24 := Tryd.zeroValue29
  t26 := Tryd.underlying9
  a26 := Tryd.isAgg9
  z26 := Tryd.sizeOf9
  v26 := Tryd.zeroValue9
  t28 := Tryd.underlying90
  a28 := Tryd.isAgg90
  z28 := Tryd.sizeOf90
  v28 := Tryd.zeroValue90
  i26 := by kernel_rfl }
end Go.Proofs


/- The keys of a map of the caller's, in order: maps.Keys and slices.Sorted, out of the kit's contracts. -/
namespace Go.Proofs.YthlkidohpiebiaaDoor
set_option linter.unusedVariables false
set_option linter.unusedSimpArgs false
open Go Go.RowKit Go.Shelf Go.Maps Go.Sort
def maps_Keys_bool (m : List (Str × Bool)) : Option (List (Str × Bool)) := some m
theorem maps_Keys_bool_sound : Sound Tryd.prog GW B0G 72 ⟨[.mref 0], [.map .bool], [.fnc 103 [1]], [.map .bool, .cells [.mref 0]], List (Str × Bool), fun z => (((), ()), (z, (((), ()), ()))), fun x y => maps_Keys_bool y.1⟩ := by
  refine Sound.ofMade Tryd.call72 rfl fun M w g vs x y z hG hB hF hz => ?_
  obtain ⟨m, _⟩ := y
  obtain rfl : m = z := Option.some.inj hz
  match vs, hF.args with
  | [v], ⟨h0, _⟩ =>
    obtain ⟨gx, b, hg0, hv, rfl⟩ := h0
    obtain ⟨gx', hg', hrep⟩ := hF.res 0 (.map .bool m) rfl
    refine ((callsIn_wide (n := 5)).1 (AnyZ.keys_in Tryd.keysK Fence.wide 5 trivial rfl (some b) w)).mono fun e w' hp => ?_
    obtain ⟨rfl, rfl⟩ := hp
    refine ⟨[.func (.func 103) #[] #[boxV w.heap.size]], ⟨some w.heap.size, 0, boxV w.heap.size⟩, rfl, (Ext.refl w).alloc _, fun b' hb => ?_, fun M' g' hgo hgn hst => ⟨⟨⟨_, rfl, ⟨⟨_, _, hgn, rfl, rfl⟩, trivial⟩⟩, trivial⟩, fun r blk hr => ?_⟩⟩
    · obtain rfl : w.heap.size = b' := Option.some.inj hb
      exact ⟨Nat.le_refl _, by simp, fun h => absurd h (Nat.lt_irrefl 0)⟩
    · match r, hr with
      | 0, hr =>
        obtain rfl : Blk.map .bool m = blk := Option.some.inj hr
        exact ⟨gx', hgo _ _ hg', (RepB.step hst (fun b' hb => by
          exact ((Ext.refl w).alloc _).block b' (hF.low _ _ _ hg' hb).2) hrep : RepB M' _ g gx' (.map .bool m))⟩
      | 1, hr =>
        obtain rfl : Blk.cells [.mref 0] = blk := Option.some.inj hr
        exact ⟨_, hgn, ⟨_, #[.map (some b)], _, rfl, heap_alloc_new _ _, ⟨⟨gx, b, hgo _ _ hg0, hv, rfl⟩, trivial⟩⟩⟩
      | 2, hr => cases hr
      | r + 3, hr => cases hr
/-- The datum of a map's keys: what it holds is not looked at. -/
def keyR (_ : Value) : Option (DataW Unit × List MemPlace) := some (.lit (.bool true), [])
theorem key_rd {P : Program} {k : TypeId} (hk : P.underlying k = some .string) {x : MapEntry} {s : Str} (hx : x.key = .string ⟨s.toArray⟩) (hl : s.length ≤ maxLen) : Go.WideElems.rd P k keyR x = some (.string s, .lit (.bool true)) := by
  unfold Go.WideElems.rd
  have : keyOf P k x.key = some (.string s) := by
    rw [hx]
    have : (⟨s.toArray⟩ : ByteArray).size ≤ maxLen := by show s.toArray.size ≤ _; simpa using hl
    simp [keyOf, hk, mapKey, this]
  rw [this]; rfl
theorem key_map {P : Program} {k : TypeId} (hk : P.underlying k = some .string) {e : Ty} {M : Nat → Nat → Prop} {w : World} : ∀ (m : List (List UInt8 × e.den)) (es : List MapEntry), All2 (fun x y => y.key = .string ⟨x.1.toArray⟩ ∧ RepV M w e x.2 y.val) m es → (∀ p ∈ m, p.1.length ≤ maxLen) →
    es.map (fun x => strOf (Go.WideElems.rg P k keyR x).1) = m.map (·.1)
  | [], [], _, _ => rfl
  | (s, x) :: m, y :: es, h, hl => by
    rw [List.map_cons, List.map_cons, key_map hk m es h.2 fun p hp => hl p (List.mem_cons_of_mem _ hp)]
    congr 1
    unfold Go.WideElems.rg
    rw [key_rd hk h.1.1 (hl _ List.mem_cons_self)]; rfl
  | [], _ :: _, h, _ => h.elim
  | _ :: _, [], h, _ => h.elim
def slices_Sorted_keys (m : List (Str × Bool)) : Option (List (Str × Bool) × List Str) := if m.length * 16 ≤ 140737488355328 ∧ ∀ p ∈ m, p.1.length ≤ maxLen then some (m, (m.map (·.1)).mergeSort leStr) else none
theorem sortsK (m : Nat) : AnyZ.SortsIn Tryd.prog Tryd.sortedK_ren Fence.wide m :=
  ⟨fun blk off cap ss W hH hblk hsz => callsIn_wide.2 (AnyM.slices_Sort_string Tryd.sortS blk off cap ss W hH hblk hsz),
   fun p cap W => callsIn_wide.2 (AnyM.slices_Sort_string_none Tryd.sortS p cap W)⟩
set_option maxHeartbeats 1000000 in
theorem slices_Sorted_keys_sound : Sound Tryd.prog GW B0G 71 ⟨[.fnc 103 [0]], [.cells [.mref 1], .map .bool], [.row 2], [.cells [.mref 1], .map .bool, .row 9 .str false], List (Str × Bool) × List Str, fun z => (((), ()), (((), ()), (z.1, (z.2, ())))), fun x y => slices_Sorted_keys y.2.1⟩ := by
  refine Sound.ofMade Tryd.call71 rfl fun M w g vs x y z hG hB hF hz => ?_
  obtain ⟨_, m, _⟩ := y
  change slices_Sorted_keys m = some z at hz
  unfold slices_Sorted_keys at hz
  split at hz
  case isFalse => cases hz
  rename_i hc
  obtain rfl := Option.some.inj hz
  match vs, hF.args with
  | [v], ⟨h0, _⟩ =>
    obtain ⟨cv, rfl, hcs⟩ := h0
    obtain ⟨g1, hg1, hr1⟩ := hF.res 0 (.cells [.mref 1]) rfl
    obtain ⟨g2, hg2, hr2⟩ := hF.res 1 (.map .bool m) rfl
    have hr1' := hr1
    have hr2' := hr2
    obtain ⟨bm, vs1, el, e1, hb1, ha1⟩ := hr1
    obtain ⟨b, es, c, e2, hb2, ha2, hst2⟩ := hr2
    have hcv : cv.toList = [boxV bm] := by
      match cv.toList, hcs with
      | [u], ⟨⟨gy, by_, hgy, hv, hu⟩, _⟩ =>
        have : g 0 = some gy := hgy
        rw [hg1] at this
        cases this
        rw [e1] at hv
        rw [hu, ← hv]
    have hcv2 : cv = #[boxV bm] := by rw [← Array.toArray_toList (xs := cv), hcv]
    subst hcv2
    have hvs1 : vs1 = #[.map (some b)] := by
      rw [← Array.toArray_toList (xs := vs1)]
      match vs1.toList, ha1 with
      | [u], ⟨⟨gy, by_, hgy, hv, hu⟩, _⟩ =>
        have : g 1 = some gy := hgy
        rw [hg2] at this
        cases this
        rw [e2] at hv
        rw [hu, ← hv]
    subst hvs1
    have hml : es.size = m.length := by rw [ha2.len, Array.length_toList]
    have hun : Tryd.prog.underlying 9 = some .string := Tryd.underlying9
    have hown : w.ownsMap Tryd.prog 9 keyR b m.length (.map ((es.toList.map (Go.WideElems.rg Tryd.prog 9 keyR)).foldr DataW.insert [])) := by
      refine ⟨es, c, hb2, ⟨?_, hst2, fun x hx => ?_⟩, by omega, rfl⟩
      · have := hc.1; unfold maxLen; omega
      · obtain ⟨i, hi⟩ := List.getElem?_of_mem hx
        obtain ⟨p, hp, hkey, _⟩ := ha2.get' hi
        exact ⟨_, key_rd hun hkey (hc.2 p (List.mem_of_getElem? hp))⟩
    have hsize : Maps.size (DataW.map (H := Unit) ((es.toList.map (Go.WideElems.rg Tryd.prog 9 keyR)).foldr DataW.insert [])) = m.length := by
      show (List.length _) = _
      rw [DataW.length_sorted, List.length_map, Array.length_toList, hml]
    have hperm : (strKeys (DataW.map (H := Unit) ((es.toList.map (Go.WideElems.rg Tryd.prog 9 keyR)).foldr DataW.insert []))).Perm (m.map (·.1)) := by
      rw [← key_map hun m es.toList ha2 hc.2]
      have e : ∀ l : List (Lit × DataW Unit), strKeys (DataW.map l) = l.map fun p => strOf p.1 := fun _ => rfl
      have h9 := (Go.WideShapes.sorted_perm (es.toList.map (Go.WideElems.rg Tryd.prog 9 keyR))).map (fun p : Lit × DataW Unit => strOf p.1)
      rw [List.map_map, Function.comp_def] at h9
      rw [e]
      generalize ((es.toList.map (Go.WideElems.rg Tryd.prog 9 keyR)).foldr DataW.insert []).map (fun p : Lit × DataW Unit => strOf p.1) = A at h9 ⊢
      generalize (Go.WideElems.rg Tryd.prog 9 keyR : MapEntry → Lit × DataW Unit) = f at h9 ⊢
      exact h9
    have hcell : w.cell? ⟨bm, 0, none⟩ = some (.map (some b)) := by
      unfold World.cell?
      rw [hb1]; rfl
    have hseq : SeqGives Fence.wide 2 Tryd.prog 103 #[boxV bm] encStr (fun ss => ss.Perm (strKeys _)) (Maps.size _) w :=
      AnyZ.keys_gives (ρ := Tryd.keysK_ren) { Tryd.keysK with } Fence.wide _ trivial rfl (by omega) bm b m.length _ w (lt_of_map hb1) hcell hown
    have hmax : Maps.size (DataW.map (H := Unit) ((es.toList.map (Go.WideElems.rg Tryd.prog 9 keyR)).foldr DataW.insert [])) ≤ maxLen := by rw [hsize]; have := hc.1; unfold maxLen; omega
    have hbytes : Maps.size (DataW.map (H := Unit) ((es.toList.map (Go.WideElems.rg Tryd.prog 9 keyR)).foldr DataW.insert [])) * 16 ≤ 140737488355328 := by rw [hsize]; exact hc.1
    refine ((callsIn_wide (n := 5)).1 (AnyZ.sorted_in Tryd.sortedK Fence.wide 5 trivial trivial trivial trivial rfl (by omega) (sortsK _) (enters_of Tryd.func102 (by kernel_rfl) rfl) 103 #[boxV bm] trivial (enters_of Tryd.func103 (by kernel_rfl) rfl) _ _ hmax hbytes w hseq)).mono fun e w' hp => ?_
    obtain ⟨v', ss, rfl, hS, hrow, hnil, hbel⟩ := hp
    have hsort : ss.mergeSort (fun x y => decide (x ≤ y)) = (m.map (·.1)).mergeSort leStr := mergeSort_of_perm (hS.trans hperm)
    have hslen : ss.length = ((m.map (·.1)).mergeSort leStr).length := by rw [List.length_mergeSort]; exact (hS.trans hperm).length_eq
    rw [hsort, hslen] at hrow
    have hE : Ext w w' := ⟨hbel.os, hbel.tape, hbel.output, hbel.size, fun k hk => hbel.block k hk⟩
    obtain ⟨A', c', hv', _⟩ := Row.of_own' hrow
    refine ⟨[v'], ⟨v'.ownBlock, ((m.map (·.1)).mergeSort leStr).length * 1, v'⟩, rfl, hE, fun b' hb => ?_, fun M' g' hgo hgn hst => ⟨⟨⟨_, A', _, c', hgn, rfl, hv'⟩, trivial⟩, fun r blk hr => ?_⟩⟩
    · rcases hrow.2 with ⟨e3, _⟩ | ⟨g3, cap, cur, e3, hb3, hg3, _⟩
      · rw [e3] at hb; cases hb
      · rw [e3] at hb
        simp only [Value.ownBlock, Option.some.injEq] at hb
        subst hb
        refine ⟨hb3, lt_of_map hg3, fun _ es' c'' h => ?_⟩
        rw [hg3] at h; cases h
    · match r, hr with
      | 0, hr =>
        obtain rfl : Blk.cells [.mref 1] = blk := Option.some.inj hr
        exact ⟨g1, hgo _ _ hg1, bm, #[.map (some b)], el, e1, (hE.block bm (lt_of_map hb1)).trans hb1, ⟨⟨g2, b, hgo _ _ hg2, by rw [e2], rfl⟩, trivial⟩⟩
      | 1, hr =>
        obtain rfl : Blk.map .bool m = blk := Option.some.inj hr
        exact ⟨g2, hgo _ _ hg2, (RepB.step hst (fun b' hb => hE.block b' (hF.low _ _ _ hg2 hb).2) hr2' : RepB M' _ g g2 (.map .bool m))⟩
      | 2, hr =>
        obtain rfl : Blk.row 9 .str false ((m.map (·.1)).mergeSort leStr) = blk := Option.some.inj hr
        exact ⟨_, hgn, by decide, _, ownsRow_base_a hrow (Nat.zero_le _), rfl, rfl, str_els _⟩
      | 3, hr => cases hr
      | r + 4, hr => cases hr
end Go.Proofs.YthlkidohpiebiaaDoor



/- What functions of the program compute, as plain functions (printed). -/
namespace Go.Proofs.YthlkidohpiebiaaDoor
open Go Go.RowKit
set_option maxRecDepth 100000
set_option linter.unusedVariables false
noncomputable section
def blob_byPath_L0T (_N : Nat) (x0 : List (Str × Bool × List UInt8)) (c8 : Int) (k0 : (List (Str × (Str × Bool × List UInt8))) → Option (List (Str × (Str × Bool × List UInt8)))) (self : Int → (List (Str × (Str × Bool × List UInt8))) → Option (List (Str × (Str × Bool × List UInt8)))) (s9 : Int) (m1006 : List (Str × (Str × Bool × List UInt8))) : Option (List (Str × (Str × Bool × List UInt8))) :=
  br (decide (s9 < c8))
    (bnd (geti x0 s9) fun t11 =>
    self (IntKind.i64.wrap (s9 + (1 : Int))) (mset m1006 t11.1 t11))
    (k0 m1006)
def blob_byPath_L0 (N : Nat) (x0 : List (Str × Bool × List UInt8)) (c8 : Int) (k0 : (List (Str × (Str × Bool × List UInt8))) → Option (List (Str × (Str × Bool × List UInt8)))) : Nat → Int → (List (Str × (Str × Bool × List UInt8))) → Option (List (Str × (Str × Bool × List UInt8)))
  | 0, _, _ => none
  | n + 1, s9, m1006 => blob_byPath_L0T N x0 c8 k0 (blob_byPath_L0 N x0 c8 k0 n) s9 m1006
def blob_byPath (N : Nat) (x0 : List (Str × Bool × List UInt8)) : Option (List (Str × (Str × Bool × List UInt8))) :=
  blob_byPath_L0 N x0 (x0.length : Int) (fun o0_m1006 =>
      some o0_m1006) N (0 : Int) ([] : List (Str × (Str × Bool × List UInt8)))
abbrev blob_byPath_sg (f : SV [.v (.sl (.pr .str (.pr .bool (.sl .u8))))] → BV [] → Option (List (Str × (Str × Bool × List UInt8)))) : AF := { ps := [.v (.sl (.pr .str (.pr .bool (.sl .u8))))], bs := [], rs := [.mref 0], cs := [.map (.pr .str (.pr .bool (.sl .u8)))], R := List (Str × (Str × Bool × List UInt8)), out := fun z => (((), ()), (z, ())), f := f }
abbrev blob_byPath_pk : SV [.mref 0] → BV [.map (.pr .str (.pr .bool (.sl .u8)))] → (List (Str × (Str × Bool × List UInt8))) := fun _ y => y.1
def blob_byPath_fn (_N : Nat) : FuncId → Option Tmp → Option AF := fun f _ =>
  match f with
    | _ => none
theorem blob_byPath_fn_ok (N : Nat) : ∀ f q F, blob_byPath_fn N f q = some F → Sound Tryd.prog GW B0G f F := by
  intro f q F h
  unfold blob_byPath_fn at h
  split at h
  · cases h
def blob_byPath_h : Nat → Hint := fun i =>
  match i with
  | 0 => ⟨[], [3, 7, 8, 9], [1006], [3], [1006], []⟩
  | _ => ⟨[], [], [], [], [], []⟩
abbrev blob_byPath_E (N : Nat) : Env := mkE blob_byPath_h (blob_byPath_fn N) (fun _ => false) (fun _ => false)
abbrev blob_byPath_L0_fs : List (Nat × Sl) := [(3, .mref 1006), (7, .v (.sl (.pr .str (.pr .bool (.sl .u8))))), (8, .v (.int .i64)), (9, .v (.int .i64))]
abbrev blob_byPath_L0_bs : List (Nat × Sb) := [(1006, .map (.pr .str (.pr .bool (.sl .u8))))]
def blob_byPath_L0_hd (x0 : List (Str × Bool × List UInt8)) (c8 : Int) (s9 : Int) (m1006 : List (Str × (Str × Bool × List UInt8))) : St := ⟨19, [(3, .mref 1006), (7, .v (.sl (.pr .str (.pr .bool (.sl .u8)))) x0), (8, .v (.int .i64) c8), (9, .v (.int .i64) s9)], [(1006, .map (.pr .str (.pr .bool (.sl .u8))) m1006)]⟩
def blob_byPath_L0_tl0 (_x0 : List (Str × Bool × List UInt8)) (_c8 : Int) (o0_m1006 : List (Str × (Str × Bool × List UInt8))) : St := ⟨19, [(3, .mref 1006)], [(1006, .map (.pr .str (.pr .bool (.sl .u8))) o0_m1006)]⟩
def blob_byPath_L0_G (N : Nat) (x0 : List (Str × Bool × List UInt8)) (c8 : Int) (s9 : Int) (m1006 : List (Str × (Str × Bool × List UInt8))) (k : Ex → St → Option (List (Str × (Str × Bool × List UInt8)))) : Option (List (Str × (Str × Bool × List UInt8))) :=
  blob_byPath_L0 N x0 c8 (fun o0_m1006 => k (.exit 0) (blob_byPath_L0_tl0 x0 c8 o0_m1006)) N s9 m1006
abbrev blob_byPath_L0_F (N : Nat) : FV blob_byPath_L0_fs → HV blob_byPath_L0_bs → (Ex → St → Option (List (Str × (Str × Bool × List UInt8)))) → Option (List (Str × (Str × Bool × List UInt8))) := fun x y k => blob_byPath_L0_G N x.2.1 x.2.2.1 x.2.2.2.1 y.1 k
noncomputable def blob_byPath_LP (N : Nat) : Nat → Code → St → (Ex → St → Option (List (Str × (Str × Bool × List UInt8)))) → Option (List (Str × (Str × Bool × List UInt8))) := fun i c =>
  match i with
  | 0 => (LPc 19 blob_byPath_L0_fs blob_byPath_L0_bs (blob_byPath_L0_F N) (fun st k => iter (blob_byPath_h 0) (exec (blob_byPath_E N) N c 0) N st k))
  | i => fun st k => iter (blob_byPath_h i) (exec (blob_byPath_E N) N c i) N st k
theorem blob_byPath_L0_step (N : Nat) (x0 : List (Str × Bool × List UInt8)) (c8 : Int) (KX : Nat → St → Option (List (Str × (Str × Bool × List UInt8)))) (I : St → Option (List (Str × (Str × Bool × List UInt8)))) (s9 : Int) (m1006 : List (Str × (Str × Bool × List UInt8))) :
    execL (blob_byPath_LP N) (blob_byPath_E N) (cAt (bodyOf Tryd.f52) [true, true, false, true, false, false]) 0 (blob_byPath_L0_hd x0 c8 s9 m1006) (roundK (blob_byPath_h 0) I KX (resD (blob_byPath_E N) Tryd.f52 (blob_byPath_sg fun x _ => blob_byPath N x.1) blob_byPath_pk)) = blob_byPath_L0T N x0 c8 (fun o0_m1006 => KX 0 (blob_byPath_L0_tl0 x0 c8 o0_m1006)) (fun s9 m1006 => I (blob_byPath_L0_hd x0 c8 s9 m1006)) s9 m1006 := by kernel_rfl
theorem blob_byPath_L0_ok (N : Nat) : ∀ x y k, (∀ st, k .ret st = (resD (blob_byPath_E N) Tryd.f52 (blob_byPath_sg fun x _ => blob_byPath N x.1) blob_byPath_pk) st) → iter (blob_byPath_h 0) (exec (blob_byPath_E N) N (cAt (bodyOf Tryd.f52) [true, true, false, true, false, false]) 0) N ⟨19, unF blob_byPath_L0_fs x, unH blob_byPath_L0_bs y⟩ k = blob_byPath_L0_F N x y k := fun x y k hk =>
  iter_link (S := (Int) × (List (Str × (Str × Bool × List UInt8))) × Unit) (blob_byPath_h 0) _ (execL (blob_byPath_LP N) (blob_byPath_E N) (cAt (bodyOf Tryd.f52) [true, true, false, true, false, false]) 0) (resD (blob_byPath_E N) Tryd.f52 (blob_byPath_sg fun x _ => blob_byPath N x.1) blob_byPath_pk) (fun st k hk => execL_eq _ _ N _ (cAt (bodyOf Tryd.f52) [true, true, false, true, false, false]) 0 (show LoopsOk (blob_byPath_LP N) (blob_byPath_E N) N (resD (blob_byPath_E N) Tryd.f52 (blob_byPath_sg fun x _ => blob_byPath N x.1) blob_byPath_pk) [] from trivial) st k hk) (fun s => blob_byPath_L0_hd x.2.1 x.2.2.1 s.1 s.2.1) k hk
    (fun self s => blob_byPath_L0T N x.2.1 x.2.2.1 (fun o0_m1006 => k (.exit 0) (blob_byPath_L0_tl0 x.2.1 x.2.2.1 o0_m1006)) (fun s9 m1006 => self (s9, m1006, ())) s.1 s.2.1) (fun n s => blob_byPath_L0 N x.2.1 x.2.2.1 (fun o0_m1006 => k (.exit 0) (blob_byPath_L0_tl0 x.2.1 x.2.2.1 o0_m1006)) n s.1 s.2.1) (fun _ => rfl) (fun _ _ => rfl)
    (fun I s => blob_byPath_L0_step N x.2.1 x.2.2.1 (fun j => k (.exit j)) I s.1 s.2.1) N (x.2.2.2.1, y.1, ())
theorem blob_byPath_lp0 (N : Nat) : ∀ st k, (∀ st, k .ret st = (resD (blob_byPath_E N) Tryd.f52 (blob_byPath_sg fun x _ => blob_byPath N x.1) blob_byPath_pk) st) → blob_byPath_LP N 0 (cAt (bodyOf Tryd.f52) [true, true, false, true, false, false]) st k = iter (Env.hint (blob_byPath_E N) 0) (exec (blob_byPath_E N) N (cAt (bodyOf Tryd.f52) [true, true, false, true, false, false]) 0) N st k := fun st k hk => LPc_eq 19 blob_byPath_L0_fs blob_byPath_L0_bs _ _ (resD (blob_byPath_E N) Tryd.f52 (blob_byPath_sg fun x _ => blob_byPath N x.1) blob_byPath_pk) (blob_byPath_L0_ok N) _ st k hk (rfl)
theorem blob_byPath_core (N : Nat) (x : SV [.v (.sl (.pr .str (.pr .bool (.sl .u8))))]) (y : BV []) : runL (blob_byPath_E N) Tryd.f52 (blob_byPath_sg fun x _ => blob_byPath N x.1) blob_byPath_pk (blob_byPath_LP N) x y = blob_byPath N x.1 := by kernel_rfl
theorem blob_byPath_sound (N : Nat) : Sound Tryd.prog GW B0G 52 (blob_byPath_sg fun x _ => blob_byPath N x.1) :=
  runD_sound (mkE_ok blob_byPath_h (blob_byPath_fn N) _ _ (blob_byPath_fn_ok N)) Tryd.func52 rfl Tryd.call52 (blob_byPath_sg fun x _ => blob_byPath N x.1) blob_byPath_pk (fun _ _ => rfl) N (fun x y _ h => ((runL_eq (blob_byPath_E N) N Tryd.f52 (blob_byPath_sg fun x _ => blob_byPath N x.1) blob_byPath_pk (blob_byPath_LP N) (show LoopsOk (blob_byPath_LP N) (blob_byPath_E N) N (resD (blob_byPath_E N) Tryd.f52 (blob_byPath_sg fun x _ => blob_byPath N x.1) blob_byPath_pk) [(0, (cAt (bodyOf Tryd.f52) [true, true, false, true, false, false]))] from ⟨blob_byPath_lp0 N, trivial⟩) x y).trans (blob_byPath_core N x y)).trans h)
def blob_paths_L1T (_N : Nat) (t13 : List (Str × Bool × List UInt8)) (c16 : Int) (k2 : (List (Str × Bool)) → Option (List Str)) (self : Int → (List (Str × Bool)) → Option (List Str)) (s17 : Int) (m1008_1 : List (Str × Bool)) : Option (List Str) :=
  br (decide (s17 < c16))
    (bnd (geti t13 s17) fun t19 =>
    self (IntKind.i64.wrap (s17 + (1 : Int))) (mset m1008_1 t19.1 true))
    (k2 m1008_1)
def blob_paths_L1 (N : Nat) (t13 : List (Str × Bool × List UInt8)) (c16 : Int) (k2 : (List (Str × Bool)) → Option (List Str)) : Nat → Int → (List (Str × Bool)) → Option (List Str)
  | 0, _, _ => none
  | n + 1, s17, m1008_1 => blob_paths_L1T N t13 c16 k2 (blob_paths_L1 N t13 c16 k2 n) s17 m1008_1
def blob_paths_L0T (N : Nat) (x0 : List (List (Str × Bool × List UInt8))) (c10 : Int) (k0 : (List (Str × Bool)) → Option (List Str)) (self : Int → (List (Str × Bool)) → Option (List Str)) (s11 : Int) (m1008 : List (Str × Bool)) : Option (List Str) :=
  br (decide (s11 < c10))
    (bnd (geti x0 s11) fun t13 =>
    blob_paths_L1 N t13 (t13.length : Int) (fun o1_m1008 =>
        self (IntKind.i64.wrap (s11 + (1 : Int))) o1_m1008) N (0 : Int) m1008)
    (k0 m1008)
def blob_paths_L0 (N : Nat) (x0 : List (List (Str × Bool × List UInt8))) (c10 : Int) (k0 : (List (Str × Bool)) → Option (List Str)) : Nat → Int → (List (Str × Bool)) → Option (List Str)
  | 0, _, _ => none
  | n + 1, s11, m1008 => blob_paths_L0T N x0 c10 k0 (blob_paths_L0 N x0 c10 k0 n) s11 m1008
def blob_paths (N : Nat) (x0 : List (List (Str × Bool × List UInt8))) : Option (List Str) :=
  blob_paths_L0 N x0 (x0.length : Int) (fun o0_m1008 =>
      bnd (maps_Keys_bool o0_m1008) fun t27 =>
      bnd (slices_Sorted_keys t27) fun t28 =>
      some t28.2) N (0 : Int) ([] : List (Str × Bool))
abbrev blob_paths_sg (f : SV [.v (.sl (.sl (.pr .str (.pr .bool (.sl .u8)))))] → BV [] → Option (List Str)) : AF := { ps := [.v (.sl (.sl (.pr .str (.pr .bool (.sl .u8)))))], bs := [], rs := [.row 0], cs := [.row 9 .str false], R := List Str, out := fun z => (((), ()), (z, ())), f := f }
abbrev blob_paths_pk : SV [.row 0] → BV [.row 9 .str false] → (List Str) := fun _ y => y.1
def blob_paths_fn (_N : Nat) : FuncId → Option Tmp → Option AF := fun f _ =>
  match f with
    | 71 => some (slices_Sorted_keys_sg fun _ y => slices_Sorted_keys y.2.1)
    | 72 => some (maps_Keys_bool_sg fun _ y => maps_Keys_bool y.1)
    | _ => none
theorem blob_paths_fn_ok (N : Nat) : ∀ f q F, blob_paths_fn N f q = some F → Sound Tryd.prog GW B0G f F := by
  intro f q F h
  unfold blob_paths_fn at h
  split at h
  · cases h; exact slices_Sorted_keys_sound
  · cases h; exact maps_Keys_bool_sound
  · cases h
def blob_paths_h : Nat → Hint := fun i =>
  match i with
  | 0 => ⟨[], [3, 9, 10, 11], [1008], [3], [1008], []⟩
  | 2 => ⟨[], [3, 9, 10, 11, 15, 16, 17], [1008], [3, 9, 10, 11], [1008], []⟩
  | _ => ⟨[], [], [], [], [], []⟩
abbrev blob_paths_E (N : Nat) : Env := mkE blob_paths_h (blob_paths_fn N) (fun _ => false) (fun _ => false)
abbrev blob_paths_L1_fs : List (Nat × Sl) := [(3, .mref 1008), (9, .v (.sl (.sl (.pr .str (.pr .bool (.sl .u8)))))), (10, .v (.int .i64)), (11, .v (.int .i64)), (15, .v (.sl (.pr .str (.pr .bool (.sl .u8))))), (16, .v (.int .i64)), (17, .v (.int .i64))]
abbrev blob_paths_L1_bs : List (Nat × Sb) := [(1008, .map .bool)]
def blob_paths_L1_hd (x0 : List (List (Str × Bool × List UInt8))) (c10 : Int) (s11 : Int) (t13 : List (Str × Bool × List UInt8)) (c16 : Int) (s17 : Int) (m1008_1 : List (Str × Bool)) : St := ⟨29, [(3, .mref 1008), (9, .v (.sl (.sl (.pr .str (.pr .bool (.sl .u8))))) x0), (10, .v (.int .i64) c10), (11, .v (.int .i64) s11), (15, .v (.sl (.pr .str (.pr .bool (.sl .u8)))) t13), (16, .v (.int .i64) c16), (17, .v (.int .i64) s17)], [(1008, .map .bool m1008_1)]⟩
def blob_paths_L1_tl2 (x0 : List (List (Str × Bool × List UInt8))) (c10 : Int) (s11 : Int) (_t13 : List (Str × Bool × List UInt8)) (_c16 : Int) (o1_m1008 : List (Str × Bool)) : St := ⟨29, [(3, .mref 1008), (9, .v (.sl (.sl (.pr .str (.pr .bool (.sl .u8))))) x0), (10, .v (.int .i64) c10), (11, .v (.int .i64) s11)], [(1008, .map .bool o1_m1008)]⟩
def blob_paths_L1_G (N : Nat) (x0 : List (List (Str × Bool × List UInt8))) (c10 : Int) (s11 : Int) (t13 : List (Str × Bool × List UInt8)) (c16 : Int) (s17 : Int) (m1008_1 : List (Str × Bool)) (k : Ex → St → Option (List Str)) : Option (List Str) :=
  blob_paths_L1 N t13 c16 (fun o1_m1008 => k (.exit 2) (blob_paths_L1_tl2 x0 c10 s11 t13 c16 o1_m1008)) N s17 m1008_1
abbrev blob_paths_L1_F (N : Nat) : FV blob_paths_L1_fs → HV blob_paths_L1_bs → (Ex → St → Option (List Str)) → Option (List Str) := fun x y k => blob_paths_L1_G N x.2.1 x.2.2.1 x.2.2.2.1 x.2.2.2.2.1 x.2.2.2.2.2.1 x.2.2.2.2.2.2.1 y.1 k
abbrev blob_paths_L0_fs : List (Nat × Sl) := [(3, .mref 1008), (9, .v (.sl (.sl (.pr .str (.pr .bool (.sl .u8)))))), (10, .v (.int .i64)), (11, .v (.int .i64))]
abbrev blob_paths_L0_bs : List (Nat × Sb) := [(1008, .map .bool)]
def blob_paths_L0_hd (x0 : List (List (Str × Bool × List UInt8))) (c10 : Int) (s11 : Int) (m1008 : List (Str × Bool)) : St := ⟨29, [(3, .mref 1008), (9, .v (.sl (.sl (.pr .str (.pr .bool (.sl .u8))))) x0), (10, .v (.int .i64) c10), (11, .v (.int .i64) s11)], [(1008, .map .bool m1008)]⟩
def blob_paths_L0_tl0 (_x0 : List (List (Str × Bool × List UInt8))) (_c10 : Int) (o0_m1008 : List (Str × Bool)) : St := ⟨29, [(3, .mref 1008)], [(1008, .map .bool o0_m1008)]⟩
def blob_paths_L0_G (N : Nat) (x0 : List (List (Str × Bool × List UInt8))) (c10 : Int) (s11 : Int) (m1008 : List (Str × Bool)) (k : Ex → St → Option (List Str)) : Option (List Str) :=
  blob_paths_L0 N x0 c10 (fun o0_m1008 => k (.exit 0) (blob_paths_L0_tl0 x0 c10 o0_m1008)) N s11 m1008
abbrev blob_paths_L0_F (N : Nat) : FV blob_paths_L0_fs → HV blob_paths_L0_bs → (Ex → St → Option (List Str)) → Option (List Str) := fun x y k => blob_paths_L0_G N x.2.1 x.2.2.1 x.2.2.2.1 y.1 k
noncomputable def blob_paths_LP (N : Nat) : Nat → Code → St → (Ex → St → Option (List Str)) → Option (List Str) := fun i c =>
  match i with
  | 0 => (LPc 29 blob_paths_L0_fs blob_paths_L0_bs (blob_paths_L0_F N) (fun st k => iter (blob_paths_h 0) (exec (blob_paths_E N) N c 0) N st k))
  | 2 => (LPc 29 blob_paths_L1_fs blob_paths_L1_bs (blob_paths_L1_F N) (fun st k => iter (blob_paths_h 2) (exec (blob_paths_E N) N c 2) N st k))
  | i => fun st k => iter (blob_paths_h i) (exec (blob_paths_E N) N c i) N st k
theorem blob_paths_L1_step (N : Nat) (x0 : List (List (Str × Bool × List UInt8))) (c10 : Int) (s11 : Int) (t13 : List (Str × Bool × List UInt8)) (c16 : Int) (KX : Nat → St → Option (List Str)) (I : St → Option (List Str)) (s17 : Int) (m1008_1 : List (Str × Bool)) :
    execL (blob_paths_LP N) (blob_paths_E N) (cAt (bodyOf Tryd.f53) [true, true, false, true, false, false, true, true, false, false, true, true, false, false]) 2 (blob_paths_L1_hd x0 c10 s11 t13 c16 s17 m1008_1) (roundK (blob_paths_h 2) I KX (resD (blob_paths_E N) Tryd.f53 (blob_paths_sg fun x _ => blob_paths N x.1) blob_paths_pk)) = blob_paths_L1T N t13 c16 (fun o1_m1008 => KX 2 (blob_paths_L1_tl2 x0 c10 s11 t13 c16 o1_m1008)) (fun s17 m1008_1 => I (blob_paths_L1_hd x0 c10 s11 t13 c16 s17 m1008_1)) s17 m1008_1 := by kernel_rfl
theorem blob_paths_L1_ok (N : Nat) : ∀ x y k, (∀ st, k .ret st = (resD (blob_paths_E N) Tryd.f53 (blob_paths_sg fun x _ => blob_paths N x.1) blob_paths_pk) st) → iter (blob_paths_h 2) (exec (blob_paths_E N) N (cAt (bodyOf Tryd.f53) [true, true, false, true, false, false, true, true, false, false, true, true, false, false]) 2) N ⟨29, unF blob_paths_L1_fs x, unH blob_paths_L1_bs y⟩ k = blob_paths_L1_F N x y k := fun x y k hk =>
  iter_link (S := (Int) × (List (Str × Bool)) × Unit) (blob_paths_h 2) _ (execL (blob_paths_LP N) (blob_paths_E N) (cAt (bodyOf Tryd.f53) [true, true, false, true, false, false, true, true, false, false, true, true, false, false]) 2) (resD (blob_paths_E N) Tryd.f53 (blob_paths_sg fun x _ => blob_paths N x.1) blob_paths_pk) (fun st k hk => execL_eq _ _ N _ (cAt (bodyOf Tryd.f53) [true, true, false, true, false, false, true, true, false, false, true, true, false, false]) 2 (show LoopsOk (blob_paths_LP N) (blob_paths_E N) N (resD (blob_paths_E N) Tryd.f53 (blob_paths_sg fun x _ => blob_paths N x.1) blob_paths_pk) [] from trivial) st k hk) (fun s => blob_paths_L1_hd x.2.1 x.2.2.1 x.2.2.2.1 x.2.2.2.2.1 x.2.2.2.2.2.1 s.1 s.2.1) k hk
    (fun self s => blob_paths_L1T N x.2.2.2.2.1 x.2.2.2.2.2.1 (fun o1_m1008 => k (.exit 2) (blob_paths_L1_tl2 x.2.1 x.2.2.1 x.2.2.2.1 x.2.2.2.2.1 x.2.2.2.2.2.1 o1_m1008)) (fun s17 m1008_1 => self (s17, m1008_1, ())) s.1 s.2.1) (fun n s => blob_paths_L1 N x.2.2.2.2.1 x.2.2.2.2.2.1 (fun o1_m1008 => k (.exit 2) (blob_paths_L1_tl2 x.2.1 x.2.2.1 x.2.2.2.1 x.2.2.2.2.1 x.2.2.2.2.2.1 o1_m1008)) n s.1 s.2.1) (fun _ => rfl) (fun _ _ => rfl)
    (fun I s => blob_paths_L1_step N x.2.1 x.2.2.1 x.2.2.2.1 x.2.2.2.2.1 x.2.2.2.2.2.1 (fun j => k (.exit j)) I s.1 s.2.1) N (x.2.2.2.2.2.2.1, y.1, ())
theorem blob_paths_lp2 (N : Nat) : ∀ st k, (∀ st, k .ret st = (resD (blob_paths_E N) Tryd.f53 (blob_paths_sg fun x _ => blob_paths N x.1) blob_paths_pk) st) → blob_paths_LP N 2 (cAt (bodyOf Tryd.f53) [true, true, false, true, false, false, true, true, false, false, true, true, false, false]) st k = iter (Env.hint (blob_paths_E N) 2) (exec (blob_paths_E N) N (cAt (bodyOf Tryd.f53) [true, true, false, true, false, false, true, true, false, false, true, true, false, false]) 2) N st k := fun st k hk => LPc_eq 29 blob_paths_L1_fs blob_paths_L1_bs _ _ (resD (blob_paths_E N) Tryd.f53 (blob_paths_sg fun x _ => blob_paths N x.1) blob_paths_pk) (blob_paths_L1_ok N) _ st k hk (rfl)
theorem blob_paths_L0_step (N : Nat) (x0 : List (List (Str × Bool × List UInt8))) (c10 : Int) (KX : Nat → St → Option (List Str)) (I : St → Option (List Str)) (s11 : Int) (m1008 : List (Str × Bool)) :
    execL (blob_paths_LP N) (blob_paths_E N) (cAt (bodyOf Tryd.f53) [true, true, false, true, false, false]) 0 (blob_paths_L0_hd x0 c10 s11 m1008) (roundK (blob_paths_h 0) I KX (resD (blob_paths_E N) Tryd.f53 (blob_paths_sg fun x _ => blob_paths N x.1) blob_paths_pk)) = blob_paths_L0T N x0 c10 (fun o0_m1008 => KX 0 (blob_paths_L0_tl0 x0 c10 o0_m1008)) (fun s11 m1008 => I (blob_paths_L0_hd x0 c10 s11 m1008)) s11 m1008 := by kernel_rfl
theorem blob_paths_L0_ok (N : Nat) : ∀ x y k, (∀ st, k .ret st = (resD (blob_paths_E N) Tryd.f53 (blob_paths_sg fun x _ => blob_paths N x.1) blob_paths_pk) st) → iter (blob_paths_h 0) (exec (blob_paths_E N) N (cAt (bodyOf Tryd.f53) [true, true, false, true, false, false]) 0) N ⟨29, unF blob_paths_L0_fs x, unH blob_paths_L0_bs y⟩ k = blob_paths_L0_F N x y k := fun x y k hk =>
  iter_link (S := (Int) × (List (Str × Bool)) × Unit) (blob_paths_h 0) _ (execL (blob_paths_LP N) (blob_paths_E N) (cAt (bodyOf Tryd.f53) [true, true, false, true, false, false]) 0) (resD (blob_paths_E N) Tryd.f53 (blob_paths_sg fun x _ => blob_paths N x.1) blob_paths_pk) (fun st k hk => execL_eq _ _ N _ (cAt (bodyOf Tryd.f53) [true, true, false, true, false, false]) 0 (show LoopsOk (blob_paths_LP N) (blob_paths_E N) N (resD (blob_paths_E N) Tryd.f53 (blob_paths_sg fun x _ => blob_paths N x.1) blob_paths_pk) [(2, (cAt (bodyOf Tryd.f53) [true, true, false, true, false, false, true, true, false, false, true, true, false, false]))] from ⟨blob_paths_lp2 N, trivial⟩) st k hk) (fun s => blob_paths_L0_hd x.2.1 x.2.2.1 s.1 s.2.1) k hk
    (fun self s => blob_paths_L0T N x.2.1 x.2.2.1 (fun o0_m1008 => k (.exit 0) (blob_paths_L0_tl0 x.2.1 x.2.2.1 o0_m1008)) (fun s11 m1008 => self (s11, m1008, ())) s.1 s.2.1) (fun n s => blob_paths_L0 N x.2.1 x.2.2.1 (fun o0_m1008 => k (.exit 0) (blob_paths_L0_tl0 x.2.1 x.2.2.1 o0_m1008)) n s.1 s.2.1) (fun _ => rfl) (fun _ _ => rfl)
    (fun I s => blob_paths_L0_step N x.2.1 x.2.2.1 (fun j => k (.exit j)) I s.1 s.2.1) N (x.2.2.2.1, y.1, ())
theorem blob_paths_lp0 (N : Nat) : ∀ st k, (∀ st, k .ret st = (resD (blob_paths_E N) Tryd.f53 (blob_paths_sg fun x _ => blob_paths N x.1) blob_paths_pk) st) → blob_paths_LP N 0 (cAt (bodyOf Tryd.f53) [true, true, false, true, false, false]) st k = iter (Env.hint (blob_paths_E N) 0) (exec (blob_paths_E N) N (cAt (bodyOf Tryd.f53) [true, true, false, true, false, false]) 0) N st k := fun st k hk => LPc_eq 29 blob_paths_L0_fs blob_paths_L0_bs _ _ (resD (blob_paths_E N) Tryd.f53 (blob_paths_sg fun x _ => blob_paths N x.1) blob_paths_pk) (blob_paths_L0_ok N) _ st k hk (rfl)
theorem blob_paths_core (N : Nat) (x : SV [.v (.sl (.sl (.pr .str (.pr .bool (.sl .u8)))))]) (y : BV []) : runL (blob_paths_E N) Tryd.f53 (blob_paths_sg fun x _ => blob_paths N x.1) blob_paths_pk (blob_paths_LP N) x y = blob_paths N x.1 := by kernel_rfl
theorem blob_paths_sound (N : Nat) : Sound Tryd.prog GW B0G 53 (blob_paths_sg fun x _ => blob_paths N x.1) :=
  runD_sound (mkE_ok blob_paths_h (blob_paths_fn N) _ _ (blob_paths_fn_ok N)) Tryd.func53 rfl Tryd.call53 (blob_paths_sg fun x _ => blob_paths N x.1) blob_paths_pk (fun _ _ => rfl) N (fun x y _ h => ((runL_eq (blob_paths_E N) N Tryd.f53 (blob_paths_sg fun x _ => blob_paths N x.1) blob_paths_pk (blob_paths_LP N) (show LoopsOk (blob_paths_LP N) (blob_paths_E N) N (resD (blob_paths_E N) Tryd.f53 (blob_paths_sg fun x _ => blob_paths N x.1) blob_paths_pk) [(0, (cAt (bodyOf Tryd.f53) [true, true, false, true, false, false])), (2, (cAt (bodyOf Tryd.f53) [true, true, false, true, false, false, true, true, false, false, true, true, false, false]))] from ⟨blob_paths_lp0 N, blob_paths_lp2 N, trivial⟩) x y).trans (blob_paths_core N x y)).trans h)
end
end Go.Proofs.YthlkidohpiebiaaDoor


/- What functions of the program compute, as plain functions (printed). -/
namespace Go.Proofs.YthlkidohpiebiaaDoor
open Go Go.RowKit
set_option maxRecDepth 100000
set_option linter.unusedVariables false
noncomputable section
def blob_Changes_L0T (_N : Nat) (c36 : Int) (t29 : List (Str × (Str × Bool × List UInt8))) (t31 : List (Str × (Str × Bool × List UInt8))) (t35 : List Str) (k0 : (List (Str × Int)) → Option (Int × List (Str × Int))) (self : Int → (List (Str × Int)) → Option (Int × List (Str × Int))) (s37 : Int) (w1010 : List (Str × Int)) : Option (Int × List (Str × Int)) :=
  br (decide (s37 < c36))
    (bnd (geti t35 s37) fun t39 =>
    br (!((mget t29 t39).isSome))
      (br (decide ((w1010.length + [(t39, (1 : Int))].length) * (24 * Ty.sz (.pr .str (.int .i64))) ≤ 140737488355328))
        (self (IntKind.i64.wrap (s37 + (1 : Int))) (w1010 ++ [(t39, (1 : Int))]))
        none)
      (br (!((mget t31 t39).isSome))
        (br (decide ((w1010.length + [(t39, (2 : Int))].length) * (24 * Ty.sz (.pr .str (.int .i64))) ≤ 140737488355328))
          (self (IntKind.i64.wrap (s37 + (1 : Int))) (w1010 ++ [(t39, (2 : Int))]))
          none)
        (br (!(((((mget t29 t39).getD (zero (.pr .str (.pr .bool (.sl .u8))))).2).2) == ((((mget t31 t39).getD (zero (.pr .str (.pr .bool (.sl .u8))))).2).2)))
          (br (decide ((w1010.length + [(t39, (3 : Int))].length) * (24 * Ty.sz (.pr .str (.int .i64))) ≤ 140737488355328))
            (self (IntKind.i64.wrap (s37 + (1 : Int))) (w1010 ++ [(t39, (3 : Int))]))
            none)
          (br (((((mget t29 t39).getD (zero (.pr .str (.pr .bool (.sl .u8))))).2).1) != ((((mget t31 t39).getD (zero (.pr .str (.pr .bool (.sl .u8))))).2).1))
            (br (decide ((w1010.length + [(t39, (4 : Int))].length) * (24 * Ty.sz (.pr .str (.int .i64))) ≤ 140737488355328))
              (self (IntKind.i64.wrap (s37 + (1 : Int))) (w1010 ++ [(t39, (4 : Int))]))
              none)
            (self (IntKind.i64.wrap (s37 + (1 : Int))) w1010)))))
    (k0 w1010)
def blob_Changes_L0 (N : Nat) (c36 : Int) (t29 : List (Str × (Str × Bool × List UInt8))) (t31 : List (Str × (Str × Bool × List UInt8))) (t35 : List Str) (k0 : (List (Str × Int)) → Option (Int × List (Str × Int))) : Nat → Int → (List (Str × Int)) → Option (Int × List (Str × Int))
  | 0, _, _ => none
  | n + 1, s37, w1010 => blob_Changes_L0T N c36 t29 t31 t35 k0 (blob_Changes_L0 N c36 t29 t31 t35 k0 n) s37 w1010
def blob_Changes (N : Nat) (x0 : List (Str × Bool × List UInt8)) (x1 : List (Str × Bool × List UInt8)) : Option (Int × List (Str × Int)) :=
  bnd (blob_CheckFiles N x0) fun t19 =>
  br (t19 != (0 : Int))
    (some (t19, ([] : List (Str × Int))))
    (bnd (blob_CheckFiles N x1) fun t24 =>
    br (t24 != (0 : Int))
      (some (t24, ([] : List (Str × Int))))
      (bnd (blob_byPath N x0) fun t29 =>
      bnd (blob_byPath N x1) fun t31 =>
      bnd (blob_paths N [x0, x1]) fun t35 =>
      blob_Changes_L0 N (t35.length : Int) t29 t31 t35 (fun o0_w1010 =>
          some ((0 : Int), o0_w1010)) N (0 : Int) ([] : List (Str × Int))))
abbrev blob_Changes_sg (f : SV [.v (.sl (.pr .str (.pr .bool (.sl .u8)))), .v (.sl (.pr .str (.pr .bool (.sl .u8))))] → BV [] → Option (Int × List (Str × Int))) : AF := { ps := [.v (.sl (.pr .str (.pr .bool (.sl .u8)))), .v (.sl (.pr .str (.pr .bool (.sl .u8))))], bs := [], rs := [.row 0, .v (.int .i64)], cs := [.row 43 (.pr .str (.int .i64)) false], R := Int × List (Str × Int), out := fun z => (((), z.1, ()), (z.2, ())), f := f }
abbrev blob_Changes_pk : SV [.row 0, .v (.int .i64)] → BV [.row 43 (.pr .str (.int .i64)) false] → (Int × List (Str × Int)) := fun x y => (x.2.1, y.1)
def blob_Changes_fn (N : Nat) : FuncId → Option Tmp → Option AF := fun f _ =>
  match f with
    | 35 => some (blob_CheckFiles_sg fun x _ => blob_CheckFiles N x.1)
    | 52 => some (blob_byPath_sg fun x _ => blob_byPath N x.1)
    | 53 => some (blob_paths_sg fun x _ => blob_paths N x.1)
    | _ => none
theorem blob_Changes_fn_ok (N : Nat) : ∀ f q F, blob_Changes_fn N f q = some F → Sound Tryd.prog GW B0G f F := by
  intro f q F h
  unfold blob_Changes_fn at h
  split at h
  · cases h; exact blob_CheckFiles_sound N
  · cases h; exact blob_byPath_sound N
  · cases h; exact blob_paths_sound N
  · cases h
def blob_Changes_h : Nat → Hint := fun i =>
  match i with
  | 0 => ⟨[], [8, 9, 10, 35, 36, 37], [1010, 102900, 103100, 103500], [10], [1010], []⟩
  | _ => ⟨[], [], [], [], [], []⟩
abbrev blob_Changes_E (N : Nat) : Env := mkE blob_Changes_h (blob_Changes_fn N) (fun _ => false) (fun _ => false)
abbrev blob_Changes_L0_fs : List (Nat × Sl) := [(8, .mref 102900), (9, .mref 103100), (10, .row 1010), (35, .row 103500), (36, .v (.int .i64)), (37, .v (.int .i64))]
abbrev blob_Changes_L0_bs : List (Nat × Sb) := [(1010, .row 43 (.pr .str (.int .i64)) false), (102900, .map (.pr .str (.pr .bool (.sl .u8)))), (103100, .map (.pr .str (.pr .bool (.sl .u8)))), (103500, .row 9 .str false)]
def blob_Changes_L0_hd (c36 : Int) (t29 : List (Str × (Str × Bool × List UInt8))) (t31 : List (Str × (Str × Bool × List UInt8))) (t35 : List Str) (s37 : Int) (w1010 : List (Str × Int)) : St := ⟨81, [(8, .mref 102900), (9, .mref 103100), (10, .row 1010), (35, .row 103500), (36, .v (.int .i64) c36), (37, .v (.int .i64) s37)], [(1010, .row 43 (.pr .str (.int .i64)) false w1010), (102900, .map (.pr .str (.pr .bool (.sl .u8))) t29), (103100, .map (.pr .str (.pr .bool (.sl .u8))) t31), (103500, .row 9 .str false t35)]⟩
def blob_Changes_L0_tl0 (_c36 : Int) (_t29 : List (Str × (Str × Bool × List UInt8))) (_t31 : List (Str × (Str × Bool × List UInt8))) (_t35 : List Str) (o0_w1010 : List (Str × Int)) : St := ⟨81, [(10, .row 1010)], [(1010, .row 43 (.pr .str (.int .i64)) false o0_w1010)]⟩
def blob_Changes_L0_G (N : Nat) (c36 : Int) (t29 : List (Str × (Str × Bool × List UInt8))) (t31 : List (Str × (Str × Bool × List UInt8))) (t35 : List Str) (s37 : Int) (w1010 : List (Str × Int)) (k : Ex → St → Option (Int × List (Str × Int))) : Option (Int × List (Str × Int)) :=
  blob_Changes_L0 N c36 t29 t31 t35 (fun o0_w1010 => k (.exit 0) (blob_Changes_L0_tl0 c36 t29 t31 t35 o0_w1010)) N s37 w1010
abbrev blob_Changes_L0_F (N : Nat) : FV blob_Changes_L0_fs → HV blob_Changes_L0_bs → (Ex → St → Option (Int × List (Str × Int))) → Option (Int × List (Str × Int)) := fun x y k => blob_Changes_L0_G N x.2.2.2.2.1 y.2.1 y.2.2.1 y.2.2.2.1 x.2.2.2.2.2.1 y.1 k
noncomputable def blob_Changes_LP (N : Nat) : Nat → Code → St → (Ex → St → Option (Int × List (Str × Int))) → Option (Int × List (Str × Int)) := fun i c =>
  match i with
  | 0 => (LPc 81 blob_Changes_L0_fs blob_Changes_L0_bs (blob_Changes_L0_F N) (fun st k => iter (blob_Changes_h 0) (exec (blob_Changes_E N) N c 0) N st k))
  | i => fun st k => iter (blob_Changes_h i) (exec (blob_Changes_E N) N c i) N st k
theorem blob_Changes_L0_step (N : Nat) (c36 : Int) (t29 : List (Str × (Str × Bool × List UInt8))) (t31 : List (Str × (Str × Bool × List UInt8))) (t35 : List Str) (KX : Nat → St → Option (Int × List (Str × Int))) (I : St → Option (Int × List (Str × Int))) (s37 : Int) (w1010 : List (Str × Int)) :
    execL (blob_Changes_LP N) (blob_Changes_E N) (cAt (bodyOf Tryd.f22) [true, true, true, true, true, false, true, false, false]) 0 (blob_Changes_L0_hd c36 t29 t31 t35 s37 w1010) (roundK (blob_Changes_h 0) I KX (resD (blob_Changes_E N) Tryd.f22 (blob_Changes_sg fun x _ => blob_Changes N x.1 x.2.1) blob_Changes_pk)) = blob_Changes_L0T N c36 t29 t31 t35 (fun o0_w1010 => KX 0 (blob_Changes_L0_tl0 c36 t29 t31 t35 o0_w1010)) (fun s37 w1010 => I (blob_Changes_L0_hd c36 t29 t31 t35 s37 w1010)) s37 w1010 := by kernel_rfl
theorem blob_Changes_L0_ok (N : Nat) : ∀ x y k, (∀ st, k .ret st = (resD (blob_Changes_E N) Tryd.f22 (blob_Changes_sg fun x _ => blob_Changes N x.1 x.2.1) blob_Changes_pk) st) → iter (blob_Changes_h 0) (exec (blob_Changes_E N) N (cAt (bodyOf Tryd.f22) [true, true, true, true, true, false, true, false, false]) 0) N ⟨81, unF blob_Changes_L0_fs x, unH blob_Changes_L0_bs y⟩ k = blob_Changes_L0_F N x y k := fun x y k hk =>
  iter_link (S := (Int) × (List (Str × Int)) × Unit) (blob_Changes_h 0) _ (execL (blob_Changes_LP N) (blob_Changes_E N) (cAt (bodyOf Tryd.f22) [true, true, true, true, true, false, true, false, false]) 0) (resD (blob_Changes_E N) Tryd.f22 (blob_Changes_sg fun x _ => blob_Changes N x.1 x.2.1) blob_Changes_pk) (fun st k hk => execL_eq _ _ N _ (cAt (bodyOf Tryd.f22) [true, true, true, true, true, false, true, false, false]) 0 (show LoopsOk (blob_Changes_LP N) (blob_Changes_E N) N (resD (blob_Changes_E N) Tryd.f22 (blob_Changes_sg fun x _ => blob_Changes N x.1 x.2.1) blob_Changes_pk) [] from trivial) st k hk) (fun s => blob_Changes_L0_hd x.2.2.2.2.1 y.2.1 y.2.2.1 y.2.2.2.1 s.1 s.2.1) k hk
    (fun self s => blob_Changes_L0T N x.2.2.2.2.1 y.2.1 y.2.2.1 y.2.2.2.1 (fun o0_w1010 => k (.exit 0) (blob_Changes_L0_tl0 x.2.2.2.2.1 y.2.1 y.2.2.1 y.2.2.2.1 o0_w1010)) (fun s37 w1010 => self (s37, w1010, ())) s.1 s.2.1) (fun n s => blob_Changes_L0 N x.2.2.2.2.1 y.2.1 y.2.2.1 y.2.2.2.1 (fun o0_w1010 => k (.exit 0) (blob_Changes_L0_tl0 x.2.2.2.2.1 y.2.1 y.2.2.1 y.2.2.2.1 o0_w1010)) n s.1 s.2.1) (fun _ => rfl) (fun _ _ => rfl)
    (fun I s => blob_Changes_L0_step N x.2.2.2.2.1 y.2.1 y.2.2.1 y.2.2.2.1 (fun j => k (.exit j)) I s.1 s.2.1) N (x.2.2.2.2.2.1, y.1, ())
theorem blob_Changes_lp0 (N : Nat) : ∀ st k, (∀ st, k .ret st = (resD (blob_Changes_E N) Tryd.f22 (blob_Changes_sg fun x _ => blob_Changes N x.1 x.2.1) blob_Changes_pk) st) → blob_Changes_LP N 0 (cAt (bodyOf Tryd.f22) [true, true, true, true, true, false, true, false, false]) st k = iter (Env.hint (blob_Changes_E N) 0) (exec (blob_Changes_E N) N (cAt (bodyOf Tryd.f22) [true, true, true, true, true, false, true, false, false]) 0) N st k := fun st k hk => LPc_eq 81 blob_Changes_L0_fs blob_Changes_L0_bs _ _ (resD (blob_Changes_E N) Tryd.f22 (blob_Changes_sg fun x _ => blob_Changes N x.1 x.2.1) blob_Changes_pk) (blob_Changes_L0_ok N) _ st k hk (rfl)
theorem blob_Changes_core (N : Nat) (x : SV [.v (.sl (.pr .str (.pr .bool (.sl .u8)))), .v (.sl (.pr .str (.pr .bool (.sl .u8))))]) (y : BV []) : runL (blob_Changes_E N) Tryd.f22 (blob_Changes_sg fun x _ => blob_Changes N x.1 x.2.1) blob_Changes_pk (blob_Changes_LP N) x y = blob_Changes N x.1 x.2.1 := by kernel_rfl
theorem blob_Changes_sound (N : Nat) : Sound Tryd.prog GW B0G 22 (blob_Changes_sg fun x _ => blob_Changes N x.1 x.2.1) :=
  runD_sound (mkE_ok blob_Changes_h (blob_Changes_fn N) _ _ (blob_Changes_fn_ok N)) Tryd.func22 rfl Tryd.call22 (blob_Changes_sg fun x _ => blob_Changes N x.1 x.2.1) blob_Changes_pk (fun _ _ => rfl) N (fun x y _ h => ((runL_eq (blob_Changes_E N) N Tryd.f22 (blob_Changes_sg fun x _ => blob_Changes N x.1 x.2.1) blob_Changes_pk (blob_Changes_LP N) (show LoopsOk (blob_Changes_LP N) (blob_Changes_E N) N (resD (blob_Changes_E N) Tryd.f22 (blob_Changes_sg fun x _ => blob_Changes N x.1 x.2.1) blob_Changes_pk) [(0, (cAt (bodyOf Tryd.f22) [true, true, true, true, true, false, true, false, false]))] from ⟨blob_Changes_lp0 N, trivial⟩) x y).trans (blob_Changes_core N x y)).trans h)
def bytes_Equal (_N : Nat) (x0 : List UInt8) (x1 : List UInt8) : Option Bool :=
  some (x0 == x1)
abbrev bytes_Equal_sg (f : SV [.v (.sl .u8), .v (.sl .u8)] → BV [] → Option (Bool)) : AF := { ps := [.v (.sl .u8), .v (.sl .u8)], bs := [], rs := [.v .bool], cs := [], R := Bool, out := fun z => ((z, ()), ()), f := f }
abbrev bytes_Equal_pk : SV [.v .bool] → BV [] → Bool := fun x _ => x.1
def bytes_Equal_fn (_N : Nat) : FuncId → Option Tmp → Option AF := fun f _ =>
  match f with
    | _ => none
theorem bytes_Equal_fn_ok (N : Nat) : ∀ f q F, bytes_Equal_fn N f q = some F → Sound Tryd.prog GW B0G f F := by
  intro f q F h
  unfold bytes_Equal_fn at h
  split at h
  · cases h
def bytes_Equal_h : Nat → Hint := fun i =>
  match i with
  | _ => ⟨[], [], [], [], [], []⟩
abbrev bytes_Equal_E (N : Nat) : Env := mkE bytes_Equal_h (bytes_Equal_fn N) (fun _ => false) (fun _ => false)
noncomputable def bytes_Equal_LP (N : Nat) : Nat → Code → St → (Ex → St → Option Bool) → Option Bool := fun i c =>
  match i with
  | i => fun st k => iter (bytes_Equal_h i) (exec (bytes_Equal_E N) N c i) N st k
theorem bytes_Equal_core (N : Nat) (x : SV [.v (.sl .u8), .v (.sl .u8)]) (y : BV []) : runL (bytes_Equal_E N) Tryd.f57 (bytes_Equal_sg fun x _ => bytes_Equal N x.1 x.2.1) bytes_Equal_pk (bytes_Equal_LP N) x y = bytes_Equal N x.1 x.2.1 := by kernel_rfl
theorem bytes_Equal_sound (N : Nat) : Sound Tryd.prog GW B0G 57 (bytes_Equal_sg fun x _ => bytes_Equal N x.1 x.2.1) :=
  runD_sound (mkE_ok bytes_Equal_h (bytes_Equal_fn N) _ _ (bytes_Equal_fn_ok N)) Tryd.func57 rfl Tryd.call57 (bytes_Equal_sg fun x _ => bytes_Equal N x.1 x.2.1) bytes_Equal_pk (fun _ _ => rfl) N (fun x y _ h => ((runL_eq (bytes_Equal_E N) N Tryd.f57 (bytes_Equal_sg fun x _ => bytes_Equal N x.1 x.2.1) bytes_Equal_pk (bytes_Equal_LP N) (show LoopsOk (bytes_Equal_LP N) (bytes_Equal_E N) N (resD (bytes_Equal_E N) Tryd.f57 (bytes_Equal_sg fun x _ => bytes_Equal N x.1 x.2.1) bytes_Equal_pk) [] from trivial) x y).trans (bytes_Equal_core N x y)).trans h)
def ref1_SameFile (N : Nat) (x0 : Str × Bool × List UInt8) (x1 : Str × Bool × List UInt8) : Option Bool :=
  br (x0.1 == x1.1)
    (br (x0.2.1 == x1.2.1)
      (bnd (bytes_Equal N x0.2.2 x1.2.2) fun t22 =>
      some t22)
      (some false))
    (some false)
abbrev ref1_SameFile_sg (f : SV [.v (.pr .str (.pr .bool (.sl .u8))), .v (.pr .str (.pr .bool (.sl .u8)))] → BV [] → Option (Bool)) : AF := { ps := [.v (.pr .str (.pr .bool (.sl .u8))), .v (.pr .str (.pr .bool (.sl .u8)))], bs := [], rs := [.v .bool], cs := [], R := Bool, out := fun z => ((z, ()), ()), f := f }
abbrev ref1_SameFile_pk : SV [.v .bool] → BV [] → Bool := fun x _ => x.1
def ref1_SameFile_fn (N : Nat) : FuncId → Option Tmp → Option AF := fun f _ =>
  match f with
    | 57 => some (bytes_Equal_sg fun x _ => bytes_Equal N x.1 x.2.1)
    | _ => none
theorem ref1_SameFile_fn_ok (N : Nat) : ∀ f q F, ref1_SameFile_fn N f q = some F → Sound Tryd.prog GW B0G f F := by
  intro f q F h
  unfold ref1_SameFile_fn at h
  split at h
  · cases h; exact bytes_Equal_sound N
  · cases h
def ref1_SameFile_h : Nat → Hint := fun i =>
  match i with
  | _ => ⟨[], [], [], [], [], []⟩
abbrev ref1_SameFile_E (N : Nat) : Env := mkE ref1_SameFile_h (ref1_SameFile_fn N) (fun _ => false) (fun _ => false)
noncomputable def ref1_SameFile_LP (N : Nat) : Nat → Code → St → (Ex → St → Option Bool) → Option Bool := fun i c =>
  match i with
  | i => fun st k => iter (ref1_SameFile_h i) (exec (ref1_SameFile_E N) N c i) N st k
theorem ref1_SameFile_core (N : Nat) (x : SV [.v (.pr .str (.pr .bool (.sl .u8))), .v (.pr .str (.pr .bool (.sl .u8)))]) (y : BV []) : runL (ref1_SameFile_E N) Tryd.f54 (ref1_SameFile_sg fun x _ => ref1_SameFile N x.1 x.2.1) ref1_SameFile_pk (ref1_SameFile_LP N) x y = ref1_SameFile N x.1 x.2.1 := by kernel_rfl
theorem ref1_SameFile_sound (N : Nat) : Sound Tryd.prog GW B0G 54 (ref1_SameFile_sg fun x _ => ref1_SameFile N x.1 x.2.1) :=
  runD_sound (mkE_ok ref1_SameFile_h (ref1_SameFile_fn N) _ _ (ref1_SameFile_fn_ok N)) Tryd.func54 rfl Tryd.call54 (ref1_SameFile_sg fun x _ => ref1_SameFile N x.1 x.2.1) ref1_SameFile_pk (fun _ _ => rfl) N (fun x y _ h => ((runL_eq (ref1_SameFile_E N) N Tryd.f54 (ref1_SameFile_sg fun x _ => ref1_SameFile N x.1 x.2.1) ref1_SameFile_pk (ref1_SameFile_LP N) (show LoopsOk (ref1_SameFile_LP N) (ref1_SameFile_E N) N (resD (ref1_SameFile_E N) Tryd.f54 (ref1_SameFile_sg fun x _ => ref1_SameFile N x.1 x.2.1) ref1_SameFile_pk) [] from trivial) x y).trans (ref1_SameFile_core N x y)).trans h)
def ref1_SameFiles_L0T (N : Nat) (x0 : List (Str × Bool × List UInt8)) (x1 : List (Str × Bool × List UInt8)) (k0 : Option Bool) (self : Int → Option Bool) (s5 : Int) : Option Bool :=
  br (decide (s5 < (x0.length : Int)))
    (bnd (geti x0 s5) fun t19 =>
    bnd (geti x1 s5) fun t23 =>
    bnd (ref1_SameFile N t19 t23) fun t25 =>
    br (!t25)
      (some false)
      (self (IntKind.i64.wrap (s5 + (1 : Int)))))
    (k0)
def ref1_SameFiles_L0 (N : Nat) (x0 : List (Str × Bool × List UInt8)) (x1 : List (Str × Bool × List UInt8)) (k0 : Option Bool) : Nat → Int → Option Bool
  | 0, _ => none
  | n + 1, s5 => ref1_SameFiles_L0T N x0 x1 k0 (ref1_SameFiles_L0 N x0 x1 k0 n) s5
def ref1_SameFiles (N : Nat) (x0 : List (Str × Bool × List UInt8)) (x1 : List (Str × Bool × List UInt8)) : Option Bool :=
  br ((x0.length : Int) != (x1.length : Int))
    (some false)
    (ref1_SameFiles_L0 N x0 x1 (some true) N (0 : Int))
abbrev ref1_SameFiles_sg (f : SV [.v (.sl (.pr .str (.pr .bool (.sl .u8)))), .v (.sl (.pr .str (.pr .bool (.sl .u8))))] → BV [] → Option (Bool)) : AF := { ps := [.v (.sl (.pr .str (.pr .bool (.sl .u8)))), .v (.sl (.pr .str (.pr .bool (.sl .u8))))], bs := [], rs := [.v .bool], cs := [], R := Bool, out := fun z => ((z, ()), ()), f := f }
abbrev ref1_SameFiles_pk : SV [.v .bool] → BV [] → Bool := fun x _ => x.1
def ref1_SameFiles_fn (N : Nat) : FuncId → Option Tmp → Option AF := fun f _ =>
  match f with
    | 54 => some (ref1_SameFile_sg fun x _ => ref1_SameFile N x.1 x.2.1)
    | _ => none
theorem ref1_SameFiles_fn_ok (N : Nat) : ∀ f q F, ref1_SameFiles_fn N f q = some F → Sound Tryd.prog GW B0G f F := by
  intro f q F h
  unfold ref1_SameFiles_fn at h
  split at h
  · cases h; exact ref1_SameFile_sound N
  · cases h
def ref1_SameFiles_h : Nat → Hint := fun i =>
  match i with
  | 0 => ⟨[], [0, 1, 5], [], [], [], []⟩
  | _ => ⟨[], [], [], [], [], []⟩
abbrev ref1_SameFiles_E (N : Nat) : Env := mkE ref1_SameFiles_h (ref1_SameFiles_fn N) (fun _ => false) (fun _ => false)
abbrev ref1_SameFiles_L0_fs : List (Nat × Sl) := [(0, .v (.sl (.pr .str (.pr .bool (.sl .u8))))), (1, .v (.sl (.pr .str (.pr .bool (.sl .u8))))), (5, .v (.int .i64))]
abbrev ref1_SameFiles_L0_bs : List (Nat × Sb) := []
def ref1_SameFiles_L0_hd (x0 : List (Str × Bool × List UInt8)) (x1 : List (Str × Bool × List UInt8)) (s5 : Int) : St := ⟨27, [(0, .v (.sl (.pr .str (.pr .bool (.sl .u8)))) x0), (1, .v (.sl (.pr .str (.pr .bool (.sl .u8)))) x1), (5, .v (.int .i64) s5)], []⟩
def ref1_SameFiles_L0_tl0 (_x0 : List (Str × Bool × List UInt8)) (_x1 : List (Str × Bool × List UInt8)) : St := ⟨27, [], []⟩
def ref1_SameFiles_L0_G (N : Nat) (x0 : List (Str × Bool × List UInt8)) (x1 : List (Str × Bool × List UInt8)) (s5 : Int) (k : Ex → St → Option Bool) : Option Bool :=
  ref1_SameFiles_L0 N x0 x1 (k (.exit 0) (ref1_SameFiles_L0_tl0 x0 x1)) N s5
abbrev ref1_SameFiles_L0_F (N : Nat) : FV ref1_SameFiles_L0_fs → HV ref1_SameFiles_L0_bs → (Ex → St → Option Bool) → Option Bool := fun x _ k => ref1_SameFiles_L0_G N x.1 x.2.1 x.2.2.1 k
noncomputable def ref1_SameFiles_LP (N : Nat) : Nat → Code → St → (Ex → St → Option Bool) → Option Bool := fun i c =>
  match i with
  | 0 => (LPc 27 ref1_SameFiles_L0_fs ref1_SameFiles_L0_bs (ref1_SameFiles_L0_F N) (fun st k => iter (ref1_SameFiles_h 0) (exec (ref1_SameFiles_E N) N c 0) N st k))
  | i => fun st k => iter (ref1_SameFiles_h i) (exec (ref1_SameFiles_E N) N c i) N st k
theorem ref1_SameFiles_L0_step (N : Nat) (x0 : List (Str × Bool × List UInt8)) (x1 : List (Str × Bool × List UInt8)) (KX : Nat → St → Option Bool) (I : St → Option Bool) (s5 : Int) :
    execL (ref1_SameFiles_LP N) (ref1_SameFiles_E N) (cAt (bodyOf Tryd.f23) [true, true, false, true, false, false]) 0 (ref1_SameFiles_L0_hd x0 x1 s5) (roundK (ref1_SameFiles_h 0) I KX (resD (ref1_SameFiles_E N) Tryd.f23 (ref1_SameFiles_sg fun x _ => ref1_SameFiles N x.1 x.2.1) ref1_SameFiles_pk)) = ref1_SameFiles_L0T N x0 x1 (KX 0 (ref1_SameFiles_L0_tl0 x0 x1)) (fun s5 => I (ref1_SameFiles_L0_hd x0 x1 s5)) s5 := by kernel_rfl
theorem ref1_SameFiles_L0_ok (N : Nat) : ∀ x y k, (∀ st, k .ret st = (resD (ref1_SameFiles_E N) Tryd.f23 (ref1_SameFiles_sg fun x _ => ref1_SameFiles N x.1 x.2.1) ref1_SameFiles_pk) st) → iter (ref1_SameFiles_h 0) (exec (ref1_SameFiles_E N) N (cAt (bodyOf Tryd.f23) [true, true, false, true, false, false]) 0) N ⟨27, unF ref1_SameFiles_L0_fs x, unH ref1_SameFiles_L0_bs y⟩ k = ref1_SameFiles_L0_F N x y k := fun x _ k hk =>
  iter_link (S := (Int) × Unit) (ref1_SameFiles_h 0) _ (execL (ref1_SameFiles_LP N) (ref1_SameFiles_E N) (cAt (bodyOf Tryd.f23) [true, true, false, true, false, false]) 0) (resD (ref1_SameFiles_E N) Tryd.f23 (ref1_SameFiles_sg fun x _ => ref1_SameFiles N x.1 x.2.1) ref1_SameFiles_pk) (fun st k hk => execL_eq _ _ N _ (cAt (bodyOf Tryd.f23) [true, true, false, true, false, false]) 0 (show LoopsOk (ref1_SameFiles_LP N) (ref1_SameFiles_E N) N (resD (ref1_SameFiles_E N) Tryd.f23 (ref1_SameFiles_sg fun x _ => ref1_SameFiles N x.1 x.2.1) ref1_SameFiles_pk) [] from trivial) st k hk) (fun s => ref1_SameFiles_L0_hd x.1 x.2.1 s.1) k hk
    (fun self s => ref1_SameFiles_L0T N x.1 x.2.1 (k (.exit 0) (ref1_SameFiles_L0_tl0 x.1 x.2.1)) (fun s5 => self (s5, ())) s.1) (fun n s => ref1_SameFiles_L0 N x.1 x.2.1 (k (.exit 0) (ref1_SameFiles_L0_tl0 x.1 x.2.1)) n s.1) (fun _ => rfl) (fun _ _ => rfl)
    (fun I s => ref1_SameFiles_L0_step N x.1 x.2.1 (fun j => k (.exit j)) I s.1) N (x.2.2.1, ())
theorem ref1_SameFiles_lp0 (N : Nat) : ∀ st k, (∀ st, k .ret st = (resD (ref1_SameFiles_E N) Tryd.f23 (ref1_SameFiles_sg fun x _ => ref1_SameFiles N x.1 x.2.1) ref1_SameFiles_pk) st) → ref1_SameFiles_LP N 0 (cAt (bodyOf Tryd.f23) [true, true, false, true, false, false]) st k = iter (Env.hint (ref1_SameFiles_E N) 0) (exec (ref1_SameFiles_E N) N (cAt (bodyOf Tryd.f23) [true, true, false, true, false, false]) 0) N st k := fun st k hk => LPc_eq 27 ref1_SameFiles_L0_fs ref1_SameFiles_L0_bs _ _ (resD (ref1_SameFiles_E N) Tryd.f23 (ref1_SameFiles_sg fun x _ => ref1_SameFiles N x.1 x.2.1) ref1_SameFiles_pk) (ref1_SameFiles_L0_ok N) _ st k hk (rfl)
theorem ref1_SameFiles_core (N : Nat) (x : SV [.v (.sl (.pr .str (.pr .bool (.sl .u8)))), .v (.sl (.pr .str (.pr .bool (.sl .u8))))]) (y : BV []) : runL (ref1_SameFiles_E N) Tryd.f23 (ref1_SameFiles_sg fun x _ => ref1_SameFiles N x.1 x.2.1) ref1_SameFiles_pk (ref1_SameFiles_LP N) x y = ref1_SameFiles N x.1 x.2.1 := by kernel_rfl
theorem ref1_SameFiles_sound (N : Nat) : Sound Tryd.prog GW B0G 23 (ref1_SameFiles_sg fun x _ => ref1_SameFiles N x.1 x.2.1) :=
  runD_sound (mkE_ok ref1_SameFiles_h (ref1_SameFiles_fn N) _ _ (ref1_SameFiles_fn_ok N)) Tryd.func23 rfl Tryd.call23 (ref1_SameFiles_sg fun x _ => ref1_SameFiles N x.1 x.2.1) ref1_SameFiles_pk (fun _ _ => rfl) N (fun x y _ h => ((runL_eq (ref1_SameFiles_E N) N Tryd.f23 (ref1_SameFiles_sg fun x _ => ref1_SameFiles N x.1 x.2.1) ref1_SameFiles_pk (ref1_SameFiles_LP N) (show LoopsOk (ref1_SameFiles_LP N) (ref1_SameFiles_E N) N (resD (ref1_SameFiles_E N) Tryd.f23 (ref1_SameFiles_sg fun x _ => ref1_SameFiles N x.1 x.2.1) ref1_SameFiles_pk) [(0, (cAt (bodyOf Tryd.f23) [true, true, false, true, false, false]))] from ⟨ref1_SameFiles_lp0 N, trivial⟩) x y).trans (ref1_SameFiles_core N x y)).trans h)
def law1_BlobChangesTurn_L0T (_N : Nat) (cw101300 : List (Str × Int)) (cw102700 : List (Str × Int)) (k0 : Option Bool) (self : Int → Option Bool) (s8 : Int) : Option Bool :=
  br (decide (s8 < (cw101300.length : Int)))
    (bnd (geti cw101300 s8) fun t56 =>
    br (t56.2 == (1 : Int))
      (bnd (geti cw102700 s8) fun t68 =>
      br (!(eqb (.pr .str (.int .i64)) t68 (t56.1, (2 : Int))))
        (some false)
        (self (IntKind.i64.wrap (s8 + (1 : Int)))))
      (br (t56.2 == (2 : Int))
        (bnd (geti cw102700 s8) fun t68_1 =>
        br (!(eqb (.pr .str (.int .i64)) t68_1 (t56.1, (1 : Int))))
          (some false)
          (self (IntKind.i64.wrap (s8 + (1 : Int)))))
        (bnd (geti cw102700 s8) fun t68_2 =>
        br (!(eqb (.pr .str (.int .i64)) t68_2 t56))
          (some false)
          (self (IntKind.i64.wrap (s8 + (1 : Int)))))))
    (k0)
def law1_BlobChangesTurn_L0 (N : Nat) (cw101300 : List (Str × Int)) (cw102700 : List (Str × Int)) (k0 : Option Bool) : Nat → Int → Option Bool
  | 0, _ => none
  | n + 1, s8 => law1_BlobChangesTurn_L0T N cw101300 cw102700 k0 (law1_BlobChangesTurn_L0 N cw101300 cw102700 k0 n) s8
def law1_BlobChangesTurn (N : Nat) (x0 : List (Str × Bool × List UInt8)) (x1 : List (Str × Bool × List UInt8)) : Option Bool :=
  bnd (blob_Changes N x0 x1) fun t13 =>
  br (t13.1 != (0 : Int))
    (br ((t13.2.length : Int) == (0 : Int))
      (bnd (law1_awake N) fun t22 =>
      some t22)
      (some false))
    (bnd (blob_Changes N x1 x0) fun t27 =>
    br (t27.1 != (0 : Int))
      (some false)
      (br ((t13.2.length : Int) != (t27.2.length : Int))
        (some false)
        (bnd (ref1_SameFiles N x0 x1) fun t45 =>
        br (((t13.2.length : Int) == (0 : Int)) != t45)
          (some false)
          (law1_BlobChangesTurn_L0 N t13.2 t27.2 (bnd (law1_awake N) fun t72 =>
              some t72) N (0 : Int)))))
abbrev law1_BlobChangesTurn_sg (f : SV [.v (.sl (.pr .str (.pr .bool (.sl .u8)))), .v (.sl (.pr .str (.pr .bool (.sl .u8))))] → BV [] → Option (Bool)) : AF := { ps := [.v (.sl (.pr .str (.pr .bool (.sl .u8)))), .v (.sl (.pr .str (.pr .bool (.sl .u8))))], bs := [], rs := [.v .bool], cs := [], R := Bool, out := fun z => ((z, ()), ()), f := f }
abbrev law1_BlobChangesTurn_pk : SV [.v .bool] → BV [] → Bool := fun x _ => x.1
def law1_BlobChangesTurn_fn (N : Nat) : FuncId → Option Tmp → Option AF := fun f _ =>
  match f with
    | 18 => some (law1_awake_sg fun _ _ => law1_awake N)
    | 22 => some (blob_Changes_sg fun x _ => blob_Changes N x.1 x.2.1)
    | 23 => some (ref1_SameFiles_sg fun x _ => ref1_SameFiles N x.1 x.2.1)
    | _ => none
theorem law1_BlobChangesTurn_fn_ok (N : Nat) : ∀ f q F, law1_BlobChangesTurn_fn N f q = some F → Sound Tryd.prog GW B0G f F := by
  intro f q F h
  unfold law1_BlobChangesTurn_fn at h
  split at h
  · cases h; exact law1_awake_sound N
  · cases h; exact blob_Changes_sound N
  · cases h; exact ref1_SameFiles_sound N
  · cases h
def law1_BlobChangesTurn_h : Nat → Hint := fun i =>
  match i with
  | 0 => ⟨[], [5, 7, 8], [101300, 102700], [], [], []⟩
  | _ => ⟨[], [], [], [], [], []⟩
abbrev law1_BlobChangesTurn_E (N : Nat) : Env := mkE law1_BlobChangesTurn_h (law1_BlobChangesTurn_fn N) (fun _ => false) (fun _ => false)
abbrev law1_BlobChangesTurn_L0_fs : List (Nat × Sl) := [(5, .row 101300), (7, .row 102700), (8, .v (.int .i64))]
abbrev law1_BlobChangesTurn_L0_bs : List (Nat × Sb) := [(101300, .row 43 (.pr .str (.int .i64)) false), (102700, .row 43 (.pr .str (.int .i64)) false)]
def law1_BlobChangesTurn_L0_hd (cw101300 : List (Str × Int)) (cw102700 : List (Str × Int)) (s8 : Int) : St := ⟨73, [(5, .row 101300), (7, .row 102700), (8, .v (.int .i64) s8)], [(101300, .row 43 (.pr .str (.int .i64)) false cw101300), (102700, .row 43 (.pr .str (.int .i64)) false cw102700)]⟩
def law1_BlobChangesTurn_L0_tl0 (_cw101300 : List (Str × Int)) (_cw102700 : List (Str × Int)) : St := ⟨73, [], []⟩
def law1_BlobChangesTurn_L0_G (N : Nat) (cw101300 : List (Str × Int)) (cw102700 : List (Str × Int)) (s8 : Int) (k : Ex → St → Option Bool) : Option Bool :=
  law1_BlobChangesTurn_L0 N cw101300 cw102700 (k (.exit 0) (law1_BlobChangesTurn_L0_tl0 cw101300 cw102700)) N s8
abbrev law1_BlobChangesTurn_L0_F (N : Nat) : FV law1_BlobChangesTurn_L0_fs → HV law1_BlobChangesTurn_L0_bs → (Ex → St → Option Bool) → Option Bool := fun x y k => law1_BlobChangesTurn_L0_G N y.1 y.2.1 x.2.2.1 k
noncomputable def law1_BlobChangesTurn_LP (N : Nat) : Nat → Code → St → (Ex → St → Option Bool) → Option Bool := fun i c =>
  match i with
  | 0 => (LPc 73 law1_BlobChangesTurn_L0_fs law1_BlobChangesTurn_L0_bs (law1_BlobChangesTurn_L0_F N) (fun st k => iter (law1_BlobChangesTurn_h 0) (exec (law1_BlobChangesTurn_E N) N c 0) N st k))
  | i => fun st k => iter (law1_BlobChangesTurn_h i) (exec (law1_BlobChangesTurn_E N) N c i) N st k
theorem law1_BlobChangesTurn_L0_step (N : Nat) (cw101300 : List (Str × Int)) (cw102700 : List (Str × Int)) (KX : Nat → St → Option Bool) (I : St → Option Bool) (s8 : Int) :
    execL (law1_BlobChangesTurn_LP N) (law1_BlobChangesTurn_E N) (cAt (bodyOf Tryd.f6) [true, true, true, true, true, false, true, false, false]) 0 (law1_BlobChangesTurn_L0_hd cw101300 cw102700 s8) (roundK (law1_BlobChangesTurn_h 0) I KX (resD (law1_BlobChangesTurn_E N) Tryd.f6 (law1_BlobChangesTurn_sg fun x _ => law1_BlobChangesTurn N x.1 x.2.1) law1_BlobChangesTurn_pk)) = law1_BlobChangesTurn_L0T N cw101300 cw102700 (KX 0 (law1_BlobChangesTurn_L0_tl0 cw101300 cw102700)) (fun s8 => I (law1_BlobChangesTurn_L0_hd cw101300 cw102700 s8)) s8 := by kernel_rfl
theorem law1_BlobChangesTurn_L0_ok (N : Nat) : ∀ x y k, (∀ st, k .ret st = (resD (law1_BlobChangesTurn_E N) Tryd.f6 (law1_BlobChangesTurn_sg fun x _ => law1_BlobChangesTurn N x.1 x.2.1) law1_BlobChangesTurn_pk) st) → iter (law1_BlobChangesTurn_h 0) (exec (law1_BlobChangesTurn_E N) N (cAt (bodyOf Tryd.f6) [true, true, true, true, true, false, true, false, false]) 0) N ⟨73, unF law1_BlobChangesTurn_L0_fs x, unH law1_BlobChangesTurn_L0_bs y⟩ k = law1_BlobChangesTurn_L0_F N x y k := fun x y k hk =>
  iter_link (S := (Int) × Unit) (law1_BlobChangesTurn_h 0) _ (execL (law1_BlobChangesTurn_LP N) (law1_BlobChangesTurn_E N) (cAt (bodyOf Tryd.f6) [true, true, true, true, true, false, true, false, false]) 0) (resD (law1_BlobChangesTurn_E N) Tryd.f6 (law1_BlobChangesTurn_sg fun x _ => law1_BlobChangesTurn N x.1 x.2.1) law1_BlobChangesTurn_pk) (fun st k hk => execL_eq _ _ N _ (cAt (bodyOf Tryd.f6) [true, true, true, true, true, false, true, false, false]) 0 (show LoopsOk (law1_BlobChangesTurn_LP N) (law1_BlobChangesTurn_E N) N (resD (law1_BlobChangesTurn_E N) Tryd.f6 (law1_BlobChangesTurn_sg fun x _ => law1_BlobChangesTurn N x.1 x.2.1) law1_BlobChangesTurn_pk) [] from trivial) st k hk) (fun s => law1_BlobChangesTurn_L0_hd y.1 y.2.1 s.1) k hk
    (fun self s => law1_BlobChangesTurn_L0T N y.1 y.2.1 (k (.exit 0) (law1_BlobChangesTurn_L0_tl0 y.1 y.2.1)) (fun s8 => self (s8, ())) s.1) (fun n s => law1_BlobChangesTurn_L0 N y.1 y.2.1 (k (.exit 0) (law1_BlobChangesTurn_L0_tl0 y.1 y.2.1)) n s.1) (fun _ => rfl) (fun _ _ => rfl)
    (fun I s => law1_BlobChangesTurn_L0_step N y.1 y.2.1 (fun j => k (.exit j)) I s.1) N (x.2.2.1, ())
theorem law1_BlobChangesTurn_lp0 (N : Nat) : ∀ st k, (∀ st, k .ret st = (resD (law1_BlobChangesTurn_E N) Tryd.f6 (law1_BlobChangesTurn_sg fun x _ => law1_BlobChangesTurn N x.1 x.2.1) law1_BlobChangesTurn_pk) st) → law1_BlobChangesTurn_LP N 0 (cAt (bodyOf Tryd.f6) [true, true, true, true, true, false, true, false, false]) st k = iter (Env.hint (law1_BlobChangesTurn_E N) 0) (exec (law1_BlobChangesTurn_E N) N (cAt (bodyOf Tryd.f6) [true, true, true, true, true, false, true, false, false]) 0) N st k := fun st k hk => LPc_eq 73 law1_BlobChangesTurn_L0_fs law1_BlobChangesTurn_L0_bs _ _ (resD (law1_BlobChangesTurn_E N) Tryd.f6 (law1_BlobChangesTurn_sg fun x _ => law1_BlobChangesTurn N x.1 x.2.1) law1_BlobChangesTurn_pk) (law1_BlobChangesTurn_L0_ok N) _ st k hk (rfl)
theorem law1_BlobChangesTurn_core (N : Nat) (x : SV [.v (.sl (.pr .str (.pr .bool (.sl .u8)))), .v (.sl (.pr .str (.pr .bool (.sl .u8))))]) (y : BV []) : runL (law1_BlobChangesTurn_E N) Tryd.f6 (law1_BlobChangesTurn_sg fun x _ => law1_BlobChangesTurn N x.1 x.2.1) law1_BlobChangesTurn_pk (law1_BlobChangesTurn_LP N) x y = law1_BlobChangesTurn N x.1 x.2.1 := by kernel_rfl
theorem law1_BlobChangesTurn_sound (N : Nat) : Sound Tryd.prog GW B0G 6 (law1_BlobChangesTurn_sg fun x _ => law1_BlobChangesTurn N x.1 x.2.1) :=
  runD_sound (mkE_ok law1_BlobChangesTurn_h (law1_BlobChangesTurn_fn N) _ _ (law1_BlobChangesTurn_fn_ok N)) Tryd.func6 rfl Tryd.call6 (law1_BlobChangesTurn_sg fun x _ => law1_BlobChangesTurn N x.1 x.2.1) law1_BlobChangesTurn_pk (fun _ _ => rfl) N (fun x y _ h => ((runL_eq (law1_BlobChangesTurn_E N) N Tryd.f6 (law1_BlobChangesTurn_sg fun x _ => law1_BlobChangesTurn N x.1 x.2.1) law1_BlobChangesTurn_pk (law1_BlobChangesTurn_LP N) (show LoopsOk (law1_BlobChangesTurn_LP N) (law1_BlobChangesTurn_E N) N (resD (law1_BlobChangesTurn_E N) Tryd.f6 (law1_BlobChangesTurn_sg fun x _ => law1_BlobChangesTurn N x.1 x.2.1) law1_BlobChangesTurn_pk) [(0, (cAt (bodyOf Tryd.f6) [true, true, true, true, true, false, true, false, false]))] from ⟨law1_BlobChangesTurn_lp0 N, trivial⟩) x y).trans (law1_BlobChangesTurn_core N x y)).trans h)
end
end Go.Proofs.YthlkidohpiebiaaDoor


/- What functions of the program compute, as plain functions (printed). -/
namespace Go.Proofs.YthlkidohpiebiaaDoor
open Go Go.RowKit
set_option maxRecDepth 100000
set_option linter.unusedVariables false
noncomputable section
end
end Go.Proofs.YthlkidohpiebiaaDoor


/- slices.SortFunc of structs by their first field, a name that each has but once, out of the kit's contract: it turns a row of its caller's. For any program. -/
namespace Go.Proofs.YthlkidohpiebiaaDoor
set_option linter.unusedVariables false
set_option linter.unusedSimpArgs false
open Go Go.RowKit Go.Shelf Go.Sort
/-- A name, and n further cells. -/
def KC (n : Nat) : Type := { p : Str × List Value // p.2.length = n ∧ ∀ v ∈ p.2, v.oneCell' = true }
instance (n : Nat) : Inhabited (KC n) := ⟨⟨([], List.replicate n (.bool false)), by simp, fun v hv => by rw [List.eq_of_mem_replicate hv]; rfl⟩⟩
end Go.Proofs.YthlkidohpiebiaaDoor


/-
  DERIVED: THE SHELF's CONTRACTS AT THIS DUMP, IN PLAIN WORDS (tools/lay-plain.mjs out of 'TrydShelfF.lean', which tools/lay-shelf.mjs wrote): THE SAME DECLARATIONS UNDER THE SAME NAMES: 'import', 'namespace', 'open', 'def', 'theorem' AND NOTHING ELSE: no command of the shelf's: FOR A HAND-IN. Each laying: the table of numbers ('.._ren') and one theorem, a field a fact of the dump's own or the kernel's comparison; each contract: ONE APPLICATION.
-/
namespace Go.Proofs
open Go.Shelf
end Go.Proofs


/- slices.SortFunc of files by their paths, out of the kit's contract: it turns a row of its caller's. -/
namespace Go.Proofs.YthlkidohpiebiaaDoor
set_option linter.unusedVariables false
set_option linter.unusedSimpArgs false
open Go Go.RowKit Go.Shelf Go.Sort
end Go.Proofs.YthlkidohpiebiaaDoor



/- What functions of the program compute, as plain functions (printed). -/
namespace Go.Proofs.YthlkidohpiebiaaDoor
open Go Go.RowKit
set_option maxRecDepth 100000
set_option linter.unusedVariables false
noncomputable section
end
end Go.Proofs.YthlkidohpiebiaaDoor


/- What functions of the program compute, as plain functions (printed). -/
namespace Go.Proofs.YthlkidohpiebiaaDoor
open Go Go.RowKit
set_option maxRecDepth 100000
set_option linter.unusedVariables false
noncomputable section
end
end Go.Proofs.YthlkidohpiebiaaDoor


/- strings.Trim and strings.Join, out of the kit's contracts. -/
namespace Go.Proofs.YthlkidohpiebiaaDoor
set_option linter.unusedVariables false
set_option linter.unusedSimpArgs false
open Go Go.RowKit Go.Shelf
end Go.Proofs.YthlkidohpiebiaaDoor



/- Splitting, cutting and joining at one byte. No program in sight. -/
namespace Go.Proofs.YthlkidohpiebiaaDoor
set_option linter.unusedVariables false
set_option linter.unusedSimpArgs false
open Go Go.RowKit
def splitC (c : UInt8) : Str → List Str
  | [] => [[]]
  | b :: s => if b = c then [] :: splitC c s else match splitC c s with
    | x :: xs => (b :: x) :: xs
    | [] => [[b]]
theorem splitC_ne (c : UInt8) (s : Str) : splitC c s ≠ [] := by
  cases s with
  | nil => simp [splitC]
  | cons b s => unfold splitC; split; simp; split <;> simp
theorem indexByte_cons (b c : UInt8) (s : Str) : Lib.indexByte (b :: s) c = if b = c then 0 else if Lib.indexByte s c = -1 then -1 else Lib.indexByte s c + 1 := by
  have h := Lib.indexByte_ge s c
  rw [Lib.indexByte]
  by_cases hb : b = c
  · simp [hb]
  · simp only [beq_iff_eq, hb, if_false]
theorem splitK_one (c : UInt8) : ∀ (s : Str), Lib.splitK [c] 0 (Lib.count s [c]) s = splitC c s
  | [] => by simp [Lib.count_one, Lib.splitK, splitC]
  | b :: s => by
    have ih := splitK_one c s
    by_cases hb : b = c
    · subst hb
      rw [Lib.count_cons_eq, Nat.add_comm, Lib.splitK, Lib.index_one, indexByte_cons]
      simp only [if_true]
      show (_ :: Lib.splitK [b] 0 (Lib.count s [b]) s) = _
      rw [ih]
      simp [splitC]
    · rw [Lib.count_cons_ne _ _ _ hb]
      unfold splitC
      rw [if_neg hb, ← ih]
      cases hk : Lib.count s [c] with
      | zero => simp [Lib.splitK]
      | succ k =>
        rw [Lib.splitK, Lib.splitK, Lib.index_one, Lib.index_one, indexByte_cons, if_neg hb]
        have h0 := Lib.indexByte_ge s c
        by_cases h1 : Lib.indexByte s c = -1
        · simp [h1]
        · have h2 : ∃ n : Nat, Lib.indexByte s c = n := ⟨(Lib.indexByte s c).toNat, by omega⟩
          obtain ⟨n, hn⟩ := h2
          have e : ((n : Int) + 1).toNat = n + 1 := by omega
          have e1 : ¬ ((n : Int) = -1) := by omega
          have e2 : ¬ ((n : Int) + 1 = -1) := by omega
          simp [hn, e, e1, e2, Nat.add_right_comm]
theorem splitS_one (s : Str) (c : UInt8) : splitS s [c] = splitC c s := by
  unfold splitS
  have := Lib.splitB_data ⟨[c].toArray⟩ 0 (Lib.countB ⟨s.toArray⟩ ⟨[c].toArray⟩) ⟨s.toArray⟩
  rw [this]
  exact splitK_one c s
theorem splitC_len (c : UInt8) : ∀ s : Str, (splitC c s).length = s.count c + 1
  | [] => rfl
  | b :: s => by
    have ih := splitC_len c s
    unfold splitC
    by_cases hb : b = c
    · rw [if_pos hb]; simp [hb, ih]
    · rw [if_neg hb, List.count_cons_of_ne hb, ← ih]
      have := splitC_ne c s
      cases h : splitC c s with
      | nil => exact absurd h this
      | cons => rfl
theorem strings_Split_one (s : Str) (c : UInt8) (h : s.length < 4294967281) : strings_Split s [c] = some (splitC c s) := by
  have hc : s.count c ≤ s.length := List.count_le_length
  unfold strings_Split
  rw [splitS_one, splitC_len]
  refine if_pos ⟨h, by simp, ?_, by omega⟩
  show _ = Lib.count s [c] + 1
  rw [Lib.count_one]
theorem splitC_mem (c : UInt8) (s : Str) : ∀ x ∈ splitC c s, c ∉ x ∧ x.length ≤ s.length := by
  induction s with
  | nil => intro x hx; simp [splitC] at hx; subst hx; simp
  | cons b s ih =>
    intro x hx
    unfold splitC at hx
    by_cases hb : b = c
    · rw [if_pos hb] at hx
      rcases List.mem_cons.1 hx with rfl | hx
      · simp
      · have := ih x hx; exact ⟨this.1, by simp; omega⟩
    · rw [if_neg hb] at hx
      cases h : splitC c s with
      | nil => exact absurd h (splitC_ne c s)
      | cons y ys =>
        rw [h] at hx ih
        rcases List.mem_cons.1 hx with rfl | hx
        · have := ih y (by simp)
          refine ⟨fun hm => ?_, by simp; omega⟩
          rcases List.mem_cons.1 hm with e | hm
          · exact hb e.symm
          · exact this.1 hm
        · have := ih x (List.mem_cons_of_mem _ hx); exact ⟨this.1, by simp; omega⟩
end Go.Proofs.YthlkidohpiebiaaDoor

