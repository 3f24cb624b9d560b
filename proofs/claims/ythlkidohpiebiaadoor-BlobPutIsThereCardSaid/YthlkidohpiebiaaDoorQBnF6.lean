/- A function that turns a row of its caller's where it lies, and gives nothing back: the caller's slice is the one it was. -/
import Derived.Test.YthlkidohpiebiaaDoorQBmD
import Derived.Shelf.SlSortCmp.WholeK
import Derived.Shelf.SlGeneric
import Derived.Shelf.SortM.Plain
import Derived.Shelf.SortM.SortNone
import Derived.Ground.SlgmProg
import Derived.Test.YthlkidohpiebiaaDoorProg
import Derived.Shelf.SlIter.Nil
import Derived.Ground.GgzProg
namespace Go.Proofs.YthlkidohpiebiaaDoor
set_option linter.unusedVariables false
set_option linter.unusedSimpArgs false
open Go Go.RowKit Go.Shelf
theorem Sound.ofRowKept {P : Program} {G : World → Prop} {B0 : Nat} {f : FuncId} {ps : List Sl} {e : TypeId} {t : Ty} {F : SV ps → List t.den → Option (List t.den)}
    (hcall : ∀ (args : Array Value) (w : World), (callFunc f args).run P w = .ok (.enter f args) w) (hz : 0 < t.sz)
    (h : ∀ (M : Nat → Nat → Prop) (w : World) (g : Gh) (v0 : Value) (vs : List Value) (x : SV ps) (xs zs : List t.den) (cs : List Value), G w → (∀ b o, M b o → b < w.heap.size) → (∀ b, v0.ownBlock = some b → ∀ o, M b o) →
      w.ownsRow 0 e t.sz v0 xs.length cs → Els M w t xs cs → All2 (RepD0 M w g) (lays id ps x) vs → F x xs = some zs →
      Calls P f (v0 :: vs).toArray w fun en w' => ∃ cs', en = .returned (.tuple #[]) ∧ ExtX (fun b => v0.ownBlock = some b) w w' ∧
        w'.ownsRow 0 e t.sz v0 zs.length cs' ∧ Els M w t zs cs') :
    Sound P G B0 f ⟨.row 0 :: ps, [.row e t true], [], [.row e t true, .none], List t.den, fun z => ((), (z, ((), ()))), fun x y => F x.2 y.1⟩ := by
  refine ⟨hcall, fun M w g vs0 x y zs hG hB hF hz' => ?_⟩
  obtain ⟨_, x⟩ := x
  obtain ⟨xs, _⟩ := y
  match vs0, hF.args with
  | v0 :: vs, ⟨h0, hA⟩ =>
    obtain ⟨gx, A, n, c, hg0, hv, hv2⟩ := h0
    obtain ⟨gx', hg', _, cs, hown, hblk, hlo, hels⟩ := hF.res 0 (.row e t true xs) rfl
    replace hg0 : g 0 = some gx := hg0
    rw [hg'] at hg0
    cases hg0
    have hlo : gx.lo = 0 := hlo
    rw [← hv] at hown hblk
    have hM : ∀ b, v0.ownBlock = some b → ∀ o, M b o := fun b hb o => (hF.chg 0 gx b o hg' (by rw [hblk]; exact hb)).2 (by rw [hlo]; exact Nat.zero_le _)
    have honly : ∀ r gy, g r = some gy → r = 0 := fun r gy hr => by have := hF.dom r gy hr; exact Nat.lt_one_iff.1 this
    have hX : ∀ b, Xof g b ↔ v0.ownBlock = some b := fun b => by
      constructor
      · rintro ⟨r, gy, hr, hb⟩
        obtain rfl := honly r gy hr
        rw [hg'] at hr; cases hr
        rw [← hblk]; exact hb
      · intro hb
        exact ⟨0, gx, hg', by rw [hblk]; exact hb⟩
    refine (h M w g v0 vs x xs zs cs hG hF.mlt hM hown hels hA hz').mono fun en w' hp => ?_
    obtain ⟨cs', he, hE, hown', hels'⟩ := hp
    have hblk' : ∀ b, v0.ownBlock = some b → v0.ownBlock = some b ∨ w.heap.size ≤ b := fun b h => .inl h
    obtain ⟨v', hv0⟩ : ∃ v', v' = v0 := ⟨v0, rfl⟩
    rw [← hv0] at hown'
    replace hblk' : ∀ b, v'.ownBlock = some b → v0.ownBlock = some b ∨ w.heap.size ≤ b := by rw [hv0]; exact hblk'
    obtain ⟨g', hgd⟩ : ∃ g' : Gh, g' = fun r => if r = 0 then some ⟨v'.ownBlock, 0, v'⟩ else none := ⟨_, rfl⟩
    have hg0' : g' 0 = some ⟨v'.ownBlock, 0, v'⟩ := by rw [hgd]; rfl
    have hgo : ∀ r gy, g' r = some gy → r = 0 ∧ gy = ⟨v'.ownBlock, 0, v'⟩ := fun r gy hr => by
      rw [hgd] at hr
      by_cases h0 : r = 0
      · subst h0; simp at hr; exact ⟨rfl, hr.symm⟩
      · simp [h0] at hr
    have hnew : ∀ b o, Mafter M g g' b o → (M b o ∧ v0.ownBlock ≠ some b) ∨ v'.ownBlock = some b := fun b o hm => by
      rcases hm with ⟨hm, hx⟩ | ⟨r, gy, hr, hb, _⟩
      · exact .inl ⟨hm, fun hb => hx ((hX b).2 hb)⟩
      · obtain ⟨_, rfl⟩ := hgo r gy hr
        exact .inr hb
    have hstep : Step M w (Mafter M g g') w' := by
      have key : ∀ b o, b < w.heap.size → ¬ M b o → w'.heap[b]? = w.heap[b]? ∧ ¬ Mafter M g g' b o := fun b o hb hm => by
        have hnb : v0.ownBlock ≠ some b := fun h => hm (hM b h o)
        refine ⟨hE.block b hb hnb, fun hm' => ?_⟩
        rcases hnew b o hm' with ⟨h1, _⟩ | h1
        · exact hm h1
        · rcases hblk' b h1 with h2 | h2
          · exact hnb h2
          · omega
      refine ⟨fun ad u hu hm => ?_, fun b es c hb hm => ?_⟩
      · have hlt : ad.block < w.heap.size := World.block_lt_of_cell? w _ hu
        obtain ⟨h1, h2⟩ := key ad.block ad.off hlt hm
        exact ⟨(cell_of_block h1).trans hu, h2⟩
      · obtain ⟨h1, h2⟩ := key b 0 (lt_of_map hb) hm
        exact ⟨h1.trans hb, h2⟩
    obtain ⟨A', c', hv', _⟩ := Row.of_own' hown'
    have hlow : ∀ b, v'.ownBlock = some b → B0 ≤ b ∧ b < w'.heap.size := fun b hb => by
      refine ⟨?_, own_lt hown' hb⟩
      rcases hblk' b hb with h1 | h1
      · exact (hF.low 0 gx b hg' (by rw [hblk]; exact h1)).1
      · omega
    have hrow : RepD0 (Mafter M g g') w' g' (.row 0) v' := ⟨_, A', _, c', hg0', rfl, hv'⟩
    refine ⟨[], g', ?_, ⟨hE.os, hE.tape, hE.output, hE.size, fun k hk hx => hE.block k hk fun hb => hx ((hX k).2 hb)⟩, hstep, ?_, fun r gy hr hbm => ?_, fun b hb => ?_⟩
    · rw [he]
      rfl
    · exact {
        args := trivial
        res := fun r blk hr => by
          cases r with
          | zero =>
            obtain rfl : Blk.row e t true zs = blk := Option.some.inj hr
            exact ⟨_, hg0', hz, cs', hown', rfl, rfl, fun i hi => RepC.step hstep _ _ _ (hels' i hi)⟩
          | succ r =>
            cases r with
            | zero => cases hr
            | succ r => cases hr
        dom := fun r gy hr => by obtain ⟨rfl, _⟩ := hgo r gy hr; exact Nat.zero_lt_two
        inj := fun r r' gy gy' b hr hr' _ _ => by obtain ⟨rfl, _⟩ := hgo r gy hr; obtain ⟨rfl, _⟩ := hgo r' gy' hr'; rfl
        low := fun r gy b hr hb => by obtain ⟨_, rfl⟩ := hgo r gy hr; exact hlow b hb
        chg := fun r gy b o hr hb => ⟨fun _ => by obtain ⟨_, rfl⟩ := hgo r gy hr; exact Nat.zero_le _, fun hle => .inr ⟨r, gy, hr, hb, hle⟩⟩
        mlt := fun b o hm => by
          rcases hnew b o hm with ⟨h1, _⟩ | h1
          · exact Nat.lt_of_lt_of_le (hF.mlt b o h1) hE.size
          · exact (hlow b h1).2
        row := fun r gy b hr hb h0 => by obtain ⟨_, rfl⟩ := hgo r gy hr; exact absurd h0 (Nat.lt_irrefl 0) }
    · obtain rfl := honly r gy hr
      rw [hg'] at hr; cases hr
      rw [hg0', hv0]
      obtain ⟨b1, l1, v1⟩ := gx
      dsimp only at hv hblk hlo
      subst hv hblk hlo
      rfl
    · obtain ⟨r, gy, hr, hb⟩ := hb
      obtain ⟨_, rfl⟩ := hgo r gy hr
      rcases hblk' b hb with h1 | h1
      · exact .inl ((hX b).2 h1)
      · exact .inr h1
end Go.Proofs.YthlkidohpiebiaaDoor


/- What the kit's worlds of a sort hold. -/
namespace Go.Proofs.YthlkidohpiebiaaDoor
set_option linter.unusedVariables false
set_option linter.unusedSimpArgs false
open Go Go.RowKit Go.Shelf
theorem sortW_block {α : Type} [Inhabited α] (enc : α → Value) {w : World} {n b : Nat} {d : Array α} {os : Array Obj} {cur : Array Value} {e : TypeId} {fz : Nat × Nat} (h : w.heap[b]? = some (.cells cur e fz)) :
    (Sort.grow (Sort.putRow enc (Sort.ahead w n) b 0 d) os).heap[b]? = some (.cells (Sort.putCells enc 0 d cur) e fz) := by
  have hb : b < w.heap.size := by
    apply Classical.byContradiction
    intro hn
    rw [Array.getElem?_eq_none (by omega)] at h
    cases h
  have hb2 : b < (w.heap.modify b (Sort.onCells (Sort.putCells enc 0 d))).size := by rw [Array.size_modify]; exact hb
  show (w.heap.modify b (Sort.onCells (Sort.putCells enc 0 d)) ++ os)[b]? = _
  rw [Array.getElem?_append_left hb2, Array.getElem?_modify, if_pos rfl, h]
  rfl
theorem sortW_ext {α : Type} [Inhabited α] (enc : α → Value) {w : World} {n b : Nat} {d : Array α} {os : Array Obj} : ExtX (fun k => b = k) w (Sort.grow (Sort.putRow enc (Sort.ahead w n) b 0 d) os) := by
  refine ⟨rfl, rfl, rfl, ?_, fun k hk hx => ?_⟩
  · show w.heap.size ≤ (w.heap.modify b (Sort.onCells (Sort.putCells enc 0 d)) ++ os).size
    rw [Array.size_append, Array.size_modify]; omega
  · have hb2 : k < (w.heap.modify b (Sort.onCells (Sort.putCells enc 0 d))).size := by rw [Array.size_modify]; exact hk
    show (w.heap.modify b (Sort.onCells (Sort.putCells enc 0 d)) ++ os)[k]? = _
    rw [Array.getElem?_append_left hb2, Array.getElem?_modify, if_neg hx]
theorem putCells_size {α : Type} [Inhabited α] (enc : α → Value) (d : Array α) (cur : Array Value) : (Sort.putCells enc 0 d cur).size = cur.size := by
  unfold Sort.putCells; simp
theorem putCells_take {α : Type} [Inhabited α] (enc : α → Value) (zs : List α) (cur : Array Value) (h : zs.length ≤ cur.size) : (Sort.putCells enc 0 zs.toArray cur).toList.take zs.length = zs.map enc := by
  apply List.ext_getElem
  · have e : (Sort.putCells enc 0 zs.toArray cur).toList.length = cur.size := by
      rw [Array.length_toList]; exact putCells_size _ _ _
    rw [List.length_take, List.length_map, e]; omega
  · intro k h1 h2
    rw [List.length_map] at h2
    rw [List.getElem_take, Array.getElem_toList, List.getElem_map]
    unfold Sort.putCells
    rw [Array.getElem_mapIdx, if_pos ⟨Nat.zero_le _, by simpa using h2⟩]
    simp [h2]
end Go.Proofs.YthlkidohpiebiaaDoor


/-
  DERIVED: THE SHELF's CONTRACTS AT THIS DUMP, IN PLAIN WORDS (tools/lay-plain.mjs out of 'TrydShelfS.lean', which tools/lay-shelf.mjs wrote): THE SAME DECLARATIONS UNDER THE SAME NAMES: 'import', 'namespace', 'open', 'def', 'theorem' AND NOTHING ELSE: no command of the shelf's: FOR A HAND-IN. Each laying: the table of numbers ('.._ren') and one theorem, a field a fact of the dump's own or the kernel's comparison; each contract: ONE APPLICATION.
-/
namespace Go.Proofs
open Go.Shelf
end Go.Proofs


/- slices.Sort of strings, out of the kit's contract: it turns a row of its caller's. -/
namespace Go.Proofs.YthlkidohpiebiaaDoor
set_option linter.unusedVariables false
set_option linter.unusedSimpArgs false
open Go Go.RowKit Go.Shelf
end Go.Proofs.YthlkidohpiebiaaDoor



/-
  DERIVED: THE SHELF's CONTRACTS AT THIS DUMP, IN PLAIN WORDS (tools/lay-plain.mjs out of 'TrydShelfK.lean', which tools/lay-shelf.mjs wrote): THE SAME DECLARATIONS UNDER THE SAME NAMES: 'import', 'namespace', 'open', 'def', 'theorem' AND NOTHING ELSE: no command of the shelf's: FOR A HAND-IN. Each laying: the table of numbers ('.._ren') and one theorem, a field a fact of the dump's own or the kernel's comparison; each contract: ONE APPLICATION.
-/
namespace Go.Proofs
open Go.Shelf
end Go.Proofs


/- The keys of a map of the caller's, in order: maps.Keys and slices.Sorted, out of the kit's contracts. -/
namespace Go.Proofs.YthlkidohpiebiaaDoor
set_option linter.unusedVariables false
set_option linter.unusedSimpArgs false
open Go Go.RowKit Go.Shelf Go.Maps Go.Sort
end Go.Proofs.YthlkidohpiebiaaDoor



/- What functions of the program compute, as plain functions (printed). -/
namespace Go.Proofs.YthlkidohpiebiaaDoor
open Go Go.RowKit
set_option maxRecDepth 100000
set_option linter.unusedVariables false
noncomputable section
end
end Go.Proofs.YthlkidohpiebiaaDoor


/- What functions of the program compute, as plain functions (printed). -/
namespace Go.Proofs.YthlkidohpiebiaaDoor
open Go Go.RowKit
set_option maxRecDepth 100000
set_option linter.unusedVariables false
noncomputable section
def bytes_Equal (_N : Nat) (x0 : List UInt8) (x1 : List UInt8) : Option Bool :=
  some (x0 == x1)
abbrev bytes_Equal_sg (f : SV [.v (.sl .u8), .v (.sl .u8)] → BV [] → Option (Bool)) : AF := { ps := [.v (.sl .u8), .v (.sl .u8)], bs := [], rs := [.v .bool], cs := [], R := Bool, out := fun z => ((z, ()), ()), f := f }
abbrev bytes_Equal_pk : SV [.v .bool] → BV [] → Bool := fun x _ => x.1
def bytes_Equal_fn (_N : Nat) : FuncId → Option Tmp → Option AF := fun f _ =>
  match f with
    | _ => none
theorem bytes_Equal_fn_ok (N : Nat) : ∀ f q F, bytes_Equal_fn N f q = some F → Sound Tryd.prog GW B0G f F := by
  intro f q F h
  unfold bytes_Equal_fn at h
  split at h
  · cases h
def bytes_Equal_h : Nat → Hint := fun i =>
  match i with
  | _ => ⟨[], [], [], [], [], []⟩
abbrev bytes_Equal_E (N : Nat) : Env := mkE bytes_Equal_h (bytes_Equal_fn N) (fun _ => false) (fun _ => false)
noncomputable def bytes_Equal_LP (N : Nat) : Nat → Code → St → (Ex → St → Option Bool) → Option Bool := fun i c =>
  match i with
  | i => fun st k => iter (bytes_Equal_h i) (exec (bytes_Equal_E N) N c i) N st k
theorem bytes_Equal_core (N : Nat) (x : SV [.v (.sl .u8), .v (.sl .u8)]) (y : BV []) : runL (bytes_Equal_E N) Tryd.f57 (bytes_Equal_sg fun x _ => bytes_Equal N x.1 x.2.1) bytes_Equal_pk (bytes_Equal_LP N) x y = bytes_Equal N x.1 x.2.1 := by kernel_rfl
theorem bytes_Equal_sound (N : Nat) : Sound Tryd.prog GW B0G 57 (bytes_Equal_sg fun x _ => bytes_Equal N x.1 x.2.1) :=
  runD_sound (mkE_ok bytes_Equal_h (bytes_Equal_fn N) _ _ (bytes_Equal_fn_ok N)) Tryd.func57 rfl Tryd.call57 (bytes_Equal_sg fun x _ => bytes_Equal N x.1 x.2.1) bytes_Equal_pk (fun _ _ => rfl) N (fun x y _ h => ((runL_eq (bytes_Equal_E N) N Tryd.f57 (bytes_Equal_sg fun x _ => bytes_Equal N x.1 x.2.1) bytes_Equal_pk (bytes_Equal_LP N) (show LoopsOk (bytes_Equal_LP N) (bytes_Equal_E N) N (resD (bytes_Equal_E N) Tryd.f57 (bytes_Equal_sg fun x _ => bytes_Equal N x.1 x.2.1) bytes_Equal_pk) [] from trivial) x y).trans (bytes_Equal_core N x y)).trans h)
def ref1_SameFile (N : Nat) (x0 : Str × Bool × List UInt8) (x1 : Str × Bool × List UInt8) : Option Bool :=
  br (x0.1 == x1.1)
    (br (x0.2.1 == x1.2.1)
      (bnd (bytes_Equal N x0.2.2 x1.2.2) fun t22 =>
      some t22)
      (some false))
    (some false)
abbrev ref1_SameFile_sg (f : SV [.v (.pr .str (.pr .bool (.sl .u8))), .v (.pr .str (.pr .bool (.sl .u8)))] → BV [] → Option (Bool)) : AF := { ps := [.v (.pr .str (.pr .bool (.sl .u8))), .v (.pr .str (.pr .bool (.sl .u8)))], bs := [], rs := [.v .bool], cs := [], R := Bool, out := fun z => ((z, ()), ()), f := f }
abbrev ref1_SameFile_pk : SV [.v .bool] → BV [] → Bool := fun x _ => x.1
def ref1_SameFile_fn (N : Nat) : FuncId → Option Tmp → Option AF := fun f _ =>
  match f with
    | 57 => some (bytes_Equal_sg fun x _ => bytes_Equal N x.1 x.2.1)
    | _ => none
theorem ref1_SameFile_fn_ok (N : Nat) : ∀ f q F, ref1_SameFile_fn N f q = some F → Sound Tryd.prog GW B0G f F := by
  intro f q F h
  unfold ref1_SameFile_fn at h
  split at h
  · cases h; exact bytes_Equal_sound N
  · cases h
def ref1_SameFile_h : Nat → Hint := fun i =>
  match i with
  | _ => ⟨[], [], [], [], [], []⟩
abbrev ref1_SameFile_E (N : Nat) : Env := mkE ref1_SameFile_h (ref1_SameFile_fn N) (fun _ => false) (fun _ => false)
noncomputable def ref1_SameFile_LP (N : Nat) : Nat → Code → St → (Ex → St → Option Bool) → Option Bool := fun i c =>
  match i with
  | i => fun st k => iter (ref1_SameFile_h i) (exec (ref1_SameFile_E N) N c i) N st k
theorem ref1_SameFile_core (N : Nat) (x : SV [.v (.pr .str (.pr .bool (.sl .u8))), .v (.pr .str (.pr .bool (.sl .u8)))]) (y : BV []) : runL (ref1_SameFile_E N) Tryd.f54 (ref1_SameFile_sg fun x _ => ref1_SameFile N x.1 x.2.1) ref1_SameFile_pk (ref1_SameFile_LP N) x y = ref1_SameFile N x.1 x.2.1 := by kernel_rfl
theorem ref1_SameFile_sound (N : Nat) : Sound Tryd.prog GW B0G 54 (ref1_SameFile_sg fun x _ => ref1_SameFile N x.1 x.2.1) :=
  runD_sound (mkE_ok ref1_SameFile_h (ref1_SameFile_fn N) _ _ (ref1_SameFile_fn_ok N)) Tryd.func54 rfl Tryd.call54 (ref1_SameFile_sg fun x _ => ref1_SameFile N x.1 x.2.1) ref1_SameFile_pk (fun _ _ => rfl) N (fun x y _ h => ((runL_eq (ref1_SameFile_E N) N Tryd.f54 (ref1_SameFile_sg fun x _ => ref1_SameFile N x.1 x.2.1) ref1_SameFile_pk (ref1_SameFile_LP N) (show LoopsOk (ref1_SameFile_LP N) (ref1_SameFile_E N) N (resD (ref1_SameFile_E N) Tryd.f54 (ref1_SameFile_sg fun x _ => ref1_SameFile N x.1 x.2.1) ref1_SameFile_pk) [] from trivial) x y).trans (ref1_SameFile_core N x y)).trans h)
def ref1_SameFiles_L0T (N : Nat) (x0 : List (Str × Bool × List UInt8)) (x1 : List (Str × Bool × List UInt8)) (k0 : Option Bool) (self : Int → Option Bool) (s5 : Int) : Option Bool :=
  br (decide (s5 < (x0.length : Int)))
    (bnd (geti x0 s5) fun t19 =>
    bnd (geti x1 s5) fun t23 =>
    bnd (ref1_SameFile N t19 t23) fun t25 =>
    br (!t25)
      (some false)
      (self (IntKind.i64.wrap (s5 + (1 : Int)))))
    (k0)
def ref1_SameFiles_L0 (N : Nat) (x0 : List (Str × Bool × List UInt8)) (x1 : List (Str × Bool × List UInt8)) (k0 : Option Bool) : Nat → Int → Option Bool
  | 0, _ => none
  | n + 1, s5 => ref1_SameFiles_L0T N x0 x1 k0 (ref1_SameFiles_L0 N x0 x1 k0 n) s5
def ref1_SameFiles (N : Nat) (x0 : List (Str × Bool × List UInt8)) (x1 : List (Str × Bool × List UInt8)) : Option Bool :=
  br ((x0.length : Int) != (x1.length : Int))
    (some false)
    (ref1_SameFiles_L0 N x0 x1 (some true) N (0 : Int))
abbrev ref1_SameFiles_sg (f : SV [.v (.sl (.pr .str (.pr .bool (.sl .u8)))), .v (.sl (.pr .str (.pr .bool (.sl .u8))))] → BV [] → Option (Bool)) : AF := { ps := [.v (.sl (.pr .str (.pr .bool (.sl .u8)))), .v (.sl (.pr .str (.pr .bool (.sl .u8))))], bs := [], rs := [.v .bool], cs := [], R := Bool, out := fun z => ((z, ()), ()), f := f }
abbrev ref1_SameFiles_pk : SV [.v .bool] → BV [] → Bool := fun x _ => x.1
def ref1_SameFiles_fn (N : Nat) : FuncId → Option Tmp → Option AF := fun f _ =>
  match f with
    | 54 => some (ref1_SameFile_sg fun x _ => ref1_SameFile N x.1 x.2.1)
    | _ => none
theorem ref1_SameFiles_fn_ok (N : Nat) : ∀ f q F, ref1_SameFiles_fn N f q = some F → Sound Tryd.prog GW B0G f F := by
  intro f q F h
  unfold ref1_SameFiles_fn at h
  split at h
  · cases h; exact ref1_SameFile_sound N
  · cases h
def ref1_SameFiles_h : Nat → Hint := fun i =>
  match i with
  | 0 => ⟨[], [0, 1, 5], [], [], [], []⟩
  | _ => ⟨[], [], [], [], [], []⟩
abbrev ref1_SameFiles_E (N : Nat) : Env := mkE ref1_SameFiles_h (ref1_SameFiles_fn N) (fun _ => false) (fun _ => false)
abbrev ref1_SameFiles_L0_fs : List (Nat × Sl) := [(0, .v (.sl (.pr .str (.pr .bool (.sl .u8))))), (1, .v (.sl (.pr .str (.pr .bool (.sl .u8))))), (5, .v (.int .i64))]
abbrev ref1_SameFiles_L0_bs : List (Nat × Sb) := []
def ref1_SameFiles_L0_hd (x0 : List (Str × Bool × List UInt8)) (x1 : List (Str × Bool × List UInt8)) (s5 : Int) : St := ⟨27, [(0, .v (.sl (.pr .str (.pr .bool (.sl .u8)))) x0), (1, .v (.sl (.pr .str (.pr .bool (.sl .u8)))) x1), (5, .v (.int .i64) s5)], []⟩
def ref1_SameFiles_L0_tl0 (_x0 : List (Str × Bool × List UInt8)) (_x1 : List (Str × Bool × List UInt8)) : St := ⟨27, [], []⟩
def ref1_SameFiles_L0_G (N : Nat) (x0 : List (Str × Bool × List UInt8)) (x1 : List (Str × Bool × List UInt8)) (s5 : Int) (k : Ex → St → Option Bool) : Option Bool :=
  ref1_SameFiles_L0 N x0 x1 (k (.exit 0) (ref1_SameFiles_L0_tl0 x0 x1)) N s5
abbrev ref1_SameFiles_L0_F (N : Nat) : FV ref1_SameFiles_L0_fs → HV ref1_SameFiles_L0_bs → (Ex → St → Option Bool) → Option Bool := fun x _ k => ref1_SameFiles_L0_G N x.1 x.2.1 x.2.2.1 k
noncomputable def ref1_SameFiles_LP (N : Nat) : Nat → Code → St → (Ex → St → Option Bool) → Option Bool := fun i c =>
  match i with
  | 0 => (LPc 27 ref1_SameFiles_L0_fs ref1_SameFiles_L0_bs (ref1_SameFiles_L0_F N) (fun st k => iter (ref1_SameFiles_h 0) (exec (ref1_SameFiles_E N) N c 0) N st k))
  | i => fun st k => iter (ref1_SameFiles_h i) (exec (ref1_SameFiles_E N) N c i) N st k
theorem ref1_SameFiles_L0_step (N : Nat) (x0 : List (Str × Bool × List UInt8)) (x1 : List (Str × Bool × List UInt8)) (KX : Nat → St → Option Bool) (I : St → Option Bool) (s5 : Int) :
    execL (ref1_SameFiles_LP N) (ref1_SameFiles_E N) (cAt (bodyOf Tryd.f23) [true, true, false, true, false, false]) 0 (ref1_SameFiles_L0_hd x0 x1 s5) (roundK (ref1_SameFiles_h 0) I KX (resD (ref1_SameFiles_E N) Tryd.f23 (ref1_SameFiles_sg fun x _ => ref1_SameFiles N x.1 x.2.1) ref1_SameFiles_pk)) = ref1_SameFiles_L0T N x0 x1 (KX 0 (ref1_SameFiles_L0_tl0 x0 x1)) (fun s5 => I (ref1_SameFiles_L0_hd x0 x1 s5)) s5 := by kernel_rfl
theorem ref1_SameFiles_L0_ok (N : Nat) : ∀ x y k, (∀ st, k .ret st = (resD (ref1_SameFiles_E N) Tryd.f23 (ref1_SameFiles_sg fun x _ => ref1_SameFiles N x.1 x.2.1) ref1_SameFiles_pk) st) → iter (ref1_SameFiles_h 0) (exec (ref1_SameFiles_E N) N (cAt (bodyOf Tryd.f23) [true, true, false, true, false, false]) 0) N ⟨27, unF ref1_SameFiles_L0_fs x, unH ref1_SameFiles_L0_bs y⟩ k = ref1_SameFiles_L0_F N x y k := fun x _ k hk =>
  iter_link (S := (Int) × Unit) (ref1_SameFiles_h 0) _ (execL (ref1_SameFiles_LP N) (ref1_SameFiles_E N) (cAt (bodyOf Tryd.f23) [true, true, false, true, false, false]) 0) (resD (ref1_SameFiles_E N) Tryd.f23 (ref1_SameFiles_sg fun x _ => ref1_SameFiles N x.1 x.2.1) ref1_SameFiles_pk) (fun st k hk => execL_eq _ _ N _ (cAt (bodyOf Tryd.f23) [true, true, false, true, false, false]) 0 (show LoopsOk (ref1_SameFiles_LP N) (ref1_SameFiles_E N) N (resD (ref1_SameFiles_E N) Tryd.f23 (ref1_SameFiles_sg fun x _ => ref1_SameFiles N x.1 x.2.1) ref1_SameFiles_pk) [] from trivial) st k hk) (fun s => ref1_SameFiles_L0_hd x.1 x.2.1 s.1) k hk
    (fun self s => ref1_SameFiles_L0T N x.1 x.2.1 (k (.exit 0) (ref1_SameFiles_L0_tl0 x.1 x.2.1)) (fun s5 => self (s5, ())) s.1) (fun n s => ref1_SameFiles_L0 N x.1 x.2.1 (k (.exit 0) (ref1_SameFiles_L0_tl0 x.1 x.2.1)) n s.1) (fun _ => rfl) (fun _ _ => rfl)
    (fun I s => ref1_SameFiles_L0_step N x.1 x.2.1 (fun j => k (.exit j)) I s.1) N (x.2.2.1, ())
theorem ref1_SameFiles_lp0 (N : Nat) : ∀ st k, (∀ st, k .ret st = (resD (ref1_SameFiles_E N) Tryd.f23 (ref1_SameFiles_sg fun x _ => ref1_SameFiles N x.1 x.2.1) ref1_SameFiles_pk) st) → ref1_SameFiles_LP N 0 (cAt (bodyOf Tryd.f23) [true, true, false, true, false, false]) st k = iter (Env.hint (ref1_SameFiles_E N) 0) (exec (ref1_SameFiles_E N) N (cAt (bodyOf Tryd.f23) [true, true, false, true, false, false]) 0) N st k := fun st k hk => LPc_eq 27 ref1_SameFiles_L0_fs ref1_SameFiles_L0_bs _ _ (resD (ref1_SameFiles_E N) Tryd.f23 (ref1_SameFiles_sg fun x _ => ref1_SameFiles N x.1 x.2.1) ref1_SameFiles_pk) (ref1_SameFiles_L0_ok N) _ st k hk (rfl)
theorem ref1_SameFiles_core (N : Nat) (x : SV [.v (.sl (.pr .str (.pr .bool (.sl .u8)))), .v (.sl (.pr .str (.pr .bool (.sl .u8))))]) (y : BV []) : runL (ref1_SameFiles_E N) Tryd.f23 (ref1_SameFiles_sg fun x _ => ref1_SameFiles N x.1 x.2.1) ref1_SameFiles_pk (ref1_SameFiles_LP N) x y = ref1_SameFiles N x.1 x.2.1 := by kernel_rfl
theorem ref1_SameFiles_sound (N : Nat) : Sound Tryd.prog GW B0G 23 (ref1_SameFiles_sg fun x _ => ref1_SameFiles N x.1 x.2.1) :=
  runD_sound (mkE_ok ref1_SameFiles_h (ref1_SameFiles_fn N) _ _ (ref1_SameFiles_fn_ok N)) Tryd.func23 rfl Tryd.call23 (ref1_SameFiles_sg fun x _ => ref1_SameFiles N x.1 x.2.1) ref1_SameFiles_pk (fun _ _ => rfl) N (fun x y _ h => ((runL_eq (ref1_SameFiles_E N) N Tryd.f23 (ref1_SameFiles_sg fun x _ => ref1_SameFiles N x.1 x.2.1) ref1_SameFiles_pk (ref1_SameFiles_LP N) (show LoopsOk (ref1_SameFiles_LP N) (ref1_SameFiles_E N) N (resD (ref1_SameFiles_E N) Tryd.f23 (ref1_SameFiles_sg fun x _ => ref1_SameFiles N x.1 x.2.1) ref1_SameFiles_pk) [(0, (cAt (bodyOf Tryd.f23) [true, true, false, true, false, false]))] from ⟨ref1_SameFiles_lp0 N, trivial⟩) x y).trans (ref1_SameFiles_core N x y)).trans h)
end
end Go.Proofs.YthlkidohpiebiaaDoor


/- What functions of the program compute, as plain functions (printed). -/
namespace Go.Proofs.YthlkidohpiebiaaDoor
open Go Go.RowKit
set_option maxRecDepth 100000
set_option linter.unusedVariables false
noncomputable section
def slices_Clone_api_File (_N : Nat) (x0 : List (Str × Bool × List UInt8)) : Option (List (Str × Bool × List UInt8)) :=
  br ((x0).isEmpty)
    (both
      (some ([] : List (Str × Bool × List UInt8)))
      (br (decide ((([] : List (Str × Bool × List UInt8)).length + x0.length) * (24 * Ty.sz (.pr .str (.pr .bool (.sl .u8)))) ≤ 140737488355328))
        (some (([] : List (Str × Bool × List UInt8)) ++ x0))
        none))
    (br (decide ((([] : List (Str × Bool × List UInt8)).length + x0.length) * (24 * Ty.sz (.pr .str (.pr .bool (.sl .u8)))) ≤ 140737488355328))
      (some (([] : List (Str × Bool × List UInt8)) ++ x0))
      none)
abbrev slices_Clone_api_File_sg (f : SV [.v (.sl (.pr .str (.pr .bool (.sl .u8))))] → BV [] → Option (List (Str × Bool × List UInt8))) : AF := { ps := [.v (.sl (.pr .str (.pr .bool (.sl .u8))))], bs := [], rs := [.row 0], cs := [.row 34 (.pr .str (.pr .bool (.sl .u8))) true], R := List (Str × Bool × List UInt8), out := fun z => (((), ()), (z, ())), f := f }
abbrev slices_Clone_api_File_pk : SV [.row 0] → BV [.row 34 (.pr .str (.pr .bool (.sl .u8))) true] → (List (Str × Bool × List UInt8)) := fun _ y => y.1
def slices_Clone_api_File_fn (_N : Nat) : FuncId → Option Tmp → Option AF := fun f _ =>
  match f with
    | _ => none
theorem slices_Clone_api_File_fn_ok (N : Nat) : ∀ f q F, slices_Clone_api_File_fn N f q = some F → Sound Tryd.prog GW B0G f F := by
  intro f q F h
  unfold slices_Clone_api_File_fn at h
  split at h
  · cases h
def slices_Clone_api_File_h : Nat → Hint := fun i =>
  match i with
  | _ => ⟨[], [], [], [], [], []⟩
abbrev slices_Clone_api_File_E (N : Nat) : Env := mkE slices_Clone_api_File_h (slices_Clone_api_File_fn N) (fun i => match i with | 2 => true | 5 => true | _ => false) (fun _ => false)
noncomputable def slices_Clone_api_File_LP (N : Nat) : Nat → Code → St → (Ex → St → Option (List (Str × Bool × List UInt8))) → Option (List (Str × Bool × List UInt8)) := fun i c =>
  match i with
  | i => fun st k => iter (slices_Clone_api_File_h i) (exec (slices_Clone_api_File_E N) N c i) N st k
theorem slices_Clone_api_File_core (N : Nat) (x : SV [.v (.sl (.pr .str (.pr .bool (.sl .u8))))]) (y : BV []) : runL (slices_Clone_api_File_E N) Tryd.f94 (slices_Clone_api_File_sg fun x _ => slices_Clone_api_File N x.1) slices_Clone_api_File_pk (slices_Clone_api_File_LP N) x y = slices_Clone_api_File N x.1 := by kernel_rfl
theorem slices_Clone_api_File_sound (N : Nat) : Sound Tryd.prog GW B0G 94 (slices_Clone_api_File_sg fun x _ => slices_Clone_api_File N x.1) :=
  runD_sound (mkE_ok slices_Clone_api_File_h (slices_Clone_api_File_fn N) _ _ (slices_Clone_api_File_fn_ok N)) Tryd.func94 rfl Tryd.call94 (slices_Clone_api_File_sg fun x _ => slices_Clone_api_File N x.1) slices_Clone_api_File_pk (fun _ _ => rfl) N (fun x y _ h => ((runL_eq (slices_Clone_api_File_E N) N Tryd.f94 (slices_Clone_api_File_sg fun x _ => slices_Clone_api_File N x.1) slices_Clone_api_File_pk (slices_Clone_api_File_LP N) (show LoopsOk (slices_Clone_api_File_LP N) (slices_Clone_api_File_E N) N (resD (slices_Clone_api_File_E N) Tryd.f94 (slices_Clone_api_File_sg fun x _ => slices_Clone_api_File N x.1) slices_Clone_api_File_pk) [] from trivial) x y).trans (slices_Clone_api_File_core N x y)).trans h)
def slices_Clone_byte_byte (_N : Nat) (x0 : List UInt8) : Option (List UInt8) :=
  br ((x0).isEmpty)
    (both
      (some ([] : List UInt8))
      (br (decide ((([] : List UInt8).length + x0.length) * (24 * Ty.sz .u8) ≤ 140737488355328))
        (some (([] : List UInt8) ++ x0))
        none))
    (br (decide ((([] : List UInt8).length + x0.length) * (24 * Ty.sz .u8) ≤ 140737488355328))
      (some (([] : List UInt8) ++ x0))
      none)
abbrev slices_Clone_byte_byte_sg (f : SV [.v (.sl .u8)] → BV [] → Option (List UInt8)) : AF := { ps := [.v (.sl .u8)], bs := [], rs := [.row 0], cs := [.row 5 .u8 true], R := List UInt8, out := fun z => (((), ()), (z, ())), f := f }
abbrev slices_Clone_byte_byte_pk : SV [.row 0] → BV [.row 5 .u8 true] → (List UInt8) := fun _ y => y.1
def slices_Clone_byte_byte_fn (_N : Nat) : FuncId → Option Tmp → Option AF := fun f _ =>
  match f with
    | _ => none
theorem slices_Clone_byte_byte_fn_ok (N : Nat) : ∀ f q F, slices_Clone_byte_byte_fn N f q = some F → Sound Tryd.prog GW B0G f F := by
  intro f q F h
  unfold slices_Clone_byte_byte_fn at h
  split at h
  · cases h
def slices_Clone_byte_byte_h : Nat → Hint := fun i =>
  match i with
  | _ => ⟨[], [], [], [], [], []⟩
abbrev slices_Clone_byte_byte_E (N : Nat) : Env := mkE slices_Clone_byte_byte_h (slices_Clone_byte_byte_fn N) (fun i => match i with | 2 => true | 5 => true | _ => false) (fun _ => false)
noncomputable def slices_Clone_byte_byte_LP (N : Nat) : Nat → Code → St → (Ex → St → Option (List UInt8)) → Option (List UInt8) := fun i c =>
  match i with
  | i => fun st k => iter (slices_Clone_byte_byte_h i) (exec (slices_Clone_byte_byte_E N) N c i) N st k
theorem slices_Clone_byte_byte_core (N : Nat) (x : SV [.v (.sl .u8)]) (y : BV []) : runL (slices_Clone_byte_byte_E N) Tryd.f95 (slices_Clone_byte_byte_sg fun x _ => slices_Clone_byte_byte N x.1) slices_Clone_byte_byte_pk (slices_Clone_byte_byte_LP N) x y = slices_Clone_byte_byte N x.1 := by kernel_rfl
theorem slices_Clone_byte_byte_sound (N : Nat) : Sound Tryd.prog GW B0G 95 (slices_Clone_byte_byte_sg fun x _ => slices_Clone_byte_byte N x.1) :=
  runD_sound (mkE_ok slices_Clone_byte_byte_h (slices_Clone_byte_byte_fn N) _ _ (slices_Clone_byte_byte_fn_ok N)) Tryd.func95 rfl Tryd.call95 (slices_Clone_byte_byte_sg fun x _ => slices_Clone_byte_byte N x.1) slices_Clone_byte_byte_pk (fun _ _ => rfl) N (fun x y _ h => ((runL_eq (slices_Clone_byte_byte_E N) N Tryd.f95 (slices_Clone_byte_byte_sg fun x _ => slices_Clone_byte_byte N x.1) slices_Clone_byte_byte_pk (slices_Clone_byte_byte_LP N) (show LoopsOk (slices_Clone_byte_byte_LP N) (slices_Clone_byte_byte_E N) N (resD (slices_Clone_byte_byte_E N) Tryd.f95 (slices_Clone_byte_byte_sg fun x _ => slices_Clone_byte_byte N x.1) slices_Clone_byte_byte_pk) [] from trivial) x y).trans (slices_Clone_byte_byte_core N x y)).trans h)
def blob_Own_L0T (N : Nat) (c8 : Int) (k0 : (List (Str × Bool × List UInt8)) → Option (List (Str × Bool × List UInt8))) (self : Int → (List (Str × Bool × List UInt8)) → Option (List (Str × Bool × List UInt8))) (s9 : Int) (w100600 : List (Str × Bool × List UInt8)) : Option (List (Str × Bool × List UInt8)) :=
  br (decide (s9 < c8))
    (br (decide (0 ≤ s9 ∧ s9 < (w100600.length : Int)))
      (bnd (geti w100600 s9) fun t18 =>
      bnd (slices_Clone_byte_byte N t18.2.2) fun t19 =>
      br (decide (0 ≤ s9 ∧ s9 < (w100600.length : Int)))
        (bnd (geti w100600 s9) fun u =>
        self (IntKind.i64.wrap (s9 + (1 : Int))) (seti w100600 s9 (u.1, (u.2.1, t19))))
        none)
      none)
    (k0 w100600)
def blob_Own_L0 (N : Nat) (c8 : Int) (k0 : (List (Str × Bool × List UInt8)) → Option (List (Str × Bool × List UInt8))) : Nat → Int → (List (Str × Bool × List UInt8)) → Option (List (Str × Bool × List UInt8))
  | 0, _, _ => none
  | n + 1, s9, w100600 => blob_Own_L0T N c8 k0 (blob_Own_L0 N c8 k0 n) s9 w100600
def blob_Own (N : Nat) (x0 : List (Str × Bool × List UInt8)) : Option (List (Str × Bool × List UInt8)) :=
  bnd (slices_Clone_api_File N x0) fun t6 =>
  blob_Own_L0 N (t6.length : Int) (fun o0_w100600 =>
      some o0_w100600) N (0 : Int) t6
abbrev blob_Own_sg (f : SV [.v (.sl (.pr .str (.pr .bool (.sl .u8))))] → BV [] → Option (List (Str × Bool × List UInt8))) : AF := { ps := [.v (.sl (.pr .str (.pr .bool (.sl .u8))))], bs := [], rs := [.row 0], cs := [.row 34 (.pr .str (.pr .bool (.sl .u8))) true], R := List (Str × Bool × List UInt8), out := fun z => (((), ()), (z, ())), f := f }
abbrev blob_Own_pk : SV [.row 0] → BV [.row 34 (.pr .str (.pr .bool (.sl .u8))) true] → (List (Str × Bool × List UInt8)) := fun _ y => y.1
def blob_Own_fn (N : Nat) : FuncId → Option Tmp → Option AF := fun f _ =>
  match f with
    | 94 => some (slices_Clone_api_File_sg fun x _ => slices_Clone_api_File N x.1)
    | 95 => some (slices_Clone_byte_byte_sg fun x _ => slices_Clone_byte_byte N x.1)
    | _ => none
theorem blob_Own_fn_ok (N : Nat) : ∀ f q F, blob_Own_fn N f q = some F → Sound Tryd.prog GW B0G f F := by
  intro f q F h
  unfold blob_Own_fn at h
  split at h
  · cases h; exact slices_Clone_api_File_sound N
  · cases h; exact slices_Clone_byte_byte_sound N
  · cases h
def blob_Own_h : Nat → Hint := fun i =>
  match i with
  | 0 => ⟨[], [3, 8, 9], [100600], [3], [100600], []⟩
  | _ => ⟨[], [], [], [], [], []⟩
abbrev blob_Own_E (N : Nat) : Env := mkE blob_Own_h (blob_Own_fn N) (fun _ => false) (fun _ => false)
abbrev blob_Own_L0_fs : List (Nat × Sl) := [(3, .row 100600), (8, .v (.int .i64)), (9, .v (.int .i64))]
abbrev blob_Own_L0_bs : List (Nat × Sb) := [(100600, .row 34 (.pr .str (.pr .bool (.sl .u8))) true)]
def blob_Own_L0_hd (c8 : Int) (s9 : Int) (w100600 : List (Str × Bool × List UInt8)) : St := ⟨24, [(3, .row 100600), (8, .v (.int .i64) c8), (9, .v (.int .i64) s9)], [(100600, .row 34 (.pr .str (.pr .bool (.sl .u8))) true w100600)]⟩
def blob_Own_L0_tl0 (_c8 : Int) (o0_w100600 : List (Str × Bool × List UInt8)) : St := ⟨24, [(3, .row 100600)], [(100600, .row 34 (.pr .str (.pr .bool (.sl .u8))) true o0_w100600)]⟩
def blob_Own_L0_G (N : Nat) (c8 : Int) (s9 : Int) (w100600 : List (Str × Bool × List UInt8)) (k : Ex → St → Option (List (Str × Bool × List UInt8))) : Option (List (Str × Bool × List UInt8)) :=
  blob_Own_L0 N c8 (fun o0_w100600 => k (.exit 0) (blob_Own_L0_tl0 c8 o0_w100600)) N s9 w100600
abbrev blob_Own_L0_F (N : Nat) : FV blob_Own_L0_fs → HV blob_Own_L0_bs → (Ex → St → Option (List (Str × Bool × List UInt8))) → Option (List (Str × Bool × List UInt8)) := fun x y k => blob_Own_L0_G N x.2.1 x.2.2.1 y.1 k
noncomputable def blob_Own_LP (N : Nat) : Nat → Code → St → (Ex → St → Option (List (Str × Bool × List UInt8))) → Option (List (Str × Bool × List UInt8)) := fun i c =>
  match i with
  | 0 => (LPc 24 blob_Own_L0_fs blob_Own_L0_bs (blob_Own_L0_F N) (fun st k => iter (blob_Own_h 0) (exec (blob_Own_E N) N c 0) N st k))
  | i => fun st k => iter (blob_Own_h i) (exec (blob_Own_E N) N c i) N st k
theorem blob_Own_L0_step (N : Nat) (c8 : Int) (KX : Nat → St → Option (List (Str × Bool × List UInt8))) (I : St → Option (List (Str × Bool × List UInt8))) (s9 : Int) (w100600 : List (Str × Bool × List UInt8)) :
    execL (blob_Own_LP N) (blob_Own_E N) (cAt (bodyOf Tryd.f58) [true, true, false, true, false, false]) 0 (blob_Own_L0_hd c8 s9 w100600) (roundK (blob_Own_h 0) I KX (resD (blob_Own_E N) Tryd.f58 (blob_Own_sg fun x _ => blob_Own N x.1) blob_Own_pk)) = blob_Own_L0T N c8 (fun o0_w100600 => KX 0 (blob_Own_L0_tl0 c8 o0_w100600)) (fun s9 w100600 => I (blob_Own_L0_hd c8 s9 w100600)) s9 w100600 := by kernel_rfl
theorem blob_Own_L0_ok (N : Nat) : ∀ x y k, (∀ st, k .ret st = (resD (blob_Own_E N) Tryd.f58 (blob_Own_sg fun x _ => blob_Own N x.1) blob_Own_pk) st) → iter (blob_Own_h 0) (exec (blob_Own_E N) N (cAt (bodyOf Tryd.f58) [true, true, false, true, false, false]) 0) N ⟨24, unF blob_Own_L0_fs x, unH blob_Own_L0_bs y⟩ k = blob_Own_L0_F N x y k := fun x y k hk =>
  iter_link (S := (Int) × (List (Str × Bool × List UInt8)) × Unit) (blob_Own_h 0) _ (execL (blob_Own_LP N) (blob_Own_E N) (cAt (bodyOf Tryd.f58) [true, true, false, true, false, false]) 0) (resD (blob_Own_E N) Tryd.f58 (blob_Own_sg fun x _ => blob_Own N x.1) blob_Own_pk) (fun st k hk => execL_eq _ _ N _ (cAt (bodyOf Tryd.f58) [true, true, false, true, false, false]) 0 (show LoopsOk (blob_Own_LP N) (blob_Own_E N) N (resD (blob_Own_E N) Tryd.f58 (blob_Own_sg fun x _ => blob_Own N x.1) blob_Own_pk) [] from trivial) st k hk) (fun s => blob_Own_L0_hd x.2.1 s.1 s.2.1) k hk
    (fun self s => blob_Own_L0T N x.2.1 (fun o0_w100600 => k (.exit 0) (blob_Own_L0_tl0 x.2.1 o0_w100600)) (fun s9 w100600 => self (s9, w100600, ())) s.1 s.2.1) (fun n s => blob_Own_L0 N x.2.1 (fun o0_w100600 => k (.exit 0) (blob_Own_L0_tl0 x.2.1 o0_w100600)) n s.1 s.2.1) (fun _ => rfl) (fun _ _ => rfl)
    (fun I s => blob_Own_L0_step N x.2.1 (fun j => k (.exit j)) I s.1 s.2.1) N (x.2.2.1, y.1, ())
theorem blob_Own_lp0 (N : Nat) : ∀ st k, (∀ st, k .ret st = (resD (blob_Own_E N) Tryd.f58 (blob_Own_sg fun x _ => blob_Own N x.1) blob_Own_pk) st) → blob_Own_LP N 0 (cAt (bodyOf Tryd.f58) [true, true, false, true, false, false]) st k = iter (Env.hint (blob_Own_E N) 0) (exec (blob_Own_E N) N (cAt (bodyOf Tryd.f58) [true, true, false, true, false, false]) 0) N st k := fun st k hk => LPc_eq 24 blob_Own_L0_fs blob_Own_L0_bs _ _ (resD (blob_Own_E N) Tryd.f58 (blob_Own_sg fun x _ => blob_Own N x.1) blob_Own_pk) (blob_Own_L0_ok N) _ st k hk (rfl)
theorem blob_Own_core (N : Nat) (x : SV [.v (.sl (.pr .str (.pr .bool (.sl .u8))))]) (y : BV []) : runL (blob_Own_E N) Tryd.f58 (blob_Own_sg fun x _ => blob_Own N x.1) blob_Own_pk (blob_Own_LP N) x y = blob_Own N x.1 := by kernel_rfl
theorem blob_Own_sound (N : Nat) : Sound Tryd.prog GW B0G 58 (blob_Own_sg fun x _ => blob_Own N x.1) :=
  runD_sound (mkE_ok blob_Own_h (blob_Own_fn N) _ _ (blob_Own_fn_ok N)) Tryd.func58 rfl Tryd.call58 (blob_Own_sg fun x _ => blob_Own N x.1) blob_Own_pk (fun _ _ => rfl) N (fun x y _ h => ((runL_eq (blob_Own_E N) N Tryd.f58 (blob_Own_sg fun x _ => blob_Own N x.1) blob_Own_pk (blob_Own_LP N) (show LoopsOk (blob_Own_LP N) (blob_Own_E N) N (resD (blob_Own_E N) Tryd.f58 (blob_Own_sg fun x _ => blob_Own N x.1) blob_Own_pk) [(0, (cAt (bodyOf Tryd.f58) [true, true, false, true, false, false]))] from ⟨blob_Own_lp0 N, trivial⟩) x y).trans (blob_Own_core N x y)).trans h)
def stringslite_HasPrefix (_N : Nat) (x0 : Str) (x1 : Str) : Option Bool :=
  br (decide ((x0.length : Int) ≥ (x1.length : Int)))
    (bnd (slc x0 (0 : Int) (x1.length : Int)) fun t14 =>
    some (t14 == x1))
    (some false)
abbrev stringslite_HasPrefix_sg (f : SV [.v .str, .v .str] → BV [] → Option (Bool)) : AF := { ps := [.v .str, .v .str], bs := [], rs := [.v .bool], cs := [], R := Bool, out := fun z => ((z, ()), ()), f := f }
abbrev stringslite_HasPrefix_pk : SV [.v .bool] → BV [] → Bool := fun x _ => x.1
def stringslite_HasPrefix_fn (_N : Nat) : FuncId → Option Tmp → Option AF := fun f _ =>
  match f with
    | _ => none
theorem stringslite_HasPrefix_fn_ok (N : Nat) : ∀ f q F, stringslite_HasPrefix_fn N f q = some F → Sound Tryd.prog GW B0G f F := by
  intro f q F h
  unfold stringslite_HasPrefix_fn at h
  split at h
  · cases h
def stringslite_HasPrefix_h : Nat → Hint := fun i =>
  match i with
  | _ => ⟨[], [], [], [], [], []⟩
abbrev stringslite_HasPrefix_E (N : Nat) : Env := mkE stringslite_HasPrefix_h (stringslite_HasPrefix_fn N) (fun _ => false) (fun _ => false)
noncomputable def stringslite_HasPrefix_LP (N : Nat) : Nat → Code → St → (Ex → St → Option Bool) → Option Bool := fun i c =>
  match i with
  | i => fun st k => iter (stringslite_HasPrefix_h i) (exec (stringslite_HasPrefix_E N) N c i) N st k
theorem stringslite_HasPrefix_core (N : Nat) (x : SV [.v .str, .v .str]) (y : BV []) : runL (stringslite_HasPrefix_E N) Tryd.f99 (stringslite_HasPrefix_sg fun x _ => stringslite_HasPrefix N x.1 x.2.1) stringslite_HasPrefix_pk (stringslite_HasPrefix_LP N) x y = stringslite_HasPrefix N x.1 x.2.1 := by kernel_rfl
theorem stringslite_HasPrefix_sound (N : Nat) : Sound Tryd.prog GW B0G 99 (stringslite_HasPrefix_sg fun x _ => stringslite_HasPrefix N x.1 x.2.1) :=
  runD_sound (mkE_ok stringslite_HasPrefix_h (stringslite_HasPrefix_fn N) _ _ (stringslite_HasPrefix_fn_ok N)) Tryd.func99 rfl Tryd.call99 (stringslite_HasPrefix_sg fun x _ => stringslite_HasPrefix N x.1 x.2.1) stringslite_HasPrefix_pk (fun _ _ => rfl) N (fun x y _ h => ((runL_eq (stringslite_HasPrefix_E N) N Tryd.f99 (stringslite_HasPrefix_sg fun x _ => stringslite_HasPrefix N x.1 x.2.1) stringslite_HasPrefix_pk (stringslite_HasPrefix_LP N) (show LoopsOk (stringslite_HasPrefix_LP N) (stringslite_HasPrefix_E N) N (resD (stringslite_HasPrefix_E N) Tryd.f99 (stringslite_HasPrefix_sg fun x _ => stringslite_HasPrefix N x.1 x.2.1) stringslite_HasPrefix_pk) [] from trivial) x y).trans (stringslite_HasPrefix_core N x y)).trans h)
def strings_HasPrefix (N : Nat) (x0 : Str) (x1 : Str) : Option Bool :=
  bnd (stringslite_HasPrefix N x0 x1) fun t7 =>
  some t7
abbrev strings_HasPrefix_sg (f : SV [.v .str, .v .str] → BV [] → Option (Bool)) : AF := { ps := [.v .str, .v .str], bs := [], rs := [.v .bool], cs := [], R := Bool, out := fun z => ((z, ()), ()), f := f }
abbrev strings_HasPrefix_pk : SV [.v .bool] → BV [] → Bool := fun x _ => x.1
def strings_HasPrefix_fn (N : Nat) : FuncId → Option Tmp → Option AF := fun f _ =>
  match f with
    | 99 => some (stringslite_HasPrefix_sg fun x _ => stringslite_HasPrefix N x.1 x.2.1)
    | _ => none
theorem strings_HasPrefix_fn_ok (N : Nat) : ∀ f q F, strings_HasPrefix_fn N f q = some F → Sound Tryd.prog GW B0G f F := by
  intro f q F h
  unfold strings_HasPrefix_fn at h
  split at h
  · cases h; exact stringslite_HasPrefix_sound N
  · cases h
def strings_HasPrefix_h : Nat → Hint := fun i =>
  match i with
  | _ => ⟨[], [], [], [], [], []⟩
abbrev strings_HasPrefix_E (N : Nat) : Env := mkE strings_HasPrefix_h (strings_HasPrefix_fn N) (fun _ => false) (fun _ => false)
noncomputable def strings_HasPrefix_LP (N : Nat) : Nat → Code → St → (Ex → St → Option Bool) → Option Bool := fun i c =>
  match i with
  | i => fun st k => iter (strings_HasPrefix_h i) (exec (strings_HasPrefix_E N) N c i) N st k
theorem strings_HasPrefix_core (N : Nat) (x : SV [.v .str, .v .str]) (y : BV []) : runL (strings_HasPrefix_E N) Tryd.f66 (strings_HasPrefix_sg fun x _ => strings_HasPrefix N x.1 x.2.1) strings_HasPrefix_pk (strings_HasPrefix_LP N) x y = strings_HasPrefix N x.1 x.2.1 := by kernel_rfl
theorem strings_HasPrefix_sound (N : Nat) : Sound Tryd.prog GW B0G 66 (strings_HasPrefix_sg fun x _ => strings_HasPrefix N x.1 x.2.1) :=
  runD_sound (mkE_ok strings_HasPrefix_h (strings_HasPrefix_fn N) _ _ (strings_HasPrefix_fn_ok N)) Tryd.func66 rfl Tryd.call66 (strings_HasPrefix_sg fun x _ => strings_HasPrefix N x.1 x.2.1) strings_HasPrefix_pk (fun _ _ => rfl) N (fun x y _ h => ((runL_eq (strings_HasPrefix_E N) N Tryd.f66 (strings_HasPrefix_sg fun x _ => strings_HasPrefix N x.1 x.2.1) strings_HasPrefix_pk (strings_HasPrefix_LP N) (show LoopsOk (strings_HasPrefix_LP N) (strings_HasPrefix_E N) N (resD (strings_HasPrefix_E N) Tryd.f66 (strings_HasPrefix_sg fun x _ => strings_HasPrefix N x.1 x.2.1) strings_HasPrefix_pk) [] from trivial) x y).trans (strings_HasPrefix_core N x y)).trans h)
def blob_Within (N : Nat) (x0 : Str) (x1 : Str) : Option Bool :=
  br (decide (x1.length + ([47] : Str).length ≤ 9223372036854775807))
    (bnd (strings_HasPrefix N x0 (x1 ++ ([47] : Str))) fun t8 =>
    some t8)
    none
abbrev blob_Within_sg (f : SV [.v .str, .v .str] → BV [] → Option (Bool)) : AF := { ps := [.v .str, .v .str], bs := [], rs := [.v .bool], cs := [], R := Bool, out := fun z => ((z, ()), ()), f := f }
abbrev blob_Within_pk : SV [.v .bool] → BV [] → Bool := fun x _ => x.1
def blob_Within_fn (N : Nat) : FuncId → Option Tmp → Option AF := fun f _ =>
  match f with
    | 66 => some (strings_HasPrefix_sg fun x _ => strings_HasPrefix N x.1 x.2.1)
    | _ => none
theorem blob_Within_fn_ok (N : Nat) : ∀ f q F, blob_Within_fn N f q = some F → Sound Tryd.prog GW B0G f F := by
  intro f q F h
  unfold blob_Within_fn at h
  split at h
  · cases h; exact strings_HasPrefix_sound N
  · cases h
def blob_Within_h : Nat → Hint := fun i =>
  match i with
  | _ => ⟨[], [], [], [], [], []⟩
abbrev blob_Within_E (N : Nat) : Env := mkE blob_Within_h (blob_Within_fn N) (fun _ => false) (fun _ => false)
noncomputable def blob_Within_LP (N : Nat) : Nat → Code → St → (Ex → St → Option Bool) → Option Bool := fun i c =>
  match i with
  | i => fun st k => iter (blob_Within_h i) (exec (blob_Within_E N) N c i) N st k
theorem blob_Within_core (N : Nat) (x : SV [.v .str, .v .str]) (y : BV []) : runL (blob_Within_E N) Tryd.f59 (blob_Within_sg fun x _ => blob_Within N x.1 x.2.1) blob_Within_pk (blob_Within_LP N) x y = blob_Within N x.1 x.2.1 := by kernel_rfl
theorem blob_Within_sound (N : Nat) : Sound Tryd.prog GW B0G 59 (blob_Within_sg fun x _ => blob_Within N x.1 x.2.1) :=
  runD_sound (mkE_ok blob_Within_h (blob_Within_fn N) _ _ (blob_Within_fn_ok N)) Tryd.func59 rfl Tryd.call59 (blob_Within_sg fun x _ => blob_Within N x.1 x.2.1) blob_Within_pk (fun _ _ => rfl) N (fun x y _ h => ((runL_eq (blob_Within_E N) N Tryd.f59 (blob_Within_sg fun x _ => blob_Within N x.1 x.2.1) blob_Within_pk (blob_Within_LP N) (show LoopsOk (blob_Within_LP N) (blob_Within_E N) N (resD (blob_Within_E N) Tryd.f59 (blob_Within_sg fun x _ => blob_Within N x.1 x.2.1) blob_Within_pk) [] from trivial) x y).trans (blob_Within_core N x y)).trans h)
def blob_At_L0T (N : Nat) (x1 : Str) (c20 : Int) (t19 : List (Str × Bool × List UInt8)) (k0 : (List (Str × Bool × List UInt8)) → Option (Int × List (Str × Bool × List UInt8))) (self : Int → (List (Str × Bool × List UInt8)) → Option (Int × List (Str × Bool × List UInt8))) (s21 : Int) (w1007 : List (Str × Bool × List UInt8)) : Option (Int × List (Str × Bool × List UInt8)) :=
  br (decide (s21 < c20))
    (br (decide (0 ≤ s21 ∧ s21 < (t19.length : Int)))
      (bnd (geti t19 s21) fun t24 =>
      bnd (blob_Within N t24.1 x1) fun t28 =>
      br (t28)
        (bnd (slc t24.1 (IntKind.i64.wrap ((x1.length : Int) + (1 : Int))) (t24.1.length : Int)) fun t34 =>
        br (decide ((w1007.length + [(t34, t24.2)].length) * (24 * Ty.sz (.pr .str (.pr .bool (.sl .u8)))) ≤ 140737488355328))
          (self (IntKind.i64.wrap (s21 + (1 : Int))) (w1007 ++ [(t34, t24.2)]))
          none)
        (self (IntKind.i64.wrap (s21 + (1 : Int))) w1007))
      none)
    (k0 w1007)
def blob_At_L0 (N : Nat) (x1 : Str) (c20 : Int) (t19 : List (Str × Bool × List UInt8)) (k0 : (List (Str × Bool × List UInt8)) → Option (Int × List (Str × Bool × List UInt8))) : Nat → Int → (List (Str × Bool × List UInt8)) → Option (Int × List (Str × Bool × List UInt8))
  | 0, _, _ => none
  | n + 1, s21, w1007 => blob_At_L0T N x1 c20 t19 k0 (blob_At_L0 N x1 c20 t19 k0 n) s21 w1007
def blob_At (N : Nat) (x0 : List (Str × Bool × List UInt8)) (x1 : Str) : Option (Int × List (Str × Bool × List UInt8)) :=
  bnd (blob_CheckFiles N x0) fun t11 =>
  br (t11 != (0 : Int))
    (some (t11, ([] : List (Str × Bool × List UInt8))))
    (bnd (blob_IsPath N x1) fun t16 =>
    br (!t16)
      (some ((3 : Int), ([] : List (Str × Bool × List UInt8))))
      (bnd (blob_Own N x0) fun t19 =>
      blob_At_L0 N x1 (t19.length : Int) t19 (fun o0_w1007 =>
          some ((0 : Int), o0_w1007)) N (0 : Int) ([] : List (Str × Bool × List UInt8))))
abbrev blob_At_sg (f : SV [.v (.sl (.pr .str (.pr .bool (.sl .u8)))), .v .str] → BV [] → Option (Int × List (Str × Bool × List UInt8))) : AF := { ps := [.v (.sl (.pr .str (.pr .bool (.sl .u8)))), .v .str], bs := [], rs := [.row 0, .v (.int .i64)], cs := [.row 34 (.pr .str (.pr .bool (.sl .u8))) false], R := Int × List (Str × Bool × List UInt8), out := fun z => (((), z.1, ()), (z.2, ())), f := f }
abbrev blob_At_pk : SV [.row 0, .v (.int .i64)] → BV [.row 34 (.pr .str (.pr .bool (.sl .u8))) false] → (Int × List (Str × Bool × List UInt8)) := fun x y => (x.2.1, y.1)
def blob_At_fn (N : Nat) : FuncId → Option Tmp → Option AF := fun f _ =>
  match f with
    | 35 => some (blob_CheckFiles_sg fun x _ => blob_CheckFiles N x.1)
    | 38 => some (blob_IsPath_sg fun x _ => blob_IsPath N x.1)
    | 58 => some (blob_Own_sg fun x _ => blob_Own N x.1)
    | 59 => some (blob_Within_sg fun x _ => blob_Within N x.1 x.2.1)
    | _ => none
theorem blob_At_fn_ok (N : Nat) : ∀ f q F, blob_At_fn N f q = some F → Sound Tryd.prog GW B0G f F := by
  intro f q F h
  unfold blob_At_fn at h
  split at h
  · cases h; exact blob_CheckFiles_sound N
  · cases h; exact blob_IsPath_sound N
  · cases h; exact blob_Own_sound N
  · cases h; exact blob_Within_sound N
  · cases h
def blob_At_h : Nat → Hint := fun i =>
  match i with
  | 0 => ⟨[], [1, 7, 19, 20, 21], [1007, 101900], [7], [1007], []⟩
  | _ => ⟨[], [], [], [], [], []⟩
abbrev blob_At_E (N : Nat) : Env := mkE blob_At_h (blob_At_fn N) (fun _ => false) (fun _ => false)
abbrev blob_At_L0_fs : List (Nat × Sl) := [(1, .v .str), (7, .row 1007), (19, .row 101900), (20, .v (.int .i64)), (21, .v (.int .i64))]
abbrev blob_At_L0_bs : List (Nat × Sb) := [(1007, .row 34 (.pr .str (.pr .bool (.sl .u8))) false), (101900, .row 34 (.pr .str (.pr .bool (.sl .u8))) true)]
def blob_At_L0_hd (x1 : Str) (c20 : Int) (t19 : List (Str × Bool × List UInt8)) (s21 : Int) (w1007 : List (Str × Bool × List UInt8)) : St := ⟨42, [(1, .v .str x1), (7, .row 1007), (19, .row 101900), (20, .v (.int .i64) c20), (21, .v (.int .i64) s21)], [(1007, .row 34 (.pr .str (.pr .bool (.sl .u8))) false w1007), (101900, .row 34 (.pr .str (.pr .bool (.sl .u8))) true t19)]⟩
def blob_At_L0_tl0 (_x1 : Str) (_c20 : Int) (_t19 : List (Str × Bool × List UInt8)) (o0_w1007 : List (Str × Bool × List UInt8)) : St := ⟨42, [(7, .row 1007)], [(1007, .row 34 (.pr .str (.pr .bool (.sl .u8))) false o0_w1007)]⟩
def blob_At_L0_G (N : Nat) (x1 : Str) (c20 : Int) (t19 : List (Str × Bool × List UInt8)) (s21 : Int) (w1007 : List (Str × Bool × List UInt8)) (k : Ex → St → Option (Int × List (Str × Bool × List UInt8))) : Option (Int × List (Str × Bool × List UInt8)) :=
  blob_At_L0 N x1 c20 t19 (fun o0_w1007 => k (.exit 0) (blob_At_L0_tl0 x1 c20 t19 o0_w1007)) N s21 w1007
abbrev blob_At_L0_F (N : Nat) : FV blob_At_L0_fs → HV blob_At_L0_bs → (Ex → St → Option (Int × List (Str × Bool × List UInt8))) → Option (Int × List (Str × Bool × List UInt8)) := fun x y k => blob_At_L0_G N x.1 x.2.2.2.1 y.2.1 x.2.2.2.2.1 y.1 k
noncomputable def blob_At_LP (N : Nat) : Nat → Code → St → (Ex → St → Option (Int × List (Str × Bool × List UInt8))) → Option (Int × List (Str × Bool × List UInt8)) := fun i c =>
  match i with
  | 0 => (LPc 42 blob_At_L0_fs blob_At_L0_bs (blob_At_L0_F N) (fun st k => iter (blob_At_h 0) (exec (blob_At_E N) N c 0) N st k))
  | i => fun st k => iter (blob_At_h i) (exec (blob_At_E N) N c i) N st k
theorem blob_At_L0_step (N : Nat) (x1 : Str) (c20 : Int) (t19 : List (Str × Bool × List UInt8)) (KX : Nat → St → Option (Int × List (Str × Bool × List UInt8))) (I : St → Option (Int × List (Str × Bool × List UInt8))) (s21 : Int) (w1007 : List (Str × Bool × List UInt8)) :
    execL (blob_At_LP N) (blob_At_E N) (cAt (bodyOf Tryd.f26) [true, true, true, true, false, true, false, false]) 0 (blob_At_L0_hd x1 c20 t19 s21 w1007) (roundK (blob_At_h 0) I KX (resD (blob_At_E N) Tryd.f26 (blob_At_sg fun x _ => blob_At N x.1 x.2.1) blob_At_pk)) = blob_At_L0T N x1 c20 t19 (fun o0_w1007 => KX 0 (blob_At_L0_tl0 x1 c20 t19 o0_w1007)) (fun s21 w1007 => I (blob_At_L0_hd x1 c20 t19 s21 w1007)) s21 w1007 := by kernel_rfl
theorem blob_At_L0_ok (N : Nat) : ∀ x y k, (∀ st, k .ret st = (resD (blob_At_E N) Tryd.f26 (blob_At_sg fun x _ => blob_At N x.1 x.2.1) blob_At_pk) st) → iter (blob_At_h 0) (exec (blob_At_E N) N (cAt (bodyOf Tryd.f26) [true, true, true, true, false, true, false, false]) 0) N ⟨42, unF blob_At_L0_fs x, unH blob_At_L0_bs y⟩ k = blob_At_L0_F N x y k := fun x y k hk =>
  iter_link (S := (Int) × (List (Str × Bool × List UInt8)) × Unit) (blob_At_h 0) _ (execL (blob_At_LP N) (blob_At_E N) (cAt (bodyOf Tryd.f26) [true, true, true, true, false, true, false, false]) 0) (resD (blob_At_E N) Tryd.f26 (blob_At_sg fun x _ => blob_At N x.1 x.2.1) blob_At_pk) (fun st k hk => execL_eq _ _ N _ (cAt (bodyOf Tryd.f26) [true, true, true, true, false, true, false, false]) 0 (show LoopsOk (blob_At_LP N) (blob_At_E N) N (resD (blob_At_E N) Tryd.f26 (blob_At_sg fun x _ => blob_At N x.1 x.2.1) blob_At_pk) [] from trivial) st k hk) (fun s => blob_At_L0_hd x.1 x.2.2.2.1 y.2.1 s.1 s.2.1) k hk
    (fun self s => blob_At_L0T N x.1 x.2.2.2.1 y.2.1 (fun o0_w1007 => k (.exit 0) (blob_At_L0_tl0 x.1 x.2.2.2.1 y.2.1 o0_w1007)) (fun s21 w1007 => self (s21, w1007, ())) s.1 s.2.1) (fun n s => blob_At_L0 N x.1 x.2.2.2.1 y.2.1 (fun o0_w1007 => k (.exit 0) (blob_At_L0_tl0 x.1 x.2.2.2.1 y.2.1 o0_w1007)) n s.1 s.2.1) (fun _ => rfl) (fun _ _ => rfl)
    (fun I s => blob_At_L0_step N x.1 x.2.2.2.1 y.2.1 (fun j => k (.exit j)) I s.1 s.2.1) N (x.2.2.2.2.1, y.1, ())
theorem blob_At_lp0 (N : Nat) : ∀ st k, (∀ st, k .ret st = (resD (blob_At_E N) Tryd.f26 (blob_At_sg fun x _ => blob_At N x.1 x.2.1) blob_At_pk) st) → blob_At_LP N 0 (cAt (bodyOf Tryd.f26) [true, true, true, true, false, true, false, false]) st k = iter (Env.hint (blob_At_E N) 0) (exec (blob_At_E N) N (cAt (bodyOf Tryd.f26) [true, true, true, true, false, true, false, false]) 0) N st k := fun st k hk => LPc_eq 42 blob_At_L0_fs blob_At_L0_bs _ _ (resD (blob_At_E N) Tryd.f26 (blob_At_sg fun x _ => blob_At N x.1 x.2.1) blob_At_pk) (blob_At_L0_ok N) _ st k hk (rfl)
theorem blob_At_core (N : Nat) (x : SV [.v (.sl (.pr .str (.pr .bool (.sl .u8)))), .v .str]) (y : BV []) : runL (blob_At_E N) Tryd.f26 (blob_At_sg fun x _ => blob_At N x.1 x.2.1) blob_At_pk (blob_At_LP N) x y = blob_At N x.1 x.2.1 := by kernel_rfl
theorem blob_At_sound (N : Nat) : Sound Tryd.prog GW B0G 26 (blob_At_sg fun x _ => blob_At N x.1 x.2.1) :=
  runD_sound (mkE_ok blob_At_h (blob_At_fn N) _ _ (blob_At_fn_ok N)) Tryd.func26 rfl Tryd.call26 (blob_At_sg fun x _ => blob_At N x.1 x.2.1) blob_At_pk (fun _ _ => rfl) N (fun x y _ h => ((runL_eq (blob_At_E N) N Tryd.f26 (blob_At_sg fun x _ => blob_At N x.1 x.2.1) blob_At_pk (blob_At_LP N) (show LoopsOk (blob_At_LP N) (blob_At_E N) N (resD (blob_At_E N) Tryd.f26 (blob_At_sg fun x _ => blob_At N x.1 x.2.1) blob_At_pk) [(0, (cAt (bodyOf Tryd.f26) [true, true, true, true, false, true, false, false]))] from ⟨blob_At_lp0 N, trivial⟩) x y).trans (blob_At_core N x y)).trans h)
def ref1_Lies (N : Nat) (x0 : Str) (x1 : Str) : Option Bool :=
  br (decide (x1.length + ([47] : Str).length ≤ 9223372036854775807))
    (bnd (strings_HasPrefix N x0 (x1 ++ ([47] : Str))) fun t8 =>
    some t8)
    none
abbrev ref1_Lies_sg (f : SV [.v .str, .v .str] → BV [] → Option (Bool)) : AF := { ps := [.v .str, .v .str], bs := [], rs := [.v .bool], cs := [], R := Bool, out := fun z => ((z, ()), ()), f := f }
abbrev ref1_Lies_pk : SV [.v .bool] → BV [] → Bool := fun x _ => x.1
def ref1_Lies_fn (N : Nat) : FuncId → Option Tmp → Option AF := fun f _ =>
  match f with
    | 66 => some (strings_HasPrefix_sg fun x _ => strings_HasPrefix N x.1 x.2.1)
    | _ => none
theorem ref1_Lies_fn_ok (N : Nat) : ∀ f q F, ref1_Lies_fn N f q = some F → Sound Tryd.prog GW B0G f F := by
  intro f q F h
  unfold ref1_Lies_fn at h
  split at h
  · cases h; exact strings_HasPrefix_sound N
  · cases h
def ref1_Lies_h : Nat → Hint := fun i =>
  match i with
  | _ => ⟨[], [], [], [], [], []⟩
abbrev ref1_Lies_E (N : Nat) : Env := mkE ref1_Lies_h (ref1_Lies_fn N) (fun _ => false) (fun _ => false)
noncomputable def ref1_Lies_LP (N : Nat) : Nat → Code → St → (Ex → St → Option Bool) → Option Bool := fun i c =>
  match i with
  | i => fun st k => iter (ref1_Lies_h i) (exec (ref1_Lies_E N) N c i) N st k
theorem ref1_Lies_core (N : Nat) (x : SV [.v .str, .v .str]) (y : BV []) : runL (ref1_Lies_E N) Tryd.f30 (ref1_Lies_sg fun x _ => ref1_Lies N x.1 x.2.1) ref1_Lies_pk (ref1_Lies_LP N) x y = ref1_Lies N x.1 x.2.1 := by kernel_rfl
theorem ref1_Lies_sound (N : Nat) : Sound Tryd.prog GW B0G 30 (ref1_Lies_sg fun x _ => ref1_Lies N x.1 x.2.1) :=
  runD_sound (mkE_ok ref1_Lies_h (ref1_Lies_fn N) _ _ (ref1_Lies_fn_ok N)) Tryd.func30 rfl Tryd.call30 (ref1_Lies_sg fun x _ => ref1_Lies N x.1 x.2.1) ref1_Lies_pk (fun _ _ => rfl) N (fun x y _ h => ((runL_eq (ref1_Lies_E N) N Tryd.f30 (ref1_Lies_sg fun x _ => ref1_Lies N x.1 x.2.1) ref1_Lies_pk (ref1_Lies_LP N) (show LoopsOk (ref1_Lies_LP N) (ref1_Lies_E N) N (resD (ref1_Lies_E N) Tryd.f30 (ref1_Lies_sg fun x _ => ref1_Lies N x.1 x.2.1) ref1_Lies_pk) [] from trivial) x y).trans (ref1_Lies_core N x y)).trans h)
def blob_Put_1 (N : Nat) (x0 : Str × Bool × List UInt8) (x1 : Str) : Option Bool :=
  br (x0.1 == x1)
    (some true)
    (bnd (blob_Within N x0.1 x1) fun t12 =>
    some t12)
abbrev blob_Put_1_sg (f : SV [.v (.pr .str (.pr .bool (.sl .u8))), .v (.ptr .str)] → BV [] → Option (Bool)) : AF := { ps := [.v (.pr .str (.pr .bool (.sl .u8))), .v (.ptr .str)], bs := [], rs := [.v .bool], cs := [], R := Bool, out := fun z => ((z, ()), ()), f := f }
abbrev blob_Put_1_pk : SV [.v .bool] → BV [] → Bool := fun x _ => x.1
def blob_Put_1_fn (N : Nat) : FuncId → Option Tmp → Option AF := fun f _ =>
  match f with
    | 59 => some (blob_Within_sg fun x _ => blob_Within N x.1 x.2.1)
    | _ => none
theorem blob_Put_1_fn_ok (N : Nat) : ∀ f q F, blob_Put_1_fn N f q = some F → Sound Tryd.prog GW B0G f F := by
  intro f q F h
  unfold blob_Put_1_fn at h
  split at h
  · cases h; exact blob_Within_sound N
  · cases h
def blob_Put_1_h : Nat → Hint := fun i =>
  match i with
  | _ => ⟨[], [], [], [], [], []⟩
abbrev blob_Put_1_E (N : Nat) : Env := mkE blob_Put_1_h (blob_Put_1_fn N) (fun _ => false) (fun _ => false)
noncomputable def blob_Put_1_LP (N : Nat) : Nat → Code → St → (Ex → St → Option Bool) → Option Bool := fun i c =>
  match i with
  | i => fun st k => iter (blob_Put_1_h i) (exec (blob_Put_1_E N) N c i) N st k
theorem blob_Put_1_core (N : Nat) (x : SV [.v (.pr .str (.pr .bool (.sl .u8))), .v (.ptr .str)]) (y : BV []) : runL (blob_Put_1_E N) Tryd.f62 (blob_Put_1_sg fun x _ => blob_Put_1 N x.1 x.2.1) blob_Put_1_pk (blob_Put_1_LP N) x y = blob_Put_1 N x.1 x.2.1 := by kernel_rfl
theorem blob_Put_1_sound (N : Nat) : Sound Tryd.prog GW B0G 62 (blob_Put_1_sg fun x _ => blob_Put_1 N x.1 x.2.1) :=
  runD_sound (mkE_ok blob_Put_1_h (blob_Put_1_fn N) _ _ (blob_Put_1_fn_ok N)) Tryd.func62 rfl Tryd.call62 (blob_Put_1_sg fun x _ => blob_Put_1 N x.1 x.2.1) blob_Put_1_pk (fun _ _ => rfl) N (fun x y _ h => ((runL_eq (blob_Put_1_E N) N Tryd.f62 (blob_Put_1_sg fun x _ => blob_Put_1 N x.1 x.2.1) blob_Put_1_pk (blob_Put_1_LP N) (show LoopsOk (blob_Put_1_LP N) (blob_Put_1_E N) N (resD (blob_Put_1_E N) Tryd.f62 (blob_Put_1_sg fun x _ => blob_Put_1 N x.1 x.2.1) blob_Put_1_pk) [] from trivial) x y).trans (blob_Put_1_core N x y)).trans h)
def slices_IndexFunc_api_File_L0T (N : Nat) (x0 : List (Str × Bool × List UInt8)) (x1 : Str × Unit) (c7 : Int) (k0 : Option Int) (self : Int → Option Int) (s8 : Int) : Option Int :=
  br (decide (s8 < c7))
    (bnd (geti x0 s8) fun t14 =>
    bnd (blob_Put_1 N t14 x1.1) fun t16 =>
    br (t16)
      (some s8)
      (self (IntKind.i64.wrap (s8 + (1 : Int)))))
    (k0)
def slices_IndexFunc_api_File_L0 (N : Nat) (x0 : List (Str × Bool × List UInt8)) (x1 : Str × Unit) (c7 : Int) (k0 : Option Int) : Nat → Int → Option Int
  | 0, _ => none
  | n + 1, s8 => slices_IndexFunc_api_File_L0T N x0 x1 c7 k0 (slices_IndexFunc_api_File_L0 N x0 x1 c7 k0 n) s8
def slices_IndexFunc_api_File (N : Nat) (x0 : List (Str × Bool × List UInt8)) (x1 : Str × Unit) : Option Int :=
  slices_IndexFunc_api_File_L0 N x0 x1 (x0.length : Int) (some (-1 : Int)) N (0 : Int)
abbrev slices_IndexFunc_api_File_sg (f : SV [.v (.sl (.pr .str (.pr .bool (.sl .u8)))), .v (.clo 62 (.pr (.ptr .str) .un))] → BV [] → Option (Int)) : AF := { ps := [.v (.sl (.pr .str (.pr .bool (.sl .u8)))), .v (.clo 62 (.pr (.ptr .str) .un))], bs := [], rs := [.v (.int .i64)], cs := [], R := Int, out := fun z => ((z, ()), ()), f := f }
abbrev slices_IndexFunc_api_File_pk : SV [.v (.int .i64)] → BV [] → Int := fun x _ => x.1
def slices_IndexFunc_api_File_fn (N : Nat) : FuncId → Option Tmp → Option AF := fun f _ =>
  match f with
    | 62 => some (blob_Put_1_sg fun x _ => blob_Put_1 N x.1 x.2.1)
    | _ => none
theorem slices_IndexFunc_api_File_fn_ok (N : Nat) : ∀ f q F, slices_IndexFunc_api_File_fn N f q = some F → Sound Tryd.prog GW B0G f F := by
  intro f q F h
  unfold slices_IndexFunc_api_File_fn at h
  split at h
  · cases h; exact blob_Put_1_sound N
  · cases h
def slices_IndexFunc_api_File_h : Nat → Hint := fun i =>
  match i with
  | 0 => ⟨[], [0, 1, 7, 8], [], [], [], []⟩
  | _ => ⟨[], [], [], [], [], []⟩
abbrev slices_IndexFunc_api_File_E (N : Nat) : Env := mkE slices_IndexFunc_api_File_h (slices_IndexFunc_api_File_fn N) (fun _ => false) (fun _ => false)
abbrev slices_IndexFunc_api_File_L0_fs : List (Nat × Sl) := [(0, .v (.sl (.pr .str (.pr .bool (.sl .u8))))), (1, .v (.clo 62 (.pr (.ptr .str) .un))), (7, .v (.int .i64)), (8, .v (.int .i64))]
abbrev slices_IndexFunc_api_File_L0_bs : List (Nat × Sb) := []
def slices_IndexFunc_api_File_L0_hd (x0 : List (Str × Bool × List UInt8)) (x1 : Str × Unit) (c7 : Int) (s8 : Int) : St := ⟨19, [(0, .v (.sl (.pr .str (.pr .bool (.sl .u8)))) x0), (1, .v (.clo 62 (.pr (.ptr .str) .un)) x1), (7, .v (.int .i64) c7), (8, .v (.int .i64) s8)], []⟩
def slices_IndexFunc_api_File_L0_tl0 (_x0 : List (Str × Bool × List UInt8)) (_x1 : Str × Unit) (_c7 : Int) : St := ⟨19, [], []⟩
def slices_IndexFunc_api_File_L0_G (N : Nat) (x0 : List (Str × Bool × List UInt8)) (x1 : Str × Unit) (c7 : Int) (s8 : Int) (k : Ex → St → Option Int) : Option Int :=
  slices_IndexFunc_api_File_L0 N x0 x1 c7 (k (.exit 0) (slices_IndexFunc_api_File_L0_tl0 x0 x1 c7)) N s8
abbrev slices_IndexFunc_api_File_L0_F (N : Nat) : FV slices_IndexFunc_api_File_L0_fs → HV slices_IndexFunc_api_File_L0_bs → (Ex → St → Option Int) → Option Int := fun x _ k => slices_IndexFunc_api_File_L0_G N x.1 x.2.1 x.2.2.1 x.2.2.2.1 k
noncomputable def slices_IndexFunc_api_File_LP (N : Nat) : Nat → Code → St → (Ex → St → Option Int) → Option Int := fun i c =>
  match i with
  | 0 => (LPc 19 slices_IndexFunc_api_File_L0_fs slices_IndexFunc_api_File_L0_bs (slices_IndexFunc_api_File_L0_F N) (fun st k => iter (slices_IndexFunc_api_File_h 0) (exec (slices_IndexFunc_api_File_E N) N c 0) N st k))
  | i => fun st k => iter (slices_IndexFunc_api_File_h i) (exec (slices_IndexFunc_api_File_E N) N c i) N st k
theorem slices_IndexFunc_api_File_L0_step (N : Nat) (x0 : List (Str × Bool × List UInt8)) (x1 : Str × Unit) (c7 : Int) (KX : Nat → St → Option Int) (I : St → Option Int) (s8 : Int) :
    execL (slices_IndexFunc_api_File_LP N) (slices_IndexFunc_api_File_E N) (cAt (bodyOf Tryd.f96) [true, false, true, false, false]) 0 (slices_IndexFunc_api_File_L0_hd x0 x1 c7 s8) (roundK (slices_IndexFunc_api_File_h 0) I KX (resD (slices_IndexFunc_api_File_E N) Tryd.f96 (slices_IndexFunc_api_File_sg fun x _ => slices_IndexFunc_api_File N x.1 x.2.1) slices_IndexFunc_api_File_pk)) = slices_IndexFunc_api_File_L0T N x0 x1 c7 (KX 0 (slices_IndexFunc_api_File_L0_tl0 x0 x1 c7)) (fun s8 => I (slices_IndexFunc_api_File_L0_hd x0 x1 c7 s8)) s8 := by kernel_rfl
theorem slices_IndexFunc_api_File_L0_ok (N : Nat) : ∀ x y k, (∀ st, k .ret st = (resD (slices_IndexFunc_api_File_E N) Tryd.f96 (slices_IndexFunc_api_File_sg fun x _ => slices_IndexFunc_api_File N x.1 x.2.1) slices_IndexFunc_api_File_pk) st) → iter (slices_IndexFunc_api_File_h 0) (exec (slices_IndexFunc_api_File_E N) N (cAt (bodyOf Tryd.f96) [true, false, true, false, false]) 0) N ⟨19, unF slices_IndexFunc_api_File_L0_fs x, unH slices_IndexFunc_api_File_L0_bs y⟩ k = slices_IndexFunc_api_File_L0_F N x y k := fun x _ k hk =>
  iter_link (S := (Int) × Unit) (slices_IndexFunc_api_File_h 0) _ (execL (slices_IndexFunc_api_File_LP N) (slices_IndexFunc_api_File_E N) (cAt (bodyOf Tryd.f96) [true, false, true, false, false]) 0) (resD (slices_IndexFunc_api_File_E N) Tryd.f96 (slices_IndexFunc_api_File_sg fun x _ => slices_IndexFunc_api_File N x.1 x.2.1) slices_IndexFunc_api_File_pk) (fun st k hk => execL_eq _ _ N _ (cAt (bodyOf Tryd.f96) [true, false, true, false, false]) 0 (show LoopsOk (slices_IndexFunc_api_File_LP N) (slices_IndexFunc_api_File_E N) N (resD (slices_IndexFunc_api_File_E N) Tryd.f96 (slices_IndexFunc_api_File_sg fun x _ => slices_IndexFunc_api_File N x.1 x.2.1) slices_IndexFunc_api_File_pk) [] from trivial) st k hk) (fun s => slices_IndexFunc_api_File_L0_hd x.1 x.2.1 x.2.2.1 s.1) k hk
    (fun self s => slices_IndexFunc_api_File_L0T N x.1 x.2.1 x.2.2.1 (k (.exit 0) (slices_IndexFunc_api_File_L0_tl0 x.1 x.2.1 x.2.2.1)) (fun s8 => self (s8, ())) s.1) (fun n s => slices_IndexFunc_api_File_L0 N x.1 x.2.1 x.2.2.1 (k (.exit 0) (slices_IndexFunc_api_File_L0_tl0 x.1 x.2.1 x.2.2.1)) n s.1) (fun _ => rfl) (fun _ _ => rfl)
    (fun I s => slices_IndexFunc_api_File_L0_step N x.1 x.2.1 x.2.2.1 (fun j => k (.exit j)) I s.1) N (x.2.2.2.1, ())
theorem slices_IndexFunc_api_File_lp0 (N : Nat) : ∀ st k, (∀ st, k .ret st = (resD (slices_IndexFunc_api_File_E N) Tryd.f96 (slices_IndexFunc_api_File_sg fun x _ => slices_IndexFunc_api_File N x.1 x.2.1) slices_IndexFunc_api_File_pk) st) → slices_IndexFunc_api_File_LP N 0 (cAt (bodyOf Tryd.f96) [true, false, true, false, false]) st k = iter (Env.hint (slices_IndexFunc_api_File_E N) 0) (exec (slices_IndexFunc_api_File_E N) N (cAt (bodyOf Tryd.f96) [true, false, true, false, false]) 0) N st k := fun st k hk => LPc_eq 19 slices_IndexFunc_api_File_L0_fs slices_IndexFunc_api_File_L0_bs _ _ (resD (slices_IndexFunc_api_File_E N) Tryd.f96 (slices_IndexFunc_api_File_sg fun x _ => slices_IndexFunc_api_File N x.1 x.2.1) slices_IndexFunc_api_File_pk) (slices_IndexFunc_api_File_L0_ok N) _ st k hk (rfl)
theorem slices_IndexFunc_api_File_core (N : Nat) (x : SV [.v (.sl (.pr .str (.pr .bool (.sl .u8)))), .v (.clo 62 (.pr (.ptr .str) .un))]) (y : BV []) : runL (slices_IndexFunc_api_File_E N) Tryd.f96 (slices_IndexFunc_api_File_sg fun x _ => slices_IndexFunc_api_File N x.1 x.2.1) slices_IndexFunc_api_File_pk (slices_IndexFunc_api_File_LP N) x y = slices_IndexFunc_api_File N x.1 x.2.1 := by kernel_rfl
theorem slices_IndexFunc_api_File_sound (N : Nat) : Sound Tryd.prog GW B0G 96 (slices_IndexFunc_api_File_sg fun x _ => slices_IndexFunc_api_File N x.1 x.2.1) :=
  runD_sound (mkE_ok slices_IndexFunc_api_File_h (slices_IndexFunc_api_File_fn N) _ _ (slices_IndexFunc_api_File_fn_ok N)) Tryd.func96 rfl Tryd.call96 (slices_IndexFunc_api_File_sg fun x _ => slices_IndexFunc_api_File N x.1 x.2.1) slices_IndexFunc_api_File_pk (fun _ _ => rfl) N (fun x y _ h => ((runL_eq (slices_IndexFunc_api_File_E N) N Tryd.f96 (slices_IndexFunc_api_File_sg fun x _ => slices_IndexFunc_api_File N x.1 x.2.1) slices_IndexFunc_api_File_pk (slices_IndexFunc_api_File_LP N) (show LoopsOk (slices_IndexFunc_api_File_LP N) (slices_IndexFunc_api_File_E N) N (resD (slices_IndexFunc_api_File_E N) Tryd.f96 (slices_IndexFunc_api_File_sg fun x _ => slices_IndexFunc_api_File N x.1 x.2.1) slices_IndexFunc_api_File_pk) [(0, (cAt (bodyOf Tryd.f96) [true, false, true, false, false]))] from ⟨slices_IndexFunc_api_File_lp0 N, trivial⟩) x y).trans (slices_IndexFunc_api_File_core N x y)).trans h)
def slices_DeleteFunc_api_File_L0T (N : Nat) (x1 : Str × Unit) (k0 : Int → (List (Str × Bool × List UInt8)) → Option (List (Str × Bool × List UInt8))) (self : Int → Int → (List (Str × Bool × List UInt8)) → Option (List (Str × Bool × List UInt8))) (s5 : Int) (s6 : Int) (w0_1 : List (Str × Bool × List UInt8)) : Option (List (Str × Bool × List UInt8)) :=
  br (decide (s6 < (w0_1.length : Int)))
    (br (decide (0 ≤ s6 ∧ s6 < (w0_1.length : Int)))
      (bnd (geti w0_1 s6) fun t25 =>
      bnd (blob_Put_1 N t25 x1.1) fun t28 =>
      br (!t28)
        (br (decide (0 ≤ s5 ∧ s5 < (w0_1.length : Int)))
          (bnd (geti w0_1 s5) fun _ =>
          self (IntKind.i64.wrap (s5 + (1 : Int))) (IntKind.i64.wrap (s6 + (1 : Int))) (seti w0_1 s5 t25))
          none)
        (self s5 (IntKind.i64.wrap (s6 + (1 : Int))) w0_1))
      none)
    (k0 s5 w0_1)
def slices_DeleteFunc_api_File_L0 (N : Nat) (x1 : Str × Unit) (k0 : Int → (List (Str × Bool × List UInt8)) → Option (List (Str × Bool × List UInt8))) : Nat → Int → Int → (List (Str × Bool × List UInt8)) → Option (List (Str × Bool × List UInt8))
  | 0, _, _, _ => none
  | n + 1, s5, s6, w0_1 => slices_DeleteFunc_api_File_L0T N x1 k0 (slices_DeleteFunc_api_File_L0 N x1 k0 n) s5 s6 w0_1
def slices_DeleteFunc_api_File (N : Nat) (x1 : Str × Unit) (w0 : List (Str × Bool × List UInt8)) : Option (List (Str × Bool × List UInt8)) :=
  bnd (slices_IndexFunc_api_File N w0 x1) fun t10 =>
  br (t10 == (-1 : Int))
    (some w0)
    (slices_DeleteFunc_api_File_L0 N x1 (fun o0_5 o0_w0 =>
        br (decide (0 ≤ o0_5 ∧ o0_5 ≤ (o0_w0.length : Int) ∧ 0 < o0_w0.length))
          (br (decide (0 ≤ o0_5 ∧ o0_5 ≤ ((clr o0_w0 o0_5 (zero (.pr .str (.pr .bool (.sl .u8))))).length : Int)))
            (some (cut (clr o0_w0 o0_5 (zero (.pr .str (.pr .bool (.sl .u8))))) o0_5))
            none)
          none) N t10 (IntKind.i64.wrap (t10 + (1 : Int))) w0)
abbrev slices_DeleteFunc_api_File_sg (f : SV [.row 0, .v (.clo 62 (.pr (.ptr .str) .un))] → BV [.row 34 (.pr .str (.pr .bool (.sl .u8))) true] → Option (List (Str × Bool × List UInt8))) : AF := { ps := [.row 0, .v (.clo 62 (.pr (.ptr .str) .un))], bs := [.row 34 (.pr .str (.pr .bool (.sl .u8))) true], rs := [.row 0], cs := [.row 34 (.pr .str (.pr .bool (.sl .u8))) true], R := List (Str × Bool × List UInt8), out := fun z => (((), ()), (z, ())), f := f }
abbrev slices_DeleteFunc_api_File_pk : SV [.row 0] → BV [.row 34 (.pr .str (.pr .bool (.sl .u8))) true] → (List (Str × Bool × List UInt8)) := fun _ y => y.1
def slices_DeleteFunc_api_File_fn (N : Nat) : FuncId → Option Tmp → Option AF := fun f _ =>
  match f with
    | 62 => some (blob_Put_1_sg fun x _ => blob_Put_1 N x.1 x.2.1)
    | 96 => some (slices_IndexFunc_api_File_sg fun x _ => slices_IndexFunc_api_File N x.1 x.2.1)
    | _ => none
theorem slices_DeleteFunc_api_File_fn_ok (N : Nat) : ∀ f q F, slices_DeleteFunc_api_File_fn N f q = some F → Sound Tryd.prog GW B0G f F := by
  intro f q F h
  unfold slices_DeleteFunc_api_File_fn at h
  split at h
  · cases h; exact blob_Put_1_sound N
  · cases h; exact slices_IndexFunc_api_File_sound N
  · cases h
def slices_DeleteFunc_api_File_h : Nat → Hint := fun i =>
  match i with
  | 0 => ⟨[], [0, 1, 5, 6], [0], [0, 5], [0], []⟩
  | _ => ⟨[], [], [], [], [], []⟩
abbrev slices_DeleteFunc_api_File_E (N : Nat) : Env := mkE slices_DeleteFunc_api_File_h (slices_DeleteFunc_api_File_fn N) (fun i => match i with | 4 => true | _ => false) (fun _ => false)
abbrev slices_DeleteFunc_api_File_L0_fs : List (Nat × Sl) := [(0, .row 0), (1, .v (.clo 62 (.pr (.ptr .str) .un))), (5, .v (.int .i64)), (6, .v (.int .i64))]
abbrev slices_DeleteFunc_api_File_L0_bs : List (Nat × Sb) := [(0, .row 34 (.pr .str (.pr .bool (.sl .u8))) true)]
def slices_DeleteFunc_api_File_L0_hd (x1 : Str × Unit) (s5 : Int) (s6 : Int) (w0_1 : List (Str × Bool × List UInt8)) : St := ⟨42, [(0, .row 0), (1, .v (.clo 62 (.pr (.ptr .str) .un)) x1), (5, .v (.int .i64) s5), (6, .v (.int .i64) s6)], [(0, .row 34 (.pr .str (.pr .bool (.sl .u8))) true w0_1)]⟩
def slices_DeleteFunc_api_File_L0_tl0 (_x1 : Str × Unit) (o0_5 : Int) (o0_w0 : List (Str × Bool × List UInt8)) : St := ⟨42, [(0, .row 0), (5, .v (.int .i64) o0_5)], [(0, .row 34 (.pr .str (.pr .bool (.sl .u8))) true o0_w0)]⟩
def slices_DeleteFunc_api_File_L0_G (N : Nat) (x1 : Str × Unit) (s5 : Int) (s6 : Int) (w0_1 : List (Str × Bool × List UInt8)) (k : Ex → St → Option (List (Str × Bool × List UInt8))) : Option (List (Str × Bool × List UInt8)) :=
  slices_DeleteFunc_api_File_L0 N x1 (fun o0_5 o0_w0 => k (.exit 0) (slices_DeleteFunc_api_File_L0_tl0 x1 o0_5 o0_w0)) N s5 s6 w0_1
abbrev slices_DeleteFunc_api_File_L0_F (N : Nat) : FV slices_DeleteFunc_api_File_L0_fs → HV slices_DeleteFunc_api_File_L0_bs → (Ex → St → Option (List (Str × Bool × List UInt8))) → Option (List (Str × Bool × List UInt8)) := fun x y k => slices_DeleteFunc_api_File_L0_G N x.2.1 x.2.2.1 x.2.2.2.1 y.1 k
noncomputable def slices_DeleteFunc_api_File_LP (N : Nat) : Nat → Code → St → (Ex → St → Option (List (Str × Bool × List UInt8))) → Option (List (Str × Bool × List UInt8)) := fun i c =>
  match i with
  | 0 => (LPc 42 slices_DeleteFunc_api_File_L0_fs slices_DeleteFunc_api_File_L0_bs (slices_DeleteFunc_api_File_L0_F N) (fun st k => iter (slices_DeleteFunc_api_File_h 0) (exec (slices_DeleteFunc_api_File_E N) N c 0) N st k))
  | i => fun st k => iter (slices_DeleteFunc_api_File_h i) (exec (slices_DeleteFunc_api_File_E N) N c i) N st k
theorem slices_DeleteFunc_api_File_L0_step (N : Nat) (x1 : Str × Unit) (KX : Nat → St → Option (List (Str × Bool × List UInt8))) (I : St → Option (List (Str × Bool × List UInt8))) (s5 : Int) (s6 : Int) (w0_1 : List (Str × Bool × List UInt8)) :
    execL (slices_DeleteFunc_api_File_LP N) (slices_DeleteFunc_api_File_E N) (cAt (bodyOf Tryd.f61) [true, true, true, false, true, false, false]) 0 (slices_DeleteFunc_api_File_L0_hd x1 s5 s6 w0_1) (roundK (slices_DeleteFunc_api_File_h 0) I KX (resD (slices_DeleteFunc_api_File_E N) Tryd.f61 (slices_DeleteFunc_api_File_sg fun x y => slices_DeleteFunc_api_File N x.2.1 y.1) slices_DeleteFunc_api_File_pk)) = slices_DeleteFunc_api_File_L0T N x1 (fun o0_5 o0_w0 => KX 0 (slices_DeleteFunc_api_File_L0_tl0 x1 o0_5 o0_w0)) (fun s5 s6 w0_1 => I (slices_DeleteFunc_api_File_L0_hd x1 s5 s6 w0_1)) s5 s6 w0_1 := by kernel_rfl
theorem slices_DeleteFunc_api_File_L0_ok (N : Nat) : ∀ x y k, (∀ st, k .ret st = (resD (slices_DeleteFunc_api_File_E N) Tryd.f61 (slices_DeleteFunc_api_File_sg fun x y => slices_DeleteFunc_api_File N x.2.1 y.1) slices_DeleteFunc_api_File_pk) st) → iter (slices_DeleteFunc_api_File_h 0) (exec (slices_DeleteFunc_api_File_E N) N (cAt (bodyOf Tryd.f61) [true, true, true, false, true, false, false]) 0) N ⟨42, unF slices_DeleteFunc_api_File_L0_fs x, unH slices_DeleteFunc_api_File_L0_bs y⟩ k = slices_DeleteFunc_api_File_L0_F N x y k := fun x y k hk =>
  iter_link (S := (Int) × (Int) × (List (Str × Bool × List UInt8)) × Unit) (slices_DeleteFunc_api_File_h 0) _ (execL (slices_DeleteFunc_api_File_LP N) (slices_DeleteFunc_api_File_E N) (cAt (bodyOf Tryd.f61) [true, true, true, false, true, false, false]) 0) (resD (slices_DeleteFunc_api_File_E N) Tryd.f61 (slices_DeleteFunc_api_File_sg fun x y => slices_DeleteFunc_api_File N x.2.1 y.1) slices_DeleteFunc_api_File_pk) (fun st k hk => execL_eq _ _ N _ (cAt (bodyOf Tryd.f61) [true, true, true, false, true, false, false]) 0 (show LoopsOk (slices_DeleteFunc_api_File_LP N) (slices_DeleteFunc_api_File_E N) N (resD (slices_DeleteFunc_api_File_E N) Tryd.f61 (slices_DeleteFunc_api_File_sg fun x y => slices_DeleteFunc_api_File N x.2.1 y.1) slices_DeleteFunc_api_File_pk) [] from trivial) st k hk) (fun s => slices_DeleteFunc_api_File_L0_hd x.2.1 s.1 s.2.1 s.2.2.1) k hk
    (fun self s => slices_DeleteFunc_api_File_L0T N x.2.1 (fun o0_5 o0_w0 => k (.exit 0) (slices_DeleteFunc_api_File_L0_tl0 x.2.1 o0_5 o0_w0)) (fun s5 s6 w0_1 => self (s5, s6, w0_1, ())) s.1 s.2.1 s.2.2.1) (fun n s => slices_DeleteFunc_api_File_L0 N x.2.1 (fun o0_5 o0_w0 => k (.exit 0) (slices_DeleteFunc_api_File_L0_tl0 x.2.1 o0_5 o0_w0)) n s.1 s.2.1 s.2.2.1) (fun _ => rfl) (fun _ _ => rfl)
    (fun I s => slices_DeleteFunc_api_File_L0_step N x.2.1 (fun j => k (.exit j)) I s.1 s.2.1 s.2.2.1) N (x.2.2.1, x.2.2.2.1, y.1, ())
theorem slices_DeleteFunc_api_File_lp0 (N : Nat) : ∀ st k, (∀ st, k .ret st = (resD (slices_DeleteFunc_api_File_E N) Tryd.f61 (slices_DeleteFunc_api_File_sg fun x y => slices_DeleteFunc_api_File N x.2.1 y.1) slices_DeleteFunc_api_File_pk) st) → slices_DeleteFunc_api_File_LP N 0 (cAt (bodyOf Tryd.f61) [true, true, true, false, true, false, false]) st k = iter (Env.hint (slices_DeleteFunc_api_File_E N) 0) (exec (slices_DeleteFunc_api_File_E N) N (cAt (bodyOf Tryd.f61) [true, true, true, false, true, false, false]) 0) N st k := fun st k hk => LPc_eq 42 slices_DeleteFunc_api_File_L0_fs slices_DeleteFunc_api_File_L0_bs _ _ (resD (slices_DeleteFunc_api_File_E N) Tryd.f61 (slices_DeleteFunc_api_File_sg fun x y => slices_DeleteFunc_api_File N x.2.1 y.1) slices_DeleteFunc_api_File_pk) (slices_DeleteFunc_api_File_L0_ok N) _ st k hk (rfl)
theorem slices_DeleteFunc_api_File_core (N : Nat) (x : SV [.row 0, .v (.clo 62 (.pr (.ptr .str) .un))]) (y : BV [.row 34 (.pr .str (.pr .bool (.sl .u8))) true]) : runL (slices_DeleteFunc_api_File_E N) Tryd.f61 (slices_DeleteFunc_api_File_sg fun x y => slices_DeleteFunc_api_File N x.2.1 y.1) slices_DeleteFunc_api_File_pk (slices_DeleteFunc_api_File_LP N) x y = slices_DeleteFunc_api_File N x.2.1 y.1 := by kernel_rfl
theorem slices_DeleteFunc_api_File_sound (N : Nat) : Sound Tryd.prog GW B0G 61 (slices_DeleteFunc_api_File_sg fun x y => slices_DeleteFunc_api_File N x.2.1 y.1) :=
  runD_sound (mkE_ok slices_DeleteFunc_api_File_h (slices_DeleteFunc_api_File_fn N) _ _ (slices_DeleteFunc_api_File_fn_ok N)) Tryd.func61 rfl Tryd.call61 (slices_DeleteFunc_api_File_sg fun x y => slices_DeleteFunc_api_File N x.2.1 y.1) slices_DeleteFunc_api_File_pk (fun _ _ => rfl) N (fun x y _ h => ((runL_eq (slices_DeleteFunc_api_File_E N) N Tryd.f61 (slices_DeleteFunc_api_File_sg fun x y => slices_DeleteFunc_api_File N x.2.1 y.1) slices_DeleteFunc_api_File_pk (slices_DeleteFunc_api_File_LP N) (show LoopsOk (slices_DeleteFunc_api_File_LP N) (slices_DeleteFunc_api_File_E N) N (resD (slices_DeleteFunc_api_File_E N) Tryd.f61 (slices_DeleteFunc_api_File_sg fun x y => slices_DeleteFunc_api_File N x.2.1 y.1) slices_DeleteFunc_api_File_pk) [(0, (cAt (bodyOf Tryd.f61) [true, true, true, false, true, false, false]))] from ⟨slices_DeleteFunc_api_File_lp0 N, trivial⟩) x y).trans (slices_DeleteFunc_api_File_core N x y)).trans h)
end
end Go.Proofs.YthlkidohpiebiaaDoor

