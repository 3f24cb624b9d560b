/- How a contract of the kit is said of the machine. -/
import Derived.Test.YtbekhaioddmliaaGreatDoorQBmC
import Derived.Test.YtbekhaioddmliaaGreatDoorProg
import Derived.Test.YtbekhaioddmliaaGreatDoorShelf
import Derived.Shelf.Strings.SlTrimAscii
import Derived.Shelf.Spec.SlicesInsert
import Derived.Lib.AppendZerosOnto
import Derived.Test.YtbekhaioddmliaaGreatDoorQFor2
import Derived.WalkSpells
import Derived.WalkLawsBesides
import Derived.Outline
import Derived.IntWalk
namespace Go.Proofs.YtbekhaioddmliaaGreatDoor
set_option linter.unusedVariables false
set_option linter.unusedSimpArgs false
open Go Go.RowKit Go.Shelf
abbrev g0 : Gh := fun _ => none
abbrev M00' : Nat → Nat → Prop := fun _ _ => False
theorem Sound.ofExt {P : Program} {G : World → Prop} {B0 : Nat} {f : FuncId} {ps rs : List Sl} {R : Type} {out : R → SV rs × BV []} {F : SV ps → BV [] → Option R}
    (hcall : ∀ (args : Array Value) (w : World), (callFunc f args).run P w = .ok (.enter f args) w)
    (h : ∀ (M : Nat → Nat → Prop) (w : World) (vs : List Value) (x : SV ps) (z : R), G w → (∀ b o, M b o → b < w.heap.size) → All2 (RepD0 M w g0) (lays id ps x) vs → F x () = some z →
      Calls P f vs.toArray w fun e w' => ∃ vs', e = .returned (rets vs') ∧ Ext w w' ∧ All2 (RepD0 M w' g0) (lays id rs (out z).1) vs') : Sound P G B0 f ⟨ps, [], rs, [], R, out, F⟩ := by
  refine ⟨hcall, fun M w g vs x y z hG hB hF hz => ?_⟩
  have hg : g = g0 := by
    funext r
    cases hr : g r with
    | none => rfl
    | some gx => exact absurd (hF.dom r gx hr) (Nat.not_lt_zero _)
  subst hg
  have hM : Mafter M g0 g0 = M := by
    funext b o
    refine propext ⟨fun h => ?_, fun h => .inl ⟨h, fun ⟨_, _, hx, _⟩ => by cases hx⟩⟩
    exact h.elim (fun h => h.1) fun ⟨_, _, hx, _⟩ => by cases hx
  refine (h M w vs x z hG hF.mlt hF.args hz).mono fun e w' hp => ?_
  obtain ⟨vs', he, hE, hA⟩ := hp
  refine ⟨vs', g0, he, ExtX.of_ext hE, ?_, ?_, fun _ _ h _ => (by cases h), fun b hb => .inl hb⟩
  · rw [hM]; exact Step.ext hE
  · rw [hM]
    exact { args := hA, res := fun r blk h => (by cases h), dom := fun r gx h => (by cases h), inj := fun _ _ _ _ _ h => (by cases h), low := fun _ _ _ h => (by cases h), chg := fun _ _ _ _ h => (by cases h), mlt := fun b o h => Nat.lt_of_lt_of_le (hF.mlt b o h) hE.size, row := fun _ _ _ h => (by cases h) }
section
variable {M : Nat → Nat → Prop} {w : World}
theorem RepV.str {x : Str} {v : Value} (h : RepV M w .str x v) : v = .string ⟨List.toArray x⟩ := by
  have := RepV.plain rfl h
  have := (show [v] = [.string ⟨List.toArray x⟩] from this)
  injection this
theorem RepV.u8 {x : UInt8} {v : Value} (h : RepV M w .u8 x v) : v = .int .u8 (UInt8.toNat x) := by
  have := RepV.plain rfl h
  have := (show [v] = [.int .u8 (UInt8.toNat x)] from this)
  injection this
theorem RepV.int {k : IntKind} {x : Int} {v : Value} (h : RepV M w (.int k) x v) : v = .int k x := by
  have := RepV.plain rfl h
  have := (show [v] = [.int k x] from this)
  injection this
theorem vStr (x : Str) : RepV M w .str x (.string ⟨List.toArray x⟩) := RepC.toV rfl rfl
theorem vInt (k : IntKind) (x : Int) : RepV M w (.int k) x (.int k x) := RepC.toV rfl rfl
theorem vBool (x : Bool) : RepV M w .bool x (.bool x) := RepC.toV rfl rfl
theorem RepV.strs {xs : List Str} {v : Value} (h : RepV M w (.sl .str) xs v) : ∃ A c, v = .slice A xs.length c ∧ xs.length ≤ c ∧ c ≤ maxLen ∧ (xs ≠ [] → ∃ b o, A = some ⟨b, o, none⟩ ∧ ∀ j x, xs[j]? = some x → w.cell? ⟨b, o + j, none⟩ = some (.string ⟨x.toArray⟩)) := by
  obtain ⟨A, c, h1, h2, h3, h4⟩ := RepV.plain (t := .sl .str) rfl h
  injection h1 with h1
  refine ⟨A, c, h1, h2, h3, fun hx => ?_⟩
  have hat : ∀ i (h : i < xs.length), ∃ ad, A = some ad ∧ w.cell? (ad.add i) = some (.string ⟨xs[i].toArray⟩) := fun i hi => by
    obtain ⟨ad, es, a1, a2, a3⟩ := h4 i hi
    have a2' : es = [.string ⟨xs[i].toArray⟩] := a2
    subst a2'
    have := (a3 0 _ rfl).1
    have e : (ad.add (i * Ty.sz .str)).add 0 = ad.add i := by show Addr.add (Addr.add ad (i * 1)) 0 = _; rw [Nat.mul_one]; rfl
    rw [e] at this
    exact ⟨ad, a1, this⟩
  have hl : 0 < xs.length := by cases xs with
    | nil => exact absurd rfl hx
    | cons => exact Nat.succ_pos _
  obtain ⟨ad, a1, a2⟩ := hat 0 hl
  obtain ⟨b, o, sp⟩ := ad
  have hsp : sp = none := by
    cases sp with
    | none => rfl
    | some s =>
      have : w.cell? (⟨b, o, some s⟩ : Addr) = none := by
        unfold World.cell?
        split
        · rfl
        · rfl
      rw [show Addr.add ⟨b, o, some s⟩ 0 = ⟨b, o, some s⟩ from rfl, this] at a2
      cases a2
  subst hsp
  refine ⟨b, o, a1, fun j x hj => ?_⟩
  have hj' : j < xs.length := by
    rcases Nat.lt_or_ge j xs.length with h | h
    · exact h
    · rw [List.getElem?_eq_none h] at hj; cases hj
  obtain ⟨ad, b1, b2⟩ := hat j hj'
  rw [a1] at b1
  injection b1 with b1
  subst b1
  rw [List.getElem?_eq_getElem hj'] at hj
  injection hj with hj
  subst hj
  have e : Addr.add ⟨b, o, none⟩ j = ⟨b, o + j, none⟩ := by unfold Addr.add; split <;> simp_all
  rwa [e] at b2
end
end Go.Proofs.YtbekhaioddmliaaGreatDoor


/- strings.Trim and strings.Join, out of the kit's contracts. -/
namespace Go.Proofs.YtbekhaioddmliaaGreatDoor
set_option linter.unusedVariables false
set_option linter.unusedSimpArgs false
open Go Go.RowKit Go.Shelf
def strings_Trim (a b : Str) : Option Str := if a.length ≤ 9223372036854775807 ∧ b.length < 1000000 ∧ b.all (fun c => decide (c.toNat < 128)) = true then some (Lib.trimS a b) else none
theorem z74sound : Sound Tryz.prog GW B0G 102 ⟨[.v .str, .v .str], [], [.v .str], [], Str, fun z => ((z, ()), ()), fun x _ => strings_Trim x.1 x.2.1⟩ := by
  refine Sound.ofExt Tryz.call102 fun M w vs x z hG hM hA hz => ?_
  obtain ⟨a, b, u⟩ := x
  match vs, hA with
  | [v1, v2], hA =>
    obtain ⟨h1, h2, _⟩ := hA
    rw [RepV.str h1, RepV.str h2]
    change strings_Trim a b = some z at hz
    unfold strings_Trim at hz
    split at hz
    · rename_i hc
      injection hz with hz
      subst hz
      refine (Any.strings_Trim_laid Tryz.lays160 (by kernel_rfl) ⟨a.toArray⟩ ⟨b.toArray⟩ w hc.1 (Nat.lt_of_lt_of_le hc.2.1 (by decide)) (ascii_of_all hc.2.2)).mono fun e w' hp => ?_
      exact ⟨[_], hp.1, hp.2, vStr _, trivial⟩
    · cases hz
def strings_Join (l : List Str) (sep : Str) : Option Str := if (Lib.join l sep).length ≤ 140737488355328 ∧ l.length ≤ 140737488355328 then some (Lib.join l sep) else none
theorem z73sound : Sound Tryz.prog GW B0G 93 ⟨[.v (.sl .str), .v .str], [], [.v .str], [], Str, fun z => ((z, ()), ()), fun x _ => strings_Join x.1 x.2.1⟩ := by
  refine Sound.ofExt Tryz.call93 fun M w vs x z hG hM hA hz => ?_
  obtain ⟨l, b, u⟩ := x
  match vs, hA with
  | [v1, v2], hA =>
    obtain ⟨h1, h2, _⟩ := hA
    obtain ⟨A, c, e1, hc1, hc2, hcell⟩ := RepV.strs h1
    rw [e1, RepV.str h2]
    change strings_Join l b = some z at hz
    unfold strings_Join at hz
    split at hz
    · rename_i hc
      injection hz with hz
      subst hz
      rcases Classical.em (l = []) with hl | hl
      · subst hl
        refine (Any.strings_Join_none Tryz.lays156 Tryz.Builder_Extra_156 A c ⟨b.toArray⟩ w).mono fun e w' hp => ?_
        exact ⟨[_], hp.1, hp.2 ▸ Ext.refl w, vStr _, trivial⟩
      · replace hcell := hcell hl
        obtain ⟨bk, o, rfl, hcell⟩ := hcell
        have hm : (l.map fun x => (⟨x.toArray⟩ : ByteArray)).map (·.data.toList) = l := by rw [List.map_map]; exact List.map_id' l
        have hbk : bk < w.heap.size := by
          cases l with
          | nil => exact absurd rfl hl
          | cons x r => exact World.block_lt_of_cell? w _ (hcell 0 x rfl)
        have := Any.strings_Join Tryz.lays156 Tryz.Builder_Extra_156 bk o c (l.map fun x => (⟨x.toArray⟩ : ByteArray)) ⟨b.toArray⟩ w (fun j x hj => by
          rw [List.getElem?_map] at hj
          cases hx : l[j]? with
          | none => rw [hx] at hj; cases hj
          | some y => rw [hx] at hj; injection hj with hj; subst hj; exact hcell j y hx) hbk (by rw [List.length_map]; exact hc.2) (by rw [List.length_map]; exact hc1) (by rw [hm]; exact hc.1)
        rw [hm, List.length_map] at this
        refine this.mono fun e w' hp => ?_
        exact ⟨[_], hp.1, hp.2, vStr _, trivial⟩
    · cases hz
end Go.Proofs.YtbekhaioddmliaaGreatDoor



/- More functions of Go's library, out of the kit's contracts. -/
namespace Go.Proofs.YtbekhaioddmliaaGreatDoor
set_option linter.unusedVariables false
set_option linter.unusedSimpArgs false
open Go Go.RowKit Go.Shelf
theorem vStrs {M : Nat → Nat → Prop} {w w' : World} (hM : ∀ b o, M b o → b < w.heap.size) (xs : List Str) (hl : xs.length ≤ maxLen) (e : TypeId)
    (hw : w' = w.alloc (.cells (xs.map fun x => Value.string ⟨x.toArray⟩).toArray e)) : RepV M w' (.sl .str) xs (.slice (some ⟨w.heap.size, 0, none⟩) xs.length xs.length) := by
  subst hw
  refine RepC.toV rfl ⟨some ⟨w.heap.size, 0, none⟩, xs.length, rfl, Nat.le_refl _, hl, fun i hi => ⟨⟨w.heap.size, 0, none⟩, [.string ⟨xs[i].toArray⟩], rfl, rfl, fun j u hu => ?_⟩⟩
  cases j with
  | succ j => simp at hu
  | zero =>
    simp only [List.getElem?_cons_zero, Option.some.injEq] at hu
    subst hu
    have e2 : (((⟨w.heap.size, 0, none⟩ : Addr).add (i * Ty.sz .str)).add 0) = ⟨w.heap.size, i, none⟩ := by
      show Addr.add (Addr.add _ (i * 1)) 0 = _
      rw [Nat.mul_one]
      unfold Addr.add; split <;> simp_all
    rw [e2, World.cell?_alloc_new]
    refine ⟨?_, fun hM' => ?_⟩
    · simp [hi]
    · exact absurd (hM _ _ hM') (Nat.lt_irrefl _)
def splitS (a b : Str) : List Str := (Lib.splitB ⟨b.toArray⟩ 0 (Lib.countB ⟨a.toArray⟩ ⟨b.toArray⟩) ⟨a.toArray⟩).map fun x => x.data.toList
end Go.Proofs.YtbekhaioddmliaaGreatDoor



/- strings.ContainsFunc of a function of the program, out of the kit's contract. -/
namespace Go.Proofs.YtbekhaioddmliaaGreatDoor
set_option linter.unusedVariables false
set_option linter.unusedSimpArgs false
open Go Go.RowKit Go.Shelf
theorem strings_ContainsFunc_ext {f : FuncId} {p : Int → Option Bool} {q : Nat → Bool} {out : Bool → SV [.v .bool] × BV []} {ho : ∀ z, (out z).1 = (z, ())}
    (hs : Sound Tryz.prog GW B0G f ⟨[.v (.int .i32)], [], [.v .bool], [], Bool, out, fun x _ => p x.1⟩) (hq : ∀ n : Nat, n ≤ 1114111 → p (n : Int) = some (q n)) :
    Sound Tryz.prog GW B0G 117 ⟨[.v .str, .v (.clo f .un)], [], [.v .bool], [], Bool, fun z => ((z, ()), ()), fun x _ => some (decide (0 ≤ Lib.idxFunc q true ⟨x.1.toArray⟩))⟩ := by
  refine Sound.ofExt Tryz.call117 fun M w vs x z hG hM hA hz => ?_
  obtain ⟨a, b, u⟩ := x
  match vs, hA with
  | [v1, v2], hA =>
    obtain ⟨h1, h2, _⟩ := hA
    have h3 := RepV.plain (t := .clo f .un) rfl h2
    obtain ⟨caps, h4, h5⟩ := h3
    injection h4 with h4
    have h6 : caps = #[] := by
      have : caps.toList = [] := h5
      exact Array.toList_eq_nil_iff.1 this
    subst h6
    rw [RepV.str h1, h4]
    injection hz with hz
    subst hz
    refine (Tryz.strings_ContainsFunc_grows f #[] hs.1 q ⟨a.toArray⟩ w fun W n hn hb => ?_).mono fun e w' hp => ?_
    · have hG' : GW W := GW_stable w W (fun _ => False) hG (ExtX.of_ext hb) fun _ h => h.elim
      have := hs.2 M00' W g0 [.int .i32 n] ((n : Int), ()) () (q n) hG' (GW_size hG') { args := ⟨vInt .i32 n, trivial⟩, res := fun r blk h => (by cases h), dom := fun r gx h => (by cases h), inj := fun _ _ _ _ _ h => (by cases h), low := fun _ _ _ h => (by cases h), chg := fun _ _ _ _ h => (by cases h), mlt := fun b o h => h.elim, row := fun _ _ _ h => (by cases h) } (hq n hn)
      refine this.mono fun e w' hp => ?_
      obtain ⟨vs', g', he, hE, _, hF, _⟩ := hp
      refine ⟨?_, hE.ext fun b hb => ?_⟩
      · have hA := hF.args
        rw [ho] at hA
        match vs', hA with
        | [v], ⟨k1, _⟩ =>
          have k2 := RepV.plain (t := .bool) rfl k1
          have k3 : [v] = [.bool (q n)] := k2
          injection k3 with k3
          rw [he, k3]
          rfl
      · obtain ⟨r, x, h, _⟩ := hb
        cases h
    · exact ⟨[_], hp.1, hp.2, vBool _, trivial⟩
end Go.Proofs.YtbekhaioddmliaaGreatDoor



/- How a contract of a function that turns a row of its caller's is said of the machine. -/
namespace Go.Proofs.YtbekhaioddmliaaGreatDoor
set_option linter.unusedVariables false
set_option linter.unusedSimpArgs false
open Go Go.RowKit Go.Shelf
def Els (M : Nat → Nat → Prop) (w : World) (t : Ty) (xs : List t.den) (cs : List Value) : Prop := ∀ i (h : i < xs.length), RepC M w t xs[i] ((cs.drop (i * t.sz)).take t.sz)
def backS (b : Bool) : List Sl := match b with | true => [.row 0] | false => []
def backX : (b : Bool) → SV (backS b)
  | true => ((), ())
  | false => ()
def backV (b : Bool) (v : Value) : Value := match b with | true => v | false => .tuple #[]
def backL (b : Bool) (v : Value) : List Value := match b with | true => [v] | false => []
theorem own_lt {w : World} {base : Nat} {e : TypeId} {sz : Nat} {v : Value} {n : Nat} {cs : List Value} (h : w.ownsRow base e sz v n cs) {b : Nat} (hb : v.ownBlock = some b) : b < w.heap.size := by
  rcases h.2 with ⟨e1, _⟩ | ⟨g, cap, cur, e1, _, hg, _⟩
  · rw [e1] at hb; cases hb
  · rw [e1] at hb
    simp only [Value.ownBlock, Option.some.injEq] at hb
    subst hb
    exact lt_of_map hg
theorem ExtX.mono {X Y : Nat → Prop} {w w' : World} (h : ExtX X w w') (hX : ∀ k, X k → Y k) : ExtX Y w w' := ⟨h.os, h.tape, h.output, h.size, fun k hk hy => h.block k hk fun hx => hy (hX k hx)⟩
theorem Sound.ofRow2 {P : Program} {G : World → Prop} {B0 : Nat} {f : FuncId} {tt : Ty} {e : TypeId} {t : Ty} (back : Bool) {F : tt.den → List t.den → List t.den → Option (List t.den)}
    (hcall : ∀ (args : Array Value) (w : World), (callFunc f args).run P w = .ok (.enter f args) w) (hz : 0 < t.sz)
    (h : ∀ (M : Nat → Nat → Prop) (w : World) (g : Gh) (v0 vi : Value) (x : tt.den) (v1 : Value) (xs ys zs : List t.den) (cs cys : List Value), G w → (∀ b o, M b o → b < w.heap.size) → (∀ b, v0.ownBlock = some b → ∀ o, M b o) →
      w.ownsRow 0 e t.sz v0 xs.length cs → Els M w t xs cs → w.ownsRow 0 e t.sz v1 ys.length cys → Els M w t ys cys → (∀ b, v0.ownBlock = some b → v1.ownBlock ≠ some b) → RepV M w tt x vi → F x xs ys = some zs →
      Calls P f #[v0, vi, v1] w fun en w' => ∃ v' cs', en = .returned (backV back v') ∧ (back = false → v' = v0) ∧ ExtX (fun b => v0.ownBlock = some b) w w' ∧
        w'.ownsRow 0 e t.sz v' zs.length cs' ∧ Els M w t zs cs' ∧ ∀ b, v'.ownBlock = some b → v0.ownBlock = some b ∨ w.heap.size ≤ b) :
    Sound P G B0 f ⟨[.row 0, .v tt, .row 1], [.row e t true, .row e t false], backS back, [.row e t true, .none], List t.den, fun z => (backX back, (z, ((), ()))), fun x y => F x.2.1 y.1 y.2.1⟩ := by
  refine ⟨hcall, fun M w g vs0 x y zs hG hB hF hz' => ?_⟩
  obtain ⟨_, x, _, _⟩ := x
  obtain ⟨xs, ys, _⟩ := y
  match vs0, hF.args with
  | [v0, vi, v1], ⟨h0, hA, h1, _⟩ =>
    obtain ⟨gy, A1, n1, c1, hy0, hy1, _⟩ := h1
    obtain ⟨gy', hy', _, cys, hownY, hblkY, _, helsY⟩ := hF.res 1 (.row e t false ys) rfl
    replace hy0 : g 1 = some gy := hy0
    rw [hy'] at hy0
    cases hy0
    rw [← hy1] at hownY hblkY
    obtain ⟨gx, A, n, c, hg0, hv, hv2⟩ := h0
    obtain ⟨gx', hg', _, cs, hown, hblk, hlo, hels⟩ := hF.res 0 (.row e t true xs) rfl
    replace hg0 : g 0 = some gx := hg0
    rw [hg'] at hg0
    cases hg0
    have hlo : gx.lo = 0 := hlo
    rw [← hv] at hown hblk
    have hM : ∀ b, v0.ownBlock = some b → ∀ o, M b o := fun b hb o => (hF.chg 0 gx b o hg' (by rw [hblk]; exact hb)).2 (by rw [hlo]; exact Nat.zero_le _)
    have honly : ∀ r gz, g r = some gz → r = 0 ∨ r = 1 := fun r gz hr => by
      have h2 : r < 2 := hF.dom r gz hr
      omega
    have hX : ∀ b, v0.ownBlock = some b → Xof g b := fun b hb => ⟨0, gx, hg', by rw [hblk]; exact hb⟩
    have hne : ∀ b, v0.ownBlock = some b → v1.ownBlock ≠ some b := fun b h1 h2 => by
      have := hF.inj 0 1 gx gy b hg' hy' (by rw [hblk]; exact h1) (by rw [hblkY]; exact h2)
      cases this
    refine (h M w g v0 vi x v1 xs ys zs cs cys hG hF.mlt hM hown hels hownY helsY hne hA hz').mono fun en w' hp => ?_
    obtain ⟨v', cs', he, hsame, hE, hown', hels', hblk'⟩ := hp
    obtain ⟨g', hgd⟩ : ∃ g' : Gh, g' = fun r => if r = 0 then some ⟨v'.ownBlock, 0, v'⟩ else none := ⟨_, rfl⟩
    have hg0' : g' 0 = some ⟨v'.ownBlock, 0, v'⟩ := by rw [hgd]; rfl
    have hgo : ∀ r gy, g' r = some gy → r = 0 ∧ gy = ⟨v'.ownBlock, 0, v'⟩ := fun r gy hr => by
      rw [hgd] at hr
      by_cases h0 : r = 0
      · subst h0; simp at hr; exact ⟨rfl, hr.symm⟩
      · simp [h0] at hr
    have hnew : ∀ b o, Mafter M g g' b o → (M b o ∧ v0.ownBlock ≠ some b) ∨ v'.ownBlock = some b := fun b o hm => by
      rcases hm with ⟨hm, hx⟩ | ⟨r, gy, hr, hb, _⟩
      · exact .inl ⟨hm, fun hb => hx (hX b hb)⟩
      · obtain ⟨_, rfl⟩ := hgo r gy hr
        exact .inr hb
    have hstep : Step M w (Mafter M g g') w' := by
      have key : ∀ b o, b < w.heap.size → ¬ M b o → w'.heap[b]? = w.heap[b]? ∧ ¬ Mafter M g g' b o := fun b o hb hm => by
        have hnb : v0.ownBlock ≠ some b := fun h => hm (hM b h o)
        refine ⟨hE.block b hb hnb, fun hm' => ?_⟩
        rcases hnew b o hm' with ⟨h1, _⟩ | h1
        · exact hm h1
        · rcases hblk' b h1 with h2 | h2
          · exact hnb h2
          · omega
      refine ⟨fun ad u hu hm => ?_, fun b es c hb hm => ?_⟩
      · have hlt : ad.block < w.heap.size := World.block_lt_of_cell? w _ hu
        obtain ⟨h1, h2⟩ := key ad.block ad.off hlt hm
        exact ⟨(cell_of_block h1).trans hu, h2⟩
      · obtain ⟨h1, h2⟩ := key b 0 (lt_of_map hb) hm
        exact ⟨h1.trans hb, h2⟩
    obtain ⟨A', c', hv', _⟩ := Row.of_own' hown'
    have hlow : ∀ b, v'.ownBlock = some b → B0 ≤ b ∧ b < w'.heap.size := fun b hb => by
      refine ⟨?_, own_lt hown' hb⟩
      rcases hblk' b hb with h1 | h1
      · exact (hF.low 0 gx b hg' (by rw [hblk]; exact h1)).1
      · omega
    have hrow : RepD0 (Mafter M g g') w' g' (.row 0) v' := ⟨_, A', _, c', hg0', rfl, hv'⟩
    refine ⟨(backL back v'), g', ?_, ⟨hE.os, hE.tape, hE.output, hE.size, fun k hk hx => hE.block k hk fun hb => hx (hX k hb)⟩, hstep, ?_, fun r gy hr hbm => ?_, fun b hb => ?_⟩
    · rw [he]
      cases back <;> rfl
    · exact {
        args := by cases back with
          | true => exact ⟨hrow, trivial⟩
          | false => trivial
        res := fun r blk hr => by
          cases r with
          | zero =>
            obtain rfl : Blk.row e t true zs = blk := Option.some.inj hr
            exact ⟨_, hg0', hz, cs', hown', rfl, rfl, fun i hi => RepC.step hstep _ _ _ (hels' i hi)⟩
          | succ r =>
            cases r with
            | zero => cases hr
            | succ r => cases hr
        dom := fun r gy hr => by obtain ⟨rfl, _⟩ := hgo r gy hr; exact Nat.zero_lt_two
        inj := fun r r' gy gy' b hr hr' _ _ => by obtain ⟨rfl, _⟩ := hgo r gy hr; obtain ⟨rfl, _⟩ := hgo r' gy' hr'; rfl
        low := fun r gy b hr hb => by obtain ⟨_, rfl⟩ := hgo r gy hr; exact hlow b hb
        chg := fun r gy b o hr hb => ⟨fun _ => by obtain ⟨_, rfl⟩ := hgo r gy hr; exact Nat.zero_le _, fun hle => .inr ⟨r, gy, hr, hb, hle⟩⟩
        mlt := fun b o hm => by
          rcases hnew b o hm with ⟨h1, _⟩ | h1
          · exact Nat.lt_of_lt_of_le (hF.mlt b o h1) hE.size
          · exact (hlow b h1).2
        row := fun r gy b hr hb h0 => by obtain ⟨_, rfl⟩ := hgo r gy hr; exact absurd h0 (Nat.lt_irrefl 0) }
    · rcases honly r gy hr with rfl | rfl
      · rw [hg'] at hr; cases hr
        rw [← hv] at hbm
        exact (own_notBM hown hbm).elim
      · rw [hy'] at hr; cases hr
        rw [← hy1] at hbm
        exact (own_notBM hownY hbm).elim
    · obtain ⟨r, gy, hr, hb⟩ := hb
      obtain ⟨_, rfl⟩ := hgo r gy hr
      rcases hblk' b hb with h1 | h1
      · exact .inl (hX b h1)
      · exact .inr h1
theorem setCells_block (b : Nat) (e : TypeId) (fz : Nat × Nat) : ∀ (vs : List Value) (o : Nat) (w : World) (cur : Array Value), w.heap[b]? = some (.cells cur e fz) → o + vs.length ≤ cur.size →
    (w.setCells b o vs).heap[b]? = some (.cells (cur.toList.take o ++ vs ++ cur.toList.drop (o + vs.length)).toArray e fz)
  | [], o, w, cur, h, hl => by
    show w.heap[b]? = _
    rw [h]; simp
  | v :: vs, o, w, cur, h, hl => by
    simp only [List.length_cons] at hl
    have h1 : (w.setCell ⟨b, o, none⟩ v).heap[b]? = some (.cells (cur.setIfInBounds o v) e fz) := by
      unfold World.setCell
      rw [Array.getElem?_modify]
      simp [h]
    have ih := setCells_block b e fz vs (o + 1) _ _ h1 (by rw [Array.size_setIfInBounds]; omega)
    show ((w.setCell ⟨b, o, none⟩ v).setCells b (o + 1) vs).heap[b]? = _
    rw [ih]
    have hs : (cur.setIfInBounds o v).toList = cur.toList.set o v := by simp
    rw [hs]
    have ho : o < cur.toList.length := by rw [Array.length_toList]; omega
    congr 3
    apply List.ext_getElem?
    intro k
    rw [List.length_cons]
    simp only [List.getElem?_append, List.length_append, List.length_take, List.length_set, Array.length_toList, List.getElem?_take, List.getElem?_drop, List.getElem?_set, List.length_cons]
    have hm1 : min (o + 1) cur.size = o + 1 := by omega
    have hm0 : min o cur.size = o := by omega
    rw [hm1, hm0]
    by_cases hk : k < o
    · simp [hk, show k < o + 1 by omega, show k < o + 1 + vs.length by omega, show k < o + (vs.length + 1) by omega, show ¬ o = k by omega]
    · by_cases hk2 : k = o
      · subst hk2
        simp [show k < k + 1 + vs.length by omega, show k < cur.size by omega]
      · by_cases hk3 : k < o + 1 + vs.length
        · have : ∃ j, k = o + 1 + j := ⟨k - (o + 1), by omega⟩
          obtain ⟨j, rfl⟩ := this
          simp [show ¬ o + 1 + j < o by omega, show o + 1 + j < o + 1 + vs.length by omega, show o + 1 + j < o + (vs.length + 1) by omega, show ¬ (o + 1 + j < o + 1) by omega, show o + 1 + j - o = j + 1 by omega, show o + 1 + j - (o + 1) = j by omega]
        · simp [show ¬ k < o by omega, show ¬ k < o + 1 + vs.length by omega, show ¬ k < o + (vs.length + 1) by omega, show o + 1 + vs.length + (k - (o + 1 + vs.length)) = k by omega, show o + (vs.length + 1) + (k - (o + (vs.length + 1))) = k by omega, show ¬ o = k by omega]
end Go.Proofs.YtbekhaioddmliaaGreatDoor


/- slices.Delete of strings, out of the kit's contract: it turns a row of its caller's. -/
namespace Go.Proofs.YtbekhaioddmliaaGreatDoor
set_option linter.unusedVariables false
set_option linter.unusedSimpArgs false
open Go Go.RowKit Go.Shelf
end Go.Proofs.YtbekhaioddmliaaGreatDoor



/- slices.Insert of one pair into a row of the call's own: walked. -/
namespace Go.Proofs.YtbekhaioddmliaaGreatDoor
set_option linter.unusedVariables false
set_option linter.unusedSimpArgs false
open Go Go.RowKit Go.Shelf Go.Lib
section
theorem run_copy_k {P : Program} (k : Nat) (w : World) (dT sT ty elem : TypeId) (b o dLen dCap : Nat) (a : Addr) (sLen sCap : Nat) (cs : List Value)
    (hu : P.underlying dT = some (.slice elem)) (hs : (P.info? elem).map (·.size) = some k) (q : Nat) (hq : q = Nat.min sLen dLen) (hn : cs.length = q * k)
    (hsrc : ∀ j v, cs[j]? = some v → w.cell? (a.add j) = some v) (hc : ∀ j, j < cs.length → (w.cell? ⟨b, o + j, none⟩).isSome = true) (hf : ∀ j, j < cs.length → w.frozen? ⟨b, o + j, none⟩ = false) (h1 : ∀ v ∈ cs, v.oneCell' = true) :
    (Builtin.copy_ #[dT, sT] ty #[.slice (some ⟨b, o, none⟩) dLen dCap, .slice (some a) sLen sCap]).run P w = .ok (goInt q) (w.setCells b o cs) := by
  have hl := run_loadCells_list (P := P) w a cs hsrc
  have hst := run_storeCells_cells (P := P) b o cs 0 w (by simpa using hc) (by simpa using hf) h1
  rw [hn] at hl
  cases hi : P.info? elem with
  | none => simp [hi] at hs
  | some i =>
    have hi' : i.size = k := by simpa [hi] using hs
    simp [Builtin.copy_, run_underlying hu, Builtin.lenOf, Builtin.firstCells, sizeOf, typeInfo, hi, hi', ← hq, hl, hst]
set_option maxHeartbeats 4000000 in
set_option maxRecDepth 100000 in
theorem insP_shift (b n c i vb vc : Nat) (cs vs : List Value) (w : World) (hi : i < n) (hroom : n + 1 ≤ c) (hc63 : c ≤ 9223372036854775807) (hvb : vb ≠ b)
    (hcl : cs.length = n * 2) (hvl : vs.length = 2)
    (hcs : ∀ j v, cs[j]? = some v → w.cell? ⟨b, j, none⟩ = some v) (hsp : ∀ j, j < (n + 1) * 2 → (w.cell? ⟨b, j, none⟩).isSome = true) (hfz : ∀ j, w.frozen? ⟨b, j, none⟩ = false)
    (hvs : ∀ j v, vs[j]? = some v → w.cell? ⟨vb, j, none⟩ = some v) (h1c : ∀ v ∈ cs, v.oneCell' = true) (h1v : ∀ v ∈ vs, v.oneCell' = true)
    (tA tB : TypeId) (kA kB : Nat) (hsa : w.shape? vb = some (tA, kA)) (hsb : w.shape? b = some (tB, kB)) (hkB : kB ≠ 0) (hfa : w.frozen? ⟨vb, 0, none⟩ = false) (hfe : w.frozen? ⟨vb, kA, none⟩ = false) :
    Calls Tryz.prog 99 #[.slice (some ⟨b, 0, none⟩) n c, .int .i64 i, .slice (some ⟨vb, 0, none⟩) 1 vc] w fun e w' =>
      e = .returned (.slice (some ⟨b, 0, none⟩) (n + 1) c) ∧ w' = (w.drew.setCells b ((i + 1) * 2) (cs.drop (i * 2))).setCells b (i * 2) vs := by
  have hz2 : ¬ ((i : Int) = (n : Int)) := by omega
  have hov : ∀ lb cb, (callFunc 145 #[.slice (some ⟨vb, 0, none⟩) 1 vc, .slice (some ⟨b, (i + 1) * 2, none⟩) lb cb]).run Tryz.prog w = .ok (.value (.bool false)) w := fun lb cb => by
    rw [run_callFunc_extern Tryz.func145 (by kernel_rfl) (by kernel_rfl) (by kernel_rfl) (e := Extern.SlicesOverlaps.overlaps #[33, 33] #[4]) (by kernel_rfl),
      Lib.run_overlaps_apart w 33 4 53 Tryz.underlying33 2 Tryz.sizeOf53 ⟨vb, 0, none⟩ ⟨b, (i + 1) * 2, none⟩ 1 vc lb cb hvb tA tB kA kB hsa hsb hkB hfa hfe]
    rfl
  have hdl : (cs.drop (i * 2)).length = (n - i) * 2 := by rw [List.length_drop, hcl, Nat.sub_mul]
  have mixed : Tryz.prog.follows .mixedOrders = true := by kernel_rfl
  have hsz : (Tryz.prog.info? 53).map (·.size) = some 2 := by kernel_rfl
  have hw1 : IntKind.i64.wrap ((i : Int) + 1) = (i : Int) + 1 := by rw [IntKind.wrap_i64]; omega
  have hw2 : IntKind.i64.wrap ((n : Int) + 1) = (n : Int) + 1 := by rw [IntKind.wrap_i64]; omega
  have hb1 : (0 : Int) ≤ (i : Int) + 1 := by omega
  have hin : i ≤ n := by omega
  have htn : ((i : Int) + 1).toNat = i + 1 := by omega
  have hb2 : ¬ (c = i + 1) := by omega
  have hb3 : (i : Int) ≤ (n : Int) + 1 := by omega
  have hb4 : ¬ (c = i) := by omega
  have hcp1 : ∀ ty dc sc, (Builtin.copy_ #[33, 33] ty #[.slice (some ⟨b, (i + 1) * 2, none⟩) (n - i) dc, .slice (some ⟨b, i * 2, none⟩) (n + 1 - i) sc]).run Tryz.prog w.drew = .ok (goInt (n - i : Nat)) (w.drew.setCells b ((i + 1) * 2) (cs.drop (i * 2))) := fun ty dc sc =>
    run_copy_k 2 w.drew _ _ ty 53 b ((i + 1) * 2) (n - i) dc ⟨b, i * 2, none⟩ (n + 1 - i) sc (cs.drop (i * 2)) Tryz.underlying33 hsz (n - i) (by simp only [Nat.min_def]; split <;> omega) hdl
      (fun j v hj => by rw [Addr.add_lit]; exact hcs (i * 2 + j) v (by rwa [List.getElem?_drop] at hj))
      (fun j hj => hsp _ (by omega)) (fun j hj => hfz _) (fun v hv => h1c v (List.mem_of_mem_drop hv))
  obtain ⟨W1, hW1⟩ : ∃ W1, W1 = w.drew.setCells b ((i + 1) * 2) (cs.drop (i * 2)) := ⟨_, rfl⟩
  have hsp1 : ∀ k, k < (n + 1) * 2 → (W1.cell? ⟨b, k, none⟩).isSome = true := fun k hk => by
    rw [hW1]
    exact isSome_setCells b (cs.drop (i * 2)) ((i + 1) * 2) w.drew (fun j hj => hsp _ (by rw [hdl] at hj; omega)) k (hsp k hk)
  have hcp2 : ∀ (W : World), (∀ x, W.cell? x = W1.cell? x) → (∀ x, W.frozen? x = W1.frozen? x) → ∀ ty dc, (Builtin.copy_ #[33, 33] ty #[.slice (some ⟨b, i * 2, none⟩) (n + 1 - i) dc, .slice (some ⟨vb, 0, none⟩) 1 vc]).run Tryz.prog W = .ok (goInt (1 : Nat)) (W.setCells b (i * 2) vs) := fun W hWc hWf ty dc =>
    run_copy_k 2 W _ _ ty 53 b (i * 2) (n + 1 - i) dc ⟨vb, 0, none⟩ 1 vc vs Tryz.underlying33 hsz 1 (by simp only [Nat.min_def]; split <;> omega) (by omega)
      (fun j v hj => by
        rw [Addr.add_lit, Nat.zero_add, hWc, hW1, World.cell?_setCells_out b _ _ _ _ (fun h _ => absurd h hvb)]
        exact hvs j v hj)
      (fun j hj => by rw [hWc]; exact hsp1 _ (by omega)) (fun j hj => by rw [hWf, hW1, World.frozen?_setCells]; exact hfz _) h1v
  rw [← hW1] at hcp1
  go_enter Tryz.func99, Tryz.ntmps99
  go_wp2_with (simp only [hov])
  go_region_law_o (refine step_copy_runI rfl _ _ 33 33 rfl _ _ (by simp [Act.eval, Act.put]) (by simp [Act.eval, Act.put]) (hcp1 _ _ _) ?_)
  go_wp2_with (at_builtin; refine wpList_copy_runI _ rfl _ _ 33 33 rfl _ _ rfl rfl (hcp2 _ (fun _ => rfl) (fun _ => rfl) _ _) ?_)
  go_ret
  first | exact ⟨rfl, rfl⟩ | exact ⟨rfl, by rw [hW1]⟩
theorem elemP : ElemT Tryz.prog 33 53 2 32 := ElemT.mk_ Tryz.underlying33 (z := .agg #[.string ⟨#[]⟩, .string ⟨#[]⟩]) (by kernel_rfl) rfl (by decide) (by decide)
set_option maxHeartbeats 4000000 in
set_option maxRecDepth 100000 in
theorem insP_end (v : Value) (n vb vc : Nat) (cs vs : List Value) (w : World) (hown : w.ownsRow 0 53 2 v n cs) (hvl : vs.length = 2)
    (hvs : ∀ j v, vs[j]? = some v → w.cell? ⟨vb, j, none⟩ = some v) (h1v : ∀ v ∈ vs, v.oneCell' = true) (hbig : (n + 1) * 32 ≤ 140737488355328) :
    Calls Tryz.prog 99 #[v, .int .i64 n, .slice (some ⟨vb, 0, none⟩) 1 vc] w fun e w' => ∃ v', e = .returned v' ∧ w'.ownsRow 0 53 2 v' (n + 1) (cs ++ vs) ∧
      ((v'.ownBlock = v.ownBlock ∧ w.grownBy w' v.ownBlock) ∨ (Ext w w' ∧ v'.ownBlock = some w.heap.size)) := by
  have hap : ∀ ty, ∃ v' w', (Builtin.append_ #[33, 33] ty #[v, .slice (some ⟨vb, 0, none⟩) 1 vc]).run Tryz.prog w = .ok v' w' ∧ w'.ownsRow 0 53 2 v' (n + 1) (cs ++ vs) ∧
      ((v'.ownBlock = v.ownBlock ∧ w.grownBy w' v.ownBlock) ∨ (Ext w w' ∧ v'.ownBlock = some w.heap.size)) := fun ty =>
    run_append2 w 0 33 ty 53 2 32 elemP v n cs hown (Nat.zero_le _) (some ⟨vb, 0, none⟩) 1 vc vs (by omega) (fun _ => ⟨⟨vb, 0, none⟩, rfl, fun j u hj => by rw [Addr.add_lit, Nat.zero_add]; exact hvs j u hj⟩) h1v hbig
  have mixed : Tryz.prog.follows .mixedOrders = true := by kernel_rfl
  obtain ⟨v', w', hrun, h2, h3⟩ := hap 33
  rcases hown.2 with ⟨rfl, rfl⟩ | ⟨b, c, cur, rfl, _, hg, hle, hmax, _, _⟩
  · go_enter Tryz.func99, Tryz.ntmps99
    go_wp2_with (at_builtin; refine Lib.wpList_append_run _ rfl _ _ _ _ rfl _ _ rfl rfl _ _ hrun ?_)
    go_ret
    exact ⟨v', rfl, h2, h3⟩
  · clear hap
    have hle2 : (n : Int) ≤ (c : Int) := by omega
    go_enter Tryz.func99, Tryz.ntmps99
    go_wp2_with (at_builtin; refine Lib.wpList_append_run _ rfl _ _ _ _ rfl _ _ rfl rfl _ _ hrun ?_)
    all_goals (go_ret; exact ⟨v', rfl, h2, h3⟩)
set_option maxHeartbeats 4000000 in
set_option maxRecDepth 100000 in
theorem insP_grow (b n c i vb vc : Nat) (cs vs : List Value) (w : World) (hi : i < n) (hnc : n ≤ c) (hroom : c < n + 1) (hbig : (n + 1) * 32 ≤ 140737488355328)
    (hcl : cs.length = n * 2) (hvl : vs.length = 2)
    (hcs : ∀ j v, cs[j]? = some v → w.cell? ⟨b, j, none⟩ = some v) (hvs : ∀ j v, vs[j]? = some v → w.cell? ⟨vb, j, none⟩ = some v) (h1c : ∀ v ∈ cs, v.oneCell' = true) (h1v : ∀ v ∈ vs, v.oneCell' = true) :
    Calls Tryz.prog 99 #[.slice (some ⟨b, 0, none⟩) n c, .int .i64 i, .slice (some ⟨vb, 0, none⟩) 1 vc] w fun e w' => ∃ G ROW, n + 1 ≤ G ∧ G ≤ maxLen ∧ ROW.size = G * 2 ∧ ROW.toList.take (i * 2) = cs.take (i * 2) ∧
      e = .returned (.slice (some ⟨w.heap.size, 0, none⟩) (n + 1) G) ∧
      w' = (((w.alloc (.cells ROW 53)).drew.setCells w.heap.size (i * 2) vs).drew).setCells w.heap.size ((i + 1) * 2) (cs.drop (i * 2)) := by
  have mixed : Tryz.prog.follows .mixedOrders = true := by kernel_rfl
  obtain ⟨ht, _, _, i0, z, hi0, hz0, hzs, hzb, hzc⟩ := elemP
  have hsz : (Tryz.prog.info? 53).map (·.size) = some 2 := by kernel_rfl
  have hz2 : ¬ ((i : Int) = (n : Int)) := by omega
  have hz3 : (c : Int) < (n : Int) + 1 := by omega
  have hbw : b < w.heap.size := block_lt_of_cell (hcs 0 _ (List.getElem?_eq_getElem (by omega)))
  have hvw : vb < w.heap.size := block_lt_of_cell (hvs 0 _ (List.getElem?_eq_getElem (by omega)))
  have hkk : (n : Int) + 1 - (i : Int) = ((n + 1 - i : Nat) : Int) := by omega
  have hik : i + (n + 1 - i) = n + 1 := by omega
  have hold : (Builtin.firstCells i0.size i (.slice (some ⟨b, 0, none⟩) i c)).run Tryz.prog w.drew = .ok (cs.take (i * 2)).toArray w.drew := by
    rw [hzs]
    exact run_firstCells_some w.drew 2 i ⟨b, 0, none⟩ i c (cs.take (i * 2)) (by rw [List.length_take]; omega) (fun j v hj => by
      rw [Addr.add_lit, Nat.zero_add]
      rw [List.getElem?_take] at hj
      split at hj
      · exact hcs j v hj
      · cases hj)
  have hn63 : n + 1 ≤ 9223372036854775807 := by omega
  have hrz : ∀ ty, (Builtin.append_ #[33, 3] ty #[.slice (some ⟨b, 0, none⟩) i c, .int .i64 ((n : Int) + 1 - (i : Int))]).run Tryz.prog w =
      .ok (.slice (some ⟨w.heap.size, 0, none⟩) (n + 1) (grownCap w (n + 1) c 53)) (w.drew.alloc (.cells ((cs.take (i * 2)).toArray ++ Builtin.zeroCells z.cells (n + 1 - i) ++ Builtin.zeroCells z.cells (grownCap w (n + 1) c 53 - (n + 1))) 53)) := fun ty => by
    have h := Lib.run_append_grow_zeros w 33 3 ty 53 i0 z .i64 .i64 ht Tryz.underlying3 hi0 hz0 (some ⟨b, 0, none⟩) i c (cs.take (i * 2)) hold (n + 1 - i) (by omega) (by omega) (by omega) (by omega) (by rw [hzb]; omega) (by rw [hzb, hik]; exact growslice_fits hroom hbig)
    rw [hik] at h
    rw [hkk]
    exact h
  obtain ⟨G, hG⟩ : ∃ G, G = grownCap w (n + 1) c 53 := ⟨_, rfl⟩
  obtain ⟨ROW, hROW⟩ : ∃ ROW : Array Value, ROW = (cs.take (i * 2)).toArray ++ Builtin.zeroCells z.cells (n + 1 - i) ++ Builtin.zeroCells z.cells (G - (n + 1)) := ⟨_, rfl⟩
  rw [← hG] at hrz
  rw [← hROW] at hrz
  have hGn : n + 1 ≤ G := by rw [hG]; exact grownCap_ge w _ _ _
  have hGm : G ≤ maxLen := by
    have := grownCap_le_maxLen w (n + 1) c 53 (by unfold maxLen; omega)
    rwa [← hG] at this
  have hRs : ROW.size = G * 2 := by
    rw [hROW]
    simp only [Array.size_append, List.size_toArray, List.length_take, Builtin.zeroCells, Array.size_map, Array.size_range, hzc]
    rw [Nat.min_eq_left (by omega)]
    omega
  have hRt : ROW.toList.take (i * 2) = cs.take (i * 2) := by
    rw [hROW]
    simp only [Array.toList_append, List.append_assoc]
    rw [List.take_append_of_le_length (by rw [List.length_take]; omega), List.take_take, Nat.min_self]
  have hRl : (n + 1) * 2 ≤ ROW.size := by rw [hRs]; omega
  obtain ⟨W1, hW1⟩ : ∃ W1, W1 = w.drew.alloc (.cells ROW 53) := ⟨_, rfl⟩
  rw [← hW1] at hrz
  have hN : ∀ j, j < (n + 1) * 2 → (W1.cell? ⟨w.heap.size, j, none⟩).isSome = true := fun j hj => by
    rw [hW1, World.cell?_alloc_at (w := w.drew) ROW _ w.heap.size j rfl, Array.getElem?_eq_getElem (by omega)]; rfl
  have hNf : ∀ j, W1.frozen? ⟨w.heap.size, j, none⟩ = false := fun j => by rw [hW1]; exact World.frozen?_alloc_at (w := w.drew) ROW _ w.heap.size j rfl
  have hOb : ∀ j v, w.cell? ⟨b, j, none⟩ = some v → W1.cell? ⟨b, j, none⟩ = some v := fun j v h => by rw [hW1, World.cell?_alloc_past (w := w.drew) _ b j hbw]; exact h
  have hOv : ∀ j v, w.cell? ⟨vb, j, none⟩ = some v → W1.cell? ⟨vb, j, none⟩ = some v := fun j v h => by rw [hW1, World.cell?_alloc_past (w := w.drew) _ vb j hvw]; exact h
  have hcpA : ∀ (W : World), (∀ x, W.cell? x = W1.cell? x) → (∀ x, W.frozen? x = W1.frozen? x) → ∀ ty dc, (Builtin.copy_ #[33, 33] ty #[.slice (some ⟨w.heap.size, i * 2, none⟩) (n + 1 - i) dc, .slice (some ⟨vb, 0, none⟩) 1 vc]).run Tryz.prog W = .ok (goInt (1 : Nat)) (W.setCells w.heap.size (i * 2) vs) := fun W hWc hWf ty dc =>
    run_copy_k 2 W _ _ ty 53 w.heap.size (i * 2) (n + 1 - i) dc ⟨vb, 0, none⟩ 1 vc vs ht hsz 1 (by simp only [Nat.min_def]; split <;> omega) (by omega)
      (fun j v hj => by rw [Addr.add_lit, Nat.zero_add, hWc]; exact hOv _ v (hvs j v hj))
      (fun j hj => by rw [hWc]; exact hN _ (by omega)) (fun j hj => by rw [hWf]; exact hNf _) h1v
  have hG63 : G ≤ 9223372036854775807 := by unfold maxLen at hGm; omega
  have hGi : ¬ (G = i) := by omega
  have hGim : ¬ (G = i + 1) := by omega
  have hci : ¬ (c = i) := by omega
  have hbN : b ≠ w.heap.size := by omega
  have hdl : (cs.drop (i * 2)).length = (n - i) * 2 := by rw [List.length_drop, hcl, Nat.sub_mul]
  have hcpB : ∀ (W : World), (∀ x, W.cell? x = (W1.setCells w.heap.size (i * 2) vs).cell? x) → (∀ x, W.frozen? x = (W1.setCells w.heap.size (i * 2) vs).frozen? x) → ∀ ty dc sc, (Builtin.copy_ #[33, 33] ty #[.slice (some ⟨w.heap.size, (i + 1) * 2, none⟩) (n - i) dc, .slice (some ⟨b, i * 2, none⟩) (n - i) sc]).run Tryz.prog W = .ok (goInt (n - i : Nat)) (W.setCells w.heap.size ((i + 1) * 2) (cs.drop (i * 2))) := fun W hWc hWf ty dc sc =>
    run_copy_k 2 W _ _ ty 53 w.heap.size ((i + 1) * 2) (n - i) dc ⟨b, i * 2, none⟩ (n - i) sc (cs.drop (i * 2)) ht hsz (n - i) (by simp only [Nat.min_def]; split <;> omega) hdl
      (fun j v hj => by
        rw [Addr.add_lit, hWc, World.cell?_setCells_out _ _ _ _ _ (fun h _ => absurd h hbN)]
        exact hOb _ v (hcs (i * 2 + j) v (by rwa [List.getElem?_drop] at hj)))
      (fun j hj => by rw [hWc]; exact isSome_setCells _ vs _ _ (fun t ht => hN _ (by omega)) _ (hN _ (by rw [hdl] at hj; omega)))
      (fun j hj => by rw [hWf, World.frozen?_setCells]; exact hNf _) (fun v hv => h1c v (List.mem_of_mem_drop hv))
  subst hW1
  have hE1 : ∀ x, ((w.alloc (.cells ROW 53)).drew).cell? x = (w.drew.alloc (.cells ROW 53)).cell? x := fun x => rfl
  have hE2 : ∀ x, ((w.alloc (.cells ROW 53)).drew).frozen? x = (w.drew.alloc (.cells ROW 53)).frozen? x := fun x => rfl
  have hF1 : ∀ x, (((w.alloc (.cells ROW 53)).drew.setCells w.heap.size (i * 2) vs).drew).cell? x = ((w.drew.alloc (.cells ROW 53)).setCells w.heap.size (i * 2) vs).cell? x := fun x => rfl
  have hF2 : ∀ x, (((w.alloc (.cells ROW 53)).drew.setCells w.heap.size (i * 2) vs).drew).frozen? x = ((w.drew.alloc (.cells ROW 53)).setCells w.heap.size (i * 2) vs).frozen? x := fun x => rfl
  have hw1 : IntKind.i64.wrap ((i : Int) + 1) = (i : Int) + 1 := by rw [IntKind.wrap_i64]; omega
  have hw2 : IntKind.i64.wrap ((n : Int) + 1) = (n : Int) + 1 := by rw [IntKind.wrap_i64]; omega
  have hw3 : IntKind.i64.wrap ((n : Int) + 1 - (i : Int)) = (n : Int) + 1 - (i : Int) := by rw [IntKind.wrap_i64]; omega
  have hb1 : (0 : Int) ≤ (i : Int) + 1 := by omega
  have hin : i ≤ n := by omega
  have htn : ((i : Int) + 1).toNat = i + 1 := by omega
  have hb3 : (i : Int) ≤ (n : Int) := by omega
  have hic : (i : Int) ≤ (c : Int) := by omega
  clear hkk hik hold hROW hG hRl
  refine Calls.mono (R := fun e w' => e = .returned (.slice (some ⟨w.heap.size, 0, none⟩) (n + 1) G) ∧ w' = (((w.alloc (.cells ROW 53)).drew.setCells w.heap.size (i * 2) vs).drew).setCells w.heap.size ((i + 1) * 2) (cs.drop (i * 2))) ?_ (fun e w' h => ⟨G, ROW, hGn, hGm, hRs, hRt, h.1, h.2⟩)
  clear hRt hRs
  go_enter Tryz.func99, Tryz.ntmps99
  go_wp2_with (first
    | (at_builtin; refine Lib.wpList_append_run _ rfl _ _ _ _ rfl _ _ rfl rfl _ _ (hrz _) ?_)
    | (at_builtin; refine wpList_copy_runI _ rfl _ _ 33 33 rfl _ _ rfl rfl (hcpA _ hE1 hE2 _ _) ?_))
  go_region_law_o (refine step_copy_runI rfl _ _ 33 33 rfl (.slice (some ⟨w.heap.size, (i + 1) * 2, none⟩) (n - i) (G - (i + 1))) (.slice (some ⟨b, i * 2, none⟩) (n - i) (c - i)) (by simp [Act.eval, Act.put]) (by simp [Act.eval, Act.put]) (hcpB _ hF1 hF2 3 (G - (i + 1)) (c - i)) ?_)
  go_wp2
  go_ret
  exact ⟨rfl, rfl⟩
theorem Els.append {M : Nat → Nat → Prop} {w : World} {t : Ty} {xs ys : List t.den} {cs ds : List Value} (hl : cs.length = xs.length * t.sz) (hx : Els M w t xs cs) (hy : Els M w t ys ds) : Els M w t (xs ++ ys) (cs ++ ds) := fun i h => by
  rcases Nat.lt_or_ge i xs.length with hi | hi
  · have hb : i * t.sz + t.sz ≤ xs.length * t.sz := by
      have : (i + 1) * t.sz ≤ xs.length * t.sz := Nat.mul_le_mul_right _ hi
      rw [Nat.add_mul] at this; omega
    rw [List.getElem_append_left hi, List.drop_append_of_le_length (by omega), List.take_append_of_le_length (by rw [List.length_drop]; omega)]
    exact hx i hi
  · have hi2 : i - xs.length < ys.length := by rw [List.length_append] at h; omega
    have hb : xs.length * t.sz ≤ i * t.sz := Nat.mul_le_mul_right _ hi
    have := hy (i - xs.length) hi2
    rw [List.getElem_append_right hi]
    have e : (cs ++ ds).drop (i * t.sz) = ds.drop ((i - xs.length) * t.sz) := by
      rw [List.drop_append, List.drop_eq_nil_of_le (by omega), List.nil_append, hl, Nat.sub_mul]
    rw [e]; exact this
theorem Els.take {M : Nat → Nat → Prop} {w : World} {t : Ty} {xs : List t.den} {cs : List Value} (hx : Els M w t xs cs) (n : Nat) : Els M w t (xs.take n) (cs.take (n * t.sz)) := fun i h => by
  rw [List.length_take] at h
  have hb : i * t.sz + t.sz ≤ n * t.sz := by
    have : (i + 1) * t.sz ≤ n * t.sz := Nat.mul_le_mul_right _ (by omega)
    rw [Nat.add_mul] at this; omega
  rw [List.getElem_take, List.drop_take, List.take_take, Nat.min_eq_left (by omega)]
  exact hx i (by omega)
theorem Els.drop {M : Nat → Nat → Prop} {w : World} {t : Ty} {xs : List t.den} {cs : List Value} (hx : Els M w t xs cs) (n : Nat) : Els M w t (xs.drop n) (cs.drop (n * t.sz)) := fun i h => by
  rw [List.length_drop] at h
  rw [List.getElem_drop, List.drop_drop, ← Nat.add_mul]
  exact hx (n + i) (by omega)
end
end Go.Proofs.YtbekhaioddmliaaGreatDoor



/- slices.Grow of the nil slice, as a meaning: an own row without elements. -/
namespace Go.Proofs.YtbekhaioddmliaaGreatDoor
set_option linter.unusedVariables false
set_option linter.unusedSimpArgs false
open Go Go.RowKit Go.Shelf
theorem own_base {w : World} {base : Nat} {e : TypeId} {sz : Nat} {v : Value} {n : Nat} {cs : List Value} (h : w.ownsRow base e sz v n cs) : w.ownsRow 0 e sz v n cs := by
  refine ⟨h.1, ?_⟩
  rcases h.2 with h0 | ⟨g, cap, cur, h1, _, h2⟩
  · exact .inl h0
  · exact .inr ⟨g, cap, cur, h1, Nat.zero_le _, h2⟩
theorem Sound.ofNew {P : Program} {G : World → Prop} {B0 : Nat} {f : FuncId} {ps : List Sl} {e : TypeId} {t : Ty} {ex : Bool} {F : SV ps → Option (List t.den)}
    (hcall : ∀ (args : Array Value) (w : World), (callFunc f args).run P w = .ok (.enter f args) w) (hz : 0 < t.sz)
    (h : ∀ (M : Nat → Nat → Prop) (w : World) (vs : List Value) (x : SV ps) (zs : List t.den), G w → (∀ b o, M b o → b < w.heap.size) → All2 (RepD0 M w g0) (lays id ps x) vs → F x = some zs →
      Calls P f vs.toArray w fun en w' => ∃ u cs, en = .returned u ∧ w'.ownsRow w.heap.size e t.sz u zs.length cs ∧ Ext w w' ∧ ∀ M', Step M w M' w' → Els M' w' t zs cs) :
    Sound P G B0 f ⟨ps, [], [.row 0], [.row e t ex], List t.den, fun z => (((), ()), (z, ())), fun x _ => F x⟩ := by
  refine ⟨hcall, fun M w g vs x y z hG hB hF hz' => ?_⟩
  have hg : g = g0 := by
    funext r
    cases hr : g r with
    | none => rfl
    | some gx => exact absurd (hF.dom r gx hr) (Nat.not_lt_zero _)
  subst hg
  refine (h M w vs x z hG hF.mlt hF.args hz').mono fun en w' hp => ?_
  obtain ⟨u, cs, he, hown, hE, hels⟩ := hp
  obtain ⟨g', hgd⟩ : ∃ g' : Gh, g' = fun r => if r = 0 then some ⟨u.ownBlock, loOf t ex z.length, u⟩ else none := ⟨_, rfl⟩
  have hg0' : g' 0 = some ⟨u.ownBlock, loOf t ex z.length, u⟩ := by rw [hgd]; rfl
  have hgo : ∀ r gy, g' r = some gy → r = 0 ∧ gy = ⟨u.ownBlock, loOf t ex z.length, u⟩ := fun r gy hr => by
    rw [hgd] at hr
    by_cases h0 : r = 0
    · subst h0; simp at hr; exact ⟨rfl, hr.symm⟩
    · simp [h0] at hr
  have hblk : ∀ b, u.ownBlock = some b → w.heap.size ≤ b ∧ b < w'.heap.size := fun b hb => by
    rcases hown.2 with ⟨e1, _⟩ | ⟨gg, cap, cur, e1, h1, h2, _⟩
    · rw [e1] at hb; cases hb
    · rw [e1] at hb
      simp only [Value.ownBlock, Option.some.injEq] at hb
      subst hb
      exact ⟨h1, lt_of_map h2⟩
  have hM : ∀ b o, Mafter M g0 g' b o → M b o ∨ u.ownBlock = some b := fun b o hm => by
    rcases hm with ⟨hm, _⟩ | ⟨r, gy, hr, hb, _⟩
    · exact .inl hm
    · obtain ⟨_, rfl⟩ := hgo r gy hr; exact .inr hb
  have hstep : Step M w (Mafter M g0 g') w' := by
    have key : ∀ b o, b < w.heap.size → ¬ M b o → w'.heap[b]? = w.heap[b]? ∧ ¬ Mafter M g0 g' b o := fun b o hb hm => by
      refine ⟨hE.block b hb, fun hm' => ?_⟩
      rcases hM b o hm' with h1 | h1
      · exact hm h1
      · have := (hblk b h1).1; omega
    refine ⟨fun ad v hu hm => ?_, fun b es c hb hm => ?_⟩
    · obtain ⟨h1, h2⟩ := key ad.block ad.off (World.block_lt_of_cell? w _ hu) hm
      exact ⟨(cell_of_block h1).trans hu, h2⟩
    · obtain ⟨h1, h2⟩ := key b 0 (lt_of_map hb) hm
      exact ⟨h1.trans hb, h2⟩
  obtain ⟨A', c', hv', _⟩ := Row.of_own' hown
  have hrow : RepD0 (Mafter M g0 g') w' g' (.row 0) u := ⟨_, A', _, c', hg0', rfl, hv'⟩
  refine ⟨[u], g', he, ExtX.of_ext hE, hstep, ?_, fun r gy hr _ => (by cases hr), fun b hb => ?_⟩
  · exact {
      args := ⟨hrow, trivial⟩
      res := fun r blk hr => by
        cases r with
        | zero =>
          obtain rfl : Blk.row e t ex z = blk := Option.some.inj hr
          refine ⟨_, hg0', hz, cs, own_base hown, rfl, by cases ex <;> rfl, fun i hi => ?_⟩
          exact hels _ hstep i hi
        | succ r => cases hr
      dom := fun r gy hr => by obtain ⟨rfl, _⟩ := hgo r gy hr; exact Nat.zero_lt_one
      inj := fun r r' gy gy' b hr hr' _ _ => by obtain ⟨rfl, _⟩ := hgo r gy hr; obtain ⟨rfl, _⟩ := hgo r' gy' hr'; rfl
      low := fun r gy b hr hb => by
        obtain ⟨_, rfl⟩ := hgo r gy hr
        obtain ⟨h1, h2⟩ := hblk b hb
        exact ⟨Nat.le_trans hB h1, h2⟩
      chg := fun r gy b o hr hb => by
        obtain ⟨rfl, rfl⟩ := hgo r gy hr
        constructor
        · rintro (⟨h1, _⟩ | ⟨r', gy', h1, h2, h3⟩)
          · have := hF.mlt b o h1; have := (hblk b hb).1; omega
          · obtain ⟨_, rfl⟩ := hgo r' gy' h1; exact h3
        · exact fun hle => .inr ⟨0, _, hr, hb, hle⟩
      mlt := fun b o hm => by
        rcases hM b o hm with h1 | h1
        · exact Nat.lt_of_lt_of_le (hF.mlt b o h1) hE.size
        · exact (hblk b h1).2
      row := fun r gy b hr hb h0 es c hc => by
        obtain ⟨_, rfl⟩ := hgo r gy hr
        exact (own_row hown hb).2 es c hc }
  · obtain ⟨r, gy, hr, hb⟩ := hb
    obtain ⟨_, rfl⟩ := hgo r gy hr
    exact .inr (hblk b hb).1
end Go.Proofs.YtbekhaioddmliaaGreatDoor


/- The types that the printed functions use, as the program has them. -/
namespace Go.Proofs.YtbekhaioddmliaaGreatDoor
open Go Go.RowKit
set_option maxRecDepth 100000
abbrev z74sg (f : SV [.v .str, .v .str] → BV [] → Option (Str)) : AF := { ps := [.v .str, .v .str], bs := [], rs := [.v .str], cs := [], R := Str, out := fun z => ((z, ()), ()), f := f }
abbrev z73sg (f : SV [.v (.sl .str), .v .str] → BV [] → Option (Str)) : AF := { ps := [.v (.sl .str), .v .str], bs := [], rs := [.v .str], cs := [], R := Str, out := fun z => ((z, ()), ()), f := f }
theorem tyOk_int : TyOk Tryz.prog 3 (.int .i64) := ⟨_, by kernel_rfl, Tryz.underlying3, rfl⟩
theorem tyOk_string : TyOk Tryz.prog 9 .str := ⟨_, by kernel_rfl, Tryz.underlying9, rfl⟩
theorem tyOk_ABapiDSetting : TyOk Tryz.prog 22 (.sl (.pr .str (.sl .str))) := ⟨_, by kernel_rfl, Tryz.underlying22, rfl⟩
theorem tyOk_ABapiDCondition : TyOk Tryz.prog 23 (.sl (.pr .str (.pr (.sl (.pr .str .str)) (.sl (.pr .str .str))))) := ⟨_, by kernel_rfl, Tryz.underlying23, rfl⟩
theorem tyOk_ABapiDPlatform : TyOk Tryz.prog 24 (.sl (.pr .str (.sl (.pr .str .str)))) := ⟨_, by kernel_rfl, Tryz.underlying24, rfl⟩
theorem tyOk_smithyardSapiDWorld : TyOk Tryz.prog 28 (.pr (.sl (.pr .str (.sl .str))) (.pr (.sl (.pr .str (.pr (.sl (.pr .str .str)) (.sl (.pr .str .str))))) (.pr (.sl (.pr .str (.sl (.pr .str .str)))) (.pr (.sl (.pr .str (.pr .str (.pr (.sl (.pr .str .str)) (.sl (.pr .str .str)))))) (.sl (.pr .str (.pr (.sl (.pr .str .str)) (.sl .str)))))))) := ⟨_, by kernel_rfl, Tryz.underlying28, rfl⟩
theorem tyOk_ABstring : TyOk Tryz.prog 29 (.sl .str) := ⟨_, by kernel_rfl, Tryz.underlying29, rfl⟩
theorem tyOk_ABapiDCase : TyOk Tryz.prog 30 (.sl (.pr .str (.rc .value))) := ⟨_, by kernel_rfl, Tryz.underlying30, rfl⟩
theorem tyOk_smithyardSapiDValue : TyOk Tryz.prog 32 (.rc .value) := ⟨_, by kernel_rfl, Tryz.underlying32, rfl⟩
theorem tyOk_ABapiDPair : TyOk Tryz.prog 33 (.sl (.pr .str .str)) := ⟨_, by kernel_rfl, Tryz.underlying33, rfl⟩
theorem tyOk_smithyardSapiDPlatform : TyOk Tryz.prog 35 (.pr .str (.sl (.pr .str .str))) := ⟨_, by kernel_rfl, Tryz.underlying35, rfl⟩
theorem tyOk_ABABapiDPair : TyOk Tryz.prog 44 (.sl (.sl (.pr .str .str))) := ⟨_, by kernel_rfl, Tryz.underlying44, rfl⟩
theorem tyOk_smithyardSapiDPair : TyOk Tryz.prog 53 (.pr .str .str) := ⟨_, by kernel_rfl, Tryz.underlying53, rfl⟩
theorem tyOk_smithyardSapiDCase : TyOk Tryz.prog 78 (.pr .str (.rc .value)) := ⟨_, by kernel_rfl, Tryz.underlying78, rfl⟩
theorem tyOk_smithyardSapiDSetting : TyOk Tryz.prog 81 (.pr .str (.sl .str)) := ⟨_, by kernel_rfl, Tryz.underlying81, rfl⟩
theorem tyOk_smithyardSapiDCondition : TyOk Tryz.prog 108 (.pr .str (.pr (.sl (.pr .str .str)) (.sl (.pr .str .str)))) := ⟨_, by kernel_rfl, Tryz.underlying108, rfl⟩
theorem tyOk_uint : TyOk Tryz.prog 142 (.int .u64) := ⟨_, by kernel_rfl, Tryz.underlying142, rfl⟩
def tyT : TypeId → Option Ty := fun T =>
  match T with
  | 3 => some (.int .i64)
  | 9 => some .str
  | 22 => some (.sl (.pr .str (.sl .str)))
  | 23 => some (.sl (.pr .str (.pr (.sl (.pr .str .str)) (.sl (.pr .str .str)))))
  | 24 => some (.sl (.pr .str (.sl (.pr .str .str))))
  | 28 => some (.pr (.sl (.pr .str (.sl .str))) (.pr (.sl (.pr .str (.pr (.sl (.pr .str .str)) (.sl (.pr .str .str))))) (.pr (.sl (.pr .str (.sl (.pr .str .str)))) (.pr (.sl (.pr .str (.pr .str (.pr (.sl (.pr .str .str)) (.sl (.pr .str .str)))))) (.sl (.pr .str (.pr (.sl (.pr .str .str)) (.sl .str))))))))
  | 29 => some (.sl .str)
  | 30 => some (.sl (.pr .str (.rc .value)))
  | 32 => some (.rc .value)
  | 33 => some (.sl (.pr .str .str))
  | 35 => some (.pr .str (.sl (.pr .str .str)))
  | 44 => some (.sl (.sl (.pr .str .str)))
  | 53 => some (.pr .str .str)
  | 78 => some (.pr .str (.rc .value))
  | 81 => some (.pr .str (.sl .str))
  | 108 => some (.pr .str (.pr (.sl (.pr .str .str)) (.sl (.pr .str .str))))
  | 142 => some (.int .u64)
  | _ => none
theorem tyT_ok : ∀ T t, tyT T = some t → TyOk Tryz.prog T t := by
  intro T t h
  unfold tyT at h
  split at h
  · cases h; exact tyOk_int
  · cases h; exact tyOk_string
  · cases h; exact tyOk_ABapiDSetting
  · cases h; exact tyOk_ABapiDCondition
  · cases h; exact tyOk_ABapiDPlatform
  · cases h; exact tyOk_smithyardSapiDWorld
  · cases h; exact tyOk_ABstring
  · cases h; exact tyOk_ABapiDCase
  · cases h; exact tyOk_smithyardSapiDValue
  · cases h; exact tyOk_ABapiDPair
  · cases h; exact tyOk_smithyardSapiDPlatform
  · cases h; exact tyOk_ABABapiDPair
  · cases h; exact tyOk_smithyardSapiDPair
  · cases h; exact tyOk_smithyardSapiDCase
  · cases h; exact tyOk_smithyardSapiDSetting
  · cases h; exact tyOk_smithyardSapiDCondition
  · cases h; exact tyOk_uint
  · cases h
def elT : TypeId → Option (TypeId × Ty) := fun T =>
  match T with
  | 22 => some (81, (.pr .str (.sl .str)))
  | 23 => some (108, (.pr .str (.pr (.sl (.pr .str .str)) (.sl (.pr .str .str)))))
  | 24 => some (35, (.pr .str (.sl (.pr .str .str))))
  | 29 => some (9, .str)
  | 30 => some (78, (.pr .str (.rc .value)))
  | 33 => some (53, (.pr .str .str))
  | 44 => some (33, (.sl (.pr .str .str)))
  | _ => none
theorem elT_ok : ∀ T e t, elT T = some (e, t) → ElOk Tryz.prog T e t := by
  intro T e t h
  unfold elT at h
  split at h
  · cases h; exact ⟨tyOk_smithyardSapiDSetting, 40, ElemT.mk_ Tryz.underlying22 (z := mkV (.pr .str (.sl .str)) (zeroC (.pr .str (.sl .str)))) (by kernel_rfl) rfl (by decide) (by decide), by decide⟩
  · cases h; exact ⟨tyOk_smithyardSapiDCondition, 64, ElemT.mk_ Tryz.underlying23 (z := mkV (.pr .str (.pr (.sl (.pr .str .str)) (.sl (.pr .str .str)))) (zeroC (.pr .str (.pr (.sl (.pr .str .str)) (.sl (.pr .str .str)))))) (by kernel_rfl) rfl (by decide) (by decide), by decide⟩
  · cases h; exact ⟨tyOk_smithyardSapiDPlatform, 40, ElemT.mk_ Tryz.underlying24 (z := mkV (.pr .str (.sl (.pr .str .str))) (zeroC (.pr .str (.sl (.pr .str .str))))) (by kernel_rfl) rfl (by decide) (by decide), by decide⟩
  · cases h; exact ⟨tyOk_string, 16, ElemT.mk_ Tryz.underlying29 (z := mkV .str (zeroC .str)) (by kernel_rfl) rfl (by decide) (by decide), by decide⟩
  · cases h; exact ⟨tyOk_smithyardSapiDCase, 96, ElemT.mk_ Tryz.underlying30 (z := mkV (.pr .str (.rc .value)) (zeroC (.pr .str (.rc .value)))) (by kernel_rfl) rfl (by decide) (by decide), by decide⟩
  · cases h; exact ⟨tyOk_smithyardSapiDPair, 32, ElemT.mk_ Tryz.underlying33 (z := mkV (.pr .str .str) (zeroC (.pr .str .str))) (by kernel_rfl) rfl (by decide) (by decide), by decide⟩
  · cases h; exact ⟨tyOk_ABapiDPair, 24, ElemT.mk_ Tryz.underlying44 (z := mkV (.sl (.pr .str .str)) (zeroC (.sl (.pr .str .str)))) (by kernel_rfl) rfl (by decide) (by decide), by decide⟩
  · cases h
def fldT : TypeId → Nat → Option (Nat × Ty) := fun T f =>
  match T, f with
  | 28, 0 => some (0, (.sl (.pr .str (.sl .str))))
  | 28, 1 => some (1, (.sl (.pr .str (.pr (.sl (.pr .str .str)) (.sl (.pr .str .str))))))
  | 32, 0 => some (0, (.int .i64))
  | 32, 1 => some (1, .str)
  | 32, 2 => some (2, (.int .i64))
  | 32, 3 => some (3, (.sl .str))
  | 32, 4 => some (4, (.sl (.pr .str (.rc .value))))
  | 35, 0 => some (0, .str)
  | 35, 1 => some (1, (.sl (.pr .str .str)))
  | 53, 0 => some (0, .str)
  | 53, 1 => some (1, .str)
  | 78, 0 => some (0, .str)
  | 78, 1 => some (1, (.rc .value))
  | 81, 0 => some (0, .str)
  | 81, 1 => some (1, (.sl .str))
  | 108, 0 => some (0, .str)
  | 108, 1 => some (1, (.sl (.pr .str .str)))
  | 108, 2 => some (2, (.sl (.pr .str .str)))
  | _, _ => none
theorem fldT_ok : ∀ T f off t, fldT T f = some (off, t) → FldOk Tryz.prog T f off t := by
  intro T f off t h
  unfold fldT at h
  split at h
  · cases h; exact ⟨_, _, Tryz.underlying28, rfl, rfl, tyOk_ABapiDSetting, by decide⟩
  · cases h; exact ⟨_, _, Tryz.underlying28, rfl, rfl, tyOk_ABapiDCondition, by decide⟩
  · cases h; exact ⟨_, _, Tryz.underlying32, rfl, rfl, tyOk_int, by decide⟩
  · cases h; exact ⟨_, _, Tryz.underlying32, rfl, rfl, tyOk_string, by decide⟩
  · cases h; exact ⟨_, _, Tryz.underlying32, rfl, rfl, tyOk_int, by decide⟩
  · cases h; exact ⟨_, _, Tryz.underlying32, rfl, rfl, tyOk_ABstring, by decide⟩
  · cases h; exact ⟨_, _, Tryz.underlying32, rfl, rfl, tyOk_ABapiDCase, by decide⟩
  · cases h; exact ⟨_, _, Tryz.underlying35, rfl, rfl, tyOk_string, by decide⟩
  · cases h; exact ⟨_, _, Tryz.underlying35, rfl, rfl, tyOk_ABapiDPair, by decide⟩
  · cases h; exact ⟨_, _, Tryz.underlying53, rfl, rfl, tyOk_string, by decide⟩
  · cases h; exact ⟨_, _, Tryz.underlying53, rfl, rfl, tyOk_string, by decide⟩
  · cases h; exact ⟨_, _, Tryz.underlying78, rfl, rfl, tyOk_string, by decide⟩
  · cases h; exact ⟨_, _, Tryz.underlying78, rfl, rfl, tyOk_smithyardSapiDValue, by decide⟩
  · cases h; exact ⟨_, _, Tryz.underlying81, rfl, rfl, tyOk_string, by decide⟩
  · cases h; exact ⟨_, _, Tryz.underlying81, rfl, rfl, tyOk_ABstring, by decide⟩
  · cases h; exact ⟨_, _, Tryz.underlying108, rfl, rfl, tyOk_string, by decide⟩
  · cases h; exact ⟨_, _, Tryz.underlying108, rfl, rfl, tyOk_ABapiDPair, by decide⟩
  · cases h; exact ⟨_, _, Tryz.underlying108, rfl, rfl, tyOk_ABapiDPair, by decide⟩
  · cases h
theorem mpT_ok : ∀ T e, tyT T = some (.mp e) → MpOk Tryz.prog T e := by
  intro T e h
  unfold tyT at h
  split at h
  · cases h
  · cases h
  · cases h
  · cases h
  · cases h
  · cases h
  · cases h
  · cases h
  · cases h
  · cases h
  · cases h
  · cases h
  · cases h
  · cases h
  · cases h
  · cases h
  · cases h
  · cases h
theorem bldT_ok : ∀ T t, tyT T = some t → t.isAgg = true → ∃ fs places, Tryz.prog.underlying T = some (.struct fs) ∧ fs.toList.mapM (fun f => (Tryz.prog.info? f.type).map fun i => (f.offset, i.size)) = some places := by
  intro T t h ha
  unfold tyT at h
  split at h
  · cases h; cases ha
  · cases h; cases ha
  · cases h; cases ha
  · cases h; cases ha
  · cases h; cases ha
  · exact ⟨_, [(0, 1), (1, 1), (2, 1), (3, 1), (4, 1)], Tryz.underlying28, by kernel_rfl⟩
  · cases h; cases ha
  · cases h; cases ha
  · exact ⟨_, [(0, 1), (1, 1), (2, 1), (3, 1), (4, 1)], Tryz.underlying32, by kernel_rfl⟩
  · cases h; cases ha
  · exact ⟨_, [(0, 1), (1, 1)], Tryz.underlying35, by kernel_rfl⟩
  · cases h; cases ha
  · exact ⟨_, [(0, 1), (1, 1)], Tryz.underlying53, by kernel_rfl⟩
  · exact ⟨_, [(0, 1), (1, 5)], Tryz.underlying78, by kernel_rfl⟩
  · exact ⟨_, [(0, 1), (1, 1)], Tryz.underlying81, by kernel_rfl⟩
  · exact ⟨_, [(0, 1), (1, 1), (2, 1)], Tryz.underlying108, by kernel_rfl⟩
  · cases h; cases ha
  · cases h
theorem cmpOk_smithyardSapiDPair : CmpOk Tryz.prog 53 (.pr .str .str) := CmpOk.flat rfl rfl Tryz.underlying53 (by kernel_rfl) (by kernel_rfl) (.cons rfl (by decide) (.str Tryz.underlying9) (.one rfl (by decide) (.str Tryz.underlying9)))
def cmpT : TypeId → Option Ty := fun T =>
  match T with
  | 53 => some (.pr .str .str)
  | _ => none
theorem cmpT_ok : ∀ T t, cmpT T = some t → CmpOk Tryz.prog T t := by
  intro T t h
  unfold cmpT at h
  split at h
  · cases h; exact cmpOk_smithyardSapiDPair
  · cases h
def mkE (h : Nat → Hint) (fn : FuncId → Option Tmp → Option AF) (exq : Nat → Bool) (live : FuncId → Bool) : Env := { ty := tyT, el := elT, fld := fldT, cmp := cmpT, fn := fn, hint := h, exq := exq, live := live }
theorem mkE_ok (hh : Nat → Hint) (fn : FuncId → Option Tmp → Option AF) (exq : Nat → Bool) (live : FuncId → Bool) (h : ∀ f q F, fn f q = some F → Sound Tryz.prog GW B0G f F) : EnvOk Tryz.prog GW B0G (mkE hh fn exq live) :=
  { ty := tyT_ok, el := elT_ok, fld := fldT_ok, mp := mpT_ok, bld := bldT_ok, cmp := cmpT_ok, fn := h, stable := GW_stable, mixed := by kernel_rfl }
end Go.Proofs.YtbekhaioddmliaaGreatDoor

