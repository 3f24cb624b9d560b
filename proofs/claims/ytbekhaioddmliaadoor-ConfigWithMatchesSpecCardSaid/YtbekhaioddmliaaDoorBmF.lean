/- strings.ContainsFunc of a function of the program, out of the kit's contract. -/
import Derived.Test.YtbekhaioddmliaaDoorBmP
namespace Go.Proofs.YtbekhaioddmliaaDoor
set_option linter.unusedVariables false
set_option linter.unusedSimpArgs false
open Go Go.RowKit Go.Shelf
theorem strings_ContainsFunc_ext {f : FuncId} {p : Int → Option Bool} {q : Nat → Bool} {out : Bool → SV [.v .bool] × BV []} {ho : ∀ z, (out z).1 = (z, ())}
    (hs : Sound Tryd.prog GW B0G f ⟨[.v (.int .i32)], [], [.v .bool], [], Bool, out, fun x _ => p x.1⟩) (hq : ∀ n : Nat, n ≤ 1114111 → p (n : Int) = some (q n)) :
    Sound Tryd.prog GW B0G 63 ⟨[.v .str, .v (.clo f .un)], [], [.v .bool], [], Bool, fun z => ((z, ()), ()), fun x _ => some (decide (0 ≤ Lib.idxFunc q true ⟨x.1.toArray⟩))⟩ := by
  refine Sound.ofExt Tryd.call63 fun M w vs x z hG hM hA hz => ?_
  obtain ⟨a, b, u⟩ := x
  match vs, hA with
  | [v1, v2], hA =>
    obtain ⟨h1, h2, _⟩ := hA
    have h3 := RepV.plain (t := .clo f .un) rfl h2
    obtain ⟨caps, h4, h5⟩ := h3
    injection h4 with h4
    have h6 : caps = #[] := by
      have : caps.toList = [] := h5
      exact Array.toList_eq_nil_iff.1 this
    subst h6
    rw [RepV.str h1, h4]
    injection hz with hz
    subst hz
    refine (Tryd.strings_ContainsFunc_grows f #[] hs.1 q ⟨a.toArray⟩ w fun W n hn hb => ?_).mono fun e w' hp => ?_
    · have hG' : GW W := GW_stable w W (fun _ => False) hG (ExtX.of_ext hb) fun _ h => h.elim
      have := hs.2 M00' W g0 [.int .i32 n] ((n : Int), ()) () (q n) hG' (GW_size hG') { args := ⟨vInt .i32 n, trivial⟩, res := fun r blk h => (by cases h), dom := fun r gx h => (by cases h), inj := fun _ _ _ _ _ h => (by cases h), low := fun _ _ _ h => (by cases h), chg := fun _ _ _ _ h => (by cases h), mlt := fun b o h => h.elim, row := fun _ _ _ h => (by cases h) } (hq n hn)
      refine this.mono fun e w' hp => ?_
      obtain ⟨vs', g', he, hE, _, hF, _⟩ := hp
      refine ⟨?_, hE.ext fun b hb => ?_⟩
      · have hA := hF.args
        rw [ho] at hA
        match vs', hA with
        | [v], ⟨k1, _⟩ =>
          have k2 := RepV.plain (t := .bool) rfl k1
          have k3 : [v] = [.bool (q n)] := k2
          injection k3 with k3
          rw [he, k3]
          rfl
      · obtain ⟨r, x, h, _⟩ := hb
        cases h
    · exact ⟨[_], hp.1, hp.2, vBool _, trivial⟩
end Go.Proofs.YtbekhaioddmliaaDoor
