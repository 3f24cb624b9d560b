/- The statement BlobMissingTells (its card): for every input the law returns true, and what was handed in reads as it did. No condition beyond those of the card. -/
import Derived.Test.YtjiddcchklaiiaaGreatDoorCards
import Derived.Test.YtjiddcchklaiiaaGreatDoorTie
import Derived.Test.YtjiddcchklaiiaaGreatDoorQLTsH
import Derived.Test.YtjiddcchklaiiaaGreatDoorQLTrH
import Derived.ProofKit
import Derived.Deep.DeepHandedRow
import Derived.Lib.LaidTab
namespace Go.Proofs.YtjiddcchklaiiaaGreatDoor.BlobMissingTells
set_option linter.unusedVariables false
set_option linter.unusedSimpArgs false
open Go Go.RowKit Go.ChangeShapes Go.WideShapes Go.ChangeAt
theorem own : ownKnob Tryz.prog.godebug = none := by kernel_rfl
theorem laidOut : laidOutB Tryz.prog = true := by kernel_rfl
theorem gw {W : World} (h : W.ShapedOpen Tryz.prog) : GW W := Tryz.laysM143.s1_3 W h
def rcT : RC → Option TypeId := fun i => match i with | _ => none
theorem deep_string : Deep Tryz.prog rcT .str 9 := .str Tryz.underlying9
theorem deep_bool : Deep Tryz.prog rcT .bool 4 := .bool Tryz.underlying4
theorem deep_uint8 : Deep Tryz.prog rcT .u8 5 := .u8 Tryz.underlying5
theorem deep_ABuint8 : Deep Tryz.prog rcT (.sl .u8) 36 := .sl Tryz.underlying36 (by kernel_rfl) deep_uint8
theorem deep_smithyardSapiDFile : Deep Tryz.prog rcT (.pr .str (.pr .bool (.sl .u8))) 62 := .st Tryz.underlying62 (by kernel_rfl) rfl (.cons rfl (by kernel_rfl) deep_string (.cons rfl (by kernel_rfl) deep_bool (.one rfl (by kernel_rfl) deep_ABuint8)))
theorem deep_ABapiDFile : Deep Tryz.prog rcT (.sl (.pr .str (.pr .bool (.sl .u8)))) 22 := .sl Tryz.underlying22 (by kernel_rfl) deep_smithyardSapiDFile
theorem deep_int : Deep Tryz.prog rcT (.int .i64) 3 := .int Tryz.underlying3
theorem rcOk : RcOk Tryz.prog rcT := fun i T h => by
 cases i with
 | value => cases h
 | expr => cases h
 | stmt => cases h
 | part => cases h
set_option maxRecDepth 100000 in
theorem contract (H : Type) (enc : TypeId × Value → H) (W : World) (base : Nat) (args : Array Value) (ds gs : List (DataW H)) (before : List MemPlace)
   (hval0 : ∀ (j : Nat) t v, Tryz.f4.params[j]? = some t → args[j]? = some v → Value.okWide Tryz.prog W .any base t v)
   (hW : DataW.Whole enc Tryz.prog Tryz.f4.params.toList Rows.blobMissingTellsSpec.vars false W args.toList ds gs before) (hsh : W.ShapedOpen Tryz.prog) :
   Calls Tryz.prog 4 args W fun e W' => ∃ v, e = .returned v ∧ Rows.blobMissingTellsSpec.post enc Tryz.prog Tryz.f4 false true false false W args v W' := by
 have hval := hval0
 have hW' := hW
 obtain ⟨p, q, hA0, hV, rfl, hfz, hnd⟩ := hW
 have hA : DataW.TrodAll enc Tryz.prog W 0 (fun _ => true) true Tryz.f4.params.toList args.toList ds p := hA0
 rw [Tryz.params4] at hA hval
 obtain ⟨v0, vs0, d0, ds0, p0, q0, hargs, rfl, rfl, h0, r0⟩ := trodAll_cons hA
 obtain ⟨v1, vs1, d1, ds1, p1, q1, rfl, rfl, rfl, h1, r1⟩ := trodAll_cons r0
 obtain ⟨rfl, rfl, rfl⟩ := trodAll_nil r1
 obtain rfl : args = #[v0, v1] := by have := congrArg List.toArray hargs; simpa using this
 obtain ⟨rfl, rfl⟩ := trodVars_none hV
 have lt0 : ∀ x ∈ p0, x.block < W.heap.size := by obtain ⟨m, hm⟩ := h0; exact DataW.trod_lt m _ _ _ hm
 have lt1 : ∀ x ∈ p1, x.block < W.heap.size := by obtain ⟨m, hm⟩ := h1; exact DataW.trod_lt m _ _ _ hm
 obtain ⟨x0, a0, f0⟩ := arg_open rcOk deep_ABapiDFile (hval 0 22 v0 rfl rfl) h0
 obtain ⟨x1, a1, f1⟩ := arg_open rcOk deep_int (hval 1 3 v1 rfl rfl) h1
 clear hA0 hval0
 obtain ⟨N, hN⟩ := plain_BlobMissingTells x0 x1 f0 f1
 refine (law_run (fun _ => rfl) (z14sound N) (W := W) (vs := [v0, v1]) (x := (x0, x1, ())) (gw hsh) ⟨a0, a1, trivial⟩ hN).mono fun e W' ⟨he, bel⟩ => ?_
 subst he
 exact ⟨_, rfl, _, _, _, [], _, [], hW', trodAll_mk1 (shut_bool Tryz.underlying4 _), (trodAll_cons_mk (Below.trod laidOut (by kernel_rfl) (of_decide_eq_true (by kernel_rfl)) h0 bel lt0) (trodAll_cons_mk (Below.trod laidOut (by kernel_rfl) (of_decide_eq_true (by kernel_rfl)) h1 bel lt1) trodAll_mk0)), rfl, Below.frame bel _, fun h => by cases h⟩
noncomputable def laidWorld (os : Os) : World :=
 { World.holding Tryz.prog os ⟨#[], #[], []⟩ with heap := (((World.holding Tryz.prog os ⟨#[], #[], []⟩).heap.modify 2 fun
     | .cells _ t frozen => .cells #[.int .u8 128, .int .u8 191, .int .u8 160, .int .u8 191, .int .u8 128, .int .u8 159, .int .u8 144, .int .u8 191, .int .u8 128, .int .u8 143, .int .u8 0, .int .u8 0, .int .u8 0, .int .u8 0, .int .u8 0, .int .u8 0, .int .u8 0, .int .u8 0, .int .u8 0, .int .u8 0, .int .u8 0, .int .u8 0, .int .u8 0, .int .u8 0, .int .u8 0, .int .u8 0, .int .u8 0, .int .u8 0, .int .u8 0, .int .u8 0, .int .u8 0, .int .u8 0] t frozen
     | o => o).modify 1 fun
     | .cells _ t frozen => .cells (Go.Pinned.utf8FirstZ.map fun (n : Nat) => Value.int .u8 n).toArray t frozen
     | o => o) }
set_option maxRecDepth 100000 in
theorem laid_met (os : Os) : laidMet Tryz.prog Rows.blobMissingTellsRow.laid ((laidWorld os).forCall (fun _ _ => 0) ⟨#[], #[.slice none 0 0, .int .i64 0], []⟩).memory :=
 laidMet_of_run' 8 (by kernel_rfl) (by kernel_rfl)
set_option maxRecDepth 100000 in
theorem reads (os : Os) {H : Type} (enc : TypeId × Value → H) : ∃ places, DataW.whole enc Tryz.prog ((laidWorld os).forCall (fun _ _ => 0) ⟨#[], #[.slice none 0 0, .int .i64 0], []⟩).memory Tryz.f4.params.toList Rows.blobMissingTellsSpec.vars false (#[.slice none 0 0, .int .i64 0] : Array Value).toList 8 = some ([.nil, .lit (.int .i64 0)], [], places) :=
 ⟨[], by kernel_rfl⟩
set_option maxRecDepth 100000 in
theorem lifted (os : Os) (started : os.Started) (H : Type) (enc : TypeId × Value → H) (F : Stop.Interp) :
   ReturnsInHanded {} Tryz.checked os 4 .any ((OpenSpec.ofChange Rows.blobMissingTellsSpec).preRow enc Tryz.prog Tryz.f4 Rows.blobMissingTellsRow.domain false Rows.blobMissingTellsRow.laid) (((OpenSpec.ofChange Rows.blobMissingTellsSpec).at F).post enc Tryz.prog Tryz.f4 false true false false) := by
 obtain ⟨places, hx⟩ := reads os enc
 refine returnsInHanded_of_row (C := Tryz.checked) (s := OpenSpec.ofChange Rows.blobMissingTellsSpec) own started (by kernel_rfl) Tryz.func4
   (witness_row_at (enc := enc) (C := Tryz.checked) false (laidWorld os) #[.slice none 0 0, .int .i64 0] rfl (by kernel_rfl) (by kernel_rfl) (by kernel_rfl)
     (OpenSpec.preRow_of_cond 8 hx (by kernel_rfl) (fun k hk => by cases hk) (by kernel_rfl) (laid_met os))) ?_
 intro W base args ds gs before hval hW _ _ _ _ hsh _
 exact contract H enc W base args ds gs before hval hW hsh
theorem said : Rows.BlobMissingTellsSaid :=
 OpenClaim.holds_of_cond 4 Tryz.f4 rfl rfl rfl rfl rfl rfl rfl ⟨rfl, rfl, rfl, rfl, rfl⟩ rfl rfl rfl rfl rfl (by kernel_rfl) Tryz.func4 (by kernel_rfl)
   (of_decide_eq_true (by kernel_rfl)) (by unfold Func.isWrapper; first | (rw [if_pos (by decide +kernel)]; kernel_rfl) | (rw [if_neg (by decide +kernel)]; exact ⟨rfl, rfl⟩))
   (fun os started H enc _ F => by rw [OpenClaim.pre_eq_preRow]; exact lifted os started H enc F)
theorem plain (f : FuncId) (fn : Func) (hf : Tryz.pinned.checked.prog.funcNamed Rows.blobMissingTellsRow.func = some f) (hfn : Tryz.pinned.checked.prog.funcs[f]? = some fn) :
   false = Tryz.pinned.checked.prog.looks [] ∧ ∀ (j : Nat) t, fn.params[j]? = some t → Tryz.pinned.checked.prog.wantsStandIn t = false := by
 obtain rfl : f = 4 := Option.some.inj ((show Tryz.prog.funcNamed Rows.blobMissingTellsRow.func = some 4 by kernel_rfl).symm.trans hf) |>.symm
 obtain rfl : fn = Tryz.f4 := (Option.some.inj (Tryz.func4.symm.trans hfn)).symm
 refine ⟨by kernel_rfl, fun j t ht => ?_⟩
 rw [Tryz.params4] at ht
 have hm : t = 22 ∨ t = 3 := by
   have := Array.mem_of_getElem? ht
   simp at this
   first | exact this | (rcases this with h | h <;> simp [h]; done) | (rcases this with h | h | h <;> simp [h]; done) | (rcases this with h | h | h | h <;> simp [h]; done) | (simp_all; done)
 rcases hm with rfl | rfl
 · exact (show Tryz.prog.wantsStandIn 22 = false by kernel_rfl)
 · exact (show Tryz.prog.wantsStandIn 3 = false by kernel_rfl)
end Go.Proofs.YtjiddcchklaiiaaGreatDoor.BlobMissingTells
namespace Go.Proofs.YtjiddcchklaiiaaGreatDoor
open Go
theorem blobMissingTells_card : Rows.BlobMissingTellsCardSaid :=
 Claim7.holds_tied_plain_at .later [] _ _ _ _ BlobMissingTells.said (fun _ h => by cases h) (by kernel_rfl) (fun _ h => by cases h) blobMissingTells_row_tie rfl ⟨rfl, rfl⟩ (by kernel_rfl) rfl BlobMissingTells.plain (by kernel_rfl)
#print axioms blobMissingTells_card
end Go.Proofs.YtjiddcchklaiiaaGreatDoor

