/- The statement ConfigChosenThenAdd (its card): for every input the law returns true, and what was handed in reads as it did. No condition beyond those of the card. -/
import Derived.Test.YtbekhaioddmliaaDoorCards
import Derived.Test.YtbekhaioddmliaaDoorTie
import Derived.Test.YtbekhaioddmliaaDoorQLAdd
import Derived.Test.YtbekhaioddmliaaDoorQCfF9
import Derived.ProofKit
import Derived.Deep.DeepHandedRow
import Derived.Lib.LaidTab
namespace Go.Proofs.YtbekhaioddmliaaDoor.ConfigChosenThenAdd
set_option linter.unusedVariables false
set_option linter.unusedSimpArgs false
open Go Go.RowKit Go.ChangeShapes Go.WideShapes Go.ChangeAt
theorem own : ownKnob Tryd.prog.godebug = none := by kernel_rfl
theorem laidOut : laidOutB Tryd.prog = true := by kernel_rfl
theorem gw {W : World} (h : W.ShapedOpen Tryd.prog) : GW W := Tryd.laysM143.s1_3 W h
def rcT : RC → Option TypeId := fun i => match i with | .value => some 76 | _ => none
theorem deep_string : Deep Tryd.prog rcT .str 9 := .str Tryd.underlying9
theorem deep_ABstring : Deep Tryd.prog rcT (.sl .str) 46 := .sl Tryd.underlying46 (by kernel_rfl) deep_string
theorem deep_smithyardSapiDSetting : Deep Tryd.prog rcT (.pr .str (.sl .str)) 66 := .st Tryd.underlying66 (by kernel_rfl) rfl (.cons rfl (by kernel_rfl) deep_string (.one rfl (by kernel_rfl) deep_ABstring))
theorem deep_ABapiDSetting : Deep Tryd.prog rcT (.sl (.pr .str (.sl .str))) 22 := .sl Tryd.underlying22 (by kernel_rfl) deep_smithyardSapiDSetting
theorem deep_smithyardSapiDPair : Deep Tryd.prog rcT (.pr .str .str) 60 := .st Tryd.underlying60 (by kernel_rfl) rfl (.cons rfl (by kernel_rfl) deep_string (.one rfl (by kernel_rfl) deep_string))
theorem deep_ABapiDPair : Deep Tryd.prog rcT (.sl (.pr .str .str)) 23 := .sl Tryd.underlying23 (by kernel_rfl) deep_smithyardSapiDPair
theorem deep_smithyardSapiDCondition : Deep Tryd.prog rcT (.pr .str (.pr (.sl (.pr .str .str)) (.sl (.pr .str .str)))) 38 := .st Tryd.underlying38 (by kernel_rfl) rfl (.cons rfl (by kernel_rfl) deep_string (.cons rfl (by kernel_rfl) deep_ABapiDPair (.one rfl (by kernel_rfl) deep_ABapiDPair)))
theorem deep_ABapiDCondition : Deep Tryd.prog rcT (.sl (.pr .str (.pr (.sl (.pr .str .str)) (.sl (.pr .str .str))))) 31 := .sl Tryd.underlying31 (by kernel_rfl) deep_smithyardSapiDCondition
theorem deep_smithyardSapiDPlatform : Deep Tryd.prog rcT (.pr .str (.sl (.pr .str .str))) 40 := .st Tryd.underlying40 (by kernel_rfl) rfl (.cons rfl (by kernel_rfl) deep_string (.one rfl (by kernel_rfl) deep_ABapiDPair))
theorem deep_ABapiDPlatform : Deep Tryd.prog rcT (.sl (.pr .str (.sl (.pr .str .str)))) 32 := .sl Tryd.underlying32 (by kernel_rfl) deep_smithyardSapiDPlatform
theorem deep_smithyardSapiDTool : Deep Tryd.prog rcT (.pr .str (.pr .str (.pr (.sl (.pr .str .str)) (.sl (.pr .str .str))))) 103 := .st Tryd.underlying103 (by kernel_rfl) rfl (.cons rfl (by kernel_rfl) deep_string (.cons rfl (by kernel_rfl) deep_string (.cons rfl (by kernel_rfl) deep_ABapiDPair (.one rfl (by kernel_rfl) deep_ABapiDPair))))
theorem deep_ABapiDTool : Deep Tryd.prog rcT (.sl (.pr .str (.pr .str (.pr (.sl (.pr .str .str)) (.sl (.pr .str .str)))))) 33 := .sl Tryd.underlying33 (by kernel_rfl) deep_smithyardSapiDTool
theorem deep_smithyardSapiDTransition : Deep Tryd.prog rcT (.pr .str (.pr (.sl (.pr .str .str)) (.sl .str))) 217 := .st Tryd.underlying217 (by kernel_rfl) rfl (.cons rfl (by kernel_rfl) deep_string (.cons rfl (by kernel_rfl) deep_ABapiDPair (.one rfl (by kernel_rfl) deep_ABstring)))
theorem deep_ABapiDTransition : Deep Tryd.prog rcT (.sl (.pr .str (.pr (.sl (.pr .str .str)) (.sl .str)))) 34 := .sl Tryd.underlying34 (by kernel_rfl) deep_smithyardSapiDTransition
theorem deep_smithyardSapiDWorld : Deep Tryd.prog rcT (.pr (.sl (.pr .str (.sl .str))) (.pr (.sl (.pr .str (.pr (.sl (.pr .str .str)) (.sl (.pr .str .str))))) (.pr (.sl (.pr .str (.sl (.pr .str .str)))) (.pr (.sl (.pr .str (.pr .str (.pr (.sl (.pr .str .str)) (.sl (.pr .str .str)))))) (.sl (.pr .str (.pr (.sl (.pr .str .str)) (.sl .str)))))))) 36 := .st Tryd.underlying36 (by kernel_rfl) rfl (.cons rfl (by kernel_rfl) deep_ABapiDSetting (.cons rfl (by kernel_rfl) deep_ABapiDCondition (.cons rfl (by kernel_rfl) deep_ABapiDPlatform (.cons rfl (by kernel_rfl) deep_ABapiDTool (.one rfl (by kernel_rfl) deep_ABapiDTransition)))))
theorem deep_smithyardSapiDValue : Deep Tryd.prog rcT (.rc .value) 76 := .rc rfl
theorem deep_int : Deep Tryd.prog rcT (.int .i64) 3 := .int Tryd.underlying3
theorem deep_smithyardSapiDCase : Deep Tryd.prog rcT (.pr .str (.rc .value)) 81 := .st Tryd.underlying81 (by kernel_rfl) rfl (.cons rfl (by kernel_rfl) deep_string (.one rfl (by kernel_rfl) deep_smithyardSapiDValue))
theorem deep_ABapiDCase : Deep Tryd.prog rcT (.sl (.pr .str (.rc .value))) 74 := .sl Tryd.underlying74 (by kernel_rfl) deep_smithyardSapiDCase
theorem rcOk : RcOk Tryd.prog rcT := fun i T h => by
  cases i with
  | value => cases h; exact ⟨_, Tryd.underlying76, by kernel_rfl, (.cons rfl (by kernel_rfl) deep_int (.cons rfl (by kernel_rfl) deep_string (.cons rfl (by kernel_rfl) deep_int (.cons rfl (by kernel_rfl) deep_ABstring (.one rfl (by kernel_rfl) deep_ABapiDCase)))))⟩
  | expr => cases h
  | stmt => cases h
set_option maxRecDepth 100000 in
theorem contract (H : Type) (enc : TypeId × Value → H) (W : World) (base : Nat) (args : Array Value) (ds gs : List (DataW H)) (before : List MemPlace)
    (hval0 : ∀ (j : Nat) t v, Tryd.f13.params[j]? = some t → args[j]? = some v → Value.okWide Tryd.prog W .any base t v)
    (hW : DataW.Whole enc Tryd.prog Tryd.f13.params.toList Rows.configChosenThenAddSpec.vars false W args.toList ds gs before) (hsh : W.ShapedOpen Tryd.prog) :
    Calls Tryd.prog 13 args W fun e W' => ∃ v, e = .returned v ∧ Rows.configChosenThenAddSpec.post enc Tryd.prog Tryd.f13 false true false false W args v W' := by
  have hval := hval0
  have hW' := hW
  obtain ⟨p, q, hA0, hV, rfl, hfz, hnd⟩ := hW
  have hA : DataW.TrodAll enc Tryd.prog W 0 (fun _ => true) true Tryd.f13.params.toList args.toList ds p := hA0
  rw [Tryd.params13] at hA hval
  obtain ⟨v0, vs0, d0, ds0, p0, q0, hargs, rfl, rfl, h0, r0⟩ := trodAll_cons hA
  obtain ⟨v1, vs1, d1, ds1, p1, q1, rfl, rfl, rfl, h1, r1⟩ := trodAll_cons r0
  obtain ⟨v2, vs2, d2, ds2, p2, q2, rfl, rfl, rfl, h2, r2⟩ := trodAll_cons r1
  obtain ⟨v3, vs3, d3, ds3, p3, q3, rfl, rfl, rfl, h3, r3⟩ := trodAll_cons r2
  obtain ⟨v4, vs4, d4, ds4, p4, q4, rfl, rfl, rfl, h4, r4⟩ := trodAll_cons r3
  obtain ⟨rfl, rfl, rfl⟩ := trodAll_nil r4
  obtain rfl : args = #[v0, v1, v2, v3, v4] := by have := congrArg List.toArray hargs; simpa using this
  obtain ⟨rfl, rfl⟩ := trodVars_none hV
  have lt0 : ∀ x ∈ p0, x.block < W.heap.size := by obtain ⟨m, hm⟩ := h0; exact DataW.trod_lt m _ _ _ hm
  have lt1 : ∀ x ∈ p1, x.block < W.heap.size := by obtain ⟨m, hm⟩ := h1; exact DataW.trod_lt m _ _ _ hm
  have lt2 : ∀ x ∈ p2, x.block < W.heap.size := by obtain ⟨m, hm⟩ := h2; exact DataW.trod_lt m _ _ _ hm
  have lt3 : ∀ x ∈ p3, x.block < W.heap.size := by obtain ⟨m, hm⟩ := h3; exact DataW.trod_lt m _ _ _ hm
  have lt4 : ∀ x ∈ p4, x.block < W.heap.size := by obtain ⟨m, hm⟩ := h4; exact DataW.trod_lt m _ _ _ hm
  obtain ⟨x0, a0, f0⟩ := arg_open rcOk deep_smithyardSapiDWorld (hval 0 36 v0 rfl rfl) h0
  obtain ⟨x1, a1, f1⟩ := arg_open rcOk deep_smithyardSapiDValue (hval 1 76 v1 rfl rfl) h1
  obtain ⟨x2, a2, f2⟩ := arg_open rcOk deep_smithyardSapiDValue (hval 2 76 v2 rfl rfl) h2
  obtain ⟨x3, a3, f3⟩ := arg_open rcOk deep_ABapiDPair (hval 3 23 v3 rfl rfl) h3
  obtain ⟨x4, a4, f4⟩ := arg_open rcOk deep_smithyardSapiDPlatform (hval 4 40 v4 rfl rfl) h4
  clear hA0 hval0
  obtain ⟨N, hN⟩ := plain_ConfigChosenThenAdd x0 x1 x2 x3 x4 f0 f1 f2 f3 f4
  refine (law_run (fun _ => rfl) (law3_ConfigChosenThenAdd_sound N) (W := W) (vs := [v0, v1, v2, v3, v4]) (x := (x0, x1, x2, x3, x4, ())) (gw hsh) ⟨a0, a1, a2, a3, a4, trivial⟩ hN).mono fun e W' ⟨he, bel⟩ => ?_
  subst he
  exact ⟨_, rfl, _, _, _, [], _, [], hW', trodAll_mk1 (shut_bool Tryd.underlying4 _), (trodAll_cons_mk (Below.trod laidOut (by kernel_rfl) (of_decide_eq_true (by kernel_rfl)) h0 bel lt0) (trodAll_cons_mk (Below.trod laidOut (by kernel_rfl) (of_decide_eq_true (by kernel_rfl)) h1 bel lt1) (trodAll_cons_mk (Below.trod laidOut (by kernel_rfl) (of_decide_eq_true (by kernel_rfl)) h2 bel lt2) (trodAll_cons_mk (Below.trod laidOut (by kernel_rfl) (of_decide_eq_true (by kernel_rfl)) h3 bel lt3) (trodAll_cons_mk (Below.trod laidOut (by kernel_rfl) (of_decide_eq_true (by kernel_rfl)) h4 bel lt4) trodAll_mk0))))), rfl, Below.frame bel _, fun h => by cases h⟩
/-- A world for the witness: the settled one, with what is listed laid. -/
noncomputable def laidWorld (os : Os) : World :=
  { World.holding Tryd.prog os ⟨#[], #[], []⟩ with heap := (((World.holding Tryd.prog os ⟨#[], #[], []⟩).heap.modify 2 fun
      | .cells _ t frozen => .cells #[.int .u8 128, .int .u8 191, .int .u8 160, .int .u8 191, .int .u8 128, .int .u8 159, .int .u8 144, .int .u8 191, .int .u8 128, .int .u8 143, .int .u8 0, .int .u8 0, .int .u8 0, .int .u8 0, .int .u8 0, .int .u8 0, .int .u8 0, .int .u8 0, .int .u8 0, .int .u8 0, .int .u8 0, .int .u8 0, .int .u8 0, .int .u8 0, .int .u8 0, .int .u8 0, .int .u8 0, .int .u8 0, .int .u8 0, .int .u8 0, .int .u8 0, .int .u8 0] t frozen
      | o => o).modify 1 fun
      | .cells _ t frozen => .cells (Go.Pinned.utf8FirstZ.map fun (n : Nat) => Value.int .u8 n).toArray t frozen
      | o => o) }
set_option maxRecDepth 100000 in
theorem laid_met (os : Os) : laidMet Tryd.prog Rows.configChosenThenAddRow.laid ((laidWorld os).forCall (fun _ _ => 0) ⟨#[], #[.agg #[.slice none 0 0, .slice none 0 0, .slice none 0 0, .slice none 0 0, .slice none 0 0], .agg #[.int .i64 0, .string ⟨#[]⟩, .int .i64 0, .slice none 0 0, .slice none 0 0], .agg #[.int .i64 0, .string ⟨#[]⟩, .int .i64 0, .slice none 0 0, .slice none 0 0], .slice none 0 0, .agg #[.string ⟨#[]⟩, .slice none 0 0]], []⟩).memory :=
  laidMet_of_run' 8 (by kernel_rfl) (by kernel_rfl)
set_option maxRecDepth 100000 in
theorem reads (os : Os) {H : Type} (enc : TypeId × Value → H) : ∃ places, DataW.whole enc Tryd.prog ((laidWorld os).forCall (fun _ _ => 0) ⟨#[], #[.agg #[.slice none 0 0, .slice none 0 0, .slice none 0 0, .slice none 0 0, .slice none 0 0], .agg #[.int .i64 0, .string ⟨#[]⟩, .int .i64 0, .slice none 0 0, .slice none 0 0], .agg #[.int .i64 0, .string ⟨#[]⟩, .int .i64 0, .slice none 0 0, .slice none 0 0], .slice none 0 0, .agg #[.string ⟨#[]⟩, .slice none 0 0]], []⟩).memory Tryd.f13.params.toList Rows.configChosenThenAddSpec.vars false (#[.agg #[.slice none 0 0, .slice none 0 0, .slice none 0 0, .slice none 0 0, .slice none 0 0], .agg #[.int .i64 0, .string ⟨#[]⟩, .int .i64 0, .slice none 0 0, .slice none 0 0], .agg #[.int .i64 0, .string ⟨#[]⟩, .int .i64 0, .slice none 0 0, .slice none 0 0], .slice none 0 0, .agg #[.string ⟨#[]⟩, .slice none 0 0]] : Array Value).toList 8 = some ([.agg [.nil, .nil, .nil, .nil, .nil], .agg [.lit (.int .i64 0), .lit (.string []), .lit (.int .i64 0), .nil, .nil], .agg [.lit (.int .i64 0), .lit (.string []), .lit (.int .i64 0), .nil, .nil], .nil, .agg [.lit (.string []), .nil]], [], places) :=
  ⟨[], by kernel_rfl⟩
set_option maxRecDepth 100000 in
theorem lifted (os : Os) (started : os.Started) (H : Type) (enc : TypeId × Value → H) (F : Stop.Interp) :
    ReturnsInHanded {} Tryd.checked os 13 .any ((OpenSpec.ofChange Rows.configChosenThenAddSpec).preRow enc Tryd.prog Tryd.f13 Rows.configChosenThenAddRow.domain false Rows.configChosenThenAddRow.laid) (((OpenSpec.ofChange Rows.configChosenThenAddSpec).at F).post enc Tryd.prog Tryd.f13 false true false false) := by
  obtain ⟨places, hx⟩ := reads os enc
  refine returnsInHanded_of_row (C := Tryd.checked) (s := OpenSpec.ofChange Rows.configChosenThenAddSpec) own started (by kernel_rfl) Tryd.func13
    (witness_row_at (enc := enc) (C := Tryd.checked) false (laidWorld os) #[.agg #[.slice none 0 0, .slice none 0 0, .slice none 0 0, .slice none 0 0, .slice none 0 0], .agg #[.int .i64 0, .string ⟨#[]⟩, .int .i64 0, .slice none 0 0, .slice none 0 0], .agg #[.int .i64 0, .string ⟨#[]⟩, .int .i64 0, .slice none 0 0, .slice none 0 0], .slice none 0 0, .agg #[.string ⟨#[]⟩, .slice none 0 0]] rfl (by kernel_rfl) (by kernel_rfl) (by kernel_rfl)
      (OpenSpec.preRow_of_cond 8 hx (by kernel_rfl) (fun k hk => by cases hk) (by kernel_rfl) (laid_met os))) ?_
  intro W base args ds gs before hval hW _ _ _ _ hsh _
  exact contract H enc W base args ds gs before hval hW hsh
theorem said : Rows.ConfigChosenThenAddSaid :=
  OpenClaim.holds_of_cond 13 Tryd.f13 rfl rfl rfl rfl rfl rfl rfl ⟨rfl, rfl, rfl, rfl, rfl⟩ rfl rfl rfl rfl rfl (by kernel_rfl) Tryd.func13 (by kernel_rfl)
    (of_decide_eq_true (by kernel_rfl)) (by unfold Func.isWrapper; first | (rw [if_pos (by decide +kernel)]; kernel_rfl) | (rw [if_neg (by decide +kernel)]; exact ⟨rfl, rfl⟩))
    (fun os started H enc _ F => by rw [OpenClaim.pre_eq_preRow]; exact lifted os started H enc F)
theorem plain (f : FuncId) (fn : Func) (hf : Tryd.pinned.checked.prog.funcNamed Rows.configChosenThenAddRow.func = some f) (hfn : Tryd.pinned.checked.prog.funcs[f]? = some fn) :
    false = Tryd.pinned.checked.prog.looks [] ∧ ∀ (j : Nat) t, fn.params[j]? = some t → Tryd.pinned.checked.prog.wantsStandIn t = false := by
  obtain rfl : f = 13 := Option.some.inj ((show Tryd.prog.funcNamed Rows.configChosenThenAddRow.func = some 13 by kernel_rfl).symm.trans hf) |>.symm
  obtain rfl : fn = Tryd.f13 := (Option.some.inj (Tryd.func13.symm.trans hfn)).symm
  refine ⟨by kernel_rfl, fun j t ht => ?_⟩
  rw [Tryd.params13] at ht
  have hm : t = 36 ∨ t = 76 ∨ t = 23 ∨ t = 40 := by
    have := Array.mem_of_getElem? ht
    simp at this
    first | exact this | (rcases this with h | h <;> simp_all) | simp_all
  rcases hm with rfl | rfl | rfl | rfl
  · exact (show Tryd.prog.wantsStandIn 36 = false by kernel_rfl)
  · exact (show Tryd.prog.wantsStandIn 76 = false by kernel_rfl)
  · exact (show Tryd.prog.wantsStandIn 23 = false by kernel_rfl)
  · exact (show Tryd.prog.wantsStandIn 40 = false by kernel_rfl)
end Go.Proofs.YtbekhaioddmliaaDoor.ConfigChosenThenAdd
namespace Go.Proofs.YtbekhaioddmliaaDoor
open Go
theorem configChosenThenAdd_card : Rows.ConfigChosenThenAddCardSaid :=
  Claim7.holds_tied_plain_at .later [] _ _ _ _ ConfigChosenThenAdd.said (fun _ h => by cases h) (by kernel_rfl) (fun _ h => by cases h) configChosenThenAdd_row_tie rfl ⟨rfl, rfl⟩ (by kernel_rfl) rfl ConfigChosenThenAdd.plain (by kernel_rfl)
#print axioms configChosenThenAdd_card
end Go.Proofs.YtbekhaioddmliaaDoor

