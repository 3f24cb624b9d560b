/- The statement ConfigThroughMatchesSpec (its card): for every input the law returns true, and what was handed in reads as it did. No condition beyond those of the card. -/
import Derived.Test.YtbekhaioddmliaaGreatDoorCards
import Derived.Test.YtbekhaioddmliaaGreatDoorTie
import Derived.Test.YtbekhaioddmliaaGreatDoorQLThr
import Derived.Test.YtbekhaioddmliaaGreatDoorQEnd
import Derived.ProofKit
import Derived.Deep.DeepHandedRow
import Derived.Lib.LaidTab
namespace Go.Proofs.YtbekhaioddmliaaGreatDoor.ConfigThroughMatchesSpec
set_option linter.unusedVariables false
set_option linter.unusedSimpArgs false
open Go Go.RowKit Go.ChangeShapes Go.WideShapes Go.ChangeAt
theorem own : ownKnob Tryz.prog.godebug = none := by kernel_rfl
theorem laidOut : laidOutB Tryz.prog = true := by kernel_rfl
theorem gw {W : World} (h : W.ShapedOpen Tryz.prog) : GW W := Tryz.laysM143.s1_3 W h
def rcT : RC → Option TypeId := fun i => match i with | _ => none
theorem deep_string : Deep Tryz.prog rcT .str 9 := .str Tryz.underlying9
theorem deep_ABstring : Deep Tryz.prog rcT (.sl .str) 29 := .sl Tryz.underlying29 (by kernel_rfl) deep_string
theorem deep_smithyardSapiDSetting : Deep Tryz.prog rcT (.pr .str (.sl .str)) 81 := .st Tryz.underlying81 (by kernel_rfl) rfl (.cons rfl (by kernel_rfl) deep_string (.one rfl (by kernel_rfl) deep_ABstring))
theorem deep_ABapiDSetting : Deep Tryz.prog rcT (.sl (.pr .str (.sl .str))) 22 := .sl Tryz.underlying22 (by kernel_rfl) deep_smithyardSapiDSetting
theorem deep_smithyardSapiDPair : Deep Tryz.prog rcT (.pr .str .str) 53 := .st Tryz.underlying53 (by kernel_rfl) rfl (.cons rfl (by kernel_rfl) deep_string (.one rfl (by kernel_rfl) deep_string))
theorem deep_ABapiDPair : Deep Tryz.prog rcT (.sl (.pr .str .str)) 33 := .sl Tryz.underlying33 (by kernel_rfl) deep_smithyardSapiDPair
theorem deep_smithyardSapiDCondition : Deep Tryz.prog rcT (.pr .str (.pr (.sl (.pr .str .str)) (.sl (.pr .str .str)))) 108 := .st Tryz.underlying108 (by kernel_rfl) rfl (.cons rfl (by kernel_rfl) deep_string (.cons rfl (by kernel_rfl) deep_ABapiDPair (.one rfl (by kernel_rfl) deep_ABapiDPair)))
theorem deep_ABapiDCondition : Deep Tryz.prog rcT (.sl (.pr .str (.pr (.sl (.pr .str .str)) (.sl (.pr .str .str))))) 23 := .sl Tryz.underlying23 (by kernel_rfl) deep_smithyardSapiDCondition
theorem deep_smithyardSapiDPlatform : Deep Tryz.prog rcT (.pr .str (.sl (.pr .str .str))) 35 := .st Tryz.underlying35 (by kernel_rfl) rfl (.cons rfl (by kernel_rfl) deep_string (.one rfl (by kernel_rfl) deep_ABapiDPair))
theorem deep_ABapiDPlatform : Deep Tryz.prog rcT (.sl (.pr .str (.sl (.pr .str .str)))) 24 := .sl Tryz.underlying24 (by kernel_rfl) deep_smithyardSapiDPlatform
theorem deep_smithyardSapiDTool : Deep Tryz.prog rcT (.pr .str (.pr .str (.pr (.sl (.pr .str .str)) (.sl (.pr .str .str))))) 258 := .st Tryz.underlying258 (by kernel_rfl) rfl (.cons rfl (by kernel_rfl) deep_string (.cons rfl (by kernel_rfl) deep_string (.cons rfl (by kernel_rfl) deep_ABapiDPair (.one rfl (by kernel_rfl) deep_ABapiDPair))))
theorem deep_ABapiDTool : Deep Tryz.prog rcT (.sl (.pr .str (.pr .str (.pr (.sl (.pr .str .str)) (.sl (.pr .str .str)))))) 25 := .sl Tryz.underlying25 (by kernel_rfl) deep_smithyardSapiDTool
theorem deep_smithyardSapiDTransition : Deep Tryz.prog rcT (.pr .str (.pr (.sl (.pr .str .str)) (.sl .str))) 43 := .st Tryz.underlying43 (by kernel_rfl) rfl (.cons rfl (by kernel_rfl) deep_string (.cons rfl (by kernel_rfl) deep_ABapiDPair (.one rfl (by kernel_rfl) deep_ABstring)))
theorem deep_ABapiDTransition : Deep Tryz.prog rcT (.sl (.pr .str (.pr (.sl (.pr .str .str)) (.sl .str)))) 26 := .sl Tryz.underlying26 (by kernel_rfl) deep_smithyardSapiDTransition
theorem deep_smithyardSapiDWorld : Deep Tryz.prog rcT (.pr (.sl (.pr .str (.sl .str))) (.pr (.sl (.pr .str (.pr (.sl (.pr .str .str)) (.sl (.pr .str .str))))) (.pr (.sl (.pr .str (.sl (.pr .str .str)))) (.pr (.sl (.pr .str (.pr .str (.pr (.sl (.pr .str .str)) (.sl (.pr .str .str)))))) (.sl (.pr .str (.pr (.sl (.pr .str .str)) (.sl .str)))))))) 28 := .st Tryz.underlying28 (by kernel_rfl) rfl (.cons rfl (by kernel_rfl) deep_ABapiDSetting (.cons rfl (by kernel_rfl) deep_ABapiDCondition (.cons rfl (by kernel_rfl) deep_ABapiDPlatform (.cons rfl (by kernel_rfl) deep_ABapiDTool (.one rfl (by kernel_rfl) deep_ABapiDTransition)))))
theorem rcOk : RcOk Tryz.prog rcT := fun i T h => by
  cases i with
  | value => cases h
  | expr => cases h
  | stmt => cases h
set_option maxRecDepth 100000 in
theorem contract (H : Type) (enc : TypeId × Value → H) (W : World) (base : Nat) (args : Array Value) (ds gs : List (DataW H)) (before : List MemPlace)
    (hval0 : ∀ (j : Nat) t v, Tryz.f4.params[j]? = some t → args[j]? = some v → Value.okWide Tryz.prog W .any base t v)
    (hW : DataW.Whole enc Tryz.prog Tryz.f4.params.toList Rows.configThroughMatchesSpecSpec.vars false W args.toList ds gs before) (hsh : W.ShapedOpen Tryz.prog) :
    Calls Tryz.prog 4 args W fun e W' => ∃ v, e = .returned v ∧ Rows.configThroughMatchesSpecSpec.post enc Tryz.prog Tryz.f4 false true false false W args v W' := by
  have hval := hval0
  have hW' := hW
  obtain ⟨p, q, hA0, hV, rfl, hfz, hnd⟩ := hW
  have hA : DataW.TrodAll enc Tryz.prog W 0 (fun _ => true) true Tryz.f4.params.toList args.toList ds p := hA0
  rw [Tryz.params4] at hA hval
  obtain ⟨v0, vs0, d0, ds0, p0, q0, hargs, rfl, rfl, h0, r0⟩ := trodAll_cons hA
  obtain ⟨v1, vs1, d1, ds1, p1, q1, rfl, rfl, rfl, h1, r1⟩ := trodAll_cons r0
  obtain ⟨v2, vs2, d2, ds2, p2, q2, rfl, rfl, rfl, h2, r2⟩ := trodAll_cons r1
  obtain ⟨v3, vs3, d3, ds3, p3, q3, rfl, rfl, rfl, h3, r3⟩ := trodAll_cons r2
  obtain ⟨rfl, rfl, rfl⟩ := trodAll_nil r3
  obtain rfl : args = #[v0, v1, v2, v3] := by have := congrArg List.toArray hargs; simpa using this
  obtain ⟨rfl, rfl⟩ := trodVars_none hV
  have lt0 : ∀ x ∈ p0, x.block < W.heap.size := by obtain ⟨m, hm⟩ := h0; exact DataW.trod_lt m _ _ _ hm
  have lt1 : ∀ x ∈ p1, x.block < W.heap.size := by obtain ⟨m, hm⟩ := h1; exact DataW.trod_lt m _ _ _ hm
  have lt2 : ∀ x ∈ p2, x.block < W.heap.size := by obtain ⟨m, hm⟩ := h2; exact DataW.trod_lt m _ _ _ hm
  have lt3 : ∀ x ∈ p3, x.block < W.heap.size := by obtain ⟨m, hm⟩ := h3; exact DataW.trod_lt m _ _ _ hm
  obtain ⟨x0, a0, f0⟩ := arg_open rcOk deep_smithyardSapiDWorld (hval 0 28 v0 rfl rfl) h0
  obtain ⟨x1, a1, f1⟩ := arg_open rcOk deep_smithyardSapiDTransition (hval 1 43 v1 rfl rfl) h1
  obtain ⟨x2, a2, f2⟩ := arg_open rcOk deep_smithyardSapiDTransition (hval 2 43 v2 rfl rfl) h2
  obtain ⟨x3, a3, f3⟩ := arg_open rcOk deep_ABapiDPair (hval 3 33 v3 rfl rfl) h3
  clear hA0 hval0
  obtain ⟨N, hN⟩ := plain_ConfigThroughMatchesSpec x0 x1 x2 x3 f0 f1 f2 f3
  refine (law_run (fun _ => rfl) (law3_ConfigThroughMatchesSpec_sound N) (W := W) (vs := [v0, v1, v2, v3]) (x := (x0, x1, x2, x3, ())) (gw hsh) ⟨a0, a1, a2, a3, trivial⟩ hN).mono fun e W' ⟨he, bel⟩ => ?_
  subst he
  exact ⟨_, rfl, _, _, _, [], _, [], hW', trodAll_mk1 (shut_bool Tryz.underlying4 _), (trodAll_cons_mk (Below.trod laidOut (by kernel_rfl) (of_decide_eq_true (by kernel_rfl)) h0 bel lt0) (trodAll_cons_mk (Below.trod laidOut (by kernel_rfl) (of_decide_eq_true (by kernel_rfl)) h1 bel lt1) (trodAll_cons_mk (Below.trod laidOut (by kernel_rfl) (of_decide_eq_true (by kernel_rfl)) h2 bel lt2) (trodAll_cons_mk (Below.trod laidOut (by kernel_rfl) (of_decide_eq_true (by kernel_rfl)) h3 bel lt3) trodAll_mk0)))), rfl, Below.frame bel _, fun h => by cases h⟩
/-- A world for the witness: the settled one, with what is listed laid. -/
noncomputable def laidWorld (os : Os) : World :=
  { World.holding Tryz.prog os ⟨#[], #[], []⟩ with heap := (((World.holding Tryz.prog os ⟨#[], #[], []⟩).heap.modify 2 fun
      | .cells _ t frozen => .cells #[.int .u8 128, .int .u8 191, .int .u8 160, .int .u8 191, .int .u8 128, .int .u8 159, .int .u8 144, .int .u8 191, .int .u8 128, .int .u8 143, .int .u8 0, .int .u8 0, .int .u8 0, .int .u8 0, .int .u8 0, .int .u8 0, .int .u8 0, .int .u8 0, .int .u8 0, .int .u8 0, .int .u8 0, .int .u8 0, .int .u8 0, .int .u8 0, .int .u8 0, .int .u8 0, .int .u8 0, .int .u8 0, .int .u8 0, .int .u8 0, .int .u8 0, .int .u8 0] t frozen
      | o => o).modify 1 fun
      | .cells _ t frozen => .cells (Go.Pinned.utf8FirstZ.map fun (n : Nat) => Value.int .u8 n).toArray t frozen
      | o => o) }
set_option maxRecDepth 100000 in
theorem laid_met (os : Os) : laidMet Tryz.prog Rows.configThroughMatchesSpecRow.laid ((laidWorld os).forCall (fun _ _ => 0) ⟨#[], #[.agg #[.slice none 0 0, .slice none 0 0, .slice none 0 0, .slice none 0 0, .slice none 0 0], .agg #[.string ⟨#[]⟩, .slice none 0 0, .slice none 0 0], .agg #[.string ⟨#[]⟩, .slice none 0 0, .slice none 0 0], .slice none 0 0], []⟩).memory :=
  laidMet_of_run' 8 (by kernel_rfl) (by kernel_rfl)
set_option maxRecDepth 100000 in
theorem reads (os : Os) {H : Type} (enc : TypeId × Value → H) : ∃ places, DataW.whole enc Tryz.prog ((laidWorld os).forCall (fun _ _ => 0) ⟨#[], #[.agg #[.slice none 0 0, .slice none 0 0, .slice none 0 0, .slice none 0 0, .slice none 0 0], .agg #[.string ⟨#[]⟩, .slice none 0 0, .slice none 0 0], .agg #[.string ⟨#[]⟩, .slice none 0 0, .slice none 0 0], .slice none 0 0], []⟩).memory Tryz.f4.params.toList Rows.configThroughMatchesSpecSpec.vars false (#[.agg #[.slice none 0 0, .slice none 0 0, .slice none 0 0, .slice none 0 0, .slice none 0 0], .agg #[.string ⟨#[]⟩, .slice none 0 0, .slice none 0 0], .agg #[.string ⟨#[]⟩, .slice none 0 0, .slice none 0 0], .slice none 0 0] : Array Value).toList 8 = some ([.agg [.nil, .nil, .nil, .nil, .nil], .agg [.lit (.string []), .nil, .nil], .agg [.lit (.string []), .nil, .nil], .nil], [], places) :=
  ⟨[], by kernel_rfl⟩
set_option maxRecDepth 100000 in
theorem lifted (os : Os) (started : os.Started) (H : Type) (enc : TypeId × Value → H) (F : Stop.Interp) :
    ReturnsInHanded {} Tryz.checked os 4 .any ((OpenSpec.ofChange Rows.configThroughMatchesSpecSpec).preRow enc Tryz.prog Tryz.f4 Rows.configThroughMatchesSpecRow.domain false Rows.configThroughMatchesSpecRow.laid) (((OpenSpec.ofChange Rows.configThroughMatchesSpecSpec).at F).post enc Tryz.prog Tryz.f4 false true false false) := by
  obtain ⟨places, hx⟩ := reads os enc
  refine returnsInHanded_of_row (C := Tryz.checked) (s := OpenSpec.ofChange Rows.configThroughMatchesSpecSpec) own started (by kernel_rfl) Tryz.func4
    (witness_row_at (enc := enc) (C := Tryz.checked) false (laidWorld os) #[.agg #[.slice none 0 0, .slice none 0 0, .slice none 0 0, .slice none 0 0, .slice none 0 0], .agg #[.string ⟨#[]⟩, .slice none 0 0, .slice none 0 0], .agg #[.string ⟨#[]⟩, .slice none 0 0, .slice none 0 0], .slice none 0 0] rfl (by kernel_rfl) (by kernel_rfl) (by kernel_rfl)
      (OpenSpec.preRow_of_cond 8 hx (by kernel_rfl) (fun k hk => by cases hk) (by kernel_rfl) (laid_met os))) ?_
  intro W base args ds gs before hval hW _ _ _ _ hsh _
  exact contract H enc W base args ds gs before hval hW hsh
theorem said : Rows.ConfigThroughMatchesSpecSaid :=
  OpenClaim.holds_of_cond 4 Tryz.f4 rfl rfl rfl rfl rfl rfl rfl ⟨rfl, rfl, rfl, rfl, rfl⟩ rfl rfl rfl rfl rfl (by kernel_rfl) Tryz.func4 (by kernel_rfl)
    (of_decide_eq_true (by kernel_rfl)) (by unfold Func.isWrapper; first | (rw [if_pos (by decide +kernel)]; kernel_rfl) | (rw [if_neg (by decide +kernel)]; exact ⟨rfl, rfl⟩))
    (fun os started H enc _ F => by rw [OpenClaim.pre_eq_preRow]; exact lifted os started H enc F)
theorem plain (f : FuncId) (fn : Func) (hf : Tryz.pinned.checked.prog.funcNamed Rows.configThroughMatchesSpecRow.func = some f) (hfn : Tryz.pinned.checked.prog.funcs[f]? = some fn) :
    false = Tryz.pinned.checked.prog.looks [] ∧ ∀ (j : Nat) t, fn.params[j]? = some t → Tryz.pinned.checked.prog.wantsStandIn t = false := by
  obtain rfl : f = 4 := Option.some.inj ((show Tryz.prog.funcNamed Rows.configThroughMatchesSpecRow.func = some 4 by kernel_rfl).symm.trans hf) |>.symm
  obtain rfl : fn = Tryz.f4 := (Option.some.inj (Tryz.func4.symm.trans hfn)).symm
  refine ⟨by kernel_rfl, fun j t ht => ?_⟩
  rw [Tryz.params4] at ht
  have hm : t = 28 ∨ t = 43 ∨ t = 33 := by
    have := Array.mem_of_getElem? ht
    simp at this
    first | exact this | (rcases this with h | h <;> simp_all) | simp_all
  rcases hm with rfl | rfl | rfl
  · exact (show Tryz.prog.wantsStandIn 28 = false by kernel_rfl)
  · exact (show Tryz.prog.wantsStandIn 43 = false by kernel_rfl)
  · exact (show Tryz.prog.wantsStandIn 33 = false by kernel_rfl)
end Go.Proofs.YtbekhaioddmliaaGreatDoor.ConfigThroughMatchesSpec
namespace Go.Proofs.YtbekhaioddmliaaGreatDoor
open Go
theorem configThroughMatchesSpec_card : Rows.ConfigThroughMatchesSpecCardSaid :=
  Claim7.holds_tied_plain_at .later [] _ _ _ _ ConfigThroughMatchesSpec.said (fun _ h => by cases h) (by kernel_rfl) (fun _ h => by cases h) configThroughMatchesSpec_row_tie rfl ⟨rfl, rfl⟩ (by kernel_rfl) rfl ConfigThroughMatchesSpec.plain (by kernel_rfl)
#print axioms configThroughMatchesSpec_card
end Go.Proofs.YtbekhaioddmliaaGreatDoor

