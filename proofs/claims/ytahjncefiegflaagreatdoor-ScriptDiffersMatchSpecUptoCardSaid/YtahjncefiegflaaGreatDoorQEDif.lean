/- The statement ScriptDiffersMatchSpec (its card): for every input the law returns true, and what was handed in reads as it did. No condition beyond those of the card. -/
import Derived.Test.YtahjncefiegflaaGreatDoorCards
import Derived.Test.YtahjncefiegflaaGreatDoorTie
import Derived.Test.YtahjncefiegflaaGreatDoorQLDif
import Derived.Test.YtahjncefiegflaaGreatDoorQLSv
import Derived.ProofKit
import Derived.Deep.DeepHandedRow
import Derived.Lib.LaidTab
namespace Go.Proofs.YtahjncefiegflaaGreatDoor.ScriptDiffersMatchSpec
set_option linter.unusedVariables false
set_option linter.unusedSimpArgs false
open Go Go.RowKit Go.ChangeShapes Go.WideShapes Go.ChangeAt
theorem own : ownKnob Tryz.prog.godebug = none := by kernel_rfl
theorem laidOut : laidOutB Tryz.prog = true := by kernel_rfl
theorem gw {W : World} (h : W.ShapedOpen Tryz.prog) : GW W := Tryz.laysM143.s1_3 W h
def rcT : RC → Option TypeId := fun i => match i with | .value => some 25 | _ => none
theorem deep_string : Deep Tryz.prog rcT .str 9 := .str Tryz.underlying9
theorem deep_smithyardSapiDValue : Deep Tryz.prog rcT (.rc .value) 25 := .rc rfl
theorem deep_smithyardSapiDAttr : Deep Tryz.prog rcT (.pr .str (.rc .value)) 84 := .st Tryz.underlying84 (by kernel_rfl) rfl (.cons rfl (by kernel_rfl) deep_string (.one rfl (by kernel_rfl) deep_smithyardSapiDValue))
theorem deep_ABapiDAttr : Deep Tryz.prog rcT (.sl (.pr .str (.rc .value))) 38 := .sl Tryz.underlying38 (by kernel_rfl) deep_smithyardSapiDAttr
theorem deep_smithyardSapiDTarget : Deep Tryz.prog rcT (.pr .str (.pr .str (.sl (.pr .str (.rc .value))))) 40 := .st Tryz.underlying40 (by kernel_rfl) rfl (.cons rfl (by kernel_rfl) deep_string (.cons rfl (by kernel_rfl) deep_string (.one rfl (by kernel_rfl) deep_ABapiDAttr)))
theorem deep_ABapiDTarget : Deep Tryz.prog rcT (.sl (.pr .str (.pr .str (.sl (.pr .str (.rc .value)))))) 35 := .sl Tryz.underlying35 (by kernel_rfl) deep_smithyardSapiDTarget
theorem deep_smithyardSapiDPackage : Deep Tryz.prog rcT (.pr .str (.sl (.pr .str (.pr .str (.sl (.pr .str (.rc .value))))))) 37 := .st Tryz.underlying37 (by kernel_rfl) rfl (.cons rfl (by kernel_rfl) deep_string (.one rfl (by kernel_rfl) deep_ABapiDTarget))
theorem deep_int : Deep Tryz.prog rcT (.int .i64) 3 := .int Tryz.underlying3
theorem deep_ABstring : Deep Tryz.prog rcT (.sl .str) 22 := .sl Tryz.underlying22 (by kernel_rfl) deep_string
theorem deep_smithyardSapiDCase : Deep Tryz.prog rcT (.pr .str (.rc .value)) 75 := .st Tryz.underlying75 (by kernel_rfl) rfl (.cons rfl (by kernel_rfl) deep_string (.one rfl (by kernel_rfl) deep_smithyardSapiDValue))
theorem deep_ABapiDCase : Deep Tryz.prog rcT (.sl (.pr .str (.rc .value))) 23 := .sl Tryz.underlying23 (by kernel_rfl) deep_smithyardSapiDCase
theorem rcOk : RcOk Tryz.prog rcT := fun i T h => by
 cases i with
 | value => cases h; exact ⟨_, Tryz.underlying25, by kernel_rfl, (.cons rfl (by kernel_rfl) deep_int (.cons rfl (by kernel_rfl) deep_string (.cons rfl (by kernel_rfl) deep_int (.cons rfl (by kernel_rfl) deep_ABstring (.one rfl (by kernel_rfl) deep_ABapiDCase)))))⟩
 | expr => cases h
 | stmt => cases h
 | part => cases h
set_option maxRecDepth 100000 in
theorem contract (H : Type) (enc : TypeId × Value → H) (W : World) (base : Nat) (args : Array Value) (ds gs : List (DataW H)) (before : List MemPlace)
   (hval0 : ∀ (j : Nat) t v, Tryz.f8.params[j]? = some t → args[j]? = some v → Value.okWide Tryz.prog W .any base t v)
   (hW : DataW.Whole enc Tryz.prog Tryz.f8.params.toList Rows.scriptDiffersMatchSpecSpec.vars false W args.toList ds gs before) (hcond : Rows.uptoSmall H (ds ++ gs) = true) (hsh : W.ShapedOpen Tryz.prog) :
   Calls Tryz.prog 8 args W fun e W' => ∃ v, e = .returned v ∧ Rows.scriptDiffersMatchSpecSpec.post enc Tryz.prog Tryz.f8 false true false false W args v W' := by
 have hval := hval0
 have hW' := hW
 obtain ⟨p, q, hA0, hV, rfl, hfz, hnd⟩ := hW
 have hA : DataW.TrodAll enc Tryz.prog W 0 (fun _ => true) true Tryz.f8.params.toList args.toList ds p := hA0
 rw [Tryz.params8] at hA hval
 obtain ⟨v0, vs0, d0, ds0, p0, q0, hargs, rfl, rfl, h0, r0⟩ := trodAll_cons hA
 obtain ⟨v1, vs1, d1, ds1, p1, q1, rfl, rfl, rfl, h1, r1⟩ := trodAll_cons r0
 obtain ⟨rfl, rfl, rfl⟩ := trodAll_nil r1
 obtain rfl : args = #[v0, v1] := by have := congrArg List.toArray hargs; simpa using this
 obtain ⟨rfl, rfl⟩ := trodVars_none hV
 have lt0 : ∀ x ∈ p0, x.block < W.heap.size := by obtain ⟨m, hm⟩ := h0; exact DataW.trod_lt m _ _ _ hm
 have lt1 : ∀ x ∈ p1, x.block < W.heap.size := by obtain ⟨m, hm⟩ := h1; exact DataW.trod_lt m _ _ _ hm
 obtain ⟨x0, a0, f0, b0⟩ := arg_openU rcOk rbC_ok deep_smithyardSapiDPackage (hval 0 37 v0 rfl rfl) h0
 obtain ⟨x1, a1, f1, b1⟩ := arg_openU rcOk rbC_ok deep_smithyardSapiDPackage (hval 1 37 v1 rfl rfl) h1
 clear hA0 hval0
 have hb : bulkG rbC (.pr .str (.sl (.pr .str (.pr .str (.sl (.pr .str (.rc .value))))))) x0 + bulkG rbC (.pr .str (.sl (.pr .str (.pr .str (.sl (.pr .str (.rc .value))))))) x1 ≤ 1048576 := by
   have h := of_decide_eq_true hcond
   simp only [List.append_nil, List.cons_append, List.nil_append, uptoAll_cons, uptoAll_nil] at h
   omega
 obtain ⟨N, hN⟩ := plain_ScriptDiffersMatchSpec x0 x1 f0 f1 hb
 refine (law_run (fun _ => rfl) (z7sound N) (W := W) (vs := [v0, v1]) (x := (x0, x1, ())) (gw hsh) ⟨a0, a1, trivial⟩ hN).mono fun e W' ⟨he, bel⟩ => ?_
 subst he
 exact ⟨_, rfl, _, _, _, [], _, [], hW', trodAll_mk1 (shut_bool Tryz.underlying4 _), (trodAll_cons_mk (Below.trod laidOut (by kernel_rfl) (of_decide_eq_true (by kernel_rfl)) h0 bel lt0) (trodAll_cons_mk (Below.trod laidOut (by kernel_rfl) (of_decide_eq_true (by kernel_rfl)) h1 bel lt1) trodAll_mk0)), rfl, Below.frame bel _, fun h => by cases h⟩
noncomputable def laidWorld (os : Os) : World :=
 { World.holding Tryz.prog os ⟨#[], #[], []⟩ with heap := (((World.holding Tryz.prog os ⟨#[], #[], []⟩).heap.modify 4 fun
     | .cells _ t frozen => .cells #[.int .u8 128, .int .u8 191, .int .u8 160, .int .u8 191, .int .u8 128, .int .u8 159, .int .u8 144, .int .u8 191, .int .u8 128, .int .u8 143, .int .u8 0, .int .u8 0, .int .u8 0, .int .u8 0, .int .u8 0, .int .u8 0, .int .u8 0, .int .u8 0, .int .u8 0, .int .u8 0, .int .u8 0, .int .u8 0, .int .u8 0, .int .u8 0, .int .u8 0, .int .u8 0, .int .u8 0, .int .u8 0, .int .u8 0, .int .u8 0, .int .u8 0, .int .u8 0] t frozen
     | o => o).modify 3 fun
     | .cells _ t frozen => .cells (Go.Pinned.utf8FirstZ.map fun (n : Nat) => Value.int .u8 n).toArray t frozen
     | o => o) }
set_option maxRecDepth 100000 in
theorem laid_met (os : Os) : laidMet Tryz.prog Rows.scriptDiffersMatchSpecUptoRow.laid ((laidWorld os).forCall (fun _ _ => 0) ⟨#[], #[.agg #[.string ⟨#[]⟩, .slice none 0 0], .agg #[.string ⟨#[]⟩, .slice none 0 0]], []⟩).memory :=
 laidMet_of_run' 8 (by kernel_rfl) (by kernel_rfl)
set_option maxRecDepth 100000 in
theorem reads (os : Os) {H : Type} (enc : TypeId × Value → H) : ∃ places, DataW.whole enc Tryz.prog ((laidWorld os).forCall (fun _ _ => 0) ⟨#[], #[.agg #[.string ⟨#[]⟩, .slice none 0 0], .agg #[.string ⟨#[]⟩, .slice none 0 0]], []⟩).memory Tryz.f8.params.toList Rows.scriptDiffersMatchSpecSpec.vars false (#[.agg #[.string ⟨#[]⟩, .slice none 0 0], .agg #[.string ⟨#[]⟩, .slice none 0 0]] : Array Value).toList 8 = some ([.agg [.lit (.string []), .nil], .agg [.lit (.string []), .nil]], [], places) :=
 ⟨[], by kernel_rfl⟩
set_option maxRecDepth 100000 in
theorem lifted (os : Os) (started : os.Started) (H : Type) (enc : TypeId × Value → H) (F : Stop.Interp) :
   ReturnsInHanded {} Tryz.checked os 8 .any ((Rows.OpenSpec.upto Rows.scriptDiffersMatchSpecSpec).preRow enc Tryz.prog Tryz.f8 Rows.scriptDiffersMatchSpecUptoRow.domain false Rows.scriptDiffersMatchSpecUptoRow.laid) (((Rows.OpenSpec.upto Rows.scriptDiffersMatchSpecSpec).at F).post enc Tryz.prog Tryz.f8 false true false false) := by
 obtain ⟨places, hx⟩ := reads os enc
 refine returnsInHanded_of_row (C := Tryz.checked) (s := Rows.OpenSpec.upto Rows.scriptDiffersMatchSpecSpec) own started (by kernel_rfl) Tryz.func8
   (witness_row_at (enc := enc) (C := Tryz.checked) false (laidWorld os) #[.agg #[.string ⟨#[]⟩, .slice none 0 0], .agg #[.string ⟨#[]⟩, .slice none 0 0]] rfl (by kernel_rfl) (by kernel_rfl) (by kernel_rfl)
     (OpenSpec.preRow_of_cond 8 hx (by kernel_rfl) (fun k hk => by cases hk; kernel_rfl) (by kernel_rfl) (laid_met os))) ?_
 intro W base args ds gs before hval hW _ hcond _ _ hsh _
 exact contract H enc W base args ds gs before hval hW (hcond _ rfl) hsh
theorem andT {a b : Bool} (h : a = true) (h2 : b = true) : (a && b) = true := by rw [h, h2]; rfl
theorem jf0 : (Rows.scriptDiffersMatchSpecUptoRow.wf (OpenSpec.ofChange (Rows.OpenSpec.upto Rows.scriptDiffersMatchSpecSpec).bare)) = true := by kernel_rfl
theorem jf1 : (laidOutB Tryz.pinned.checked.prog) = true := by kernel_rfl
theorem jf2 : (mapsRowed Tryz.pinned.checked.prog) = true := by kernel_rfl
theorem jf3 : (Tryz.f8.params.all (Tryz.pinned.checked.prog.readableRec ·)) = true := by kernel_rfl
theorem jf4 : (namedTie Tryz.pinned.checked.prog Rows.scriptDiffersMatchSpecUptoRow.named (Rows.OpenSpec.upto Rows.scriptDiffersMatchSpecSpec).bare.vars) = true := by kernel_rfl
theorem jf5 : ((Rows.scriptDiffersMatchSpecUptoRow.stops == [])) = true := by kernel_rfl
theorem jf6 : ((Tryz.pinned.checked.prog.stops == [])) = true := by kernel_rfl
theorem jf7 : ((Rows.scriptDiffersMatchSpecUptoRow.knobs == [])) = true := by kernel_rfl
theorem jf8 : ((Tryz.pinned.checked.prog.stopKnobs == [])) = true := by kernel_rfl
theorem jf9 : ((Rows.scriptDiffersMatchSpecUptoRow.inPlace == Tryz.pinned.checked.prog.inPlace 8)) = true := by kernel_rfl
theorem jf10 : ((Rows.scriptDiffersMatchSpecUptoRow.unfollowed == Tryz.pinned.checked.prog.unfollowed 8)) = true := by kernel_rfl
theorem jf11 : ((Rows.scriptDiffersMatchSpecUptoRow.recurses == Tryz.pinned.checked.prog.recurses 8)) = true := by kernel_rfl
theorem jf12 : ((Rows.scriptDiffersMatchSpecUptoRow.named == Tryz.pinned.checked.prog.varsNamed 8)) = true := by kernel_rfl
theorem jf13 : ((Rows.scriptDiffersMatchSpecUptoRow.maps == (Tryz.f8.params.toList ++ (Rows.OpenSpec.upto Rows.scriptDiffersMatchSpecSpec).bare.plain.varTypes Tryz.pinned.checked.prog).any (Tryz.pinned.checked.prog.mapsRec ·))) = true := by kernel_rfl
theorem jf14 : ((Rows.scriptDiffersMatchSpecUptoRow.ifaces == (Tryz.f8.params.toList ++ (Rows.OpenSpec.upto Rows.scriptDiffersMatchSpecSpec).bare.plain.varTypes Tryz.pinned.checked.prog).any (Tryz.pinned.checked.prog.ifacesRec ·))) = true := by kernel_rfl
theorem jf15 : ((Rows.scriptDiffersMatchSpecUptoRow.mapsOut == Tryz.pinned.checked.prog.mapsAmong Tryz.f8.resultTypes.toList)) = true := by kernel_rfl
theorem jf16 : ((Rows.scriptDiffersMatchSpecUptoRow.loops == (Tryz.f8.params.toList ++ (Rows.OpenSpec.upto Rows.scriptDiffersMatchSpecSpec).bare.plain.varTypes Tryz.pinned.checked.prog).any (Tryz.pinned.checked.prog.loopsFrom ·))) = true := by kernel_rfl
theorem jf17 : ((Rows.scriptDiffersMatchSpecUptoRow.wideKeys == (Tryz.f8.params.toList ++ (Rows.OpenSpec.upto Rows.scriptDiffersMatchSpecSpec).bare.plain.varTypes Tryz.pinned.checked.prog ++ Tryz.f8.resultTypes.toList).any (Tryz.pinned.checked.prog.wideKeysFrom ·))) = true := by kernel_rfl
theorem jf18 : ((Rows.OpenSpec.upto Rows.scriptDiffersMatchSpecSpec).bare.vars.all (Tryz.pinned.checked.prog.varReadable ·)) = true := by kernel_rfl
theorem jf19 : (Tryz.f8.resultTypes.all (fun t => Tryz.pinned.checked.prog.readableRec t && decide (t < Tryz.pinned.checked.prog.types.size))) = true := by kernel_rfl
theorem jf20 : ((Rows.scriptDiffersMatchSpecUptoRow.ifacesOut == Tryz.f8.resultTypes.toList.any (Tryz.pinned.checked.prog.ifacesRec ·))) = true := by kernel_rfl
theorem jf21 : ((Rows.scriptDiffersMatchSpecUptoRow.loopsOut == Tryz.f8.resultTypes.toList.any (Tryz.pinned.checked.prog.loopsFrom ·))) = true := by kernel_rfl
theorem jf22 : ((Rows.scriptDiffersMatchSpecUptoRow.plainKeys == Tryz.pinned.checked.prog.plainKeys)) = true := by kernel_rfl
theorem jf23 : (Rows.scriptDiffersMatchSpecUptoRow.shortTexts.isNone) = true := by kernel_rfl
theorem jf24 : (Tryz.pinned.checked.prog.stopsHeard) = true := by kernel_rfl
theorem jf25 : (Tryz.pinned.checked.prog.mayEnter) = true := by kernel_rfl
theorem jf26 : ((Rows.scriptDiffersMatchSpecUptoRow.lifted == Tryz.pinned.checked.prog.liftsFinal)) = true := by kernel_rfl
theorem jf27 : ((Tryz.pinned.checked.prog.make == some Rows.scriptDiffersMatchSpecUptoRow.make)) = true := by kernel_rfl
theorem jf28 : ((Rows.scriptDiffersMatchSpecUptoRow.kinds == (if Rows.scriptDiffersMatchSpecUptoRow.domain.isEmpty then [] else Tryz.f8.params.toList.map fun t => match Tryz.pinned.checked.prog.underlying t with | some (.int k) => some k | _ => none))) = true := by kernel_rfl
theorem jf29 : ((Rows.scriptDiffersMatchSpecUptoRow.pinned == Rows.scriptDiffersMatchSpecUptoRow.pinnedBy)) = true := by kernel_rfl
theorem jf30 : ((Rows.scriptDiffersMatchSpecUptoRow.veiled == (Tryz.f8.params.toList ++ (Rows.OpenSpec.upto Rows.scriptDiffersMatchSpecSpec).bare.plain.varTypes Tryz.pinned.checked.prog ++ Tryz.f8.resultTypes.toList).any (Tryz.pinned.checked.prog.veiledRec ·))) = true := by kernel_rfl
theorem jf31 : (Rows.scriptDiffersMatchSpecUptoRow.veiledFits Tryz.pinned.checked.prog Tryz.f8.params.toList (Tryz.f8.params.toList ++ (Rows.OpenSpec.upto Rows.scriptDiffersMatchSpecSpec).bare.plain.varTypes Tryz.pinned.checked.prog ++ Tryz.f8.resultTypes.toList)) = true := by kernel_rfl
set_option maxRecDepth 100000 in
theorem closed : joinedFacts Tryz.pinned.checked.prog 8 Tryz.f8 (Rows.OpenSpec.upto Rows.scriptDiffersMatchSpecSpec).bare Rows.scriptDiffersMatchSpecUptoRow = true := (andT (andT (andT (andT (andT (andT (andT (andT (andT (andT (andT (andT (andT (andT (andT (andT (andT (andT (andT (andT (andT (andT (andT (andT (andT (andT (andT (andT (andT (andT (andT jf0 jf1) jf2) jf3) jf4) jf5) jf6) jf7) jf8) jf9) jf10) jf11) jf12) jf13) jf14) jf15) jf16) jf17) jf18) jf19) jf20) jf21) jf22) jf23) jf24) jf25) jf26) jf27) jf28) jf29) jf30) jf31)
theorem said : Rows.ScriptDiffersMatchSpecUptoSaid :=
 OpenClaim.holds_of_cond 8 Tryz.f8 rfl rfl rfl rfl rfl rfl rfl ⟨rfl, rfl, rfl, rfl, rfl⟩ rfl rfl rfl rfl rfl (by kernel_rfl) Tryz.func8 closed
   (of_decide_eq_true (by kernel_rfl)) (by unfold Func.isWrapper; first | (rw [if_pos (by decide +kernel)]; kernel_rfl) | (rw [if_neg (by decide +kernel)]; exact ⟨rfl, rfl⟩))
   (fun os started H enc _ F => by rw [OpenClaim.pre_eq_preRow]; exact lifted os started H enc F)
theorem plain (f : FuncId) (fn : Func) (hf : Tryz.pinned.checked.prog.funcNamed Rows.scriptDiffersMatchSpecUptoRow.func = some f) (hfn : Tryz.pinned.checked.prog.funcs[f]? = some fn) :
   true = Tryz.pinned.checked.prog.looks [] ∧ ∀ (j : Nat) t, fn.params[j]? = some t → Tryz.pinned.checked.prog.wantsStandIn t = false := by
 obtain rfl : f = 8 := Option.some.inj ((show Tryz.prog.funcNamed Rows.scriptDiffersMatchSpecUptoRow.func = some 8 by kernel_rfl).symm.trans hf) |>.symm
 obtain rfl : fn = Tryz.f8 := (Option.some.inj (Tryz.func8.symm.trans hfn)).symm
 refine ⟨by kernel_rfl, fun j t ht => ?_⟩
 rw [Tryz.params8] at ht
 have hm : t = 37 := by
   have := Array.mem_of_getElem? ht
   simp at this
   first | exact this | (rcases this with h | h <;> simp [h]; done) | (rcases this with h | h | h <;> simp [h]; done) | (rcases this with h | h | h | h <;> simp [h]; done) | (simp_all; done)
 rcases hm with rfl
 · exact (show Tryz.prog.wantsStandIn 37 = false by kernel_rfl)
end Go.Proofs.YtahjncefiegflaaGreatDoor.ScriptDiffersMatchSpec
namespace Go.Proofs.YtahjncefiegflaaGreatDoor
open Go
theorem scriptDiffersMatchSpec_card : Rows.ScriptDiffersMatchSpecUptoCardSaid :=
 Claim7.holds_tied_plain_at .later [] _ _ _ _ ScriptDiffersMatchSpec.said (fun _ h => by cases h) (by kernel_rfl) (fun _ h => by cases h) scriptDiffersMatchSpecUpto_row_tie rfl ⟨rfl, rfl⟩ (by kernel_rfl) rfl ScriptDiffersMatchSpec.plain (by kernel_rfl)
#print axioms scriptDiffersMatchSpec_card
end Go.Proofs.YtahjncefiegflaaGreatDoor

