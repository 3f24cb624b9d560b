/- The statement ScriptParsesMatchSpec (its card): for every input the law returns true, and what was handed in reads as it did. No condition beyond those of the card. -/
import Derived.Test.YtolpmfhiegpohaaGreatDoorCards
import Derived.Test.YtolpmfhiegpohaaGreatDoorTie
import Derived.Test.YtolpmfhiegpohaaGreatDoorQLPar
import Derived.Test.YtolpmfhiegpohaaGreatDoorQEndU
import Derived.ProofKit
import Derived.Deep.DeepHandedRow
import Derived.Lib.LaidTab
namespace Go.Proofs.YtolpmfhiegpohaaGreatDoor.ScriptParsesMatchSpec
set_option linter.unusedVariables false
set_option linter.unusedSimpArgs false
open Go Go.RowKit Go.ChangeShapes Go.WideShapes Go.ChangeAt
theorem own:ownKnob Tryz.prog.godebug=none:=by kernel_rfl
theorem d53:laidOutB Tryz.prog=true:=by kernel_rfl
theorem gw{W:World}(h:W.ShapedOpen Tryz.prog):GW W:=Tryz.laysM143.s1_3 W h
def rcT:RC->Option TypeId:=fun i=>match i with|_=>none
theorem b9D:Deep Tryz.prog rcT .str 9:= .str Tryz.underlying9
theorem e4N:d8Z Tryz.prog rcT:=fun i T h=>by
 cases i with
 |value=>cases h
 |expr=>cases h
 |stmt=>cases h
 |part=>cases h
set_option maxRecDepth 100000 in
theorem c9e(H:Type)(enc:TypeId×Value->H)(W:World)(base:Nat)(args:Array Value)(ds gs:List (DataW H))(before:List MemPlace)
  (hval0:∀(j:Nat) t v,Tryz.f4.params[j]? = some t->args[j]? = some v->Value.okWide Tryz.prog W .any base t v)
  (hW:DataW.Whole enc Tryz.prog Tryz.f4.params.toList Rows.scriptParsesMatchSpecSpec.vars false W args.toList ds gs before) (hsh:W.ShapedOpen Tryz.prog):
  Calls Tryz.prog 4 args W fun e W'=>∃v,e = .returned v/\Rows.scriptParsesMatchSpecSpec.post enc Tryz.prog Tryz.f4 false true false false W args v W':=by
 have hval:=hval0
 have hW':=hW
 obtain⟨p,q,hA0,hV,rfl,hfz,hnd⟩:=hW
 have hA:DataW.TrodAll enc Tryz.prog W 0 (fun _=>true) true Tryz.f4.params.toList args.toList ds p:=hA0
 rw[Tryz.params4]at hA hval
 obtain⟨v0,vs0,d0,ds0,p0,q0,hargs,rfl,rfl,h0,r0⟩:=trodAll_cons hA
 obtain⟨rfl,rfl,rfl⟩:=trodAll_nil r0
 obtain rfl:args = #[v0]:=by have:=congrArg List.toArray hargs;simpa using this
 obtain⟨rfl,rfl⟩:=trodVars_none hV
 have lt0:∀x∈p0,x.block<W.heap.size:=by obtain⟨m,hm⟩:=h0;exact DataW.trod_lt m _ _ _ hm
 obtain⟨x0,a0,f0⟩:=c80 e4N b9D (hval 0 9 v0 rfl rfl) h0
 clear hA0 hval0
 obtain⟨N,hN⟩:=a1q x0 f0
 refine(d54 (fun _=>rfl) (d7S N) (W:=W) (vs:=[v0]) (x:=(x0,())) (gw hsh) ⟨a0,trivial⟩ hN).mono fun e W' ⟨he,bel⟩=>?_
 subst he
 exact⟨_,rfl,_,_,_,[],_,[],hW',trodAll_mk1 (shut_bool Tryz.underlying4 _),(trodAll_cons_mk (Below.trod d53 (by kernel_rfl) (of_decide_eq_true (by kernel_rfl)) h0 bel lt0) trodAll_mk0),rfl,Below.frame bel _,fun h=>by cases h⟩
noncomputable def b0T(os:Os):World:={World.holding Tryz.prog os ⟨#[],#[],[]⟩with heap:=((((((((World.holding Tryz.prog os ⟨#[.cells #[.string ⟨#[118,97,108,117,101,32,111,117,116,32,111,102,32,114,97,110,103,101]⟩] 338 (0,0),.cells #[.string ⟨#[105,110,118,97,108,105,100,32,115,121,110,116,97,120]⟩] 338 (0,0)],#[],[]⟩).heap.modify 6 fun | .cells _ t frozen=> .cells #[.int .u8 0,.int .u8 1,.int .u8 28,.int .u8 2,.int .u8 29,.int .u8 14,.int .u8 24,.int .u8 3,.int .u8 30,.int .u8 22,.int .u8 20,.int .u8 15,.int .u8 25,.int .u8 17,.int .u8 4,.int .u8 8,.int .u8 31,.int .u8 27,.int .u8 13,.int .u8 23,.int .u8 21,.int .u8 19,.int .u8 16,.int .u8 7,.int .u8 26,.int .u8 12,.int .u8 18,.int .u8 6,.int .u8 11,.int .u8 5,.int .u8 10,.int .u8 9] t frozen|o=>o).modify 7 fun | .cells _ t frozen=> .cells #[.int .u8 0,.int .u8 1,.int .u8 56,.int .u8 2,.int .u8 57,.int .u8 49,.int .u8 28,.int .u8 3,.int .u8 61,.int .u8 58,.int .u8 42,.int .u8 50,.int .u8 38,.int .u8 29,.int .u8 17,.int .u8 4,.int .u8 62,.int .u8 47,.int .u8 59,.int .u8 36,.int .u8 45,.int .u8 43,.int .u8 51,.int .u8 22,.int .u8 53,.int .u8 39,.int .u8 33,.int .u8 30,.int .u8 24,.int .u8 18,.int .u8 12,.int .u8 5,.int .u8 63,.int .u8 55,.int .u8 48,.int .u8 27,.int .u8 60,.int .u8 41,.int .u8 37,.int .u8 16,.int .u8 46,.int .u8 35,.int .u8 44,.int .u8 21,.int .u8 52,.int .u8 32,.int .u8 23,.int .u8 11,.int .u8 54,.int .u8 26,.int .u8 40,.int .u8 15,.int .u8 34,.int .u8 20,.int .u8 31,.int .u8 10,.int .u8 25,.int .u8 14,.int .u8 19,.int .u8 9,.int .u8 13,.int .u8 8,.int .u8 7,.int .u8 6] t frozen|o=>o).modify 3 fun | .cells _ t frozen=> .cells #[.int .u64 1,.int .u64 10,.int .u64 100,.int .u64 1000,.int .u64 10000,.int .u64 100000,.int .u64 1000000,.int .u64 10000000,.int .u64 100000000,.int .u64 1000000000,.int .u64 10000000000,.int .u64 100000000000,.int .u64 1000000000000,.int .u64 10000000000000,.int .u64 100000000000000,.int .u64 1000000000000000,.int .u64 10000000000000000,.int .u64 100000000000000000,.int .u64 1000000000000000000,.int .u64 10000000000000000000] t frozen|o=>o).modify 5 fun | .cells _ t frozen=> .cells #[.int .u8 128,.int .u8 191,.int .u8 160,.int .u8 191,.int .u8 128,.int .u8 159,.int .u8 144,.int .u8 191,.int .u8 128,.int .u8 143,.int .u8 0,.int .u8 0,.int .u8 0,.int .u8 0,.int .u8 0,.int .u8 0,.int .u8 0,.int .u8 0,.int .u8 0,.int .u8 0,.int .u8 0,.int .u8 0,.int .u8 0,.int .u8 0,.int .u8 0,.int .u8 0,.int .u8 0,.int .u8 0,.int .u8 0,.int .u8 0,.int .u8 0,.int .u8 0] t frozen|o=>o).modify 2 fun | .cells _ t frozen=> .cells #[.iface 336 (.pointer (some ⟨(World.settled Tryz.prog os).heap.size+0,0,none⟩))] t frozen|o=>o).modify 1 fun | .cells _ t frozen=> .cells #[.iface 336 (.pointer (some ⟨(World.settled Tryz.prog os).heap.size+1,0,none⟩))] t frozen|o=>o).modify 4 fun | .cells _ t frozen=> .cells (Go.Pinned.utf8FirstZ.map fun(n:Nat)=>Value.int .u8 n).toArray t frozen|o=>o)}
set_option maxRecDepth 100000 in
theorem c9C(os:Os):laidMet Tryz.prog Rows.scriptParsesMatchSpecRow.laid ((b0T os).forCall (fun _ _=>0) ⟨#[],#[.string ⟨#[]⟩],[]⟩).memory:=
 laidMet_of_run' 8 (by kernel_rfl) (by kernel_rfl)
set_option maxRecDepth 100000 in
theorem e1N(os:Os){H:Type}(enc:TypeId×Value->H):∃places,DataW.whole enc Tryz.prog ((b0T os).forCall (fun _ _=>0) ⟨#[],#[.string ⟨#[]⟩],[]⟩).memory Tryz.f4.params.toList Rows.scriptParsesMatchSpecSpec.vars false (#[.string ⟨#[]⟩]:Array Value).toList 8=some ([.lit (.string [])],[],places):=
 ⟨[],by kernel_rfl⟩
set_option maxRecDepth 100000 in
theorem lifted(os:Os)(started:os.Started)(H:Type)(enc:TypeId×Value->H)(F:Stop.Interp):
  ReturnsInHanded {} Tryz.checked os 4 .any ((OpenSpec.ofChange Rows.scriptParsesMatchSpecSpec).preRow enc Tryz.prog Tryz.f4 Rows.scriptParsesMatchSpecRow.domain false Rows.scriptParsesMatchSpecRow.laid) (((OpenSpec.ofChange Rows.scriptParsesMatchSpecSpec).at F).post enc Tryz.prog Tryz.f4 false true false false):=by
 obtain⟨places,hx⟩:=e1N os enc
 refine returnsInHanded_of_row (C:=Tryz.checked) (s:=OpenSpec.ofChange Rows.scriptParsesMatchSpecSpec) own started (by kernel_rfl) Tryz.func4
  (witness_row_at (enc:=enc) (C:=Tryz.checked) false (b0T os) #[.string ⟨#[]⟩] rfl (by kernel_rfl) (by kernel_rfl) (by kernel_rfl)
   (OpenSpec.preRow_of_cond 8 hx (by kernel_rfl) (fun k hk=>by cases hk) (by kernel_rfl) (c9C os))) ?_
 intro W base args ds gs before hval hW _ _ _ _ hsh _
 exact c9e H enc W base args ds gs before hval hW hsh
theorem X7{a b:Bool}(h:a=true)(h2:b=true):(a&&b)=true:=by rw[h,h2];rfl
theorem jf0:(Rows.scriptParsesMatchSpecRow.wf (OpenSpec.ofChange (OpenSpec.ofChange Rows.scriptParsesMatchSpecSpec).bare))=true:=by kernel_rfl
theorem jf1:(laidOutB Tryz.pinned.checked.prog)=true:=by kernel_rfl
theorem jf2:(mapsRowed Tryz.pinned.checked.prog)=true:=by kernel_rfl
theorem jf3:(Tryz.f4.params.all (Tryz.pinned.checked.prog.readableRec ·))=true:=by kernel_rfl
theorem jf4:(namedTie Tryz.pinned.checked.prog Rows.scriptParsesMatchSpecRow.named (OpenSpec.ofChange Rows.scriptParsesMatchSpecSpec).bare.vars)=true:=by kernel_rfl
theorem jf5:((Rows.scriptParsesMatchSpecRow.stops==[]))=true:=by kernel_rfl
theorem jf6:((Tryz.pinned.checked.prog.stops==[]))=true:=by kernel_rfl
theorem jf7:((Rows.scriptParsesMatchSpecRow.knobs==[]))=true:=by kernel_rfl
theorem jf8:((Tryz.pinned.checked.prog.stopKnobs==[]))=true:=by kernel_rfl
theorem jf9:((Rows.scriptParsesMatchSpecRow.inPlace==Tryz.pinned.checked.prog.inPlace 4))=true:=by kernel_rfl
theorem e4k:((Rows.scriptParsesMatchSpecRow.unfollowed==Tryz.pinned.checked.prog.unfollowed 4))=true:=by kernel_rfl
theorem e4l:((Rows.scriptParsesMatchSpecRow.recurses==Tryz.pinned.checked.prog.recurses 4))=true:=by kernel_rfl
theorem e4m:((Rows.scriptParsesMatchSpecRow.named==Tryz.pinned.checked.prog.varsNamed 4))=true:=by kernel_rfl
theorem e4n:((Rows.scriptParsesMatchSpecRow.maps==(Tryz.f4.params.toList++(OpenSpec.ofChange Rows.scriptParsesMatchSpecSpec).bare.plain.varTypes Tryz.pinned.checked.prog).any (Tryz.pinned.checked.prog.mapsRec ·)))=true:=by kernel_rfl
theorem e4o:((Rows.scriptParsesMatchSpecRow.ifaces==(Tryz.f4.params.toList++(OpenSpec.ofChange Rows.scriptParsesMatchSpecSpec).bare.plain.varTypes Tryz.pinned.checked.prog).any (Tryz.pinned.checked.prog.ifacesRec ·)))=true:=by kernel_rfl
theorem e4p:((Rows.scriptParsesMatchSpecRow.mapsOut==Tryz.pinned.checked.prog.mapsAmong Tryz.f4.resultTypes.toList))=true:=by kernel_rfl
theorem e4q:((Rows.scriptParsesMatchSpecRow.loops==(Tryz.f4.params.toList++(OpenSpec.ofChange Rows.scriptParsesMatchSpecSpec).bare.plain.varTypes Tryz.pinned.checked.prog).any (Tryz.pinned.checked.prog.loopsFrom ·)))=true:=by kernel_rfl
theorem e4r:((Rows.scriptParsesMatchSpecRow.wideKeys==(Tryz.f4.params.toList++(OpenSpec.ofChange Rows.scriptParsesMatchSpecSpec).bare.plain.varTypes Tryz.pinned.checked.prog++Tryz.f4.resultTypes.toList).any (Tryz.pinned.checked.prog.wideKeysFrom ·)))=true:=by kernel_rfl
theorem e4s:((OpenSpec.ofChange Rows.scriptParsesMatchSpecSpec).bare.vars.all (Tryz.pinned.checked.prog.varReadable ·))=true:=by kernel_rfl
theorem e4t:(Tryz.f4.resultTypes.all (fun t=>Tryz.pinned.checked.prog.readableRec t&&decide (t<Tryz.pinned.checked.prog.types.size)))=true:=by kernel_rfl
theorem e4u:((Rows.scriptParsesMatchSpecRow.ifacesOut==Tryz.f4.resultTypes.toList.any (Tryz.pinned.checked.prog.ifacesRec ·)))=true:=by kernel_rfl
theorem e4v:((Rows.scriptParsesMatchSpecRow.loopsOut==Tryz.f4.resultTypes.toList.any (Tryz.pinned.checked.prog.loopsFrom ·)))=true:=by kernel_rfl
theorem e4w:((Rows.scriptParsesMatchSpecRow.plainKeys==Tryz.pinned.checked.prog.plainKeys))=true:=by kernel_rfl
theorem e4x:(Rows.scriptParsesMatchSpecRow.shortTexts.isNone)=true:=by kernel_rfl
theorem e4y:(Tryz.pinned.checked.prog.stopsHeard)=true:=by kernel_rfl
theorem e4z:(Tryz.pinned.checked.prog.mayEnter)=true:=by kernel_rfl
theorem e4A:((Rows.scriptParsesMatchSpecRow.lifted==Tryz.pinned.checked.prog.liftsFinal))=true:=by kernel_rfl
theorem e4B:((Tryz.pinned.checked.prog.make==some Rows.scriptParsesMatchSpecRow.make))=true:=by kernel_rfl
theorem e4C:((Rows.scriptParsesMatchSpecRow.kinds==(if Rows.scriptParsesMatchSpecRow.domain.isEmpty then []else Tryz.f4.params.toList.map fun t=>match Tryz.pinned.checked.prog.underlying t with|some (.int k)=>some k|_=>none)))=true:=by kernel_rfl
theorem e4D:((Rows.scriptParsesMatchSpecRow.pinned==Rows.scriptParsesMatchSpecRow.pinnedBy))=true:=by kernel_rfl
theorem e4E:((Rows.scriptParsesMatchSpecRow.veiled==(Tryz.f4.params.toList++(OpenSpec.ofChange Rows.scriptParsesMatchSpecSpec).bare.plain.varTypes Tryz.pinned.checked.prog++Tryz.f4.resultTypes.toList).any (Tryz.pinned.checked.prog.veiledRec ·)))=true:=by kernel_rfl
theorem e4F:(Rows.scriptParsesMatchSpecRow.veiledFits Tryz.pinned.checked.prog Tryz.f4.params.toList (Tryz.f4.params.toList++(OpenSpec.ofChange Rows.scriptParsesMatchSpecSpec).bare.plain.varTypes Tryz.pinned.checked.prog++Tryz.f4.resultTypes.toList))=true:=by kernel_rfl
set_option maxRecDepth 100000 in
theorem d9a:joinedFacts Tryz.pinned.checked.prog 4 Tryz.f4 (OpenSpec.ofChange Rows.scriptParsesMatchSpecSpec).bare Rows.scriptParsesMatchSpecRow=true:=(X7 (X7 (X7 (X7 (X7 (X7 (X7 (X7 (X7 (X7 (X7 (X7 (X7 (X7 (X7 (X7 (X7 (X7 (X7 (X7 (X7 (X7 (X7 (X7 (X7 (X7 (X7 (X7 (X7 (X7 (X7 jf0 jf1) jf2) jf3) jf4) jf5) jf6) jf7) jf8) jf9) e4k) e4l) e4m) e4n) e4o) e4p) e4q) e4r) e4s) e4t) e4u) e4v) e4w) e4x) e4y) e4z) e4A) e4B) e4C) e4D) e4E) e4F)
theorem said:Rows.ScriptParsesMatchSpecSaid:=
 OpenClaim.holds_of_cond 4 Tryz.f4 rfl rfl rfl rfl rfl rfl rfl ⟨rfl,rfl,rfl,rfl,rfl⟩ rfl rfl rfl rfl rfl (by kernel_rfl) Tryz.func4 d9a
  (of_decide_eq_true (by kernel_rfl)) (by unfold Func.isWrapper;first|(rw[if_pos (by decide +kernel)];kernel_rfl)|(rw[if_neg (by decide +kernel)];exact⟨rfl,rfl⟩))
  (fun os started H enc _ F=>by rw[OpenClaim.pre_eq_preRow];exact lifted os started H enc F)
theorem plain(f:FuncId)(fn:Func)(hf:Tryz.pinned.checked.prog.funcNamed Rows.scriptParsesMatchSpecRow.func=some f)(hfn:Tryz.pinned.checked.prog.funcs[f]? = some fn):
  true=Tryz.pinned.checked.prog.looks []/\∀(j:Nat) t,fn.params[j]? = some t->Tryz.pinned.checked.prog.wantsStandIn t=false:=by
 obtain rfl:f=4:=Option.some.inj ((show Tryz.prog.funcNamed Rows.scriptParsesMatchSpecRow.func=some 4 by kernel_rfl).symm.trans hf) |>.symm
 obtain rfl:fn=Tryz.f4:=(Option.some.inj (Tryz.func4.symm.trans hfn)).symm
 refine⟨by kernel_rfl,fun j t ht=>?_⟩
 rw[Tryz.params4]at ht
 have hm:t=9:=by
  have:=Array.mem_of_getElem? ht
  simp at this
  first|exact this|(rcases this with h|h<;>simp[h];done)|(rcases this with h|h|h<;>simp[h];done)|(rcases this with h|h|h|h<;>simp[h];done)|(simp_all;done)
 rcases hm with rfl
 ·exact(show Tryz.prog.wantsStandIn 9=false by kernel_rfl)
end Go.Proofs.YtolpmfhiegpohaaGreatDoor.ScriptParsesMatchSpec
namespace Go.Proofs.YtolpmfhiegpohaaGreatDoor
open Go
theorem scriptParsesMatchSpec_card:Rows.ScriptParsesMatchSpecCardSaid:=
 Claim7.holds_tied_plain_at .later [] _ _ _ _ ScriptParsesMatchSpec.said (fun _ h=>by cases h) (by kernel_rfl) (fun _ h=>by cases h) scriptParsesMatchSpec_row_tie rfl ⟨rfl,rfl⟩ (by kernel_rfl) rfl ScriptParsesMatchSpec.plain (by kernel_rfl)
#print axioms scriptParsesMatchSpec_card
end Go.Proofs.YtolpmfhiegpohaaGreatDoor
