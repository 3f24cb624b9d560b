/- % -/
import Derived.Test.YtolpmfhiegpohaaGreatDoorCards
import Derived.Test.YtolpmfhiegpohaaGreatDoorTie
import Derived.Test.YtolpmfhiegpohaaGreatDoorQLPrN
import Derived.Test.YtolpmfhiegpohaaGreatDoorQLPrA
import Derived.ProofKit
import Derived.Deep.DeepHandedRow
import Derived.Lib.LaidTab
namespace Go.Proofs.YtolpmfhiegpohaaGreatDoor.ScriptParsesComeBack
set_option linter.unusedVariables false
set_option linter.unusedSimpArgs false
open Go Go.RowKit Go.ChangeShapes Go.WideShapes Go.ChangeAt
theorem own:ownKnob Tryz.prog.godebug=none:=by kernel_rfl
theorem d1U:laidOutB Tryz.prog=true:=by kernel_rfl
theorem c4v:(Rows.laid_internal_strconv_uint64pow10:DataW Unit)=Lib.tabData .u64 Lib.pow10Tab:=by kernel_rfl
theorem b4V{P:Program}{x:String×DataW Unit}{r:List (String×DataW Unit)}{w:World}(h:laidMet P (x :: r) w):laidMet P r w:=by
 obtain⟨ps,hv,hnd,hrows⟩:=h;obtain⟨n,d⟩:=x;obtain⟨g,t,cs,fuel,p,q,_,_,_,_,hq,rfl⟩:=hv;exact⟨q,hq,List.Nodup.sublist (List.sublist_append_right _ _) hnd,fun b off hm=>hrows b off (List.mem_append_right _ hm)⟩
theorem gw{W:World}(hl:laidMetH Tryz.prog Rows.scriptParsesComeBackRow.laid W)(h:W.ShapedOpen Tryz.prog):GW W:=by
 have e:(Rows.scriptParsesComeBackRow.laid.filter fun x=>x.2.handleName?.isSome)=[]:=by kernel_rfl
 unfold laidMetH at hl;rw[e]at hl;have h1:laidMet Tryz.prog (("internal/strconv.uint64pow10",Rows.laid_internal_strconv_uint64pow10) :: (Rows.scriptParsesComeBackRow.laid.drop 3)) W:=(b4V (b4V hl));rw[c4v]at h1;exact⟨Tryz.laysM143.s1_3 W h,Lib.tabIs_of_head a4X (by kernel_rfl:_=some 341) Tryz.underlying341 Tryz.underlying197 (by kernel_rfl) (by kernel_rfl) h1⟩
def rcT:RC->Option TypeId:=fun i=>match i with|_=>none
theorem b7k:Deep Tryz.prog rcT .str 9:= .str Tryz.underlying9
theorem e0c:d4N Tryz.prog rcT:=fun i T h=>by
 cases i with
 |value=>cases h
 |expr=>cases h
 |stmt=>cases h
 |part=>cases h
set_option maxRecDepth 100000 in
theorem c5U(H:Type)(enc:TypeId×Value->H)(W:World)(base:Nat)(args:Array Value)(ds gs:List (DataW H))(before:List MemPlace)
  (hval0:∀(j:Nat) t v,Tryz.f6.params[j]? = some t->args[j]? = some v->Value.okWide Tryz.prog W .any base t v)
  (hW:DataW.Whole enc Tryz.prog Tryz.f6.params.toList Rows.scriptParsesComeBackSpec.vars false W args.toList ds gs before) (hlaid:laidMetH Tryz.prog Rows.scriptParsesComeBackRow.laid W) (hsh:W.ShapedOpen Tryz.prog):
  Calls Tryz.prog 6 args W fun e W'=>∃v,e = .returned v/\Rows.scriptParsesComeBackSpec.post enc Tryz.prog Tryz.f6 false true false false W args v W':=by
 have hval:=hval0;have hW':=hW;obtain⟨p,q,hA0,hV,rfl,hfz,hnd⟩:=hW;have hA:DataW.TrodAll enc Tryz.prog W 0 (fun _=>true) true Tryz.f6.params.toList args.toList ds p:=hA0;rw[Tryz.params6]at hA hval;obtain⟨v0,vs0,d0,ds0,p0,q0,hargs,rfl,rfl,h0,r0⟩:=trodAll_cons hA;obtain⟨rfl,rfl,rfl⟩:=trodAll_nil r0;obtain rfl:args = #[v0]:=by have:=congrArg List.toArray hargs;simpa using this
 obtain⟨rfl,rfl⟩:=trodVars_none hV;have lt0:∀x∈p0,x.block<W.heap.size:=by obtain⟨m,hm⟩:=h0;exact DataW.trod_lt m _ _ _ hm
 obtain⟨x0,a0,f0⟩:=c5A e0c b7k (hval 0 9 v0 rfl rfl) h0;clear hA0 hval0;obtain⟨N,hN⟩:=a2h x0 f0;refine(d1V (fun _=>rfl) (c7w N) (W:=W) (vs:=[v0]) (x:=(x0,())) (gw hlaid hsh) ⟨a0,trivial⟩ hN).mono fun e W' ⟨he,bel⟩=>?_
 subst he;exact⟨_,rfl,_,_,_,[],_,[],hW',trodAll_mk1 (shut_bool Tryz.underlying4 _),(trodAll_cons_mk (Below.trod d1U (by kernel_rfl) (of_decide_eq_true (by kernel_rfl)) h0 bel lt0) trodAll_mk0),rfl,Below.frame bel _,fun h=>by cases h⟩
noncomputable def a9p(os:Os):World:={World.holding Tryz.prog os ⟨#[],#[],[]⟩with heap:=((((((World.holding Tryz.prog os ⟨#[],#[],[]⟩).heap.modify 6 fun | .cells _ t frozen=> .cells #[.int .u8 0,.int .u8 1,.int .u8 28,.int .u8 2,.int .u8 29,.int .u8 14,.int .u8 24,.int .u8 3,.int .u8 30,.int .u8 22,.int .u8 20,.int .u8 15,.int .u8 25,.int .u8 17,.int .u8 4,.int .u8 8,.int .u8 31,.int .u8 27,.int .u8 13,.int .u8 23,.int .u8 21,.int .u8 19,.int .u8 16,.int .u8 7,.int .u8 26,.int .u8 12,.int .u8 18,.int .u8 6,.int .u8 11,.int .u8 5,.int .u8 10,.int .u8 9] t frozen|o=>o).modify 7 fun | .cells _ t frozen=> .cells #[.int .u8 0,.int .u8 1,.int .u8 56,.int .u8 2,.int .u8 57,.int .u8 49,.int .u8 28,.int .u8 3,.int .u8 61,.int .u8 58,.int .u8 42,.int .u8 50,.int .u8 38,.int .u8 29,.int .u8 17,.int .u8 4,.int .u8 62,.int .u8 47,.int .u8 59,.int .u8 36,.int .u8 45,.int .u8 43,.int .u8 51,.int .u8 22,.int .u8 53,.int .u8 39,.int .u8 33,.int .u8 30,.int .u8 24,.int .u8 18,.int .u8 12,.int .u8 5,.int .u8 63,.int .u8 55,.int .u8 48,.int .u8 27,.int .u8 60,.int .u8 41,.int .u8 37,.int .u8 16,.int .u8 46,.int .u8 35,.int .u8 44,.int .u8 21,.int .u8 52,.int .u8 32,.int .u8 23,.int .u8 11,.int .u8 54,.int .u8 26,.int .u8 40,.int .u8 15,.int .u8 34,.int .u8 20,.int .u8 31,.int .u8 10,.int .u8 25,.int .u8 14,.int .u8 19,.int .u8 9,.int .u8 13,.int .u8 8,.int .u8 7,.int .u8 6] t frozen|o=>o).modify 3 fun | .cells _ t frozen=> .cells #[.int .u64 1,.int .u64 10,.int .u64 100,.int .u64 1000,.int .u64 10000,.int .u64 100000,.int .u64 1000000,.int .u64 10000000,.int .u64 100000000,.int .u64 1000000000,.int .u64 10000000000,.int .u64 100000000000,.int .u64 1000000000000,.int .u64 10000000000000,.int .u64 100000000000000,.int .u64 1000000000000000,.int .u64 10000000000000000,.int .u64 100000000000000000,.int .u64 1000000000000000000,.int .u64 10000000000000000000] t frozen|o=>o).modify 5 fun | .cells _ t frozen=> .cells #[.int .u8 128,.int .u8 191,.int .u8 160,.int .u8 191,.int .u8 128,.int .u8 159,.int .u8 144,.int .u8 191,.int .u8 128,.int .u8 143,.int .u8 0,.int .u8 0,.int .u8 0,.int .u8 0,.int .u8 0,.int .u8 0,.int .u8 0,.int .u8 0,.int .u8 0,.int .u8 0,.int .u8 0,.int .u8 0,.int .u8 0,.int .u8 0,.int .u8 0,.int .u8 0,.int .u8 0,.int .u8 0,.int .u8 0,.int .u8 0,.int .u8 0,.int .u8 0] t frozen|o=>o).modify 4 fun | .cells _ t frozen=> .cells (Go.Pinned.utf8FirstZ.map fun(n:Nat)=>Value.int .u8 n).toArray t frozen|o=>o)}
set_option maxRecDepth 100000 in
theorem c6g(os:Os):laidMet Tryz.prog Rows.scriptParsesComeBackRow.laid ((a9p os).forCall (fun _ _=>0) ⟨#[],#[.string ⟨#[]⟩],[]⟩).memory:=
 laidMet_of_run' 8 (by kernel_rfl) (by kernel_rfl)
set_option maxRecDepth 100000 in
theorem d7j(os:Os){H:Type}(enc:TypeId×Value->H):∃places,DataW.whole enc Tryz.prog ((a9p os).forCall (fun _ _=>0) ⟨#[],#[.string ⟨#[]⟩],[]⟩).memory Tryz.f6.params.toList Rows.scriptParsesComeBackSpec.vars false (#[.string ⟨#[]⟩]:Array Value).toList 8=some ([.lit (.string [])],[],places):=
 ⟨[],by kernel_rfl⟩
set_option maxRecDepth 100000 in
theorem lifted(os:Os)(started:os.Started)(H:Type)(enc:TypeId×Value->H)(F:Stop.Interp):
  ReturnsInHanded {} Tryz.checked os 6 .any ((OpenSpec.ofChange Rows.scriptParsesComeBackSpec).preRow enc Tryz.prog Tryz.f6 Rows.scriptParsesComeBackRow.domain false Rows.scriptParsesComeBackRow.laid) (((OpenSpec.ofChange Rows.scriptParsesComeBackSpec).at F).post enc Tryz.prog Tryz.f6 false true false false):=by
 obtain⟨places,hx⟩:=d7j os enc;refine returnsInHanded_of_row (C:=Tryz.checked) (s:=OpenSpec.ofChange Rows.scriptParsesComeBackSpec) own started (by kernel_rfl) Tryz.func6
  (witness_row_at (enc:=enc) (C:=Tryz.checked) false (a9p os) #[.string ⟨#[]⟩] rfl (by kernel_rfl) (by kernel_rfl) (by kernel_rfl)
   (OpenSpec.preRow_of_cond 8 hx (by kernel_rfl) (fun k hk=>by cases hk) (by kernel_rfl) (c6g os))) ?_
 intro W base args ds gs before hval hW _ _ _ hlaid hsh _;exact c5U H enc W base args ds gs before hval hW hlaid hsh
theorem a0r{a b:Bool}(h:a=true)(h2:b=true):(a&&b)=true:=by rw[h,h2];rfl
theorem jf0:(Rows.scriptParsesComeBackRow.wf (OpenSpec.ofChange (OpenSpec.ofChange Rows.scriptParsesComeBackSpec).bare))=true:=by kernel_rfl
theorem jf1:(laidOutB Tryz.pinned.checked.prog)=true:=by kernel_rfl
theorem jf2:(mapsRowed Tryz.pinned.checked.prog)=true:=by kernel_rfl
theorem jf3:(Tryz.f6.params.all (Tryz.pinned.checked.prog.readableRec ·))=true:=by kernel_rfl
theorem jf4:(namedTie Tryz.pinned.checked.prog Rows.scriptParsesComeBackRow.named (OpenSpec.ofChange Rows.scriptParsesComeBackSpec).bare.vars)=true:=by kernel_rfl
theorem jf5:((Rows.scriptParsesComeBackRow.stops==[]))=true:=by kernel_rfl
theorem jf6:((Tryz.pinned.checked.prog.stops==[]))=true:=by kernel_rfl
theorem jf7:((Rows.scriptParsesComeBackRow.knobs==[]))=true:=by kernel_rfl
theorem jf8:((Tryz.pinned.checked.prog.stopKnobs==[]))=true:=by kernel_rfl
theorem jf9:((Rows.scriptParsesComeBackRow.inPlace==Tryz.pinned.checked.prog.inPlace 6))=true:=by kernel_rfl
theorem d9K:((Rows.scriptParsesComeBackRow.unfollowed==Tryz.pinned.checked.prog.unfollowed 6))=true:=by kernel_rfl
theorem d9L:((Rows.scriptParsesComeBackRow.recurses==Tryz.pinned.checked.prog.recurses 6))=true:=by kernel_rfl
theorem d9M:((Rows.scriptParsesComeBackRow.named==Tryz.pinned.checked.prog.varsNamed 6))=true:=by kernel_rfl
theorem d9N:((Rows.scriptParsesComeBackRow.maps==(Tryz.f6.params.toList++(OpenSpec.ofChange Rows.scriptParsesComeBackSpec).bare.plain.varTypes Tryz.pinned.checked.prog).any (Tryz.pinned.checked.prog.mapsRec ·)))=true:=by kernel_rfl
theorem d9O:((Rows.scriptParsesComeBackRow.ifaces==(Tryz.f6.params.toList++(OpenSpec.ofChange Rows.scriptParsesComeBackSpec).bare.plain.varTypes Tryz.pinned.checked.prog).any (Tryz.pinned.checked.prog.ifacesRec ·)))=true:=by kernel_rfl
theorem d9P:((Rows.scriptParsesComeBackRow.mapsOut==Tryz.pinned.checked.prog.mapsAmong Tryz.f6.resultTypes.toList))=true:=by kernel_rfl
theorem d9Q:((Rows.scriptParsesComeBackRow.loops==(Tryz.f6.params.toList++(OpenSpec.ofChange Rows.scriptParsesComeBackSpec).bare.plain.varTypes Tryz.pinned.checked.prog).any (Tryz.pinned.checked.prog.loopsFrom ·)))=true:=by kernel_rfl
theorem d9R:((Rows.scriptParsesComeBackRow.wideKeys==(Tryz.f6.params.toList++(OpenSpec.ofChange Rows.scriptParsesComeBackSpec).bare.plain.varTypes Tryz.pinned.checked.prog++Tryz.f6.resultTypes.toList).any (Tryz.pinned.checked.prog.wideKeysFrom ·)))=true:=by kernel_rfl
theorem d9S:((OpenSpec.ofChange Rows.scriptParsesComeBackSpec).bare.vars.all (Tryz.pinned.checked.prog.varReadable ·))=true:=by kernel_rfl
theorem d9T:(Tryz.f6.resultTypes.all (fun t=>Tryz.pinned.checked.prog.readableRec t&&decide (t<Tryz.pinned.checked.prog.types.size)))=true:=by kernel_rfl
theorem d9U:((Rows.scriptParsesComeBackRow.ifacesOut==Tryz.f6.resultTypes.toList.any (Tryz.pinned.checked.prog.ifacesRec ·)))=true:=by kernel_rfl
theorem d9V:((Rows.scriptParsesComeBackRow.loopsOut==Tryz.f6.resultTypes.toList.any (Tryz.pinned.checked.prog.loopsFrom ·)))=true:=by kernel_rfl
theorem d9W:((Rows.scriptParsesComeBackRow.plainKeys==Tryz.pinned.checked.prog.plainKeys))=true:=by kernel_rfl
theorem d9X:(Rows.scriptParsesComeBackRow.shortTexts.isNone)=true:=by kernel_rfl
theorem d9Y:(Tryz.pinned.checked.prog.stopsHeard)=true:=by kernel_rfl
theorem d9Z:(Tryz.pinned.checked.prog.mayEnter)=true:=by kernel_rfl
theorem d90:((Rows.scriptParsesComeBackRow.lifted==Tryz.pinned.checked.prog.liftsFinal))=true:=by kernel_rfl
theorem d91:((Tryz.pinned.checked.prog.make==some Rows.scriptParsesComeBackRow.make))=true:=by kernel_rfl
theorem d92:((Rows.scriptParsesComeBackRow.kinds==(if Rows.scriptParsesComeBackRow.domain.isEmpty then []else Tryz.f6.params.toList.map fun t=>match Tryz.pinned.checked.prog.underlying t with|some (.int k)=>some k|_=>none)))=true:=by kernel_rfl
theorem d93:((Rows.scriptParsesComeBackRow.pinned==Rows.scriptParsesComeBackRow.pinnedBy))=true:=by kernel_rfl
theorem d94:((Rows.scriptParsesComeBackRow.veiled==(Tryz.f6.params.toList++(OpenSpec.ofChange Rows.scriptParsesComeBackSpec).bare.plain.varTypes Tryz.pinned.checked.prog++Tryz.f6.resultTypes.toList).any (Tryz.pinned.checked.prog.veiledRec ·)))=true:=by kernel_rfl
theorem d95:(Rows.scriptParsesComeBackRow.veiledFits Tryz.pinned.checked.prog Tryz.f6.params.toList (Tryz.f6.params.toList++(OpenSpec.ofChange Rows.scriptParsesComeBackSpec).bare.plain.varTypes Tryz.pinned.checked.prog++Tryz.f6.resultTypes.toList))=true:=by kernel_rfl
set_option maxRecDepth 100000 in
theorem d41:joinedFacts Tryz.pinned.checked.prog 6 Tryz.f6 (OpenSpec.ofChange Rows.scriptParsesComeBackSpec).bare Rows.scriptParsesComeBackRow=true:=(a0r (a0r (a0r (a0r (a0r (a0r (a0r (a0r (a0r (a0r (a0r (a0r (a0r (a0r (a0r (a0r (a0r (a0r (a0r (a0r (a0r (a0r (a0r (a0r (a0r (a0r (a0r (a0r (a0r (a0r (a0r jf0 jf1) jf2) jf3) jf4) jf5) jf6) jf7) jf8) jf9) d9K) d9L) d9M) d9N) d9O) d9P) d9Q) d9R) d9S) d9T) d9U) d9V) d9W) d9X) d9Y) d9Z) d90) d91) d92) d93) d94) d95)
theorem said:Rows.ScriptParsesComeBackSaid:=
 OpenClaim.holds_of_cond 6 Tryz.f6 rfl rfl rfl rfl rfl rfl rfl ⟨rfl,rfl,rfl,rfl,rfl⟩ rfl rfl rfl rfl rfl (by kernel_rfl) Tryz.func6 d41
  (of_decide_eq_true (by kernel_rfl)) (by unfold Func.isWrapper;first|(rw[if_pos (by decide +kernel)];kernel_rfl)|(rw[if_neg (by decide +kernel)];exact⟨rfl,rfl⟩))
  (fun os started H enc _ F=>by rw[OpenClaim.pre_eq_preRow];exact lifted os started H enc F)
theorem plain(f:FuncId)(fn:Func)(hf:Tryz.pinned.checked.prog.funcNamed Rows.scriptParsesComeBackRow.func=some f)(hfn:Tryz.pinned.checked.prog.funcs[f]? = some fn):
  true=Tryz.pinned.checked.prog.looks []/\∀(j:Nat) t,fn.params[j]? = some t->Tryz.pinned.checked.prog.wantsStandIn t=false:=by
 obtain rfl:f=6:=Option.some.inj ((show Tryz.prog.funcNamed Rows.scriptParsesComeBackRow.func=some 6 by kernel_rfl).symm.trans hf) |>.symm
 obtain rfl:fn=Tryz.f6:=(Option.some.inj (Tryz.func6.symm.trans hfn)).symm;refine⟨by kernel_rfl,fun j t ht=>?_⟩;rw[Tryz.params6]at ht;have hm:t=9:=by
  have:=Array.mem_of_getElem? ht;simp at this
  first|exact this|(rcases this with h|h<;>simp[h];done)|(rcases this with h|h|h<;>simp[h];done)|(rcases this with h|h|h|h<;>simp[h];done)|(simp_all;done)
 rcases hm with rfl
 ·exact(show Tryz.prog.wantsStandIn 9=false by kernel_rfl)
end Go.Proofs.YtolpmfhiegpohaaGreatDoor.ScriptParsesComeBack
namespace Go.Proofs.YtolpmfhiegpohaaGreatDoor
open Go
theorem scriptParsesComeBack_card:Rows.ScriptParsesComeBackCardSaid:=
 Claim7.holds_tied_plain_at .later [] _ _ _ _ ScriptParsesComeBack.said (fun _ h=>by cases h) (by kernel_rfl) (fun _ h=>by cases h) scriptParsesComeBack_row_tie rfl ⟨rfl,rfl⟩ (by kernel_rfl) rfl ScriptParsesComeBack.plain (by kernel_rfl)
#print axioms scriptParsesComeBack_card
end Go.Proofs.YtolpmfhiegpohaaGreatDoor
