/- % -/
import Derived.Test.YtckdohagilcloaaGreatDoorCards
import Derived.Test.YtckdohagilcloaaGreatDoorTie
import Derived.Test.YtckdohagilcloaaGreatDoorQLWh
import Derived.Test.YtckdohagilcloaaGreatDoorQLBl1
import Derived.ProofKit
import Derived.Deep.DeepHandedRow
import Derived.Lib.LaidTab
namespace Go.Proofs.YtckdohagilcloaaGreatDoor.ScriptWrittenMatchesSpec
set_option linter.unusedVariables false
set_option linter.unusedSimpArgs false
open Go Go.RowKit Go.ChangeShapes Go.WideShapes Go.ChangeAt
theorem own:ownKnob Tryz.prog.godebug=none:=by kernel_rfl
theorem e0O:laidOutB Tryz.prog=true:=by kernel_rfl
theorem c9v:(Rows.laid_internal_strconv_uint64pow10:DataW Unit)=Lib.tabData .u64 Lib.pow10Tab:=by kernel_rfl
theorem b6t{P:Program}{x:String×DataW Unit}{r:List (String×DataW Unit)}{w:World}(h:laidMet P (x :: r) w):laidMet P r w:=by
 obtain⟨ps,hv,hnd,hrows⟩:=h;obtain⟨n,d⟩:=x;obtain⟨g,t,cs,fuel,p,q,_,_,_,_,hq,rfl⟩:=hv;exact⟨q,hq,List.Nodup.sublist (List.sublist_append_right _ _) hnd,fun b off hm=>hrows b off (List.mem_append_right _ hm)⟩
theorem gw{W:World}(hl:laidMetH Tryz.prog Rows.scriptWrittenMatchesSpecUptoRow.laid W)(h:W.ShapedOpen Tryz.prog):GW W:=by
 have e:(Rows.scriptWrittenMatchesSpecUptoRow.laid.filter fun x=>x.2.handleName?.isSome)=[]:=by kernel_rfl
 unfold laidMetH at hl;rw[e]at hl;have h1:laidMet Tryz.prog (("internal/strconv.uint64pow10",Rows.laid_internal_strconv_uint64pow10) :: (Rows.scriptWrittenMatchesSpecUptoRow.laid.drop 3)) W:=(b6t (b6t hl));rw[c9v]at h1;exact⟨Tryz.laysM143.s1_3 W h,Lib.tabIs_of_head a6M (by kernel_rfl:_=some 348) Tryz.underlying348 Tryz.underlying171 (by kernel_rfl) (by kernel_rfl) h1⟩
def rcT:RC->Option TypeId:=fun i=>match i with | .value=>some 54|_=>none
theorem a0n:Deep Tryz.prog rcT .str 9:= .str Tryz.underlying9
theorem a0U:Deep Tryz.prog rcT (.rc .value) 54:= .rc rfl
theorem a4x:Deep Tryz.prog rcT (.pr .str (.rc .value)) 56:= .st Tryz.underlying56 (by kernel_rfl) rfl (.cons rfl (by kernel_rfl) a0n (.one rfl (by kernel_rfl) a0U))
theorem b1Z:Deep Tryz.prog rcT (.sl (.pr .str (.rc .value))) 39:= .sl Tryz.underlying39 (by kernel_rfl) a4x
theorem a3Q:Deep Tryz.prog rcT (.pr .str (.pr .str (.sl (.pr .str (.rc .value))))) 41:= .st Tryz.underlying41 (by kernel_rfl) rfl (.cons rfl (by kernel_rfl) a0n (.cons rfl (by kernel_rfl) a0n (.one rfl (by kernel_rfl) b1Z)))
theorem a9i:Deep Tryz.prog rcT (.sl (.pr .str (.pr .str (.sl (.pr .str (.rc .value)))))) 22:= .sl Tryz.underlying22 (by kernel_rfl) a3Q
theorem a3t:Deep Tryz.prog rcT (.pr .str (.sl (.pr .str (.pr .str (.sl (.pr .str (.rc .value))))))) 24:= .st Tryz.underlying24 (by kernel_rfl) rfl (.cons rfl (by kernel_rfl) a0n (.one rfl (by kernel_rfl) a9i))
theorem c0M:Deep Tryz.prog rcT (.int .i64) 3:= .int Tryz.underlying3
theorem b5S:Deep Tryz.prog rcT (.sl .str) 42:= .sl Tryz.underlying42 (by kernel_rfl) a0n
theorem a4y:Deep Tryz.prog rcT (.pr .str (.rc .value)) 82:= .st Tryz.underlying82 (by kernel_rfl) rfl (.cons rfl (by kernel_rfl) a0n (.one rfl (by kernel_rfl) a0U))
theorem b11:Deep Tryz.prog rcT (.sl (.pr .str (.rc .value))) 52:= .sl Tryz.underlying52 (by kernel_rfl) a4y
theorem f6m:e5A Tryz.prog rcT:=fun i T h=>by
 cases i with
 |value=>cases h;exact⟨_,Tryz.underlying54,by kernel_rfl,(.cons rfl (by kernel_rfl) c0M (.cons rfl (by kernel_rfl) a0n (.cons rfl (by kernel_rfl) c0M (.cons rfl (by kernel_rfl) b5S (.one rfl (by kernel_rfl) b11)))))⟩
 |expr=>cases h
 |stmt=>cases h
 |part=>cases h
set_option maxRecDepth 100000 in
theorem d3o(H:Type)(enc:TypeId×Value->H)(W:World)(base:Nat)(args:Array Value)(ds gs:List (DataW H))(before:List MemPlace)
  (hval0:∀(j:Nat) t v,Tryz.f3.params[j]? = some t->args[j]? = some v->Value.okWide Tryz.prog W .any base t v)
  (hW:DataW.Whole enc Tryz.prog Tryz.f3.params.toList Rows.scriptWrittenMatchesSpecSpec.vars false W args.toList ds gs before) (hcond:Rows.uptoSmall H (ds++gs)=true) (hlaid:laidMetH Tryz.prog Rows.scriptWrittenMatchesSpecUptoRow.laid W) (hsh:W.ShapedOpen Tryz.prog):
  Calls Tryz.prog 3 args W fun e W'=>∃v,e = .returned v/\Rows.scriptWrittenMatchesSpecSpec.post enc Tryz.prog Tryz.f3 false true false false W args v W':=by
 have hval:=hval0;have hW':=hW;obtain⟨p,q,hA0,hV,rfl,hfz,hnd⟩:=hW;have hA:DataW.TrodAll enc Tryz.prog W 0 (fun _=>true) true Tryz.f3.params.toList args.toList ds p:=hA0;rw[Tryz.params3]at hA hval;obtain⟨v0,vs0,d0,ds0,p0,q0,hargs,rfl,rfl,h0,r0⟩:=trodAll_cons hA;obtain⟨rfl,rfl,rfl⟩:=trodAll_nil r0;obtain rfl:args = #[v0]:=by have:=congrArg List.toArray hargs;simpa using this
 obtain⟨rfl,rfl⟩:=trodVars_none hV;have lt0:∀x∈p0,x.block<W.heap.size:=by obtain⟨m,hm⟩:=h0;exact DataW.trod_lt m _ _ _ hm
 obtain⟨x0,a0,f0,b0⟩:=c8V f6m e58 a3t (hval 0 24 v0 rfl rfl) h0;clear hA0 hval0;have hb:M4 rbC (.pr .str (.sl (.pr .str (.pr .str (.sl (.pr .str (.rc .value))))))) x0<=1048576:=by
  have h:=of_decide_eq_true hcond;simp only[List.append_nil,List.cons_append,List.nil_append,a5y,c1Z]at h;omega
 obtain⟨N,hN⟩:=a16 x0 f0 hb;refine(e0P (fun _=>rfl) (e3i N) (W:=W) (vs:=[v0]) (x:=(x0,())) (gw hlaid hsh) ⟨a0,trivial⟩ hN).mono fun e W' ⟨he,bel⟩=>?_
 subst he;exact⟨_,rfl,_,_,_,[],_,[],hW',trodAll_mk1 (shut_bool Tryz.underlying4 _),(trodAll_cons_mk (Below.trod e0O (by kernel_rfl) (of_decide_eq_true (by kernel_rfl)) h0 bel lt0) trodAll_mk0),rfl,Below.frame bel _,fun h=>by cases h⟩
noncomputable def b0l(os:Os):World:={World.holding Tryz.prog os ⟨#[],#[],[]⟩with heap:=((((((World.holding Tryz.prog os ⟨#[],#[],[]⟩).heap.modify 4 fun | .cells _ t frozen=> .cells #[.int .u8 0,.int .u8 1,.int .u8 28,.int .u8 2,.int .u8 29,.int .u8 14,.int .u8 24,.int .u8 3,.int .u8 30,.int .u8 22,.int .u8 20,.int .u8 15,.int .u8 25,.int .u8 17,.int .u8 4,.int .u8 8,.int .u8 31,.int .u8 27,.int .u8 13,.int .u8 23,.int .u8 21,.int .u8 19,.int .u8 16,.int .u8 7,.int .u8 26,.int .u8 12,.int .u8 18,.int .u8 6,.int .u8 11,.int .u8 5,.int .u8 10,.int .u8 9] t frozen|o=>o).modify 5 fun | .cells _ t frozen=> .cells #[.int .u8 0,.int .u8 1,.int .u8 56,.int .u8 2,.int .u8 57,.int .u8 49,.int .u8 28,.int .u8 3,.int .u8 61,.int .u8 58,.int .u8 42,.int .u8 50,.int .u8 38,.int .u8 29,.int .u8 17,.int .u8 4,.int .u8 62,.int .u8 47,.int .u8 59,.int .u8 36,.int .u8 45,.int .u8 43,.int .u8 51,.int .u8 22,.int .u8 53,.int .u8 39,.int .u8 33,.int .u8 30,.int .u8 24,.int .u8 18,.int .u8 12,.int .u8 5,.int .u8 63,.int .u8 55,.int .u8 48,.int .u8 27,.int .u8 60,.int .u8 41,.int .u8 37,.int .u8 16,.int .u8 46,.int .u8 35,.int .u8 44,.int .u8 21,.int .u8 52,.int .u8 32,.int .u8 23,.int .u8 11,.int .u8 54,.int .u8 26,.int .u8 40,.int .u8 15,.int .u8 34,.int .u8 20,.int .u8 31,.int .u8 10,.int .u8 25,.int .u8 14,.int .u8 19,.int .u8 9,.int .u8 13,.int .u8 8,.int .u8 7,.int .u8 6] t frozen|o=>o).modify 3 fun | .cells _ t frozen=> .cells #[.int .u64 1,.int .u64 10,.int .u64 100,.int .u64 1000,.int .u64 10000,.int .u64 100000,.int .u64 1000000,.int .u64 10000000,.int .u64 100000000,.int .u64 1000000000,.int .u64 10000000000,.int .u64 100000000000,.int .u64 1000000000000,.int .u64 10000000000000,.int .u64 100000000000000,.int .u64 1000000000000000,.int .u64 10000000000000000,.int .u64 100000000000000000,.int .u64 1000000000000000000,.int .u64 10000000000000000000] t frozen|o=>o).modify 2 fun | .cells _ t frozen=> .cells #[.int .u8 128,.int .u8 191,.int .u8 160,.int .u8 191,.int .u8 128,.int .u8 159,.int .u8 144,.int .u8 191,.int .u8 128,.int .u8 143,.int .u8 0,.int .u8 0,.int .u8 0,.int .u8 0,.int .u8 0,.int .u8 0,.int .u8 0,.int .u8 0,.int .u8 0,.int .u8 0,.int .u8 0,.int .u8 0,.int .u8 0,.int .u8 0,.int .u8 0,.int .u8 0,.int .u8 0,.int .u8 0,.int .u8 0,.int .u8 0,.int .u8 0,.int .u8 0] t frozen|o=>o).modify 1 fun | .cells _ t frozen=> .cells (Go.Pinned.utf8FirstZ.map fun(n:Nat)=>Value.int .u8 n).toArray t frozen|o=>o)}
set_option maxRecDepth 100000 in
theorem d3P(os:Os):laidMet Tryz.prog Rows.scriptWrittenMatchesSpecUptoRow.laid ((b0l os).forCall (fun _ _=>0) ⟨#[],#[.agg #[.string ⟨#[]⟩,.slice none 0 0]],[]⟩).memory:=
 laidMet_of_run' 8 (by kernel_rfl) (by kernel_rfl)
set_option maxRecDepth 100000 in
theorem f0D(os:Os){H:Type}(enc:TypeId×Value->H):∃places,DataW.whole enc Tryz.prog ((b0l os).forCall (fun _ _=>0) ⟨#[],#[.agg #[.string ⟨#[]⟩,.slice none 0 0]],[]⟩).memory Tryz.f3.params.toList Rows.scriptWrittenMatchesSpecSpec.vars false (#[.agg #[.string ⟨#[]⟩,.slice none 0 0]]:Array Value).toList 8=some ([.agg [.lit (.string []),.nil]],[],places):=
 ⟨[],by kernel_rfl⟩
set_option maxRecDepth 100000 in
theorem lifted(os:Os)(started:os.Started)(H:Type)(enc:TypeId×Value->H)(F:Stop.Interp):
  ReturnsInHanded {} Tryz.checked os 3 .any ((Rows.OpenSpec.upto Rows.scriptWrittenMatchesSpecSpec).preRow enc Tryz.prog Tryz.f3 Rows.scriptWrittenMatchesSpecUptoRow.domain false Rows.scriptWrittenMatchesSpecUptoRow.laid) (((Rows.OpenSpec.upto Rows.scriptWrittenMatchesSpecSpec).at F).post enc Tryz.prog Tryz.f3 false true false false):=by
 obtain⟨places,hx⟩:=f0D os enc;refine returnsInHanded_of_row (C:=Tryz.checked) (s:=Rows.OpenSpec.upto Rows.scriptWrittenMatchesSpecSpec) own started (by kernel_rfl) Tryz.func3
  (witness_row_at (enc:=enc) (C:=Tryz.checked) false (b0l os) #[.agg #[.string ⟨#[]⟩,.slice none 0 0]] rfl (by kernel_rfl) (by kernel_rfl) (by kernel_rfl)
   (OpenSpec.preRow_of_cond 8 hx (by kernel_rfl) (fun k hk=>by cases hk;kernel_rfl) (by kernel_rfl) (d3P os))) ?_
 intro W base args ds gs before hval hW _ hcond _ hlaid hsh _;exact d3o H enc W base args ds gs before hval hW (hcond _ rfl) hlaid hsh
noncomputable abbrev jP:=Tryz.pinned.checked.prog
noncomputable abbrev jS:=(Rows.OpenSpec.upto Rows.scriptWrittenMatchesSpecSpec).bare
noncomputable abbrev jC:=Rows.scriptWrittenMatchesSpecUptoRow
noncomputable abbrev jF:=Tryz.f3
theorem a1c{a b:Bool}(h:a=true)(h2:b=true):(a&&b)=true:=by rw[h,h2];rfl
theorem jf0:(jC.wf (OpenSpec.ofChange jS))=true:=by kernel_rfl
theorem jf1:(laidOutB jP)=true:=by kernel_rfl
theorem jf2:(mapsRowed jP)=true:=by kernel_rfl
theorem jf3:(jF.params.all (jP.readableRec ·))=true:=by kernel_rfl
theorem jf4:(namedTie jP jC.named jS.vars)=true:=by kernel_rfl
theorem jf5:((jC.stops==[]))=true:=by kernel_rfl
theorem jf6:((jP.stops==[]))=true:=by kernel_rfl
theorem jf7:((jC.knobs==[]))=true:=by kernel_rfl
theorem jf8:((jP.stopKnobs==[]))=true:=by kernel_rfl
theorem jf9:((jC.inPlace==jP.inPlace 3))=true:=by kernel_rfl
theorem f5N:((jC.unfollowed==jP.unfollowed 3))=true:=by kernel_rfl
theorem f5O:((jC.recurses==jP.recurses 3))=true:=by kernel_rfl
theorem f5P:((jC.named==jP.varsNamed 3))=true:=by kernel_rfl
theorem f5Q:((jC.maps==(jF.params.toList++jS.plain.varTypes jP).any (jP.mapsRec ·)))=true:=by kernel_rfl
theorem f5R:((jC.ifaces==(jF.params.toList++jS.plain.varTypes jP).any (jP.ifacesRec ·)))=true:=by kernel_rfl
theorem f5S:((jC.mapsOut==jP.mapsAmong jF.resultTypes.toList))=true:=by kernel_rfl
theorem f5T:((jC.loops==(jF.params.toList++jS.plain.varTypes jP).any (jP.loopsFrom ·)))=true:=by kernel_rfl
theorem f5U:((jC.wideKeys==(jF.params.toList++jS.plain.varTypes jP++jF.resultTypes.toList).any (jP.wideKeysFrom ·)))=true:=by kernel_rfl
theorem f5V:(jS.vars.all (jP.varReadable ·))=true:=by kernel_rfl
theorem f5W:(jF.resultTypes.all (fun t=>jP.readableRec t&&decide (t<jP.types.size)))=true:=by kernel_rfl
theorem f5X:((jC.ifacesOut==jF.resultTypes.toList.any (jP.ifacesRec ·)))=true:=by kernel_rfl
theorem f5Y:((jC.loopsOut==jF.resultTypes.toList.any (jP.loopsFrom ·)))=true:=by kernel_rfl
theorem f5Z:((jC.plainKeys==jP.plainKeys))=true:=by kernel_rfl
theorem f52:(jC.shortTexts.isNone)=true:=by kernel_rfl
theorem f53:(jP.stopsHeard)=true:=by kernel_rfl
theorem f54:(jP.mayEnter)=true:=by kernel_rfl
theorem f59:((jC.lifted==jP.liftsFinal))=true:=by kernel_rfl
theorem f6a:((jP.make==some jC.make))=true:=by kernel_rfl
theorem f6b:((jC.kinds==(if jC.domain.isEmpty then []else jF.params.toList.map fun t=>match jP.underlying t with|some (.int k)=>some k|_=>none)))=true:=by kernel_rfl
theorem f6c:((jC.pinned==jC.pinnedBy))=true:=by kernel_rfl
theorem f6d:((jC.veiled==(jF.params.toList++jS.plain.varTypes jP++jF.resultTypes.toList).any (jP.veiledRec ·)))=true:=by kernel_rfl
theorem f6e:(jC.veiledFits jP jF.params.toList (jF.params.toList++jS.plain.varTypes jP++jF.resultTypes.toList))=true:=by kernel_rfl
set_option maxRecDepth 100000 in
theorem e5L:joinedFacts jP 3 jF jS jC=true:=(a1c (a1c (a1c (a1c (a1c (a1c (a1c (a1c (a1c (a1c (a1c (a1c (a1c (a1c (a1c (a1c (a1c (a1c (a1c (a1c (a1c (a1c (a1c (a1c (a1c (a1c (a1c (a1c (a1c (a1c (a1c jf0 jf1) jf2) jf3) jf4) jf5) jf6) jf7) jf8) jf9) f5N) f5O) f5P) f5Q) f5R) f5S) f5T) f5U) f5V) f5W) f5X) f5Y) f5Z) f52) f53) f54) f59) f6a) f6b) f6c) f6d) f6e)
theorem said:Rows.ScriptWrittenMatchesSpecUptoSaid:=
 OpenClaim.holds_of_cond 3 Tryz.f3 rfl rfl rfl rfl rfl rfl rfl ⟨rfl,rfl,rfl,rfl,rfl⟩ rfl rfl rfl rfl rfl (by kernel_rfl) Tryz.func3 e5L
  (of_decide_eq_true (by kernel_rfl)) (by unfold Func.isWrapper;first|(rw[if_pos (by decide +kernel)];kernel_rfl)|(rw[if_neg (by decide +kernel)];exact⟨rfl,rfl⟩))
  (fun os started H enc _ F=>by rw[OpenClaim.pre_eq_preRow];exact lifted os started H enc F)
theorem plain(f:FuncId)(fn:Func)(hf:Tryz.pinned.checked.prog.funcNamed Rows.scriptWrittenMatchesSpecUptoRow.func=some f)(hfn:Tryz.pinned.checked.prog.funcs[f]? = some fn):
  true=Tryz.pinned.checked.prog.looks []/\∀(j:Nat) t,fn.params[j]? = some t->Tryz.pinned.checked.prog.wantsStandIn t=false:=by
 obtain rfl:f=3:=Option.some.inj ((show Tryz.prog.funcNamed Rows.scriptWrittenMatchesSpecUptoRow.func=some 3 by kernel_rfl).symm.trans hf) |>.symm
 obtain rfl:fn=Tryz.f3:=(Option.some.inj (Tryz.func3.symm.trans hfn)).symm;refine⟨by kernel_rfl,fun j t ht=>?_⟩;rw[Tryz.params3]at ht;have hm:t=24:=by
  have:=Array.mem_of_getElem? ht;simp at this
  first|exact this|(rcases this with h|h<;>simp[h];done)|(rcases this with h|h|h<;>simp[h];done)|(rcases this with h|h|h|h<;>simp[h];done)|(simp_all;done)
 rcases hm with rfl
 ·exact(show Tryz.prog.wantsStandIn 24=false by kernel_rfl)
end Go.Proofs.YtckdohagilcloaaGreatDoor.ScriptWrittenMatchesSpec
namespace Go.Proofs.YtckdohagilcloaaGreatDoor
open Go
theorem scriptWrittenMatchesSpec_card:Rows.ScriptWrittenMatchesSpecUptoCardSaid:=
 Claim7.holds_tied_plain_at .later [] _ _ _ _ ScriptWrittenMatchesSpec.said (fun _ h=>by cases h) (by kernel_rfl) (fun _ h=>by cases h) scriptWrittenMatchesSpecUpto_row_tie rfl ⟨rfl,rfl⟩ (by kernel_rfl) rfl ScriptWrittenMatchesSpec.plain (by kernel_rfl)
#print axioms scriptWrittenMatchesSpec_card
end Go.Proofs.YtckdohagilcloaaGreatDoor
