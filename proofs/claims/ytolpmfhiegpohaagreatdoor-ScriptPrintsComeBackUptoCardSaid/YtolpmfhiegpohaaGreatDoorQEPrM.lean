/- % -/
import Derived.Test.YtolpmfhiegpohaaGreatDoorCards
import Derived.Test.YtolpmfhiegpohaaGreatDoorTie
import Derived.Test.YtolpmfhiegpohaaGreatDoorQLPrM
import Derived.Test.YtolpmfhiegpohaaGreatDoorQLPrA
import Derived.ProofKit
import Derived.Deep.DeepHandedRow
import Derived.Lib.LaidTab
namespace Go.Proofs.YtolpmfhiegpohaaGreatDoor.ScriptPrintsComeBack
set_option linter.unusedVariables false
set_option linter.unusedSimpArgs false
open Go Go.RowKit Go.ChangeShapes Go.WideShapes Go.ChangeAt
theorem own:ownKnob Tryz.prog.godebug=none:=by kernel_rfl
theorem d4X:laidOutB Tryz.prog=true:=by kernel_rfl
theorem c7C:(Rows.laid_internal_strconv_uint64pow10:DataW Unit)=Lib.tabData .u64 Lib.pow10Tab:=by kernel_rfl
theorem b7Q{P:Program}{x:String×DataW Unit}{r:List (String×DataW Unit)}{w:World}(h:laidMet P (x :: r) w):laidMet P r w:=by
 obtain⟨ps,hv,hnd,hrows⟩:=h;obtain⟨n,d⟩:=x;obtain⟨g,t,cs,fuel,p,q,_,_,_,_,hq,rfl⟩:=hv;exact⟨q,hq,List.Nodup.sublist (List.sublist_append_right _ _) hnd,fun b off hm=>hrows b off (List.mem_append_right _ hm)⟩
theorem gw{W:World}(hl:laidMetH Tryz.prog Rows.scriptPrintsComeBackUptoRow.laid W)(h:W.ShapedOpen Tryz.prog):GW W:=by
 have e:(Rows.scriptPrintsComeBackUptoRow.laid.filter fun x=>x.2.handleName?.isSome)=[]:=by kernel_rfl
 unfold laidMetH at hl;rw[e]at hl;have h1:laidMet Tryz.prog (("internal/strconv.uint64pow10",Rows.laid_internal_strconv_uint64pow10) :: (Rows.scriptPrintsComeBackUptoRow.laid.drop 3)) W:=(b7Q (b7Q hl));rw[c7C]at h1;exact⟨Tryz.laysM143.s1_3 W h,Lib.tabIs_of_head a7v (by kernel_rfl:_=some 341) Tryz.underlying341 Tryz.underlying197 (by kernel_rfl) (by kernel_rfl) h1⟩
def rcT:RC->Option TypeId:=fun i=>match i with | .expr=>some 69 | .stmt=>some 71|_=>none
theorem a3y:Deep Tryz.prog rcT (.rc .stmt) 71:= .rc rfl
theorem a0V:Deep Tryz.prog rcT (.sl (.rc .stmt)) 30:= .sl Tryz.underlying30 (by kernel_rfl) a3y
theorem b0a:Deep Tryz.prog rcT (.int .i64) 3:= .int Tryz.underlying3
theorem a3i:Deep Tryz.prog rcT .str 9:= .str Tryz.underlying9
theorem a9g:Deep Tryz.prog rcT (.sl .str) 65:= .sl Tryz.underlying65 (by kernel_rfl) a3i
theorem Z8:Deep Tryz.prog rcT (.rc .expr) 69:= .rc rfl
theorem a52:Deep Tryz.prog rcT (.pr .str (.rc .expr)) 75:= .st Tryz.underlying75 (by kernel_rfl) rfl (.cons rfl (by kernel_rfl) a3i (.one rfl (by kernel_rfl) Z8))
theorem b4f:Deep Tryz.prog rcT (.sl (.pr .str (.rc .expr))) 66:= .sl Tryz.underlying66 (by kernel_rfl) a52
theorem b28:Deep Tryz.prog rcT (.sl (.rc .expr)) 67:= .sl Tryz.underlying67 (by kernel_rfl) Z8
theorem e3e:d7H Tryz.prog rcT:=fun i T h=>by
 cases i with
 |value=>cases h
 |expr=>cases h;exact⟨_,Tryz.underlying69,by kernel_rfl,(.cons rfl (by kernel_rfl) b0a (.cons rfl (by kernel_rfl) a3i (.cons rfl (by kernel_rfl) b0a (.cons rfl (by kernel_rfl) a9g (.one rfl (by kernel_rfl) b28)))))⟩
 |stmt=>cases h;exact⟨_,Tryz.underlying71,by kernel_rfl,(.cons rfl (by kernel_rfl) b0a (.cons rfl (by kernel_rfl) a3i (.cons rfl (by kernel_rfl) a3i (.cons rfl (by kernel_rfl) a9g (.cons rfl (by kernel_rfl) b4f (.cons rfl (by kernel_rfl) Z8 (.cons rfl (by kernel_rfl) a0V (.cons rfl (by kernel_rfl) a0V (.one rfl (by kernel_rfl) b0a)))))))))⟩
 |part=>cases h
set_option maxRecDepth 100000 in
theorem c8U(H:Type)(enc:TypeId×Value->H)(W:World)(base:Nat)(args:Array Value)(ds gs:List (DataW H))(before:List MemPlace)
  (hval0:∀(j:Nat) t v,Tryz.f5.params[j]? = some t->args[j]? = some v->Value.okWide Tryz.prog W .any base t v)
  (hW:DataW.Whole enc Tryz.prog Tryz.f5.params.toList Rows.scriptPrintsComeBackSpec.vars false W args.toList ds gs before) (hcond:Rows.uptoSmall H (ds++gs)=true) (hlaid:laidMetH Tryz.prog Rows.scriptPrintsComeBackUptoRow.laid W) (hsh:W.ShapedOpen Tryz.prog):
  Calls Tryz.prog 5 args W fun e W'=>∃v,e = .returned v/\Rows.scriptPrintsComeBackSpec.post enc Tryz.prog Tryz.f5 false true false false W args v W':=by
 have hval:=hval0;have hW':=hW;obtain⟨p,q,hA0,hV,rfl,hfz,hnd⟩:=hW;have hA:DataW.TrodAll enc Tryz.prog W 0 (fun _=>true) true Tryz.f5.params.toList args.toList ds p:=hA0;rw[Tryz.params5]at hA hval;obtain⟨v0,vs0,d0,ds0,p0,q0,hargs,rfl,rfl,h0,r0⟩:=trodAll_cons hA;obtain⟨rfl,rfl,rfl⟩:=trodAll_nil r0;obtain rfl:args = #[v0]:=by have:=congrArg List.toArray hargs;simpa using this
 obtain⟨rfl,rfl⟩:=trodVars_none hV;have lt0:∀x∈p0,x.block<W.heap.size:=by obtain⟨m,hm⟩:=h0;exact DataW.trod_lt m _ _ _ hm
 obtain⟨x0,a0,f0,b0⟩:=c67 e3e d8d a0V (hval 0 30 v0 rfl rfl) h0;clear hA0 hval0;have hb:a0z rbC (.sl (.rc .stmt)) x0<=1048576:=by
  have h:=of_decide_eq_true hcond;simp only[List.append_nil,List.cons_append,List.nil_append,a6w,c1E]at h;omega
 obtain⟨N,hN⟩:=a4x x0 f0 hb;refine(d4Y (fun _=>rfl) (d0x N) (W:=W) (vs:=[v0]) (x:=(x0,())) (gw hlaid hsh) ⟨a0,trivial⟩ hN).mono fun e W' ⟨he,bel⟩=>?_
 subst he;exact⟨_,rfl,_,_,_,[],_,[],hW',trodAll_mk1 (shut_bool Tryz.underlying4 _),(trodAll_cons_mk (Below.trod d4X (by kernel_rfl) (of_decide_eq_true (by kernel_rfl)) h0 bel lt0) trodAll_mk0),rfl,Below.frame bel _,fun h=>by cases h⟩
noncomputable def b12(os:Os):World:={World.holding Tryz.prog os ⟨#[],#[],[]⟩with heap:=((((((World.holding Tryz.prog os ⟨#[],#[],[]⟩).heap.modify 6 fun | .cells _ t frozen=> .cells #[.int .u8 0,.int .u8 1,.int .u8 28,.int .u8 2,.int .u8 29,.int .u8 14,.int .u8 24,.int .u8 3,.int .u8 30,.int .u8 22,.int .u8 20,.int .u8 15,.int .u8 25,.int .u8 17,.int .u8 4,.int .u8 8,.int .u8 31,.int .u8 27,.int .u8 13,.int .u8 23,.int .u8 21,.int .u8 19,.int .u8 16,.int .u8 7,.int .u8 26,.int .u8 12,.int .u8 18,.int .u8 6,.int .u8 11,.int .u8 5,.int .u8 10,.int .u8 9] t frozen|o=>o).modify 7 fun | .cells _ t frozen=> .cells #[.int .u8 0,.int .u8 1,.int .u8 56,.int .u8 2,.int .u8 57,.int .u8 49,.int .u8 28,.int .u8 3,.int .u8 61,.int .u8 58,.int .u8 42,.int .u8 50,.int .u8 38,.int .u8 29,.int .u8 17,.int .u8 4,.int .u8 62,.int .u8 47,.int .u8 59,.int .u8 36,.int .u8 45,.int .u8 43,.int .u8 51,.int .u8 22,.int .u8 53,.int .u8 39,.int .u8 33,.int .u8 30,.int .u8 24,.int .u8 18,.int .u8 12,.int .u8 5,.int .u8 63,.int .u8 55,.int .u8 48,.int .u8 27,.int .u8 60,.int .u8 41,.int .u8 37,.int .u8 16,.int .u8 46,.int .u8 35,.int .u8 44,.int .u8 21,.int .u8 52,.int .u8 32,.int .u8 23,.int .u8 11,.int .u8 54,.int .u8 26,.int .u8 40,.int .u8 15,.int .u8 34,.int .u8 20,.int .u8 31,.int .u8 10,.int .u8 25,.int .u8 14,.int .u8 19,.int .u8 9,.int .u8 13,.int .u8 8,.int .u8 7,.int .u8 6] t frozen|o=>o).modify 3 fun | .cells _ t frozen=> .cells #[.int .u64 1,.int .u64 10,.int .u64 100,.int .u64 1000,.int .u64 10000,.int .u64 100000,.int .u64 1000000,.int .u64 10000000,.int .u64 100000000,.int .u64 1000000000,.int .u64 10000000000,.int .u64 100000000000,.int .u64 1000000000000,.int .u64 10000000000000,.int .u64 100000000000000,.int .u64 1000000000000000,.int .u64 10000000000000000,.int .u64 100000000000000000,.int .u64 1000000000000000000,.int .u64 10000000000000000000] t frozen|o=>o).modify 5 fun | .cells _ t frozen=> .cells #[.int .u8 128,.int .u8 191,.int .u8 160,.int .u8 191,.int .u8 128,.int .u8 159,.int .u8 144,.int .u8 191,.int .u8 128,.int .u8 143,.int .u8 0,.int .u8 0,.int .u8 0,.int .u8 0,.int .u8 0,.int .u8 0,.int .u8 0,.int .u8 0,.int .u8 0,.int .u8 0,.int .u8 0,.int .u8 0,.int .u8 0,.int .u8 0,.int .u8 0,.int .u8 0,.int .u8 0,.int .u8 0,.int .u8 0,.int .u8 0,.int .u8 0,.int .u8 0] t frozen|o=>o).modify 4 fun | .cells _ t frozen=> .cells (Go.Pinned.utf8FirstZ.map fun(n:Nat)=>Value.int .u8 n).toArray t frozen|o=>o)}
set_option maxRecDepth 100000 in
theorem c9j(os:Os):laidMet Tryz.prog Rows.scriptPrintsComeBackUptoRow.laid ((b12 os).forCall (fun _ _=>0) ⟨#[],#[.slice none 0 0],[]⟩).memory:=
 laidMet_of_run' 8 (by kernel_rfl) (by kernel_rfl)
set_option maxRecDepth 100000 in
theorem e0h(os:Os){H:Type}(enc:TypeId×Value->H):∃places,DataW.whole enc Tryz.prog ((b12 os).forCall (fun _ _=>0) ⟨#[],#[.slice none 0 0],[]⟩).memory Tryz.f5.params.toList Rows.scriptPrintsComeBackSpec.vars false (#[.slice none 0 0]:Array Value).toList 8=some ([.nil],[],places):=
 ⟨[],by kernel_rfl⟩
set_option maxRecDepth 100000 in
theorem lifted(os:Os)(started:os.Started)(H:Type)(enc:TypeId×Value->H)(F:Stop.Interp):
  ReturnsInHanded {} Tryz.checked os 5 .any ((Rows.OpenSpec.upto Rows.scriptPrintsComeBackSpec).preRow enc Tryz.prog Tryz.f5 Rows.scriptPrintsComeBackUptoRow.domain false Rows.scriptPrintsComeBackUptoRow.laid) (((Rows.OpenSpec.upto Rows.scriptPrintsComeBackSpec).at F).post enc Tryz.prog Tryz.f5 false true false false):=by
 obtain⟨places,hx⟩:=e0h os enc;refine returnsInHanded_of_row (C:=Tryz.checked) (s:=Rows.OpenSpec.upto Rows.scriptPrintsComeBackSpec) own started (by kernel_rfl) Tryz.func5
  (witness_row_at (enc:=enc) (C:=Tryz.checked) false (b12 os) #[.slice none 0 0] rfl (by kernel_rfl) (by kernel_rfl) (by kernel_rfl)
   (OpenSpec.preRow_of_cond 8 hx (by kernel_rfl) (fun k hk=>by cases hk;kernel_rfl) (by kernel_rfl) (c9j os))) ?_
 intro W base args ds gs before hval hW _ hcond _ hlaid hsh _;exact c8U H enc W base args ds gs before hval hW (hcond _ rfl) hlaid hsh
theorem a1P{a b:Bool}(h:a=true)(h2:b=true):(a&&b)=true:=by rw[h,h2];rfl
theorem jf0:(Rows.scriptPrintsComeBackUptoRow.wf (OpenSpec.ofChange (Rows.OpenSpec.upto Rows.scriptPrintsComeBackSpec).bare))=true:=by kernel_rfl
theorem jf1:(laidOutB Tryz.pinned.checked.prog)=true:=by kernel_rfl
theorem jf2:(mapsRowed Tryz.pinned.checked.prog)=true:=by kernel_rfl
theorem jf3:(Tryz.f5.params.all (Tryz.pinned.checked.prog.readableRec ·))=true:=by kernel_rfl
theorem jf4:(namedTie Tryz.pinned.checked.prog Rows.scriptPrintsComeBackUptoRow.named (Rows.OpenSpec.upto Rows.scriptPrintsComeBackSpec).bare.vars)=true:=by kernel_rfl
theorem jf5:((Rows.scriptPrintsComeBackUptoRow.stops==[]))=true:=by kernel_rfl
theorem jf6:((Tryz.pinned.checked.prog.stops==[]))=true:=by kernel_rfl
theorem jf7:((Rows.scriptPrintsComeBackUptoRow.knobs==[]))=true:=by kernel_rfl
theorem jf8:((Tryz.pinned.checked.prog.stopKnobs==[]))=true:=by kernel_rfl
theorem jf9:((Rows.scriptPrintsComeBackUptoRow.inPlace==Tryz.pinned.checked.prog.inPlace 5))=true:=by kernel_rfl
theorem e2M:((Rows.scriptPrintsComeBackUptoRow.unfollowed==Tryz.pinned.checked.prog.unfollowed 5))=true:=by kernel_rfl
theorem e2N:((Rows.scriptPrintsComeBackUptoRow.recurses==Tryz.pinned.checked.prog.recurses 5))=true:=by kernel_rfl
theorem e2O:((Rows.scriptPrintsComeBackUptoRow.named==Tryz.pinned.checked.prog.varsNamed 5))=true:=by kernel_rfl
theorem e2P:((Rows.scriptPrintsComeBackUptoRow.maps==(Tryz.f5.params.toList++(Rows.OpenSpec.upto Rows.scriptPrintsComeBackSpec).bare.plain.varTypes Tryz.pinned.checked.prog).any (Tryz.pinned.checked.prog.mapsRec ·)))=true:=by kernel_rfl
theorem e2Q:((Rows.scriptPrintsComeBackUptoRow.ifaces==(Tryz.f5.params.toList++(Rows.OpenSpec.upto Rows.scriptPrintsComeBackSpec).bare.plain.varTypes Tryz.pinned.checked.prog).any (Tryz.pinned.checked.prog.ifacesRec ·)))=true:=by kernel_rfl
theorem e2R:((Rows.scriptPrintsComeBackUptoRow.mapsOut==Tryz.pinned.checked.prog.mapsAmong Tryz.f5.resultTypes.toList))=true:=by kernel_rfl
theorem e2S:((Rows.scriptPrintsComeBackUptoRow.loops==(Tryz.f5.params.toList++(Rows.OpenSpec.upto Rows.scriptPrintsComeBackSpec).bare.plain.varTypes Tryz.pinned.checked.prog).any (Tryz.pinned.checked.prog.loopsFrom ·)))=true:=by kernel_rfl
theorem e2T:((Rows.scriptPrintsComeBackUptoRow.wideKeys==(Tryz.f5.params.toList++(Rows.OpenSpec.upto Rows.scriptPrintsComeBackSpec).bare.plain.varTypes Tryz.pinned.checked.prog++Tryz.f5.resultTypes.toList).any (Tryz.pinned.checked.prog.wideKeysFrom ·)))=true:=by kernel_rfl
theorem e2U:((Rows.OpenSpec.upto Rows.scriptPrintsComeBackSpec).bare.vars.all (Tryz.pinned.checked.prog.varReadable ·))=true:=by kernel_rfl
theorem e2V:(Tryz.f5.resultTypes.all (fun t=>Tryz.pinned.checked.prog.readableRec t&&decide (t<Tryz.pinned.checked.prog.types.size)))=true:=by kernel_rfl
theorem e2W:((Rows.scriptPrintsComeBackUptoRow.ifacesOut==Tryz.f5.resultTypes.toList.any (Tryz.pinned.checked.prog.ifacesRec ·)))=true:=by kernel_rfl
theorem e2X:((Rows.scriptPrintsComeBackUptoRow.loopsOut==Tryz.f5.resultTypes.toList.any (Tryz.pinned.checked.prog.loopsFrom ·)))=true:=by kernel_rfl
theorem e2Y:((Rows.scriptPrintsComeBackUptoRow.plainKeys==Tryz.pinned.checked.prog.plainKeys))=true:=by kernel_rfl
theorem e2Z:(Rows.scriptPrintsComeBackUptoRow.shortTexts.isNone)=true:=by kernel_rfl
theorem e20:(Tryz.pinned.checked.prog.stopsHeard)=true:=by kernel_rfl
theorem e21:(Tryz.pinned.checked.prog.mayEnter)=true:=by kernel_rfl
theorem e22:((Rows.scriptPrintsComeBackUptoRow.lifted==Tryz.pinned.checked.prog.liftsFinal))=true:=by kernel_rfl
theorem e23:((Tryz.pinned.checked.prog.make==some Rows.scriptPrintsComeBackUptoRow.make))=true:=by kernel_rfl
theorem e24:((Rows.scriptPrintsComeBackUptoRow.kinds==(if Rows.scriptPrintsComeBackUptoRow.domain.isEmpty then []else Tryz.f5.params.toList.map fun t=>match Tryz.pinned.checked.prog.underlying t with|some (.int k)=>some k|_=>none)))=true:=by kernel_rfl
theorem e25:((Rows.scriptPrintsComeBackUptoRow.pinned==Rows.scriptPrintsComeBackUptoRow.pinnedBy))=true:=by kernel_rfl
theorem e26:((Rows.scriptPrintsComeBackUptoRow.veiled==(Tryz.f5.params.toList++(Rows.OpenSpec.upto Rows.scriptPrintsComeBackSpec).bare.plain.varTypes Tryz.pinned.checked.prog++Tryz.f5.resultTypes.toList).any (Tryz.pinned.checked.prog.veiledRec ·)))=true:=by kernel_rfl
theorem e27:(Rows.scriptPrintsComeBackUptoRow.veiledFits Tryz.pinned.checked.prog Tryz.f5.params.toList (Tryz.f5.params.toList++(Rows.OpenSpec.upto Rows.scriptPrintsComeBackSpec).bare.plain.varTypes Tryz.pinned.checked.prog++Tryz.f5.resultTypes.toList))=true:=by kernel_rfl
set_option maxRecDepth 100000 in
theorem d7T:joinedFacts Tryz.pinned.checked.prog 5 Tryz.f5 (Rows.OpenSpec.upto Rows.scriptPrintsComeBackSpec).bare Rows.scriptPrintsComeBackUptoRow=true:=(a1P (a1P (a1P (a1P (a1P (a1P (a1P (a1P (a1P (a1P (a1P (a1P (a1P (a1P (a1P (a1P (a1P (a1P (a1P (a1P (a1P (a1P (a1P (a1P (a1P (a1P (a1P (a1P (a1P (a1P (a1P jf0 jf1) jf2) jf3) jf4) jf5) jf6) jf7) jf8) jf9) e2M) e2N) e2O) e2P) e2Q) e2R) e2S) e2T) e2U) e2V) e2W) e2X) e2Y) e2Z) e20) e21) e22) e23) e24) e25) e26) e27)
theorem said:Rows.ScriptPrintsComeBackUptoSaid:=
 OpenClaim.holds_of_cond 5 Tryz.f5 rfl rfl rfl rfl rfl rfl rfl ⟨rfl,rfl,rfl,rfl,rfl⟩ rfl rfl rfl rfl rfl (by kernel_rfl) Tryz.func5 d7T
  (of_decide_eq_true (by kernel_rfl)) (by unfold Func.isWrapper;first|(rw[if_pos (by decide +kernel)];kernel_rfl)|(rw[if_neg (by decide +kernel)];exact⟨rfl,rfl⟩))
  (fun os started H enc _ F=>by rw[OpenClaim.pre_eq_preRow];exact lifted os started H enc F)
theorem plain(f:FuncId)(fn:Func)(hf:Tryz.pinned.checked.prog.funcNamed Rows.scriptPrintsComeBackUptoRow.func=some f)(hfn:Tryz.pinned.checked.prog.funcs[f]? = some fn):
  true=Tryz.pinned.checked.prog.looks []/\∀(j:Nat) t,fn.params[j]? = some t->Tryz.pinned.checked.prog.wantsStandIn t=false:=by
 obtain rfl:f=5:=Option.some.inj ((show Tryz.prog.funcNamed Rows.scriptPrintsComeBackUptoRow.func=some 5 by kernel_rfl).symm.trans hf) |>.symm
 obtain rfl:fn=Tryz.f5:=(Option.some.inj (Tryz.func5.symm.trans hfn)).symm;refine⟨by kernel_rfl,fun j t ht=>?_⟩;rw[Tryz.params5]at ht;have hm:t=30:=by
  have:=Array.mem_of_getElem? ht;simp at this
  first|exact this|(rcases this with h|h<;>simp[h];done)|(rcases this with h|h|h<;>simp[h];done)|(rcases this with h|h|h|h<;>simp[h];done)|(simp_all;done)
 rcases hm with rfl
 ·exact(show Tryz.prog.wantsStandIn 30=false by kernel_rfl)
end Go.Proofs.YtolpmfhiegpohaaGreatDoor.ScriptPrintsComeBack
namespace Go.Proofs.YtolpmfhiegpohaaGreatDoor
open Go
theorem scriptPrintsComeBack_card:Rows.ScriptPrintsComeBackUptoCardSaid:=
 Claim7.holds_tied_plain_at .later [] _ _ _ _ ScriptPrintsComeBack.said (fun _ h=>by cases h) (by kernel_rfl) (fun _ h=>by cases h) scriptPrintsComeBackUpto_row_tie rfl ⟨rfl,rfl⟩ (by kernel_rfl) rfl ScriptPrintsComeBack.plain (by kernel_rfl)
#print axioms scriptPrintsComeBack_card
end Go.Proofs.YtolpmfhiegpohaaGreatDoor
