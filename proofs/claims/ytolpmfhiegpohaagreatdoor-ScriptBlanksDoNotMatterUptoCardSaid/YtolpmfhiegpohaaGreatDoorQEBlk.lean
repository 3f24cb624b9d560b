/- The statement ScriptBlanksDoNotMatter (its card): for every input the law returns true, and what was handed in reads as it did. No condition beyond those of the card. -/
import Derived.Test.YtolpmfhiegpohaaGreatDoorCards
import Derived.Test.YtolpmfhiegpohaaGreatDoorTie
import Derived.Test.YtolpmfhiegpohaaGreatDoorQLBlk
import Derived.Test.YtolpmfhiegpohaaGreatDoorQEndU
import Derived.ProofKit
import Derived.Deep.DeepHandedRow
import Derived.Lib.LaidTab
namespace Go.Proofs.YtolpmfhiegpohaaGreatDoor.ScriptBlanksDoNotMatter
set_option linter.unusedVariables false
set_option linter.unusedSimpArgs false
open Go Go.RowKit Go.ChangeShapes Go.WideShapes Go.ChangeAt
theorem own:ownKnob Tryz.prog.godebug=none:=by kernel_rfl
theorem d53:laidOutB Tryz.prog=true:=by kernel_rfl
theorem gw{W:World}(h:W.ShapedOpen Tryz.prog):GW W:=Tryz.laysM143.s1_3 W h
def rcT:RC->Option TypeId:=fun i=>match i with|_=>none
theorem b9D:Deep Tryz.prog rcT .str 9:= .str Tryz.underlying9
theorem e4N:d8Z Tryz.prog rcT:=fun i T h=>by
 cases i with
 |value=>cases h
 |expr=>cases h
 |stmt=>cases h
 |part=>cases h
set_option maxRecDepth 100000 in
theorem c9e(H:Type)(enc:TypeId×Value->H)(W:World)(base:Nat)(args:Array Value)(ds gs:List (DataW H))(before:List MemPlace)
  (hval0:∀(j:Nat) t v,Tryz.f3.params[j]? = some t->args[j]? = some v->Value.okWide Tryz.prog W .any base t v)
  (hW:DataW.Whole enc Tryz.prog Tryz.f3.params.toList Rows.scriptBlanksDoNotMatterSpec.vars false W args.toList ds gs before) (hcond:Rows.uptoSmall H (ds++gs)=true) (hsh:W.ShapedOpen Tryz.prog):
  Calls Tryz.prog 3 args W fun e W'=>∃v,e = .returned v/\Rows.scriptBlanksDoNotMatterSpec.post enc Tryz.prog Tryz.f3 false true false false W args v W':=by
 have hval:=hval0
 have hW':=hW
 obtain⟨p,q,hA0,hV,rfl,hfz,hnd⟩:=hW
 have hA:DataW.TrodAll enc Tryz.prog W 0 (fun _=>true) true Tryz.f3.params.toList args.toList ds p:=hA0
 rw[Tryz.params3]at hA hval
 obtain⟨v0,vs0,d0,ds0,p0,q0,hargs,rfl,rfl,h0,r0⟩:=trodAll_cons hA
 obtain⟨v1,vs1,d1,ds1,p1,q1,rfl,rfl,rfl,h1,r1⟩:=trodAll_cons r0
 obtain⟨rfl,rfl,rfl⟩:=trodAll_nil r1
 obtain rfl:args = #[v0,v1]:=by have:=congrArg List.toArray hargs;simpa using this
 obtain⟨rfl,rfl⟩:=trodVars_none hV
 have lt0:∀x∈p0,x.block<W.heap.size:=by obtain⟨m,hm⟩:=h0;exact DataW.trod_lt m _ _ _ hm
 have lt1:∀x∈p1,x.block<W.heap.size:=by obtain⟨m,hm⟩:=h1;exact DataW.trod_lt m _ _ _ hm
 obtain⟨x0,a0,f0,b0⟩:=e8C e4N f1z b9D (hval 0 9 v0 rfl rfl) h0
 obtain⟨x1,a1,f1,b1⟩:=e8C e4N f1z b9D (hval 1 9 v1 rfl rfl) h1
 clear hA0 hval0
 have hb:d5z rbC .str x0+d5z rbC .str x1<=1048576:=by
  have h:=of_decide_eq_true hcond
  simp only[List.append_nil,List.cons_append,List.nil_append,e4G,e9n]at h
  omega
 obtain⟨N,hN⟩:=e1y x0 x1 f0 f1 hb
 refine(d54 (fun _=>rfl) (d7G N) (W:=W) (vs:=[v0,v1]) (x:=(x0,x1,())) (gw hsh) ⟨a0,a1,trivial⟩ hN).mono fun e W' ⟨he,bel⟩=>?_
 subst he
 exact⟨_,rfl,_,_,_,[],_,[],hW',trodAll_mk1 (shut_bool Tryz.underlying4 _),(trodAll_cons_mk (Below.trod d53 (by kernel_rfl) (of_decide_eq_true (by kernel_rfl)) h0 bel lt0) (trodAll_cons_mk (Below.trod d53 (by kernel_rfl) (of_decide_eq_true (by kernel_rfl)) h1 bel lt1) trodAll_mk0)),rfl,Below.frame bel _,fun h=>by cases h⟩
noncomputable def b0T(os:Os):World:={World.holding Tryz.prog os ⟨#[],#[],[]⟩with heap:=(((World.holding Tryz.prog os ⟨#[],#[],[]⟩).heap.modify 5 fun | .cells _ t frozen=> .cells #[.int .u8 128,.int .u8 191,.int .u8 160,.int .u8 191,.int .u8 128,.int .u8 159,.int .u8 144,.int .u8 191,.int .u8 128,.int .u8 143,.int .u8 0,.int .u8 0,.int .u8 0,.int .u8 0,.int .u8 0,.int .u8 0,.int .u8 0,.int .u8 0,.int .u8 0,.int .u8 0,.int .u8 0,.int .u8 0,.int .u8 0,.int .u8 0,.int .u8 0,.int .u8 0,.int .u8 0,.int .u8 0,.int .u8 0,.int .u8 0,.int .u8 0,.int .u8 0] t frozen|o=>o).modify 4 fun | .cells _ t frozen=> .cells (Go.Pinned.utf8FirstZ.map fun(n:Nat)=>Value.int .u8 n).toArray t frozen|o=>o)}
set_option maxRecDepth 100000 in
theorem c9C(os:Os):laidMet Tryz.prog Rows.scriptBlanksDoNotMatterUptoRow.laid ((b0T os).forCall (fun _ _=>0) ⟨#[],#[.string ⟨#[]⟩,.string ⟨#[]⟩],[]⟩).memory:=
 laidMet_of_run' 8 (by kernel_rfl) (by kernel_rfl)
set_option maxRecDepth 100000 in
theorem e1N(os:Os){H:Type}(enc:TypeId×Value->H):∃places,DataW.whole enc Tryz.prog ((b0T os).forCall (fun _ _=>0) ⟨#[],#[.string ⟨#[]⟩,.string ⟨#[]⟩],[]⟩).memory Tryz.f3.params.toList Rows.scriptBlanksDoNotMatterSpec.vars false (#[.string ⟨#[]⟩,.string ⟨#[]⟩]:Array Value).toList 8=some ([.lit (.string []),.lit (.string [])],[],places):=
 ⟨[],by kernel_rfl⟩
set_option maxRecDepth 100000 in
theorem lifted(os:Os)(started:os.Started)(H:Type)(enc:TypeId×Value->H)(F:Stop.Interp):
  ReturnsInHanded {} Tryz.checked os 3 .any ((Rows.OpenSpec.upto Rows.scriptBlanksDoNotMatterSpec).preRow enc Tryz.prog Tryz.f3 Rows.scriptBlanksDoNotMatterUptoRow.domain false Rows.scriptBlanksDoNotMatterUptoRow.laid) (((Rows.OpenSpec.upto Rows.scriptBlanksDoNotMatterSpec).at F).post enc Tryz.prog Tryz.f3 false true false false):=by
 obtain⟨places,hx⟩:=e1N os enc
 refine returnsInHanded_of_row (C:=Tryz.checked) (s:=Rows.OpenSpec.upto Rows.scriptBlanksDoNotMatterSpec) own started (by kernel_rfl) Tryz.func3
  (witness_row_at (enc:=enc) (C:=Tryz.checked) false (b0T os) #[.string ⟨#[]⟩,.string ⟨#[]⟩] rfl (by kernel_rfl) (by kernel_rfl) (by kernel_rfl)
   (OpenSpec.preRow_of_cond 8 hx (by kernel_rfl) (fun k hk=>by cases hk;kernel_rfl) (by kernel_rfl) (c9C os))) ?_
 intro W base args ds gs before hval hW _ hcond _ _ hsh _
 exact c9e H enc W base args ds gs before hval hW (hcond _ rfl) hsh
theorem X7{a b:Bool}(h:a=true)(h2:b=true):(a&&b)=true:=by rw[h,h2];rfl
theorem jf0:(Rows.scriptBlanksDoNotMatterUptoRow.wf (OpenSpec.ofChange (Rows.OpenSpec.upto Rows.scriptBlanksDoNotMatterSpec).bare))=true:=by kernel_rfl
theorem jf1:(laidOutB Tryz.pinned.checked.prog)=true:=by kernel_rfl
theorem jf2:(mapsRowed Tryz.pinned.checked.prog)=true:=by kernel_rfl
theorem jf3:(Tryz.f3.params.all (Tryz.pinned.checked.prog.readableRec ·))=true:=by kernel_rfl
theorem jf4:(namedTie Tryz.pinned.checked.prog Rows.scriptBlanksDoNotMatterUptoRow.named (Rows.OpenSpec.upto Rows.scriptBlanksDoNotMatterSpec).bare.vars)=true:=by kernel_rfl
theorem jf5:((Rows.scriptBlanksDoNotMatterUptoRow.stops==[]))=true:=by kernel_rfl
theorem jf6:((Tryz.pinned.checked.prog.stops==[]))=true:=by kernel_rfl
theorem jf7:((Rows.scriptBlanksDoNotMatterUptoRow.knobs==[]))=true:=by kernel_rfl
theorem jf8:((Tryz.pinned.checked.prog.stopKnobs==[]))=true:=by kernel_rfl
theorem jf9:((Rows.scriptBlanksDoNotMatterUptoRow.inPlace==Tryz.pinned.checked.prog.inPlace 3))=true:=by kernel_rfl
theorem e4k:((Rows.scriptBlanksDoNotMatterUptoRow.unfollowed==Tryz.pinned.checked.prog.unfollowed 3))=true:=by kernel_rfl
theorem e4l:((Rows.scriptBlanksDoNotMatterUptoRow.recurses==Tryz.pinned.checked.prog.recurses 3))=true:=by kernel_rfl
theorem e4m:((Rows.scriptBlanksDoNotMatterUptoRow.named==Tryz.pinned.checked.prog.varsNamed 3))=true:=by kernel_rfl
theorem e4n:((Rows.scriptBlanksDoNotMatterUptoRow.maps==(Tryz.f3.params.toList++(Rows.OpenSpec.upto Rows.scriptBlanksDoNotMatterSpec).bare.plain.varTypes Tryz.pinned.checked.prog).any (Tryz.pinned.checked.prog.mapsRec ·)))=true:=by kernel_rfl
theorem e4o:((Rows.scriptBlanksDoNotMatterUptoRow.ifaces==(Tryz.f3.params.toList++(Rows.OpenSpec.upto Rows.scriptBlanksDoNotMatterSpec).bare.plain.varTypes Tryz.pinned.checked.prog).any (Tryz.pinned.checked.prog.ifacesRec ·)))=true:=by kernel_rfl
theorem e4p:((Rows.scriptBlanksDoNotMatterUptoRow.mapsOut==Tryz.pinned.checked.prog.mapsAmong Tryz.f3.resultTypes.toList))=true:=by kernel_rfl
theorem e4q:((Rows.scriptBlanksDoNotMatterUptoRow.loops==(Tryz.f3.params.toList++(Rows.OpenSpec.upto Rows.scriptBlanksDoNotMatterSpec).bare.plain.varTypes Tryz.pinned.checked.prog).any (Tryz.pinned.checked.prog.loopsFrom ·)))=true:=by kernel_rfl
theorem e4r:((Rows.scriptBlanksDoNotMatterUptoRow.wideKeys==(Tryz.f3.params.toList++(Rows.OpenSpec.upto Rows.scriptBlanksDoNotMatterSpec).bare.plain.varTypes Tryz.pinned.checked.prog++Tryz.f3.resultTypes.toList).any (Tryz.pinned.checked.prog.wideKeysFrom ·)))=true:=by kernel_rfl
theorem e4s:((Rows.OpenSpec.upto Rows.scriptBlanksDoNotMatterSpec).bare.vars.all (Tryz.pinned.checked.prog.varReadable ·))=true:=by kernel_rfl
theorem e4t:(Tryz.f3.resultTypes.all (fun t=>Tryz.pinned.checked.prog.readableRec t&&decide (t<Tryz.pinned.checked.prog.types.size)))=true:=by kernel_rfl
theorem e4u:((Rows.scriptBlanksDoNotMatterUptoRow.ifacesOut==Tryz.f3.resultTypes.toList.any (Tryz.pinned.checked.prog.ifacesRec ·)))=true:=by kernel_rfl
theorem e4v:((Rows.scriptBlanksDoNotMatterUptoRow.loopsOut==Tryz.f3.resultTypes.toList.any (Tryz.pinned.checked.prog.loopsFrom ·)))=true:=by kernel_rfl
theorem e4w:((Rows.scriptBlanksDoNotMatterUptoRow.plainKeys==Tryz.pinned.checked.prog.plainKeys))=true:=by kernel_rfl
theorem e4x:(Rows.scriptBlanksDoNotMatterUptoRow.shortTexts.isNone)=true:=by kernel_rfl
theorem e4y:(Tryz.pinned.checked.prog.stopsHeard)=true:=by kernel_rfl
theorem e4z:(Tryz.pinned.checked.prog.mayEnter)=true:=by kernel_rfl
theorem e4A:((Rows.scriptBlanksDoNotMatterUptoRow.lifted==Tryz.pinned.checked.prog.liftsFinal))=true:=by kernel_rfl
theorem e4B:((Tryz.pinned.checked.prog.make==some Rows.scriptBlanksDoNotMatterUptoRow.make))=true:=by kernel_rfl
theorem e4C:((Rows.scriptBlanksDoNotMatterUptoRow.kinds==(if Rows.scriptBlanksDoNotMatterUptoRow.domain.isEmpty then []else Tryz.f3.params.toList.map fun t=>match Tryz.pinned.checked.prog.underlying t with|some (.int k)=>some k|_=>none)))=true:=by kernel_rfl
theorem e4D:((Rows.scriptBlanksDoNotMatterUptoRow.pinned==Rows.scriptBlanksDoNotMatterUptoRow.pinnedBy))=true:=by kernel_rfl
theorem e4E:((Rows.scriptBlanksDoNotMatterUptoRow.veiled==(Tryz.f3.params.toList++(Rows.OpenSpec.upto Rows.scriptBlanksDoNotMatterSpec).bare.plain.varTypes Tryz.pinned.checked.prog++Tryz.f3.resultTypes.toList).any (Tryz.pinned.checked.prog.veiledRec ·)))=true:=by kernel_rfl
theorem e4F:(Rows.scriptBlanksDoNotMatterUptoRow.veiledFits Tryz.pinned.checked.prog Tryz.f3.params.toList (Tryz.f3.params.toList++(Rows.OpenSpec.upto Rows.scriptBlanksDoNotMatterSpec).bare.plain.varTypes Tryz.pinned.checked.prog++Tryz.f3.resultTypes.toList))=true:=by kernel_rfl
set_option maxRecDepth 100000 in
theorem d9a:joinedFacts Tryz.pinned.checked.prog 3 Tryz.f3 (Rows.OpenSpec.upto Rows.scriptBlanksDoNotMatterSpec).bare Rows.scriptBlanksDoNotMatterUptoRow=true:=(X7 (X7 (X7 (X7 (X7 (X7 (X7 (X7 (X7 (X7 (X7 (X7 (X7 (X7 (X7 (X7 (X7 (X7 (X7 (X7 (X7 (X7 (X7 (X7 (X7 (X7 (X7 (X7 (X7 (X7 (X7 jf0 jf1) jf2) jf3) jf4) jf5) jf6) jf7) jf8) jf9) e4k) e4l) e4m) e4n) e4o) e4p) e4q) e4r) e4s) e4t) e4u) e4v) e4w) e4x) e4y) e4z) e4A) e4B) e4C) e4D) e4E) e4F)
theorem said:Rows.ScriptBlanksDoNotMatterUptoSaid:=
 OpenClaim.holds_of_cond 3 Tryz.f3 rfl rfl rfl rfl rfl rfl rfl ⟨rfl,rfl,rfl,rfl,rfl⟩ rfl rfl rfl rfl rfl (by kernel_rfl) Tryz.func3 d9a
  (of_decide_eq_true (by kernel_rfl)) (by unfold Func.isWrapper;first|(rw[if_pos (by decide +kernel)];kernel_rfl)|(rw[if_neg (by decide +kernel)];exact⟨rfl,rfl⟩))
  (fun os started H enc _ F=>by rw[OpenClaim.pre_eq_preRow];exact lifted os started H enc F)
theorem plain(f:FuncId)(fn:Func)(hf:Tryz.pinned.checked.prog.funcNamed Rows.scriptBlanksDoNotMatterUptoRow.func=some f)(hfn:Tryz.pinned.checked.prog.funcs[f]? = some fn):
  true=Tryz.pinned.checked.prog.looks []/\∀(j:Nat) t,fn.params[j]? = some t->Tryz.pinned.checked.prog.wantsStandIn t=false:=by
 obtain rfl:f=3:=Option.some.inj ((show Tryz.prog.funcNamed Rows.scriptBlanksDoNotMatterUptoRow.func=some 3 by kernel_rfl).symm.trans hf) |>.symm
 obtain rfl:fn=Tryz.f3:=(Option.some.inj (Tryz.func3.symm.trans hfn)).symm
 refine⟨by kernel_rfl,fun j t ht=>?_⟩
 rw[Tryz.params3]at ht
 have hm:t=9:=by
  have:=Array.mem_of_getElem? ht
  simp at this
  first|exact this|(rcases this with h|h<;>simp[h];done)|(rcases this with h|h|h<;>simp[h];done)|(rcases this with h|h|h|h<;>simp[h];done)|(simp_all;done)
 rcases hm with rfl
 ·exact(show Tryz.prog.wantsStandIn 9=false by kernel_rfl)
end Go.Proofs.YtolpmfhiegpohaaGreatDoor.ScriptBlanksDoNotMatter
namespace Go.Proofs.YtolpmfhiegpohaaGreatDoor
open Go
theorem scriptBlanksDoNotMatter_card:Rows.ScriptBlanksDoNotMatterUptoCardSaid:=
 Claim7.holds_tied_plain_at .later [] _ _ _ _ ScriptBlanksDoNotMatter.said (fun _ h=>by cases h) (by kernel_rfl) (fun _ h=>by cases h) scriptBlanksDoNotMatterUpto_row_tie rfl ⟨rfl,rfl⟩ (by kernel_rfl) rfl ScriptBlanksDoNotMatter.plain (by kernel_rfl)
#print axioms scriptBlanksDoNotMatter_card
end Go.Proofs.YtolpmfhiegpohaaGreatDoor
