/- % -/
import Derived.Test.YtolpmfhiegpohaaGreatDoorQBmJ
import Derived.RangeFuncBox
import Derived.RangeFuncLeaves
import Derived.RangeFuncWrites
import Derived.Shelf.Abstract
import Derived.WalkKit
import Derived.OwnWalkIn
import Derived.TacticsInMore
import Derived.LoopNIn
import Derived.LoopIn
import Derived.Shelf.SlIter.Collect
import Derived.Test.YtolpmfhiegpohaaGreatDoorProg
namespace Go.Proofs.YtolpmfhiegpohaaGreatDoor
set_option linter.unusedVariables false
set_option linter.unusedSimpArgs false
set_option maxRecDepth 100000
open Go Go.RowKit
section
abbrev τ0:Type:=Int×d7×Int×Int
abbrev τk:=Int×Int×Bool×Int×List τ0×List (Int×Int)
abbrev τj:=Int×d7×Int×Int×List d7×List GPart×List τ0×Int×Int
abbrev τf:=Int×List τ0×Int×Int×Int×d7×d7×Int×d7×Int×Int×List (d7×GExpr)
abbrev τe:=List τ0×Int×Int×Int×d7×Int×Int×List GPart
abbrev τd:=List τ0×Int×Int×Int×d7×Int×List d7×Int×List GPart
abbrev τc:=List GStmt×Int×Bool×List τ0×Int×Int×Int×Bool×List GStmt
abbrev τb:=List τ0×Int×Int×Int×Int×d7×d7×List (d7×GExpr)×Int×d7×Int×Int
abbrev τ1:Ty:= .pr (.int .i64) (.pr .str (.pr (.int .i64) (.int .i64)))
abbrev τ2:Ty:= .int .i64
abbrev τ3:Ty:= .rc .expr
abbrev τ4:Type:=List τ0×Int×Int×Int×d7×d7×List d7×Int×d7×Int×Int
abbrev τ5:Ty:= .sl (.rc .stmt)
abbrev τ6:Type:=List τ0
abbrev τ7:Ty:= .np (.pr (.np .un) (.pr (.mp .bool) (.pr .bool .bool)))
abbrev τ8:Type:=Int×d7×Int×Int×d7×Int×Int×List τ0
abbrev τ9:Type:=d7×d7×Int×List τ0
abbrev τ10:Type:=List UInt8
abbrev τ11:Ty:= .pr .str (.pr .str (.sl (.pr .str (.rc .value))))
abbrev X7:Ty:= .pr .str τ3
abbrev N3:Ty:= .sl .str
abbrev τ14:Type:=List τ0×Int×Int
abbrev τ15:Ty:= .pr .str (.pr .str (.pr (.sl (.pr .str .str)) (.sl (.pr .str (.pr .bool (.sl .u8))))))
abbrev τ16:Type:=d7×Bool×d7×Int×List τ0
abbrev τ17:Ty:= .rc .stmt
abbrev τ18:Type:=Int×d7×d7×Int×d7×Int×Int×List τ0×Int×Int×List d7
abbrev τ19:Type:=Int×d7×d7×Int×d7×Int×Int×List d7×List τ0×Int×Int
abbrev τ20:Type:=List d7
abbrev τ21:Type:=Int×Int×Bool×Int×List τ0×List (Int×Int)×List d7
abbrev τ22:Ty:= .pr (.rc .value) (.np (.pr τ7 (.pr τ17 .bool)))
abbrev τ23:Type:=d7×List τ0×Int×Int
abbrev τ24:Type:=d7×Int×List τ0
abbrev τ25:Ty:= .pr .str (.rc .value)
abbrev τ26:Ty:= .pr .bool (.pr .bool (.pr .bool (.pr .bool (.pr .bool (.pr .bool .bool)))))
abbrev τ27:Type:=Bool×List τ0×Int×Int
abbrev V0:Sl:= .v τ2
abbrev V1:Sl:= .v .str
abbrev V2:Sl:= .v (.sl τ1)
abbrev V3:Sl:= .v .bool
end
section
abbrev sgM(ps:List Sl)(bs:List Sb)(rs:List Sl)(cs:List Sb)(R:Type)(out:R->SV rs×BV cs)(f:SV ps->BV bs->Option R):AF:={ps:=ps,bs:=bs,rs:=rs,cs:=cs,R:=R,out:=out,f:=f}
abbrev ρ0:Type:=τ6->Int->Int->Int->Int->d7->d7->Int->d7->Int->Int->(List (d7×GExpr))->Option (Except Int (τb))
abbrev ρ1:Type:=τ6->Int->Int->Int->d7->Int->Int->τ20->(List GPart)->Option (Except Int (τd))
abbrev ρ2:Type:=τ6->Int->Int->Int->d7->Int->Int->(List GPart)->Option (Except Int (τe))
abbrev ρ3:Type:=τ6->Int->Int->(List GStmt)->Option (Except Int (τc))
abbrev ρ4:Type:=τ6->Int->Int->Int->d7->Int->τ20->Unit->(List GPart)->Option (Except Int (GPart×List τ0×Int×Int))
abbrev ρ5:Type:=τ6->Int->Int->Int->d7->d7->Int->d7->Int->Int->τ20->Option (Except Int τ4)
abbrev ρ6:Type:=τ6->Int->Int->(List GStmt)->Option (Except Int (List τ0×Int×Int×List GStmt))
abbrev ρ7:Type:=Int->τ6->Int->Int->Option (Except Int (GStmt×List τ0×Int×Int))
abbrev ρ8:Type:=τ6->Int->Int->(List GExpr)->Option (GExpr×List τ0×Int×Int)
abbrev ρ9:Type:=GPart->Int->τ6->Int->Int->Option (GExpr×List τ0×Int×Int)
abbrev ρ10:Type:=Int->Int->Bool->Int->τ6->(List (Int×Int))->τ20->Option τ21
abbrev K8:Type:=τ6->Int->Int->Option (Except Int (GPart×List τ0×Int×Int))
abbrev ρ12:Type:=(List GStmt)->(List GStmt)->Bool->Option (Bool)
abbrev ρ13:Type:=Int->(List GStmt)->τ10->Option τ10
abbrev ρ14:Type:=(List GStmt)->Int->Option (Int)
abbrev ρ15:Type:=GExpr->GExpr->Option (Bool)
abbrev ρ16:Type:=(List GStmt)->Option (Int)
abbrev ρ17:Type:=GExpr->Int->Option (Int)
abbrev ρ18:Type:=GExpr->Option (Int)
abbrev ρ19:Type:=GExpr->Option (d7)
abbrev ρ20:Type:=Int->Option Bool
abbrev ρ21:Type:=Int->Option Int
end
section
open Go Go.RowKit Go.Shelf
attribute [local go_sem] Oper.semAt_some
abbrev a5i(s:d7):Value:= .string ⟨s.toArray⟩
def a2V(zs:List d7)(k:Nat):List d7:=(List.range k).map fun j=>zs[j]?.getD []
theorem b7w(zs:List d7)(k:Nat):a2V zs (k+1)=a2V zs k ++ [zs[k]?.getD []]:=by simp[a2V,List.range_succ]
theorem b4b(zs:List d7)(k:Nat):(a2V zs k).length=k:=by simp[a2V]
theorem b9W(zs:List d7):a2V zs zs.length=zs:=by
 apply List.ext_getElem
 ·simp[a2V]
 ·intro i h1 h2;simp[a2V,h2]
set_option maxRecDepth 100000 in
set_option maxHeartbeats 2000000 in
theorem b8C(n:Nat)(hn:1<=n)(l Bs n₀ b off len cap:Nat)(zs:List d7)(hreach:len*16<=140737488351232)(hb:b<n₀)(J Jx:List d7->World->Prop)
  (hY:∀pre x W,J pre W->pre.length<len->YieldAt Fence.wide (n-1) Tryz.prog l #[a5i x] W fun e W'=>
   (e = .returned (.bool true)/\J (pre ++ [x]) W'/\Below n₀ W W')\/(e = .returned (.bool false)/\Jx (pre ++ [x]) W'))
  (W:World) (hBs:W.cell? ⟨Bs,0,none⟩=some (.slice (some ⟨b,off,none⟩) len cap)) (hc:∀j,j<len->W.cell? ⟨b,off+j,none⟩=some (a5i (zs[j]?.getD []))) (h0:J [] W):
  CallsIn Fence.wide n Tryz.prog 226 #[.func (.yield l) #[] #[],.pointer (some ⟨Bs,0,none⟩)] W fun e W'=>(∃v,e = .returned v)/\
   (J (a2V zs len) W'\/∃pre,Jx pre W'):=by
 refine callsIn_of_wp Tryz.func226 rfl trivial ?_ rfl;simp only[Tryz.ntmps226,List.size_toArray,List.length_cons,List.length_nil,Nat.reduceAdd,Nat.reduceSub,Array.replicate_succ,Array.replicate_zero,List.push_toArray,List.append_toArray,List.nil_append,List.cons_append]
 gi_wp2
 gi_loopw [7] (fun i wr=>∃k:Nat,k<=len/\i = .int .i64 k/\J (a2V zs k) wr/\Below n₀ W wr)
  (fun i _=>len-(intOf i).toNat)
 case atStart=>exact⟨0,Nat.zero_le _,rfl,h0,Below.refl _ _⟩
 case round=>
  obtain⟨k,hk,rfl,hJs,hnx⟩:=hrel;have hcx:k<len->wr.cell? ⟨b,off+k,none⟩=some (a5i (zs[k]?.getD [])):=fun h=>(hnx.cell (p:=⟨b,off+k,none⟩) hb).trans (hc k h)
  by_cases hlt:k<len
  ·obtain⟨fn,tmps,assign,body,hy,hR⟩:=hY _ (zs[k]?.getD []) wr hJs (by rw[b4b];exact hlt);have hcx':=hcx hlt
   gi_wp2
   refine hR.mono ?_;rintro e W3 (⟨rfl,hJ3,hk3⟩|⟨rfl,hJx3⟩)
   ·gi_wp2
    go_roundw
    case rel=>exact⟨k+1,by omega,by simp,by rw[b7w];exact hJ3,hnx.trans hk3⟩
    case measure=>simp[intOf];omega
   ·gi_wp2
    refine bodyPost_ret (results_none rfl _ _ _) rfl ?_;exact⟨⟨_,rfl⟩,.inr ⟨_,hJx3⟩⟩
  ·obtain rfl:k=len:=by omega
   gi_wp2
   go_end0
   exact⟨⟨_,rfl⟩,.inl hJs⟩
set_option maxRecDepth 100000 in
set_option maxHeartbeats 1000000 in
theorem b0u(n:Nat)(l Bs:Nat)(A:Option Addr)(c:Nat)(J:List d7->World->Prop)(W:World)(hBs:W.cell? ⟨Bs,0,none⟩=some (.slice A 0 c))(h0:J [] W):
  CallsIn Fence.wide n Tryz.prog 226 #[.func (.yield l) #[] #[],.pointer (some ⟨Bs,0,none⟩)] W fun e W'=>(∃v,e = .returned v)/\J [] W':=by
 refine callsIn_of_wp Tryz.func226 rfl trivial ?_ rfl;simp only[Tryz.ntmps226,List.size_toArray,List.length_cons,List.length_nil,Nat.reduceAdd,Nat.reduceSub,Array.replicate_succ,Array.replicate_zero,List.push_toArray,List.append_toArray,List.nil_append,List.cons_append]
 gi_wp2
 gi_loopw [7] (fun i wr=>i = .int .i64 0/\J [] wr) (fun _ _=>0)
 case atStart=>exact⟨rfl,h0⟩
 case round=>
  obtain⟨rfl,hJs⟩:=hrel
  gi_wp2
  go_end0
  exact⟨⟨_,rfl⟩,hJs⟩
def StrsAt(n₀:Nat)(W:World)(sv:Value)(zs:List d7):Prop:=(∃A c,sv = .slice A 0 c/\zs=[])\/∃b off cap,sv = .slice (some ⟨b,off,none⟩) zs.length cap/\b<n₀/\∀j,j<zs.length->W.cell? ⟨b,off+j,none⟩=some (a5i (zs[j]?.getD []))
theorem StrsAt.below{n₀:Nat}{A B:World}(h:Below n₀ A B){sv:Value}{zs:List d7}:StrsAt n₀ A sv zs->StrsAt n₀ B sv zs
 |.inl e=> .inl e
 |.inr ⟨b,off,cap,e,hb,hc⟩=> .inr ⟨b,off,cap,e,hb,fun j hj=>(h.cell (p:=⟨b,off+j,none⟩) hb).trans (hc j hj)⟩
theorem b6P(n:Nat)(hn:1<=n)(Bs n₀:Nat)(sv:Value)(zs:List d7)(hreach:zs.length*16<=140737488351232)(w:World)(hBs:Bs<w.heap.size)(hn₀:n₀<=w.heap.size)
  (hc:w.cell? ⟨Bs,0,none⟩=some sv) (hI:StrsAt n₀ w sv zs):
  SeqStopsK Fence.wide n Tryz.prog 226 #[.pointer (some ⟨Bs,0,none⟩)] (fun x:d7=>#[a5i x]) (Below n₀) (fun ys=>ys=zs) (fun _=>True) zs.length w:=fun l J Jx W hW _ _ hY h0=>by
 have hc':=(hW.cell (p:=⟨Bs,0,none⟩) hBs).trans hc;rcases hI.below (hW.mono hn₀)with⟨A,c,rfl,rfl⟩|⟨b,off,cap,rfl,hb,hcs⟩
 ·exact(b0u n l Bs A c J W hc' h0).mono fun e W' ⟨he,hj⟩=>⟨he,.inl ⟨_,rfl,hj⟩⟩
 ·refine(b8C n hn l Bs n₀ b off zs.length cap zs hreach hb J Jx hY W hc' hcs h0).mono ?_;rintro e W' ⟨he,hj|⟨pre,hj⟩⟩
  ·exact⟨he,.inl ⟨_,b9W zs,hj⟩⟩
  ·exact⟨he,.inr ⟨pre,trivial,hj⟩⟩
set_option maxRecDepth 100000 in
set_option maxHeartbeats 2000000 in
theorem b06(n:Nat)(hn:3<=n)(Bq:Nat)(sv:Value)(zs:List d7)(hreach:zs.length*16<=140737488351232)(w:World)(hBq:Bq<w.heap.size)
  (hc:w.cell? ⟨Bq,0,none⟩=some sv) (hI:StrsAt w.heap.size w sv zs):
  CallsIn Fence.wide n Tryz.prog 260 #[.slice none 0 0,.func (.func 226) #[] #[.pointer (some ⟨Bq,0,none⟩)]] w fun e w'=>
   ∃v,e = .returned v/\w'.ownsRow w.heap.size 9 1 v zs.length (zs.map a5i)/\Below w.heap.size w w':=by
 have h1:1<=n:=by omega
 obtain⟨i0,hi,hz0,hz1,hz2⟩:∃i,Tryz.prog.info? 9=some i/\i.zero=some (.string ⟨#[]⟩)/\i.size=1/\i.bytes=16:=by
  have hz:(Tryz.prog.info? 9).map (fun i=>(i.zero,i.size,i.bytes))=some (some (.string ⟨#[]⟩),1,16):=by kernel_rfl
  cases hi:Tryz.prog.info? 9 with
  |none=>rw[hi]at hz;cases hz
  |some i=>
   rw[hi]at hz;simp only[Option.map_some,Option.some.injEq,Prod.mk.injEq]at hz;exact⟨i,rfl,hz.1,hz.2.1,hz.2.2⟩
 have hne:65≠9:=by decide
 refine callsIn_of_wp_marks Tryz.func260 rfl trivial ?_ rfl;simp only[Tryz.ntmps260,List.size_toArray,List.length_cons,List.length_nil,Nat.reduceAdd,Nat.reduceSub,Array.replicate_succ,Array.replicate_zero,List.push_toArray,List.append_toArray,List.nil_append,List.cons_append]
 gi_wp2
 have hv0:(w.alloc (.cells #[.slice none 0 0] 65)).heap[w.heap.size]? = some (.cells #[.slice none 0 0] 65 (0,0)):=World.alloc_heap_new w _;have hB0:Below w.heap.size w (w.alloc (.cells #[.slice none 0 0] 65)):=(Below.refl _ w).alloc (Nat.le_refl _) _;refine wpIn_rangeFunc_ownG rfl h1 (gf:=226) (lb:=#[.pointer (some ⟨Bq,0,none⟩)]) rfl trivial (enters_of Tryz.func226 (by kernel_rfl) rfl)
  (b6P (n-1) (by omega) Bq w.heap.size sv zs hreach _ (by simp;omega) (by simp) ((hB0.cell (p:=⟨Bq,0,none⟩) hBq).trans hc) (hI.below hB0)) belowK_t (belowK_b (by simp)) (Below.refl _ _) (fun _=>rfl)
  (fun pre W=>(∃v,W.heap[w.heap.size]? = some (.cells #[v] 65 (0,0))/\W.ownsRow w.heap.size 9 1 v pre.length (pre.map a5i))/\Below w.heap.size w W)
  (fun _ _ _=>False)
  (OwnFrom.and (Own.from (fun s A B row hs hg hr=>by
   obtain⟨v,hv,hrow⟩:=hs;refine⟨v,(grownBy_keeps_cells hg hr hv rfl).trans hv,hrow.kept hg ?_⟩;rcases hrow.2 with⟨rfl,_⟩|⟨gb,cap,cur,rfl,_,hgb,_⟩
   ·exact .inl rfl
   ·refine .inr fun e'=>?_
    obtain⟨o,ho,hw⟩:=hr gb (by simpa [Value.ownBlock]using e'.symm);rw[hgb]at ho;cases ho;cases hw) _) (ownFrom_below (Nat.le_refl _) (by simp)))
  (fun _ _ _ _ _ hs _ _=>hs)
  ⟨⟨_,hv0,rfl,.inl ⟨rfl,rfl⟩⟩,hB0⟩
  (fun x=>{tmps:=#[.slice none 0 0,.func (.func 226) #[] #[.pointer (some ⟨Bq,0,none⟩)],.pointer (some ⟨w.heap.size,0,none⟩),undef,.slice none 0 0,a5i x,.func (.func 226) #[] #[.pointer (some ⟨Bq,0,none⟩)],a5i x,undef,undef,undef,undef,undef],defers:=[]}) ?assign ?body ?done ?stop
 case assign=>
  intro l x W K hK
  gi_wp2
  exact hK
 case body=>
  rintro l pre x W ⟨⟨v,hv,hrow⟩,hB⟩ hlen;obtain⟨hc2,hf2⟩:=cell_of_box_a hv;have hBlt:w.heap.size<W.heap.size:=(Array.getElem?_eq_some_iff.1 hv).1;have hbox:some w.heap.size≠v.ownBlock:=by
   rcases ownsRow_ne_a hrow hv (fun cur e=>hne (Obj.cells.inj e).2.1)with e|e
   ·rw[e];simp
   ·exact fun e'=>e e'.symm
  gi_wp2_with (first
   |(
     gi_at_builtin
     refine wpListIn_append_own _ rfl _ _ 65 rfl w.heap.size 9 i0 (.string ⟨#[]⟩) 1 16 Tryz.underlying65 hi hz0 hz1 hz2 rfl (by decide) v pre.length (pre.map a5i) rfl (hrow.alloc _) ⟨W.heap.size,0,none⟩ 1 1 [a5i x] rfl rfl (cell_one_new _ _ _) (by simp[Value.oneCell',a5i]) (by unfold maxLen;omega) (by omega) (by have:=hB.size;simp;omega) ?_;intro v' w3 hown' hg3 hnil3;have hv3:w3.heap[w.heap.size]? = some (.cells #[v] 65 (0,0)):=(hg3.block w.heap.size (by simp;omega) hbox).trans ((Below.heap_alloc _ _ w.heap.size hBlt).trans hv);obtain⟨hc3,hf3⟩:=cell_of_box_a hv3;obtain⟨g',cap',cur',rfl,hbase',hgb',hr1,hr2,hr3,hr4⟩:∃g' cap' cur',v' = .slice (some ⟨g',0,none⟩) (pre.length+1) cap'/\w.heap.size<=g'/\w3.heap[g']? = some (.cells cur' 9 (0,0))/\pre.length+1<=cap'/\cap'<=maxLen/\cur'.size=cap'*1/\cur'.toList.take ((pre.length+1)*1)=pre.map a5i ++ [a5i x]:=by
      rcases hown'.2 with⟨_,h0⟩|h'
      ·exact absurd h0 (by omega)
      ·exact h'
     go_frame)
   |gi_round_op_a)
  have hg3':(W.alloc (.cells #[a5i x] 9)).grownBy w3 v.ownBlock:=hg3;have hB3:Below w.heap.size W w3:=((Below.refl _ W).alloc hB.size _).grown hg3' (by have:=hB.size;simp;omega) (fun k e=>(hrow.lt k e).1);refine⟨(((KeepsOthers.alloc _ _).trans (KeepsOthers.of_grownBy hg3' (fun j o e ho=>?_))).trans (KeepsOthers.setCell _ _ _)).from _,hB3.setCell (p:=⟨w.heap.size,0,none⟩) (Nat.le_refl _) _,⟨_,heap_setCell_box_a _ hv3,?_⟩,(hB.trans hB3).setCell (p:=⟨w.heap.size,0,none⟩) (Nat.le_refl _) _⟩
  ·rcases(hrow.alloc (.cells #[a5i x] 9)).2 with⟨rfl,_⟩|⟨gb,cap,cur,rfl,_,hgb,_⟩
   ·cases e
   ·have:gb=j:=by simpa [Value.ownBlock]using e
    subst this;rw[hgb]at ho;cases ho;rfl
  ·have:=hown'.kept (grownBy_setCell0_a w3 w.heap.size (.slice (some ⟨g',0,none⟩) (pre.length+1) cap')) (ownsRow_ne_a hown' hv3 (fun cur e=>hne (Obj.cells.inj e).2.1));simpa using this
 case done=>
  rintro D ys W hD rfl ⟨⟨v,hv,hrow⟩,hB⟩ hK;obtain⟨hc2,hf2⟩:=cell_of_box_a hv
  gi_wp2
  refine⟨by simp,.inl ⟨_,_,rfl,run_takeDeferred hK,?_⟩⟩;exact⟨_,results_tmp rfl _ _ _,v,rfl,hrow.kept (grownBy_putObj' W D (.deferred none)) (ownsRow_ne_a hrow hK (fun cur e=>by cases e)),hB.trans (belowK_b (w:=w) (Nat.le_refl _) W D _ _ (by simp at hD;omega) hK rfl rfl)⟩
 case stop=>
  rintro D c pre W _ _ h _;exact h.elim
def P6(l:List d7):Option (List d7×List d7):=if l.length*16<=140737488351232 then some (l,l)else none
set_option maxHeartbeats 1000000 in
theorem d0B:Sound Tryz.prog GW x9 260 ⟨[.nilS,.fnc 226 [0]],[.cells [.v N3]],[.row 1],[.cells [.v N3],.row 9 .str true],List d7×List d7,fun z=>(((),()),(z.1,()),z.2,()),fun _ y=>P6 y.1.1⟩:=by
 refine Sound.ofMade Tryz.call260 rfl fun M w g vs x y z hG hB hF hz=>?_
 obtain⟨⟨l,_⟩,_⟩:=y;change P6 l=some z at hz;unfold P6 at hz;split at hz
 case isFalse=>cases hz
 rename_i hc;obtain rfl:=Option.some.inj hz
 match vs,hF.args with
 |[v0,v],⟨hv0,⟨h0,_⟩⟩=>
  have hv0':v0 = .slice none 0 0:=hv0;subst hv0';obtain⟨cv,rfl,hcs⟩:=h0;obtain⟨g1,hg1,hr1⟩:=hF.res 0 (.cells [.v N3 l]) rfl;have hr1':=hr1;obtain⟨bm,vs1,el,e1,hb1,ha1⟩:=hr1;have hcv:cv.toList=[O0 bm]:=by
   match cv.toList,hcs with
   |[u],⟨⟨gy,by_,hgy,hv,hu⟩,_⟩=>
    have:g 0=some gy:=hgy;rw[hg1]at this;cases this;rw[e1]at hv;rw[hu,<-hv]
  have hcv2:cv = #[O0 bm]:=by rw[<-Array.toArray_toList (xs:=cv),hcv]
  subst hcv2;obtain⟨sv,hvs1,hrep⟩:∃sv,vs1 = #[sv]/\RepV M w N3 l sv:=by
   have e2:vs1=vs1.toList.toArray:=(Array.toArray_toList (xs:=vs1)).symm
   match hl:vs1.toList,ha1 with
   |[u],ha1=>
    rw[hl]at e2;exact⟨u,e2,ha1.1⟩
  subst hvs1;obtain⟨A,c,rfl,hc1,hc2,hcell⟩:=RepV.strs hrep;have hbl:bm<w.heap.size:=A4 hb1;have hcell0:w.cell? ⟨bm,0,none⟩=some (.slice A l.length c):=by unfold World.cell?;rw[hb1];rfl
  have hI:StrsAt w.heap.size w (.slice A l.length c) l:=by
   rcases Classical.em (l=[])with hl|hl
   ·subst hl;exact .inl ⟨A,c,rfl,rfl⟩
   ·obtain⟨bk,o,rfl,hce⟩:=hcell hl;refine .inr ⟨bk,o,c,rfl,?_,fun j hj=>?_⟩
    ·cases l with
     |nil=>exact absurd rfl hl
     |cons x r=>exact World.block_lt_of_cell? w _ (hce 0 x rfl)
    ·have hj2:l[j]? = some (l[j]?.getD []):=by rw[List.getElem?_eq_getElem hj];rfl
     exact hce j _ hj2
  refine((callsIn_wide (n:=5)).1 (b06 5 (by omega) bm _ l hc w hbl hcell0 hI)).mono fun e w' hp=>?_
  obtain⟨v',rfl,hrow,hbel⟩:=hp;have hE:Ext w w':=⟨hbel.os,hbel.tape,hbel.output,hbel.size,fun k hk=>hbel.block k hk⟩;have hrow:w'.ownsRow w.heap.size 9 1 v' l.length (l.map a5i):=hrow;obtain⟨A',c',hv',_⟩:=Row.of_own' hrow;refine⟨[v'],⟨v'.ownBlock,0,v'⟩,rfl,hE,fun b' hb=>?_,fun M' g' hgo hgn hst=>⟨⟨⟨_,A',_,c',hgn,rfl,hv'⟩,trivial⟩,fun r blk hr=>?_⟩⟩
  ·rcases hrow.2 with⟨e3,_⟩|⟨g3,cap,cur,e3,hb3,hg3,_⟩
   ·rw[e3]at hb;cases hb
   ·rw[e3]at hb;simp only[Value.ownBlock,Option.some.injEq]at hb;subst hb;exact⟨hb3,A4 hg3,fun h=>absurd h (Nat.lt_irrefl 0)⟩
  ·match r,hr with
   |0,hr=>
    obtain rfl:Blk.cells [.v N3 l]=blk:=Option.some.inj hr;obtain⟨b5,vs5,el5,e5,h5,ha5⟩:=hr1';exact⟨g1,hgo _ _ hg1,b5,vs5,el5,e5,(hE.block b5 (A4 h5)).trans h5,ha5.mono fun d v hd=>hd.sameV hst fun r x hr=>⟨x,hgo r x hr,rfl⟩⟩
   |1,hr=>
    obtain rfl:Blk.row 9 .str true l=blk:=Option.some.inj hr;exact⟨_,hgn,by decide,_,ownsRow_base_a hrow (Nat.zero_le _),rfl,rfl,b6C _⟩
   |2,hr=>cases hr
   |r+3,hr=>cases hr
end
noncomputable section
abbrev d5L:=sgM [.v N3,.v .str] [] [.v .str] [] (d7) fun z=>((z,()),())
noncomputable abbrev c7n:AF:=d5L fun x _=>strings_Join x.1 x.2.1
abbrev d4G(f:SV [.v .str,.v .str]->BV []->Option τ20):AF:={ps:=[.v .str,.v .str],bs:=[],rs:=[.v N3],cs:=[],R:=List d7,out:=fun z=>((z,()),()),f:=f}
abbrev d4y:=sgM [.v .str,.v .u8] [] [.v τ2] [] (Int) fun z=>((z,()),())
abbrev d5M:=sgM [] [] [.v .bool] [] (Bool) fun z=>((z,()),())
abbrev d8D(f:SV [.box 0 0]->BV [.cells [.v (.sl τ1),.v τ2,.v τ2]]->Option (Except Int τ14)):PF:={ps:=[.box 0 0],bs:=[.cells [.v (.sl τ1),.v τ2,.v τ2]],rs:=[],cs:=[.cells [.v (.sl τ1),.v τ2,.v τ2]],R:=List τ0×Int×Int,out:=fun z=>((),(z.1,z.2.1,z.2.2,()),()),f:=f}
abbrev d8Z:=sgM [.nilS,.fnc 226 [0]] [.cells [.v N3]] [.row 1] [.cells [.v N3],.row 9 .str true] (List d7×List d7) fun z=>(((),()),(z.1,()),z.2,())
abbrev d7I(f:SV [.row 0]->BV [.row 9 .str true]->Option τ20):AF:={ps:=[.row 0],bs:=[.row 9 .str true],rs:=[],cs:=[.row 9 .str true,.none],R:=List d7,out:=fun z=>((),z,(),()),f:=f}
abbrev e0F(f:SV [.row 0]->BV [.row 9 .str true]->Option τ20):AF:={ps:=[.row 0],bs:=[.row 9 .str true],rs:=[.row 0],cs:=[.row 9 .str true],R:=List d7,out:=fun z=>(((),()),z,()),f:=f}
abbrev d4r:=sgM [.box 0 0] [.cells [.v (.sl τ1),.v τ2,.v τ2]] [.v τ5,.v τ2,.v .bool] [.cells [.dead,.dead,.v τ2]] (List GStmt×Int×Bool×Int) fun z=>((z.1,z.2.1,z.2.2.1,()),((),(),z.2.2.2,()),())
abbrev d4n:=sgM [.box 0 0] [.cells [.v (.sl τ1),.v τ2,.v τ2]] [.nilS,.v τ2,.v .bool] [.none] (Int×Bool) fun z=>(((),z.1,z.2,()),(),())
abbrev d4F:=sgM [.v .str] [] [.v .str] [] (d7) fun z=>((z,()),())
abbrev d5K:=sgM [.v τ2] [] [.v .str] [] (d7) fun z=>((z,()),())
abbrev d89:=sgM [.v .str,.v τ2] [] [.v .str] [] (d7) fun z=>((z,()),())
abbrev d80:=sgM [.box 0 0,.v .str] [.bld 88 [.row 1],.row 5 .u8 true] [.v τ2,.dead] [.bld 88 [.row 1],.row 5 .u8 true] (Int×List UInt8) fun z=>((z.1,(),()),((),()),z.2,())
abbrev d9a:=sgM [.v τ5] [] [.v .str,.v τ2] [] (d7×Int) fun z=>((z.1,z.2,()),())
theorem c0A:TyOk Tryz.prog 1 (.clo 0 .un):=⟨_,by kernel_rfl,Tryz.underlying1,rfl⟩
theorem D0:TyOk Tryz.prog 3 τ2:=⟨_,by kernel_rfl,Tryz.underlying3,rfl⟩
theorem K7:TyOk Tryz.prog 4 .bool:=⟨_,by kernel_rfl,Tryz.underlying4,rfl⟩
theorem a2v:TyOk Tryz.prog 5 .u8:=⟨_,by kernel_rfl,Tryz.underlying5,rfl⟩
theorem q8:TyOk Tryz.prog 9 .str:=⟨_,by kernel_rfl,Tryz.underlying9,rfl⟩
theorem Z7:TyOk Tryz.prog 22 (.sl τ1):=⟨_,by kernel_rfl,Tryz.underlying22,rfl⟩
theorem G9:TyOk Tryz.prog 30 τ5:=⟨_,by kernel_rfl,Tryz.underlying30,rfl⟩
theorem a1V:TyOk Tryz.prog 40 (.pr .str (.pr τ2 (.sl τ1))):=⟨_,by kernel_rfl,Tryz.underlying40,rfl⟩
theorem a0g:TyOk Tryz.prog 42 τ1:=⟨_,by kernel_rfl,Tryz.underlying42,rfl⟩
theorem a6z:TyOk Tryz.prog 59 (.np (.pr (.sl τ1) (.pr τ2 τ2))):=⟨_,by kernel_rfl,Tryz.underlying59,rfl⟩
theorem a1J:TyOk Tryz.prog 61 (.pr (.sl τ1) (.pr τ2 τ2)):=⟨_,by kernel_rfl,Tryz.underlying61,rfl⟩
theorem M6:TyOk Tryz.prog 65 N3:=⟨_,by kernel_rfl,Tryz.underlying65,rfl⟩
theorem Y6:TyOk Tryz.prog 66 (.sl X7):=⟨_,by kernel_rfl,Tryz.underlying66,rfl⟩
theorem V6:TyOk Tryz.prog 67 (.sl τ3):=⟨_,by kernel_rfl,Tryz.underlying67,rfl⟩
theorem x5:TyOk Tryz.prog 69 τ3:=⟨_,by kernel_rfl,Tryz.underlying69,rfl⟩
theorem C4:TyOk Tryz.prog 71 τ17:=⟨_,by kernel_rfl,Tryz.underlying71,rfl⟩
theorem K1:TyOk Tryz.prog 75 X7:=⟨_,by kernel_rfl,Tryz.underlying75,rfl⟩
theorem Z9:TyOk Tryz.prog 77 (.sl (.pr τ2 τ2)):=⟨_,by kernel_rfl,Tryz.underlying77,rfl⟩
theorem a0h:TyOk Tryz.prog 79 (.pr (.sl τ1) (.pr τ2 (.pr τ2 (.pr .bool (.pr τ2 (.sl (.pr τ2 τ2))))))):=⟨_,by kernel_rfl,Tryz.underlying79,rfl⟩
theorem Q8:TyOk Tryz.prog 82 (.pr τ2 τ2):=⟨_,by kernel_rfl,Tryz.underlying82,rfl⟩
theorem a1A:TyOk Tryz.prog 86 (.pr (.np .un) (.sl .u8)):=⟨_,by kernel_rfl,Tryz.underlying86,rfl⟩
theorem a6y:TyOk Tryz.prog 144 (.np τ17):=⟨_,by kernel_rfl,Tryz.underlying144,rfl⟩
theorem a1I:TyOk Tryz.prog 146 τ26:=⟨_,by kernel_rfl,Tryz.underlying146,rfl⟩
theorem a2s:TyOk Tryz.prog 199 (.sl (.rc .part)):=⟨_,by kernel_rfl,Tryz.underlying199,rfl⟩
theorem Z0:TyOk Tryz.prog 201 (.rc .part):=⟨_,by kernel_rfl,Tryz.underlying201,rfl⟩
def tyT:TypeId->Option Ty:=fun T=>
 match T with
 |1=>some (.clo 0 .un)
 |3=>some τ2
 |4=>some .bool
 |5=>some .u8
 |9=>some .str
 |22=>some (.sl τ1)
 |30=>some τ5
 |40=>some (.pr .str (.pr τ2 (.sl τ1)))
 |42=>some τ1
 |59=>some (.np (.pr (.sl τ1) (.pr τ2 τ2)))
 |61=>some (.pr (.sl τ1) (.pr τ2 τ2))
 |65=>some N3
 |66=>some (.sl X7)
 |67=>some (.sl τ3)
 |69=>some τ3
 |71=>some τ17
 |75=>some X7
 |77=>some (.sl (.pr τ2 τ2))
 |79=>some (.pr (.sl τ1) (.pr τ2 (.pr τ2 (.pr .bool (.pr τ2 (.sl (.pr τ2 τ2)))))))
 |82=>some (.pr τ2 τ2)
 |86=>some (.pr (.np .un) (.sl .u8))
 |144=>some (.np τ17)
 |146=>some τ26
 |199=>some (.sl (.rc .part))
 |201=>some (.rc .part)
 |_=>none
theorem b6N:∀T t,tyT T=some t->TyOk Tryz.prog T t:=by
 intro T t h;unfold tyT at h;split at h
 ·cases h;exact c0A
 ·cases h;exact D0
 ·cases h;exact K7
 ·cases h;exact a2v
 ·cases h;exact q8
 ·cases h;exact Z7
 ·cases h;exact G9
 ·cases h;exact a1V
 ·cases h;exact a0g
 ·cases h;exact a6z
 ·cases h;exact a1J
 ·cases h;exact M6
 ·cases h;exact Y6
 ·cases h;exact V6
 ·cases h;exact x5
 ·cases h;exact C4
 ·cases h;exact K1
 ·cases h;exact Z9
 ·cases h;exact a0h
 ·cases h;exact Q8
 ·cases h;exact a1A
 ·cases h;exact a6y
 ·cases h;exact a1I
 ·cases h;exact a2s
 ·cases h;exact Z0
 ·cases h
def elT:TypeId->Option (TypeId×Ty):=fun T=>
 match T with
 |22=>some (42,τ1)
 |30=>some (71,τ17)
 |65=>some (9,.str)
 |66=>some (75,X7)
 |67=>some (69,τ3)
 |77=>some (82,(.pr τ2 τ2))
 |84=>some (5,.u8)
 |199=>some (201,(.rc .part))
 |_=>none
theorem b5Z:∀T e t,elT T=some (e,t)->ElOk Tryz.prog T e t:=by
 intro T e t h;unfold elT at h;split at h
 ·cases h;exact⟨a0g,40,ElemT.mk_ Tryz.underlying22 (z:=mkV τ1 (H7 τ1)) (by kernel_rfl) rfl (by decide) (by decide),by decide⟩
 ·cases h;exact⟨C4,224,ElemT.mk_ Tryz.underlying30 (z:=mkV τ17 (H7 τ17)) (by kernel_rfl) rfl (by decide) (by decide),by decide⟩
 ·cases h;exact⟨q8,16,ElemT.mk_ Tryz.underlying65 (z:=mkV .str (H7 .str)) (by kernel_rfl) rfl (by decide) (by decide),by decide⟩
 ·cases h;exact⟨K1,96,ElemT.mk_ Tryz.underlying66 (z:=mkV X7 (H7 X7)) (by kernel_rfl) rfl (by decide) (by decide),by decide⟩
 ·cases h;exact⟨x5,80,ElemT.mk_ Tryz.underlying67 (z:=mkV τ3 (H7 τ3)) (by kernel_rfl) rfl (by decide) (by decide),by decide⟩
 ·cases h;exact⟨Q8,16,ElemT.mk_ Tryz.underlying77 (z:=mkV (.pr τ2 τ2) (H7 (.pr τ2 τ2))) (by kernel_rfl) rfl (by decide) (by decide),by decide⟩
 ·cases h;exact⟨a2v,1,ElemT.mk_ Tryz.underlying84 (z:=mkV .u8 (H7 .u8)) (by kernel_rfl) rfl (by decide) (by decide),by decide⟩
 ·cases h;exact⟨Z0,112,ElemT.mk_ Tryz.underlying199 (z:=mkV (.rc .part) (H7 (.rc .part))) (by kernel_rfl) rfl (by decide) (by decide),by decide⟩
 ·cases h
def b9Y:TypeId->Nat->Option (Nat×Ty):=fun T f=>
 match T,f with
 |40,0=>some (0,.str)
 |40,1=>some (1,τ2)
 |40,2=>some (2,(.sl τ1))
 |42,0=>some (0,τ2)
 |42,1=>some (1,.str)
 |42,2=>some (2,τ2)
 |42,3=>some (3,τ2)
 |61,0=>some (0,(.sl τ1))
 |61,1=>some (1,τ2)
 |61,2=>some (2,τ2)
 |69,0=>some (0,τ2)
 |69,1=>some (1,.str)
 |69,2=>some (2,τ2)
 |69,3=>some (3,N3)
 |69,4=>some (4,(.sl τ3))
 |71,0=>some (0,τ2)
 |71,1=>some (1,.str)
 |71,2=>some (2,.str)
 |71,3=>some (3,N3)
 |71,4=>some (4,(.sl X7))
 |71,5=>some (5,τ3)
 |71,6=>some (10,τ5)
 |71,7=>some (11,τ5)
 |71,8=>some (12,τ2)
 |75,0=>some (0,.str)
 |75,1=>some (1,τ3)
 |79,0=>some (0,(.sl τ1))
 |79,1=>some (1,τ2)
 |79,2=>some (2,τ2)
 |79,3=>some (3,.bool)
 |79,4=>some (4,τ2)
 |79,5=>some (5,(.sl (.pr τ2 τ2)))
 |82,0=>some (0,τ2)
 |82,1=>some (1,τ2)
 |88,0=>some (0,(.pr (.np .un) (.sl .u8)))
 |146,0=>some (0,.bool)
 |146,1=>some (1,.bool)
 |146,2=>some (2,.bool)
 |146,3=>some (3,.bool)
 |146,4=>some (4,.bool)
 |146,5=>some (5,.bool)
 |146,6=>some (6,.bool)
 |201,0=>some (0,(.pr τ2 (.pr .str (.pr τ2 (.pr N3 .nl)))))
 |201,1=>some (5,τ2)
 |201,2=>some (6,(.sl (.rc .part)))
 |_,_=>none
theorem b0A:∀T f off t,b9Y T f=some (off,t)->b6Y Tryz.prog T f off t:=by
 intro T f off t h;unfold b9Y at h;split at h
 ·cases h;exact⟨_,_,Tryz.underlying40,rfl,rfl,q8,by decide⟩
 ·cases h;exact⟨_,_,Tryz.underlying40,rfl,rfl,D0,by decide⟩
 ·cases h;exact⟨_,_,Tryz.underlying40,rfl,rfl,Z7,by decide⟩
 ·cases h;exact⟨_,_,Tryz.underlying42,rfl,rfl,D0,by decide⟩
 ·cases h;exact⟨_,_,Tryz.underlying42,rfl,rfl,q8,by decide⟩
 ·cases h;exact⟨_,_,Tryz.underlying42,rfl,rfl,D0,by decide⟩
 ·cases h;exact⟨_,_,Tryz.underlying42,rfl,rfl,D0,by decide⟩
 ·cases h;exact⟨_,_,Tryz.underlying61,rfl,rfl,Z7,by decide⟩
 ·cases h;exact⟨_,_,Tryz.underlying61,rfl,rfl,D0,by decide⟩
 ·cases h;exact⟨_,_,Tryz.underlying61,rfl,rfl,D0,by decide⟩
 ·cases h;exact⟨_,_,Tryz.underlying69,rfl,rfl,D0,by decide⟩
 ·cases h;exact⟨_,_,Tryz.underlying69,rfl,rfl,q8,by decide⟩
 ·cases h;exact⟨_,_,Tryz.underlying69,rfl,rfl,D0,by decide⟩
 ·cases h;exact⟨_,_,Tryz.underlying69,rfl,rfl,M6,by decide⟩
 ·cases h;exact⟨_,_,Tryz.underlying69,rfl,rfl,V6,by decide⟩
 ·cases h;exact⟨_,_,Tryz.underlying71,rfl,rfl,D0,by decide⟩
 ·cases h;exact⟨_,_,Tryz.underlying71,rfl,rfl,q8,by decide⟩
 ·cases h;exact⟨_,_,Tryz.underlying71,rfl,rfl,q8,by decide⟩
 ·cases h;exact⟨_,_,Tryz.underlying71,rfl,rfl,M6,by decide⟩
 ·cases h;exact⟨_,_,Tryz.underlying71,rfl,rfl,Y6,by decide⟩
 ·cases h;exact⟨_,_,Tryz.underlying71,rfl,rfl,x5,by decide⟩
 ·cases h;exact⟨_,_,Tryz.underlying71,rfl,rfl,G9,by decide⟩
 ·cases h;exact⟨_,_,Tryz.underlying71,rfl,rfl,G9,by decide⟩
 ·cases h;exact⟨_,_,Tryz.underlying71,rfl,rfl,D0,by decide⟩
 ·cases h;exact⟨_,_,Tryz.underlying75,rfl,rfl,q8,by decide⟩
 ·cases h;exact⟨_,_,Tryz.underlying75,rfl,rfl,x5,by decide⟩
 ·cases h;exact⟨_,_,Tryz.underlying79,rfl,rfl,Z7,by decide⟩
 ·cases h;exact⟨_,_,Tryz.underlying79,rfl,rfl,D0,by decide⟩
 ·cases h;exact⟨_,_,Tryz.underlying79,rfl,rfl,D0,by decide⟩
 ·cases h;exact⟨_,_,Tryz.underlying79,rfl,rfl,K7,by decide⟩
 ·cases h;exact⟨_,_,Tryz.underlying79,rfl,rfl,D0,by decide⟩
 ·cases h;exact⟨_,_,Tryz.underlying79,rfl,rfl,Z9,by decide⟩
 ·cases h;exact⟨_,_,Tryz.underlying82,rfl,rfl,D0,by decide⟩
 ·cases h;exact⟨_,_,Tryz.underlying82,rfl,rfl,D0,by decide⟩
 ·cases h;exact⟨_,_,Tryz.underlying88,rfl,rfl,a1A,by decide⟩
 ·cases h;exact⟨_,_,Tryz.underlying146,rfl,rfl,K7,by decide⟩
 ·cases h;exact⟨_,_,Tryz.underlying146,rfl,rfl,K7,by decide⟩
 ·cases h;exact⟨_,_,Tryz.underlying146,rfl,rfl,K7,by decide⟩
 ·cases h;exact⟨_,_,Tryz.underlying146,rfl,rfl,K7,by decide⟩
 ·cases h;exact⟨_,_,Tryz.underlying146,rfl,rfl,K7,by decide⟩
 ·cases h;exact⟨_,_,Tryz.underlying146,rfl,rfl,K7,by decide⟩
 ·cases h;exact⟨_,_,Tryz.underlying146,rfl,rfl,K7,by decide⟩
 ·cases h;exact⟨_,_,Tryz.underlying201,rfl,rfl,(show TyOk Tryz.prog 69 (.pr τ2 (.pr .str (.pr τ2 (.pr N3 .nl))))from⟨_,by kernel_rfl,Tryz.underlying69,rfl⟩),by decide⟩
 ·cases h;exact⟨_,_,Tryz.underlying201,rfl,rfl,D0,by decide⟩
 ·cases h;exact⟨_,_,Tryz.underlying201,rfl,rfl,a2s,by decide⟩
 ·cases h
theorem b6b:∀T e,tyT T=some (.mp e)->d4M Tryz.prog T e:=by
 intro T e h;unfold tyT at h;split at h
 iterate 26(cases h)
theorem b0x:∀T t,tyT T=some t->t.isAgg=true->∃fs places,Tryz.prog.underlying T=some (.struct fs)/\fs.toList.mapM (fun f=>(Tryz.prog.info? f.type).map fun i=>(f.offset,i.size))=some places:=by
 intro T t h ha;unfold tyT at h;split at h
 iterate 7(cases h;cases ha)
 ·exact⟨_,[(0,1),(1,1),(2,1)],Tryz.underlying40,by kernel_rfl⟩
 ·exact⟨_,[(0,1),(1,1),(2,1),(3,1)],Tryz.underlying42,by kernel_rfl⟩
 ·cases h;cases ha
 ·exact⟨_,[(0,1),(1,1),(2,1)],Tryz.underlying61,by kernel_rfl⟩
 iterate 3(cases h;cases ha)
 ·exact⟨_,[(0,1),(1,1),(2,1),(3,1),(4,1)],Tryz.underlying69,by kernel_rfl⟩
 ·exact⟨_,[(0,1),(1,1),(2,1),(3,1),(4,1),(5,5),(10,1),(11,1),(12,1)],Tryz.underlying71,by kernel_rfl⟩
 ·exact⟨_,[(0,1),(1,5)],Tryz.underlying75,by kernel_rfl⟩
 ·cases h;cases ha
 ·exact⟨_,[(0,1),(1,1),(2,1),(3,1),(4,1),(5,1)],Tryz.underlying79,by kernel_rfl⟩
 ·exact⟨_,[(0,1),(1,1)],Tryz.underlying82,by kernel_rfl⟩
 ·exact⟨_,[(0,1),(1,1)],Tryz.underlying86,by kernel_rfl⟩
 ·cases h;cases ha
 ·exact⟨_,[(0,1),(1,1),(2,1),(3,1),(4,1),(5,1),(6,1)],Tryz.underlying146,by kernel_rfl⟩
 ·cases h;cases ha
 ·exact⟨_,[(0,5),(5,1),(6,1)],Tryz.underlying201,by kernel_rfl⟩
 ·cases h
theorem b6k:∀T t,tyT T=some t->a3f t=true->(Tryz.prog.info? (Tryz.prog.pointee T)).isSome=true:=by
 intro T t h ha;unfold tyT at h;split at h
 iterate 9(cases h;cases ha)
 ·kernel_rfl
 iterate 11(cases h;cases ha)
 ·kernel_rfl
 iterate 3(cases h;cases ha)
 ·cases h
def b9N:TypeId->Option Ty:=fun T=>
 match T with
 |_=>none
theorem b0y:∀T t,b9N T=some t->CmpOk Tryz.prog T t:=by
 intro T t h;unfold b9N at h;split at h
 ·cases h
def mkE(h:Nat->Hint)(fn:FuncId->Option Tmp->Option AF)(exq:Nat->Bool)(live:FuncId->Bool):Env:={ty:=tyT,el:=elT,fld:=b9Y,cmp:=b9N,fn:=fn,hint:=h,exq:=exq,live:=live,raw:=true}
theorem O3(hh:Nat->Hint)(fn:FuncId->Option Tmp->Option AF)(exq:Nat->Bool)(live:FuncId->Bool)(h:∀f q F,fn f q=some F->Sound Tryz.prog GW x9 f F):EnvOk Tryz.prog GW x9 (mkE hh fn exq live):=
 {ty:=b6N,el:=b5Z,fld:=b0A,mp:=b6b,bld:=b0x,ptr:=b6k,cmp:=b0y,fn:=h,stable:=a10,mixed:=by kernel_rfl}
abbrev B2:TypeId:=115
def a08(h:Nat->Hint)(fn:FuncId->Option Tmp->Option AF)(pf:FuncId->Option Tmp->Option PF)(exq:Nat->Bool)(live:FuncId->Bool):Env:={mkE h fn exq live with pf:=pf,bad:=B2}
theorem H9(hh:Nat->Hint)(fn:FuncId->Option Tmp->Option AF)(pf:FuncId->Option Tmp->Option PF)(exq:Nat->Bool)(live:FuncId->Bool)(h:∀f q F,fn f q=some F->Sound Tryz.prog GW x9 f F)(hp:∀f q F,pf f q=some F->SoundP Tryz.prog GW x9 B2 f F):EnvOk Tryz.prog GW x9 (a08 hh fn pf exq live):=
 {ty:=b6N,el:=b5Z,fld:=b0A,mp:=b6b,bld:=b0x,ptr:=b6k,cmp:=b0y,fn:=h,stable:=a10,mixed:=by kernel_rfl,pf:=hp}
end
section
abbrev FF:Nat->Bool:=fun _=>false
abbrev y5:Hint:=⟨[],[],[],[],[],[]⟩
abbrev X8(fn:FuncId->Option Tmp->Option AF):Prop:=∀f q F,fn f q=some F->Sound Tryz.prog GW x9 f F
abbrev Snd:FuncId->AF->Prop:=Sound Tryz.prog GW x9
theorem a9J{h:Nat->Hint}{fn:FuncId->Option Tmp->Option AF}(ok:X8 fn){f:FuncId}{g:Func}{c:Code}(hf:Tryz.prog.funcs[f]? = some g)(hb:g.body=some c)
  (hcall:∀(args:Array Value) (w:World),(callFunc f args).run Tryz.prog w = .ok (.enter f args) w) (F:AF) (pk:SV F.rs->BV F.cs->F.R) (hpk:∀x y,F.out (pk x y)=(x,y)) (N:Nat)
  (LP:Nat->Code->St->(Ex->St->Option F.R)->Option F.R) (hl:LoopsOk LP (mkE h fn FF FF) N (L9 (mkE h fn FF FF) g F pk) (loops (B3 g) 0))
  (core:∀x y,V4 (mkE h fn FF FF) g F pk LP x y=F.f x y) (hkp:a1p F.bs F.cs=false:=by rfl):Snd f F:=
 a7c (O3 h fn _ _ ok) hf hb hcall F pk hpk N (fun x y _ e=>((a7R (mkE h fn FF FF) N g F pk LP hl x y).trans (core x y)).trans e) hkp
end
section
def lkF:List (Nat×AF)->Nat->Option AF | [],_=>none|(a,F) :: l,f=>bif Nat.beq f a then some F else lkF l f
def c4j:List (Nat×AF)->Prop | []=>True|(a,F) :: l=>Snd a F/\c4j l
theorem L3{a:Nat}{F:AF}{l:List (Nat×AF)}(h:Snd a F)(t:c4j l):c4j ((a,F) :: l):=⟨h,t⟩
theorem T8:c4j []:=trivial
theorem B9:∀{l:List (Nat×AF)} {f:Nat} {F:AF},lkF l f=some F->c4j l->Snd f F
 |[],_,_,h,_=>by cases h
 |(a,G) :: l,f,F,h,t=>by
  unfold lkF at h;cases hb:Nat.beq f a with
  |true=>
   rw[hb]at h;cases h;have:=Nat.eq_of_beq_eq_true hb;subst this;exact t.1
  |false=>
   rw[hb]at h;exact B9 h t.2
theorem b2f{E:Env}(hE:EnvOk Tryz.prog GW x9 E){f:FuncId}{g:Func}{c:Code}(hf:Tryz.prog.funcs[f]? = some g)(hb:g.body=some c)
  (hcall:∀(args:Array Value) (w:World),(callFunc f args).run Tryz.prog w = .ok (.enter f args) w) (F:AF) (pk:SV F.rs->BV F.cs->F.R) (hpk:∀x y,F.out (pk x y)=(x,y)) (N:Nat)
  (LP:Nat->Code->St->(Ex->St->Option F.R)->Option F.R) (hl:LoopsOk LP E N (L9 E g F pk) (loops (B3 g) 0))
  (core:∀x y,V4 E g F pk LP x y=F.f x y) (hkp:a1p F.bs F.cs=false:=by rfl):Snd f F:=
 a7c hE hf hb hcall F pk hpk N (fun x y _ e=>((a7R E N g F pk LP hl x y).trans (core x y)).trans e) hkp
def h0:Nat->Hint:=fun _=>y5
abbrev Z1{R:Type}[BothC R](LP:Nat->Code->St->(Ex->St->Option R)->Option R)(E:Env)(N:Nat)(RES:St->Option R)(i:Nat)(c:Code):Prop:=∀st k,(∀st,k .ret st=RES st)->LP i c st k=iter (E.hint i) (o7 E N c i) N st k
def LPn{R:Type}:Nat->Code->St->(Ex->St->Option R)->Option R:=fun _ _ _ _=>none
theorem a6K(E:Env)(hE:EnvOk Tryz.prog GW x9 E){f:FuncId}{g:Func}{c:Code}(hf:Tryz.prog.funcs[f]? = some g)(hb:g.body=some c)
  (hcall:∀(args:Array Value) (w:World),(callFunc f args).run Tryz.prog w = .ok (.enter f args) w) (F:AF) (pk:SV F.rs->BV F.cs->F.R) (hpk:∀x y,F.out (pk x y)=(x,y)) (N:Nat)
  (core:∀x y,V4 E g F pk LPn x y=F.f x y) (hl:loops (B3 g) 0=[]) (hkp:a1p F.bs F.cs=false:=by rfl):Snd f F:=
 a7c hE hf hb hcall F pk hpk N (fun x y _ e=>((a7R E N g F pk LPn (by rw[hl];exact trivial) x y).trans (core x y)).trans e) hkp
theorem b2g(E:Env)(hE:EnvOk Tryz.prog GW x9 E){f:FuncId}{g:Func}{c:Code}(hf:Tryz.prog.funcs[f]? = some g)(hb:g.body=some c)
  (hcall:∀(args:Array Value) (w:World),(callFunc f args).run Tryz.prog w = .ok (.enter f args) w) (p:PF) (pk:SV p.rs->BV p.cs->p.R) (hpk:∀x y,p.out (pk x y)=(x,y)) (N:Nat)
  (LP:Nat->Code->St->(Ex->St->Option (PF.tf p).R)->Option (PF.tf p).R) (hl:LoopsOk LP E N (L9 E g (PF.tf p) (fun x y=> .ok (pk x y))) (loops (B3 g) 0))
  (core:∀x y,V4 E g (PF.tf p) (fun x y=> .ok (pk x y)) LP x y=p.f x y) (hkp:a1p p.bs p.cs=false:=by rfl):SoundP Tryz.prog GW x9 E.bad f p:=
 c0r hE hf hb hcall p pk hpk N (fun x y _ e=>((a7R E N g (PF.tf p) _ LP hl x y).trans (core x y)).trans e) hkp
theorem a0V(E:Env)(hE:EnvOk Tryz.prog GW x9 E){f:FuncId}{g:Func}{c:Code}(hf:Tryz.prog.funcs[f]? = some g)(hb:g.body=some c)
  (hcall:∀(args:Array Value) (w:World),(callFunc f args).run Tryz.prog w = .ok (.enter f args) w) (p:PF) (pk:SV p.rs->BV p.cs->p.R) (hpk:∀x y,p.out (pk x y)=(x,y)) (N:Nat)
  (core:∀x y,V4 E g (PF.tf p) (fun x y=> .ok (pk x y)) LPn x y=p.f x y) (hl:loops (B3 g) 0=[]) (hkp:a1p p.bs p.cs=false:=by rfl):SoundP Tryz.prog GW x9 E.bad f p:=
 b2g E hE hf hb hcall p pk hpk N LPn (by rw[hl];exact trivial) core hkp
theorem a2o(h:Nat->Hint)(l:List (Nat×AF))(ok:c4j l){f:FuncId}{g:Func}{c:Code}(hf:Tryz.prog.funcs[f]? = some g)(hb:g.body=some c)
  (hcall:∀(args:Array Value) (w:World),(callFunc f args).run Tryz.prog w = .ok (.enter f args) w) (F:AF) (pk:SV F.rs->BV F.cs->F.R) (hpk:∀x y,F.out (pk x y)=(x,y)) (N:Nat)
  (core:∀x y,V4 (mkE h (fun f _=>lkF l f) FF FF) g F pk LPn x y=F.f x y) (hl:loops (B3 g) 0=[]) (hkp:a1p F.bs F.cs=false:=by rfl):Snd f F:=
 a9J (fun _ _ _ h=>B9 h ok) hf hb hcall F pk hpk N LPn (by rw[hl];exact trivial) core hkp
end
noncomputable section
noncomputable section
def P5(_N:Nat)(y0_0:List τ0)(y0_1:Int)(y0_2:Int):Option (Int×List τ0×Int×Int):=br ((y0_0.length:Int)==(0:Int)) (some (y0_1,y0_0,y0_1,y0_2)) (j8 (m6 y0_0 (0:Int)) fun t17=>some (t17.2.2.2,y0_0,y0_1,y0_2))
abbrev d8X:=sgM [.box 0 0] [.cells [.v (.sl τ1),.v τ2,.v τ2]] [.v τ2] [.cells [.v (.sl τ1),.v τ2,.v τ2]] (Int×List τ0×Int×Int) fun z=>((z.1,()),(z.2.1,z.2.2.1,z.2.2.2,()),())
abbrev d3t(N:Nat):AF:=d8X fun _ y=>P5 N y.1.1 y.1.2.1 y.1.2.2.1
theorem b3F(N:Nat):Snd 72 (d3t N):=
 a2o h0 [] T8 Tryz.func72 rfl Tryz.call72 (d3t N) (fun x y=>(x.1,y.1.1,y.1.2.1,y.1.2.2.1)) (fun _ _=>rfl) N (fun _ _=>by kernel_rfl) rfl
end
end
noncomputable section
def o9(N:Nat)(l:List τ0)(e d:Int):Option (Except Int τ14):=
 match P5 N l e d with
 |some z=>some (.error z.1)
 |none=>none
noncomputable abbrev c5b(N:Nat):PF:=d8D fun _ y=>o9 N y.1.1 y.1.2.1 y.1.2.2.1
set_option maxRecDepth 100000 in
theorem c4e{v:Value}{c:Int}{w:World}{X:World->Prop}(h:Calls Tryz.prog 72 #[v] w fun e w'=>e = .returned (.int .i64 c)/\X w'):
  Calls Tryz.prog 136 #[v] w fun e w'=>e = .panicked (b9B B2 c)/\X w':=by
 go_enter Tryz.func136,Tryz.ntmps136
 go_wp2_with (refine h.mono ?_;rintro e w1 ⟨rfl,h1⟩)
 exact⟨rfl,rfl,h1⟩
theorem a5w(N:Nat):SoundP Tryz.prog GW x9 B2 136 (c5b N):=by
 refine⟨Tryz.call136,fun M w g vs x y hG hB hfr=>⟨fun z hz=>?_,fun c hz=>?_⟩⟩
 ·change o9 N y.1.1 y.1.2.1 y.1.2.2.1=_ at hz;unfold o9 at hz;split at hz<;>cases hz
 ·change o9 N y.1.1 y.1.2.1 y.1.2.2.1=_ at hz;unfold o9 at hz;split at hz
  case h_2=>cases hz
  rename_i z hat;cases hz;have hcall:=(b3F N).2 M w g vs x y z hG hB hfr hat;have hl:vs.length=1:=hfr.args.len.symm;obtain⟨v,rfl⟩:=List.length_eq_one_iff.1 hl;refine c4e (X:=fun w'=>ExtX (R6 g) w w'/\Step M w M w') (hcall.mono ?_);rintro e w' ⟨vs',g',rfl,hX,hS,hfr',_,_⟩;have hl':vs'.length=1:=hfr'.args.len.symm;obtain⟨v',rfl⟩:=List.length_eq_one_iff.1 hl';have hv:v' = .int .i64 z.1:=RepD.int (g:=g') hfr'.args.1;subst hv;exact⟨rfl,hX,fun ad u h1 h2=>⟨(hS.1 ad u h1 h2).1,h2⟩,fun b es c h1 h2=>⟨(hS.2 b es c h1 h2).1,h2⟩⟩
end
end Go.Proofs.YtolpmfhiegpohaaGreatDoor
